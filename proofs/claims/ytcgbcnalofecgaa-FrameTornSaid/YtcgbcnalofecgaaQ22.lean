/- A function of the program or a law's row comes to what the Lean function beside it says; no condition beyond those typed. Written by a program of this workplace; Lean checks it. -/
import Derived.Test.YtcgbcnalofecgaaQ0
import Derived.Test.YtcgbcnalofecgaaQ2
import Derived.Test.YtcgbcnalofecgaaQ3
import Derived.Test.YtcgbcnalofecgaaQ21
namespace Go.Proofs.Ytcgbcnalofecgaa.Q
open Go.RowKit Go.Proofs.YtcgbcnalofecgaaW.PrintWords Go.Proofs.YtcgbcnalofecgaaW.PrintLast Go.Proofs.YtcgbcnalofecgaaW.PrintMore
attribute [local go_sem] max2_int min2_int max_two min_two max_three min_three max_four min_four   -- for this text's walks alone
set_option linter.unusedVariables false
set_option linter.unusedSimpArgs false

/-! ### frame_Get: function 23 -/
mutual
def frame_Get.j0 : Nat → List Int → Int → Bool → Tab → Option (List Int × Int × Int)
  | 0, _, _, _, _ => none
  | k + 1, x0, x1, x19, x205000 => if x19 = true then (some (([] : List Int), 0, 2)) else (if 0 ≤ x1 then (if x1 ≤ (x0.length : Int) then (if ((x0.drop (x1 : Int).toNat).length : Int) < 8 then (some (([] : List Int), 0, 8)) else ((frame_numberAt.f (x0.drop (x1 : Int).toNat) 0).bind fun t206 => (if t206 > 60000 then (frame_Get.j1 k x1 (x0.drop (x1 : Int).toNat) t206 true x205000) else (frame_Get.j1 k x1 (x0.drop (x1 : Int).toNat) t206 (decide ((wrap64 (t206)) > (wrap64 (((x0.drop (x1 : Int).toNat).length : Int) - 8)))) x205000)))) else (none)) else (none))
def frame_Get.j1 : Nat → Int → List Int → Int → Bool → Tab → Option (List Int × Int × Int)
  | 0, _, _, _, _, _ => none
  | k + 1, x1, x9, x10, x37, x205000 => if x37 = true then (some (([] : List Int), 0, 8)) else (if 8 ≤ (wrap64 (8 + (wrap64 (x10)))) then (if (wrap64 (8 + (wrap64 (x10)))) ≤ (x9.length : Int) then (if 4 ≤ (x9.length : Int) then ((sum_Of.f k x205000 (x9.take 4)).bind fun t209 => ((sum_On.f k x205000 t209 ((x9.take ((wrap64 (8 + (wrap64 (x10)))) : Int).toNat).drop 8)).bind fun t210 => ((frame_numberAt.f x9 4).bind fun t211 => (if t210 = t211 then ((some (([] : List Int) : List Int)).bind fun y212 => (if y212.length + ((x9.take ((wrap64 (8 + (wrap64 (x10)))) : Int).toNat).drop 8).length < 140737488355328 then (some ((y212 ++ ((x9.take ((wrap64 (8 + (wrap64 (x10)))) : Int).toNat).drop 8)), wrap64 ((wrap64 (x1 + 8)) + (wrap64 (x10))), 0)) else (none))) else (some (([] : List Int), 0, 8)))))) else (none)) else (none)) else (none))
end
def frame_Get.f (k : Nat) (l0 : List Int) (a1 : Int) (a2 : Tab) : Option (List Int × Int × Int) := if a1 < 0 then (frame_Get.j0 k l0 a1 true a2) else (frame_Get.j0 k l0 a1 (decide (a1 > (l0.length : Int))) a2)
theorem frame_Get.mono_l : ∀ k, (∀ y0 y1 y2 y3, LeO (frame_Get.j0 k y0 y1 y2 y3) (frame_Get.j0 (k + 1) y0 y1 y2 y3)) ∧ (∀ y0 y1 y2 y3 y4, LeO (frame_Get.j1 k y0 y1 y2 y3 y4) (frame_Get.j1 (k + 1) y0 y1 y2 y3 y4))
  | 0 => ⟨fun _ _ _ _ r h => by simp [frame_Get.j0] at h, fun _ _ _ _ _ r h => by simp [frame_Get.j1] at h⟩
  | k + 1 => by
    obtain ⟨ih0, ih1⟩ := frame_Get.mono_l k
    refine ⟨?_, ?_⟩
    · intro y0 y1 y2 y3
      unfold frame_Get.j0
      repeat' first
      | (with_reducible exact ih0 _ _ _ _)
      | (with_reducible exact ih1 _ _ _ _ _)
      | (with_reducible exact sum_Of.mono _ _ _)
      | (with_reducible exact sum_On.mono _ _ _ _)
      | (with_reducible exact LeO.refl _)
      | (with_reducible exact LeO.none _)
      | (with_reducible refine LeO.ite ?_ ?_)
      | (with_reducible refine LeO.bind ?_ (fun _ => ?_))
      | exact ih0 _ _ _ _
      | exact ih1 _ _ _ _ _
      | exact sum_Of.mono _ _ _
      | exact sum_On.mono _ _ _ _
      | exact LeO.none _
      | refine LeO.ite ?_ ?_
      | refine LeO.bind ?_ (fun _ => ?_)
    · intro y0 y1 y2 y3 y4
      unfold frame_Get.j1
      repeat' first
      | (with_reducible exact ih0 _ _ _ _)
      | (with_reducible exact ih1 _ _ _ _ _)
      | (with_reducible exact sum_Of.mono _ _ _)
      | (with_reducible exact sum_On.mono _ _ _ _)
      | (with_reducible exact LeO.refl _)
      | (with_reducible exact LeO.none _)
      | (with_reducible refine LeO.ite ?_ ?_)
      | (with_reducible refine LeO.bind ?_ (fun _ => ?_))
      | exact ih0 _ _ _ _
      | exact ih1 _ _ _ _ _
      | exact sum_Of.mono _ _ _
      | exact sum_On.mono _ _ _ _
      | exact LeO.none _
      | refine LeO.ite ?_ ?_
      | refine LeO.bind ?_ (fun _ => ?_)
theorem frame_Get.mono : ∀ a0 a1 a2 k, LeO (frame_Get.f k a0 a1 a2) (frame_Get.f (k + 1) a0 a1 a2) := by
  intro a0 a1 a2 k
  obtain ⟨ih0, ih1⟩ := frame_Get.mono_l k
  unfold frame_Get.f
  repeat' first
      | (with_reducible exact ih0 _ _ _ _)
      | (with_reducible exact ih1 _ _ _ _ _)
      | (with_reducible exact sum_Of.mono _ _ _)
      | (with_reducible exact sum_On.mono _ _ _ _)
      | (with_reducible exact LeO.refl _)
      | (with_reducible exact LeO.none _)
      | (with_reducible refine LeO.ite ?_ ?_)
      | (with_reducible refine LeO.bind ?_ (fun _ => ?_))
      | exact ih0 _ _ _ _
      | exact ih1 _ _ _ _ _
      | exact sum_Of.mono _ _ _
      | exact sum_On.mono _ _ _ _
      | exact LeO.none _
      | refine LeO.ite ?_ ?_
      | refine LeO.bind ?_ (fun _ => ?_)
def frame_Get.T10 : Bool × List (List Nat × List Nat) := (true, [([], []), ([], []), ([], []), ([2], [2]), ([1, 3], [1, 3]), ([], []), ([0, 4, 5, 4], [0, 4, 5]), ([], []), ([7, 6], [7]), ([6, 8], [6, 8])])
def frame_Get.B10 : List Nat := [0, 0, 0, 4, 14, 0, 63, 0, 255, 511]
theorem frame_Get.tab10 : rtab .any (opsOf Try.f23 10) = frame_Get.T10 := by kernel_rfl
theorem frame_Get.bits10 : waitsOk frame_Get.T10.2 frame_Get.B10 = true := by kernel_rfl
set_option maxHeartbeats 8000000 in
set_option maxRecDepth 100000 in
theorem frame_Get.calls (k : Nat) (A0 : Option Addr) (c0 : Nat) (l0 : List Int) (a1 : Int) (a2 : Tab) (r1 : List Int) (r2 : Int) (r3 : Int) (w : World) (hr0 : Kd.C (Kd.int .u8) w A0 l0.length l0) (hc0 : l0.length ≤ c0) (h : frame_Get.f k l0 a1 a2 = some (r1, r2, r3)) :
    Calls Try.prog 23 #[.slice A0 l0.length c0, .int .i64 a1, .agg (tabC a2)] w fun e w' => ∃ v0_ : Value, e = .returned (.tuple #[v0_, .int .i64 r2, .int .i64 r3]) ∧ Kd.R (Kd.int .u8) 5 w' w.heap.size (fun _ => True) v0_ r1 ∧ Below w.heap.size w w' := by
  have HR0 := Aside0.mk hr0
  have HC0 := Aside0.mk hc0
  clear hr0 hc0
  have HB := Aside0.mk (Below.refl w.heap.size w)
  have H : (if a1 < 0 then (frame_Get.j0 k l0 a1 true a2) else (frame_Get.j0 k l0 a1 (decide (a1 > (l0.length : Int))) a2)) = some (r1, r2, r3) := h
  clear h
  have HC4 := Aside0.mk H
  clear H
  go_enter Try.func23, Try.ntmps23
  go_upto_region 1 with (first | ((with_reducible refine gate_dst (N := 5) rfl ?_); (try (refine gate_guard (by rfl) ?_; dsimp only)); refine box_event ?hg (N := 5) ?hd (cs := tabC a2) (t := 24) ?hr ?_; (case hd => rfl); (case hg => rfl); (case hr => first | (go_simp; done) | (go_simp; rfl)); intro gb204 hg w5 hbox hb; have n0_ := Aside0.mk (below_step (by repeat (first | (with_reducible first | exact HB.out | apply below_alloc | apply pw_below_drewN | apply below_drew1) | exact HB.out)) hb); have n1_ := Aside0.mk (hbox); have n2_ := Aside0.mk ((by rw [hg]; exact (below_size (by repeat (first | (with_reducible first | exact HB.out | apply below_alloc | apply pw_below_drewN | apply below_drew1) | exact HB.out))) : w.heap.size ≤ gb204)); have n3_ := Aside0.mk ((by rw [hg]; exact (below_size (by repeat (first | (with_reducible first | exact HB.out | apply below_alloc | apply pw_below_drewN | apply below_drew1) | exact HB.out))) : w.heap.size ≤ gb204)); clear HB; have HB := n0_; have BK204 := n1_; have GW204 := n2_; have GE204 := n3_; clear n0_ n1_ n2_ n3_; clear hb hbox hg))
  (try simp only [Act.put, List.setIfInBounds_toArray, List.set_cons_zero, List.set_cons_succ])
  go_cut [19] (fun v19 wc => ∃ (kq : Nat) (x19_3 : Bool), v19 = .bool x19_3 ∧ Aside0 (frame_Get.j0 kq l0 a1 x19_3 a2 = some (r1, r2, r3)) ∧ Aside0 (kq ≤ k) ∧ Aside0 (wc.heap[gb204]? = some (.cells (tabC a2) 24 (0, 0))) ∧ Aside0 (Below w.heap.size w wc))
  case first =>
    have H := HC4.out
    clear HC4
    by_cases c6 : a1 < 0
    · rw [if_pos c6] at H
      have c6b0 : decide (a1 < 0) = true := decide_eq_true c6
      clear c6
      (first | rw [c6b0] | (simp only [i64_w, i32_w]; rw [c6b0]) | skip)
      have H' := Aside0.mk H
      clear H
      go_wp2
      go_meet
      case rel => exact ⟨_, (true), (by first | rfl | (simp; done) | (simp [*]; done)), H', ⟨by first | omega | exact Nat.le_refl _⟩, ⟨by (with_reducible repeat (first | refine blk_drewN ?_ _ | refine blk_drew ?_ | refine blk_alloc ?_ _)); exact BK204.out⟩, ⟨by repeat (first | (with_reducible first | exact HB.out | apply below_alloc | apply pw_below_drewN | apply below_drew1 | refine below_set ?_ GE204.out) | exact HB.out)⟩⟩
    · rw [if_neg c6] at H
      have c6b0 : decide (a1 < 0) = false := decide_eq_false c6
      clear c6
      (first | rw [c6b0] | (simp only [i64_w, i32_w]; rw [c6b0]) | skip)
      have H' := Aside0.mk H
      clear H
      go_wp2
      go_meet
      case rel => exact ⟨_, (decide (a1 > (l0.length : Int))), (by first | rfl | (simp; done) | (simp [*]; done)), H', ⟨by first | omega | exact Nat.le_refl _⟩, ⟨by (with_reducible repeat (first | refine blk_drewN ?_ _ | refine blk_drew ?_ | refine blk_alloc ?_ _)); exact BK204.out⟩, ⟨by repeat (first | (with_reducible first | exact HB.out | apply below_alloc | apply pw_below_drewN | apply below_drew1 | refine below_set ?_ GE204.out) | exact HB.out)⟩⟩
  case rest =>
    clear HC4
    try clear c2
    try clear p2
    try clear c6
    try clear c6b0
    obtain ⟨kq, x19_3, rfl, HA, HJ3, BK204, HB⟩ := hcut
    cases kq with
    | zero => exact absurd HA.out (by simp [frame_Get.j0])
    | succ kj3 =>
      have H := HA.out
      clear HA
      simp only [frame_Get.j0] at H
      by_cases c7 : x19_3 = true
      · subst c7
        have H1 : (some (([] : List Int), 0, 2)) = some (r1, r2, r3) := by rw [if_pos rfl] at H; exact H
        clear H
        have H := H1
        clear H1
        simp only [Option.some.injEq, Prod.mk.injEq] at H
        obtain ⟨rfl, rfl, rfl⟩ := H
        go_wp2
        go_ret3
        exact ⟨_, by first | rfl | (simp [errW_none, errW_some] <;> rfl) | (simp [*, errW_none, errW_some] <;> rfl), by first | exact Kd.R_nil _ _ _ _ _ | exact Kd.N_nil _ _ _ _ _ | exact Kd.V_nil _ _ _ _ _ | exact Kd.Q_nil _ _ _ _ _ | exact Kd.S_nil _ _ _ _ _, by repeat (first | (with_reducible first | exact HB.out | apply below_alloc | apply pw_below_drewN | apply below_drew1 | refine below_set ?_ GE204.out) | exact HB.out)⟩
      · replace c7 := Bool.eq_false_iff.mpr c7
        subst c7
        have H1 : (if 0 ≤ a1 then (if a1 ≤ (l0.length : Int) then (if ((l0.drop (a1 : Int).toNat).length : Int) < 8 then (some (([] : List Int), 0, 8)) else ((frame_numberAt.f (l0.drop (a1 : Int).toNat) 0).bind fun t206 => (if t206 > 60000 then (frame_Get.j1 kj3 a1 (l0.drop (a1 : Int).toNat) t206 true a2) else (frame_Get.j1 kj3 a1 (l0.drop (a1 : Int).toNat) t206 (decide ((wrap64 (t206)) > (wrap64 (((l0.drop (a1 : Int).toNat).length : Int) - 8)))) a2)))) else (none)) else (none)) = some (r1, r2, r3) := by rw [if_neg (show ¬ (false = true) by decide)] at H; exact H
        clear H
        have H := H1
        clear H1
        by_cases c8 : 0 ≤ a1
        · rw [if_pos c8] at H
          have c8b0 := eq_true c8
          have c8b1 : decide (0 ≤ a1) = true := decide_eq_true c8
          clear c8
          by_cases c9 : a1 ≤ (l0.length : Int)
          · rw [if_pos c9] at H
            have c9b0 := eq_true c9
            have c9b1 : decide (a1 ≤ (l0.length : Int)) = true := decide_eq_true c9
            clear c9
            by_cases c10 : ((l0.drop (a1 : Int).toNat).length : Int) < 8
            · rw [if_pos c10] at H
              have c10b0 : decide (((l0.drop (a1 : Int).toNat).length : Int) < 8) = true := decide_eq_true c10
              try (have c10b0d := c10b0; simp only [List.length_drop, List.length_take] at c10b0d)
              have c10b1 : decide ((l0.drop (a1 : Int).toNat).length < 8) = true := decide_eq_true (by omega)
              try (have c10b1d := c10b1; simp only [List.length_drop, List.length_take] at c10b1d)
              clear c10
              simp only [Option.some.injEq, Prod.mk.injEq] at H
              obtain ⟨rfl, rfl, rfl⟩ := H
              obtain ⟨i011, hi011, _, hsz11, _⟩ := info_parts info5
              obtain ⟨A11, hcut11, hA11, hC11⟩ := print_drop_of (P := Try.prog) (Value.int .u8) 0 25 5 .i64 Try.underlying25 hi011 hsz11 A0 c0 l0 a1 (of_decide_eq_true (by first | (with_reducible assumption) | assumption)) (of_decide_eq_true (by first | (with_reducible assumption) | assumption)) HC0.out
              try (have hcut11d := hcut11; simp only [List.length_drop, List.length_take] at hcut11d)
              have HR205 := Aside0.mk (Kd.C_of_reads (h1 := fun _ => rfl) (hA11 _ (Kd.reads_of_C HR0.out)))
              have HC205 := Aside0.mk hC11
              clear hA11 hC11 hi011 hsz11
              go_wp2
              go_ret3
              exact ⟨_, by first | rfl | (simp [errW_none, errW_some] <;> rfl) | (simp [*, errW_none, errW_some] <;> rfl), by first | exact Kd.R_nil _ _ _ _ _ | exact Kd.N_nil _ _ _ _ _ | exact Kd.V_nil _ _ _ _ _ | exact Kd.Q_nil _ _ _ _ _ | exact Kd.S_nil _ _ _ _ _, by repeat (first | (with_reducible first | exact HB.out | apply below_alloc | apply pw_below_drewN | apply below_drew1 | refine below_set ?_ GE204.out) | exact HB.out)⟩
            · rw [if_neg c10] at H
              have c10b0 : decide (((l0.drop (a1 : Int).toNat).length : Int) < 8) = false := decide_eq_false c10
              try (have c10b0d := c10b0; simp only [List.length_drop, List.length_take] at c10b0d)
              have c10b1 : decide ((l0.drop (a1 : Int).toNat).length < 8) = false := decide_eq_false (by omega)
              try (have c10b1d := c10b1; simp only [List.length_drop, List.length_take] at c10b1d)
              clear c10
              replace H := Option.bind_eq_some_iff.mp H
              obtain ⟨t206, A120, H⟩ := H
              replace H : (if t206 > 60000 then (frame_Get.j1 kj3 a1 (l0.drop (a1 : Int).toNat) t206 true a2) else (frame_Get.j1 kj3 a1 (l0.drop (a1 : Int).toNat) t206 (decide ((wrap64 (t206)) > (wrap64 (((l0.drop (a1 : Int).toNat).length : Int) - 8)))) a2)) = some (r1, r2, r3) := H
              have A12 := Aside0.mk A120
              clear A120
              have HC13 := Aside0.mk H
              clear H
              obtain ⟨i014, hi014, _, hsz14, _⟩ := info_parts info5
              obtain ⟨A14, hcut14, hA14, hC14⟩ := print_drop_of (P := Try.prog) (Value.int .u8) 0 25 5 .i64 Try.underlying25 hi014 hsz14 A0 c0 l0 a1 (of_decide_eq_true (by first | (with_reducible assumption) | assumption)) (of_decide_eq_true (by first | (with_reducible assumption) | assumption)) HC0.out
              try (have hcut14d := hcut14; simp only [List.length_drop, List.length_take] at hcut14d)
              have HR205 := Aside0.mk (Kd.C_of_reads (h1 := fun _ => rfl) (hA14 _ (Kd.reads_of_C HR0.out)))
              have HC205 := Aside0.mk hC14
              clear hA14 hC14 hi014 hsz14
              go_upto_region 7 with (first | ((with_reducible refine gate_callee (f := 32) rfl ?_); refine goesL_ (some 27) rfl rfl Try.func32 (by kernel_rfl) rfl #[.slice A14 (l0.drop (a1 : Int).toNat).length (c0 - a1.toNat), .int .i64 0] rfl (by (try simp only [List.map_toArray, List.map_cons, List.map_nil]); first | done | (rw [show (l0.drop (a1 : Int).toNat).length = (l0.length - a1.toNat) from List.length_drop] <;> rfl) | rfl | (simp only [List.length_drop, List.length_take]; rfl)) ?_; (with_reducible refine (frame_numberAt.calls _ _ (l0.drop (a1 : Int).toNat) 0 t206 _ ?side1 ?side2 A12.out).mono ?_); (case side1 => repeat (first | exact (Kd.C_below HR205.out HB.out) | (with_reducible refine Kd.C_alloc ?_ _) | (with_reducible refine Kd.C_drewN ?_ _) | (with_reducible refine Kd.C_drew ?_))); (case side2 => exact HC205.out); rintro e w' ⟨rfl, ⟨nd, rfl⟩⟩; refine ⟨_, rfl, ?_⟩))
              (try simp only [Act.put, List.setIfInBounds_toArray, List.set_cons_zero, List.set_cons_succ])
              go_cut [37] (fun v37 wc => ∃ (kq : Nat) (x37_12 : Bool), v37 = .bool x37_12 ∧ Aside0 (frame_Get.j1 kq a1 (l0.drop (a1 : Int).toNat) t206 x37_12 a2 = some (r1, r2, r3)) ∧ Aside0 (kq ≤ kj3) ∧ Aside0 (wc.heap[gb204]? = some (.cells (tabC a2) 24 (0, 0))) ∧ Aside0 (Below w.heap.size w wc))
              case first =>
                have H := HC13.out
                clear HC13
                by_cases c15 : t206 > 60000
                · rw [if_pos c15] at H
                  have c15b0 : decide (60000 < t206) = true := decide_eq_true c15
                  clear c15
                  (first | rw [c15b0] | (simp only [i64_w, i32_w]; rw [c15b0]) | skip)
                  have H' := Aside0.mk H
                  clear H
                  go_wp2
                  go_meet
                  case rel => exact ⟨_, (true), (by first | rfl | (simp; done) | (simp [*]; done)), H', ⟨by have := HJ3.out; first | omega | exact Nat.le_refl _⟩, ⟨by (with_reducible repeat (first | refine blk_drewN ?_ _ | refine blk_drew ?_ | refine blk_alloc ?_ _)); exact BK204.out⟩, ⟨by repeat (first | (with_reducible first | exact HB.out | apply below_alloc | apply pw_below_drewN | apply below_drew1 | refine below_set ?_ GE204.out) | exact HB.out)⟩⟩
                · rw [if_neg c15] at H
                  have c15b0 : decide (60000 < t206) = false := decide_eq_false c15
                  clear c15
                  (first | rw [c15b0] | (simp only [i64_w, i32_w]; rw [c15b0]) | skip)
                  have H' := Aside0.mk H
                  clear H
                  go_wp2
                  go_meet
                  case rel => exact ⟨_, (decide ((wrap64 (t206)) > (wrap64 (((l0.drop (a1 : Int).toNat).length : Int) - 8)))), (by first | rfl | (simp; done) | (simp [*]; done)), H', ⟨by have := HJ3.out; first | omega | exact Nat.le_refl _⟩, ⟨by (with_reducible repeat (first | refine blk_drewN ?_ _ | refine blk_drew ?_ | refine blk_alloc ?_ _)); exact BK204.out⟩, ⟨by repeat (first | (with_reducible first | exact HB.out | apply below_alloc | apply pw_below_drewN | apply below_drew1 | refine below_set ?_ GE204.out) | exact HB.out)⟩⟩
              case rest =>
                clear HC13
                try clear c1
                try clear c2
                try clear p2
                try clear c3
                try clear c6
                try clear c6b0
                try clear p6
                try clear c7
                try clear c8
                try clear c8b0
                try clear c8b1
                try clear c9
                try clear c9b0
                try clear c9b1
                try clear c10
                try clear c10b0
                try clear c10b1
                try clear c15
                try clear c15b0
                try clear p2
                obtain ⟨kq, x37_12, rfl, HA, HJ12, BK204, HB⟩ := hcut
                cases kq with
                | zero => exact absurd HA.out (by simp [frame_Get.j1])
                | succ kj12 =>
                  have H := HA.out
                  clear HA
                  simp only [frame_Get.j1] at H
                  by_cases c16 : x37_12 = true
                  · subst c16
                    have H1 : (some (([] : List Int), 0, 8)) = some (r1, r2, r3) := by rw [if_pos rfl] at H; exact H
                    clear H
                    have H := H1
                    clear H1
                    simp only [Option.some.injEq, Prod.mk.injEq] at H
                    obtain ⟨rfl, rfl, rfl⟩ := H
                    go_wp2
                    go_ret3
                    exact ⟨_, by first | rfl | (simp [errW_none, errW_some] <;> rfl) | (simp [*, errW_none, errW_some] <;> rfl), by first | exact Kd.R_nil _ _ _ _ _ | exact Kd.N_nil _ _ _ _ _ | exact Kd.V_nil _ _ _ _ _ | exact Kd.Q_nil _ _ _ _ _ | exact Kd.S_nil _ _ _ _ _, by repeat (first | (with_reducible first | exact HB.out | apply below_alloc | apply pw_below_drewN | apply below_drew1 | refine below_set ?_ GE204.out) | exact HB.out)⟩
                  · replace c16 := Bool.eq_false_iff.mpr c16
                    subst c16
                    have H1 : (if 8 ≤ (wrap64 (8 + (wrap64 (t206)))) then (if (wrap64 (8 + (wrap64 (t206)))) ≤ ((l0.drop (a1 : Int).toNat).length : Int) then (if 4 ≤ ((l0.drop (a1 : Int).toNat).length : Int) then ((sum_Of.f kj12 a2 ((l0.drop (a1 : Int).toNat).take 4)).bind fun t209 => ((sum_On.f kj12 a2 t209 (((l0.drop (a1 : Int).toNat).take ((wrap64 (8 + (wrap64 (t206)))) : Int).toNat).drop 8)).bind fun t210 => ((frame_numberAt.f (l0.drop (a1 : Int).toNat) 4).bind fun t211 => (if t210 = t211 then ((some (([] : List Int) : List Int)).bind fun y212 => (if y212.length + (((l0.drop (a1 : Int).toNat).take ((wrap64 (8 + (wrap64 (t206)))) : Int).toNat).drop 8).length < 140737488355328 then (some ((y212 ++ (((l0.drop (a1 : Int).toNat).take ((wrap64 (8 + (wrap64 (t206)))) : Int).toNat).drop 8)), wrap64 ((wrap64 (a1 + 8)) + (wrap64 (t206))), 0)) else (none))) else (some (([] : List Int), 0, 8)))))) else (none)) else (none)) else (none)) = some (r1, r2, r3) := by rw [if_neg (show ¬ (false = true) by decide)] at H; exact H
                    clear H
                    have H := H1
                    clear H1
                    by_cases c17 : 8 ≤ (wrap64 (8 + (wrap64 (t206))))
                    · rw [if_pos c17] at H
                      have c17b0 := eq_true c17
                      have c17b1 : decide (8 ≤ (wrap64 (8 + (wrap64 (t206))))) = true := decide_eq_true c17
                      by_cases c18 : (wrap64 (8 + (wrap64 (t206)))) ≤ ((l0.drop (a1 : Int).toNat).length : Int)
                      · rw [if_pos c18] at H
                        have c18b0 := eq_true c18
                        have c18b1 : decide ((wrap64 (8 + (wrap64 (t206)))) ≤ ((l0.drop (a1 : Int).toNat).length : Int)) = true := decide_eq_true c18
                        try (have c18b1d := c18b1; simp only [List.length_drop, List.length_take] at c18b1d)
                        by_cases c19 : 4 ≤ ((l0.drop (a1 : Int).toNat).length : Int)
                        · rw [if_pos c19] at H
                          have c19b0 := eq_true c19
                          have c19b1 : decide (4 ≤ ((l0.drop (a1 : Int).toNat).length : Int)) = true := decide_eq_true c19
                          try (have c19b1d := c19b1; simp only [List.length_drop, List.length_take] at c19b1d)
                          clear c19
                          replace H := Option.bind_eq_some_iff.mp H
                          obtain ⟨t209, A200, H⟩ := H
                          replace H : ((sum_On.f kj12 a2 t209 (((l0.drop (a1 : Int).toNat).take ((wrap64 (8 + (wrap64 (t206)))) : Int).toNat).drop 8)).bind fun t210 => ((frame_numberAt.f (l0.drop (a1 : Int).toNat) 4).bind fun t211 => (if t210 = t211 then ((some (([] : List Int) : List Int)).bind fun y212 => (if y212.length + (((l0.drop (a1 : Int).toNat).take ((wrap64 (8 + (wrap64 (t206)))) : Int).toNat).drop 8).length < 140737488355328 then (some ((y212 ++ (((l0.drop (a1 : Int).toNat).take ((wrap64 (8 + (wrap64 (t206)))) : Int).toNat).drop 8)), wrap64 ((wrap64 (a1 + 8)) + (wrap64 (t206))), 0)) else (none))) else (some (([] : List Int), 0, 8))))) = some (r1, r2, r3) := H
                          have A20 := Aside0.mk A200
                          clear A200
                          replace H := Option.bind_eq_some_iff.mp H
                          obtain ⟨t210, A210, H⟩ := H
                          replace H : ((frame_numberAt.f (l0.drop (a1 : Int).toNat) 4).bind fun t211 => (if t210 = t211 then ((some (([] : List Int) : List Int)).bind fun y212 => (if y212.length + (((l0.drop (a1 : Int).toNat).take ((wrap64 (8 + (wrap64 (t206)))) : Int).toNat).drop 8).length < 140737488355328 then (some ((y212 ++ (((l0.drop (a1 : Int).toNat).take ((wrap64 (8 + (wrap64 (t206)))) : Int).toNat).drop 8)), wrap64 ((wrap64 (a1 + 8)) + (wrap64 (t206))), 0)) else (none))) else (some (([] : List Int), 0, 8)))) = some (r1, r2, r3) := H
                          have A21 := Aside0.mk A210
                          clear A210
                          replace H := Option.bind_eq_some_iff.mp H
                          obtain ⟨t211, A220, H⟩ := H
                          replace H : (if t210 = t211 then ((some (([] : List Int) : List Int)).bind fun y212 => (if y212.length + (((l0.drop (a1 : Int).toNat).take ((wrap64 (8 + (wrap64 (t206)))) : Int).toNat).drop 8).length < 140737488355328 then (some ((y212 ++ (((l0.drop (a1 : Int).toNat).take ((wrap64 (8 + (wrap64 (t206)))) : Int).toNat).drop 8)), wrap64 ((wrap64 (a1 + 8)) + (wrap64 (t206))), 0)) else (none))) else (some (([] : List Int), 0, 8))) = some (r1, r2, r3) := H
                          have A22 := Aside0.mk A220
                          clear A220
                          by_cases c23 : t210 = t211
                          · rw [if_pos c23] at H
                            have c23b0 : (t210 == t211) = true := beq_iff_eq.mpr c23
                            have c23b1 : (t210 != t211) = false := bne_eq_false_iff_eq.mpr c23
                            clear c23
                            obtain ⟨y212, hy212⟩ : ∃ y_ : List Int, y_ = (([] : List Int)) := ⟨_, rfl⟩
                            replace H : (if y212.length + (((l0.drop (a1 : Int).toNat).take ((wrap64 (8 + (wrap64 (t206)))) : Int).toNat).drop 8).length < 140737488355328 then (some ((y212 ++ (((l0.drop (a1 : Int).toNat).take ((wrap64 (8 + (wrap64 (t206)))) : Int).toNat).drop 8)), wrap64 ((wrap64 (a1 + 8)) + (wrap64 (t206))), 0)) else (none)) = some (r1, r2, r3) := by first | (rw [hy212]; with_reducible exact H) | (have H2_ := (Option.bind_some _ _).symm.trans H; rw [hy212]; with_reducible exact H2_) | (have H2_ := (Option.bind_some _ _).symm.trans H; with_reducible exact H2_) | with_reducible exact H | (rw [hy212]; exact H) | exact H
                            have Ny212 := Aside0.mk hy212
                            clear hy212
                            by_cases c24 : y212.length + (((l0.drop (a1 : Int).toNat).take ((wrap64 (8 + (wrap64 (t206)))) : Int).toNat).drop 8).length < 140737488355328
                            · rw [if_pos c24] at H
                              have LMc24 := Aside0.mk c24
                              clear c24
                              obtain ⟨y215, hy215⟩ : ∃ y_ : List Int, y_ = (y212 ++ (((l0.drop (a1 : Int).toNat).take ((wrap64 (8 + (wrap64 (t206)))) : Int).toNat).drop 8)) := ⟨_, rfl⟩
                              replace H : (some (y215, wrap64 ((wrap64 (a1 + 8)) + (wrap64 (t206))), 0)) = some (r1, r2, r3) := by first | (rw [hy215]; with_reducible exact H) | (have H2_ := (Option.bind_some _ _).symm.trans H; rw [hy215]; with_reducible exact H2_) | (have H2_ := (Option.bind_some _ _).symm.trans H; with_reducible exact H2_) | with_reducible exact H | (rw [hy215]; exact H) | exact H
                              have Ny215 := Aside0.mk hy215
                              clear hy215
                              simp only [Option.some.injEq, Prod.mk.injEq] at H
                              obtain ⟨rfl, rfl, rfl⟩ := H
                              obtain ⟨i025, hi025, _, hsz25, _⟩ := info_parts info5
                              obtain ⟨A25, hcut25, hA25, hC25⟩ := print_mid_of (P := Try.prog) (Value.int .u8) 0 25 5 .i64 .i64 Try.underlying25 hi025 hsz25 A14 (c0 - a1.toNat) (l0.drop (a1 : Int).toNat) 8 (wrap64 (8 + (wrap64 (t206)))) (by omega) (by first | omega | exact of_decide_eq_true (by first | (with_reducible assumption) | assumption)) (of_decide_eq_true (by first | (with_reducible assumption) | assumption)) HC205.out
                              try (have hcut25d := hcut25; simp only [List.length_drop, List.length_take] at hcut25d)
                              have HR207 := Aside0.mk (Kd.C_of_reads (h1 := fun _ => rfl) (hA25 _ (Kd.reads_of_C HR205.out)))
                              have HC207 := Aside0.mk hC25
                              clear hA25 hC25 hi025 hsz25
                              try go_wp2
                              have n0_ := Aside0.mk (blk_drew BK204.out)
                              have n1_ := Aside0.mk (below_drew1 HB.out)
                              clear BK204
                              clear HB
                              have BK204 := n0_
                              have HB := n1_
                              clear n0_ n1_
                              obtain ⟨i027, hi027, _, hsz27, _⟩ := info_parts info5
                              obtain ⟨hcut27, hA27, hC27⟩ := print_take_of (P := Try.prog) (Value.int .u8) 0 25 5 .i64 Try.underlying25 hi027 hsz27 A14 (c0 - a1.toNat) (l0.drop (a1 : Int).toNat) 4 (by omega) (of_decide_eq_true (by first | (with_reducible assumption) | assumption)) HC205.out
                              try (have hcut27d := hcut27; simp only [List.length_drop, List.length_take] at hcut27d)
                              have HR208 := Aside0.mk (Kd.C_of_reads (h1 := fun _ => rfl) (hA27 _ (Kd.reads_of_C HR205.out)))
                              have HC208 := Aside0.mk hC27
                              clear hA27 hC27 hi027 hsz27
                              refine start_ (n := 10) (S := fun w' => (Instr.loadAt 24 (.pointer (some ⟨gb204, 0, none⟩))).run Try.prog w' = .ok (.agg (tabC a2)) w') (ds := []) #[false, false, false, false, false, false, false, false, false, false] (by kernel_rfl) rfl rfl (tab_loadAt Try.underlying24 (show (Try.prog.info? 24).map (·.size) = some 256 from by kernel_rfl) BK204.out) (fun hHeld => ?_); refine with_tabW frame_Get.tab10 frame_Get.bits10 (fun HT_ HW_ => ?_)
                              generalize wc.drew = w26 at BK204 HB HR208 hHeld ⊢
                              refine pure_ (i := 2) (N := some 45) (v := ?_) (a' := ?_) #[false, false, true, false, false, false, false, false, false, false] rfl rfl (any_of HT_.out (by kernel_rfl)) (fun _ _ _ h => h) (Or.inl ⟨by rfl, ?_⟩) ?_ ?_
                              rotate_left
                              · intro w'
                                go_simp
                                with_reducible rfl
                              rotate_left
                              · simp only [Act.put, List.setIfInBounds_toArray, List.set_cons_zero, List.set_cons_succ, i64_w, i32_w]
                                rfl
                              refine pure_ (i := 3) (N := some 46) (v := ?_) (a' := ?_) #[false, false, true, true, false, false, false, false, false, false] rfl rfl (any_of HT_.out (by kernel_rfl)) (fun _ _ _ h => h) (Or.inl ⟨by rfl, ?_⟩) ?_ ?_
                              rotate_left
                              · intro w'
                                go_simp
                                with_reducible rfl
                              rotate_left
                              · simp only [Act.put, List.setIfInBounds_toArray, List.set_cons_zero, List.set_cons_succ, i64_w, i32_w]
                                rfl
                              refine pure_ (i := 5) (N := some 48) (v := ?_) (a' := ?_) #[false, false, true, true, false, true, false, false, false, false] rfl rfl (any_of HT_.out (by kernel_rfl)) (fun _ _ _ h => h) (Or.inl ⟨by rfl, ?_⟩) ?_ ?_
                              rotate_left
                              · intro w'
                                go_simp
                                with_reducible rfl
                              rotate_left
                              · simp only [Act.put, List.setIfInBounds_toArray, List.set_cons_zero, List.set_cons_succ, i64_w, i32_w]
                                rfl
                              refine pure_ (i := 7) (N := some 50) (v := ?_) (a' := ?_) #[false, false, true, true, false, true, false, true, false, false] rfl rfl (any_of HT_.out (by kernel_rfl)) (fun _ _ _ h => h) (Or.inl ⟨by rfl, ?_⟩) ?_ ?_
                              rotate_left
                              · intro w'
                                go_simp
                                with_reducible rfl
                              rotate_left
                              · simp only [Act.put, List.setIfInBounds_toArray, List.set_cons_zero, List.set_cons_succ, i64_w, i32_w]
                                rfl
                              refine take_ (i := 0) (N := some 43) (v := ?_) (a' := ?_) #[true, false, true, true, false, true, false, true, false, false] rfl rfl (take_ofW HT_.out HW_.out (by kernel_rfl)) (fun _ _ _ h => h) (Or.inl ⟨by rfl, ?_⟩) hHeld ?_ ?_
                              rotate_left
                              · intro w' s0
                                exact tab_exec rfl rfl (by assumption)
                              rotate_left
                              · simp only [Act.put, List.setIfInBounds_toArray, List.set_cons_zero, List.set_cons_succ, i64_w, i32_w]
                                rfl
                              refine take_ (i := 1) (N := some 44) (v := ?_) (a' := ?_) #[true, true, true, true, false, true, false, true, false, false] rfl rfl (take_ofW HT_.out HW_.out (by kernel_rfl)) (fun _ _ _ h => h) (Or.inl ⟨by rfl, ?_⟩) hHeld ?_ ?_
                              rotate_left
                              · intro w' s0
                                exact tab_exec rfl rfl (by assumption)
                              rotate_left
                              · simp only [Act.put, List.setIfInBounds_toArray, List.set_cons_zero, List.set_cons_succ, i64_w, i32_w]
                                rfl
                              refine one_ (i := 4) (N := some 47) #[true, true, true, true, true, true, false, true, false, false] rfl rfl (one_of HT_.out (by kernel_rfl)) (by decide) (fun K hK => ?_)
                              refine goes_ Try.func11 (by kernel_rfl) rfl #[.agg (tabC a2), .slice A14 ((l0.drop (a1 : Int).toNat).take 4).length (c0 - a1.toNat)] (by rfl) rfl rfl (by (try simp only [List.map_toArray, List.map_cons, List.map_nil]); first | done | (rw [show ((l0.drop (a1 : Int).toNat).take 4).length = 4 from (by rw [List.length_take]; have h_ : (4 : Int) ≤ ((l0.drop (a1 : Int).toNat).length : Int) := of_decide_eq_true (by first | (with_reducible assumption) | assumption); omega)] <;> rfl) | rfl | (simp only [List.length_drop, List.length_take]; rfl)) ?_
                              with_reducible refine (sum_Of.calls kj12 a2 _ _ ((l0.drop (a1 : Int).toNat).take 4) t209 _ ?side1 ?side2 A20.out).mono ?_
                              (case side1 => repeat (first | exact (Kd.C_below HR208.out HB.out) | (with_reducible refine Kd.C_alloc ?_ _) | (with_reducible refine Kd.C_drewN ?_ _) | (with_reducible refine Kd.C_drew ?_)))
                              (case side2 => exact HC208.out)
                              rintro e w28 ⟨rfl, hb⟩
                              refine ⟨_, rfl, ?_⟩
                              have n0_ := Aside0.mk (blk_below (g := gb204) (o := .cells (tabC a2) 24 (0, 0)) (by (with_reducible repeat (first | refine blk_drewN ?_ _ | refine blk_drew ?_ | refine blk_alloc ?_ _)); exact BK204.out) hb)
                              have n1_ := Aside0.mk (below_step (by repeat (first | (with_reducible first | exact HB.out | apply below_alloc | apply pw_below_drewN | apply below_drew1 | refine below_set ?_ GE204.out) | exact HB.out)) hb)
                              clear BK204
                              clear HB
                              have BK204 := n0_
                              have HB := n1_
                              clear n0_ n1_
                              (try clear hb)
                              (try clear hb2)
                              (try clear hk)
                              (try clear hi)
                              refine hK.out _ _ (tab_loadAt Try.underlying24 (show (Try.prog.info? 24).map (·.size) = some 256 from by kernel_rfl) BK204.out) (fun hHeld => ?_)
                              clear hK K
                              refine norm_ (a' := ?_) ?_ ?_
                              rotate_left
                              · show Act.put _ (some 47) _ = _
                                simp only [Act.put, List.setIfInBounds_toArray, List.set_cons_zero, List.set_cons_succ, i64_w, i32_w]
                                rfl
                              refine one_ (i := 6) (N := some 49) #[true, true, true, true, true, true, true, true, false, false] rfl rfl (one_of HT_.out (by kernel_rfl)) (by decide) (fun K hK => ?_)
                              refine goes_ Try.func15 (by kernel_rfl) rfl #[.agg (tabC a2), .int .u32 t209, .slice A25 (((l0.drop (a1 : Int).toNat).take ((wrap64 (8 + (wrap64 (t206)))) : Int).toNat).drop 8).length ((c0 - a1.toNat) - 8)] (by rfl) rfl rfl (by (try simp only [List.map_toArray, List.map_cons, List.map_nil]); first | done | (rw [show (((l0.drop (a1 : Int).toNat).take ((wrap64 (8 + (wrap64 (t206)))) : Int).toNat).drop 8).length = ((wrap64 (8 + (wrap64 (t206)))).toNat - 8) from (by rw [List.length_drop, List.length_take]; have h_ : ((wrap64 (8 + (wrap64 (t206)))) : Int) ≤ ((l0.drop (a1 : Int).toNat).length : Int) := of_decide_eq_true (by first | (with_reducible assumption) | assumption); omega)] <;> rfl) | rfl | (simp only [List.length_drop, List.length_take]; rfl)) ?_
                              with_reducible refine (sum_On.calls kj12 a2 t209 _ _ (((l0.drop (a1 : Int).toNat).take ((wrap64 (8 + (wrap64 (t206)))) : Int).toNat).drop 8) t210 _ ?side1 ?side2 A21.out).mono ?_
                              (case side1 => repeat (first | exact (Kd.C_below HR207.out HB.out) | (with_reducible refine Kd.C_alloc ?_ _) | (with_reducible refine Kd.C_drewN ?_ _) | (with_reducible refine Kd.C_drew ?_)))
                              (case side2 => exact HC207.out)
                              rintro e w29 ⟨rfl, hb⟩
                              refine ⟨_, rfl, ?_⟩
                              have n0_ := Aside0.mk (blk_below (g := gb204) (o := .cells (tabC a2) 24 (0, 0)) (by (with_reducible repeat (first | refine blk_drewN ?_ _ | refine blk_drew ?_ | refine blk_alloc ?_ _)); exact BK204.out) hb)
                              have n1_ := Aside0.mk (below_step (by repeat (first | (with_reducible first | exact HB.out | apply below_alloc | apply pw_below_drewN | apply below_drew1 | refine below_set ?_ GE204.out) | exact HB.out)) hb)
                              clear BK204
                              clear HB
                              have BK204 := n0_
                              have HB := n1_
                              clear n0_ n1_
                              (try clear hb)
                              (try clear hb2)
                              (try clear hk)
                              (try clear hi)
                              refine hK.out _ _ (tab_loadAt Try.underlying24 (show (Try.prog.info? 24).map (·.size) = some 256 from by kernel_rfl) BK204.out) (fun hHeld => ?_)
                              clear hK K
                              refine norm_ (a' := ?_) ?_ ?_
                              rotate_left
                              · show Act.put _ (some 49) _ = _
                                simp only [Act.put, List.setIfInBounds_toArray, List.set_cons_zero, List.set_cons_succ, i64_w, i32_w]
                                rfl
                              refine one_ (i := 8) (N := some 51) #[true, true, true, true, true, true, true, true, true, false] rfl rfl (one_of HT_.out (by kernel_rfl)) (by decide) (fun K hK => ?_)
                              refine goes_ Try.func32 (by kernel_rfl) rfl #[.slice A14 (l0.drop (a1 : Int).toNat).length (c0 - a1.toNat), .int .i64 4] (by rfl) rfl rfl (by (try simp only [List.map_toArray, List.map_cons, List.map_nil]); first | done | (rw [show (l0.drop (a1 : Int).toNat).length = (l0.length - a1.toNat) from List.length_drop] <;> rfl) | rfl | (simp only [List.length_drop, List.length_take]; rfl)) ?_
                              with_reducible refine (frame_numberAt.calls _ _ (l0.drop (a1 : Int).toNat) 4 t211 _ ?side1 ?side2 A22.out).mono ?_
                              (case side1 => repeat (first | exact (Kd.C_below HR205.out HB.out) | (with_reducible refine Kd.C_alloc ?_ _) | (with_reducible refine Kd.C_drewN ?_ _) | (with_reducible refine Kd.C_drew ?_)))
                              (case side2 => exact HC205.out)
                              rintro e w' ⟨rfl, ⟨nd, rfl⟩⟩
                              refine ⟨_, rfl, ?_⟩
                              refine hK.out _ _ (tab_loadAt Try.underlying24 (show (Try.prog.info? 24).map (·.size) = some 256 from by kernel_rfl) BK204.out) (fun hHeld => ?_)
                              clear hK K
                              refine norm_ (a' := ?_) ?_ ?_
                              rotate_left
                              · show Act.put _ (some 51) _ = _
                                simp only [Act.put, List.setIfInBounds_toArray, List.set_cons_zero, List.set_cons_succ, i64_w, i32_w]
                                rfl
                              refine pure_ (i := 9) (N := some 52) (v := ?_) (a' := ?_) #[true, true, true, true, true, true, true, true, true, true] rfl rfl (any_of HT_.out (by kernel_rfl)) (fun _ _ _ h => h) (Or.inl ⟨by rfl, ?_⟩) ?_ ?_
                              rotate_left
                              · intro w'
                                go_simp
                                with_reducible rfl
                              rotate_left
                              · simp only [Act.put, List.setIfInBounds_toArray, List.set_cons_zero, List.set_cons_succ, i64_w, i32_w]
                                rfl
                              refine done_ (done_of HT_.out (by kernel_rfl)) ?_
                              try go_wp2_with (first | ((with_reducible refine gate_dst (N := 53) rfl ?_); (try (refine gate_guard (by rfl) ?_; dsimp only)); refine Kd.R_lit (Kd.int .u8) _ 5 ?hg (N := 53) ?hd (xs := ([] : List Int)) (inner := []) (ok := fun _ => True) (okp := fun _ => True) ?hr ?hp (fun _ hk => hk) trivial (Below.refl _ _) (Nat.le_refl _) (by simp) ?_; (case hd => rfl); (case hg => rfl); (case hr => first | (go_simp; done) | (go_simp; rfl)); (case hp => exact (Reps.none _ _)); intro v213 w30 ho31 hb hg_ hnew_; clear hg_ hnew_; (first | rw [← Ny212.out] at ho31 | (simp only [Int.reduceToNat] at ho31; rw [← Ny212.out] at ho31)); have n0_ := Aside0.mk (Kd.R_lower ho31 (below_size (by repeat (first | (with_reducible first | exact HB.out | apply below_alloc | apply pw_below_drewN | apply below_drew1 | refine below_set ?_ GE204.out) | exact HB.out)))); have n1_ := Aside0.mk (blk_below (g := gb204) (o := .cells (tabC a2) 24 (0, 0)) (by (with_reducible repeat (first | refine blk_drewN ?_ _ | refine blk_drew ?_ | refine blk_alloc ?_ _)); exact BK204.out) hb); have n2_ := Aside0.mk (below_step (by repeat (first | (with_reducible first | exact HB.out | apply below_alloc | apply pw_below_drewN | apply below_drew1 | refine below_set ?_ GE204.out) | exact HB.out)) hb); clear BK204; clear HB; have HO214 := n0_; have BK204 := n1_; have HB := n2_; clear n0_ n1_ n2_; clear hb ho31) | ((with_reducible refine gate_builtin (b := .append) (xs := #[.tmp 53, .tmp 54]) rfl ?_); (try (refine gate_guard (by rfl) ?_; dsimp only)); at_builtin; refine Kd.R_append_rows (Kd.int .u8) (w0 := w) w.heap.size rfl (.tmp 53) (.tmp 54) 25 5 (.int .u8 0) 1 rfl Try.underlying25 info5 rfl (by decide) (by omega) v213 y212 (((l0.drop (a1 : Int).toNat).take ((wrap64 (8 + (wrap64 (t206)))) : Int).toNat).drop 8) _ _ _ (fun _ => True) (fun _ => False) rfl rfl ?aO ?aR (fun _ _ h => h) (fun _ h => h.elim) ?aF ?aB ?aS ?aL ?_; (case aR => first | (rw [← show (((l0.drop (a1 : Int).toNat).take ((wrap64 (8 + (wrap64 (t206)))) : Int).toNat).drop 8).length = ((wrap64 (8 + (wrap64 (t206)))).toNat - 8) from (by rw [List.length_drop, List.length_take]; have h_ : ((wrap64 (8 + (wrap64 (t206)))) : Int) ≤ ((l0.drop (a1 : Int).toNat).length : Int) := of_decide_eq_true (by first | (with_reducible assumption) | assumption); omega)]; repeat (first | exact (Kd.C_below HR207.out HB.out) | (with_reducible refine Kd.C_alloc ?_ _) | (with_reducible refine Kd.C_drewN ?_ _) | (with_reducible refine Kd.C_drew ?_))) | (have e_ : (((l0.drop (a1 : Int).toNat).take ((wrap64 (8 + (wrap64 (t206)))) : Int).toNat).drop 8).length = (((l0.drop (a1 : Int).toNat).take ((wrap64 (8 + (wrap64 (t206)))) : Int).toNat).drop 8).length := rfl; (conv at e_ => (rhs; simp only [List.length_drop, List.length_take])); rw [← e_]; repeat (first | exact (Kd.C_below HR207.out HB.out) | (with_reducible refine Kd.C_alloc ?_ _) | (with_reducible refine Kd.C_drewN ?_ _) | (with_reducible refine Kd.C_drew ?_))) | (repeat (first | exact (Kd.C_below HR207.out HB.out) | (with_reducible refine Kd.C_alloc ?_ _) | (with_reducible refine Kd.C_drewN ?_ _) | (with_reducible refine Kd.C_drew ?_)))); (case aB => exact (by repeat (first | (with_reducible first | exact HB.out | apply below_alloc | apply pw_below_drewN | apply below_drew1 | refine below_set ?_ GE204.out) | exact HB.out))); (case aF => exact (fun _ _ => trivial)); (case aO => exact (by (with_reducible repeat (first | apply Kd.R_alloc | apply Kd.R_drewN | apply Kd.R_drew)); exact HO214.out)); (case aS => exact (below_size (by repeat (first | (with_reducible first | exact HB.out | apply below_alloc | apply pw_below_drewN | apply below_drew1 | refine below_set ?_ GE204.out) | exact HB.out)))); (case aL => have := LMc24.out; have hlx_ := (show (((l0.drop (a1 : Int).toNat).take ((wrap64 (8 + (wrap64 (t206)))) : Int).toNat).drop 8).length = ((wrap64 (8 + (wrap64 (t206)))).toNat - 8) from (by rw [List.length_drop, List.length_take]; have h_ : ((wrap64 (8 + (wrap64 (t206)))) : Int) ≤ ((l0.drop (a1 : Int).toNat).length : Int) := of_decide_eq_true (by first | (with_reducible assumption) | assumption); omega)); omega); intro v216 w32 ho hb hg hat; rw [← Ny215.out] at ho; have n0_ := Aside0.mk (blk_grown (g := gb204) (o := .cells (tabC a2) 24 (0, 0)) (by (with_reducible repeat (first | refine blk_drewN ?_ _ | refine blk_drew ?_ | refine blk_alloc ?_ _)); exact BK204.out) hg (Kd.R_ne HO214.out BK204.out (by decide))); have n1_ := Aside0.mk (hb); have n2_ := Aside0.mk (ho); clear BK204; clear HB; clear HO214; have BK204 := n0_; have HB := n1_; have HO217 := n2_; clear n0_ n1_ n2_; clear ho hb hg hat))
                              go_ret3
                              exact ⟨_, by first | rfl | (simp [errW_none, errW_some] <;> rfl) | (simp [*, errW_none, errW_some] <;> rfl), by (with_reducible repeat (first | apply Kd.R_alloc | apply Kd.R_drewN | apply Kd.R_drew)); exact HO217.out, by repeat (first | (with_reducible first | exact HB.out | apply below_alloc | apply pw_below_drewN | apply below_drew1 | refine below_set ?_ GE204.out) | exact HB.out)⟩
                            · rw [if_neg c24] at H
                              exact absurd H (by simp)
                          · rw [if_neg c23] at H
                            have c23b0 : (t210 == t211) = false := beq_eq_false_iff_ne.mpr c23
                            have c23b1 : (t210 != t211) = true := bne_iff_ne.mpr c23
                            simp only [Option.some.injEq, Prod.mk.injEq] at H
                            obtain ⟨rfl, rfl, rfl⟩ := H
                            obtain ⟨i033, hi033, _, hsz33, _⟩ := info_parts info5
                            obtain ⟨A33, hcut33, hA33, hC33⟩ := print_mid_of (P := Try.prog) (Value.int .u8) 0 25 5 .i64 .i64 Try.underlying25 hi033 hsz33 A14 (c0 - a1.toNat) (l0.drop (a1 : Int).toNat) 8 (wrap64 (8 + (wrap64 (t206)))) (by omega) (by first | omega | exact of_decide_eq_true (by first | (with_reducible assumption) | assumption)) (of_decide_eq_true (by first | (with_reducible assumption) | assumption)) HC205.out
                            try (have hcut33d := hcut33; simp only [List.length_drop, List.length_take] at hcut33d)
                            have HR207 := Aside0.mk (Kd.C_of_reads (h1 := fun _ => rfl) (hA33 _ (Kd.reads_of_C HR205.out)))
                            have HC207 := Aside0.mk hC33
                            clear hA33 hC33 hi033 hsz33
                            try go_wp2
                            have n0_ := Aside0.mk (blk_drew BK204.out)
                            have n1_ := Aside0.mk (below_drew1 HB.out)
                            clear BK204
                            clear HB
                            have BK204 := n0_
                            have HB := n1_
                            clear n0_ n1_
                            obtain ⟨i035, hi035, _, hsz35, _⟩ := info_parts info5
                            obtain ⟨hcut35, hA35, hC35⟩ := print_take_of (P := Try.prog) (Value.int .u8) 0 25 5 .i64 Try.underlying25 hi035 hsz35 A14 (c0 - a1.toNat) (l0.drop (a1 : Int).toNat) 4 (by omega) (of_decide_eq_true (by first | (with_reducible assumption) | assumption)) HC205.out
                            try (have hcut35d := hcut35; simp only [List.length_drop, List.length_take] at hcut35d)
                            have HR208 := Aside0.mk (Kd.C_of_reads (h1 := fun _ => rfl) (hA35 _ (Kd.reads_of_C HR205.out)))
                            have HC208 := Aside0.mk hC35
                            clear hA35 hC35 hi035 hsz35
                            refine start_ (n := 10) (S := fun w' => (Instr.loadAt 24 (.pointer (some ⟨gb204, 0, none⟩))).run Try.prog w' = .ok (.agg (tabC a2)) w') (ds := []) #[false, false, false, false, false, false, false, false, false, false] (by kernel_rfl) rfl rfl (tab_loadAt Try.underlying24 (show (Try.prog.info? 24).map (·.size) = some 256 from by kernel_rfl) BK204.out) (fun hHeld => ?_); refine with_tabW frame_Get.tab10 frame_Get.bits10 (fun HT_ HW_ => ?_)
                            generalize wc.drew = w34 at BK204 HB HR208 hHeld ⊢
                            refine pure_ (i := 2) (N := some 45) (v := ?_) (a' := ?_) #[false, false, true, false, false, false, false, false, false, false] rfl rfl (any_of HT_.out (by kernel_rfl)) (fun _ _ _ h => h) (Or.inl ⟨by rfl, ?_⟩) ?_ ?_
                            rotate_left
                            · intro w'
                              go_simp
                              with_reducible rfl
                            rotate_left
                            · simp only [Act.put, List.setIfInBounds_toArray, List.set_cons_zero, List.set_cons_succ, i64_w, i32_w]
                              rfl
                            refine pure_ (i := 3) (N := some 46) (v := ?_) (a' := ?_) #[false, false, true, true, false, false, false, false, false, false] rfl rfl (any_of HT_.out (by kernel_rfl)) (fun _ _ _ h => h) (Or.inl ⟨by rfl, ?_⟩) ?_ ?_
                            rotate_left
                            · intro w'
                              go_simp
                              with_reducible rfl
                            rotate_left
                            · simp only [Act.put, List.setIfInBounds_toArray, List.set_cons_zero, List.set_cons_succ, i64_w, i32_w]
                              rfl
                            refine pure_ (i := 5) (N := some 48) (v := ?_) (a' := ?_) #[false, false, true, true, false, true, false, false, false, false] rfl rfl (any_of HT_.out (by kernel_rfl)) (fun _ _ _ h => h) (Or.inl ⟨by rfl, ?_⟩) ?_ ?_
                            rotate_left
                            · intro w'
                              go_simp
                              with_reducible rfl
                            rotate_left
                            · simp only [Act.put, List.setIfInBounds_toArray, List.set_cons_zero, List.set_cons_succ, i64_w, i32_w]
                              rfl
                            refine pure_ (i := 7) (N := some 50) (v := ?_) (a' := ?_) #[false, false, true, true, false, true, false, true, false, false] rfl rfl (any_of HT_.out (by kernel_rfl)) (fun _ _ _ h => h) (Or.inl ⟨by rfl, ?_⟩) ?_ ?_
                            rotate_left
                            · intro w'
                              go_simp
                              with_reducible rfl
                            rotate_left
                            · simp only [Act.put, List.setIfInBounds_toArray, List.set_cons_zero, List.set_cons_succ, i64_w, i32_w]
                              rfl
                            refine take_ (i := 0) (N := some 43) (v := ?_) (a' := ?_) #[true, false, true, true, false, true, false, true, false, false] rfl rfl (take_ofW HT_.out HW_.out (by kernel_rfl)) (fun _ _ _ h => h) (Or.inl ⟨by rfl, ?_⟩) hHeld ?_ ?_
                            rotate_left
                            · intro w' s0
                              exact tab_exec rfl rfl (by assumption)
                            rotate_left
                            · simp only [Act.put, List.setIfInBounds_toArray, List.set_cons_zero, List.set_cons_succ, i64_w, i32_w]
                              rfl
                            refine take_ (i := 1) (N := some 44) (v := ?_) (a' := ?_) #[true, true, true, true, false, true, false, true, false, false] rfl rfl (take_ofW HT_.out HW_.out (by kernel_rfl)) (fun _ _ _ h => h) (Or.inl ⟨by rfl, ?_⟩) hHeld ?_ ?_
                            rotate_left
                            · intro w' s0
                              exact tab_exec rfl rfl (by assumption)
                            rotate_left
                            · simp only [Act.put, List.setIfInBounds_toArray, List.set_cons_zero, List.set_cons_succ, i64_w, i32_w]
                              rfl
                            refine one_ (i := 4) (N := some 47) #[true, true, true, true, true, true, false, true, false, false] rfl rfl (one_of HT_.out (by kernel_rfl)) (by decide) (fun K hK => ?_)
                            refine goes_ Try.func11 (by kernel_rfl) rfl #[.agg (tabC a2), .slice A14 ((l0.drop (a1 : Int).toNat).take 4).length (c0 - a1.toNat)] (by rfl) rfl rfl (by (try simp only [List.map_toArray, List.map_cons, List.map_nil]); first | done | (rw [show ((l0.drop (a1 : Int).toNat).take 4).length = 4 from (by rw [List.length_take]; have h_ : (4 : Int) ≤ ((l0.drop (a1 : Int).toNat).length : Int) := of_decide_eq_true (by first | (with_reducible assumption) | assumption); omega)] <;> rfl) | rfl | (simp only [List.length_drop, List.length_take]; rfl)) ?_
                            with_reducible refine (sum_Of.calls kj12 a2 _ _ ((l0.drop (a1 : Int).toNat).take 4) t209 _ ?side1 ?side2 A20.out).mono ?_
                            (case side1 => repeat (first | exact (Kd.C_below HR208.out HB.out) | (with_reducible refine Kd.C_alloc ?_ _) | (with_reducible refine Kd.C_drewN ?_ _) | (with_reducible refine Kd.C_drew ?_)))
                            (case side2 => exact HC208.out)
                            rintro e w36 ⟨rfl, hb⟩
                            refine ⟨_, rfl, ?_⟩
                            have n0_ := Aside0.mk (blk_below (g := gb204) (o := .cells (tabC a2) 24 (0, 0)) (by (with_reducible repeat (first | refine blk_drewN ?_ _ | refine blk_drew ?_ | refine blk_alloc ?_ _)); exact BK204.out) hb)
                            have n1_ := Aside0.mk (below_step (by repeat (first | (with_reducible first | exact HB.out | apply below_alloc | apply pw_below_drewN | apply below_drew1 | refine below_set ?_ GE204.out) | exact HB.out)) hb)
                            clear BK204
                            clear HB
                            have BK204 := n0_
                            have HB := n1_
                            clear n0_ n1_
                            (try clear hb)
                            (try clear hb2)
                            (try clear hk)
                            (try clear hi)
                            refine hK.out _ _ (tab_loadAt Try.underlying24 (show (Try.prog.info? 24).map (·.size) = some 256 from by kernel_rfl) BK204.out) (fun hHeld => ?_)
                            clear hK K
                            refine norm_ (a' := ?_) ?_ ?_
                            rotate_left
                            · show Act.put _ (some 47) _ = _
                              simp only [Act.put, List.setIfInBounds_toArray, List.set_cons_zero, List.set_cons_succ, i64_w, i32_w]
                              rfl
                            refine one_ (i := 6) (N := some 49) #[true, true, true, true, true, true, true, true, false, false] rfl rfl (one_of HT_.out (by kernel_rfl)) (by decide) (fun K hK => ?_)
                            refine goes_ Try.func15 (by kernel_rfl) rfl #[.agg (tabC a2), .int .u32 t209, .slice A33 (((l0.drop (a1 : Int).toNat).take ((wrap64 (8 + (wrap64 (t206)))) : Int).toNat).drop 8).length ((c0 - a1.toNat) - 8)] (by rfl) rfl rfl (by (try simp only [List.map_toArray, List.map_cons, List.map_nil]); first | done | (rw [show (((l0.drop (a1 : Int).toNat).take ((wrap64 (8 + (wrap64 (t206)))) : Int).toNat).drop 8).length = ((wrap64 (8 + (wrap64 (t206)))).toNat - 8) from (by rw [List.length_drop, List.length_take]; have h_ : ((wrap64 (8 + (wrap64 (t206)))) : Int) ≤ ((l0.drop (a1 : Int).toNat).length : Int) := of_decide_eq_true (by first | (with_reducible assumption) | assumption); omega)] <;> rfl) | rfl | (simp only [List.length_drop, List.length_take]; rfl)) ?_
                            with_reducible refine (sum_On.calls kj12 a2 t209 _ _ (((l0.drop (a1 : Int).toNat).take ((wrap64 (8 + (wrap64 (t206)))) : Int).toNat).drop 8) t210 _ ?side1 ?side2 A21.out).mono ?_
                            (case side1 => repeat (first | exact (Kd.C_below HR207.out HB.out) | (with_reducible refine Kd.C_alloc ?_ _) | (with_reducible refine Kd.C_drewN ?_ _) | (with_reducible refine Kd.C_drew ?_)))
                            (case side2 => exact HC207.out)
                            rintro e w37 ⟨rfl, hb⟩
                            refine ⟨_, rfl, ?_⟩
                            have n0_ := Aside0.mk (blk_below (g := gb204) (o := .cells (tabC a2) 24 (0, 0)) (by (with_reducible repeat (first | refine blk_drewN ?_ _ | refine blk_drew ?_ | refine blk_alloc ?_ _)); exact BK204.out) hb)
                            have n1_ := Aside0.mk (below_step (by repeat (first | (with_reducible first | exact HB.out | apply below_alloc | apply pw_below_drewN | apply below_drew1 | refine below_set ?_ GE204.out) | exact HB.out)) hb)
                            clear BK204
                            clear HB
                            have BK204 := n0_
                            have HB := n1_
                            clear n0_ n1_
                            (try clear hb)
                            (try clear hb2)
                            (try clear hk)
                            (try clear hi)
                            refine hK.out _ _ (tab_loadAt Try.underlying24 (show (Try.prog.info? 24).map (·.size) = some 256 from by kernel_rfl) BK204.out) (fun hHeld => ?_)
                            clear hK K
                            refine norm_ (a' := ?_) ?_ ?_
                            rotate_left
                            · show Act.put _ (some 49) _ = _
                              simp only [Act.put, List.setIfInBounds_toArray, List.set_cons_zero, List.set_cons_succ, i64_w, i32_w]
                              rfl
                            refine one_ (i := 8) (N := some 51) #[true, true, true, true, true, true, true, true, true, false] rfl rfl (one_of HT_.out (by kernel_rfl)) (by decide) (fun K hK => ?_)
                            refine goes_ Try.func32 (by kernel_rfl) rfl #[.slice A14 (l0.drop (a1 : Int).toNat).length (c0 - a1.toNat), .int .i64 4] (by rfl) rfl rfl (by (try simp only [List.map_toArray, List.map_cons, List.map_nil]); first | done | (rw [show (l0.drop (a1 : Int).toNat).length = (l0.length - a1.toNat) from List.length_drop] <;> rfl) | rfl | (simp only [List.length_drop, List.length_take]; rfl)) ?_
                            with_reducible refine (frame_numberAt.calls _ _ (l0.drop (a1 : Int).toNat) 4 t211 _ ?side1 ?side2 A22.out).mono ?_
                            (case side1 => repeat (first | exact (Kd.C_below HR205.out HB.out) | (with_reducible refine Kd.C_alloc ?_ _) | (with_reducible refine Kd.C_drewN ?_ _) | (with_reducible refine Kd.C_drew ?_)))
                            (case side2 => exact HC205.out)
                            rintro e w' ⟨rfl, ⟨nd, rfl⟩⟩
                            refine ⟨_, rfl, ?_⟩
                            refine hK.out _ _ (tab_loadAt Try.underlying24 (show (Try.prog.info? 24).map (·.size) = some 256 from by kernel_rfl) BK204.out) (fun hHeld => ?_)
                            clear hK K
                            refine norm_ (a' := ?_) ?_ ?_
                            rotate_left
                            · show Act.put _ (some 51) _ = _
                              simp only [Act.put, List.setIfInBounds_toArray, List.set_cons_zero, List.set_cons_succ, i64_w, i32_w]
                              rfl
                            refine pure_ (i := 9) (N := some 52) (v := ?_) (a' := ?_) #[true, true, true, true, true, true, true, true, true, true] rfl rfl (any_of HT_.out (by kernel_rfl)) (fun _ _ _ h => h) (Or.inl ⟨by rfl, ?_⟩) ?_ ?_
                            rotate_left
                            · intro w'
                              go_simp
                              with_reducible rfl
                            rotate_left
                            · simp only [Act.put, List.setIfInBounds_toArray, List.set_cons_zero, List.set_cons_succ, i64_w, i32_w]
                              rfl
                            refine done_ (done_of HT_.out (by kernel_rfl)) ?_
                            try go_wp2
                            go_ret3
                            exact ⟨_, by first | rfl | (simp [errW_none, errW_some] <;> rfl) | (simp [*, errW_none, errW_some] <;> rfl), by first | exact Kd.R_nil _ _ _ _ _ | exact Kd.N_nil _ _ _ _ _ | exact Kd.V_nil _ _ _ _ _ | exact Kd.Q_nil _ _ _ _ _ | exact Kd.S_nil _ _ _ _ _, by repeat (first | (with_reducible first | exact HB.out | apply below_alloc | apply pw_below_drewN | apply below_drew1 | refine below_set ?_ GE204.out) | exact HB.out)⟩
                        · rw [if_neg c19] at H
                          exact absurd H (by simp)
                      · rw [if_neg c18] at H
                        exact absurd H (by simp)
                    · rw [if_neg c17] at H
                      exact absurd H (by simp)
          · rw [if_neg c9] at H
            exact absurd H (by simp)
        · rw [if_neg c8] at H
          exact absurd H (by simp)

end Go.Proofs.Ytcgbcnalofecgaa.Q
