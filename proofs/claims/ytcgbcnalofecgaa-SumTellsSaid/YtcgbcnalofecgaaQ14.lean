/- A function of the program or a law's row comes to what the Lean function beside it says; no condition beyond those typed. Written by a program of this workplace; Lean checks it. -/
import Derived.Test.YtcgbcnalofecgaaQ0
import Derived.Test.YtcgbcnalofecgaaQ3
import Derived.Test.YtcgbcnalofecgaaQ5
import Derived.Test.YtcgbcnalofecgaaQ6
namespace Go.Proofs.Ytcgbcnalofecgaa.Q
open Go.RowKit Go.Proofs.YtcgbcnalofecgaaW.PrintWords Go.Proofs.YtcgbcnalofecgaaW.PrintLast Go.Proofs.YtcgbcnalofecgaaW.PrintMore
attribute [local go_sem] max2_int min2_int max_two min_two max_three min_three max_four min_four   -- for this text's walks alone
set_option linter.unusedVariables false
set_option linter.unusedSimpArgs false

/-! ### punnetlaw06_SumTells: function 5 -/
mutual
def punnetlaw06_SumTells.j0 : Nat → List Int → Int → Int → Bool → Option (Bool)
  | 0, _, _, _, _ => none
  | k + 1, x0, x1, x2, x31 => if x31 = true then (some true) else ((some (([] : List Int) : List Int)).bind fun y132 => (if y132.length + x0.length < 140737488355328 then (punnetlaw06_SumTells.l0 k x0 x1 x2 (y132 ++ x0) true 0) else (none)))
def punnetlaw06_SumTells.l0 : Nat → List Int → Int → Int → List Int → Bool → Int → Option (Bool)
  | 0, _, _, _, _, _, _ => none
  | k + 1, x0, x1, x2, x7, x8, x9 => if x9 < 32 then (if 0 ≤ (IntKind.u64.wrap (x9)) then (if (Int.tmod (shr .u32 x2 (IntKind.u64.wrap (x9))) 2) = 1 then (if (wrap64 (x1 + x9)) < (wrap64 (8 * (x0.length : Int))) then (if 0 ≤ (wrap64 (Int.tdiv (wrap64 (x1 + x9)) 8)) then (if (wrap64 (Int.tdiv (wrap64 (x1 + x9)) 8)) < (x7.length : Int) then (if 0 ≤ (IntKind.u64.wrap (Int.tmod (wrap64 (x1 + x9)) 8)) then (punnetlaw06_SumTells.l0 k x0 x1 x2 (x7.set ((wrap64 (Int.tdiv (wrap64 (x1 + x9)) 8)) : Int).toNat (Go.bits .xor .u8 (rd x7 (wrap64 (Int.tdiv (wrap64 (x1 + x9)) 8))) (shl .u8 1 (IntKind.u64.wrap (Int.tmod (wrap64 (x1 + x9)) 8))))) false (wrap64 (x9 + 1))) else (none)) else (none)) else (none)) else (punnetlaw06_SumTells.l0 k x0 x1 x2 x7 x8 (wrap64 (x9 + 1)))) else (punnetlaw06_SumTells.l0 k x0 x1 x2 x7 x8 (wrap64 (x9 + 1)))) else (none)) else ((sum_Make.f).bind fun t140 => ((sum_Of.f k t140 x7).bind fun t142 => ((sum_Of.f k t140 x0).bind fun t143 => (some ((t142 == t143) == x8)))))
end
def punnetlaw06_SumTells.f (k : Nat) (l0 : List Int) (a1 : Int) (a2 : Int) : Option (Bool) := (punnetlaw06_awake.f).bind fun t131 => (if t131 = true then (if (l0.length : Int) > 3000 then (punnetlaw06_SumTells.j0 k l0 a1 a2 true) else (if a1 < 0 then (punnetlaw06_SumTells.j0 k l0 a1 a2 true) else (if a1 > (wrap64 (8 * (l0.length : Int))) then (punnetlaw06_SumTells.j0 k l0 a1 a2 true) else (punnetlaw06_SumTells.j0 k l0 a1 a2 (a2 == 0))))) else (some false))
theorem punnetlaw06_SumTells.mono_l : ∀ k, (∀ y0 y1 y2 y3, LeO (punnetlaw06_SumTells.j0 k y0 y1 y2 y3) (punnetlaw06_SumTells.j0 (k + 1) y0 y1 y2 y3)) ∧ (∀ y0 y1 y2 y3 y4 y5, LeO (punnetlaw06_SumTells.l0 k y0 y1 y2 y3 y4 y5) (punnetlaw06_SumTells.l0 (k + 1) y0 y1 y2 y3 y4 y5))
  | 0 => ⟨fun _ _ _ _ r h => by simp [punnetlaw06_SumTells.j0] at h, fun _ _ _ _ _ _ r h => by simp [punnetlaw06_SumTells.l0] at h⟩
  | k + 1 => by
    obtain ⟨ih0, ih1⟩ := punnetlaw06_SumTells.mono_l k
    refine ⟨?_, ?_⟩
    · intro y0 y1 y2 y3
      unfold punnetlaw06_SumTells.j0
      repeat' first
      | (with_reducible exact ih0 _ _ _ _)
      | (with_reducible exact ih1 _ _ _ _ _ _)
      | (with_reducible exact sum_Of.mono _ _ _)
      | (with_reducible exact LeO.refl _)
      | (with_reducible exact LeO.none _)
      | (with_reducible refine LeO.ite ?_ ?_)
      | (with_reducible refine LeO.bind ?_ (fun _ => ?_))
      | exact ih0 _ _ _ _
      | exact ih1 _ _ _ _ _ _
      | exact sum_Of.mono _ _ _
      | exact LeO.none _
      | refine LeO.ite ?_ ?_
      | refine LeO.bind ?_ (fun _ => ?_)
    · intro y0 y1 y2 y3 y4 y5
      unfold punnetlaw06_SumTells.l0
      repeat' first
      | (with_reducible exact ih0 _ _ _ _)
      | (with_reducible exact ih1 _ _ _ _ _ _)
      | (with_reducible exact sum_Of.mono _ _ _)
      | (with_reducible exact LeO.refl _)
      | (with_reducible exact LeO.none _)
      | (with_reducible refine LeO.ite ?_ ?_)
      | (with_reducible refine LeO.bind ?_ (fun _ => ?_))
      | exact ih0 _ _ _ _
      | exact ih1 _ _ _ _ _ _
      | exact sum_Of.mono _ _ _
      | exact LeO.none _
      | refine LeO.ite ?_ ?_
      | refine LeO.bind ?_ (fun _ => ?_)
theorem punnetlaw06_SumTells.mono : ∀ a0 a1 a2 k, LeO (punnetlaw06_SumTells.f k a0 a1 a2) (punnetlaw06_SumTells.f (k + 1) a0 a1 a2) := by
  intro a0 a1 a2 k
  obtain ⟨ih0, ih1⟩ := punnetlaw06_SumTells.mono_l k
  unfold punnetlaw06_SumTells.f
  repeat' first
      | (with_reducible exact ih0 _ _ _ _)
      | (with_reducible exact ih1 _ _ _ _ _ _)
      | (with_reducible exact sum_Of.mono _ _ _)
      | (with_reducible exact LeO.refl _)
      | (with_reducible exact LeO.none _)
      | (with_reducible refine LeO.ite ?_ ?_)
      | (with_reducible refine LeO.bind ?_ (fun _ => ?_))
      | exact ih0 _ _ _ _
      | exact ih1 _ _ _ _ _ _
      | exact sum_Of.mono _ _ _
      | exact LeO.none _
      | refine LeO.ite ?_ ?_
      | refine LeO.bind ?_ (fun _ => ?_)
def punnetlaw06_SumTells.T15 : Bool × List (List Nat × List Nat) := (true, [([], []), ([], []), ([0, 1], [0, 1]), ([], []), ([], []), ([3, 4, 2], [3, 4]), ([2, 5], [2, 5]), ([], []), ([6, 7], [6, 7]), ([8, 5, 0, 1, 2, 3, 4, 5, 6, 7, 8], [8])])
def punnetlaw06_SumTells.B15 : List Nat := [0, 0, 3, 0, 0, 31, 63, 0, 255, 511]
theorem punnetlaw06_SumTells.tab15 : rtab .any (opsOf Try.f5 15) = punnetlaw06_SumTells.T15 := by kernel_rfl
theorem punnetlaw06_SumTells.bits15 : waitsOk punnetlaw06_SumTells.T15.2 punnetlaw06_SumTells.B15 = true := by kernel_rfl
set_option maxHeartbeats 8000000 in
set_option maxRecDepth 100000 in
theorem punnetlaw06_SumTells.calls (k : Nat) (A0 : Option Addr) (c0 : Nat) (l0 : List Int) (a1 : Int) (a2 : Int) (r : Bool) (w : World) (hr0 : Kd.C (Kd.int .u8) w A0 l0.length l0) (hc0 : l0.length ≤ c0) (h : punnetlaw06_SumTells.f k l0 a1 a2 = some r) :
    Calls Try.prog 5 #[.slice A0 l0.length c0, .int .i64 a1, .int .u32 a2] w fun e w' => e = .returned (.bool r) ∧ Below w.heap.size w w' := by
  have HR0 := Aside0.mk hr0
  have HC0 := Aside0.mk hc0
  clear hr0 hc0
  have HB := Aside0.mk (Below.refl w.heap.size w)
  have H : ((punnetlaw06_awake.f).bind fun t131 => (if t131 = true then (if (l0.length : Int) > 3000 then (punnetlaw06_SumTells.j0 k l0 a1 a2 true) else (if a1 < 0 then (punnetlaw06_SumTells.j0 k l0 a1 a2 true) else (if a1 > (wrap64 (8 * (l0.length : Int))) then (punnetlaw06_SumTells.j0 k l0 a1 a2 true) else (punnetlaw06_SumTells.j0 k l0 a1 a2 (a2 == 0))))) else (some false))) = some r := h
  clear h
  replace H := Option.bind_eq_some_iff.mp H
  obtain ⟨t131, A40, H⟩ := H
  replace H : (if t131 = true then (if (l0.length : Int) > 3000 then (punnetlaw06_SumTells.j0 k l0 a1 a2 true) else (if a1 < 0 then (punnetlaw06_SumTells.j0 k l0 a1 a2 true) else (if a1 > (wrap64 (8 * (l0.length : Int))) then (punnetlaw06_SumTells.j0 k l0 a1 a2 true) else (punnetlaw06_SumTells.j0 k l0 a1 a2 (a2 == 0))))) else (some false)) = some r := H
  have A4 := Aside0.mk A40
  clear A40
  by_cases c5 : t131 = true
  · subst c5
    have H1 : (if (l0.length : Int) > 3000 then (punnetlaw06_SumTells.j0 k l0 a1 a2 true) else (if a1 < 0 then (punnetlaw06_SumTells.j0 k l0 a1 a2 true) else (if a1 > (wrap64 (8 * (l0.length : Int))) then (punnetlaw06_SumTells.j0 k l0 a1 a2 true) else (punnetlaw06_SumTells.j0 k l0 a1 a2 (a2 == 0))))) = some r := by rw [if_pos rfl] at H; exact H
    clear H
    have H := H1
    clear H1
    have HC6 := Aside0.mk H
    clear H
    go_enter Try.func5, Try.ntmps5
    go_upto_region 3 with (first | ((with_reducible refine gate_callee (f := 10) rfl ?_); refine goesL_ (some 12) rfl rfl Try.func10 (by kernel_rfl) rfl #[] rfl (by (try simp only [List.map_toArray, List.map_cons, List.map_nil]); first | done | rfl | (simp only [List.length_drop, List.length_take]; rfl)) ?_; (with_reducible refine (punnetlaw06_awake.calls  true _ A4.out).mono ?_); rintro e w7 ⟨rfl, hb⟩; refine ⟨_, rfl, ?_⟩; have n0_ := Aside0.mk (below_step (by repeat (first | (with_reducible first | exact HB.out | apply below_alloc | apply pw_below_drewN | apply below_drew1) | exact HB.out)) hb); clear HB; have HB := n0_; clear n0_; (try clear hb); (try clear hb2); (try clear hk); (try clear hi)))
    (try simp only [Act.put, List.setIfInBounds_toArray, List.set_cons_zero, List.set_cons_succ])
    go_cut [31] (fun v31 wc => ∃ (kq : Nat) (x31_5 : Bool), v31 = .bool x31_5 ∧ Aside0 (punnetlaw06_SumTells.j0 kq l0 a1 a2 x31_5 = some r) ∧ Aside0 (kq ≤ k) ∧ Aside0 (Below w.heap.size w wc))
    case first =>
      have H := HC6.out
      clear HC6
      by_cases c8 : (l0.length : Int) > 3000
      · rw [if_pos c8] at H
        have c8b0 : decide (3000 < (l0.length : Int)) = true := decide_eq_true c8
        have c8b1 : decide (3000 < l0.length) = true := decide_eq_true (by omega)
        clear c8
        (first | rw [c8b0] | (simp only [i64_w, i32_w]; rw [c8b0]) | skip)
        have H' := Aside0.mk H
        clear H
        go_wp2
        go_meet
        case rel => exact ⟨_, (true), (by first | rfl | (simp; done) | (simp [*]; done)), H', ⟨by first | omega | exact Nat.le_refl _⟩, ⟨by repeat (first | (with_reducible first | exact HB.out | apply below_alloc | apply pw_below_drewN | apply below_drew1) | exact HB.out)⟩⟩
      · rw [if_neg c8] at H
        have c8b0 : decide (3000 < (l0.length : Int)) = false := decide_eq_false c8
        have c8b1 : decide (3000 < l0.length) = false := decide_eq_false (by omega)
        clear c8
        (first | rw [c8b0] | (simp only [i64_w, i32_w]; rw [c8b0]) | skip)
        by_cases c9 : a1 < 0
        · rw [if_pos c9] at H
          have c9b0 : decide (a1 < 0) = true := decide_eq_true c9
          clear c9
          have H' := Aside0.mk H
          clear H
          go_wp2
          go_meet
          case rel => exact ⟨_, (true), (by first | rfl | (simp; done) | (simp [*]; done)), H', ⟨by first | omega | exact Nat.le_refl _⟩, ⟨by repeat (first | (with_reducible first | exact HB.out | apply below_alloc | apply pw_below_drewN | apply below_drew1) | exact HB.out)⟩⟩
        · rw [if_neg c9] at H
          have c9b0 : decide (a1 < 0) = false := decide_eq_false c9
          clear c9
          by_cases c10 : a1 > (wrap64 (8 * (l0.length : Int)))
          · rw [if_pos c10] at H
            have c10b0 : decide ((wrap64 (8 * (l0.length : Int))) < a1) = true := decide_eq_true c10
            try (have c10b0w : decide (((8 * (l0.length : Int))) < a1) = true := by (rw [show (8 * (l0.length : Int)) = wrap64 (8 * (l0.length : Int)) from (by unfold wrap64; omega)]; exact c10b0))
            clear c10
            have H' := Aside0.mk H
            clear H
            go_wp2
            go_meet
            case rel => exact ⟨_, (true), (by first | rfl | (simp; done) | (simp [*]; done)), H', ⟨by first | omega | exact Nat.le_refl _⟩, ⟨by repeat (first | (with_reducible first | exact HB.out | apply below_alloc | apply pw_below_drewN | apply below_drew1) | exact HB.out)⟩⟩
          · rw [if_neg c10] at H
            have c10b0 : decide ((wrap64 (8 * (l0.length : Int))) < a1) = false := decide_eq_false c10
            try (have c10b0w : decide (((8 * (l0.length : Int))) < a1) = false := by (rw [show (8 * (l0.length : Int)) = wrap64 (8 * (l0.length : Int)) from (by unfold wrap64; omega)]; exact c10b0))
            clear c10
            have H' := Aside0.mk H
            clear H
            go_wp2
            go_meet
            case rel => exact ⟨_, ((a2 == 0)), (by first | rfl | (simp; done) | (simp [*]; done)), H', ⟨by first | omega | exact Nat.le_refl _⟩, ⟨by repeat (first | (with_reducible first | exact HB.out | apply below_alloc | apply pw_below_drewN | apply below_drew1) | exact HB.out)⟩⟩
    case rest =>
      clear HC6
      try clear c1
      try clear p2
      try clear c5
      try clear p6
      try clear c8
      try clear c8b0
      try clear c8b1
      try clear c9
      try clear c9b0
      try clear c10
      try clear c10b0
      obtain ⟨kq, x31_5, rfl, HA, HJ5, HB⟩ := hcut
      cases kq with
      | zero => exact absurd HA.out (by simp [punnetlaw06_SumTells.j0])
      | succ kj5 =>
        have H := HA.out
        clear HA
        simp only [punnetlaw06_SumTells.j0] at H
        by_cases c11 : x31_5 = true
        · subst c11
          have H1 : (some true) = some r := by rw [if_pos rfl] at H; exact H
          clear H
          have H := H1
          clear H1
          obtain rfl := Option.some.inj H
          go_wp2
          go_ret
          exact ⟨by first | rfl | (simp [errW_none, errW_some] <;> rfl) | (simp [*, errW_none, errW_some] <;> rfl), by repeat (first | (with_reducible first | exact HB.out | apply below_alloc | apply pw_below_drewN | apply below_drew1) | exact HB.out)⟩
        · replace c11 := Bool.eq_false_iff.mpr c11
          subst c11
          have H1 : ((some (([] : List Int) : List Int)).bind fun y132 => (if y132.length + l0.length < 140737488355328 then (punnetlaw06_SumTells.l0 kj5 l0 a1 a2 (y132 ++ l0) true 0) else (none))) = some r := by rw [if_neg (show ¬ (false = true) by decide)] at H; exact H
          clear H
          have H := H1
          clear H1
          obtain ⟨y132, hy132⟩ : ∃ y_ : List Int, y_ = (([] : List Int)) := ⟨_, rfl⟩
          replace H : (if y132.length + l0.length < 140737488355328 then (punnetlaw06_SumTells.l0 kj5 l0 a1 a2 (y132 ++ l0) true 0) else (none)) = some r := by first | (rw [hy132]; with_reducible exact H) | (have H2_ := (Option.bind_some _ _).symm.trans H; rw [hy132]; with_reducible exact H2_) | (have H2_ := (Option.bind_some _ _).symm.trans H; with_reducible exact H2_) | with_reducible exact H | (rw [hy132]; exact H) | exact H
          have Ny132 := Aside0.mk hy132
          clear hy132
          by_cases c12 : y132.length + l0.length < 140737488355328
          · rw [if_pos c12] at H
            have LMc12 := Aside0.mk c12
            clear c12
            obtain ⟨y135, hy135⟩ : ∃ y_ : List Int, y_ = (y132 ++ l0) := ⟨_, rfl⟩
            replace H : (punnetlaw06_SumTells.l0 kj5 l0 a1 a2 y135 true 0) = some r := by first | (rw [hy135]; with_reducible exact H) | (have H2_ := (Option.bind_some _ _).symm.trans H; rw [hy135]; with_reducible exact H2_) | (have H2_ := (Option.bind_some _ _).symm.trans H; with_reducible exact H2_) | with_reducible exact H | (rw [hy135]; exact H) | exact H
            have Ny135 := Aside0.mk hy135
            clear hy135
            have H' := Aside0.mk H
            clear H
            go_wp2_with (first | ((with_reducible refine gate_dst (N := 32) rfl ?_); (try (refine gate_guard (by rfl) ?_; dsimp only)); refine Kd.R_lit (Kd.int .u8) _ 5 ?hg (N := 32) ?hd (xs := ([] : List Int)) (inner := []) (ok := fun _ => True) (okp := fun _ => True) ?hr ?hp (fun _ hk => hk) trivial (Below.refl _ _) (Nat.le_refl _) (by simp) ?_; (case hd => rfl); (case hg => rfl); (case hr => first | (go_simp; done) | (go_simp; rfl)); (case hp => exact (Reps.none _ _)); intro v133 w13 ho14 hb hg_ hnew_; clear hg_ hnew_; (first | rw [← Ny132.out] at ho14 | (simp only [Int.reduceToNat] at ho14; rw [← Ny132.out] at ho14)); have n0_ := Aside0.mk (Kd.R_lower ho14 (below_size (by repeat (first | (with_reducible first | exact HB.out | apply below_alloc | apply pw_below_drewN | apply below_drew1) | exact HB.out)))); have n1_ := Aside0.mk (below_step (by repeat (first | (with_reducible first | exact HB.out | apply below_alloc | apply pw_below_drewN | apply below_drew1) | exact HB.out)) hb); clear HB; have HO134 := n0_; have HB := n1_; clear n0_ n1_; clear hb ho14) | ((with_reducible refine gate_builtin (b := .append) (xs := #[.tmp 32, .tmp 33]) rfl ?_); (try (refine gate_guard (by rfl) ?_; dsimp only)); at_builtin; refine Kd.R_append_rows (Kd.int .u8) (w0 := w) w.heap.size rfl (.tmp 32) (.tmp 33) 25 5 (.int .u8 0) 1 rfl Try.underlying25 info5 rfl (by decide) (by omega) v133 y132 l0 _ _ _ (fun _ => True) (fun _ => False) rfl rfl ?aO ?aR (fun _ _ h => h) (fun _ h => h.elim) ?aF ?aB ?aS ?aL ?_; (case aR => repeat (first | exact (Kd.C_below HR0.out HB.out) | (with_reducible refine Kd.C_alloc ?_ _) | (with_reducible refine Kd.C_drewN ?_ _) | (with_reducible refine Kd.C_drew ?_))); (case aB => exact (by repeat (first | (with_reducible first | exact HB.out | apply below_alloc | apply pw_below_drewN | apply below_drew1) | exact HB.out))); (case aF => exact (fun _ _ => trivial)); (case aO => exact (by (with_reducible repeat (first | apply Kd.R_alloc | apply Kd.R_drewN | apply Kd.R_drew)); exact HO134.out)); (case aS => exact (below_size (by repeat (first | (with_reducible first | exact HB.out | apply below_alloc | apply pw_below_drewN | apply below_drew1) | exact HB.out)))); (case aL => have := LMc12.out; omega); intro v136 w15 ho hb hg hat; rw [← Ny135.out] at ho; have n0_ := Aside0.mk (hb); have n1_ := Aside0.mk (ho); clear HB; clear HO134; have HB := n0_; have HO137 := n1_; clear n0_ n1_; clear ho hb hg hat))
            go_loopg [8, 9] kj5 (fun kq v8 v9 w' => ∃ (x7_2 : List Int) (x8_2 : Bool) (x9_2 : Int), v8 = .bool x8_2 ∧ v9 = .int .i64 x9_2 ∧ Aside0 (punnetlaw06_SumTells.l0 kq l0 a1 a2 x7_2 x8_2 x9_2 = some r) ∧ Aside0 (kq ≤ kj5) ∧ Aside0 (Kd.R (Kd.int .u8) 5 w' w.heap.size (fun _ => True) v136 x7_2) ∧ Aside0 (Below w.heap.size w w'))
            case atStart => exact ⟨(y135), (true), (0), (by first | rfl | (simp; done) | (simp [*]; done)), (by first | rfl | (simp; done) | (simp [*]; done)), H', ⟨Nat.le_refl _⟩, ⟨by (with_reducible repeat (first | apply Kd.R_alloc | apply Kd.R_drewN | apply Kd.R_drew)); exact HO137.out⟩, ⟨by repeat (first | (with_reducible first | exact HB.out | apply below_alloc | apply pw_below_drewN | apply below_drew1) | exact HB.out)⟩⟩
            case round =>
              clear H'
              try clear c1
              try clear p2
              try clear c5
              try clear p6
              try clear c8
              try clear c8b0
              try clear c8b1
              try clear c9
              try clear c9b0
              try clear c10
              try clear c10b0
              try clear c11
              try clear c12
              try clear p2
              try clear p6
              obtain ⟨x7_2, x8_2, x9_2, rfl, rfl, HA, HK2, HO_7, HB⟩ := hrel
              cases gk with
              | zero => exact absurd HA.out (by simp [punnetlaw06_SumTells.l0])
              | succ k2 =>
                have H := HA.out
                clear HA
                simp only [punnetlaw06_SumTells.l0] at H
                by_cases c16 : x9_2 < 32
                · rw [if_pos c16] at H
                  have c16b0 : decide (x9_2 < 32) = true := decide_eq_true c16
                  clear c16
                  obtain ⟨ji17, hji17⟩ : ∃ j_ : Int, (IntKind.u64.wrap (x9_2)) = j_ := ⟨_, rfl⟩
                  replace H : (if 0 ≤ (ji17) then (if (Int.tmod (shr .u32 a2 (ji17)) 2) = 1 then (if (wrap64 (a1 + x9_2)) < (wrap64 (8 * (l0.length : Int))) then (if 0 ≤ (wrap64 (Int.tdiv (wrap64 (a1 + x9_2)) 8)) then (if (wrap64 (Int.tdiv (wrap64 (a1 + x9_2)) 8)) < (x7_2.length : Int) then (if 0 ≤ (IntKind.u64.wrap (Int.tmod (wrap64 (a1 + x9_2)) 8)) then (punnetlaw06_SumTells.l0 k2 l0 a1 a2 (x7_2.set ((wrap64 (Int.tdiv (wrap64 (a1 + x9_2)) 8)) : Int).toNat (Go.bits .xor .u8 (rd x7_2 (wrap64 (Int.tdiv (wrap64 (a1 + x9_2)) 8))) (shl .u8 1 (IntKind.u64.wrap (Int.tmod (wrap64 (a1 + x9_2)) 8))))) false (wrap64 (x9_2 + 1))) else (none)) else (none)) else (none)) else (punnetlaw06_SumTells.l0 k2 l0 a1 a2 x7_2 x8_2 (wrap64 (x9_2 + 1)))) else (punnetlaw06_SumTells.l0 k2 l0 a1 a2 x7_2 x8_2 (wrap64 (x9_2 + 1)))) else (none)) = some r := by first | (rw [hji17] at H; exact H) | (simp only [hji17] at H ⊢; exact H)
                  by_cases c18 : 0 ≤ (ji17)
                  · rw [if_pos c18] at H
                    have c18b0 := eq_true c18
                    have c18b1 : decide (0 ≤ (ji17)) = true := decide_eq_true c18
                    clear c18
                    obtain ⟨ji19, hji19⟩ : ∃ j_ : Int, (shr .u32 a2 (ji17)) = j_ := ⟨_, rfl⟩
                    replace H : (if (Int.tmod (ji19) 2) = 1 then (if (wrap64 (a1 + x9_2)) < (wrap64 (8 * (l0.length : Int))) then (if 0 ≤ (wrap64 (Int.tdiv (wrap64 (a1 + x9_2)) 8)) then (if (wrap64 (Int.tdiv (wrap64 (a1 + x9_2)) 8)) < (x7_2.length : Int) then (if 0 ≤ (IntKind.u64.wrap (Int.tmod (wrap64 (a1 + x9_2)) 8)) then (punnetlaw06_SumTells.l0 k2 l0 a1 a2 (x7_2.set ((wrap64 (Int.tdiv (wrap64 (a1 + x9_2)) 8)) : Int).toNat (Go.bits .xor .u8 (rd x7_2 (wrap64 (Int.tdiv (wrap64 (a1 + x9_2)) 8))) (shl .u8 1 (IntKind.u64.wrap (Int.tmod (wrap64 (a1 + x9_2)) 8))))) false (wrap64 (x9_2 + 1))) else (none)) else (none)) else (none)) else (punnetlaw06_SumTells.l0 k2 l0 a1 a2 x7_2 x8_2 (wrap64 (x9_2 + 1)))) else (punnetlaw06_SumTells.l0 k2 l0 a1 a2 x7_2 x8_2 (wrap64 (x9_2 + 1)))) = some r := by first | (rw [hji19] at H; exact H) | (simp only [hji19] at H ⊢; exact H)
                    have hji19_ : (a2 / 2 ^ min (ji17).toNat 32) = ji19 := hji19
                    have hji19z : (ji17) ≤ 32 → (a2 / 2 ^ (ji17).toNat) = ji19 := shr_small hji19
                    by_cases c20 : (Int.tmod (ji19) 2) = 1
                    · rw [if_pos c20] at H
                      have c20b0 : ((Int.tmod (ji19) 2) == 1) = true := beq_iff_eq.mpr c20
                      have c20b1 : ((Int.tmod (ji19) 2) != 1) = false := bne_eq_false_iff_eq.mpr c20
                      clear c20
                      by_cases c21 : (wrap64 (a1 + x9_2)) < (wrap64 (8 * (l0.length : Int)))
                      · rw [if_pos c21] at H
                        have c21b0 : decide ((wrap64 (a1 + x9_2)) < (wrap64 (8 * (l0.length : Int)))) = true := decide_eq_true c21
                        clear c21
                        obtain ⟨ji22, hji22⟩ : ∃ j_ : Int, (wrap64 (Int.tdiv (wrap64 (a1 + x9_2)) 8)) = j_ := ⟨_, rfl⟩
                        replace H : (if 0 ≤ (ji22) then (if (ji22) < (x7_2.length : Int) then (if 0 ≤ (IntKind.u64.wrap (Int.tmod (wrap64 (a1 + x9_2)) 8)) then (punnetlaw06_SumTells.l0 k2 l0 a1 a2 (x7_2.set ((ji22) : Int).toNat (Go.bits .xor .u8 (rd x7_2 (ji22)) (shl .u8 1 (IntKind.u64.wrap (Int.tmod (wrap64 (a1 + x9_2)) 8))))) false (wrap64 (x9_2 + 1))) else (none)) else (none)) else (none)) = some r := by first | (rw [hji22] at H; exact H) | (simp only [hji22] at H ⊢; exact H)
                        have hji22w : (IntKind.i64.wrap (Int.tdiv (wrap64 (a1 + x9_2)) 8)) = ji22 := (i64_w _).trans hji22
                        by_cases c23 : 0 ≤ (ji22)
                        · rw [if_pos c23] at H
                          have c23b0 : decide (0 ≤ (ji22)) = true := decide_eq_true c23
                          clear c23
                          by_cases c24 : (ji22) < (x7_2.length : Int)
                          · rw [if_pos c24] at H
                            have c24b0 : decide ((ji22) < (x7_2.length : Int)) = true := decide_eq_true c24
                            clear c24
                            obtain ⟨ji25, hji25⟩ : ∃ j_ : Int, (IntKind.u64.wrap (Int.tmod (wrap64 (a1 + x9_2)) 8)) = j_ := ⟨_, rfl⟩
                            replace H : (if 0 ≤ (ji25) then (punnetlaw06_SumTells.l0 k2 l0 a1 a2 (x7_2.set ((ji22) : Int).toNat (Go.bits .xor .u8 (rd x7_2 (ji22)) (shl .u8 1 (ji25)))) false (wrap64 (x9_2 + 1))) else (none)) = some r := by first | (rw [hji25] at H; exact H) | (simp only [hji25] at H ⊢; exact H)
                            by_cases c26 : 0 ≤ (ji25)
                            · rw [if_pos c26] at H
                              have c26b0 := eq_true c26
                              have c26b1 : decide (0 ≤ (ji25)) = true := decide_eq_true c26
                              clear c26
                              obtain ⟨ji27, hji27⟩ : ∃ j_ : Int, (shl .u8 1 (ji25)) = j_ := ⟨_, rfl⟩
                              replace H : (punnetlaw06_SumTells.l0 k2 l0 a1 a2 (x7_2.set ((ji22) : Int).toNat (Go.bits .xor .u8 (rd x7_2 (ji22)) (ji27))) false (wrap64 (x9_2 + 1))) = some r := by first | (rw [hji27] at H; exact H) | (simp only [hji27] at H ⊢; exact H)
                              have hji27_ : (IntKind.u8.wrap (1 * 2 ^ min (ji25).toNat 8)) = ji27 := hji27
                              have hji27z : (ji25) ≤ 8 → (IntKind.u8.wrap (1 * 2 ^ (ji25).toNat)) = ji27 := shl_small hji27
                              have hji27u : (IntKind.u8.wrap (2 ^ min (ji25).toNat 8)) = ji27 := by have h_ := hji27_; rw [Int.one_mul] at h_; exact h_
                              have hji27v : (ji25) ≤ 8 → (IntKind.u8.wrap (2 ^ (ji25).toNat)) = ji27 := fun hle_ => by have h_ := hji27z hle_; rw [Int.one_mul] at h_; exact h_
                              obtain ⟨y139, hy139⟩ : ∃ y_ : List Int, y_ = (x7_2.set ((ji22) : Int).toNat (Go.bits .xor .u8 (rd x7_2 (ji22)) (ji27))) := ⟨_, rfl⟩
                              replace H : (punnetlaw06_SumTells.l0 k2 l0 a1 a2 y139 false (wrap64 (x9_2 + 1))) = some r := by first | (rw [hy139]; with_reducible exact H) | (have H2_ := (Option.bind_some _ _).symm.trans H; rw [hy139]; with_reducible exact H2_) | (have H2_ := (Option.bind_some _ _).symm.trans H; with_reducible exact H2_) | with_reducible exact H | (rw [hy139]; exact H) | exact H
                              have Ny139 := Aside0.mk hy139
                              clear hy139
                              have H' := Aside0.mk H
                              clear H
                              obtain ⟨Ao29, co29, eo29⟩ := Kd.R_slice HO_7.out
                              subst eo29
                              have p138 : 0 ≤ ((ji22) : Int) := of_decide_eq_true (by first | (with_reducible assumption) | assumption)
                              have q138 : (ji22) < (x7_2.length : Int) := of_decide_eq_true (by first | (with_reducible assumption) | assumption)
                              obtain ⟨ad138, e138, hx138_0⟩ := Kd.at_int (Kd.R_reads' HO_7.out).2.2 (ji22) p138 q138
                              cases e138
                              replace p138 := eq_true p138
                              replace q138 := eq_true q138
                              have p28 : 0 ≤ ((ji22) : Int) := of_decide_eq_true (by first | (with_reducible assumption) | assumption)
                              have q28 : ((ji22) : Int) < ((x7_2.length : Int) : Int) := of_decide_eq_true (by first | (with_reducible assumption) | assumption)
                              obtain ⟨go28, co28, eo28, gb28, gl28, cl28, HG28⟩ := Kd.R_form HO_7.out (by omega)
                              (first | cases eo28 | (injection eo28 with ea_ en_ ec_; (first | subst ea_ | (injection ea_ with ea_; subst ea_)); subst ec_; clear en_))
                              have GB28 := Aside0.mk gb28
                              have GG28 := Aside0.mk HG28
                              clear gb28 gl28 HG28
                              (first | simp only [add_plain] at hx138_0 | skip)
                              obtain ⟨hx28_0, hf28_0⟩ := Kd.R_celln 0 HO_7.out ((ji22) : Int) p28 q28
                              replace p28 := eq_true p28
                              replace q28 := eq_true q28
                              have HP30 := Kd.R_putg HO_7.out ((ji22) : Int) (Go.bits .xor .u8 (rd x7_2 (ji22)) (ji27))
                              go_wp2_with (first | ((with_reducible refine gate_store (t := 5) (p := 68) rfl ?_); refine store_event (t := 5) (p := 68) (v := ?vo_w31) (w1 := (wr.setCell ⟨go28, ((ji22) : Int).toNat, none⟩ (.int .u8 (Go.bits .xor .u8 (rd x7_2 (ji22)) (ji27))))) ?hg ?ho ?hn ?hr ?_; (case ho => rfl); (case hg => rfl); (case hn => rfl); (case hr => first | (go_simp; done) | (go_simp; rfl)); intro w31 hw; have hg : wr.grownBy w31 (some go28) := (by rw [hw]; exact HP30.2); have hp_ : Kd.R (Kd.int .u8) 5 w31 w.heap.size (fun _ => True) (.slice (some ⟨go28, 0, none⟩) x7_2.length co29) y139 := (by rw [hw, Ny139.out]; exact HP30.1); clear HP30; have n0_ := Aside0.mk (hp_); have n1_ := Aside0.mk ((by rw [hw]; exact below_set (HB.out) GB28.out : Below w.heap.size w w31)); clear HO_7; clear HB; have HO_7 := n0_; have HB := n1_; clear n0_ n1_; clear hg hw hp_))
                              go_roundg k2
                              case measure => have := HJ5.out; have := HK2.out; omega
                              case rel => exact ⟨(y139), (false), (wrap64 (x9_2 + 1)), (by first | rfl | (simp; done) | (simp [*]; done)), (by first | rfl | (simp; done) | (simp [*]; done)), H', ⟨by have := HJ5.out; have := HK2.out; omega⟩, ⟨by (with_reducible repeat (first | apply Kd.R_alloc | apply Kd.R_drewN | apply Kd.R_drew)); exact HO_7.out⟩, ⟨by repeat (first | (with_reducible first | exact HB.out | apply below_alloc | apply pw_below_drewN | apply below_drew1) | exact HB.out)⟩⟩
                            · rw [if_neg c26] at H
                              exact absurd H (by simp)
                          · rw [if_neg c24] at H
                            exact absurd H (by simp)
                        · rw [if_neg c23] at H
                          exact absurd H (by simp)
                      · rw [if_neg c21] at H
                        have c21b0 : decide ((wrap64 (a1 + x9_2)) < (wrap64 (8 * (l0.length : Int)))) = false := decide_eq_false c21
                        clear c21
                        have H' := Aside0.mk H
                        clear H
                        go_wp2
                        go_roundg k2
                        case measure => have := HJ5.out; have := HK2.out; omega
                        case rel => exact ⟨(x7_2), (x8_2), (wrap64 (x9_2 + 1)), (by first | rfl | (simp; done) | (simp [*]; done)), (by first | rfl | (simp; done) | (simp [*]; done)), H', ⟨by have := HJ5.out; have := HK2.out; omega⟩, ⟨by (with_reducible repeat (first | apply Kd.R_alloc | apply Kd.R_drewN | apply Kd.R_drew)); exact HO_7.out⟩, ⟨by repeat (first | (with_reducible first | exact HB.out | apply below_alloc | apply pw_below_drewN | apply below_drew1) | exact HB.out)⟩⟩
                    · rw [if_neg c20] at H
                      have c20b0 : ((Int.tmod (ji19) 2) == 1) = false := beq_eq_false_iff_ne.mpr c20
                      have c20b1 : ((Int.tmod (ji19) 2) != 1) = true := bne_iff_ne.mpr c20
                      have H' := Aside0.mk H
                      clear H
                      go_wp2
                      go_roundg k2
                      case measure => have := HJ5.out; have := HK2.out; omega
                      case rel => exact ⟨(x7_2), (x8_2), (wrap64 (x9_2 + 1)), (by first | rfl | (simp; done) | (simp [*]; done)), (by first | rfl | (simp; done) | (simp [*]; done)), H', ⟨by have := HJ5.out; have := HK2.out; omega⟩, ⟨by (with_reducible repeat (first | apply Kd.R_alloc | apply Kd.R_drewN | apply Kd.R_drew)); exact HO_7.out⟩, ⟨by repeat (first | (with_reducible first | exact HB.out | apply below_alloc | apply pw_below_drewN | apply below_drew1) | exact HB.out)⟩⟩
                  · rw [if_neg c18] at H
                    exact absurd H (by simp)
                · rw [if_neg c16] at H
                  have c16b0 : decide (x9_2 < 32) = false := decide_eq_false c16
                  clear c16
                  replace H := Option.bind_eq_some_iff.mp H
                  obtain ⟨t140, A320, H⟩ := H
                  replace H : ((sum_Of.f k2 t140 x7_2).bind fun t142 => ((sum_Of.f k2 t140 l0).bind fun t143 => (some ((t142 == t143) == x8_2)))) = some r := H
                  have A32 := Aside0.mk A320
                  clear A320
                  replace H := Option.bind_eq_some_iff.mp H
                  obtain ⟨t142, A330, H⟩ := H
                  replace H : ((sum_Of.f k2 t140 l0).bind fun t143 => (some ((t142 == t143) == x8_2))) = some r := H
                  have A33 := Aside0.mk A330
                  clear A330
                  replace H := Option.bind_eq_some_iff.mp H
                  obtain ⟨t143, A340, H⟩ := H
                  replace H : (some ((t142 == t143) == x8_2)) = some r := H
                  have A34 := Aside0.mk A340
                  clear A340
                  obtain rfl := Option.some.inj H
                  try go_wp2_with (first | ((with_reducible refine gate_callee (f := 16) rfl ?_); refine goesL_ (some 69) rfl rfl Try.func16 (by kernel_rfl) rfl #[] rfl (by (try simp only [List.map_toArray, List.map_cons, List.map_nil]); first | done | rfl | (simp only [List.length_drop, List.length_take]; rfl)) ?_; (with_reducible refine (sum_Make.calls  t140 _ A32.out).mono ?_); rintro e w35 ⟨rfl, hb⟩; refine ⟨_, rfl, ?_⟩; have n0_ := Aside0.mk (Kd.R_below (by (with_reducible repeat (first | apply Kd.R_alloc | apply Kd.R_drewN | apply Kd.R_drew)); exact HO_7.out) hb); have n1_ := Aside0.mk (below_step (by repeat (first | (with_reducible first | exact HB.out | apply below_alloc | apply pw_below_drewN | apply below_drew1) | exact HB.out)) hb); clear HO_7; clear HB; have HO_7 := n0_; have HB := n1_; clear n0_ n1_; (try clear hb); (try clear hb2); (try clear hk); (try clear hi)) | ((with_reducible refine gate_dst (N := 11) rfl ?_); (try (refine gate_guard (by rfl) ?_; dsimp only)); refine tab_alloc_event (t := 24) (x := t140) rfl rfl rfl rfl rfl rfl (by first | rfl | (go_simp; done)) (by first | rfl | (go_simp; done)) (by kernel_rfl) ?_; intro gb141 hg w36 hbox hb; have n0_ := Aside0.mk (Kd.R_below (by (with_reducible repeat (first | apply Kd.R_alloc | apply Kd.R_drewN | apply Kd.R_drew)); exact HO_7.out) hb); have n1_ := Aside0.mk (below_step (by repeat (first | (with_reducible first | exact HB.out | apply below_alloc | apply pw_below_drewN | apply below_drew1) | exact HB.out)) hb); have n2_ := Aside0.mk (hbox); have n3_ := Aside0.mk ((by rw [hg]; exact (below_size (by repeat (first | (with_reducible first | exact HB.out | apply below_alloc | apply pw_below_drewN | apply below_drew1) | exact HB.out))) : w.heap.size ≤ gb141)); have n4_ := Aside0.mk ((by rw [hg]; exact (below_size (by repeat (first | (with_reducible first | exact HB.out | apply below_alloc | apply pw_below_drewN | apply below_drew1) | exact HB.out))) : w.heap.size ≤ gb141)); clear HO_7; clear HB; have HO_7 := n0_; have HB := n1_; have BK141 := n2_; have GW141 := n3_; have GE141 := n4_; clear n0_ n1_ n2_ n3_ n4_; clear hb hbox hg))
                  have n0_ := Aside0.mk (Kd.R_drew HO_7.out)
                  have n1_ := Aside0.mk (blk_drew BK141.out)
                  have n2_ := Aside0.mk (below_drew1 HB.out)
                  clear HO_7
                  clear BK141
                  clear HB
                  have HO_7 := n0_
                  have BK141 := n1_
                  have HB := n2_
                  clear n0_ n1_ n2_
                  obtain ⟨Ao38, co38, eo38⟩ := Kd.R_slice HO_7.out
                  (first | subst eo38 | (injection eo38 with f1_ f2_ f3_; have f4_ := f1_.symm; have f5_ := f3_.symm; clear f1_ f2_ f3_; subst f4_; subst f5_))
                  refine start_ (n := 10) (S := fun w' => (Instr.loadAt 24 (.pointer (some ⟨gb141, 0, none⟩))).run Try.prog w' = .ok (.agg (tabC t140)) w') (ds := []) #[false, false, false, false, false, false, false, false, false, false] (by kernel_rfl) rfl rfl (tab_loadAt Try.underlying24 (show (Try.prog.info? 24).map (·.size) = some 256 from by kernel_rfl) BK141.out) (fun hHeld => ?_); refine with_tabW punnetlaw06_SumTells.tab15 punnetlaw06_SumTells.bits15 (fun HT_ HW_ => ?_)
                  generalize w36.drew = w37 at HO_7 BK141 HB hHeld ⊢
                  refine pure_ (i := 1) (N := some 71) (v := ?_) (a' := ?_) #[false, true, false, false, false, false, false, false, false, false] rfl rfl (any_of HT_.out (by kernel_rfl)) (fun _ _ _ h => h) (Or.inl ⟨by rfl, ?_⟩) ?_ ?_
                  rotate_left
                  · intro w'
                    go_simp
                    with_reducible rfl
                  rotate_left
                  · simp only [Act.put, List.setIfInBounds_toArray, List.set_cons_zero, List.set_cons_succ, i64_w, i32_w]
                    rfl
                  refine pure_ (i := 4) (N := some 74) (v := ?_) (a' := ?_) #[false, true, false, false, true, false, false, false, false, false] rfl rfl (any_of HT_.out (by kernel_rfl)) (fun _ _ _ h => h) (Or.inl ⟨by rfl, ?_⟩) ?_ ?_
                  rotate_left
                  · intro w'
                    go_simp
                    with_reducible rfl
                  rotate_left
                  · simp only [Act.put, List.setIfInBounds_toArray, List.set_cons_zero, List.set_cons_succ, i64_w, i32_w]
                    rfl
                  refine pure_ (i := 7) (N := some 77) (v := ?_) (a' := ?_) #[false, true, false, false, true, false, false, true, false, false] rfl rfl (any_of HT_.out (by kernel_rfl)) (fun _ _ _ h => h) (Or.inl ⟨by rfl, ?_⟩) ?_ ?_
                  rotate_left
                  · intro w'
                    go_simp
                    with_reducible rfl
                  rotate_left
                  · simp only [Act.put, List.setIfInBounds_toArray, List.set_cons_zero, List.set_cons_succ, i64_w, i32_w]
                    rfl
                  refine take_ (i := 0) (N := some 70) (v := ?_) (a' := ?_) #[true, true, false, false, true, false, false, true, false, false] rfl rfl (take_ofW HT_.out HW_.out (by kernel_rfl)) (fun _ _ _ h => h) (Or.inl ⟨by rfl, ?_⟩) hHeld ?_ ?_
                  rotate_left
                  · intro w' s0
                    exact tab_exec rfl rfl (by assumption)
                  rotate_left
                  · simp only [Act.put, List.setIfInBounds_toArray, List.set_cons_zero, List.set_cons_succ, i64_w, i32_w]
                    rfl
                  refine take_ (i := 3) (N := some 73) (v := ?_) (a' := ?_) #[true, true, false, true, true, false, false, true, false, false] rfl rfl (take_ofW HT_.out HW_.out (by kernel_rfl)) (fun _ _ _ h => h) (Or.inl ⟨by rfl, ?_⟩) hHeld ?_ ?_
                  rotate_left
                  · intro w' s0
                    exact tab_exec rfl rfl (by assumption)
                  rotate_left
                  · simp only [Act.put, List.setIfInBounds_toArray, List.set_cons_zero, List.set_cons_succ, i64_w, i32_w]
                    rfl
                  refine one_ (i := 2) (N := some 72) #[true, true, true, true, true, false, false, true, false, false] rfl rfl (one_of HT_.out (by kernel_rfl)) (by decide) (fun K hK => ?_)
                  refine goes_ Try.func11 (by kernel_rfl) rfl #[.agg (tabC t140), .slice Ao38 x7_2.length co38] (by rfl) rfl rfl (by (try simp only [List.map_toArray, List.map_cons, List.map_nil]); first | done | rfl | (simp only [List.length_drop, List.length_take]; rfl)) ?_
                  with_reducible refine (sum_Of.calls k2 t140 _ _ x7_2 t142 _ ?side1 ?side2 A33.out).mono ?_
                  (case side1 => repeat (first | exact (Kd.R_reads' HO_7.out).2.2 | (with_reducible refine Kd.C_alloc ?_ _) | (with_reducible refine Kd.C_drewN ?_ _) | (with_reducible refine Kd.C_drew ?_)))
                  (case side2 => exact (Kd.R_reads' HO_7.out).2.1)
                  rintro e w39 ⟨rfl, hb⟩
                  refine ⟨_, rfl, ?_⟩
                  have n0_ := Aside0.mk (Kd.R_below (by (with_reducible repeat (first | apply Kd.R_alloc | apply Kd.R_drewN | apply Kd.R_drew)); exact HO_7.out) hb)
                  have n1_ := Aside0.mk (blk_below (g := gb141) (o := .cells (tabC t140) 24 (0, 0)) (by (with_reducible repeat (first | refine blk_drewN ?_ _ | refine blk_drew ?_ | refine blk_alloc ?_ _)); exact BK141.out) hb)
                  have n2_ := Aside0.mk (below_step (by repeat (first | (with_reducible first | exact HB.out | apply below_alloc | apply pw_below_drewN | apply below_drew1 | refine below_set ?_ GE141.out) | exact HB.out)) hb)
                  clear HO_7
                  clear BK141
                  clear HB
                  have HO_7 := n0_
                  have BK141 := n1_
                  have HB := n2_
                  clear n0_ n1_ n2_
                  (try clear hb)
                  (try clear hb2)
                  (try clear hk)
                  (try clear hi)
                  refine hK.out _ _ (tab_loadAt Try.underlying24 (show (Try.prog.info? 24).map (·.size) = some 256 from by kernel_rfl) BK141.out) (fun hHeld => ?_)
                  clear hK K
                  refine norm_ (a' := ?_) ?_ ?_
                  rotate_left
                  · show Act.put _ (some 72) _ = _
                    simp only [Act.put, List.setIfInBounds_toArray, List.set_cons_zero, List.set_cons_succ, i64_w, i32_w]
                    rfl
                  refine one_ (i := 5) (N := some 75) #[true, true, true, true, true, true, false, true, false, false] rfl rfl (one_of HT_.out (by kernel_rfl)) (by decide) (fun K hK => ?_)
                  refine goes_ Try.func11 (by kernel_rfl) rfl #[.agg (tabC t140), .slice A0 l0.length c0] (by rfl) rfl rfl (by (try simp only [List.map_toArray, List.map_cons, List.map_nil]); first | done | rfl | (simp only [List.length_drop, List.length_take]; rfl)) ?_
                  with_reducible refine (sum_Of.calls k2 t140 _ _ l0 t143 _ ?side1 ?side2 A34.out).mono ?_
                  (case side1 => repeat (first | exact (Kd.C_below HR0.out HB.out) | (with_reducible refine Kd.C_alloc ?_ _) | (with_reducible refine Kd.C_drewN ?_ _) | (with_reducible refine Kd.C_drew ?_)))
                  (case side2 => exact HC0.out)
                  rintro e w40 ⟨rfl, hb⟩
                  refine ⟨_, rfl, ?_⟩
                  have n0_ := Aside0.mk (Kd.R_below (by (with_reducible repeat (first | apply Kd.R_alloc | apply Kd.R_drewN | apply Kd.R_drew)); exact HO_7.out) hb)
                  have n1_ := Aside0.mk (blk_below (g := gb141) (o := .cells (tabC t140) 24 (0, 0)) (by (with_reducible repeat (first | refine blk_drewN ?_ _ | refine blk_drew ?_ | refine blk_alloc ?_ _)); exact BK141.out) hb)
                  have n2_ := Aside0.mk (below_step (by repeat (first | (with_reducible first | exact HB.out | apply below_alloc | apply pw_below_drewN | apply below_drew1 | refine below_set ?_ GE141.out) | exact HB.out)) hb)
                  clear HO_7
                  clear BK141
                  clear HB
                  have HO_7 := n0_
                  have BK141 := n1_
                  have HB := n2_
                  clear n0_ n1_ n2_
                  (try clear hb)
                  (try clear hb2)
                  (try clear hk)
                  (try clear hi)
                  refine hK.out _ _ (tab_loadAt Try.underlying24 (show (Try.prog.info? 24).map (·.size) = some 256 from by kernel_rfl) BK141.out) (fun hHeld => ?_)
                  clear hK K
                  refine norm_ (a' := ?_) ?_ ?_
                  rotate_left
                  · show Act.put _ (some 75) _ = _
                    simp only [Act.put, List.setIfInBounds_toArray, List.set_cons_zero, List.set_cons_succ, i64_w, i32_w]
                    rfl
                  refine pure_ (i := 6) (N := some 76) (v := ?_) (a' := ?_) #[true, true, true, true, true, true, true, true, false, false] rfl rfl (any_of HT_.out (by kernel_rfl)) (fun _ _ _ h => h) (Or.inl ⟨by rfl, ?_⟩) ?_ ?_
                  rotate_left
                  · intro w'
                    go_simp
                    with_reducible rfl
                  rotate_left
                  · simp only [Act.put, List.setIfInBounds_toArray, List.set_cons_zero, List.set_cons_succ, i64_w, i32_w]
                    rfl
                  refine pure_ (i := 8) (N := some 78) (v := ?_) (a' := ?_) #[true, true, true, true, true, true, true, true, true, false] rfl rfl (any_of HT_.out (by kernel_rfl)) (fun _ _ _ h => h) (Or.inl ⟨by rfl, ?_⟩) ?_ ?_
                  rotate_left
                  · intro w'
                    go_simp
                    with_reducible rfl
                  rotate_left
                  · simp only [Act.put, List.setIfInBounds_toArray, List.set_cons_zero, List.set_cons_succ, i64_w, i32_w]
                    rfl
                  refine pure_ (i := 9) (N := some 6) (v := ?_) (a' := ?_) #[true, true, true, true, true, true, true, true, true, true] rfl rfl (any_of HT_.out (by kernel_rfl)) (fun _ _ _ h => h) (Or.inl ⟨by rfl, ?_⟩) ?_ ?_
                  rotate_left
                  · intro w'
                    go_simp
                    with_reducible rfl
                  rotate_left
                  · simp only [Act.put, List.setIfInBounds_toArray, List.set_cons_zero, List.set_cons_succ, i64_w, i32_w]
                    rfl
                  refine done_ (done_of HT_.out (by kernel_rfl)) ?_
                  try go_wp2
                  go_ret
                  exact ⟨by first | rfl | (simp [errW_none, errW_some] <;> rfl) | (simp [*, errW_none, errW_some] <;> rfl), by repeat (first | (with_reducible first | exact HB.out | apply below_alloc | apply pw_below_drewN | apply below_drew1 | refine below_set ?_ GE141.out) | exact HB.out)⟩
          · rw [if_neg c12] at H
            exact absurd H (by simp)
  · replace c5 := Bool.eq_false_iff.mpr c5
    subst c5
    have H1 : (some false) = some r := by rw [if_neg (show ¬ (false = true) by decide)] at H; exact H
    clear H
    have H := H1
    clear H1
    obtain rfl := Option.some.inj H
    go_enter Try.func5, Try.ntmps5
    go_wp2_with (first | ((with_reducible refine gate_callee (f := 10) rfl ?_); refine goesL_ (some 12) rfl rfl Try.func10 (by kernel_rfl) rfl #[] rfl (by (try simp only [List.map_toArray, List.map_cons, List.map_nil]); first | done | rfl | (simp only [List.length_drop, List.length_take]; rfl)) ?_; (with_reducible refine (punnetlaw06_awake.calls  false _ A4.out).mono ?_); rintro e w41 ⟨rfl, hb⟩; refine ⟨_, rfl, ?_⟩; have n0_ := Aside0.mk (below_step (by repeat (first | (with_reducible first | exact HB.out | apply below_alloc | apply pw_below_drewN | apply below_drew1) | exact HB.out)) hb); clear HB; have HB := n0_; clear n0_; (try clear hb); (try clear hb2); (try clear hk); (try clear hi)))
    go_ret
    exact ⟨by first | rfl | (simp [errW_none, errW_some] <;> rfl) | (simp [*, errW_none, errW_some] <;> rfl), by repeat (first | (with_reducible first | exact HB.out | apply below_alloc | apply pw_below_drewN | apply below_drew1) | exact HB.out)⟩

/-- THE ONE PURE STATEMENT of punnetlaw06_SumTells: yours. -/
def punnetlaw06_SumTells.Pure : Prop := ∀ (l0 : List Int) (a1 : Int) (a2 : Int), l0.length ≤ maxLen → l0.length * 1 ≤ 140737488351232 → (∀ x ∈ l0, (Lit.int .u8 x).wf = true) → (Lit.int .i64 a1).wf = true → (Lit.int .u32 a2).wf = true → ∃ k, punnetlaw06_SumTells.f k l0 a1 a2 = some true
theorem punnetlaw06_SumTells.walk (P : punnetlaw06_SumTells.Pure) (a0 : Option Addr) (len0 cap0 : Nat) (z0 : List Int) (a1 : Int) (a2 : Int) (w : World) (w0 : (a0 = none ∧ len0 = 0 ∧ cap0 = 0 ∧ z0 = []) ∨ ∃ x, a0 = some x ∧ len0 ≤ cap0 ∧ cap0 ≤ maxLen ∧ z0.length = cap0 ∧ (∀ i, i < z0.length → w.cell? (x.add i) = some (.int .u8 (z0.getD i 0))) ∧ ∀ n ∈ z0, (Lit.int .u8 n).wf = true) (y0 : len0 * 1 ≤ 140737488351232) (w1 : (Lit.int .i64 a1).wf = true) (w2 : (Lit.int .u32 a2).wf = true) :
    Calls Try.prog 5 #[.slice a0 len0 cap0, .int .i64 a1, .int .u32 a2] w fun e w' => e = .returned (.bool true) ∧ Below w.heap.size w w' := by
  obtain ⟨l0, rfl, hr0, hm0, hw0, hc0⟩ := ReadsInt.ofRowC w0
  obtain ⟨k, h⟩ := P l0 a1 a2 hm0 y0 hw0 w1 w2
  refine (punnetlaw06_SumTells.calls k _ _ l0 a1 a2 true w (Kd.C_of_reads (d := (0 : Int)) (h1 := fun _ => rfl) hr0) hc0 h).mono ?_
  rintro e w' ⟨rfl, hd⟩
  exact ⟨rfl, hd⟩

end Go.Proofs.Ytcgbcnalofecgaa.Q
