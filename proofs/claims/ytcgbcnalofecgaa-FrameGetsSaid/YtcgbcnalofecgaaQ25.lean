/- A function of the program or a law's row comes to what the Lean function beside it says; no condition beyond those typed. Written by a program of this workplace; Lean checks it. -/
import Derived.Test.YtcgbcnalofecgaaQ0
import Derived.Test.YtcgbcnalofecgaaQ20
namespace Go.Proofs.Ytcgbcnalofecgaa.Q
open Go.RowKit Go.Proofs.YtcgbcnalofecgaaW.PrintWords Go.Proofs.YtcgbcnalofecgaaW.PrintLast Go.Proofs.YtcgbcnalofecgaaW.PrintMore
attribute [local go_sem] max2_int min2_int max_two min_two max_three min_three max_four min_four   -- for this text's walks alone
set_option linter.unusedVariables false
set_option linter.unusedSimpArgs false

/-! ### punnetref07_Get: function 27 -/
def punnetref07_Get.j0 : Nat → Int → List Int → Int → Bool → Tab → Option (List Int × Int × Bool)
  | 0, _, _, _, _, _ => none
  | k + 1, x1, x9, x10, x48, x252000 => if x48 = true then (some (([] : List Int), 0, false)) else (if 8 ≤ (wrap64 (8 + x10)) then (if (wrap64 (8 + x10)) ≤ (x9.length : Int) then ((some ((x9.take ((wrap64 (8 + x10)) : Int).toNat).drop 8 : List Int)).bind fun y261 => ((punnetref07_Frame.f k x252000 y261).bind fun t266 => (if 0 ≤ (wrap64 (8 + x10)) then (if (strOfNums t266).toList = (strOfNums (x9.take ((wrap64 (8 + x10)) : Int).toNat)).toList then (some (y261, wrap64 ((wrap64 (x1 + 8)) + x10), true)) else (some (([] : List Int), 0, false))) else (none)))) else (none)) else (none))
def punnetref07_Get.f (k : Nat) (l0 : List Int) (a1 : Int) (a2 : Tab) : Option (List Int × Int × Bool) := if 0 ≤ a1 then (if a1 ≤ (l0.length : Int) then ((some (l0.drop (a1 : Int).toNat : List Int)).bind fun y252 => (if (y252.length : Int) < 8 then (some (([] : List Int), 0, false)) else (if 0 < (y252.length : Int) then (if 1 < (y252.length : Int) then (if 2 < (y252.length : Int) then (if 3 < (y252.length : Int) then (if (wrap64 ((wrap64 ((wrap64 ((wrap64 (rd y252 0)) + (wrap64 (256 * (wrap64 (rd y252 1)))))) + (wrap64 (65536 * (wrap64 (rd y252 2)))))) + (wrap64 (16777216 * (wrap64 (rd y252 3)))))) > 60000 then (punnetref07_Get.j0 k a1 y252 (wrap64 ((wrap64 ((wrap64 ((wrap64 (rd y252 0)) + (wrap64 (256 * (wrap64 (rd y252 1)))))) + (wrap64 (65536 * (wrap64 (rd y252 2)))))) + (wrap64 (16777216 * (wrap64 (rd y252 3)))))) true a2) else (punnetref07_Get.j0 k a1 y252 (wrap64 ((wrap64 ((wrap64 ((wrap64 (rd y252 0)) + (wrap64 (256 * (wrap64 (rd y252 1)))))) + (wrap64 (65536 * (wrap64 (rd y252 2)))))) + (wrap64 (16777216 * (wrap64 (rd y252 3)))))) (decide ((wrap64 (8 + (wrap64 ((wrap64 ((wrap64 ((wrap64 (rd y252 0)) + (wrap64 (256 * (wrap64 (rd y252 1)))))) + (wrap64 (65536 * (wrap64 (rd y252 2)))))) + (wrap64 (16777216 * (wrap64 (rd y252 3)))))))) > (y252.length : Int))) a2)) else (none)) else (none)) else (none)) else (none)))) else (none)) else (none)
theorem punnetref07_Get.mono_l : ∀ k, (∀ y0 y1 y2 y3 y4, LeO (punnetref07_Get.j0 k y0 y1 y2 y3 y4) (punnetref07_Get.j0 (k + 1) y0 y1 y2 y3 y4))
  | 0 => fun _ _ _ _ _ r h => by simp [punnetref07_Get.j0] at h
  | k + 1 => by
    have ih0 := punnetref07_Get.mono_l k
    · intro y0 y1 y2 y3 y4
      unfold punnetref07_Get.j0
      repeat' first
      | (with_reducible exact ih0 _ _ _ _ _)
      | (with_reducible exact punnetref07_Frame.mono _ _ _)
      | (with_reducible exact LeO.refl _)
      | (with_reducible exact LeO.none _)
      | (with_reducible refine LeO.ite ?_ ?_)
      | (with_reducible refine LeO.bind ?_ (fun _ => ?_))
      | exact ih0 _ _ _ _ _
      | exact punnetref07_Frame.mono _ _ _
      | exact LeO.none _
      | refine LeO.ite ?_ ?_
      | refine LeO.bind ?_ (fun _ => ?_)
theorem punnetref07_Get.mono : ∀ a0 a1 a2 k, LeO (punnetref07_Get.f k a0 a1 a2) (punnetref07_Get.f (k + 1) a0 a1 a2) := by
  intro a0 a1 a2 k
  have ih0 := punnetref07_Get.mono_l k
  unfold punnetref07_Get.f
  repeat' first
      | (with_reducible exact ih0 _ _ _ _ _)
      | (with_reducible exact punnetref07_Frame.mono _ _ _)
      | (with_reducible exact LeO.refl _)
      | (with_reducible exact LeO.none _)
      | (with_reducible refine LeO.ite ?_ ?_)
      | (with_reducible refine LeO.bind ?_ (fun _ => ?_))
      | exact ih0 _ _ _ _ _
      | exact punnetref07_Frame.mono _ _ _
      | exact LeO.none _
      | refine LeO.ite ?_ ?_
      | refine LeO.bind ?_ (fun _ => ?_)
def punnetref07_Get.T4 : Bool × List (List Nat × List Nat) := (true, [([], []), ([0], [0]), ([1], [1]), ([2], [2]), ([], []), ([4], [4]), ([5], [5]), ([6], [6]), ([7], [7]), ([3, 8], [3, 8]), ([], []), ([10], [10]), ([11], [11]), ([12], [12]), ([13], [13]), ([9, 14], [9, 14]), ([], []), ([16], [16]), ([17], [17]), ([18], [18]), ([19], [19]), ([15, 20], [15, 20]), ([21, 0, 1, 2, 3, 4, 5, 6, 7, 8, 9, 10, 11, 12, 13, 14, 15, 16, 17, 18, 19, 20, 21], [21])])
def punnetref07_Get.B4 : List Nat := [0, 1, 3, 7, 0, 16, 48, 112, 240, 511, 0, 1024, 3072, 7168, 15360, 32767, 0, 65536, 196608, 458752, 983040, 2097151, 4194303]
theorem punnetref07_Get.tab4 : rtab .any (opsOf Try.f27 4) = punnetref07_Get.T4 := by kernel_rfl
theorem punnetref07_Get.bits4 : waitsOk punnetref07_Get.T4.2 punnetref07_Get.B4 = true := by kernel_rfl
def punnetref07_Get.T8 : Bool × List (List Nat × List Nat) := (true, [([], []), ([], []), ([0, 1], [0, 1]), ([2], [2]), ([], []), ([], []), ([5], [5]), ([4, 6], [4, 6]), ([7], [7]), ([3, 8], [3, 8])])
def punnetref07_Get.B8 : List Nat := [0, 0, 3, 7, 0, 0, 32, 112, 240, 511]
theorem punnetref07_Get.tab8 : rtab .any (opsOf Try.f27 8) = punnetref07_Get.T8 := by kernel_rfl
theorem punnetref07_Get.bits8 : waitsOk punnetref07_Get.T8.2 punnetref07_Get.B8 = true := by kernel_rfl
set_option maxHeartbeats 8000000 in
set_option maxRecDepth 100000 in
theorem punnetref07_Get.calls (k : Nat) (P0_ : Nat → Prop) (A0 : Option Addr) (c0 : Nat) (l0 : List Int) (a1 : Int) (a2 : Tab) (r1 : List Int) (r2 : Int) (r3 : Bool) (w : World) (hs0 : Kd.V (Kd.int .u8) 5 w w.heap.size (fun k_ => P0_ k_) (.slice A0 l0.length c0) l0) (h : punnetref07_Get.f k l0 a1 a2 = some (r1, r2, r3)) :
    Calls Try.prog 27 #[.slice A0 l0.length c0, .int .i64 a1, .agg (tabC a2)] w fun e w' => ∃ v0_ : Value, e = .returned (.tuple #[v0_, .int .i64 r2, .bool r3]) ∧ Kd.V (Kd.int .u8) 5 w' w.heap.size (fun k_ => (P0_ k_ ∨ w.heap.size ≤ k_)) v0_ r1 ∧ Below w.heap.size w w' := by
  have HO0 := Aside0.mk (show Kd.V (Kd.int .u8) 5 w w.heap.size (fun k_ => (P0_ k_ ∨ w.heap.size ≤ k_)) (.slice A0 l0.length c0) l0 from Kd.V_mono hs0 (fun k_ hk => .inl hk))
  have HB := Aside0.mk (Below.refl w.heap.size w)
  have H : (if 0 ≤ a1 then (if a1 ≤ (l0.length : Int) then ((some (l0.drop (a1 : Int).toNat : List Int)).bind fun y252 => (if (y252.length : Int) < 8 then (some (([] : List Int), 0, false)) else (if 0 < (y252.length : Int) then (if 1 < (y252.length : Int) then (if 2 < (y252.length : Int) then (if 3 < (y252.length : Int) then (if (wrap64 ((wrap64 ((wrap64 ((wrap64 (rd y252 0)) + (wrap64 (256 * (wrap64 (rd y252 1)))))) + (wrap64 (65536 * (wrap64 (rd y252 2)))))) + (wrap64 (16777216 * (wrap64 (rd y252 3)))))) > 60000 then (punnetref07_Get.j0 k a1 y252 (wrap64 ((wrap64 ((wrap64 ((wrap64 (rd y252 0)) + (wrap64 (256 * (wrap64 (rd y252 1)))))) + (wrap64 (65536 * (wrap64 (rd y252 2)))))) + (wrap64 (16777216 * (wrap64 (rd y252 3)))))) true a2) else (punnetref07_Get.j0 k a1 y252 (wrap64 ((wrap64 ((wrap64 ((wrap64 (rd y252 0)) + (wrap64 (256 * (wrap64 (rd y252 1)))))) + (wrap64 (65536 * (wrap64 (rd y252 2)))))) + (wrap64 (16777216 * (wrap64 (rd y252 3)))))) (decide ((wrap64 (8 + (wrap64 ((wrap64 ((wrap64 ((wrap64 (rd y252 0)) + (wrap64 (256 * (wrap64 (rd y252 1)))))) + (wrap64 (65536 * (wrap64 (rd y252 2)))))) + (wrap64 (16777216 * (wrap64 (rd y252 3)))))))) > (y252.length : Int))) a2)) else (none)) else (none)) else (none)) else (none)))) else (none)) else (none)) = some (r1, r2, r3) := h
  clear h
  by_cases c4 : 0 ≤ a1
  · rw [if_pos c4] at H
    have c4b0 := eq_true c4
    have c4b1 : decide (0 ≤ a1) = true := decide_eq_true c4
    clear c4
    by_cases c5 : a1 ≤ (l0.length : Int)
    · rw [if_pos c5] at H
      have c5b0 := eq_true c5
      have c5b1 : decide (a1 ≤ (l0.length : Int)) = true := decide_eq_true c5
      clear c5
      obtain ⟨y252, hy252⟩ : ∃ y_ : List Int, y_ = (l0.drop (a1 : Int).toNat) := ⟨_, rfl⟩
      replace H : (if (y252.length : Int) < 8 then (some (([] : List Int), 0, false)) else (if 0 < (y252.length : Int) then (if 1 < (y252.length : Int) then (if 2 < (y252.length : Int) then (if 3 < (y252.length : Int) then (if (wrap64 ((wrap64 ((wrap64 ((wrap64 (rd y252 0)) + (wrap64 (256 * (wrap64 (rd y252 1)))))) + (wrap64 (65536 * (wrap64 (rd y252 2)))))) + (wrap64 (16777216 * (wrap64 (rd y252 3)))))) > 60000 then (punnetref07_Get.j0 k a1 y252 (wrap64 ((wrap64 ((wrap64 ((wrap64 (rd y252 0)) + (wrap64 (256 * (wrap64 (rd y252 1)))))) + (wrap64 (65536 * (wrap64 (rd y252 2)))))) + (wrap64 (16777216 * (wrap64 (rd y252 3)))))) true a2) else (punnetref07_Get.j0 k a1 y252 (wrap64 ((wrap64 ((wrap64 ((wrap64 (rd y252 0)) + (wrap64 (256 * (wrap64 (rd y252 1)))))) + (wrap64 (65536 * (wrap64 (rd y252 2)))))) + (wrap64 (16777216 * (wrap64 (rd y252 3)))))) (decide ((wrap64 (8 + (wrap64 ((wrap64 ((wrap64 ((wrap64 (rd y252 0)) + (wrap64 (256 * (wrap64 (rd y252 1)))))) + (wrap64 (65536 * (wrap64 (rd y252 2)))))) + (wrap64 (16777216 * (wrap64 (rd y252 3)))))))) > (y252.length : Int))) a2)) else (none)) else (none)) else (none)) else (none))) = some (r1, r2, r3) := by first | (rw [hy252]; with_reducible exact H) | (have H2_ := (Option.bind_some _ _).symm.trans H; rw [hy252]; with_reducible exact H2_) | (have H2_ := (Option.bind_some _ _).symm.trans H; with_reducible exact H2_) | with_reducible exact H | (rw [hy252]; exact H) | exact H
      have Ny252 := Aside0.mk hy252
      clear hy252
      by_cases c6 : (y252.length : Int) < 8
      · rw [if_pos c6] at H
        have c6b0 : decide ((y252.length : Int) < 8) = true := decide_eq_true c6
        have c6b1 : decide (y252.length < 8) = true := decide_eq_true (by omega)
        clear c6
        simp only [Option.some.injEq, Prod.mk.injEq] at H
        obtain ⟨rfl, rfl, rfl⟩ := H
        go_enter Try.func27, Try.ntmps27
        go_wp2_with (first | ((with_reducible refine gate_dst (N := 5) rfl ?_); (try (refine gate_guard (by rfl) ?_; dsimp only)); refine box_event ?hg (N := 5) ?hd (cs := tabC a2) (t := 24) ?hr ?_; (case hd => rfl); (case hg => rfl); (case hr => first | (go_simp; done) | (go_simp; rfl)); intro gb251 hg w7 hbox hb; have n0_ := Aside0.mk (Kd.V_below (Kd.V_elderB (by (with_reducible repeat (first | apply Kd.V_alloc | apply Kd.V_drewN | apply Kd.V_drew)); exact HO0.out) gb251 (Nat.le_of_eq hg.symm)) hb); have n1_ := Aside0.mk (below_step (by repeat (first | (with_reducible first | exact HB.out | apply below_alloc | apply pw_below_drewN | apply below_drew1) | exact HB.out)) hb); have n2_ := Aside0.mk (hbox); have n3_ := Aside0.mk ((by rw [hg]; exact (below_size (by repeat (first | (with_reducible first | exact HB.out | apply below_alloc | apply pw_below_drewN | apply below_drew1) | exact HB.out))) : w.heap.size ≤ gb251)); have n4_ := Aside0.mk ((by rw [hg]; exact (below_size (by repeat (first | (with_reducible first | exact HB.out | apply below_alloc | apply pw_below_drewN | apply below_drew1) | exact HB.out))) : w.heap.size ≤ gb251)); clear HO0; clear HB; have HO0 := n0_; have HB := n1_; have BK251 := n2_; have GW251 := n3_; have GE251 := n4_; clear n0_ n1_ n2_ n3_ n4_; clear hb hbox hg; have q8 : (a1 : Int) ≤ ((l0.length : Int) : Int) := of_decide_eq_true (by first | (with_reducible assumption) | assumption); obtain ⟨i08, hi08, _, hsz8, _⟩ := info_parts info5; have hroom8 : l0.length ≤ c0 := (Kd.V_reads' HO0.out).2.1; have hC8 : Kd.F (Kd.int .u8) _ _ A0 l0.length l0 := (Kd.V_at (base := w.heap.size) HO0.out).2.2; have q08 : (0 : Int) ≤ (a1 : Int) := of_decide_eq_true (by first | (with_reducible assumption) | assumption); have hcut8 := cut_from (P := Try.prog) 25 5 .i64 Try.underlying25 hi08 1 hsz8 A0 l0.length c0 a1 q08 q8; have hr8 := Kd.F_cut (m := (a1 : Int).toNat) (c := c0) hC8 (by omega) hroom8; obtain ⟨A8, hA8⟩ : ∃ A1, A1 = (if c0 = (a1 : Int).toNat then A0 else (A0 : Option Addr).map (·.add ((a1 : Int).toNat * 1))) := ⟨_, rfl⟩; obtain ⟨c8, hc8⟩ : ∃ c1, c1 = c0 - (a1 : Int).toNat := ⟨_, rfl⟩; have hy8 : y252.length = l0.length - (a1 : Int).toNat := (by rw [Ny252.out, List.length_drop] <;> omega); rw [show (l0).drop (a1 : Int).toNat = y252 from Ny252.out.symm] at hr8; replace hr8 : Kd.F (Kd.int .u8) _ _ A8 y252.length y252 := (by rw [hA8]; exact hr8); rw [← hy8, ← hA8, ← hc8] at hcut8; have HO256 := Aside0.mk (show Kd.V (Kd.int .u8) 5 _ w.heap.size _ (.slice A8 y252.length c8) y252 from Kd.V_mk (by rw [hy8, hc8]; exact Nat.sub_le_sub_right hroom8 _) hr8); have HC256 := Aside0.mk (show y252.length ≤ c8 from by rw [hy8, hc8]; exact Nat.sub_le_sub_right hroom8 _); clear hr8 hC8 hroom8 hi08 hsz8 hc8; have KY8 := Aside0.mk hy8; have KA8 := Aside0.mk hA8; clear hy8 hA8; replace q8 := eq_true q8))
        go_ret3
        exact ⟨_, by first | rfl | (simp [errW_none, errW_some] <;> rfl) | (simp [*, errW_none, errW_some] <;> rfl), (by exact Kd.V_nil _ _ _ _ _), by repeat (first | (with_reducible first | exact HB.out | apply below_alloc | apply pw_below_drewN | apply below_drew1 | refine below_set ?_ GE251.out) | exact HB.out)⟩
      · rw [if_neg c6] at H
        have c6b0 : decide ((y252.length : Int) < 8) = false := decide_eq_false c6
        have c6b1 : decide (y252.length < 8) = false := decide_eq_false (by omega)
        clear c6
        by_cases c9 : 0 < (y252.length : Int)
        · rw [if_pos c9] at H
          have c9b0 : decide (0 < (y252.length : Int)) = true := decide_eq_true c9
          have c9b1 : decide (0 < y252.length) = true := decide_eq_true (by omega)
          clear c9
          by_cases c10 : 1 < (y252.length : Int)
          · rw [if_pos c10] at H
            have c10b0 : decide (1 < (y252.length : Int)) = true := decide_eq_true c10
            have c10b1 : decide (1 < y252.length) = true := decide_eq_true (by omega)
            clear c10
            by_cases c11 : 2 < (y252.length : Int)
            · rw [if_pos c11] at H
              have c11b0 : decide (2 < (y252.length : Int)) = true := decide_eq_true c11
              have c11b1 : decide (2 < y252.length) = true := decide_eq_true (by omega)
              clear c11
              by_cases c12 : 3 < (y252.length : Int)
              · rw [if_pos c12] at H
                have c12b0 : decide (3 < (y252.length : Int)) = true := decide_eq_true c12
                have c12b1 : decide (3 < y252.length) = true := decide_eq_true (by omega)
                clear c12
                have HC13 := Aside0.mk H
                clear H
                go_enter Try.func27, Try.ntmps27
                try go_wp2_with (first | ((with_reducible refine gate_dst (N := 5) rfl ?_); (try (refine gate_guard (by rfl) ?_; dsimp only)); refine box_event ?hg (N := 5) ?hd (cs := tabC a2) (t := 24) ?hr ?_; (case hd => rfl); (case hg => rfl); (case hr => first | (go_simp; done) | (go_simp; rfl)); intro gb251 hg w14 hbox hb; have n0_ := Aside0.mk (Kd.V_below (Kd.V_elderB (by (with_reducible repeat (first | apply Kd.V_alloc | apply Kd.V_drewN | apply Kd.V_drew)); exact HO0.out) gb251 (Nat.le_of_eq hg.symm)) hb); have n1_ := Aside0.mk (below_step (by repeat (first | (with_reducible first | exact HB.out | apply below_alloc | apply pw_below_drewN | apply below_drew1) | exact HB.out)) hb); have n2_ := Aside0.mk (hbox); have n3_ := Aside0.mk ((by rw [hg]; exact (below_size (by repeat (first | (with_reducible first | exact HB.out | apply below_alloc | apply pw_below_drewN | apply below_drew1) | exact HB.out))) : w.heap.size ≤ gb251)); have n4_ := Aside0.mk ((by rw [hg]; exact (below_size (by repeat (first | (with_reducible first | exact HB.out | apply below_alloc | apply pw_below_drewN | apply below_drew1) | exact HB.out))) : w.heap.size ≤ gb251)); clear HO0; clear HB; have HO0 := n0_; have HB := n1_; have BK251 := n2_; have GW251 := n3_; have GE251 := n4_; clear n0_ n1_ n2_ n3_ n4_; clear hb hbox hg; have q15 : (a1 : Int) ≤ ((l0.length : Int) : Int) := of_decide_eq_true (by first | (with_reducible assumption) | assumption); obtain ⟨i015, hi015, _, hsz15, _⟩ := info_parts info5; have hroom15 : l0.length ≤ c0 := (Kd.V_reads' HO0.out).2.1; have hC15 : Kd.F (Kd.int .u8) _ _ A0 l0.length l0 := (Kd.V_at (base := w.heap.size) HO0.out).2.2; have q015 : (0 : Int) ≤ (a1 : Int) := of_decide_eq_true (by first | (with_reducible assumption) | assumption); have hcut15 := cut_from (P := Try.prog) 25 5 .i64 Try.underlying25 hi015 1 hsz15 A0 l0.length c0 a1 q015 q15; have hr15 := Kd.F_cut (m := (a1 : Int).toNat) (c := c0) hC15 (by omega) hroom15; obtain ⟨A15, hA15⟩ : ∃ A1, A1 = (if c0 = (a1 : Int).toNat then A0 else (A0 : Option Addr).map (·.add ((a1 : Int).toNat * 1))) := ⟨_, rfl⟩; obtain ⟨c15, hc15⟩ : ∃ c1, c1 = c0 - (a1 : Int).toNat := ⟨_, rfl⟩; have hy15 : y252.length = l0.length - (a1 : Int).toNat := (by rw [Ny252.out, List.length_drop] <;> omega); rw [show (l0).drop (a1 : Int).toNat = y252 from Ny252.out.symm] at hr15; replace hr15 : Kd.F (Kd.int .u8) _ _ A15 y252.length y252 := (by rw [hA15]; exact hr15); rw [← hy15, ← hA15, ← hc15] at hcut15; have HO256 := Aside0.mk (show Kd.V (Kd.int .u8) 5 _ w.heap.size _ (.slice A15 y252.length c15) y252 from Kd.V_mk (by rw [hy15, hc15]; exact Nat.sub_le_sub_right hroom15 _) hr15); have HC256 := Aside0.mk (show y252.length ≤ c15 from by rw [hy15, hc15]; exact Nat.sub_le_sub_right hroom15 _); clear hr15 hC15 hroom15 hi015 hsz15 hc15; have KY15 := Aside0.mk hy15; have KA15 := Aside0.mk hA15; clear hy15 hA15; replace q15 := eq_true q15))
                have n0_ := Aside0.mk (Kd.V_drew HO0.out)
                have n1_ := Aside0.mk (Kd.V_drew HO256.out)
                have n2_ := Aside0.mk (blk_drew BK251.out)
                have n3_ := Aside0.mk (below_drew1 HB.out)
                clear HO0
                clear HO256
                clear BK251
                clear HB
                have HO0 := n0_
                have HO256 := n1_
                have BK251 := n2_
                have HB := n3_
                clear n0_ n1_ n2_ n3_
                have p257 : 0 ≤ (0 : Int) := (by omega)
                have q257 : 0 < (y252.length : Int) := of_decide_eq_true (by first | (with_reducible assumption) | assumption)
                obtain ⟨ad257, e257, hx257_0⟩ := Kd.at_int (Kd.V_reads' HO256.out).2.2 0 p257 q257
                cases e257
                have qi257 : (0 < y252.length) = True := eq_true (by omega)
                (try rw [show ((0 : Int)).toNat = 0 from rfl] at hx257_0)
                (try rw [Addr.add_zero'] at hx257_0)
                replace p257 := eq_true p257
                replace q257 := eq_true q257
                have p258 : 0 ≤ (1 : Int) := (by omega)
                have q258 : 1 < (y252.length : Int) := of_decide_eq_true (by first | (with_reducible assumption) | assumption)
                obtain ⟨ad258, e258, hx258_0⟩ := Kd.at_int (Kd.V_reads' HO256.out).2.2 1 p258 q258
                obtain rfl : ad257 = ad258 := (by injection e258)
                (try simp only [show (1 : Int).toNat = 1 from rfl, Nat.reduceMul, Nat.reduceEqDiff, Go.Addr.add, ↓reduceIte] at hx258_0)
                have qi258 : (1 < y252.length) = True := eq_true (by omega)
                (try rw [show ((1 : Int)).toNat = 1 from rfl] at hx258_0)
                replace p258 := eq_true p258
                replace q258 := eq_true q258
                have p259 : 0 ≤ (2 : Int) := (by omega)
                have q259 : 2 < (y252.length : Int) := of_decide_eq_true (by first | (with_reducible assumption) | assumption)
                obtain ⟨ad259, e259, hx259_0⟩ := Kd.at_int (Kd.V_reads' HO256.out).2.2 2 p259 q259
                obtain rfl : ad257 = ad259 := (by injection e259)
                (try simp only [show (2 : Int).toNat = 2 from rfl, Nat.reduceMul, Nat.reduceEqDiff, Go.Addr.add, ↓reduceIte] at hx259_0)
                have qi259 : (2 < y252.length) = True := eq_true (by omega)
                (try rw [show ((2 : Int)).toNat = 2 from rfl] at hx259_0)
                replace p259 := eq_true p259
                replace q259 := eq_true q259
                have p260 : 0 ≤ (3 : Int) := (by omega)
                have q260 : 3 < (y252.length : Int) := of_decide_eq_true (by first | (with_reducible assumption) | assumption)
                obtain ⟨ad260, e260, hx260_0⟩ := Kd.at_int (Kd.V_reads' HO256.out).2.2 3 p260 q260
                obtain rfl : ad257 = ad260 := (by injection e260)
                (try simp only [show (3 : Int).toNat = 3 from rfl, Nat.reduceMul, Nat.reduceEqDiff, Go.Addr.add, ↓reduceIte] at hx260_0)
                have qi260 : (3 < y252.length) = True := eq_true (by omega)
                (try rw [show ((3 : Int)).toNat = 3 from rfl] at hx260_0)
                replace p260 := eq_true p260
                replace q260 := eq_true q260
                refine start_ (n := 23) (S := fun w' => w'.cell? ad257 = some (.int .u8 (rd y252 0)) ∧ w'.cell? ⟨ad257.block, ad257.off + 1, none⟩ = some (.int .u8 (rd y252 1)) ∧ w'.cell? ⟨ad257.block, ad257.off + 2, none⟩ = some (.int .u8 (rd y252 2)) ∧ w'.cell? ⟨ad257.block, ad257.off + 3, none⟩ = some (.int .u8 (rd y252 3))) (ds := []) #[false, false, false, false, false, false, false, false, false, false, false, false, false, false, false, false, false, false, false, false, false, false, false] (by kernel_rfl) rfl rfl ⟨hx257_0, hx258_0, hx259_0, hx260_0⟩ (fun hHeld => ?_); refine with_tabW punnetref07_Get.tab4 punnetref07_Get.bits4 (fun HT_ HW_ => ?_)
                generalize w14.drew = w16 at HO0 HO256 BK251 HB hx257_0 hx258_0 hx259_0 hx260_0 hHeld ⊢
                refine pure_ (i := 0) (N := some 18) (v := ?_) (a' := ?_) #[true, false, false, false, false, false, false, false, false, false, false, false, false, false, false, false, false, false, false, false, false, false, false] rfl rfl (any_of HT_.out (by kernel_rfl)) (fun _ _ _ h => h) (Or.inl ⟨by rfl, ?_⟩) ?_ ?_
                rotate_left
                · intro w'
                  go_simp
                  with_reducible rfl
                rotate_left
                · simp only [Act.put, List.setIfInBounds_toArray, List.set_cons_zero, List.set_cons_succ, i64_w, i32_w]
                  rfl
                refine pure_ (i := 1) (N := some 19) (v := ?_) (a' := ?_) #[true, true, false, false, false, false, false, false, false, false, false, false, false, false, false, false, false, false, false, false, false, false, false] rfl rfl (any_of HT_.out (by kernel_rfl)) (fun _ _ _ h => h) (Or.inl ⟨by rfl, ?_⟩) ?_ ?_
                rotate_left
                · intro w'
                  go_simp
                  with_reducible rfl
                rotate_left
                · simp only [Act.put, List.setIfInBounds_toArray, List.set_cons_zero, List.set_cons_succ, i64_w, i32_w]
                  rfl
                refine pure_ (i := 4) (N := some 22) (v := ?_) (a' := ?_) #[true, true, false, false, true, false, false, false, false, false, false, false, false, false, false, false, false, false, false, false, false, false, false] rfl rfl (any_of HT_.out (by kernel_rfl)) (fun _ _ _ h => h) (Or.inl ⟨by rfl, ?_⟩) ?_ ?_
                rotate_left
                · intro w'
                  go_simp
                  with_reducible rfl
                rotate_left
                · simp only [Act.put, List.setIfInBounds_toArray, List.set_cons_zero, List.set_cons_succ, i64_w, i32_w]
                  rfl
                refine pure_ (i := 5) (N := some 23) (v := ?_) (a' := ?_) #[true, true, false, false, true, true, false, false, false, false, false, false, false, false, false, false, false, false, false, false, false, false, false] rfl rfl (any_of HT_.out (by kernel_rfl)) (fun _ _ _ h => h) (Or.inl ⟨by rfl, ?_⟩) ?_ ?_
                rotate_left
                · intro w'
                  go_simp
                  with_reducible rfl
                rotate_left
                · simp only [Act.put, List.setIfInBounds_toArray, List.set_cons_zero, List.set_cons_succ, i64_w, i32_w]
                  rfl
                refine pure_ (i := 10) (N := some 28) (v := ?_) (a' := ?_) #[true, true, false, false, true, true, false, false, false, false, true, false, false, false, false, false, false, false, false, false, false, false, false] rfl rfl (any_of HT_.out (by kernel_rfl)) (fun _ _ _ h => h) (Or.inl ⟨by rfl, ?_⟩) ?_ ?_
                rotate_left
                · intro w'
                  go_simp
                  with_reducible rfl
                rotate_left
                · simp only [Act.put, List.setIfInBounds_toArray, List.set_cons_zero, List.set_cons_succ, i64_w, i32_w]
                  rfl
                refine pure_ (i := 11) (N := some 29) (v := ?_) (a' := ?_) #[true, true, false, false, true, true, false, false, false, false, true, true, false, false, false, false, false, false, false, false, false, false, false] rfl rfl (any_of HT_.out (by kernel_rfl)) (fun _ _ _ h => h) (Or.inl ⟨by rfl, ?_⟩) ?_ ?_
                rotate_left
                · intro w'
                  go_simp
                  with_reducible rfl
                rotate_left
                · simp only [Act.put, List.setIfInBounds_toArray, List.set_cons_zero, List.set_cons_succ, i64_w, i32_w]
                  rfl
                refine pure_ (i := 16) (N := some 34) (v := ?_) (a' := ?_) #[true, true, false, false, true, true, false, false, false, false, true, true, false, false, false, false, true, false, false, false, false, false, false] rfl rfl (any_of HT_.out (by kernel_rfl)) (fun _ _ _ h => h) (Or.inl ⟨by rfl, ?_⟩) ?_ ?_
                rotate_left
                · intro w'
                  go_simp
                  with_reducible rfl
                rotate_left
                · simp only [Act.put, List.setIfInBounds_toArray, List.set_cons_zero, List.set_cons_succ, i64_w, i32_w]
                  rfl
                refine pure_ (i := 17) (N := some 35) (v := ?_) (a' := ?_) #[true, true, false, false, true, true, false, false, false, false, true, true, false, false, false, false, true, true, false, false, false, false, false] rfl rfl (any_of HT_.out (by kernel_rfl)) (fun _ _ _ h => h) (Or.inl ⟨by rfl, ?_⟩) ?_ ?_
                rotate_left
                · intro w'
                  go_simp
                  with_reducible rfl
                rotate_left
                · simp only [Act.put, List.setIfInBounds_toArray, List.set_cons_zero, List.set_cons_succ, i64_w, i32_w]
                  rfl
                refine take_ (i := 2) (N := some 20) (v := ?_) (a' := ?_) #[true, true, true, false, true, true, false, false, false, false, true, true, false, false, false, false, true, true, false, false, false, false, false] rfl rfl (take_ofW HT_.out HW_.out (by kernel_rfl)) (fun _ _ _ h => h) (Or.inl ⟨by rfl, ?_⟩) hHeld ?_ ?_
                rotate_left
                · rintro w' ⟨s0, s1, s2, s3⟩
                  go_simp
                  with_reducible rfl
                rotate_left
                · simp only [Act.put, List.setIfInBounds_toArray, List.set_cons_zero, List.set_cons_succ, i64_w, i32_w]
                  rfl
                refine pure_ (i := 3) (N := some 21) (v := ?_) (a' := ?_) #[true, true, true, true, true, true, false, false, false, false, true, true, false, false, false, false, true, true, false, false, false, false, false] rfl rfl (any_of HT_.out (by kernel_rfl)) (fun _ _ _ h => h) (Or.inl ⟨by rfl, ?_⟩) ?_ ?_
                rotate_left
                · intro w'
                  go_simp
                  with_reducible rfl
                rotate_left
                · simp only [Act.put, List.setIfInBounds_toArray, List.set_cons_zero, List.set_cons_succ, i64_w, i32_w]
                  rfl
                refine take_ (i := 6) (N := some 24) (v := ?_) (a' := ?_) #[true, true, true, true, true, true, true, false, false, false, true, true, false, false, false, false, true, true, false, false, false, false, false] rfl rfl (take_ofW HT_.out HW_.out (by kernel_rfl)) (fun _ _ _ h => h) (Or.inl ⟨by rfl, ?_⟩) hHeld ?_ ?_
                rotate_left
                · rintro w' ⟨s0, s1, s2, s3⟩
                  go_simp
                  with_reducible rfl
                rotate_left
                · simp only [Act.put, List.setIfInBounds_toArray, List.set_cons_zero, List.set_cons_succ, i64_w, i32_w]
                  rfl
                refine pure_ (i := 7) (N := some 25) (v := ?_) (a' := ?_) #[true, true, true, true, true, true, true, true, false, false, true, true, false, false, false, false, true, true, false, false, false, false, false] rfl rfl (any_of HT_.out (by kernel_rfl)) (fun _ _ _ h => h) (Or.inl ⟨by rfl, ?_⟩) ?_ ?_
                rotate_left
                · intro w'
                  go_simp
                  with_reducible rfl
                rotate_left
                · simp only [Act.put, List.setIfInBounds_toArray, List.set_cons_zero, List.set_cons_succ, i64_w, i32_w]
                  rfl
                refine pure_ (i := 8) (N := some 26) (v := ?_) (a' := ?_) #[true, true, true, true, true, true, true, true, true, false, true, true, false, false, false, false, true, true, false, false, false, false, false] rfl rfl (any_of HT_.out (by kernel_rfl)) (fun _ _ _ h => h) (Or.inl ⟨by rfl, ?_⟩) ?_ ?_
                rotate_left
                · intro w'
                  go_simp
                  with_reducible rfl
                rotate_left
                · simp only [Act.put, List.setIfInBounds_toArray, List.set_cons_zero, List.set_cons_succ, i64_w, i32_w]
                  rfl
                refine pure_ (i := 9) (N := some 27) (v := ?_) (a' := ?_) #[true, true, true, true, true, true, true, true, true, true, true, true, false, false, false, false, true, true, false, false, false, false, false] rfl rfl (any_of HT_.out (by kernel_rfl)) (fun _ _ _ h => h) (Or.inl ⟨by rfl, ?_⟩) ?_ ?_
                rotate_left
                · intro w'
                  go_simp
                  with_reducible rfl
                rotate_left
                · simp only [Act.put, List.setIfInBounds_toArray, List.set_cons_zero, List.set_cons_succ, i64_w, i32_w]
                  rfl
                refine take_ (i := 12) (N := some 30) (v := ?_) (a' := ?_) #[true, true, true, true, true, true, true, true, true, true, true, true, true, false, false, false, true, true, false, false, false, false, false] rfl rfl (take_ofW HT_.out HW_.out (by kernel_rfl)) (fun _ _ _ h => h) (Or.inl ⟨by rfl, ?_⟩) hHeld ?_ ?_
                rotate_left
                · rintro w' ⟨s0, s1, s2, s3⟩
                  go_simp
                  with_reducible rfl
                rotate_left
                · simp only [Act.put, List.setIfInBounds_toArray, List.set_cons_zero, List.set_cons_succ, i64_w, i32_w]
                  rfl
                refine pure_ (i := 13) (N := some 31) (v := ?_) (a' := ?_) #[true, true, true, true, true, true, true, true, true, true, true, true, true, true, false, false, true, true, false, false, false, false, false] rfl rfl (any_of HT_.out (by kernel_rfl)) (fun _ _ _ h => h) (Or.inl ⟨by rfl, ?_⟩) ?_ ?_
                rotate_left
                · intro w'
                  go_simp
                  with_reducible rfl
                rotate_left
                · simp only [Act.put, List.setIfInBounds_toArray, List.set_cons_zero, List.set_cons_succ, i64_w, i32_w]
                  rfl
                refine pure_ (i := 14) (N := some 32) (v := ?_) (a' := ?_) #[true, true, true, true, true, true, true, true, true, true, true, true, true, true, true, false, true, true, false, false, false, false, false] rfl rfl (any_of HT_.out (by kernel_rfl)) (fun _ _ _ h => h) (Or.inl ⟨by rfl, ?_⟩) ?_ ?_
                rotate_left
                · intro w'
                  go_simp
                  with_reducible rfl
                rotate_left
                · simp only [Act.put, List.setIfInBounds_toArray, List.set_cons_zero, List.set_cons_succ, i64_w, i32_w]
                  rfl
                refine pure_ (i := 15) (N := some 33) (v := ?_) (a' := ?_) #[true, true, true, true, true, true, true, true, true, true, true, true, true, true, true, true, true, true, false, false, false, false, false] rfl rfl (any_of HT_.out (by kernel_rfl)) (fun _ _ _ h => h) (Or.inl ⟨by rfl, ?_⟩) ?_ ?_
                rotate_left
                · intro w'
                  go_simp
                  with_reducible rfl
                rotate_left
                · simp only [Act.put, List.setIfInBounds_toArray, List.set_cons_zero, List.set_cons_succ, i64_w, i32_w]
                  rfl
                refine take_ (i := 18) (N := some 36) (v := ?_) (a' := ?_) #[true, true, true, true, true, true, true, true, true, true, true, true, true, true, true, true, true, true, true, false, false, false, false] rfl rfl (take_ofW HT_.out HW_.out (by kernel_rfl)) (fun _ _ _ h => h) (Or.inl ⟨by rfl, ?_⟩) hHeld ?_ ?_
                rotate_left
                · rintro w' ⟨s0, s1, s2, s3⟩
                  go_simp
                  with_reducible rfl
                rotate_left
                · simp only [Act.put, List.setIfInBounds_toArray, List.set_cons_zero, List.set_cons_succ, i64_w, i32_w]
                  rfl
                refine pure_ (i := 19) (N := some 37) (v := ?_) (a' := ?_) #[true, true, true, true, true, true, true, true, true, true, true, true, true, true, true, true, true, true, true, true, false, false, false] rfl rfl (any_of HT_.out (by kernel_rfl)) (fun _ _ _ h => h) (Or.inl ⟨by rfl, ?_⟩) ?_ ?_
                rotate_left
                · intro w'
                  go_simp
                  with_reducible rfl
                rotate_left
                · simp only [Act.put, List.setIfInBounds_toArray, List.set_cons_zero, List.set_cons_succ, i64_w, i32_w]
                  rfl
                refine pure_ (i := 20) (N := some 38) (v := ?_) (a' := ?_) #[true, true, true, true, true, true, true, true, true, true, true, true, true, true, true, true, true, true, true, true, true, false, false] rfl rfl (any_of HT_.out (by kernel_rfl)) (fun _ _ _ h => h) (Or.inl ⟨by rfl, ?_⟩) ?_ ?_
                rotate_left
                · intro w'
                  go_simp
                  with_reducible rfl
                rotate_left
                · simp only [Act.put, List.setIfInBounds_toArray, List.set_cons_zero, List.set_cons_succ, i64_w, i32_w]
                  rfl
                refine pure_ (i := 21) (N := some 39) (v := ?_) (a' := ?_) #[true, true, true, true, true, true, true, true, true, true, true, true, true, true, true, true, true, true, true, true, true, true, false] rfl rfl (any_of HT_.out (by kernel_rfl)) (fun _ _ _ h => h) (Or.inl ⟨by rfl, ?_⟩) ?_ ?_
                rotate_left
                · intro w'
                  go_simp
                  with_reducible rfl
                rotate_left
                · simp only [Act.put, List.setIfInBounds_toArray, List.set_cons_zero, List.set_cons_succ, i64_w, i32_w]
                  rfl
                refine pure_ (i := 22) (N := some 10) (v := ?_) (a' := ?_) #[true, true, true, true, true, true, true, true, true, true, true, true, true, true, true, true, true, true, true, true, true, true, true] rfl rfl (any_of HT_.out (by kernel_rfl)) (fun _ _ _ h => h) (Or.inl ⟨by rfl, ?_⟩) ?_ ?_
                rotate_left
                · intro w'
                  go_simp
                  with_reducible rfl
                rotate_left
                · simp only [Act.put, List.setIfInBounds_toArray, List.set_cons_zero, List.set_cons_succ, i64_w, i32_w]
                  rfl
                refine done_ (done_of HT_.out (by kernel_rfl)) ?_
                go_upto_region 5 with (fail)
                go_cut [48] (fun v48 wc => ∃ (kq : Nat) (x48_12 : Bool), v48 = .bool x48_12 ∧ Aside0 (punnetref07_Get.j0 kq a1 y252 (wrap64 ((wrap64 ((wrap64 ((wrap64 (rd y252 0)) + (wrap64 (256 * (wrap64 (rd y252 1)))))) + (wrap64 (65536 * (wrap64 (rd y252 2)))))) + (wrap64 (16777216 * (wrap64 (rd y252 3)))))) x48_12 a2 = some (r1, r2, r3)) ∧ Aside0 (kq ≤ k) ∧ Aside0 (Kd.V (Kd.int .u8) 5 wc w.heap.size (fun k_ => (P0_ k_ ∨ w.heap.size ≤ k_) ∧ k_ ≠ gb251) (.slice (some ad257) y252.length c15) y252) ∧ Aside0 (wc.heap[gb251]? = some (.cells (tabC a2) 24 (0, 0))) ∧ Aside0 (Below w.heap.size w wc))
                case first =>
                  have H := HC13.out
                  clear HC13
                  by_cases c17 : (wrap64 ((wrap64 ((wrap64 ((wrap64 (rd y252 0)) + (wrap64 (256 * (wrap64 (rd y252 1)))))) + (wrap64 (65536 * (wrap64 (rd y252 2)))))) + (wrap64 (16777216 * (wrap64 (rd y252 3)))))) > 60000
                  · rw [if_pos c17] at H
                    have c17b0 : decide (60000 < (wrap64 ((wrap64 ((wrap64 ((wrap64 (rd y252 0)) + (wrap64 (256 * (wrap64 (rd y252 1)))))) + (wrap64 (65536 * (wrap64 (rd y252 2)))))) + (wrap64 (16777216 * (wrap64 (rd y252 3))))))) = true := decide_eq_true c17
                    clear c17
                    (first | rw [c17b0] | (simp only [i64_w, i32_w]; rw [c17b0]) | skip)
                    have H' := Aside0.mk H
                    clear H
                    go_wp2
                    go_meet
                    case rel => exact ⟨_, (true), (by first | rfl | (simp; done) | (simp [*]; done)), H', ⟨by first | omega | exact Nat.le_refl _⟩, ⟨by (with_reducible repeat (first | apply Kd.V_alloc | apply Kd.V_drewN | apply Kd.V_drew)); exact HO256.out⟩, ⟨by (with_reducible repeat (first | refine blk_drewN ?_ _ | refine blk_drew ?_ | refine blk_alloc ?_ _)); exact BK251.out⟩, ⟨by repeat (first | (with_reducible first | exact HB.out | apply below_alloc | apply pw_below_drewN | apply below_drew1 | refine below_set ?_ GE251.out) | exact HB.out)⟩⟩
                  · rw [if_neg c17] at H
                    have c17b0 : decide (60000 < (wrap64 ((wrap64 ((wrap64 ((wrap64 (rd y252 0)) + (wrap64 (256 * (wrap64 (rd y252 1)))))) + (wrap64 (65536 * (wrap64 (rd y252 2)))))) + (wrap64 (16777216 * (wrap64 (rd y252 3))))))) = false := decide_eq_false c17
                    clear c17
                    (first | rw [c17b0] | (simp only [i64_w, i32_w]; rw [c17b0]) | skip)
                    have H' := Aside0.mk H
                    clear H
                    go_wp2
                    go_meet
                    case rel => exact ⟨_, (decide ((wrap64 (8 + (wrap64 ((wrap64 ((wrap64 ((wrap64 (rd y252 0)) + (wrap64 (256 * (wrap64 (rd y252 1)))))) + (wrap64 (65536 * (wrap64 (rd y252 2)))))) + (wrap64 (16777216 * (wrap64 (rd y252 3)))))))) > (y252.length : Int))), (by first | rfl | (simp; done) | (simp [*]; done)), H', ⟨by first | omega | exact Nat.le_refl _⟩, ⟨by (with_reducible repeat (first | apply Kd.V_alloc | apply Kd.V_drewN | apply Kd.V_drew)); exact HO256.out⟩, ⟨by (with_reducible repeat (first | refine blk_drewN ?_ _ | refine blk_drew ?_ | refine blk_alloc ?_ _)); exact BK251.out⟩, ⟨by repeat (first | (with_reducible first | exact HB.out | apply below_alloc | apply pw_below_drewN | apply below_drew1 | refine below_set ?_ GE251.out) | exact HB.out)⟩⟩
                case rest =>
                  clear HC13
                  try clear c1
                  try clear q1
                  try clear c2
                  try clear p2
                  try clear q2
                  try clear hx2
                  try clear qi2
                  try clear c4
                  try clear c4b0
                  try clear c4b1
                  try clear c5
                  try clear c5b0
                  try clear c5b1
                  try clear c6
                  try clear c6b0
                  try clear c6b1
                  try clear p6
                  try clear c8
                  try clear q8
                  try clear c9
                  try clear c9b0
                  try clear c9b1
                  try clear c10
                  try clear c10b0
                  try clear c10b1
                  try clear c11
                  try clear c11b0
                  try clear c11b1
                  try clear c12
                  try clear c12b0
                  try clear c12b1
                  try clear c15
                  try clear q15
                  try clear c17
                  try clear c17b0
                  try clear hx257_0
                  try clear hx258_0
                  try clear hx259_0
                  try clear hx260_0
                  try clear p257
                  try clear p258
                  try clear p259
                  try clear p260
                  try clear q015
                  try clear q08
                  try clear q15
                  try clear q257
                  try clear q258
                  try clear q259
                  try clear q260
                  try clear q8
                  obtain ⟨kq, x48_12, rfl, HA, HJ12, HO_9, BK251, HB⟩ := hcut
                  cases kq with
                  | zero => exact absurd HA.out (by simp [punnetref07_Get.j0])
                  | succ kj12 =>
                    have H := HA.out
                    clear HA
                    simp only [punnetref07_Get.j0] at H
                    by_cases c18 : x48_12 = true
                    · subst c18
                      have H1 : (some (([] : List Int), 0, false)) = some (r1, r2, r3) := by rw [if_pos rfl] at H; exact H
                      clear H
                      have H := H1
                      clear H1
                      simp only [Option.some.injEq, Prod.mk.injEq] at H
                      obtain ⟨rfl, rfl, rfl⟩ := H
                      go_wp2
                      go_ret3
                      exact ⟨_, by first | rfl | (simp [errW_none, errW_some] <;> rfl) | (simp [*, errW_none, errW_some] <;> rfl), (by exact Kd.V_nil _ _ _ _ _), by repeat (first | (with_reducible first | exact HB.out | apply below_alloc | apply pw_below_drewN | apply below_drew1 | refine below_set ?_ GE251.out) | exact HB.out)⟩
                    · replace c18 := Bool.eq_false_iff.mpr c18
                      subst c18
                      have H1 : (if 8 ≤ (wrap64 (8 + (wrap64 ((wrap64 ((wrap64 ((wrap64 (rd y252 0)) + (wrap64 (256 * (wrap64 (rd y252 1)))))) + (wrap64 (65536 * (wrap64 (rd y252 2)))))) + (wrap64 (16777216 * (wrap64 (rd y252 3)))))))) then (if (wrap64 (8 + (wrap64 ((wrap64 ((wrap64 ((wrap64 (rd y252 0)) + (wrap64 (256 * (wrap64 (rd y252 1)))))) + (wrap64 (65536 * (wrap64 (rd y252 2)))))) + (wrap64 (16777216 * (wrap64 (rd y252 3)))))))) ≤ (y252.length : Int) then ((some ((y252.take ((wrap64 (8 + (wrap64 ((wrap64 ((wrap64 ((wrap64 (rd y252 0)) + (wrap64 (256 * (wrap64 (rd y252 1)))))) + (wrap64 (65536 * (wrap64 (rd y252 2)))))) + (wrap64 (16777216 * (wrap64 (rd y252 3)))))))) : Int).toNat).drop 8 : List Int)).bind fun y261 => ((punnetref07_Frame.f kj12 a2 y261).bind fun t266 => (if 0 ≤ (wrap64 (8 + (wrap64 ((wrap64 ((wrap64 ((wrap64 (rd y252 0)) + (wrap64 (256 * (wrap64 (rd y252 1)))))) + (wrap64 (65536 * (wrap64 (rd y252 2)))))) + (wrap64 (16777216 * (wrap64 (rd y252 3)))))))) then (if (strOfNums t266).toList = (strOfNums (y252.take ((wrap64 (8 + (wrap64 ((wrap64 ((wrap64 ((wrap64 (rd y252 0)) + (wrap64 (256 * (wrap64 (rd y252 1)))))) + (wrap64 (65536 * (wrap64 (rd y252 2)))))) + (wrap64 (16777216 * (wrap64 (rd y252 3)))))))) : Int).toNat)).toList then (some (y261, wrap64 ((wrap64 (a1 + 8)) + (wrap64 ((wrap64 ((wrap64 ((wrap64 (rd y252 0)) + (wrap64 (256 * (wrap64 (rd y252 1)))))) + (wrap64 (65536 * (wrap64 (rd y252 2)))))) + (wrap64 (16777216 * (wrap64 (rd y252 3))))))), true)) else (some (([] : List Int), 0, false))) else (none)))) else (none)) else (none)) = some (r1, r2, r3) := by rw [if_neg (show ¬ (false = true) by decide)] at H; exact H
                      clear H
                      have H := H1
                      clear H1
                      by_cases c19 : 8 ≤ (wrap64 (8 + (wrap64 ((wrap64 ((wrap64 ((wrap64 (rd y252 0)) + (wrap64 (256 * (wrap64 (rd y252 1)))))) + (wrap64 (65536 * (wrap64 (rd y252 2)))))) + (wrap64 (16777216 * (wrap64 (rd y252 3))))))))
                      · rw [if_pos c19] at H
                        have c19b0 := eq_true c19
                        have c19b1 : decide (8 ≤ (wrap64 (8 + (wrap64 ((wrap64 ((wrap64 ((wrap64 (rd y252 0)) + (wrap64 (256 * (wrap64 (rd y252 1)))))) + (wrap64 (65536 * (wrap64 (rd y252 2)))))) + (wrap64 (16777216 * (wrap64 (rd y252 3))))))))) = true := decide_eq_true c19
                        by_cases c20 : (wrap64 (8 + (wrap64 ((wrap64 ((wrap64 ((wrap64 (rd y252 0)) + (wrap64 (256 * (wrap64 (rd y252 1)))))) + (wrap64 (65536 * (wrap64 (rd y252 2)))))) + (wrap64 (16777216 * (wrap64 (rd y252 3)))))))) ≤ (y252.length : Int)
                        · rw [if_pos c20] at H
                          have c20b0 := eq_true c20
                          have c20b1 : decide ((wrap64 (8 + (wrap64 ((wrap64 ((wrap64 ((wrap64 (rd y252 0)) + (wrap64 (256 * (wrap64 (rd y252 1)))))) + (wrap64 (65536 * (wrap64 (rd y252 2)))))) + (wrap64 (16777216 * (wrap64 (rd y252 3)))))))) ≤ (y252.length : Int)) = true := decide_eq_true c20
                          obtain ⟨y261, hy261⟩ : ∃ y_ : List Int, y_ = ((y252.take ((wrap64 (8 + (wrap64 ((wrap64 ((wrap64 ((wrap64 (rd y252 0)) + (wrap64 (256 * (wrap64 (rd y252 1)))))) + (wrap64 (65536 * (wrap64 (rd y252 2)))))) + (wrap64 (16777216 * (wrap64 (rd y252 3)))))))) : Int).toNat).drop 8) := ⟨_, rfl⟩
                          replace H : ((punnetref07_Frame.f kj12 a2 y261).bind fun t266 => (if 0 ≤ (wrap64 (8 + (wrap64 ((wrap64 ((wrap64 ((wrap64 (rd y252 0)) + (wrap64 (256 * (wrap64 (rd y252 1)))))) + (wrap64 (65536 * (wrap64 (rd y252 2)))))) + (wrap64 (16777216 * (wrap64 (rd y252 3)))))))) then (if (strOfNums t266).toList = (strOfNums (y252.take ((wrap64 (8 + (wrap64 ((wrap64 ((wrap64 ((wrap64 (rd y252 0)) + (wrap64 (256 * (wrap64 (rd y252 1)))))) + (wrap64 (65536 * (wrap64 (rd y252 2)))))) + (wrap64 (16777216 * (wrap64 (rd y252 3)))))))) : Int).toNat)).toList then (some (y261, wrap64 ((wrap64 (a1 + 8)) + (wrap64 ((wrap64 ((wrap64 ((wrap64 (rd y252 0)) + (wrap64 (256 * (wrap64 (rd y252 1)))))) + (wrap64 (65536 * (wrap64 (rd y252 2)))))) + (wrap64 (16777216 * (wrap64 (rd y252 3))))))), true)) else (some (([] : List Int), 0, false))) else (none))) = some (r1, r2, r3) := by first | (rw [hy261]; with_reducible exact H) | (have H2_ := (Option.bind_some _ _).symm.trans H; rw [hy261]; with_reducible exact H2_) | (have H2_ := (Option.bind_some _ _).symm.trans H; with_reducible exact H2_) | with_reducible exact H | (rw [hy261]; exact H) | exact H
                          have Ny261 := Aside0.mk hy261
                          clear hy261
                          replace H := Option.bind_eq_some_iff.mp H
                          obtain ⟨t266, A210, H⟩ := H
                          replace H : (if 0 ≤ (wrap64 (8 + (wrap64 ((wrap64 ((wrap64 ((wrap64 (rd y252 0)) + (wrap64 (256 * (wrap64 (rd y252 1)))))) + (wrap64 (65536 * (wrap64 (rd y252 2)))))) + (wrap64 (16777216 * (wrap64 (rd y252 3)))))))) then (if (strOfNums t266).toList = (strOfNums (y252.take ((wrap64 (8 + (wrap64 ((wrap64 ((wrap64 ((wrap64 (rd y252 0)) + (wrap64 (256 * (wrap64 (rd y252 1)))))) + (wrap64 (65536 * (wrap64 (rd y252 2)))))) + (wrap64 (16777216 * (wrap64 (rd y252 3)))))))) : Int).toNat)).toList then (some (y261, wrap64 ((wrap64 (a1 + 8)) + (wrap64 ((wrap64 ((wrap64 ((wrap64 (rd y252 0)) + (wrap64 (256 * (wrap64 (rd y252 1)))))) + (wrap64 (65536 * (wrap64 (rd y252 2)))))) + (wrap64 (16777216 * (wrap64 (rd y252 3))))))), true)) else (some (([] : List Int), 0, false))) else (none)) = some (r1, r2, r3) := H
                          have A21 := Aside0.mk A210
                          clear A210
                          obtain ⟨ji22, hji22⟩ : ∃ j_ : Int, (wrap64 (8 + (wrap64 ((wrap64 ((wrap64 ((wrap64 (rd y252 0)) + (wrap64 (256 * (wrap64 (rd y252 1)))))) + (wrap64 (65536 * (wrap64 (rd y252 2)))))) + (wrap64 (16777216 * (wrap64 (rd y252 3)))))))) = j_ := ⟨_, rfl⟩
                          replace H : (if 0 ≤ (ji22) then (if (strOfNums t266).toList = (strOfNums (y252.take ((ji22) : Int).toNat)).toList then (some (y261, wrap64 ((wrap64 (a1 + 8)) + (wrap64 ((wrap64 ((wrap64 ((wrap64 (rd y252 0)) + (wrap64 (256 * (wrap64 (rd y252 1)))))) + (wrap64 (65536 * (wrap64 (rd y252 2)))))) + (wrap64 (16777216 * (wrap64 (rd y252 3))))))), true)) else (some (([] : List Int), 0, false))) else (none)) = some (r1, r2, r3) := by first | (rw [hji22] at H; exact H) | (simp only [hji22] at H ⊢; exact H)
                          (try rw [hji22] at c19b0)
                          (try rw [hji22] at c19b1)
                          (try rw [hji22] at c19)
                          (try rw [hji22] at c20b0)
                          (try rw [hji22] at c20b1)
                          (try rw [hji22] at c20)
                          (try rw [hji22] at Ny261)
                          (try rw [hji22] at A21)
                          have hji22w : (IntKind.i64.wrap (8 + (wrap64 ((wrap64 ((wrap64 ((wrap64 (rd y252 0)) + (wrap64 (256 * (wrap64 (rd y252 1)))))) + (wrap64 (65536 * (wrap64 (rd y252 2)))))) + (wrap64 (16777216 * (wrap64 (rd y252 3)))))))) = ji22 := (i64_w _).trans hji22
                          by_cases c23 : 0 ≤ (ji22)
                          · rw [if_pos c23] at H
                            have c23b0 := eq_true c23
                            have c23b1 : decide (0 ≤ (ji22)) = true := decide_eq_true c23
                            clear c23
                            have c24b0 := eq_true (of_decide_eq_true (by first | (with_reducible assumption) | assumption) : (ji22) ≤ (y252.length : Int))
                            obtain ⟨y269, hy269⟩ : ∃ y_ : List Int, y_ = (y252.take ((ji22) : Int).toNat) := ⟨_, rfl⟩
                            replace H : (if (strOfNums t266).toList = (strOfNums y269).toList then (some (y261, wrap64 ((wrap64 (a1 + 8)) + (wrap64 ((wrap64 ((wrap64 ((wrap64 (rd y252 0)) + (wrap64 (256 * (wrap64 (rd y252 1)))))) + (wrap64 (65536 * (wrap64 (rd y252 2)))))) + (wrap64 (16777216 * (wrap64 (rd y252 3))))))), true)) else (some (([] : List Int), 0, false))) = some (r1, r2, r3) := by first | (rw [hy269]; with_reducible exact H) | (have H2_ := (Option.bind_some _ _).symm.trans H; rw [hy269]; with_reducible exact H2_) | (have H2_ := (Option.bind_some _ _).symm.trans H; with_reducible exact H2_) | with_reducible exact H | (rw [hy269]; exact H) | exact H
                            have Ny269 := Aside0.mk hy269
                            clear hy269
                            by_cases c25 : (strOfNums t266).toList = (strOfNums y269).toList
                            · rw [if_pos c25] at H
                              have c25b0 : ((strOfNums t266).toList == (strOfNums y269).toList) = true := beq_iff_eq.mpr c25
                              have c25b1 : ((strOfNums t266).toList != (strOfNums y269).toList) = false := bne_eq_false_iff_eq.mpr c25
                              clear c25
                              simp only [Option.some.injEq, Prod.mk.injEq] at H
                              obtain ⟨rfl, rfl, rfl⟩ := H
                              have q26 : ((ji22) : Int) ≤ ((y252.length : Int) : Int) := of_decide_eq_true (by first | (with_reducible assumption) | assumption)
                              obtain ⟨i026, hi026, _, hsz26, _⟩ := info_parts info5
                              have hroom26 : y252.length ≤ c15 := (Kd.V_reads' HO_9.out).2.1
                              have hC26 : Kd.F (Kd.int .u8) _ _ (some ad257) y252.length y252 := (Kd.V_at (base := w.heap.size) HO_9.out).2.2
                              have ql26 : (8 : Int) ≤ ((ji22) : Int) := of_decide_eq_true (by first | (with_reducible assumption) | assumption)
                              have hcut26 := cut_mid (P := Try.prog) 25 5 .i64 .i64 Try.underlying25 hi026 1 hsz26 (some ad257) y252.length c15 8 (ji22) (by omega) ql26 q26 hroom26
                              have hr26 := Kd.F_mid (lo := (8 : Int).toNat) (hi := ((ji22) : Int).toNat) (c := c15) hC26 (by omega) (by omega) hroom26
                              obtain ⟨A26, hA26⟩ : ∃ A1, A1 = (if c15 = (8 : Int).toNat then (some ad257) else ((some ad257) : Option Addr).map (·.add ((8 : Int).toNat * 1))) := ⟨_, rfl⟩
                              obtain ⟨c26, hc26⟩ : ∃ c1, c1 = c15 - (8 : Int).toNat := ⟨_, rfl⟩
                              have hy26 : y261.length = ((ji22) : Int).toNat - (8 : Int).toNat := (by rw [Ny261.out, List.length_drop, List.length_take] <;> omega)
                              rw [show ((y252).take ((ji22) : Int).toNat).drop (8 : Int).toNat = y261 from Ny261.out.symm] at hr26
                              replace hr26 : Kd.F (Kd.int .u8) _ _ A26 y261.length y261 := (by rw [hA26]; exact hr26)
                              rw [← hy26, ← hA26, ← hc26] at hcut26
                              have HO265 := Aside0.mk (show Kd.V (Kd.int .u8) 5 _ w.heap.size _ (.slice A26 y261.length c26) y261 from Kd.V_mk (by rw [hy26, hc26]; exact Nat.sub_le_sub_right (Nat.le_trans (by omega) hroom26) _) hr26)
                              have HC265 := Aside0.mk (show y261.length ≤ c26 from by rw [hy26, hc26]; exact Nat.sub_le_sub_right (Nat.le_trans (by omega) hroom26) _)
                              clear hr26 hC26 hroom26 hi026 hsz26 hc26
                              have KY26 := Aside0.mk hy26
                              have KA26 := Aside0.mk hA26
                              clear hy26 hA26
                              replace q26 := eq_true q26
                              try go_wp2
                              have n0_ := Aside0.mk (Kd.V_drew HO_9.out)
                              have n1_ := Aside0.mk (Kd.V_drew HO265.out)
                              have n2_ := Aside0.mk (blk_drew BK251.out)
                              have n3_ := Aside0.mk (below_drew1 HB.out)
                              clear HO_9
                              clear HO265
                              clear BK251
                              clear HB
                              have HO_9 := n0_
                              have HO265 := n1_
                              have BK251 := n2_
                              have HB := n3_
                              clear n0_ n1_ n2_ n3_
                              have q28 : ((ji22) : Int) ≤ ((y252.length : Int) : Int) := of_decide_eq_true (by first | (with_reducible assumption) | assumption)
                              obtain ⟨i028, hi028, _, hsz28, _⟩ := info_parts info5
                              have hroom28 : y252.length ≤ c15 := (Kd.V_reads' HO_9.out).2.1
                              have hC28 : Kd.F (Kd.int .u8) _ _ (some ad257) y252.length y252 := (Kd.V_at (base := w.heap.size) HO_9.out).2.2
                              have hcut28 := cut_to (P := Try.prog) 25 5 .i64 Try.underlying25 hi028 (some ad257) y252.length c15 (ji22) (of_decide_eq_true (by first | (with_reducible assumption) | assumption)) q28 hroom28
                              have hr28 := Kd.F_take (m := ((ji22) : Int).toNat) hC28 (by omega)
                              have hy28 : y269.length = ((ji22) : Int).toNat := (by rw [Ny269.out, List.length_take]; omega)
                              rw [← Ny269.out] at hr28
                              rw [← hy28] at hcut28
                              have HO273 := Aside0.mk (show Kd.V (Kd.int .u8) 5 _ w.heap.size _ (.slice (some ad257) y269.length c15) y269 from Kd.V_mk (by omega) hr28)
                              have HC273 := Aside0.mk (show y269.length ≤ c15 from by omega)
                              clear hr28 hC28 hroom28 hi028 hsz28
                              have KY28 := Aside0.mk hy28
                              clear hy28
                              replace q28 := eq_true q28
                              refine start_ (n := 10) (S := fun w' => (Instr.loadAt 24 (.pointer (some ⟨gb251, 0, none⟩))).run Try.prog w' = .ok (.agg (tabC a2)) w') (ds := []) #[false, false, false, false, false, false, false, false, false, false] (by kernel_rfl) rfl rfl (tab_loadAt Try.underlying24 (show (Try.prog.info? 24).map (·.size) = some 256 from by kernel_rfl) BK251.out) (fun hHeld => ?_); refine with_tabW punnetref07_Get.tab8 punnetref07_Get.bits8 (fun HT_ HW_ => ?_)
                              generalize wc.drew = w27 at HO_9 HO265 BK251 HB HO273 hHeld ⊢
                              refine pure_ (i := 1) (N := some 54) (v := ?_) (a' := ?_) #[false, true, false, false, false, false, false, false, false, false] rfl rfl (any_of HT_.out (by kernel_rfl)) (fun _ _ _ h => h) (Or.inl ⟨by rfl, ?_⟩) ?_ ?_
                              rotate_left
                              · intro w'
                                go_simp
                                with_reducible rfl
                              rotate_left
                              · simp only [Act.put, List.setIfInBounds_toArray, List.set_cons_zero, List.set_cons_succ, i64_w, i32_w]
                                rfl
                              refine pure_ (i := 4) (N := some 57) (v := ?_) (a' := ?_) #[false, true, false, false, true, false, false, false, false, false] rfl rfl (any_of HT_.out (by kernel_rfl)) (fun _ _ _ h => h) (Or.inl ⟨by rfl, ?_⟩) ?_ ?_
                              rotate_left
                              · intro w'
                                go_simp
                                with_reducible rfl
                              rotate_left
                              · simp only [Act.put, List.setIfInBounds_toArray, List.set_cons_zero, List.set_cons_succ, i64_w, i32_w]
                                rfl
                              refine pure_ (i := 5) (N := some 58) (v := ?_) (a' := ?_) #[false, true, false, false, true, true, false, false, false, false] rfl rfl (any_of HT_.out (by kernel_rfl)) (fun _ _ _ h => h) (Or.inl ⟨by rfl, ?_⟩) ?_ ?_
                              rotate_left
                              · intro w'
                                go_simp
                                with_reducible rfl
                              rotate_left
                              · simp only [Act.put, List.setIfInBounds_toArray, List.set_cons_zero, List.set_cons_succ, i64_w, i32_w]
                                rfl
                              refine pure_ (i := 6) (N := some 59) (v := ?_) (a' := ?_) #[false, true, false, false, true, true, true, false, false, false] rfl rfl (any_of HT_.out (by kernel_rfl)) (fun _ _ _ h => h) (Or.inl ⟨by rfl, ?_⟩) ?_ ?_
                              rotate_left
                              · intro w'
                                go_simp
                                with_reducible rfl
                              rotate_left
                              · simp only [Act.put, List.setIfInBounds_toArray, List.set_cons_zero, List.set_cons_succ, i64_w, i32_w]
                                rfl
                              refine pure_ (i := 7) (N := some 60) (v := ?_) (a' := ?_) #[false, true, false, false, true, true, true, true, false, false] rfl rfl (any_of HT_.out (by kernel_rfl)) (fun _ _ _ h => h) (Or.inl ⟨by rfl, ?_⟩) ?_ ?_
                              rotate_left
                              · intro w'
                                go_simp
                                with_reducible rfl
                              rotate_left
                              · simp only [Act.put, List.setIfInBounds_toArray, List.set_cons_zero, List.set_cons_succ, i64_w, i32_w]
                                rfl
                              refine take_ (i := 0) (N := some 53) (v := ?_) (a' := ?_) #[true, true, false, false, true, true, true, true, false, false] rfl rfl (take_ofW HT_.out HW_.out (by kernel_rfl)) (fun _ _ _ h => h) (Or.inl ⟨by rfl, ?_⟩) hHeld ?_ ?_
                              rotate_left
                              · intro w' s0
                                exact tab_exec rfl rfl (by assumption)
                              rotate_left
                              · simp only [Act.put, List.setIfInBounds_toArray, List.set_cons_zero, List.set_cons_succ, i64_w, i32_w]
                                rfl
                              refine join_ (σ := Value) 1 #[true, true, true, true, true, true, true, true, true, false] (fun s_ => [(55, s_), (56, .string (strOfNums t266)), (61, .string (strOfNums y269))]) (fun s_ w' => ((Instr.loadAt 24 (.pointer (some ⟨gb251, 0, none⟩))).run Try.prog w' = .ok (.agg (tabC a2)) w') ∧ (Kd.V (Kd.int .u8) 5 w' w.heap.size (fun k_ => (P0_ k_ ∨ w.heap.size ≤ k_) ∧ some k_ ≠ (s_ : Value).ownBlock ∧ k_ ≠ gb251) (.slice A26 y261.length c26) y261) ∧ (Kd.R (Kd.int .u8) 5 w' w.heap.size (fun k_ => (w.heap.size ≤ k_)) s_ t266) ∧ (Kd.V (Kd.int .u8) 5 w' w.heap.size (fun k_ => (P0_ k_ ∨ w.heap.size ≤ k_) ∧ some k_ ≠ (s_ : Value).ownBlock ∧ k_ ≠ gb251) (.slice (some ad257) y269.length c15) y269) ∧ (Kd.V (Kd.int .u8) 5 w' w.heap.size (fun k_ => (P0_ k_ ∨ w.heap.size ≤ k_) ∧ some k_ ≠ (s_ : Value).ownBlock ∧ k_ ≠ gb251) (.slice (some ad257) y252.length c15) y252) ∧ (w'.heap[gb251]? = some (.cells (tabC a2) 24 (0, 0))) ∧ (Below w.heap.size w w')) ?_ ?_
                              rotate_left
                              · intro hCont
                                refine two_ (i := 2) (j := 8) (Ni := some 55) (Nj := some 61) #[true, true, true, false, true, true, true, true, false, false] #[true, true, false, false, true, true, true, true, true, false] rfl rfl rfl rfl (two_of HT_.out (by kernel_rfl)) (by decide) (by decide) (fun K hK => ?_) (fun K hK => ?_)
                                · skip
                                  refine goes_ Try.func22 (by kernel_rfl) rfl #[.agg (tabC a2), .slice A26 y261.length c26] (by rfl) rfl rfl (by (try simp only [List.map_toArray, List.map_cons, List.map_nil]); first | done | rfl | (simp only [List.length_drop, List.length_take]; rfl)) ?_
                                  with_reducible refine (punnetref07_Frame.calls kj12 a2 _ _ y261 t266 _ ?side1 ?side2 A21.out).mono ?_
                                  (case side1 => repeat (first | exact (Kd.V_reads' HO265.out).2.2 | (with_reducible refine Kd.C_alloc ?_ _) | (with_reducible refine Kd.C_drewN ?_ _) | (with_reducible refine Kd.C_drew ?_)))
                                  (case side2 => exact (Kd.V_reads' HO265.out).2.1)
                                  rintro e w29 ⟨v267, rfl, ho0, hb⟩
                                  refine ⟨_, rfl, ?_⟩
                                  have n0_ := Aside0.mk (Kd.V_elder' (by (with_reducible repeat (first | apply Kd.V_alloc | apply Kd.V_drewN | apply Kd.V_drew)); exact HO_9.out) (Kd.R_base ho0) hb)
                                  have n1_ := Aside0.mk (Kd.V_elder' (by (with_reducible repeat (first | apply Kd.V_alloc | apply Kd.V_drewN | apply Kd.V_drew)); exact HO265.out) (Kd.R_base ho0) hb)
                                  have n2_ := Aside0.mk (Kd.V_elder' (by (with_reducible repeat (first | apply Kd.V_alloc | apply Kd.V_drewN | apply Kd.V_drew)); exact HO273.out) (Kd.R_base ho0) hb)
                                  have n3_ := Aside0.mk (Kd.R_lower (Kd.R_newM (M := fun k_ => (w.heap.size ≤ k_)) ho0 (below_size (by repeat (first | (with_reducible first | exact HB.out | apply below_alloc | apply pw_below_drewN | apply below_drew1 | refine below_set ?_ GE251.out) | exact HB.out))) (fun k_ h_ => h_)) (below_size (by repeat (first | (with_reducible first | exact HB.out | apply below_alloc | apply pw_below_drewN | apply below_drew1 | refine below_set ?_ GE251.out) | exact HB.out))))
                                  have n4_ := Aside0.mk (blk_below (g := gb251) (o := .cells (tabC a2) 24 (0, 0)) (by (with_reducible repeat (first | refine blk_drewN ?_ _ | refine blk_drew ?_ | refine blk_alloc ?_ _)); exact BK251.out) hb)
                                  have n5_ := Aside0.mk (below_step (by repeat (first | (with_reducible first | exact HB.out | apply below_alloc | apply pw_below_drewN | apply below_drew1 | refine below_set ?_ GE251.out) | exact HB.out)) hb)
                                  clear HO_9
                                  clear HO265
                                  clear HO273
                                  clear BK251
                                  clear HB
                                  have HO_9 := n0_
                                  have HO265 := n1_
                                  have HO273 := n2_
                                  have HO268 := n3_
                                  have BK251 := n4_
                                  have HB := n5_
                                  clear n0_ n1_ n2_ n3_ n4_ n5_
                                  (try clear hb)
                                  (try clear hb2)
                                  (try clear hk)
                                  (try clear hi)
                                  (try clear ho0)
                                  refine hK.out _ _ (tab_loadAt Try.underlying24 (show (Try.prog.info? 24).map (·.size) = some 256 from by kernel_rfl) BK251.out) (fun hHeld => ?_)
                                  clear hK K
                                  refine norm_ (a' := ?_) ?_ ?_
                                  rotate_left
                                  · show Act.put _ (some 55) _ = _
                                    simp only [Act.put, List.setIfInBounds_toArray, List.set_cons_zero, List.set_cons_succ, i64_w, i32_w]
                                    rfl
                                  refine two_ (i := 3) (j := 8) (Ni := some 56) (Nj := some 61) #[true, true, true, true, true, true, true, true, false, false] #[true, true, true, false, true, true, true, true, true, false] rfl rfl rfl rfl (two_of HT_.out (by kernel_rfl)) (by decide) (by decide) (fun K hK => ?_) (fun K hK => ?_)
                                  · skip
                                    have hcv30 := own_string (P := Try.prog) Try.underlying25 Try.underlying5 Try.underlying9 (Kd.own_of_R HO268.out)
                                    refine value_ (w1 := ?_) (v := ?_) (by rfl) rfl ?_ ?_
                                    rotate_left 2
                                    · go_simp
                                      constructor
                                      · rfl
                                      · rfl
                                    clear hcv30
                                    refine hK.out _ _ (tab_loadAt Try.underlying24 (show (Try.prog.info? 24).map (·.size) = some 256 from by kernel_rfl) BK251.out) (fun hHeld => ?_)
                                    clear hK K
                                    refine norm_ (a' := ?_) ?_ ?_
                                    rotate_left
                                    · show Act.put _ (some 56) _ = _
                                      simp only [Act.put, List.setIfInBounds_toArray, List.set_cons_zero, List.set_cons_succ, i64_w, i32_w]
                                      rfl
                                    refine one_ (i := 8) (N := some 61) #[true, true, true, true, true, true, true, true, true, false] rfl rfl (one_of HT_.out (by kernel_rfl)) (by decide) (fun K hK => ?_)
                                    have hcv31 := V_string (P := Try.prog) Try.underlying25 Try.underlying5 Try.underlying9 HO273.out
                                    refine value_ (w1 := ?_) (v := ?_) (by rfl) rfl ?_ ?_
                                    rotate_left 2
                                    · go_simp
                                      constructor
                                      · rfl
                                      · rfl
                                    clear hcv31
                                    refine hK.out _ _ (tab_loadAt Try.underlying24 (show (Try.prog.info? 24).map (·.size) = some 256 from by kernel_rfl) BK251.out) (fun hHeld => ?_)
                                    clear hK K
                                    refine norm_ (a' := ?_) ?_ ?_
                                    rotate_left
                                    · show Act.put _ (some 61) _ = _
                                      simp only [Act.put, List.setIfInBounds_toArray, List.set_cons_zero, List.set_cons_succ, i64_w, i32_w]
                                      rfl
                                    exact norm_ (by simp only [putAll, Act.put, List.setIfInBounds_toArray, List.set_cons_zero, List.set_cons_succ]) (hCont (v267) _ ⟨hHeld, (by (with_reducible repeat (first | apply Kd.V_alloc | apply Kd.V_drewN | apply Kd.V_drew)); exact Kd.V_mono HO265.out (fun _ hk => ⟨hk.1.1, ⟨hk.2, hk.1.2⟩⟩)), (by (with_reducible repeat (first | apply Kd.R_alloc | apply Kd.R_drewN | apply Kd.R_drew)); exact Kd.R_mono HO268.out (fun _ hk => hk.1)), (by (with_reducible repeat (first | apply Kd.V_alloc | apply Kd.V_drewN | apply Kd.V_drew)); exact Kd.V_mono HO273.out (fun _ hk => ⟨hk.1.1, ⟨hk.2, hk.1.2⟩⟩)), (by (with_reducible repeat (first | apply Kd.V_alloc | apply Kd.V_drewN | apply Kd.V_drew)); exact Kd.V_mono HO_9.out (fun _ hk => ⟨hk.1.1, ⟨hk.2, hk.1.2⟩⟩)), (by (with_reducible repeat (first | refine blk_drewN ?_ _ | refine blk_drew ?_ | refine blk_alloc ?_ _)); exact BK251.out), (by repeat (first | (with_reducible first | exact HB.out | apply below_alloc | apply pw_below_drewN | apply below_drew1 | refine below_set ?_ GE251.out) | exact HB.out))⟩)
                                  · skip
                                    have hcv30 := V_string (P := Try.prog) Try.underlying25 Try.underlying5 Try.underlying9 HO273.out
                                    refine value_ (w1 := ?_) (v := ?_) (by rfl) rfl ?_ ?_
                                    rotate_left 2
                                    · go_simp
                                      constructor
                                      · rfl
                                      · rfl
                                    clear hcv30
                                    refine hK.out _ _ (tab_loadAt Try.underlying24 (show (Try.prog.info? 24).map (·.size) = some 256 from by kernel_rfl) BK251.out) (fun hHeld => ?_)
                                    clear hK K
                                    refine norm_ (a' := ?_) ?_ ?_
                                    rotate_left
                                    · show Act.put _ (some 61) _ = _
                                      simp only [Act.put, List.setIfInBounds_toArray, List.set_cons_zero, List.set_cons_succ, i64_w, i32_w]
                                      rfl
                                    refine one_ (i := 3) (N := some 56) #[true, true, true, true, true, true, true, true, true, false] rfl rfl (one_of HT_.out (by kernel_rfl)) (by decide) (fun K hK => ?_)
                                    have hcv31 := own_string (P := Try.prog) Try.underlying25 Try.underlying5 Try.underlying9 (Kd.own_of_R HO268.out)
                                    refine value_ (w1 := ?_) (v := ?_) (by rfl) rfl ?_ ?_
                                    rotate_left 2
                                    · go_simp
                                      constructor
                                      · rfl
                                      · rfl
                                    clear hcv31
                                    refine hK.out _ _ (tab_loadAt Try.underlying24 (show (Try.prog.info? 24).map (·.size) = some 256 from by kernel_rfl) BK251.out) (fun hHeld => ?_)
                                    clear hK K
                                    refine norm_ (a' := ?_) ?_ ?_
                                    rotate_left
                                    · show Act.put _ (some 56) _ = _
                                      simp only [Act.put, List.setIfInBounds_toArray, List.set_cons_zero, List.set_cons_succ, i64_w, i32_w]
                                      rfl
                                    exact norm_ (by simp only [putAll, Act.put, List.setIfInBounds_toArray, List.set_cons_zero, List.set_cons_succ]) (hCont (v267) _ ⟨hHeld, (by (with_reducible repeat (first | apply Kd.V_alloc | apply Kd.V_drewN | apply Kd.V_drew)); exact Kd.V_mono HO265.out (fun _ hk => ⟨hk.1.1, ⟨hk.2, hk.1.2⟩⟩)), (by (with_reducible repeat (first | apply Kd.R_alloc | apply Kd.R_drewN | apply Kd.R_drew)); exact Kd.R_mono HO268.out (fun _ hk => hk.1)), (by (with_reducible repeat (first | apply Kd.V_alloc | apply Kd.V_drewN | apply Kd.V_drew)); exact Kd.V_mono HO273.out (fun _ hk => ⟨hk.1.1, ⟨hk.2, hk.1.2⟩⟩)), (by (with_reducible repeat (first | apply Kd.V_alloc | apply Kd.V_drewN | apply Kd.V_drew)); exact Kd.V_mono HO_9.out (fun _ hk => ⟨hk.1.1, ⟨hk.2, hk.1.2⟩⟩)), (by (with_reducible repeat (first | refine blk_drewN ?_ _ | refine blk_drew ?_ | refine blk_alloc ?_ _)); exact BK251.out), (by repeat (first | (with_reducible first | exact HB.out | apply below_alloc | apply pw_below_drewN | apply below_drew1 | refine below_set ?_ GE251.out) | exact HB.out))⟩)
                                · skip
                                  have hcv29 := V_string (P := Try.prog) Try.underlying25 Try.underlying5 Try.underlying9 HO273.out
                                  refine value_ (w1 := ?_) (v := ?_) (by rfl) rfl ?_ ?_
                                  rotate_left 2
                                  · go_simp
                                    constructor
                                    · rfl
                                    · rfl
                                  clear hcv29
                                  refine hK.out _ _ (tab_loadAt Try.underlying24 (show (Try.prog.info? 24).map (·.size) = some 256 from by kernel_rfl) BK251.out) (fun hHeld => ?_)
                                  clear hK K
                                  refine norm_ (a' := ?_) ?_ ?_
                                  rotate_left
                                  · show Act.put _ (some 61) _ = _
                                    simp only [Act.put, List.setIfInBounds_toArray, List.set_cons_zero, List.set_cons_succ, i64_w, i32_w]
                                    rfl
                                  refine one_ (i := 2) (N := some 55) #[true, true, true, false, true, true, true, true, true, false] rfl rfl (one_of HT_.out (by kernel_rfl)) (by decide) (fun K hK => ?_)
                                  refine goes_ Try.func22 (by kernel_rfl) rfl #[.agg (tabC a2), .slice A26 y261.length c26] (by rfl) rfl rfl (by (try simp only [List.map_toArray, List.map_cons, List.map_nil]); first | done | rfl | (simp only [List.length_drop, List.length_take]; rfl)) ?_
                                  with_reducible refine (punnetref07_Frame.calls kj12 a2 _ _ y261 t266 _ ?side1 ?side2 A21.out).mono ?_
                                  (case side1 => repeat (first | exact (Kd.V_reads' HO265.out).2.2 | (with_reducible refine Kd.C_alloc ?_ _) | (with_reducible refine Kd.C_drewN ?_ _) | (with_reducible refine Kd.C_drew ?_)))
                                  (case side2 => exact (Kd.V_reads' HO265.out).2.1)
                                  rintro e w30 ⟨v267, rfl, ho0, hb⟩
                                  refine ⟨_, rfl, ?_⟩
                                  have n0_ := Aside0.mk (Kd.V_elder' (by (with_reducible repeat (first | apply Kd.V_alloc | apply Kd.V_drewN | apply Kd.V_drew)); exact HO_9.out) (Kd.R_base ho0) hb)
                                  have n1_ := Aside0.mk (Kd.V_elder' (by (with_reducible repeat (first | apply Kd.V_alloc | apply Kd.V_drewN | apply Kd.V_drew)); exact HO265.out) (Kd.R_base ho0) hb)
                                  have n2_ := Aside0.mk (Kd.V_elder' (by (with_reducible repeat (first | apply Kd.V_alloc | apply Kd.V_drewN | apply Kd.V_drew)); exact HO273.out) (Kd.R_base ho0) hb)
                                  have n3_ := Aside0.mk (Kd.R_lower (Kd.R_newM (M := fun k_ => (w.heap.size ≤ k_)) ho0 (below_size (by repeat (first | (with_reducible first | exact HB.out | apply below_alloc | apply pw_below_drewN | apply below_drew1 | refine below_set ?_ GE251.out) | exact HB.out))) (fun k_ h_ => h_)) (below_size (by repeat (first | (with_reducible first | exact HB.out | apply below_alloc | apply pw_below_drewN | apply below_drew1 | refine below_set ?_ GE251.out) | exact HB.out))))
                                  have n4_ := Aside0.mk (blk_below (g := gb251) (o := .cells (tabC a2) 24 (0, 0)) (by (with_reducible repeat (first | refine blk_drewN ?_ _ | refine blk_drew ?_ | refine blk_alloc ?_ _)); exact BK251.out) hb)
                                  have n5_ := Aside0.mk (below_step (by repeat (first | (with_reducible first | exact HB.out | apply below_alloc | apply pw_below_drewN | apply below_drew1 | refine below_set ?_ GE251.out) | exact HB.out)) hb)
                                  clear HO_9
                                  clear HO265
                                  clear HO273
                                  clear BK251
                                  clear HB
                                  have HO_9 := n0_
                                  have HO265 := n1_
                                  have HO273 := n2_
                                  have HO268 := n3_
                                  have BK251 := n4_
                                  have HB := n5_
                                  clear n0_ n1_ n2_ n3_ n4_ n5_
                                  (try clear hb)
                                  (try clear hb2)
                                  (try clear hk)
                                  (try clear hi)
                                  (try clear ho0)
                                  refine hK.out _ _ (tab_loadAt Try.underlying24 (show (Try.prog.info? 24).map (·.size) = some 256 from by kernel_rfl) BK251.out) (fun hHeld => ?_)
                                  clear hK K
                                  refine norm_ (a' := ?_) ?_ ?_
                                  rotate_left
                                  · show Act.put _ (some 55) _ = _
                                    simp only [Act.put, List.setIfInBounds_toArray, List.set_cons_zero, List.set_cons_succ, i64_w, i32_w]
                                    rfl
                                  refine one_ (i := 3) (N := some 56) #[true, true, true, true, true, true, true, true, true, false] rfl rfl (one_of HT_.out (by kernel_rfl)) (by decide) (fun K hK => ?_)
                                  have hcv31 := own_string (P := Try.prog) Try.underlying25 Try.underlying5 Try.underlying9 (Kd.own_of_R HO268.out)
                                  refine value_ (w1 := ?_) (v := ?_) (by rfl) rfl ?_ ?_
                                  rotate_left 2
                                  · go_simp
                                    constructor
                                    · rfl
                                    · rfl
                                  clear hcv31
                                  refine hK.out _ _ (tab_loadAt Try.underlying24 (show (Try.prog.info? 24).map (·.size) = some 256 from by kernel_rfl) BK251.out) (fun hHeld => ?_)
                                  clear hK K
                                  refine norm_ (a' := ?_) ?_ ?_
                                  rotate_left
                                  · show Act.put _ (some 56) _ = _
                                    simp only [Act.put, List.setIfInBounds_toArray, List.set_cons_zero, List.set_cons_succ, i64_w, i32_w]
                                    rfl
                                  exact norm_ (by simp only [putAll, Act.put, List.setIfInBounds_toArray, List.set_cons_zero, List.set_cons_succ]) (hCont (v267) _ ⟨hHeld, (by (with_reducible repeat (first | apply Kd.V_alloc | apply Kd.V_drewN | apply Kd.V_drew)); exact Kd.V_mono HO265.out (fun _ hk => ⟨hk.1.1, ⟨hk.2, hk.1.2⟩⟩)), (by (with_reducible repeat (first | apply Kd.R_alloc | apply Kd.R_drewN | apply Kd.R_drew)); exact Kd.R_mono HO268.out (fun _ hk => hk.1)), (by (with_reducible repeat (first | apply Kd.V_alloc | apply Kd.V_drewN | apply Kd.V_drew)); exact Kd.V_mono HO273.out (fun _ hk => ⟨hk.1.1, ⟨hk.2, hk.1.2⟩⟩)), (by (with_reducible repeat (first | apply Kd.V_alloc | apply Kd.V_drewN | apply Kd.V_drew)); exact Kd.V_mono HO_9.out (fun _ hk => ⟨hk.1.1, ⟨hk.2, hk.1.2⟩⟩)), (by (with_reducible repeat (first | refine blk_drewN ?_ _ | refine blk_drew ?_ | refine blk_alloc ?_ _)); exact BK251.out), (by repeat (first | (with_reducible first | exact HB.out | apply below_alloc | apply pw_below_drewN | apply below_drew1 | refine below_set ?_ GE251.out) | exact HB.out))⟩)
                              rintro v267 w32 ⟨hS_, h0_, h1_, h2_, h3_, h4_, h5_⟩
                              have n0_ : Aside0 (Kd.V (Kd.int .u8) 5 w32 w.heap.size (fun k_ => (P0_ k_ ∨ w.heap.size ≤ k_) ∧ some k_ ≠ (v267 : Value).ownBlock ∧ k_ ≠ gb251) (.slice A26 y261.length c26) y261) := ⟨h0_⟩
                              have n1_ : Aside0 (Kd.R (Kd.int .u8) 5 w32 w.heap.size (fun k_ => (w.heap.size ≤ k_)) v267 t266) := ⟨h1_⟩
                              have n2_ : Aside0 (Kd.V (Kd.int .u8) 5 w32 w.heap.size (fun k_ => (P0_ k_ ∨ w.heap.size ≤ k_) ∧ some k_ ≠ (v267 : Value).ownBlock ∧ k_ ≠ gb251) (.slice (some ad257) y269.length c15) y269) := ⟨h2_⟩
                              have n3_ : Aside0 (Kd.V (Kd.int .u8) 5 w32 w.heap.size (fun k_ => (P0_ k_ ∨ w.heap.size ≤ k_) ∧ some k_ ≠ (v267 : Value).ownBlock ∧ k_ ≠ gb251) (.slice (some ad257) y252.length c15) y252) := ⟨h3_⟩
                              have n4_ : Aside0 (w32.heap[gb251]? = some (.cells (tabC a2) 24 (0, 0))) := ⟨h4_⟩
                              have n5_ : Aside0 (Below w.heap.size w w32) := ⟨h5_⟩
                              clear HO_9
                              clear HO265
                              clear BK251
                              clear HB
                              clear h0_ h1_ h2_ h3_ h4_ h5_
                              have HO265 := n0_
                              have HO268 := n1_
                              have HO273 := n2_
                              have HO_9 := n3_
                              have BK251 := n4_
                              have HB := n5_
                              clear n0_ n1_ n2_ n3_ n4_ n5_
                              have hHeld : (Instr.loadAt 24 (.pointer (some ⟨gb251, 0, none⟩))).run Try.prog w32 = .ok (.agg (tabC a2)) w32 := hS_
                              refine norm_ (a' := ?_) ?_ ?_
                              rotate_left
                              · simp only [putAll, Act.put, List.setIfInBounds_toArray, List.set_cons_zero, List.set_cons_succ]
                                rfl
                              refine pure_ (i := 9) (N := some 62) (v := ?_) (a' := ?_) #[true, true, true, true, true, true, true, true, true, true] rfl rfl (any_of HT_.out (by kernel_rfl)) (fun _ _ _ h => h) (Or.inl ⟨by rfl, ?_⟩) ?_ ?_
                              rotate_left
                              · intro w'
                                go_simp
                                with_reducible rfl
                              rotate_left
                              · simp only [Act.put, List.setIfInBounds_toArray, List.set_cons_zero, List.set_cons_succ, i64_w, i32_w]
                                rfl
                              refine done_ (done_of HT_.out (by kernel_rfl)) ?_
                              try go_wp2
                              go_ret3
                              exact ⟨_, by first | rfl | (simp [errW_none, errW_some] <;> rfl) | (simp only [← hji22]; first | rfl | (simp [errW_none, errW_some] <;> rfl)) | (simp [*, errW_none, errW_some] <;> rfl), by (with_reducible repeat (first | apply Kd.V_alloc | apply Kd.V_drewN | apply Kd.V_drew)); exact Kd.V_mono HO265.out (fun _ hk => hk.1), by repeat (first | (with_reducible first | exact HB.out | apply below_alloc | apply pw_below_drewN | apply below_drew1 | refine below_set ?_ GE251.out) | exact HB.out)⟩
                            · rw [if_neg c25] at H
                              have c25b0 : ((strOfNums t266).toList == (strOfNums y269).toList) = false := beq_eq_false_iff_ne.mpr c25
                              have c25b1 : ((strOfNums t266).toList != (strOfNums y269).toList) = true := bne_iff_ne.mpr c25
                              simp only [Option.some.injEq, Prod.mk.injEq] at H
                              obtain ⟨rfl, rfl, rfl⟩ := H
                              have q33 : ((ji22) : Int) ≤ ((y252.length : Int) : Int) := of_decide_eq_true (by first | (with_reducible assumption) | assumption)
                              obtain ⟨i033, hi033, _, hsz33, _⟩ := info_parts info5
                              have hroom33 : y252.length ≤ c15 := (Kd.V_reads' HO_9.out).2.1
                              have hC33 : Kd.F (Kd.int .u8) _ _ (some ad257) y252.length y252 := (Kd.V_at (base := w.heap.size) HO_9.out).2.2
                              have ql33 : (8 : Int) ≤ ((ji22) : Int) := of_decide_eq_true (by first | (with_reducible assumption) | assumption)
                              have hcut33 := cut_mid (P := Try.prog) 25 5 .i64 .i64 Try.underlying25 hi033 1 hsz33 (some ad257) y252.length c15 8 (ji22) (by omega) ql33 q33 hroom33
                              have hr33 := Kd.F_mid (lo := (8 : Int).toNat) (hi := ((ji22) : Int).toNat) (c := c15) hC33 (by omega) (by omega) hroom33
                              obtain ⟨A33, hA33⟩ : ∃ A1, A1 = (if c15 = (8 : Int).toNat then (some ad257) else ((some ad257) : Option Addr).map (·.add ((8 : Int).toNat * 1))) := ⟨_, rfl⟩
                              obtain ⟨c33, hc33⟩ : ∃ c1, c1 = c15 - (8 : Int).toNat := ⟨_, rfl⟩
                              have hy33 : y261.length = ((ji22) : Int).toNat - (8 : Int).toNat := (by rw [Ny261.out, List.length_drop, List.length_take] <;> omega)
                              rw [show ((y252).take ((ji22) : Int).toNat).drop (8 : Int).toNat = y261 from Ny261.out.symm] at hr33
                              replace hr33 : Kd.F (Kd.int .u8) _ _ A33 y261.length y261 := (by rw [hA33]; exact hr33)
                              rw [← hy33, ← hA33, ← hc33] at hcut33
                              have HO265 := Aside0.mk (show Kd.V (Kd.int .u8) 5 _ w.heap.size _ (.slice A33 y261.length c33) y261 from Kd.V_mk (by rw [hy33, hc33]; exact Nat.sub_le_sub_right (Nat.le_trans (by omega) hroom33) _) hr33)
                              have HC265 := Aside0.mk (show y261.length ≤ c33 from by rw [hy33, hc33]; exact Nat.sub_le_sub_right (Nat.le_trans (by omega) hroom33) _)
                              clear hr33 hC33 hroom33 hi033 hsz33 hc33
                              have KY33 := Aside0.mk hy33
                              have KA33 := Aside0.mk hA33
                              clear hy33 hA33
                              replace q33 := eq_true q33
                              try go_wp2
                              have n0_ := Aside0.mk (Kd.V_drew HO_9.out)
                              have n1_ := Aside0.mk (Kd.V_drew HO265.out)
                              have n2_ := Aside0.mk (blk_drew BK251.out)
                              have n3_ := Aside0.mk (below_drew1 HB.out)
                              clear HO_9
                              clear HO265
                              clear BK251
                              clear HB
                              have HO_9 := n0_
                              have HO265 := n1_
                              have BK251 := n2_
                              have HB := n3_
                              clear n0_ n1_ n2_ n3_
                              have q35 : ((ji22) : Int) ≤ ((y252.length : Int) : Int) := of_decide_eq_true (by first | (with_reducible assumption) | assumption)
                              obtain ⟨i035, hi035, _, hsz35, _⟩ := info_parts info5
                              have hroom35 : y252.length ≤ c15 := (Kd.V_reads' HO_9.out).2.1
                              have hC35 : Kd.F (Kd.int .u8) _ _ (some ad257) y252.length y252 := (Kd.V_at (base := w.heap.size) HO_9.out).2.2
                              have hcut35 := cut_to (P := Try.prog) 25 5 .i64 Try.underlying25 hi035 (some ad257) y252.length c15 (ji22) (of_decide_eq_true (by first | (with_reducible assumption) | assumption)) q35 hroom35
                              have hr35 := Kd.F_take (m := ((ji22) : Int).toNat) hC35 (by omega)
                              have hy35 : y269.length = ((ji22) : Int).toNat := (by rw [Ny269.out, List.length_take]; omega)
                              rw [← Ny269.out] at hr35
                              rw [← hy35] at hcut35
                              have HO273 := Aside0.mk (show Kd.V (Kd.int .u8) 5 _ w.heap.size _ (.slice (some ad257) y269.length c15) y269 from Kd.V_mk (by omega) hr35)
                              have HC273 := Aside0.mk (show y269.length ≤ c15 from by omega)
                              clear hr35 hC35 hroom35 hi035 hsz35
                              have KY35 := Aside0.mk hy35
                              clear hy35
                              replace q35 := eq_true q35
                              refine start_ (n := 10) (S := fun w' => (Instr.loadAt 24 (.pointer (some ⟨gb251, 0, none⟩))).run Try.prog w' = .ok (.agg (tabC a2)) w') (ds := []) #[false, false, false, false, false, false, false, false, false, false] (by kernel_rfl) rfl rfl (tab_loadAt Try.underlying24 (show (Try.prog.info? 24).map (·.size) = some 256 from by kernel_rfl) BK251.out) (fun hHeld => ?_); refine with_tabW punnetref07_Get.tab8 punnetref07_Get.bits8 (fun HT_ HW_ => ?_)
                              generalize wc.drew = w34 at HO_9 HO265 BK251 HB HO273 hHeld ⊢
                              refine pure_ (i := 1) (N := some 54) (v := ?_) (a' := ?_) #[false, true, false, false, false, false, false, false, false, false] rfl rfl (any_of HT_.out (by kernel_rfl)) (fun _ _ _ h => h) (Or.inl ⟨by rfl, ?_⟩) ?_ ?_
                              rotate_left
                              · intro w'
                                go_simp
                                with_reducible rfl
                              rotate_left
                              · simp only [Act.put, List.setIfInBounds_toArray, List.set_cons_zero, List.set_cons_succ, i64_w, i32_w]
                                rfl
                              refine pure_ (i := 4) (N := some 57) (v := ?_) (a' := ?_) #[false, true, false, false, true, false, false, false, false, false] rfl rfl (any_of HT_.out (by kernel_rfl)) (fun _ _ _ h => h) (Or.inl ⟨by rfl, ?_⟩) ?_ ?_
                              rotate_left
                              · intro w'
                                go_simp
                                with_reducible rfl
                              rotate_left
                              · simp only [Act.put, List.setIfInBounds_toArray, List.set_cons_zero, List.set_cons_succ, i64_w, i32_w]
                                rfl
                              refine pure_ (i := 5) (N := some 58) (v := ?_) (a' := ?_) #[false, true, false, false, true, true, false, false, false, false] rfl rfl (any_of HT_.out (by kernel_rfl)) (fun _ _ _ h => h) (Or.inl ⟨by rfl, ?_⟩) ?_ ?_
                              rotate_left
                              · intro w'
                                go_simp
                                with_reducible rfl
                              rotate_left
                              · simp only [Act.put, List.setIfInBounds_toArray, List.set_cons_zero, List.set_cons_succ, i64_w, i32_w]
                                rfl
                              refine pure_ (i := 6) (N := some 59) (v := ?_) (a' := ?_) #[false, true, false, false, true, true, true, false, false, false] rfl rfl (any_of HT_.out (by kernel_rfl)) (fun _ _ _ h => h) (Or.inl ⟨by rfl, ?_⟩) ?_ ?_
                              rotate_left
                              · intro w'
                                go_simp
                                with_reducible rfl
                              rotate_left
                              · simp only [Act.put, List.setIfInBounds_toArray, List.set_cons_zero, List.set_cons_succ, i64_w, i32_w]
                                rfl
                              refine pure_ (i := 7) (N := some 60) (v := ?_) (a' := ?_) #[false, true, false, false, true, true, true, true, false, false] rfl rfl (any_of HT_.out (by kernel_rfl)) (fun _ _ _ h => h) (Or.inl ⟨by rfl, ?_⟩) ?_ ?_
                              rotate_left
                              · intro w'
                                go_simp
                                with_reducible rfl
                              rotate_left
                              · simp only [Act.put, List.setIfInBounds_toArray, List.set_cons_zero, List.set_cons_succ, i64_w, i32_w]
                                rfl
                              refine take_ (i := 0) (N := some 53) (v := ?_) (a' := ?_) #[true, true, false, false, true, true, true, true, false, false] rfl rfl (take_ofW HT_.out HW_.out (by kernel_rfl)) (fun _ _ _ h => h) (Or.inl ⟨by rfl, ?_⟩) hHeld ?_ ?_
                              rotate_left
                              · intro w' s0
                                exact tab_exec rfl rfl (by assumption)
                              rotate_left
                              · simp only [Act.put, List.setIfInBounds_toArray, List.set_cons_zero, List.set_cons_succ, i64_w, i32_w]
                                rfl
                              refine join_ (σ := Value) 1 #[true, true, true, true, true, true, true, true, true, false] (fun s_ => [(55, s_), (56, .string (strOfNums t266)), (61, .string (strOfNums y269))]) (fun s_ w' => ((Instr.loadAt 24 (.pointer (some ⟨gb251, 0, none⟩))).run Try.prog w' = .ok (.agg (tabC a2)) w') ∧ (Kd.V (Kd.int .u8) 5 w' w.heap.size (fun k_ => (P0_ k_ ∨ w.heap.size ≤ k_) ∧ some k_ ≠ (s_ : Value).ownBlock ∧ k_ ≠ gb251) (.slice A33 y261.length c33) y261) ∧ (Kd.R (Kd.int .u8) 5 w' w.heap.size (fun k_ => (w.heap.size ≤ k_)) s_ t266) ∧ (Kd.V (Kd.int .u8) 5 w' w.heap.size (fun k_ => (P0_ k_ ∨ w.heap.size ≤ k_) ∧ some k_ ≠ (s_ : Value).ownBlock ∧ k_ ≠ gb251) (.slice (some ad257) y269.length c15) y269) ∧ (Kd.V (Kd.int .u8) 5 w' w.heap.size (fun k_ => (P0_ k_ ∨ w.heap.size ≤ k_) ∧ some k_ ≠ (s_ : Value).ownBlock ∧ k_ ≠ gb251) (.slice (some ad257) y252.length c15) y252) ∧ (w'.heap[gb251]? = some (.cells (tabC a2) 24 (0, 0))) ∧ (Below w.heap.size w w')) ?_ ?_
                              rotate_left
                              · intro hCont
                                refine two_ (i := 2) (j := 8) (Ni := some 55) (Nj := some 61) #[true, true, true, false, true, true, true, true, false, false] #[true, true, false, false, true, true, true, true, true, false] rfl rfl rfl rfl (two_of HT_.out (by kernel_rfl)) (by decide) (by decide) (fun K hK => ?_) (fun K hK => ?_)
                                · skip
                                  refine goes_ Try.func22 (by kernel_rfl) rfl #[.agg (tabC a2), .slice A33 y261.length c33] (by rfl) rfl rfl (by (try simp only [List.map_toArray, List.map_cons, List.map_nil]); first | done | rfl | (simp only [List.length_drop, List.length_take]; rfl)) ?_
                                  with_reducible refine (punnetref07_Frame.calls kj12 a2 _ _ y261 t266 _ ?side1 ?side2 A21.out).mono ?_
                                  (case side1 => repeat (first | exact (Kd.V_reads' HO265.out).2.2 | (with_reducible refine Kd.C_alloc ?_ _) | (with_reducible refine Kd.C_drewN ?_ _) | (with_reducible refine Kd.C_drew ?_)))
                                  (case side2 => exact (Kd.V_reads' HO265.out).2.1)
                                  rintro e w36 ⟨v267, rfl, ho0, hb⟩
                                  refine ⟨_, rfl, ?_⟩
                                  have n0_ := Aside0.mk (Kd.V_elder' (by (with_reducible repeat (first | apply Kd.V_alloc | apply Kd.V_drewN | apply Kd.V_drew)); exact HO_9.out) (Kd.R_base ho0) hb)
                                  have n1_ := Aside0.mk (Kd.V_elder' (by (with_reducible repeat (first | apply Kd.V_alloc | apply Kd.V_drewN | apply Kd.V_drew)); exact HO265.out) (Kd.R_base ho0) hb)
                                  have n2_ := Aside0.mk (Kd.V_elder' (by (with_reducible repeat (first | apply Kd.V_alloc | apply Kd.V_drewN | apply Kd.V_drew)); exact HO273.out) (Kd.R_base ho0) hb)
                                  have n3_ := Aside0.mk (Kd.R_lower (Kd.R_newM (M := fun k_ => (w.heap.size ≤ k_)) ho0 (below_size (by repeat (first | (with_reducible first | exact HB.out | apply below_alloc | apply pw_below_drewN | apply below_drew1 | refine below_set ?_ GE251.out) | exact HB.out))) (fun k_ h_ => h_)) (below_size (by repeat (first | (with_reducible first | exact HB.out | apply below_alloc | apply pw_below_drewN | apply below_drew1 | refine below_set ?_ GE251.out) | exact HB.out))))
                                  have n4_ := Aside0.mk (blk_below (g := gb251) (o := .cells (tabC a2) 24 (0, 0)) (by (with_reducible repeat (first | refine blk_drewN ?_ _ | refine blk_drew ?_ | refine blk_alloc ?_ _)); exact BK251.out) hb)
                                  have n5_ := Aside0.mk (below_step (by repeat (first | (with_reducible first | exact HB.out | apply below_alloc | apply pw_below_drewN | apply below_drew1 | refine below_set ?_ GE251.out) | exact HB.out)) hb)
                                  clear HO_9
                                  clear HO265
                                  clear HO273
                                  clear BK251
                                  clear HB
                                  have HO_9 := n0_
                                  have HO265 := n1_
                                  have HO273 := n2_
                                  have HO268 := n3_
                                  have BK251 := n4_
                                  have HB := n5_
                                  clear n0_ n1_ n2_ n3_ n4_ n5_
                                  (try clear hb)
                                  (try clear hb2)
                                  (try clear hk)
                                  (try clear hi)
                                  (try clear ho0)
                                  refine hK.out _ _ (tab_loadAt Try.underlying24 (show (Try.prog.info? 24).map (·.size) = some 256 from by kernel_rfl) BK251.out) (fun hHeld => ?_)
                                  clear hK K
                                  refine norm_ (a' := ?_) ?_ ?_
                                  rotate_left
                                  · show Act.put _ (some 55) _ = _
                                    simp only [Act.put, List.setIfInBounds_toArray, List.set_cons_zero, List.set_cons_succ, i64_w, i32_w]
                                    rfl
                                  refine two_ (i := 3) (j := 8) (Ni := some 56) (Nj := some 61) #[true, true, true, true, true, true, true, true, false, false] #[true, true, true, false, true, true, true, true, true, false] rfl rfl rfl rfl (two_of HT_.out (by kernel_rfl)) (by decide) (by decide) (fun K hK => ?_) (fun K hK => ?_)
                                  · skip
                                    have hcv37 := own_string (P := Try.prog) Try.underlying25 Try.underlying5 Try.underlying9 (Kd.own_of_R HO268.out)
                                    refine value_ (w1 := ?_) (v := ?_) (by rfl) rfl ?_ ?_
                                    rotate_left 2
                                    · go_simp
                                      constructor
                                      · rfl
                                      · rfl
                                    clear hcv37
                                    refine hK.out _ _ (tab_loadAt Try.underlying24 (show (Try.prog.info? 24).map (·.size) = some 256 from by kernel_rfl) BK251.out) (fun hHeld => ?_)
                                    clear hK K
                                    refine norm_ (a' := ?_) ?_ ?_
                                    rotate_left
                                    · show Act.put _ (some 56) _ = _
                                      simp only [Act.put, List.setIfInBounds_toArray, List.set_cons_zero, List.set_cons_succ, i64_w, i32_w]
                                      rfl
                                    refine one_ (i := 8) (N := some 61) #[true, true, true, true, true, true, true, true, true, false] rfl rfl (one_of HT_.out (by kernel_rfl)) (by decide) (fun K hK => ?_)
                                    have hcv38 := V_string (P := Try.prog) Try.underlying25 Try.underlying5 Try.underlying9 HO273.out
                                    refine value_ (w1 := ?_) (v := ?_) (by rfl) rfl ?_ ?_
                                    rotate_left 2
                                    · go_simp
                                      constructor
                                      · rfl
                                      · rfl
                                    clear hcv38
                                    refine hK.out _ _ (tab_loadAt Try.underlying24 (show (Try.prog.info? 24).map (·.size) = some 256 from by kernel_rfl) BK251.out) (fun hHeld => ?_)
                                    clear hK K
                                    refine norm_ (a' := ?_) ?_ ?_
                                    rotate_left
                                    · show Act.put _ (some 61) _ = _
                                      simp only [Act.put, List.setIfInBounds_toArray, List.set_cons_zero, List.set_cons_succ, i64_w, i32_w]
                                      rfl
                                    exact norm_ (by simp only [putAll, Act.put, List.setIfInBounds_toArray, List.set_cons_zero, List.set_cons_succ]) (hCont (v267) _ ⟨hHeld, (by (with_reducible repeat (first | apply Kd.V_alloc | apply Kd.V_drewN | apply Kd.V_drew)); exact Kd.V_mono HO265.out (fun _ hk => ⟨hk.1.1, ⟨hk.2, hk.1.2⟩⟩)), (by (with_reducible repeat (first | apply Kd.R_alloc | apply Kd.R_drewN | apply Kd.R_drew)); exact Kd.R_mono HO268.out (fun _ hk => hk.1)), (by (with_reducible repeat (first | apply Kd.V_alloc | apply Kd.V_drewN | apply Kd.V_drew)); exact Kd.V_mono HO273.out (fun _ hk => ⟨hk.1.1, ⟨hk.2, hk.1.2⟩⟩)), (by (with_reducible repeat (first | apply Kd.V_alloc | apply Kd.V_drewN | apply Kd.V_drew)); exact Kd.V_mono HO_9.out (fun _ hk => ⟨hk.1.1, ⟨hk.2, hk.1.2⟩⟩)), (by (with_reducible repeat (first | refine blk_drewN ?_ _ | refine blk_drew ?_ | refine blk_alloc ?_ _)); exact BK251.out), (by repeat (first | (with_reducible first | exact HB.out | apply below_alloc | apply pw_below_drewN | apply below_drew1 | refine below_set ?_ GE251.out) | exact HB.out))⟩)
                                  · skip
                                    have hcv37 := V_string (P := Try.prog) Try.underlying25 Try.underlying5 Try.underlying9 HO273.out
                                    refine value_ (w1 := ?_) (v := ?_) (by rfl) rfl ?_ ?_
                                    rotate_left 2
                                    · go_simp
                                      constructor
                                      · rfl
                                      · rfl
                                    clear hcv37
                                    refine hK.out _ _ (tab_loadAt Try.underlying24 (show (Try.prog.info? 24).map (·.size) = some 256 from by kernel_rfl) BK251.out) (fun hHeld => ?_)
                                    clear hK K
                                    refine norm_ (a' := ?_) ?_ ?_
                                    rotate_left
                                    · show Act.put _ (some 61) _ = _
                                      simp only [Act.put, List.setIfInBounds_toArray, List.set_cons_zero, List.set_cons_succ, i64_w, i32_w]
                                      rfl
                                    refine one_ (i := 3) (N := some 56) #[true, true, true, true, true, true, true, true, true, false] rfl rfl (one_of HT_.out (by kernel_rfl)) (by decide) (fun K hK => ?_)
                                    have hcv38 := own_string (P := Try.prog) Try.underlying25 Try.underlying5 Try.underlying9 (Kd.own_of_R HO268.out)
                                    refine value_ (w1 := ?_) (v := ?_) (by rfl) rfl ?_ ?_
                                    rotate_left 2
                                    · go_simp
                                      constructor
                                      · rfl
                                      · rfl
                                    clear hcv38
                                    refine hK.out _ _ (tab_loadAt Try.underlying24 (show (Try.prog.info? 24).map (·.size) = some 256 from by kernel_rfl) BK251.out) (fun hHeld => ?_)
                                    clear hK K
                                    refine norm_ (a' := ?_) ?_ ?_
                                    rotate_left
                                    · show Act.put _ (some 56) _ = _
                                      simp only [Act.put, List.setIfInBounds_toArray, List.set_cons_zero, List.set_cons_succ, i64_w, i32_w]
                                      rfl
                                    exact norm_ (by simp only [putAll, Act.put, List.setIfInBounds_toArray, List.set_cons_zero, List.set_cons_succ]) (hCont (v267) _ ⟨hHeld, (by (with_reducible repeat (first | apply Kd.V_alloc | apply Kd.V_drewN | apply Kd.V_drew)); exact Kd.V_mono HO265.out (fun _ hk => ⟨hk.1.1, ⟨hk.2, hk.1.2⟩⟩)), (by (with_reducible repeat (first | apply Kd.R_alloc | apply Kd.R_drewN | apply Kd.R_drew)); exact Kd.R_mono HO268.out (fun _ hk => hk.1)), (by (with_reducible repeat (first | apply Kd.V_alloc | apply Kd.V_drewN | apply Kd.V_drew)); exact Kd.V_mono HO273.out (fun _ hk => ⟨hk.1.1, ⟨hk.2, hk.1.2⟩⟩)), (by (with_reducible repeat (first | apply Kd.V_alloc | apply Kd.V_drewN | apply Kd.V_drew)); exact Kd.V_mono HO_9.out (fun _ hk => ⟨hk.1.1, ⟨hk.2, hk.1.2⟩⟩)), (by (with_reducible repeat (first | refine blk_drewN ?_ _ | refine blk_drew ?_ | refine blk_alloc ?_ _)); exact BK251.out), (by repeat (first | (with_reducible first | exact HB.out | apply below_alloc | apply pw_below_drewN | apply below_drew1 | refine below_set ?_ GE251.out) | exact HB.out))⟩)
                                · skip
                                  have hcv36 := V_string (P := Try.prog) Try.underlying25 Try.underlying5 Try.underlying9 HO273.out
                                  refine value_ (w1 := ?_) (v := ?_) (by rfl) rfl ?_ ?_
                                  rotate_left 2
                                  · go_simp
                                    constructor
                                    · rfl
                                    · rfl
                                  clear hcv36
                                  refine hK.out _ _ (tab_loadAt Try.underlying24 (show (Try.prog.info? 24).map (·.size) = some 256 from by kernel_rfl) BK251.out) (fun hHeld => ?_)
                                  clear hK K
                                  refine norm_ (a' := ?_) ?_ ?_
                                  rotate_left
                                  · show Act.put _ (some 61) _ = _
                                    simp only [Act.put, List.setIfInBounds_toArray, List.set_cons_zero, List.set_cons_succ, i64_w, i32_w]
                                    rfl
                                  refine one_ (i := 2) (N := some 55) #[true, true, true, false, true, true, true, true, true, false] rfl rfl (one_of HT_.out (by kernel_rfl)) (by decide) (fun K hK => ?_)
                                  refine goes_ Try.func22 (by kernel_rfl) rfl #[.agg (tabC a2), .slice A33 y261.length c33] (by rfl) rfl rfl (by (try simp only [List.map_toArray, List.map_cons, List.map_nil]); first | done | rfl | (simp only [List.length_drop, List.length_take]; rfl)) ?_
                                  with_reducible refine (punnetref07_Frame.calls kj12 a2 _ _ y261 t266 _ ?side1 ?side2 A21.out).mono ?_
                                  (case side1 => repeat (first | exact (Kd.V_reads' HO265.out).2.2 | (with_reducible refine Kd.C_alloc ?_ _) | (with_reducible refine Kd.C_drewN ?_ _) | (with_reducible refine Kd.C_drew ?_)))
                                  (case side2 => exact (Kd.V_reads' HO265.out).2.1)
                                  rintro e w37 ⟨v267, rfl, ho0, hb⟩
                                  refine ⟨_, rfl, ?_⟩
                                  have n0_ := Aside0.mk (Kd.V_elder' (by (with_reducible repeat (first | apply Kd.V_alloc | apply Kd.V_drewN | apply Kd.V_drew)); exact HO_9.out) (Kd.R_base ho0) hb)
                                  have n1_ := Aside0.mk (Kd.V_elder' (by (with_reducible repeat (first | apply Kd.V_alloc | apply Kd.V_drewN | apply Kd.V_drew)); exact HO265.out) (Kd.R_base ho0) hb)
                                  have n2_ := Aside0.mk (Kd.V_elder' (by (with_reducible repeat (first | apply Kd.V_alloc | apply Kd.V_drewN | apply Kd.V_drew)); exact HO273.out) (Kd.R_base ho0) hb)
                                  have n3_ := Aside0.mk (Kd.R_lower (Kd.R_newM (M := fun k_ => (w.heap.size ≤ k_)) ho0 (below_size (by repeat (first | (with_reducible first | exact HB.out | apply below_alloc | apply pw_below_drewN | apply below_drew1 | refine below_set ?_ GE251.out) | exact HB.out))) (fun k_ h_ => h_)) (below_size (by repeat (first | (with_reducible first | exact HB.out | apply below_alloc | apply pw_below_drewN | apply below_drew1 | refine below_set ?_ GE251.out) | exact HB.out))))
                                  have n4_ := Aside0.mk (blk_below (g := gb251) (o := .cells (tabC a2) 24 (0, 0)) (by (with_reducible repeat (first | refine blk_drewN ?_ _ | refine blk_drew ?_ | refine blk_alloc ?_ _)); exact BK251.out) hb)
                                  have n5_ := Aside0.mk (below_step (by repeat (first | (with_reducible first | exact HB.out | apply below_alloc | apply pw_below_drewN | apply below_drew1 | refine below_set ?_ GE251.out) | exact HB.out)) hb)
                                  clear HO_9
                                  clear HO265
                                  clear HO273
                                  clear BK251
                                  clear HB
                                  have HO_9 := n0_
                                  have HO265 := n1_
                                  have HO273 := n2_
                                  have HO268 := n3_
                                  have BK251 := n4_
                                  have HB := n5_
                                  clear n0_ n1_ n2_ n3_ n4_ n5_
                                  (try clear hb)
                                  (try clear hb2)
                                  (try clear hk)
                                  (try clear hi)
                                  (try clear ho0)
                                  refine hK.out _ _ (tab_loadAt Try.underlying24 (show (Try.prog.info? 24).map (·.size) = some 256 from by kernel_rfl) BK251.out) (fun hHeld => ?_)
                                  clear hK K
                                  refine norm_ (a' := ?_) ?_ ?_
                                  rotate_left
                                  · show Act.put _ (some 55) _ = _
                                    simp only [Act.put, List.setIfInBounds_toArray, List.set_cons_zero, List.set_cons_succ, i64_w, i32_w]
                                    rfl
                                  refine one_ (i := 3) (N := some 56) #[true, true, true, true, true, true, true, true, true, false] rfl rfl (one_of HT_.out (by kernel_rfl)) (by decide) (fun K hK => ?_)
                                  have hcv38 := own_string (P := Try.prog) Try.underlying25 Try.underlying5 Try.underlying9 (Kd.own_of_R HO268.out)
                                  refine value_ (w1 := ?_) (v := ?_) (by rfl) rfl ?_ ?_
                                  rotate_left 2
                                  · go_simp
                                    constructor
                                    · rfl
                                    · rfl
                                  clear hcv38
                                  refine hK.out _ _ (tab_loadAt Try.underlying24 (show (Try.prog.info? 24).map (·.size) = some 256 from by kernel_rfl) BK251.out) (fun hHeld => ?_)
                                  clear hK K
                                  refine norm_ (a' := ?_) ?_ ?_
                                  rotate_left
                                  · show Act.put _ (some 56) _ = _
                                    simp only [Act.put, List.setIfInBounds_toArray, List.set_cons_zero, List.set_cons_succ, i64_w, i32_w]
                                    rfl
                                  exact norm_ (by simp only [putAll, Act.put, List.setIfInBounds_toArray, List.set_cons_zero, List.set_cons_succ]) (hCont (v267) _ ⟨hHeld, (by (with_reducible repeat (first | apply Kd.V_alloc | apply Kd.V_drewN | apply Kd.V_drew)); exact Kd.V_mono HO265.out (fun _ hk => ⟨hk.1.1, ⟨hk.2, hk.1.2⟩⟩)), (by (with_reducible repeat (first | apply Kd.R_alloc | apply Kd.R_drewN | apply Kd.R_drew)); exact Kd.R_mono HO268.out (fun _ hk => hk.1)), (by (with_reducible repeat (first | apply Kd.V_alloc | apply Kd.V_drewN | apply Kd.V_drew)); exact Kd.V_mono HO273.out (fun _ hk => ⟨hk.1.1, ⟨hk.2, hk.1.2⟩⟩)), (by (with_reducible repeat (first | apply Kd.V_alloc | apply Kd.V_drewN | apply Kd.V_drew)); exact Kd.V_mono HO_9.out (fun _ hk => ⟨hk.1.1, ⟨hk.2, hk.1.2⟩⟩)), (by (with_reducible repeat (first | refine blk_drewN ?_ _ | refine blk_drew ?_ | refine blk_alloc ?_ _)); exact BK251.out), (by repeat (first | (with_reducible first | exact HB.out | apply below_alloc | apply pw_below_drewN | apply below_drew1 | refine below_set ?_ GE251.out) | exact HB.out))⟩)
                              rintro v267 w39 ⟨hS_, h0_, h1_, h2_, h3_, h4_, h5_⟩
                              have n0_ : Aside0 (Kd.V (Kd.int .u8) 5 w39 w.heap.size (fun k_ => (P0_ k_ ∨ w.heap.size ≤ k_) ∧ some k_ ≠ (v267 : Value).ownBlock ∧ k_ ≠ gb251) (.slice A33 y261.length c33) y261) := ⟨h0_⟩
                              have n1_ : Aside0 (Kd.R (Kd.int .u8) 5 w39 w.heap.size (fun k_ => (w.heap.size ≤ k_)) v267 t266) := ⟨h1_⟩
                              have n2_ : Aside0 (Kd.V (Kd.int .u8) 5 w39 w.heap.size (fun k_ => (P0_ k_ ∨ w.heap.size ≤ k_) ∧ some k_ ≠ (v267 : Value).ownBlock ∧ k_ ≠ gb251) (.slice (some ad257) y269.length c15) y269) := ⟨h2_⟩
                              have n3_ : Aside0 (Kd.V (Kd.int .u8) 5 w39 w.heap.size (fun k_ => (P0_ k_ ∨ w.heap.size ≤ k_) ∧ some k_ ≠ (v267 : Value).ownBlock ∧ k_ ≠ gb251) (.slice (some ad257) y252.length c15) y252) := ⟨h3_⟩
                              have n4_ : Aside0 (w39.heap[gb251]? = some (.cells (tabC a2) 24 (0, 0))) := ⟨h4_⟩
                              have n5_ : Aside0 (Below w.heap.size w w39) := ⟨h5_⟩
                              clear HO_9
                              clear HO265
                              clear BK251
                              clear HB
                              clear h0_ h1_ h2_ h3_ h4_ h5_
                              have HO265 := n0_
                              have HO268 := n1_
                              have HO273 := n2_
                              have HO_9 := n3_
                              have BK251 := n4_
                              have HB := n5_
                              clear n0_ n1_ n2_ n3_ n4_ n5_
                              have hHeld : (Instr.loadAt 24 (.pointer (some ⟨gb251, 0, none⟩))).run Try.prog w39 = .ok (.agg (tabC a2)) w39 := hS_
                              refine norm_ (a' := ?_) ?_ ?_
                              rotate_left
                              · simp only [putAll, Act.put, List.setIfInBounds_toArray, List.set_cons_zero, List.set_cons_succ]
                                rfl
                              refine pure_ (i := 9) (N := some 62) (v := ?_) (a' := ?_) #[true, true, true, true, true, true, true, true, true, true] rfl rfl (any_of HT_.out (by kernel_rfl)) (fun _ _ _ h => h) (Or.inl ⟨by rfl, ?_⟩) ?_ ?_
                              rotate_left
                              · intro w'
                                go_simp
                                with_reducible rfl
                              rotate_left
                              · simp only [Act.put, List.setIfInBounds_toArray, List.set_cons_zero, List.set_cons_succ, i64_w, i32_w]
                                rfl
                              refine done_ (done_of HT_.out (by kernel_rfl)) ?_
                              try go_wp2
                              go_ret3
                              exact ⟨_, by first | rfl | (simp [errW_none, errW_some] <;> rfl) | (simp only [← hji22]; first | rfl | (simp [errW_none, errW_some] <;> rfl)) | (simp [*, errW_none, errW_some] <;> rfl), (by exact Kd.V_nil _ _ _ _ _), by repeat (first | (with_reducible first | exact HB.out | apply below_alloc | apply pw_below_drewN | apply below_drew1 | refine below_set ?_ GE251.out) | exact HB.out)⟩
                          · rw [if_neg c23] at H
                            exact absurd H (by simp)
                        · rw [if_neg c20] at H
                          exact absurd H (by simp)
                      · rw [if_neg c19] at H
                        exact absurd H (by simp)
              · rw [if_neg c12] at H
                exact absurd H (by simp)
            · rw [if_neg c11] at H
              exact absurd H (by simp)
          · rw [if_neg c10] at H
            exact absurd H (by simp)
        · rw [if_neg c9] at H
          exact absurd H (by simp)
    · rw [if_neg c5] at H
      exact absurd H (by simp)
  · rw [if_neg c4] at H
    exact absurd H (by simp)

end Go.Proofs.Ytcgbcnalofecgaa.Q
