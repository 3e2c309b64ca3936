/- A function of the program or a law's row comes to what the Lean function beside it says; no condition beyond those typed. Written by a program of this workplace; Lean checks it. -/
import Derived.Test.YtcgbcnalofecgaaQ0
import Derived.Test.YtcgbcnalofecgaaQ15
import Derived.Test.YtcgbcnalofecgaaQ17
import Derived.Test.YtcgbcnalofecgaaQ18
import Derived.Test.YtcgbcnalofecgaaQ20
import Derived.Test.YtcgbcnalofecgaaQ22
namespace Go.Proofs.Ytcgbcnalofecgaa.Q
open Go.RowKit Go.Proofs.YtcgbcnalofecgaaW.PrintWords Go.Proofs.YtcgbcnalofecgaaW.PrintLast Go.Proofs.YtcgbcnalofecgaaW.PrintMore
attribute [local go_sem] max2_int min2_int max_two min_two max_three min_three max_four min_four   -- for this text's walks alone
set_option linter.unusedVariables false
set_option linter.unusedSimpArgs false

/-! ### punnetlaw07_FramePuts: function 6 -/
mutual
def punnetlaw07_FramePuts.j0 : Nat → List Int → List Int → List Int → Int → Bool → Tab → Option (Bool)
  | 0, _, _, _, _, _, _ => none
  | k + 1, x1, x2, x3, x4, x42, x219000 => if x42 = true then (some true) else (if x4 ≥ 0 then (punnetlaw07_FramePuts.j1 k x1 x2 x3 x4 0 (decide (x4 ≤ 60000)) x219000) else (punnetlaw07_FramePuts.j1 k x1 x2 x3 x4 0 false x219000))
def punnetlaw07_FramePuts.j1 : Nat → List Int → List Int → List Int → Int → Int → Bool → Tab → Option (Bool)
  | 0, _, _, _, _, _, _, _ => none
  | k + 1, x1, x2, x3, x4, x11, x48, x219000 => if x48 = true then (punnetlaw07_FramePuts.j2 k x1 x2 x3 x4 (wrap64 (x4 + 8)) x219000) else (punnetlaw07_FramePuts.j2 k x1 x2 x3 x4 x11 x219000)
def punnetlaw07_FramePuts.j2 : Nat → List Int → List Int → List Int → Int → Int → Tab → Option (Bool)
  | 0, _, _, _, _, _, _ => none
  | k + 1, x1, x2, x3, x4, x11, x219000 => (some (([] : List Int) : List Int)).bind fun y220 => (if y220.length + x2.length < 140737488355328 then ((frame_Put.f k (y220 ++ x2) x219000 x1).bind fun bt226 => ((frame_Size.f x4).bind fun t230 => (if t230 = x11 then (if (x1.length : Int) > 60000 then (if (bt226.1.length : Int) = 0 then (some (bt226.2 == 14)) else (some false)) else ((punnetref07_Frame.f k x219000 x1).bind fun t231 => (if bt226.2 = 0 then (if (strOfNums x2).size + (strOfNums t231).size ≤ 9223372036854775807 then (if (strOfNums bt226.1).toList = ((strOfNums x2) ++ (strOfNums t231)).toList then (if bt226.1.length + x3.length < 140737488355328 then ((frame_Get.f k (bt226.1 ++ x3) (x2.length : Int) x219000).bind fun bt237 => (if (strOfNums bt237.1).toList = (strOfNums x1).toList then (if bt237.2.1 = (wrap64 ((x2.length : Int) + (t231.length : Int))) then (some (bt237.2.2 == 0)) else (some false)) else (some false))) else (none)) else (some false)) else (none)) else (some false)))) else (some false)))) else (none))
end
def punnetlaw07_FramePuts.f (k : Nat) (a0 : Tab) (l1 : List Int) (l2 : List Int) (l3 : List Int) (a4 : Int) : Option (Bool) := (punnetlaw07_awake.f k).bind fun t219 => (if t219 = true then (if (l1.length : Int) > 3000 then (if (l1.length : Int) ≤ 60000 then (punnetlaw07_FramePuts.j0 k l1 l2 l3 a4 true a0) else (if (l1.length : Int) > 70000 then (punnetlaw07_FramePuts.j0 k l1 l2 l3 a4 true a0) else (if (l2.length : Int) > 3000 then (punnetlaw07_FramePuts.j0 k l1 l2 l3 a4 true a0) else (punnetlaw07_FramePuts.j0 k l1 l2 l3 a4 (decide ((l3.length : Int) > 3000)) a0)))) else (if (l1.length : Int) > 70000 then (punnetlaw07_FramePuts.j0 k l1 l2 l3 a4 true a0) else (if (l2.length : Int) > 3000 then (punnetlaw07_FramePuts.j0 k l1 l2 l3 a4 true a0) else (punnetlaw07_FramePuts.j0 k l1 l2 l3 a4 (decide ((l3.length : Int) > 3000)) a0)))) else (some false))
theorem punnetlaw07_FramePuts.mono_l : ∀ k, (∀ y0 y1 y2 y3 y4 y5, LeO (punnetlaw07_FramePuts.j0 k y0 y1 y2 y3 y4 y5) (punnetlaw07_FramePuts.j0 (k + 1) y0 y1 y2 y3 y4 y5)) ∧ (∀ y0 y1 y2 y3 y4 y5 y6, LeO (punnetlaw07_FramePuts.j1 k y0 y1 y2 y3 y4 y5 y6) (punnetlaw07_FramePuts.j1 (k + 1) y0 y1 y2 y3 y4 y5 y6)) ∧ (∀ y0 y1 y2 y3 y4 y5, LeO (punnetlaw07_FramePuts.j2 k y0 y1 y2 y3 y4 y5) (punnetlaw07_FramePuts.j2 (k + 1) y0 y1 y2 y3 y4 y5))
  | 0 => ⟨fun _ _ _ _ _ _ r h => by simp [punnetlaw07_FramePuts.j0] at h, fun _ _ _ _ _ _ _ r h => by simp [punnetlaw07_FramePuts.j1] at h, fun _ _ _ _ _ _ r h => by simp [punnetlaw07_FramePuts.j2] at h⟩
  | k + 1 => by
    obtain ⟨ih0, ih1, ih2⟩ := punnetlaw07_FramePuts.mono_l k
    refine ⟨?_, ?_, ?_⟩
    · intro y0 y1 y2 y3 y4 y5
      unfold punnetlaw07_FramePuts.j0
      repeat' first
      | (with_reducible exact ih0 _ _ _ _ _ _)
      | (with_reducible exact ih1 _ _ _ _ _ _ _)
      | (with_reducible exact ih2 _ _ _ _ _ _)
      | (with_reducible exact frame_Get.mono _ _ _ _)
      | (with_reducible exact frame_Put.mono _ _ _ _)
      | (with_reducible exact punnetlaw07_awake.mono _)
      | (with_reducible exact punnetref07_Frame.mono _ _ _)
      | (with_reducible exact LeO.refl _)
      | (with_reducible exact LeO.none _)
      | (with_reducible refine LeO.ite ?_ ?_)
      | (with_reducible refine LeO.bind ?_ (fun _ => ?_))
      | exact ih0 _ _ _ _ _ _
      | exact ih1 _ _ _ _ _ _ _
      | exact ih2 _ _ _ _ _ _
      | exact frame_Get.mono _ _ _ _
      | exact frame_Put.mono _ _ _ _
      | exact punnetlaw07_awake.mono _
      | exact punnetref07_Frame.mono _ _ _
      | exact LeO.none _
      | refine LeO.ite ?_ ?_
      | refine LeO.bind ?_ (fun _ => ?_)
    · intro y0 y1 y2 y3 y4 y5 y6
      unfold punnetlaw07_FramePuts.j1
      repeat' first
      | (with_reducible exact ih0 _ _ _ _ _ _)
      | (with_reducible exact ih1 _ _ _ _ _ _ _)
      | (with_reducible exact ih2 _ _ _ _ _ _)
      | (with_reducible exact frame_Get.mono _ _ _ _)
      | (with_reducible exact frame_Put.mono _ _ _ _)
      | (with_reducible exact punnetlaw07_awake.mono _)
      | (with_reducible exact punnetref07_Frame.mono _ _ _)
      | (with_reducible exact LeO.refl _)
      | (with_reducible exact LeO.none _)
      | (with_reducible refine LeO.ite ?_ ?_)
      | (with_reducible refine LeO.bind ?_ (fun _ => ?_))
      | exact ih0 _ _ _ _ _ _
      | exact ih1 _ _ _ _ _ _ _
      | exact ih2 _ _ _ _ _ _
      | exact frame_Get.mono _ _ _ _
      | exact frame_Put.mono _ _ _ _
      | exact punnetlaw07_awake.mono _
      | exact punnetref07_Frame.mono _ _ _
      | exact LeO.none _
      | refine LeO.ite ?_ ?_
      | refine LeO.bind ?_ (fun _ => ?_)
    · intro y0 y1 y2 y3 y4 y5
      unfold punnetlaw07_FramePuts.j2
      repeat' first
      | (with_reducible exact ih0 _ _ _ _ _ _)
      | (with_reducible exact ih1 _ _ _ _ _ _ _)
      | (with_reducible exact ih2 _ _ _ _ _ _)
      | (with_reducible exact frame_Get.mono _ _ _ _)
      | (with_reducible exact frame_Put.mono _ _ _ _)
      | (with_reducible exact punnetlaw07_awake.mono _)
      | (with_reducible exact punnetref07_Frame.mono _ _ _)
      | (with_reducible exact LeO.refl _)
      | (with_reducible exact LeO.none _)
      | (with_reducible refine LeO.ite ?_ ?_)
      | (with_reducible refine LeO.bind ?_ (fun _ => ?_))
      | exact ih0 _ _ _ _ _ _
      | exact ih1 _ _ _ _ _ _ _
      | exact ih2 _ _ _ _ _ _
      | exact frame_Get.mono _ _ _ _
      | exact frame_Put.mono _ _ _ _
      | exact punnetlaw07_awake.mono _
      | exact punnetref07_Frame.mono _ _ _
      | exact LeO.none _
      | refine LeO.ite ?_ ?_
      | refine LeO.bind ?_ (fun _ => ?_)
theorem punnetlaw07_FramePuts.mono : ∀ a0 a1 a2 a3 a4 k, LeO (punnetlaw07_FramePuts.f k a0 a1 a2 a3 a4) (punnetlaw07_FramePuts.f (k + 1) a0 a1 a2 a3 a4) := by
  intro a0 a1 a2 a3 a4 k
  obtain ⟨ih0, ih1, ih2⟩ := punnetlaw07_FramePuts.mono_l k
  unfold punnetlaw07_FramePuts.f
  repeat' first
      | (with_reducible exact ih0 _ _ _ _ _ _)
      | (with_reducible exact ih1 _ _ _ _ _ _ _)
      | (with_reducible exact ih2 _ _ _ _ _ _)
      | (with_reducible exact frame_Get.mono _ _ _ _)
      | (with_reducible exact frame_Put.mono _ _ _ _)
      | (with_reducible exact punnetlaw07_awake.mono _)
      | (with_reducible exact punnetref07_Frame.mono _ _ _)
      | (with_reducible exact LeO.refl _)
      | (with_reducible exact LeO.none _)
      | (with_reducible refine LeO.ite ?_ ?_)
      | (with_reducible refine LeO.bind ?_ (fun _ => ?_))
      | exact ih0 _ _ _ _ _ _
      | exact ih1 _ _ _ _ _ _ _
      | exact ih2 _ _ _ _ _ _
      | exact frame_Get.mono _ _ _ _
      | exact frame_Put.mono _ _ _ _
      | exact punnetlaw07_awake.mono _
      | exact punnetref07_Frame.mono _ _ _
      | exact LeO.none _
      | refine LeO.ite ?_ ?_
      | refine LeO.bind ?_ (fun _ => ?_)
def punnetlaw07_FramePuts.T8 : Bool × List (List Nat × List Nat) := (true, [([], []), ([], []), ([0, 1], [0, 1]), ([], []), ([], []), ([2, 3, 4, 2], [2, 3, 4]), ([5], [5]), ([6], [6]), ([6], [6]), ([7, 5, 0, 1, 2, 3, 4, 5, 6, 7], [7]), ([8, 9, 0, 1, 2, 3, 4, 5, 6, 7, 8, 9], [8])])
def punnetlaw07_FramePuts.B8 : List Nat := [0, 0, 3, 0, 0, 31, 63, 127, 127, 255, 1023]
theorem punnetlaw07_FramePuts.tab8 : rtab .any (opsOf Try.f6 8) = punnetlaw07_FramePuts.T8 := by kernel_rfl
theorem punnetlaw07_FramePuts.bits8 : waitsOk punnetlaw07_FramePuts.T8.2 punnetlaw07_FramePuts.B8 = true := by kernel_rfl
def punnetlaw07_FramePuts.T16 : Bool × List (List Nat × List Nat) := (true, [([], []), ([], []), ([0, 1], [0, 1]), ([], []), ([3], [3]), ([], []), ([2, 4, 5, 2], [2, 4, 5]), ([6], [6]), ([7], [7]), ([7], [7]), ([7], [7]), ([8, 6, 0, 1, 2, 3, 4, 5, 6, 7, 8], [8]), ([9, 11, 0, 1, 2, 3, 4, 5, 6, 7, 8, 9, 11], [9]), ([10, 12, 0, 1, 2, 3, 4, 5, 6, 7, 8, 9, 10, 11, 12], [10])])
def punnetlaw07_FramePuts.B16 : List Nat := [0, 0, 3, 0, 8, 0, 63, 127, 255, 255, 255, 511, 3071, 8191]
theorem punnetlaw07_FramePuts.tab16 : rtab .any (opsOf Try.f6 16) = punnetlaw07_FramePuts.T16 := by kernel_rfl
theorem punnetlaw07_FramePuts.bits16 : waitsOk punnetlaw07_FramePuts.T16.2 punnetlaw07_FramePuts.B16 = true := by kernel_rfl
set_option maxHeartbeats 8000000 in
set_option maxRecDepth 100000 in
theorem punnetlaw07_FramePuts.calls (k : Nat) (a0 : Tab) (A1 : Option Addr) (c1 : Nat) (l1 : List Int) (A2 : Option Addr) (c2 : Nat) (l2 : List Int) (A3 : Option Addr) (c3 : Nat) (l3 : List Int) (a4 : Int) (r : Bool) (w : World) (hr1 : Kd.C (Kd.int .u8) w A1 l1.length l1) (hc1 : l1.length ≤ c1) (hr2 : Kd.C (Kd.int .u8) w A2 l2.length l2) (hc2 : l2.length ≤ c2) (hr3 : Kd.C (Kd.int .u8) w A3 l3.length l3) (hc3 : l3.length ≤ c3) (h : punnetlaw07_FramePuts.f k a0 l1 l2 l3 a4 = some r) :
    Calls Try.prog 6 #[.agg (tabC a0), .slice A1 l1.length c1, .slice A2 l2.length c2, .slice A3 l3.length c3, .int .i64 a4] w fun e w' => e = .returned (.bool r) ∧ Below w.heap.size w w' := by
  have HR1 := Aside0.mk hr1
  have HC1 := Aside0.mk hc1
  clear hr1 hc1
  have HR2 := Aside0.mk hr2
  have HC2 := Aside0.mk hc2
  clear hr2 hc2
  have HR3 := Aside0.mk hr3
  have HC3 := Aside0.mk hc3
  clear hr3 hc3
  have HB := Aside0.mk (Below.refl w.heap.size w)
  have H : ((punnetlaw07_awake.f k).bind fun t219 => (if t219 = true then (if (l1.length : Int) > 3000 then (if (l1.length : Int) ≤ 60000 then (punnetlaw07_FramePuts.j0 k l1 l2 l3 a4 true a0) else (if (l1.length : Int) > 70000 then (punnetlaw07_FramePuts.j0 k l1 l2 l3 a4 true a0) else (if (l2.length : Int) > 3000 then (punnetlaw07_FramePuts.j0 k l1 l2 l3 a4 true a0) else (punnetlaw07_FramePuts.j0 k l1 l2 l3 a4 (decide ((l3.length : Int) > 3000)) a0)))) else (if (l1.length : Int) > 70000 then (punnetlaw07_FramePuts.j0 k l1 l2 l3 a4 true a0) else (if (l2.length : Int) > 3000 then (punnetlaw07_FramePuts.j0 k l1 l2 l3 a4 true a0) else (punnetlaw07_FramePuts.j0 k l1 l2 l3 a4 (decide ((l3.length : Int) > 3000)) a0)))) else (some false))) = some r := h
  clear h
  replace H := Option.bind_eq_some_iff.mp H
  obtain ⟨t219, A60, H⟩ := H
  replace H : (if t219 = true then (if (l1.length : Int) > 3000 then (if (l1.length : Int) ≤ 60000 then (punnetlaw07_FramePuts.j0 k l1 l2 l3 a4 true a0) else (if (l1.length : Int) > 70000 then (punnetlaw07_FramePuts.j0 k l1 l2 l3 a4 true a0) else (if (l2.length : Int) > 3000 then (punnetlaw07_FramePuts.j0 k l1 l2 l3 a4 true a0) else (punnetlaw07_FramePuts.j0 k l1 l2 l3 a4 (decide ((l3.length : Int) > 3000)) a0)))) else (if (l1.length : Int) > 70000 then (punnetlaw07_FramePuts.j0 k l1 l2 l3 a4 true a0) else (if (l2.length : Int) > 3000 then (punnetlaw07_FramePuts.j0 k l1 l2 l3 a4 true a0) else (punnetlaw07_FramePuts.j0 k l1 l2 l3 a4 (decide ((l3.length : Int) > 3000)) a0)))) else (some false)) = some r := H
  have A6 := Aside0.mk A60
  clear A60
  by_cases c7 : t219 = true
  · subst c7
    have H1 : (if (l1.length : Int) > 3000 then (if (l1.length : Int) ≤ 60000 then (punnetlaw07_FramePuts.j0 k l1 l2 l3 a4 true a0) else (if (l1.length : Int) > 70000 then (punnetlaw07_FramePuts.j0 k l1 l2 l3 a4 true a0) else (if (l2.length : Int) > 3000 then (punnetlaw07_FramePuts.j0 k l1 l2 l3 a4 true a0) else (punnetlaw07_FramePuts.j0 k l1 l2 l3 a4 (decide ((l3.length : Int) > 3000)) a0)))) else (if (l1.length : Int) > 70000 then (punnetlaw07_FramePuts.j0 k l1 l2 l3 a4 true a0) else (if (l2.length : Int) > 3000 then (punnetlaw07_FramePuts.j0 k l1 l2 l3 a4 true a0) else (punnetlaw07_FramePuts.j0 k l1 l2 l3 a4 (decide ((l3.length : Int) > 3000)) a0)))) = some r := by rw [if_pos rfl] at H; exact H
    clear H
    have H := H1
    clear H1
    have HC8 := Aside0.mk H
    clear H
    go_enter Try.func6, Try.ntmps6
    go_upto_region 3 with (first | ((with_reducible refine gate_dst (N := 5) rfl ?_); (try (refine gate_guard (by rfl) ?_; dsimp only)); refine box_event ?hg (N := 5) ?hd (cs := tabC a0) (t := 24) ?hr ?_; (case hd => rfl); (case hg => rfl); (case hr => first | (go_simp; done) | (go_simp; rfl)); intro gb218 hg w9 hbox hb; have n0_ := Aside0.mk (below_step (by repeat (first | (with_reducible first | exact HB.out | apply below_alloc | apply pw_below_drewN | apply below_drew1) | exact HB.out)) hb); have n1_ := Aside0.mk (hbox); have n2_ := Aside0.mk ((by rw [hg]; exact (below_size (by repeat (first | (with_reducible first | exact HB.out | apply below_alloc | apply pw_below_drewN | apply below_drew1) | exact HB.out))) : w.heap.size ≤ gb218)); have n3_ := Aside0.mk ((by rw [hg]; exact (below_size (by repeat (first | (with_reducible first | exact HB.out | apply below_alloc | apply pw_below_drewN | apply below_drew1) | exact HB.out))) : w.heap.size ≤ gb218)); clear HB; have HB := n0_; have BK218 := n1_; have GW218 := n2_; have GE218 := n3_; clear n0_ n1_ n2_ n3_; clear hb hbox hg) | ((with_reducible refine gate_callee (f := 19) rfl ?_); refine goesL_ (some 18) rfl rfl Try.func19 (by kernel_rfl) rfl #[] rfl (by (try simp only [List.map_toArray, List.map_cons, List.map_nil]); first | done | rfl | (simp only [List.length_drop, List.length_take]; rfl)) ?_; (with_reducible refine (punnetlaw07_awake.calls k  true _ A6.out).mono ?_); rintro e w10 ⟨rfl, hb⟩; refine ⟨_, rfl, ?_⟩; have n0_ := Aside0.mk (blk_below (g := gb218) (o := .cells (tabC a0) 24 (0, 0)) (by (with_reducible repeat (first | refine blk_drewN ?_ _ | refine blk_drew ?_ | refine blk_alloc ?_ _)); exact BK218.out) hb); have n1_ := Aside0.mk (below_step (by repeat (first | (with_reducible first | exact HB.out | apply below_alloc | apply pw_below_drewN | apply below_drew1 | refine below_set ?_ GE218.out) | exact HB.out)) hb); clear BK218; clear HB; have BK218 := n0_; have HB := n1_; clear n0_ n1_; (try clear hb); (try clear hb2); (try clear hk); (try clear hi)))
    (try simp only [Act.put, List.setIfInBounds_toArray, List.set_cons_zero, List.set_cons_succ])
    go_cut [42] (fun v42 wc => ∃ (kq : Nat) (x42_7 : Bool), v42 = .bool x42_7 ∧ Aside0 (punnetlaw07_FramePuts.j0 kq l1 l2 l3 a4 x42_7 a0 = some r) ∧ Aside0 (kq ≤ k) ∧ Aside0 (wc.heap[gb218]? = some (.cells (tabC a0) 24 (0, 0))) ∧ Aside0 (Below w.heap.size w wc))
    case first =>
      have H := HC8.out
      clear HC8
      by_cases c11 : (l1.length : Int) > 3000
      · rw [if_pos c11] at H
        have c11b0 : decide (3000 < (l1.length : Int)) = true := decide_eq_true c11
        have c11b1 : decide (3000 < l1.length) = true := decide_eq_true (by omega)
        clear c11
        (first | rw [c11b0] | (simp only [i64_w, i32_w]; rw [c11b0]) | skip)
        by_cases c12 : (l1.length : Int) ≤ 60000
        · rw [if_pos c12] at H
          have c12b0 : decide ((l1.length : Int) ≤ 60000) = true := decide_eq_true c12
          have c12b1 : decide (l1.length ≤ 60000) = true := decide_eq_true (by omega)
          clear c12
          have H' := Aside0.mk H
          clear H
          go_wp2
          go_meet
          case rel => exact ⟨_, (true), (by first | rfl | (simp; done) | (simp [*]; done)), H', ⟨by first | omega | exact Nat.le_refl _⟩, ⟨by (with_reducible repeat (first | refine blk_drewN ?_ _ | refine blk_drew ?_ | refine blk_alloc ?_ _)); exact BK218.out⟩, ⟨by repeat (first | (with_reducible first | exact HB.out | apply below_alloc | apply pw_below_drewN | apply below_drew1 | refine below_set ?_ GE218.out) | exact HB.out)⟩⟩
        · rw [if_neg c12] at H
          have c12b0 : decide ((l1.length : Int) ≤ 60000) = false := decide_eq_false c12
          have c12b1 : decide (l1.length ≤ 60000) = false := decide_eq_false (by omega)
          clear c12
          by_cases c13 : (l1.length : Int) > 70000
          · rw [if_pos c13] at H
            have c13b0 : decide (70000 < (l1.length : Int)) = true := decide_eq_true c13
            have c13b1 : decide (70000 < l1.length) = true := decide_eq_true (by omega)
            clear c13
            have H' := Aside0.mk H
            clear H
            go_wp2
            go_meet
            case rel => exact ⟨_, (true), (by first | rfl | (simp; done) | (simp [*]; done)), H', ⟨by first | omega | exact Nat.le_refl _⟩, ⟨by (with_reducible repeat (first | refine blk_drewN ?_ _ | refine blk_drew ?_ | refine blk_alloc ?_ _)); exact BK218.out⟩, ⟨by repeat (first | (with_reducible first | exact HB.out | apply below_alloc | apply pw_below_drewN | apply below_drew1 | refine below_set ?_ GE218.out) | exact HB.out)⟩⟩
          · rw [if_neg c13] at H
            have c13b0 : decide (70000 < (l1.length : Int)) = false := decide_eq_false c13
            have c13b1 : decide (70000 < l1.length) = false := decide_eq_false (by omega)
            clear c13
            by_cases c14 : (l2.length : Int) > 3000
            · rw [if_pos c14] at H
              have c14b0 : decide (3000 < (l2.length : Int)) = true := decide_eq_true c14
              have c14b1 : decide (3000 < l2.length) = true := decide_eq_true (by omega)
              clear c14
              have H' := Aside0.mk H
              clear H
              go_wp2
              go_meet
              case rel => exact ⟨_, (true), (by first | rfl | (simp; done) | (simp [*]; done)), H', ⟨by first | omega | exact Nat.le_refl _⟩, ⟨by (with_reducible repeat (first | refine blk_drewN ?_ _ | refine blk_drew ?_ | refine blk_alloc ?_ _)); exact BK218.out⟩, ⟨by repeat (first | (with_reducible first | exact HB.out | apply below_alloc | apply pw_below_drewN | apply below_drew1 | refine below_set ?_ GE218.out) | exact HB.out)⟩⟩
            · rw [if_neg c14] at H
              have c14b0 : decide (3000 < (l2.length : Int)) = false := decide_eq_false c14
              have c14b1 : decide (3000 < l2.length) = false := decide_eq_false (by omega)
              clear c14
              have H' := Aside0.mk H
              clear H
              go_wp2
              go_meet
              case rel => exact ⟨_, (decide ((l3.length : Int) > 3000)), (by first | rfl | (simp; done) | (simp [*]; done)), H', ⟨by first | omega | exact Nat.le_refl _⟩, ⟨by (with_reducible repeat (first | refine blk_drewN ?_ _ | refine blk_drew ?_ | refine blk_alloc ?_ _)); exact BK218.out⟩, ⟨by repeat (first | (with_reducible first | exact HB.out | apply below_alloc | apply pw_below_drewN | apply below_drew1 | refine below_set ?_ GE218.out) | exact HB.out)⟩⟩
      · rw [if_neg c11] at H
        have c11b0 : decide (3000 < (l1.length : Int)) = false := decide_eq_false c11
        have c11b1 : decide (3000 < l1.length) = false := decide_eq_false (by omega)
        clear c11
        (first | rw [c11b0] | (simp only [i64_w, i32_w]; rw [c11b0]) | skip)
        by_cases c15 : (l1.length : Int) > 70000
        · rw [if_pos c15] at H
          have c15b0 : decide (70000 < (l1.length : Int)) = true := decide_eq_true c15
          have c15b1 : decide (70000 < l1.length) = true := decide_eq_true (by omega)
          clear c15
          have H' := Aside0.mk H
          clear H
          go_wp2
          go_meet
          case rel => exact ⟨_, (true), (by first | rfl | (simp; done) | (simp [*]; done)), H', ⟨by first | omega | exact Nat.le_refl _⟩, ⟨by (with_reducible repeat (first | refine blk_drewN ?_ _ | refine blk_drew ?_ | refine blk_alloc ?_ _)); exact BK218.out⟩, ⟨by repeat (first | (with_reducible first | exact HB.out | apply below_alloc | apply pw_below_drewN | apply below_drew1 | refine below_set ?_ GE218.out) | exact HB.out)⟩⟩
        · rw [if_neg c15] at H
          have c15b0 : decide (70000 < (l1.length : Int)) = false := decide_eq_false c15
          have c15b1 : decide (70000 < l1.length) = false := decide_eq_false (by omega)
          clear c15
          by_cases c16 : (l2.length : Int) > 3000
          · rw [if_pos c16] at H
            have c16b0 : decide (3000 < (l2.length : Int)) = true := decide_eq_true c16
            have c16b1 : decide (3000 < l2.length) = true := decide_eq_true (by omega)
            clear c16
            have H' := Aside0.mk H
            clear H
            go_wp2
            go_meet
            case rel => exact ⟨_, (true), (by first | rfl | (simp; done) | (simp [*]; done)), H', ⟨by first | omega | exact Nat.le_refl _⟩, ⟨by (with_reducible repeat (first | refine blk_drewN ?_ _ | refine blk_drew ?_ | refine blk_alloc ?_ _)); exact BK218.out⟩, ⟨by repeat (first | (with_reducible first | exact HB.out | apply below_alloc | apply pw_below_drewN | apply below_drew1 | refine below_set ?_ GE218.out) | exact HB.out)⟩⟩
          · rw [if_neg c16] at H
            have c16b0 : decide (3000 < (l2.length : Int)) = false := decide_eq_false c16
            have c16b1 : decide (3000 < l2.length) = false := decide_eq_false (by omega)
            clear c16
            have H' := Aside0.mk H
            clear H
            go_wp2
            go_meet
            case rel => exact ⟨_, (decide ((l3.length : Int) > 3000)), (by first | rfl | (simp; done) | (simp [*]; done)), H', ⟨by first | omega | exact Nat.le_refl _⟩, ⟨by (with_reducible repeat (first | refine blk_drewN ?_ _ | refine blk_drew ?_ | refine blk_alloc ?_ _)); exact BK218.out⟩, ⟨by repeat (first | (with_reducible first | exact HB.out | apply below_alloc | apply pw_below_drewN | apply below_drew1 | refine below_set ?_ GE218.out) | exact HB.out)⟩⟩
    case rest =>
      clear HC8
      try clear c1
      try clear c2
      try clear p2
      try clear c3
      try clear c6
      try clear c7
      try clear c11
      try clear c11b0
      try clear c11b1
      try clear c12
      try clear c12b0
      try clear c12b1
      try clear c13
      try clear c13b0
      try clear c13b1
      try clear c14
      try clear c14b0
      try clear c14b1
      try clear c15
      try clear c15b0
      try clear c15b1
      try clear c16
      try clear c16b0
      try clear c16b1
      obtain ⟨kq, x42_7, rfl, HA, HJ7, BK218, HB⟩ := hcut
      cases kq with
      | zero => exact absurd HA.out (by simp [punnetlaw07_FramePuts.j0])
      | succ kj7 =>
        have H := HA.out
        clear HA
        simp only [punnetlaw07_FramePuts.j0] at H
        by_cases c17 : x42_7 = true
        · subst c17
          have H1 : (some true) = some r := by rw [if_pos rfl] at H; exact H
          clear H
          have H := H1
          clear H1
          obtain rfl := Option.some.inj H
          go_wp2
          go_ret
          exact ⟨by first | rfl | (simp [errW_none, errW_some] <;> rfl) | (simp [*, errW_none, errW_some] <;> rfl), by repeat (first | (with_reducible first | exact HB.out | apply below_alloc | apply pw_below_drewN | apply below_drew1 | refine below_set ?_ GE218.out) | exact HB.out)⟩
        · replace c17 := Bool.eq_false_iff.mpr c17
          subst c17
          have H1 : (if a4 ≥ 0 then (punnetlaw07_FramePuts.j1 kj7 l1 l2 l3 a4 0 (decide (a4 ≤ 60000)) a0) else (punnetlaw07_FramePuts.j1 kj7 l1 l2 l3 a4 0 false a0)) = some r := by rw [if_neg (show ¬ (false = true) by decide)] at H; exact H
          clear H
          have H := H1
          clear H1
          have HC18 := Aside0.mk H
          clear H
          go_upto_region 6 with (fail)
          go_cut [48] (fun v48 wc => ∃ (kq : Nat) (x48_17 : Bool), v48 = .bool x48_17 ∧ Aside0 (punnetlaw07_FramePuts.j1 kq l1 l2 l3 a4 0 x48_17 a0 = some r) ∧ Aside0 (kq ≤ kj7) ∧ Aside0 (wc.heap[gb218]? = some (.cells (tabC a0) 24 (0, 0))) ∧ Aside0 (Below w.heap.size w wc))
          case first =>
            have H := HC18.out
            clear HC18
            by_cases c19 : a4 ≥ 0
            · rw [if_pos c19] at H
              have c19b0 : decide (0 ≤ a4) = true := decide_eq_true c19
              clear c19
              (first | rw [c19b0] | (simp only [i64_w, i32_w]; rw [c19b0]) | skip)
              have H' := Aside0.mk H
              clear H
              go_wp2
              go_meet
              case rel => exact ⟨_, (decide (a4 ≤ 60000)), (by first | rfl | (simp; done) | (simp [*]; done)), H', ⟨by have := HJ7.out; first | omega | exact Nat.le_refl _⟩, ⟨by (with_reducible repeat (first | refine blk_drewN ?_ _ | refine blk_drew ?_ | refine blk_alloc ?_ _)); exact BK218.out⟩, ⟨by repeat (first | (with_reducible first | exact HB.out | apply below_alloc | apply pw_below_drewN | apply below_drew1 | refine below_set ?_ GE218.out) | exact HB.out)⟩⟩
            · rw [if_neg c19] at H
              have c19b0 : decide (0 ≤ a4) = false := decide_eq_false c19
              clear c19
              (first | rw [c19b0] | (simp only [i64_w, i32_w]; rw [c19b0]) | skip)
              have H' := Aside0.mk H
              clear H
              go_wp2
              go_meet
              case rel => exact ⟨_, (false), (by first | rfl | (simp; done) | (simp [*]; done)), H', ⟨by have := HJ7.out; first | omega | exact Nat.le_refl _⟩, ⟨by (with_reducible repeat (first | refine blk_drewN ?_ _ | refine blk_drew ?_ | refine blk_alloc ?_ _)); exact BK218.out⟩, ⟨by repeat (first | (with_reducible first | exact HB.out | apply below_alloc | apply pw_below_drewN | apply below_drew1 | refine below_set ?_ GE218.out) | exact HB.out)⟩⟩
          case rest =>
            clear HC18
            try clear c1
            try clear c2
            try clear p2
            try clear c3
            try clear c6
            try clear c7
            try clear c11
            try clear c11b0
            try clear c11b1
            try clear c12
            try clear c12b0
            try clear c12b1
            try clear c13
            try clear c13b0
            try clear c13b1
            try clear c14
            try clear c14b0
            try clear c14b1
            try clear c15
            try clear c15b0
            try clear c15b1
            try clear c16
            try clear c16b0
            try clear c16b1
            try clear c17
            try clear c19
            try clear c19b0
            try clear p2
            obtain ⟨kq, x48_17, rfl, HA, HJ17, BK218, HB⟩ := hcut
            cases kq with
            | zero => exact absurd HA.out (by simp [punnetlaw07_FramePuts.j1])
            | succ kj17 =>
              have H := HA.out
              clear HA
              simp only [punnetlaw07_FramePuts.j1] at H
              have HC20 := Aside0.mk H
              clear H
              go_upto_if 48 with (fail)
              go_cut [11] (fun v11 wc => ∃ (kq : Nat) (x11_19 : Int), v11 = .int .i64 x11_19 ∧ Aside0 (punnetlaw07_FramePuts.j2 kq l1 l2 l3 a4 x11_19 a0 = some r) ∧ Aside0 (kq ≤ kj17) ∧ Aside0 (wc.heap[gb218]? = some (.cells (tabC a0) 24 (0, 0))) ∧ Aside0 (Below w.heap.size w wc))
              case first =>
                have H := HC20.out
                clear HC20
                by_cases c21 : x48_17 = true
                · subst c21
                  have H1 : (punnetlaw07_FramePuts.j2 kj17 l1 l2 l3 a4 (wrap64 (a4 + 8)) a0) = some r := by rw [if_pos rfl] at H; exact H
                  clear H
                  have H := H1
                  clear H1
                  have H' := Aside0.mk H
                  clear H
                  go_wp2
                  go_meet
                  case rel => exact ⟨_, (wrap64 (a4 + 8)), (by first | rfl | (simp; done) | (simp [*]; done)), H', ⟨by have := HJ7.out; have := HJ17.out; first | omega | exact Nat.le_refl _⟩, ⟨by (with_reducible repeat (first | refine blk_drewN ?_ _ | refine blk_drew ?_ | refine blk_alloc ?_ _)); exact BK218.out⟩, ⟨by repeat (first | (with_reducible first | exact HB.out | apply below_alloc | apply pw_below_drewN | apply below_drew1 | refine below_set ?_ GE218.out) | exact HB.out)⟩⟩
                · replace c21 := Bool.eq_false_iff.mpr c21
                  subst c21
                  have H1 : (punnetlaw07_FramePuts.j2 kj17 l1 l2 l3 a4 0 a0) = some r := by rw [if_neg (show ¬ (false = true) by decide)] at H; exact H
                  clear H
                  have H := H1
                  clear H1
                  have H' := Aside0.mk H
                  clear H
                  go_wp2
                  go_meet
                  case rel => exact ⟨_, (0), (by first | rfl | (simp; done) | (simp [*]; done)), H', ⟨by have := HJ7.out; have := HJ17.out; first | omega | exact Nat.le_refl _⟩, ⟨by (with_reducible repeat (first | refine blk_drewN ?_ _ | refine blk_drew ?_ | refine blk_alloc ?_ _)); exact BK218.out⟩, ⟨by repeat (first | (with_reducible first | exact HB.out | apply below_alloc | apply pw_below_drewN | apply below_drew1 | refine below_set ?_ GE218.out) | exact HB.out)⟩⟩
              case rest =>
                clear HC20
                try clear c1
                try clear c2
                try clear p2
                try clear c3
                try clear c6
                try clear p6
                try clear c7
                try clear c11
                try clear c11b0
                try clear c11b1
                try clear c12
                try clear c12b0
                try clear c12b1
                try clear c13
                try clear c13b0
                try clear c13b1
                try clear c14
                try clear c14b0
                try clear c14b1
                try clear c15
                try clear c15b0
                try clear c15b1
                try clear c16
                try clear c16b0
                try clear c16b1
                try clear c17
                try clear c19
                try clear c19b0
                try clear c21
                try clear p2
                obtain ⟨kq, x11_19, rfl, HA, HJ19, BK218, HB⟩ := hcut
                cases kq with
                | zero => exact absurd HA.out (by simp [punnetlaw07_FramePuts.j2])
                | succ kj19 =>
                  have H := HA.out
                  clear HA
                  simp only [punnetlaw07_FramePuts.j2] at H
                  obtain ⟨y220, hy220⟩ : ∃ y_ : List Int, y_ = (([] : List Int)) := ⟨_, rfl⟩
                  replace H : (if y220.length + l2.length < 140737488355328 then ((frame_Put.f kj19 (y220 ++ l2) a0 l1).bind fun bt226 => ((frame_Size.f a4).bind fun t230 => (if t230 = x11_19 then (if (l1.length : Int) > 60000 then (if (bt226.1.length : Int) = 0 then (some (bt226.2 == 14)) else (some false)) else ((punnetref07_Frame.f kj19 a0 l1).bind fun t231 => (if bt226.2 = 0 then (if (strOfNums l2).size + (strOfNums t231).size ≤ 9223372036854775807 then (if (strOfNums bt226.1).toList = ((strOfNums l2) ++ (strOfNums t231)).toList then (if bt226.1.length + l3.length < 140737488355328 then ((frame_Get.f kj19 (bt226.1 ++ l3) (l2.length : Int) a0).bind fun bt237 => (if (strOfNums bt237.1).toList = (strOfNums l1).toList then (if bt237.2.1 = (wrap64 ((l2.length : Int) + (t231.length : Int))) then (some (bt237.2.2 == 0)) else (some false)) else (some false))) else (none)) else (some false)) else (none)) else (some false)))) else (some false)))) else (none)) = some r := by first | (rw [hy220]; with_reducible exact H) | (have H2_ := (Option.bind_some _ _).symm.trans H; rw [hy220]; with_reducible exact H2_) | (have H2_ := (Option.bind_some _ _).symm.trans H; with_reducible exact H2_) | with_reducible exact H | (rw [hy220]; exact H) | exact H
                  have Ny220 := Aside0.mk hy220
                  clear hy220
                  by_cases c22 : y220.length + l2.length < 140737488355328
                  · rw [if_pos c22] at H
                    have LMc22 := Aside0.mk c22
                    clear c22
                    obtain ⟨y223, hy223⟩ : ∃ y_ : List Int, y_ = (y220 ++ l2) := ⟨_, rfl⟩
                    replace H : ((frame_Put.f kj19 y223 a0 l1).bind fun bt226 => ((frame_Size.f a4).bind fun t230 => (if t230 = x11_19 then (if (l1.length : Int) > 60000 then (if (bt226.1.length : Int) = 0 then (some (bt226.2 == 14)) else (some false)) else ((punnetref07_Frame.f kj19 a0 l1).bind fun t231 => (if bt226.2 = 0 then (if (strOfNums l2).size + (strOfNums t231).size ≤ 9223372036854775807 then (if (strOfNums bt226.1).toList = ((strOfNums l2) ++ (strOfNums t231)).toList then (if bt226.1.length + l3.length < 140737488355328 then ((frame_Get.f kj19 (bt226.1 ++ l3) (l2.length : Int) a0).bind fun bt237 => (if (strOfNums bt237.1).toList = (strOfNums l1).toList then (if bt237.2.1 = (wrap64 ((l2.length : Int) + (t231.length : Int))) then (some (bt237.2.2 == 0)) else (some false)) else (some false))) else (none)) else (some false)) else (none)) else (some false)))) else (some false)))) = some r := by first | (rw [hy223]; with_reducible exact H) | (have H2_ := (Option.bind_some _ _).symm.trans H; rw [hy223]; with_reducible exact H2_) | (have H2_ := (Option.bind_some _ _).symm.trans H; with_reducible exact H2_) | with_reducible exact H | (rw [hy223]; exact H) | exact H
                    have Ny223 := Aside0.mk hy223
                    clear hy223
                    replace H := Option.bind_eq_some_iff.mp H
                    obtain ⟨⟨t226, t229⟩, A230, H⟩ := H
                    replace H : ((frame_Size.f a4).bind fun t230 => (if t230 = x11_19 then (if (l1.length : Int) > 60000 then (if (t226.length : Int) = 0 then (some (t229 == 14)) else (some false)) else ((punnetref07_Frame.f kj19 a0 l1).bind fun t231 => (if t229 = 0 then (if (strOfNums l2).size + (strOfNums t231).size ≤ 9223372036854775807 then (if (strOfNums t226).toList = ((strOfNums l2) ++ (strOfNums t231)).toList then (if t226.length + l3.length < 140737488355328 then ((frame_Get.f kj19 (t226 ++ l3) (l2.length : Int) a0).bind fun bt237 => (if (strOfNums bt237.1).toList = (strOfNums l1).toList then (if bt237.2.1 = (wrap64 ((l2.length : Int) + (t231.length : Int))) then (some (bt237.2.2 == 0)) else (some false)) else (some false))) else (none)) else (some false)) else (none)) else (some false)))) else (some false))) = some r := H
                    have A23 := Aside0.mk A230
                    clear A230
                    replace H := Option.bind_eq_some_iff.mp H
                    obtain ⟨t230, A240, H⟩ := H
                    replace H : (if t230 = x11_19 then (if (l1.length : Int) > 60000 then (if (t226.length : Int) = 0 then (some (t229 == 14)) else (some false)) else ((punnetref07_Frame.f kj19 a0 l1).bind fun t231 => (if t229 = 0 then (if (strOfNums l2).size + (strOfNums t231).size ≤ 9223372036854775807 then (if (strOfNums t226).toList = ((strOfNums l2) ++ (strOfNums t231)).toList then (if t226.length + l3.length < 140737488355328 then ((frame_Get.f kj19 (t226 ++ l3) (l2.length : Int) a0).bind fun bt237 => (if (strOfNums bt237.1).toList = (strOfNums l1).toList then (if bt237.2.1 = (wrap64 ((l2.length : Int) + (t231.length : Int))) then (some (bt237.2.2 == 0)) else (some false)) else (some false))) else (none)) else (some false)) else (none)) else (some false)))) else (some false)) = some r := H
                    have A24 := Aside0.mk A240
                    clear A240
                    by_cases c25 : t230 = x11_19
                    · rw [if_pos c25] at H
                      have c25b0 : (t230 == x11_19) = true := beq_iff_eq.mpr c25
                      have c25b1 : (t230 != x11_19) = false := bne_eq_false_iff_eq.mpr c25
                      clear c25
                      by_cases c26 : (l1.length : Int) > 60000
                      · rw [if_pos c26] at H
                        have c26b0 : decide (60000 < (l1.length : Int)) = true := decide_eq_true c26
                        have c26b1 : decide (60000 < l1.length) = true := decide_eq_true (by omega)
                        clear c26
                        by_cases c27 : (t226.length : Int) = 0
                        · rw [if_pos c27] at H
                          have c27b0 : ((t226.length : Int) == 0) = true := beq_iff_eq.mpr c27
                          have c27b1 : ((t226.length : Int) != 0) = false := bne_eq_false_iff_eq.mpr c27
                          clear c27
                          obtain rfl := Option.some.inj H
                          try go_wp2
                          have n0_ := Aside0.mk (blk_drew BK218.out)
                          have n1_ := Aside0.mk (below_drew1 HB.out)
                          clear BK218
                          clear HB
                          have BK218 := n0_
                          have HB := n1_
                          clear n0_ n1_
                          refine start_ (n := 11) (S := fun w' => (Instr.loadAt 24 (.pointer (some ⟨gb218, 0, none⟩))).run Try.prog w' = .ok (.agg (tabC a0)) w') (ds := []) #[false, false, false, false, false, false, false, false, false, false, false] (by kernel_rfl) rfl rfl (tab_loadAt Try.underlying24 (show (Try.prog.info? 24).map (·.size) = some 256 from by kernel_rfl) BK218.out) (fun hHeld => ?_); refine with_tabW punnetlaw07_FramePuts.tab8 punnetlaw07_FramePuts.bits8 (fun HT_ HW_ => ?_)
                          generalize wc.drew = w28 at BK218 HB hHeld ⊢
                          refine pure_ (i := 1) (N := some 53) (v := ?_) (a' := ?_) #[false, true, false, false, false, false, false, false, false, false, false] rfl rfl (any_of HT_.out (by kernel_rfl)) (fun _ _ _ h => h) (Or.inl ⟨by rfl, ?_⟩) ?_ ?_
                          rotate_left
                          · intro w'
                            go_simp
                            with_reducible rfl
                          rotate_left
                          · simp only [Act.put, List.setIfInBounds_toArray, List.set_cons_zero, List.set_cons_succ, i64_w, i32_w]
                            rfl
                          refine pure_ (i := 4) (N := some 56) (v := ?_) (a' := ?_) #[false, true, false, false, true, false, false, false, false, false, false] rfl rfl (any_of HT_.out (by kernel_rfl)) (fun _ _ _ h => h) (Or.inl ⟨by rfl, ?_⟩) ?_ ?_
                          rotate_left
                          · intro w'
                            go_simp
                            with_reducible rfl
                          rotate_left
                          · simp only [Act.put, List.setIfInBounds_toArray, List.set_cons_zero, List.set_cons_succ, i64_w, i32_w]
                            rfl
                          refine take_ (i := 3) (N := some 55) (v := ?_) (a' := ?_) #[false, true, false, true, true, false, false, false, false, false, false] rfl rfl (take_ofW HT_.out HW_.out (by kernel_rfl)) (fun _ _ _ h => h) (Or.inl ⟨by rfl, ?_⟩) hHeld ?_ ?_
                          rotate_left
                          · intro w' s0
                            exact tab_exec rfl rfl (by assumption)
                          rotate_left
                          · simp only [Act.put, List.setIfInBounds_toArray, List.set_cons_zero, List.set_cons_succ, i64_w, i32_w]
                            rfl
                          refine one_ (i := 0) (N := some 52) #[true, true, false, true, true, false, false, false, false, false, false] rfl rfl (one_of HT_.out (by kernel_rfl)) (by decide) (fun K hK => ?_)
                          refine Kd.R_lit_step (Kd.int .u8) _ 5 ?hg (N := 52) ?hd (xs := ([] : List Int)) (inner := []) (ok := fun _ => True) (okp := fun _ => True) ?hr ?hp (fun _ hk => hk) trivial (Below.refl _ _) (Nat.le_refl _) (by simp) ?_; (case hd => rfl); (case hg => rfl); (case hr => first | (go_simp; done) | (go_simp; rfl)); (case hp => exact (Reps.none _ _))
                          intro v221 w29 ho30 hb hg_ hnew_
                          clear hg_ hnew_
                          (first | rw [← Ny220.out] at ho30 | (simp only [Int.reduceToNat] at ho30; rw [← Ny220.out] at ho30))
                          have n0_ := Aside0.mk (Kd.R_lower ho30 (below_size (by repeat (first | (with_reducible first | exact HB.out | apply below_alloc | apply pw_below_drewN | apply below_drew1 | refine below_set ?_ GE218.out) | exact HB.out))))
                          have n1_ := Aside0.mk (blk_below (g := gb218) (o := .cells (tabC a0) 24 (0, 0)) (by (with_reducible repeat (first | refine blk_drewN ?_ _ | refine blk_drew ?_ | refine blk_alloc ?_ _)); exact BK218.out) hb)
                          have n2_ := Aside0.mk (below_step (by repeat (first | (with_reducible first | exact HB.out | apply below_alloc | apply pw_below_drewN | apply below_drew1 | refine below_set ?_ GE218.out) | exact HB.out)) hb)
                          clear BK218
                          clear HB
                          have HO222 := n0_
                          have BK218 := n1_
                          have HB := n2_
                          clear n0_ n1_ n2_
                          clear hb ho30
                          refine hK.out _ _ (tab_loadAt Try.underlying24 (show (Try.prog.info? 24).map (·.size) = some 256 from by kernel_rfl) BK218.out) (fun hHeld => ?_)
                          clear hK K
                          refine norm_ (a' := ?_) ?_ ?_
                          rotate_left
                          · show Act.put _ (some 52) _ = _
                            simp only [Act.put, List.setIfInBounds_toArray, List.set_cons_zero, List.set_cons_succ, i64_w, i32_w]
                            rfl
                          refine one_ (i := 2) (N := some 54) #[true, true, true, true, true, false, false, false, false, false, false] rfl rfl (one_of HT_.out (by kernel_rfl)) (by decide) (fun K hK => ?_)
                          refine Kd.R_append_rows_step (Kd.int .u8) (w0 := w) w.heap.size (by rfl) (.tmp 52) (.tmp 53) 25 5 (.int .u8 0) 1 rfl Try.underlying25 info5 rfl (by decide) (by omega) v221 y220 l2 _ _ _ (fun _ => True) (fun _ => False) rfl rfl ?aO ?aR (fun _ _ h => h) (fun _ h => h.elim) ?aF ?aB ?aS ?aL ?_
                          (case aR => repeat (first | exact (Kd.C_below HR2.out HB.out) | (with_reducible refine Kd.C_alloc ?_ _) | (with_reducible refine Kd.C_drewN ?_ _) | (with_reducible refine Kd.C_drew ?_)))
                          (case aB => exact (by repeat (first | (with_reducible first | exact HB.out | apply below_alloc | apply pw_below_drewN | apply below_drew1 | refine below_set ?_ GE218.out) | exact HB.out)))
                          (case aF => exact (fun _ _ => trivial))
                          (case aO => exact (by (with_reducible repeat (first | apply Kd.R_alloc | apply Kd.R_drewN | apply Kd.R_drew)); exact HO222.out))
                          (case aS => exact (below_size (by repeat (first | (with_reducible first | exact HB.out | apply below_alloc | apply pw_below_drewN | apply below_drew1 | refine below_set ?_ GE218.out) | exact HB.out))))
                          (case aL => have := LMc22.out; omega)
                          intro v224 w31 ho hb hg hat
                          rw [← Ny223.out] at ho
                          have n0_ := Aside0.mk (blk_grown (g := gb218) (o := .cells (tabC a0) 24 (0, 0)) (by (with_reducible repeat (first | refine blk_drewN ?_ _ | refine blk_drew ?_ | refine blk_alloc ?_ _)); exact BK218.out) hg (Kd.R_ne HO222.out BK218.out (by decide)))
                          have n1_ := Aside0.mk (hb)
                          have n2_ := Aside0.mk (ho)
                          clear BK218
                          clear HB
                          clear HO222
                          have BK218 := n0_
                          have HB := n1_
                          have HO225 := n2_
                          clear n0_ n1_ n2_
                          clear ho hb hg hat
                          obtain ⟨Ao32, co32, eo32⟩ := Kd.R_slice HO225.out
                          (first | subst eo32 | (injection eo32 with f1_ f2_ f3_; have f4_ := f1_.symm; have f5_ := f3_.symm; clear f1_ f2_ f3_; subst f4_; subst f5_))
                          refine hK.out _ _ (tab_loadAt Try.underlying24 (show (Try.prog.info? 24).map (·.size) = some 256 from by kernel_rfl) BK218.out) (fun hHeld => ?_)
                          clear hK K
                          refine norm_ (a' := ?_) ?_ ?_
                          rotate_left
                          · show Act.put _ (some 54) _ = _
                            simp only [Act.put, List.setIfInBounds_toArray, List.set_cons_zero, List.set_cons_succ, i64_w, i32_w]
                            rfl
                          refine one_ (i := 5) (N := some 57) #[true, true, true, true, true, true, false, false, false, false, false] rfl rfl (one_of HT_.out (by kernel_rfl)) (by decide) (fun K hK => ?_)
                          refine goes_ Try.func20 (by kernel_rfl) rfl #[.slice Ao32 y223.length co32, .agg (tabC a0), .slice A1 l1.length c1] (by rfl) rfl rfl (by (try simp only [List.map_toArray, List.map_cons, List.map_nil]); first | done | rfl | (simp only [List.length_drop, List.length_take]; rfl)) ?_
                          with_reducible refine (frame_Put.calls kj19 (fun k_ => some k_ = (.slice Ao32 y223.length co32 : Value).ownBlock) (.slice Ao32 y223.length co32) y223 a0 _ _ l1 t226 t229 w _ ?side1 ?side2 ?side3 ?side4 A23.out).mono ?_
                          (case side1 => repeat (first | (with_reducible first | exact HB.out | apply below_alloc | apply pw_below_drewN | apply below_drew1 | refine below_set ?_ GE218.out) | exact HB.out))
                          (case side2 => exact Kd.R_tight rfl HO225.out)
                          (case side3 => exact Kd.C_kept_came (Kd.heap_int .u8) HR1.out (by repeat (first | (with_reducible first | exact HB.out | apply below_alloc | apply pw_below_drewN | apply below_drew1 | refine below_set ?_ GE218.out) | exact HB.out)) (fun k_ hs_ => (fun e_ => Kd.R_base HO225.out k_ e_.symm) hs_))
                          (case side4 => exact HC1.out)
                          rintro e w33 ⟨v227, rfl, ho0, hb, hkp⟩
                          refine ⟨_, rfl, ?_⟩
                          have n0_ := Aside0.mk (blk_kept (by (with_reducible repeat (first | refine blk_drewN ?_ _ | refine blk_drew ?_ | refine blk_alloc ?_ _)); exact BK218.out) hkp (fun hs_ => (fun e_ => (Kd.R_ne HO225.out BK218.out (by decide)) e_) hs_))
                          have n1_ := Aside0.mk (Kd.R_mono (ok' := fun k_ => True) ho0 (fun k_ hk_ => trivial))
                          have n2_ := Aside0.mk (hb)
                          clear BK218
                          clear HB
                          clear HO225
                          have BK218 := n0_
                          have HO228 := n1_
                          have HB := n2_
                          clear n0_ n1_ n2_
                          (try clear hb)
                          (try clear hkp)
                          (try clear ho0)
                          refine hK.out _ _ (tab_loadAt Try.underlying24 (show (Try.prog.info? 24).map (·.size) = some 256 from by kernel_rfl) BK218.out) (fun hHeld => ?_)
                          clear hK K
                          refine norm_ (a' := ?_) ?_ ?_
                          rotate_left
                          · show Act.put _ (some 57) _ = _
                            simp only [Act.put, List.setIfInBounds_toArray, List.set_cons_zero, List.set_cons_succ, i64_w, i32_w]
                            rfl
                          refine pure_ (i := 6) (N := some 51) (v := ?_) (a' := ?_) #[true, true, true, true, true, true, true, false, false, false, false] rfl rfl (any_of HT_.out (by kernel_rfl)) (fun _ _ _ h => h) (Or.inl ⟨by rfl, ?_⟩) ?_ ?_
                          rotate_left
                          · intro w'
                            go_simp
                            with_reducible rfl
                          rotate_left
                          · simp only [Act.put, List.setIfInBounds_toArray, List.set_cons_zero, List.set_cons_succ, i64_w, i32_w]
                            rfl
                          refine pure_ (i := 7) (N := some 58) (v := ?_) (a' := ?_) #[true, true, true, true, true, true, true, true, false, false, false] rfl rfl (any_of HT_.out (by kernel_rfl)) (fun _ _ _ h => h) (Or.inl ⟨by rfl, ?_⟩) ?_ ?_
                          rotate_left
                          · intro w'
                            go_simp
                            with_reducible rfl
                          rotate_left
                          · simp only [Act.put, List.setIfInBounds_toArray, List.set_cons_zero, List.set_cons_succ, i64_w, i32_w]
                            rfl
                          refine pure_ (i := 8) (N := some 59) (v := ?_) (a' := ?_) #[true, true, true, true, true, true, true, true, true, false, false] rfl rfl (any_of HT_.out (by kernel_rfl)) (fun _ _ _ h => h) (Or.inl ⟨by rfl, ?_⟩) ?_ ?_
                          rotate_left
                          · intro w'
                            go_simp
                            with_reducible rfl
                          rotate_left
                          · simp only [Act.put, List.setIfInBounds_toArray, List.set_cons_zero, List.set_cons_succ, i64_w, i32_w]
                            rfl
                          refine pure_ (i := 9) (N := some 12) (v := ?_) (a' := ?_) #[true, true, true, true, true, true, true, true, true, true, false] rfl rfl (any_of HT_.out (by kernel_rfl)) (fun _ _ _ h => h) (Or.inl ⟨by rfl, ?_⟩) ?_ ?_
                          rotate_left
                          · intro w'
                            go_simp
                            with_reducible rfl
                          rotate_left
                          · simp only [Act.put, List.setIfInBounds_toArray, List.set_cons_zero, List.set_cons_succ, i64_w, i32_w]
                            rfl
                          refine pure_ (i := 10) (N := some 13) (v := ?_) (a' := ?_) #[true, true, true, true, true, true, true, true, true, true, true] rfl rfl (any_of HT_.out (by kernel_rfl)) (fun _ _ _ h => h) (Or.inl ⟨by rfl, ?_⟩) ?_ ?_
                          rotate_left
                          · intro w'
                            go_simp
                            with_reducible rfl
                          rotate_left
                          · simp only [Act.put, List.setIfInBounds_toArray, List.set_cons_zero, List.set_cons_succ, i64_w, i32_w]
                            rfl
                          refine done_ (done_of HT_.out (by kernel_rfl)) ?_
                          try go_wp2_with (first | ((with_reducible refine gate_callee (f := 21) rfl ?_); refine goesL_ (some 61) rfl rfl Try.func21 (by kernel_rfl) rfl #[.int .i64 a4] rfl (by (try simp only [List.map_toArray, List.map_cons, List.map_nil]); first | done | rfl | (simp only [List.length_drop, List.length_take]; rfl)) ?_; (with_reducible refine (frame_Size.calls a4 t230 _ A24.out).mono ?_); rintro e w' ⟨rfl, ⟨nd, rfl⟩⟩; refine ⟨_, rfl, ?_⟩; obtain ⟨Ao34, co34, eo34⟩ := Kd.R_slice HO228.out; subst eo34))
                          go_ret
                          exact ⟨by first | rfl | (simp [errW_none, errW_some] <;> rfl) | (simp [*, errW_none, errW_some] <;> rfl), by repeat (first | (with_reducible first | exact HB.out | apply below_alloc | apply pw_below_drewN | apply below_drew1 | refine below_set ?_ GE218.out) | exact HB.out)⟩
                        · rw [if_neg c27] at H
                          have c27b0 : ((t226.length : Int) == 0) = false := beq_eq_false_iff_ne.mpr c27
                          have c27b1 : ((t226.length : Int) != 0) = true := bne_iff_ne.mpr c27
                          have c27b2 : ¬ (t226 = []) := fun h_ => c27 (by rw [h_]; rfl)
                          obtain rfl := Option.some.inj H
                          try go_wp2
                          have n0_ := Aside0.mk (blk_drew BK218.out)
                          have n1_ := Aside0.mk (below_drew1 HB.out)
                          clear BK218
                          clear HB
                          have BK218 := n0_
                          have HB := n1_
                          clear n0_ n1_
                          refine start_ (n := 11) (S := fun w' => (Instr.loadAt 24 (.pointer (some ⟨gb218, 0, none⟩))).run Try.prog w' = .ok (.agg (tabC a0)) w') (ds := []) #[false, false, false, false, false, false, false, false, false, false, false] (by kernel_rfl) rfl rfl (tab_loadAt Try.underlying24 (show (Try.prog.info? 24).map (·.size) = some 256 from by kernel_rfl) BK218.out) (fun hHeld => ?_); refine with_tabW punnetlaw07_FramePuts.tab8 punnetlaw07_FramePuts.bits8 (fun HT_ HW_ => ?_)
                          generalize wc.drew = w35 at BK218 HB hHeld ⊢
                          refine pure_ (i := 1) (N := some 53) (v := ?_) (a' := ?_) #[false, true, false, false, false, false, false, false, false, false, false] rfl rfl (any_of HT_.out (by kernel_rfl)) (fun _ _ _ h => h) (Or.inl ⟨by rfl, ?_⟩) ?_ ?_
                          rotate_left
                          · intro w'
                            go_simp
                            with_reducible rfl
                          rotate_left
                          · simp only [Act.put, List.setIfInBounds_toArray, List.set_cons_zero, List.set_cons_succ, i64_w, i32_w]
                            rfl
                          refine pure_ (i := 4) (N := some 56) (v := ?_) (a' := ?_) #[false, true, false, false, true, false, false, false, false, false, false] rfl rfl (any_of HT_.out (by kernel_rfl)) (fun _ _ _ h => h) (Or.inl ⟨by rfl, ?_⟩) ?_ ?_
                          rotate_left
                          · intro w'
                            go_simp
                            with_reducible rfl
                          rotate_left
                          · simp only [Act.put, List.setIfInBounds_toArray, List.set_cons_zero, List.set_cons_succ, i64_w, i32_w]
                            rfl
                          refine take_ (i := 3) (N := some 55) (v := ?_) (a' := ?_) #[false, true, false, true, true, false, false, false, false, false, false] rfl rfl (take_ofW HT_.out HW_.out (by kernel_rfl)) (fun _ _ _ h => h) (Or.inl ⟨by rfl, ?_⟩) hHeld ?_ ?_
                          rotate_left
                          · intro w' s0
                            exact tab_exec rfl rfl (by assumption)
                          rotate_left
                          · simp only [Act.put, List.setIfInBounds_toArray, List.set_cons_zero, List.set_cons_succ, i64_w, i32_w]
                            rfl
                          refine one_ (i := 0) (N := some 52) #[true, true, false, true, true, false, false, false, false, false, false] rfl rfl (one_of HT_.out (by kernel_rfl)) (by decide) (fun K hK => ?_)
                          refine Kd.R_lit_step (Kd.int .u8) _ 5 ?hg (N := 52) ?hd (xs := ([] : List Int)) (inner := []) (ok := fun _ => True) (okp := fun _ => True) ?hr ?hp (fun _ hk => hk) trivial (Below.refl _ _) (Nat.le_refl _) (by simp) ?_; (case hd => rfl); (case hg => rfl); (case hr => first | (go_simp; done) | (go_simp; rfl)); (case hp => exact (Reps.none _ _))
                          intro v221 w36 ho37 hb hg_ hnew_
                          clear hg_ hnew_
                          (first | rw [← Ny220.out] at ho37 | (simp only [Int.reduceToNat] at ho37; rw [← Ny220.out] at ho37))
                          have n0_ := Aside0.mk (Kd.R_lower ho37 (below_size (by repeat (first | (with_reducible first | exact HB.out | apply below_alloc | apply pw_below_drewN | apply below_drew1 | refine below_set ?_ GE218.out) | exact HB.out))))
                          have n1_ := Aside0.mk (blk_below (g := gb218) (o := .cells (tabC a0) 24 (0, 0)) (by (with_reducible repeat (first | refine blk_drewN ?_ _ | refine blk_drew ?_ | refine blk_alloc ?_ _)); exact BK218.out) hb)
                          have n2_ := Aside0.mk (below_step (by repeat (first | (with_reducible first | exact HB.out | apply below_alloc | apply pw_below_drewN | apply below_drew1 | refine below_set ?_ GE218.out) | exact HB.out)) hb)
                          clear BK218
                          clear HB
                          have HO222 := n0_
                          have BK218 := n1_
                          have HB := n2_
                          clear n0_ n1_ n2_
                          clear hb ho37
                          refine hK.out _ _ (tab_loadAt Try.underlying24 (show (Try.prog.info? 24).map (·.size) = some 256 from by kernel_rfl) BK218.out) (fun hHeld => ?_)
                          clear hK K
                          refine norm_ (a' := ?_) ?_ ?_
                          rotate_left
                          · show Act.put _ (some 52) _ = _
                            simp only [Act.put, List.setIfInBounds_toArray, List.set_cons_zero, List.set_cons_succ, i64_w, i32_w]
                            rfl
                          refine one_ (i := 2) (N := some 54) #[true, true, true, true, true, false, false, false, false, false, false] rfl rfl (one_of HT_.out (by kernel_rfl)) (by decide) (fun K hK => ?_)
                          refine Kd.R_append_rows_step (Kd.int .u8) (w0 := w) w.heap.size (by rfl) (.tmp 52) (.tmp 53) 25 5 (.int .u8 0) 1 rfl Try.underlying25 info5 rfl (by decide) (by omega) v221 y220 l2 _ _ _ (fun _ => True) (fun _ => False) rfl rfl ?aO ?aR (fun _ _ h => h) (fun _ h => h.elim) ?aF ?aB ?aS ?aL ?_
                          (case aR => repeat (first | exact (Kd.C_below HR2.out HB.out) | (with_reducible refine Kd.C_alloc ?_ _) | (with_reducible refine Kd.C_drewN ?_ _) | (with_reducible refine Kd.C_drew ?_)))
                          (case aB => exact (by repeat (first | (with_reducible first | exact HB.out | apply below_alloc | apply pw_below_drewN | apply below_drew1 | refine below_set ?_ GE218.out) | exact HB.out)))
                          (case aF => exact (fun _ _ => trivial))
                          (case aO => exact (by (with_reducible repeat (first | apply Kd.R_alloc | apply Kd.R_drewN | apply Kd.R_drew)); exact HO222.out))
                          (case aS => exact (below_size (by repeat (first | (with_reducible first | exact HB.out | apply below_alloc | apply pw_below_drewN | apply below_drew1 | refine below_set ?_ GE218.out) | exact HB.out))))
                          (case aL => have := LMc22.out; omega)
                          intro v224 w38 ho hb hg hat
                          rw [← Ny223.out] at ho
                          have n0_ := Aside0.mk (blk_grown (g := gb218) (o := .cells (tabC a0) 24 (0, 0)) (by (with_reducible repeat (first | refine blk_drewN ?_ _ | refine blk_drew ?_ | refine blk_alloc ?_ _)); exact BK218.out) hg (Kd.R_ne HO222.out BK218.out (by decide)))
                          have n1_ := Aside0.mk (hb)
                          have n2_ := Aside0.mk (ho)
                          clear BK218
                          clear HB
                          clear HO222
                          have BK218 := n0_
                          have HB := n1_
                          have HO225 := n2_
                          clear n0_ n1_ n2_
                          clear ho hb hg hat
                          obtain ⟨Ao39, co39, eo39⟩ := Kd.R_slice HO225.out
                          (first | subst eo39 | (injection eo39 with f1_ f2_ f3_; have f4_ := f1_.symm; have f5_ := f3_.symm; clear f1_ f2_ f3_; subst f4_; subst f5_))
                          refine hK.out _ _ (tab_loadAt Try.underlying24 (show (Try.prog.info? 24).map (·.size) = some 256 from by kernel_rfl) BK218.out) (fun hHeld => ?_)
                          clear hK K
                          refine norm_ (a' := ?_) ?_ ?_
                          rotate_left
                          · show Act.put _ (some 54) _ = _
                            simp only [Act.put, List.setIfInBounds_toArray, List.set_cons_zero, List.set_cons_succ, i64_w, i32_w]
                            rfl
                          refine one_ (i := 5) (N := some 57) #[true, true, true, true, true, true, false, false, false, false, false] rfl rfl (one_of HT_.out (by kernel_rfl)) (by decide) (fun K hK => ?_)
                          refine goes_ Try.func20 (by kernel_rfl) rfl #[.slice Ao39 y223.length co39, .agg (tabC a0), .slice A1 l1.length c1] (by rfl) rfl rfl (by (try simp only [List.map_toArray, List.map_cons, List.map_nil]); first | done | rfl | (simp only [List.length_drop, List.length_take]; rfl)) ?_
                          with_reducible refine (frame_Put.calls kj19 (fun k_ => some k_ = (.slice Ao39 y223.length co39 : Value).ownBlock) (.slice Ao39 y223.length co39) y223 a0 _ _ l1 t226 t229 w _ ?side1 ?side2 ?side3 ?side4 A23.out).mono ?_
                          (case side1 => repeat (first | (with_reducible first | exact HB.out | apply below_alloc | apply pw_below_drewN | apply below_drew1 | refine below_set ?_ GE218.out) | exact HB.out))
                          (case side2 => exact Kd.R_tight rfl HO225.out)
                          (case side3 => exact Kd.C_kept_came (Kd.heap_int .u8) HR1.out (by repeat (first | (with_reducible first | exact HB.out | apply below_alloc | apply pw_below_drewN | apply below_drew1 | refine below_set ?_ GE218.out) | exact HB.out)) (fun k_ hs_ => (fun e_ => Kd.R_base HO225.out k_ e_.symm) hs_))
                          (case side4 => exact HC1.out)
                          rintro e w40 ⟨v227, rfl, ho0, hb, hkp⟩
                          refine ⟨_, rfl, ?_⟩
                          have n0_ := Aside0.mk (blk_kept (by (with_reducible repeat (first | refine blk_drewN ?_ _ | refine blk_drew ?_ | refine blk_alloc ?_ _)); exact BK218.out) hkp (fun hs_ => (fun e_ => (Kd.R_ne HO225.out BK218.out (by decide)) e_) hs_))
                          have n1_ := Aside0.mk (Kd.R_mono (ok' := fun k_ => True) ho0 (fun k_ hk_ => trivial))
                          have n2_ := Aside0.mk (hb)
                          clear BK218
                          clear HB
                          clear HO225
                          have BK218 := n0_
                          have HO228 := n1_
                          have HB := n2_
                          clear n0_ n1_ n2_
                          (try clear hb)
                          (try clear hkp)
                          (try clear ho0)
                          refine hK.out _ _ (tab_loadAt Try.underlying24 (show (Try.prog.info? 24).map (·.size) = some 256 from by kernel_rfl) BK218.out) (fun hHeld => ?_)
                          clear hK K
                          refine norm_ (a' := ?_) ?_ ?_
                          rotate_left
                          · show Act.put _ (some 57) _ = _
                            simp only [Act.put, List.setIfInBounds_toArray, List.set_cons_zero, List.set_cons_succ, i64_w, i32_w]
                            rfl
                          refine pure_ (i := 6) (N := some 51) (v := ?_) (a' := ?_) #[true, true, true, true, true, true, true, false, false, false, false] rfl rfl (any_of HT_.out (by kernel_rfl)) (fun _ _ _ h => h) (Or.inl ⟨by rfl, ?_⟩) ?_ ?_
                          rotate_left
                          · intro w'
                            go_simp
                            with_reducible rfl
                          rotate_left
                          · simp only [Act.put, List.setIfInBounds_toArray, List.set_cons_zero, List.set_cons_succ, i64_w, i32_w]
                            rfl
                          refine pure_ (i := 7) (N := some 58) (v := ?_) (a' := ?_) #[true, true, true, true, true, true, true, true, false, false, false] rfl rfl (any_of HT_.out (by kernel_rfl)) (fun _ _ _ h => h) (Or.inl ⟨by rfl, ?_⟩) ?_ ?_
                          rotate_left
                          · intro w'
                            go_simp
                            with_reducible rfl
                          rotate_left
                          · simp only [Act.put, List.setIfInBounds_toArray, List.set_cons_zero, List.set_cons_succ, i64_w, i32_w]
                            rfl
                          refine pure_ (i := 8) (N := some 59) (v := ?_) (a' := ?_) #[true, true, true, true, true, true, true, true, true, false, false] rfl rfl (any_of HT_.out (by kernel_rfl)) (fun _ _ _ h => h) (Or.inl ⟨by rfl, ?_⟩) ?_ ?_
                          rotate_left
                          · intro w'
                            go_simp
                            with_reducible rfl
                          rotate_left
                          · simp only [Act.put, List.setIfInBounds_toArray, List.set_cons_zero, List.set_cons_succ, i64_w, i32_w]
                            rfl
                          refine pure_ (i := 9) (N := some 12) (v := ?_) (a' := ?_) #[true, true, true, true, true, true, true, true, true, true, false] rfl rfl (any_of HT_.out (by kernel_rfl)) (fun _ _ _ h => h) (Or.inl ⟨by rfl, ?_⟩) ?_ ?_
                          rotate_left
                          · intro w'
                            go_simp
                            with_reducible rfl
                          rotate_left
                          · simp only [Act.put, List.setIfInBounds_toArray, List.set_cons_zero, List.set_cons_succ, i64_w, i32_w]
                            rfl
                          refine pure_ (i := 10) (N := some 13) (v := ?_) (a' := ?_) #[true, true, true, true, true, true, true, true, true, true, true] rfl rfl (any_of HT_.out (by kernel_rfl)) (fun _ _ _ h => h) (Or.inl ⟨by rfl, ?_⟩) ?_ ?_
                          rotate_left
                          · intro w'
                            go_simp
                            with_reducible rfl
                          rotate_left
                          · simp only [Act.put, List.setIfInBounds_toArray, List.set_cons_zero, List.set_cons_succ, i64_w, i32_w]
                            rfl
                          refine done_ (done_of HT_.out (by kernel_rfl)) ?_
                          try go_wp2_with (first | ((with_reducible refine gate_callee (f := 21) rfl ?_); refine goesL_ (some 61) rfl rfl Try.func21 (by kernel_rfl) rfl #[.int .i64 a4] rfl (by (try simp only [List.map_toArray, List.map_cons, List.map_nil]); first | done | rfl | (simp only [List.length_drop, List.length_take]; rfl)) ?_; (with_reducible refine (frame_Size.calls a4 t230 _ A24.out).mono ?_); rintro e w' ⟨rfl, ⟨nd, rfl⟩⟩; refine ⟨_, rfl, ?_⟩; obtain ⟨Ao41, co41, eo41⟩ := Kd.R_slice HO228.out; subst eo41))
                          go_ret
                          exact ⟨by first | rfl | (simp [errW_none, errW_some] <;> rfl) | (simp [*, errW_none, errW_some] <;> rfl), by repeat (first | (with_reducible first | exact HB.out | apply below_alloc | apply pw_below_drewN | apply below_drew1 | refine below_set ?_ GE218.out) | exact HB.out)⟩
                      · rw [if_neg c26] at H
                        have c26b0 : decide (60000 < (l1.length : Int)) = false := decide_eq_false c26
                        have c26b1 : decide (60000 < l1.length) = false := decide_eq_false (by omega)
                        clear c26
                        replace H := Option.bind_eq_some_iff.mp H
                        obtain ⟨t231, A420, H⟩ := H
                        replace H : (if t229 = 0 then (if (strOfNums l2).size + (strOfNums t231).size ≤ 9223372036854775807 then (if (strOfNums t226).toList = ((strOfNums l2) ++ (strOfNums t231)).toList then (if t226.length + l3.length < 140737488355328 then ((frame_Get.f kj19 (t226 ++ l3) (l2.length : Int) a0).bind fun bt237 => (if (strOfNums bt237.1).toList = (strOfNums l1).toList then (if bt237.2.1 = (wrap64 ((l2.length : Int) + (t231.length : Int))) then (some (bt237.2.2 == 0)) else (some false)) else (some false))) else (none)) else (some false)) else (none)) else (some false)) = some r := H
                        have A42 := Aside0.mk A420
                        clear A420
                        by_cases c43 : t229 = 0
                        · rw [if_pos c43] at H
                          have c43b0 : (t229 == 0) = true := beq_iff_eq.mpr c43
                          have c43b1 : (t229 != 0) = false := bne_eq_false_iff_eq.mpr c43
                          clear c43
                          by_cases c44 : (strOfNums l2).size + (strOfNums t231).size ≤ 9223372036854775807
                          · rw [if_pos c44] at H
                            have c44b0 := eq_true c44
                            have c44b1 : decide ((strOfNums l2).size + (strOfNums t231).size ≤ 9223372036854775807) = true := decide_eq_true c44
                            try have c44b2 : (9223372036854775807 < (strOfNums l2).size + (strOfNums t231).size) = False := eq_false (Nat.not_lt.2 c44)
                            by_cases c45 : (strOfNums t226).toList = ((strOfNums l2) ++ (strOfNums t231)).toList
                            · rw [if_pos c45] at H
                              have c45b0 : ((strOfNums t226).toList == ((strOfNums l2) ++ (strOfNums t231)).toList) = true := beq_iff_eq.mpr c45
                              have c45b1 : ((strOfNums t226).toList != ((strOfNums l2) ++ (strOfNums t231)).toList) = false := bne_eq_false_iff_eq.mpr c45
                              clear c45
                              by_cases c46 : t226.length + l3.length < 140737488355328
                              · rw [if_pos c46] at H
                                have LMc46 := Aside0.mk c46
                                clear c46
                                obtain ⟨y234, hy234⟩ : ∃ y_ : List Int, y_ = (t226 ++ l3) := ⟨_, rfl⟩
                                replace H : ((frame_Get.f kj19 y234 (l2.length : Int) a0).bind fun bt237 => (if (strOfNums bt237.1).toList = (strOfNums l1).toList then (if bt237.2.1 = (wrap64 ((l2.length : Int) + (t231.length : Int))) then (some (bt237.2.2 == 0)) else (some false)) else (some false))) = some r := by first | (rw [hy234]; with_reducible exact H) | (have H2_ := (Option.bind_some _ _).symm.trans H; rw [hy234]; with_reducible exact H2_) | (have H2_ := (Option.bind_some _ _).symm.trans H; with_reducible exact H2_) | with_reducible exact H | (rw [hy234]; exact H) | exact H
                                have Ny234 := Aside0.mk hy234
                                clear hy234
                                replace H := Option.bind_eq_some_iff.mp H
                                obtain ⟨⟨t237, t238, t239⟩, A470, H⟩ := H
                                replace H : (if (strOfNums t237).toList = (strOfNums l1).toList then (if t238 = (wrap64 ((l2.length : Int) + (t231.length : Int))) then (some (t239 == 0)) else (some false)) else (some false)) = some r := H
                                have A47 := Aside0.mk A470
                                clear A470
                                by_cases c48 : (strOfNums t237).toList = (strOfNums l1).toList
                                · rw [if_pos c48] at H
                                  have c48b0 : ((strOfNums t237).toList == (strOfNums l1).toList) = true := beq_iff_eq.mpr c48
                                  have c48b1 : ((strOfNums t237).toList != (strOfNums l1).toList) = false := bne_eq_false_iff_eq.mpr c48
                                  clear c48
                                  by_cases c49 : t238 = (wrap64 ((l2.length : Int) + (t231.length : Int)))
                                  · rw [if_pos c49] at H
                                    have c49b0 : (t238 == (wrap64 ((l2.length : Int) + (t231.length : Int)))) = true := beq_iff_eq.mpr c49
                                    try (have c49b0w : (t238 == (((l2.length : Int) + (t231.length : Int)))) = true := by (rw [show ((l2.length : Int) + (t231.length : Int)) = wrap64 ((l2.length : Int) + (t231.length : Int)) from (by unfold wrap64; omega)]; exact c49b0))
                                    have c49b1 : (t238 != (wrap64 ((l2.length : Int) + (t231.length : Int)))) = false := bne_eq_false_iff_eq.mpr c49
                                    try (have c49b1w : (t238 != (((l2.length : Int) + (t231.length : Int)))) = false := by (rw [show ((l2.length : Int) + (t231.length : Int)) = wrap64 ((l2.length : Int) + (t231.length : Int)) from (by unfold wrap64; omega)]; exact c49b1))
                                    clear c49
                                    obtain rfl := Option.some.inj H
                                    try go_wp2
                                    have n0_ := Aside0.mk (blk_drew BK218.out)
                                    have n1_ := Aside0.mk (below_drew1 HB.out)
                                    clear BK218
                                    clear HB
                                    have BK218 := n0_
                                    have HB := n1_
                                    clear n0_ n1_
                                    refine start_ (n := 11) (S := fun w' => (Instr.loadAt 24 (.pointer (some ⟨gb218, 0, none⟩))).run Try.prog w' = .ok (.agg (tabC a0)) w') (ds := []) #[false, false, false, false, false, false, false, false, false, false, false] (by kernel_rfl) rfl rfl (tab_loadAt Try.underlying24 (show (Try.prog.info? 24).map (·.size) = some 256 from by kernel_rfl) BK218.out) (fun hHeld => ?_); refine with_tabW punnetlaw07_FramePuts.tab8 punnetlaw07_FramePuts.bits8 (fun HT_ HW_ => ?_)
                                    generalize wc.drew = w50 at BK218 HB hHeld ⊢
                                    refine pure_ (i := 1) (N := some 53) (v := ?_) (a' := ?_) #[false, true, false, false, false, false, false, false, false, false, false] rfl rfl (any_of HT_.out (by kernel_rfl)) (fun _ _ _ h => h) (Or.inl ⟨by rfl, ?_⟩) ?_ ?_
                                    rotate_left
                                    · intro w'
                                      go_simp
                                      with_reducible rfl
                                    rotate_left
                                    · simp only [Act.put, List.setIfInBounds_toArray, List.set_cons_zero, List.set_cons_succ, i64_w, i32_w]
                                      rfl
                                    refine pure_ (i := 4) (N := some 56) (v := ?_) (a' := ?_) #[false, true, false, false, true, false, false, false, false, false, false] rfl rfl (any_of HT_.out (by kernel_rfl)) (fun _ _ _ h => h) (Or.inl ⟨by rfl, ?_⟩) ?_ ?_
                                    rotate_left
                                    · intro w'
                                      go_simp
                                      with_reducible rfl
                                    rotate_left
                                    · simp only [Act.put, List.setIfInBounds_toArray, List.set_cons_zero, List.set_cons_succ, i64_w, i32_w]
                                      rfl
                                    refine take_ (i := 3) (N := some 55) (v := ?_) (a' := ?_) #[false, true, false, true, true, false, false, false, false, false, false] rfl rfl (take_ofW HT_.out HW_.out (by kernel_rfl)) (fun _ _ _ h => h) (Or.inl ⟨by rfl, ?_⟩) hHeld ?_ ?_
                                    rotate_left
                                    · intro w' s0
                                      exact tab_exec rfl rfl (by assumption)
                                    rotate_left
                                    · simp only [Act.put, List.setIfInBounds_toArray, List.set_cons_zero, List.set_cons_succ, i64_w, i32_w]
                                      rfl
                                    refine one_ (i := 0) (N := some 52) #[true, true, false, true, true, false, false, false, false, false, false] rfl rfl (one_of HT_.out (by kernel_rfl)) (by decide) (fun K hK => ?_)
                                    refine Kd.R_lit_step (Kd.int .u8) _ 5 ?hg (N := 52) ?hd (xs := ([] : List Int)) (inner := []) (ok := fun _ => True) (okp := fun _ => True) ?hr ?hp (fun _ hk => hk) trivial (Below.refl _ _) (Nat.le_refl _) (by simp) ?_; (case hd => rfl); (case hg => rfl); (case hr => first | (go_simp; done) | (go_simp; rfl)); (case hp => exact (Reps.none _ _))
                                    intro v221 w51 ho52 hb hg_ hnew_
                                    clear hg_ hnew_
                                    (first | rw [← Ny220.out] at ho52 | (simp only [Int.reduceToNat] at ho52; rw [← Ny220.out] at ho52))
                                    have n0_ := Aside0.mk (Kd.R_lower ho52 (below_size (by repeat (first | (with_reducible first | exact HB.out | apply below_alloc | apply pw_below_drewN | apply below_drew1 | refine below_set ?_ GE218.out) | exact HB.out))))
                                    have n1_ := Aside0.mk (blk_below (g := gb218) (o := .cells (tabC a0) 24 (0, 0)) (by (with_reducible repeat (first | refine blk_drewN ?_ _ | refine blk_drew ?_ | refine blk_alloc ?_ _)); exact BK218.out) hb)
                                    have n2_ := Aside0.mk (below_step (by repeat (first | (with_reducible first | exact HB.out | apply below_alloc | apply pw_below_drewN | apply below_drew1 | refine below_set ?_ GE218.out) | exact HB.out)) hb)
                                    clear BK218
                                    clear HB
                                    have HO222 := n0_
                                    have BK218 := n1_
                                    have HB := n2_
                                    clear n0_ n1_ n2_
                                    clear hb ho52
                                    refine hK.out _ _ (tab_loadAt Try.underlying24 (show (Try.prog.info? 24).map (·.size) = some 256 from by kernel_rfl) BK218.out) (fun hHeld => ?_)
                                    clear hK K
                                    refine norm_ (a' := ?_) ?_ ?_
                                    rotate_left
                                    · show Act.put _ (some 52) _ = _
                                      simp only [Act.put, List.setIfInBounds_toArray, List.set_cons_zero, List.set_cons_succ, i64_w, i32_w]
                                      rfl
                                    refine one_ (i := 2) (N := some 54) #[true, true, true, true, true, false, false, false, false, false, false] rfl rfl (one_of HT_.out (by kernel_rfl)) (by decide) (fun K hK => ?_)
                                    refine Kd.R_append_rows_step (Kd.int .u8) (w0 := w) w.heap.size (by rfl) (.tmp 52) (.tmp 53) 25 5 (.int .u8 0) 1 rfl Try.underlying25 info5 rfl (by decide) (by omega) v221 y220 l2 _ _ _ (fun _ => True) (fun _ => False) rfl rfl ?aO ?aR (fun _ _ h => h) (fun _ h => h.elim) ?aF ?aB ?aS ?aL ?_
                                    (case aR => repeat (first | exact (Kd.C_below HR2.out HB.out) | (with_reducible refine Kd.C_alloc ?_ _) | (with_reducible refine Kd.C_drewN ?_ _) | (with_reducible refine Kd.C_drew ?_)))
                                    (case aB => exact (by repeat (first | (with_reducible first | exact HB.out | apply below_alloc | apply pw_below_drewN | apply below_drew1 | refine below_set ?_ GE218.out) | exact HB.out)))
                                    (case aF => exact (fun _ _ => trivial))
                                    (case aO => exact (by (with_reducible repeat (first | apply Kd.R_alloc | apply Kd.R_drewN | apply Kd.R_drew)); exact HO222.out))
                                    (case aS => exact (below_size (by repeat (first | (with_reducible first | exact HB.out | apply below_alloc | apply pw_below_drewN | apply below_drew1 | refine below_set ?_ GE218.out) | exact HB.out))))
                                    (case aL => have := LMc22.out; omega)
                                    intro v224 w53 ho hb hg hat
                                    rw [← Ny223.out] at ho
                                    have n0_ := Aside0.mk (blk_grown (g := gb218) (o := .cells (tabC a0) 24 (0, 0)) (by (with_reducible repeat (first | refine blk_drewN ?_ _ | refine blk_drew ?_ | refine blk_alloc ?_ _)); exact BK218.out) hg (Kd.R_ne HO222.out BK218.out (by decide)))
                                    have n1_ := Aside0.mk (hb)
                                    have n2_ := Aside0.mk (ho)
                                    clear BK218
                                    clear HB
                                    clear HO222
                                    have BK218 := n0_
                                    have HB := n1_
                                    have HO225 := n2_
                                    clear n0_ n1_ n2_
                                    clear ho hb hg hat
                                    obtain ⟨Ao54, co54, eo54⟩ := Kd.R_slice HO225.out
                                    (first | subst eo54 | (injection eo54 with f1_ f2_ f3_; have f4_ := f1_.symm; have f5_ := f3_.symm; clear f1_ f2_ f3_; subst f4_; subst f5_))
                                    refine hK.out _ _ (tab_loadAt Try.underlying24 (show (Try.prog.info? 24).map (·.size) = some 256 from by kernel_rfl) BK218.out) (fun hHeld => ?_)
                                    clear hK K
                                    refine norm_ (a' := ?_) ?_ ?_
                                    rotate_left
                                    · show Act.put _ (some 54) _ = _
                                      simp only [Act.put, List.setIfInBounds_toArray, List.set_cons_zero, List.set_cons_succ, i64_w, i32_w]
                                      rfl
                                    refine one_ (i := 5) (N := some 57) #[true, true, true, true, true, true, false, false, false, false, false] rfl rfl (one_of HT_.out (by kernel_rfl)) (by decide) (fun K hK => ?_)
                                    refine goes_ Try.func20 (by kernel_rfl) rfl #[.slice Ao54 y223.length co54, .agg (tabC a0), .slice A1 l1.length c1] (by rfl) rfl rfl (by (try simp only [List.map_toArray, List.map_cons, List.map_nil]); first | done | rfl | (simp only [List.length_drop, List.length_take]; rfl)) ?_
                                    with_reducible refine (frame_Put.calls kj19 (fun k_ => some k_ = (.slice Ao54 y223.length co54 : Value).ownBlock) (.slice Ao54 y223.length co54) y223 a0 _ _ l1 t226 t229 w _ ?side1 ?side2 ?side3 ?side4 A23.out).mono ?_
                                    (case side1 => repeat (first | (with_reducible first | exact HB.out | apply below_alloc | apply pw_below_drewN | apply below_drew1 | refine below_set ?_ GE218.out) | exact HB.out))
                                    (case side2 => exact Kd.R_tight rfl HO225.out)
                                    (case side3 => exact Kd.C_kept_came (Kd.heap_int .u8) HR1.out (by repeat (first | (with_reducible first | exact HB.out | apply below_alloc | apply pw_below_drewN | apply below_drew1 | refine below_set ?_ GE218.out) | exact HB.out)) (fun k_ hs_ => (fun e_ => Kd.R_base HO225.out k_ e_.symm) hs_))
                                    (case side4 => exact HC1.out)
                                    rintro e w55 ⟨v227, rfl, ho0, hb, hkp⟩
                                    refine ⟨_, rfl, ?_⟩
                                    have n0_ := Aside0.mk (blk_kept (by (with_reducible repeat (first | refine blk_drewN ?_ _ | refine blk_drew ?_ | refine blk_alloc ?_ _)); exact BK218.out) hkp (fun hs_ => (fun e_ => (Kd.R_ne HO225.out BK218.out (by decide)) e_) hs_))
                                    have n1_ := Aside0.mk (Kd.R_mono (ok' := fun k_ => True) ho0 (fun k_ hk_ => trivial))
                                    have n2_ := Aside0.mk (hb)
                                    clear BK218
                                    clear HB
                                    clear HO225
                                    have BK218 := n0_
                                    have HO228 := n1_
                                    have HB := n2_
                                    clear n0_ n1_ n2_
                                    (try clear hb)
                                    (try clear hkp)
                                    (try clear ho0)
                                    refine hK.out _ _ (tab_loadAt Try.underlying24 (show (Try.prog.info? 24).map (·.size) = some 256 from by kernel_rfl) BK218.out) (fun hHeld => ?_)
                                    clear hK K
                                    refine norm_ (a' := ?_) ?_ ?_
                                    rotate_left
                                    · show Act.put _ (some 57) _ = _
                                      simp only [Act.put, List.setIfInBounds_toArray, List.set_cons_zero, List.set_cons_succ, i64_w, i32_w]
                                      rfl
                                    refine pure_ (i := 6) (N := some 51) (v := ?_) (a' := ?_) #[true, true, true, true, true, true, true, false, false, false, false] rfl rfl (any_of HT_.out (by kernel_rfl)) (fun _ _ _ h => h) (Or.inl ⟨by rfl, ?_⟩) ?_ ?_
                                    rotate_left
                                    · intro w'
                                      go_simp
                                      with_reducible rfl
                                    rotate_left
                                    · simp only [Act.put, List.setIfInBounds_toArray, List.set_cons_zero, List.set_cons_succ, i64_w, i32_w]
                                      rfl
                                    refine pure_ (i := 7) (N := some 58) (v := ?_) (a' := ?_) #[true, true, true, true, true, true, true, true, false, false, false] rfl rfl (any_of HT_.out (by kernel_rfl)) (fun _ _ _ h => h) (Or.inl ⟨by rfl, ?_⟩) ?_ ?_
                                    rotate_left
                                    · intro w'
                                      go_simp
                                      with_reducible rfl
                                    rotate_left
                                    · simp only [Act.put, List.setIfInBounds_toArray, List.set_cons_zero, List.set_cons_succ, i64_w, i32_w]
                                      rfl
                                    refine pure_ (i := 8) (N := some 59) (v := ?_) (a' := ?_) #[true, true, true, true, true, true, true, true, true, false, false] rfl rfl (any_of HT_.out (by kernel_rfl)) (fun _ _ _ h => h) (Or.inl ⟨by rfl, ?_⟩) ?_ ?_
                                    rotate_left
                                    · intro w'
                                      go_simp
                                      with_reducible rfl
                                    rotate_left
                                    · simp only [Act.put, List.setIfInBounds_toArray, List.set_cons_zero, List.set_cons_succ, i64_w, i32_w]
                                      rfl
                                    refine pure_ (i := 9) (N := some 12) (v := ?_) (a' := ?_) #[true, true, true, true, true, true, true, true, true, true, false] rfl rfl (any_of HT_.out (by kernel_rfl)) (fun _ _ _ h => h) (Or.inl ⟨by rfl, ?_⟩) ?_ ?_
                                    rotate_left
                                    · intro w'
                                      go_simp
                                      with_reducible rfl
                                    rotate_left
                                    · simp only [Act.put, List.setIfInBounds_toArray, List.set_cons_zero, List.set_cons_succ, i64_w, i32_w]
                                      rfl
                                    refine pure_ (i := 10) (N := some 13) (v := ?_) (a' := ?_) #[true, true, true, true, true, true, true, true, true, true, true] rfl rfl (any_of HT_.out (by kernel_rfl)) (fun _ _ _ h => h) (Or.inl ⟨by rfl, ?_⟩) ?_ ?_
                                    rotate_left
                                    · intro w'
                                      go_simp
                                      with_reducible rfl
                                    rotate_left
                                    · simp only [Act.put, List.setIfInBounds_toArray, List.set_cons_zero, List.set_cons_succ, i64_w, i32_w]
                                      rfl
                                    refine done_ (done_of HT_.out (by kernel_rfl)) ?_
                                    try go_wp2_with (first | ((with_reducible refine gate_callee (f := 21) rfl ?_); refine goesL_ (some 61) rfl rfl Try.func21 (by kernel_rfl) rfl #[.int .i64 a4] rfl (by (try simp only [List.map_toArray, List.map_cons, List.map_nil]); first | done | rfl | (simp only [List.length_drop, List.length_take]; rfl)) ?_; (with_reducible refine (frame_Size.calls a4 t230 _ A24.out).mono ?_); rintro e w' ⟨rfl, ⟨nd, rfl⟩⟩; refine ⟨_, rfl, ?_⟩) | ((with_reducible refine gate_dst (N := 74) rfl ?_); (try (refine gate_guard (by rfl) ?_; dsimp only)); refine wpList_load_row rfl 24 (.tmp 5) rfl gb218 rfl 24 (tabC a0) (0, 0) _ (by (with_reducible repeat (first | refine blk_drewN ?_ _ | refine blk_drew ?_ | refine blk_alloc ?_ _)); exact BK218.out) Try.underlying24 rfl (by rw [tabC_size]; kernel_rfl) ?_) | ((with_reducible refine gate_callee (f := 22) rfl ?_); refine goesL_ (some 76) rfl rfl Try.func22 (by kernel_rfl) rfl #[.agg (tabC a0), .slice A1 l1.length c1] rfl (by (try simp only [List.map_toArray, List.map_cons, List.map_nil]); first | done | rfl | (simp only [List.length_drop, List.length_take]; rfl)) ?_; (with_reducible refine (punnetref07_Frame.calls kj19 a0 _ _ l1 t231 _ ?side1 ?side2 A42.out).mono ?_); (case side1 => repeat (first | exact (Kd.C_below HR1.out (by repeat (first | (with_reducible first | exact HB.out | apply below_alloc | apply pw_below_drewN | apply below_drew1 | refine below_set ?_ GE218.out) | exact HB.out))) | (with_reducible refine Kd.C_alloc ?_ _) | (with_reducible refine Kd.C_drewN ?_ _) | (with_reducible refine Kd.C_drew ?_))); (case side2 => exact HC1.out); rintro e w56 ⟨v232, rfl, ho0, hb⟩; refine ⟨_, rfl, ?_⟩; have n0_ := Aside0.mk (Kd.R_elder' (by (with_reducible repeat (first | apply Kd.R_alloc | apply Kd.R_drewN | apply Kd.R_drew)); exact HO228.out) (Kd.R_base ho0) hb); have n1_ := Aside0.mk (Kd.R_lower (Kd.R_new' ho0 (Kd.R_lt (by (with_reducible repeat (first | apply Kd.R_alloc | apply Kd.R_drewN | apply Kd.R_drew)); exact HO228.out))) (below_size (by repeat (first | (with_reducible first | exact HB.out | apply below_alloc | apply pw_below_drewN | apply below_drew1 | refine below_set ?_ GE218.out) | exact HB.out)))); have n2_ := Aside0.mk (blk_below (g := gb218) (o := .cells (tabC a0) 24 (0, 0)) (by (with_reducible repeat (first | refine blk_drewN ?_ _ | refine blk_drew ?_ | refine blk_alloc ?_ _)); exact BK218.out) hb); have n3_ := Aside0.mk (below_step (by repeat (first | (with_reducible first | exact HB.out | apply below_alloc | apply pw_below_drewN | apply below_drew1 | refine below_set ?_ GE218.out) | exact HB.out)) hb); clear HO228; clear BK218; clear HB; have HO228 := n0_; have HO233 := n1_; have BK218 := n2_; have HB := n3_; clear n0_ n1_ n2_ n3_; (try clear hb); (try clear hb2); (try clear hk); (try clear hi); (try clear ho0); have hcv57 := own_string (P := Try.prog) Try.underlying25 Try.underlying5 Try.underlying9 (Kd.own_of_R HO228.out); have hcv58 := Kd.C_string (P := Try.prog) (A := A2) (c := c2) Try.underlying25 Try.underlying5 Try.underlying9 (Kd.C_below HR2.out HB.out); have hcv59 := own_string (P := Try.prog) Try.underlying25 Try.underlying5 Try.underlying9 (Kd.own_of_R HO233.out)))
                                    have n0_ := Aside0.mk (Kd.R_drew HO228.out)
                                    have n1_ := Aside0.mk (Kd.R_drew HO233.out)
                                    have n2_ := Aside0.mk (blk_drew BK218.out)
                                    have n3_ := Aside0.mk (below_drew1 HB.out)
                                    clear HO228
                                    clear HO233
                                    clear BK218
                                    clear HB
                                    have HO228 := n0_
                                    have HO233 := n1_
                                    have BK218 := n2_
                                    have HB := n3_
                                    clear n0_ n1_ n2_ n3_
                                    refine start_ (n := 14) (S := fun w' => (Instr.loadAt 24 (.pointer (some ⟨gb218, 0, none⟩))).run Try.prog w' = .ok (.agg (tabC a0)) w') (ds := []) #[false, false, false, false, false, false, false, false, false, false, false, false, false, false] (by kernel_rfl) rfl rfl (tab_loadAt Try.underlying24 (show (Try.prog.info? 24).map (·.size) = some 256 from by kernel_rfl) BK218.out) (fun hHeld => ?_); refine with_tabW punnetlaw07_FramePuts.tab16 punnetlaw07_FramePuts.bits16 (fun HT_ HW_ => ?_)
                                    generalize w56.drew = w60 at HO228 HO233 BK218 HB hHeld ⊢
                                    refine pure_ (i := 0) (N := some 90) (v := ?_) (a' := ?_) #[true, false, false, false, false, false, false, false, false, false, false, false, false, false] rfl rfl (any_of HT_.out (by kernel_rfl)) (fun _ _ _ h => h) (Or.inl ⟨by rfl, ?_⟩) ?_ ?_
                                    rotate_left
                                    · intro w'
                                      go_simp
                                      with_reducible rfl
                                    rotate_left
                                    · simp only [Act.put, List.setIfInBounds_toArray, List.set_cons_zero, List.set_cons_succ, i64_w, i32_w]
                                      rfl
                                    refine pure_ (i := 1) (N := some 91) (v := ?_) (a' := ?_) #[true, true, false, false, false, false, false, false, false, false, false, false, false, false] rfl rfl (any_of HT_.out (by kernel_rfl)) (fun _ _ _ h => h) (Or.inl ⟨by rfl, ?_⟩) ?_ ?_
                                    rotate_left
                                    · intro w'
                                      go_simp
                                      with_reducible rfl
                                    rotate_left
                                    · simp only [Act.put, List.setIfInBounds_toArray, List.set_cons_zero, List.set_cons_succ, i64_w, i32_w]
                                      rfl
                                    refine pure_ (i := 3) (N := some 93) (v := ?_) (a' := ?_) #[true, true, false, true, false, false, false, false, false, false, false, false, false, false] rfl rfl (any_of HT_.out (by kernel_rfl)) (fun _ _ _ h => h) (Or.inl ⟨by rfl, ?_⟩) ?_ ?_
                                    rotate_left
                                    · intro w'
                                      go_simp
                                      with_reducible rfl
                                    rotate_left
                                    · simp only [Act.put, List.setIfInBounds_toArray, List.set_cons_zero, List.set_cons_succ, i64_w, i32_w]
                                      rfl
                                    refine pure_ (i := 4) (N := some 94) (v := ?_) (a' := ?_) #[true, true, false, true, true, false, false, false, false, false, false, false, false, false] rfl rfl (any_of HT_.out (by kernel_rfl)) (fun _ _ _ h => h) (Or.inl ⟨by rfl, ?_⟩) ?_ ?_
                                    rotate_left
                                    · intro w'
                                      go_simp
                                      with_reducible rfl
                                    rotate_left
                                    · simp only [Act.put, List.setIfInBounds_toArray, List.set_cons_zero, List.set_cons_succ, i64_w, i32_w]
                                      rfl
                                    refine take_ (i := 5) (N := some 95) (v := ?_) (a' := ?_) #[true, true, false, true, true, true, false, false, false, false, false, false, false, false] rfl rfl (take_ofW HT_.out HW_.out (by kernel_rfl)) (fun _ _ _ h => h) (Or.inl ⟨by rfl, ?_⟩) hHeld ?_ ?_
                                    rotate_left
                                    · intro w' s0
                                      exact tab_exec rfl rfl (by assumption)
                                    rotate_left
                                    · simp only [Act.put, List.setIfInBounds_toArray, List.set_cons_zero, List.set_cons_succ, i64_w, i32_w]
                                      rfl
                                    refine one_ (i := 2) (N := some 92) #[true, true, true, true, true, true, false, false, false, false, false, false, false, false] rfl rfl (one_of HT_.out (by kernel_rfl)) (by decide) (fun K hK => ?_)
                                    refine Kd.R_append_rows_step (Kd.int .u8) (w0 := w) w.heap.size (by rfl) (.tmp 90) (.tmp 91) 25 5 (.int .u8 0) 1 rfl Try.underlying25 info5 rfl (by decide) (by omega) v227 t226 l3 _ _ _ (fun k_ => some k_ ≠ (v232 : Value).ownBlock) (fun _ => False) rfl rfl ?aO ?aR (fun _ _ h => h) (fun _ h => h.elim) ?aF ?aB ?aS ?aL ?_
                                    (case aR => repeat (first | exact (Kd.C_below HR3.out HB.out) | (with_reducible refine Kd.C_alloc ?_ _) | (with_reducible refine Kd.C_drewN ?_ _) | (with_reducible refine Kd.C_drew ?_)))
                                    (case aB => exact (by repeat (first | (with_reducible first | exact HB.out | apply below_alloc | apply pw_below_drewN | apply below_drew1 | refine below_set ?_ GE218.out) | exact HB.out)))
                                    (case aF => exact (fun k_ hk => Kd.fresh' (Kd.R_lt (by (with_reducible repeat (first | apply Kd.R_alloc | apply Kd.R_drewN | apply Kd.R_drew)); exact HO233.out)) k_ hk))
                                    (case aO => exact (by (with_reducible repeat (first | apply Kd.R_alloc | apply Kd.R_drewN | apply Kd.R_drew)); exact Kd.R_mono HO228.out (fun _ hk => hk.2)))
                                    (case aS => exact (below_size (by repeat (first | (with_reducible first | exact HB.out | apply below_alloc | apply pw_below_drewN | apply below_drew1 | refine below_set ?_ GE218.out) | exact HB.out))))
                                    (case aL => have := LMc46.out; omega)
                                    intro v235 w61 ho hb hg hat
                                    rw [← Ny234.out] at ho
                                    have n0_ := Aside0.mk (blk_grown (g := gb218) (o := .cells (tabC a0) 24 (0, 0)) (by (with_reducible repeat (first | refine blk_drewN ?_ _ | refine blk_drew ?_ | refine blk_alloc ?_ _)); exact BK218.out) hg (Kd.R_ne HO228.out BK218.out (by decide)))
                                    have n1_ := Aside0.mk (Kd.R_after (ok := (fun _ => True)) (by (with_reducible repeat (first | apply Kd.R_alloc | apply Kd.R_drewN | apply Kd.R_drew)); exact HO233.out) hg hat)
                                    have n2_ := Aside0.mk (hb)
                                    have n3_ := Aside0.mk (ho)
                                    clear BK218
                                    clear HO233
                                    clear HB
                                    clear HO228
                                    have BK218 := n0_
                                    have HO233 := n1_
                                    have HB := n2_
                                    have HO236 := n3_
                                    clear n0_ n1_ n2_ n3_
                                    clear ho hb hg hat
                                    obtain ⟨Ao62, co62, eo62⟩ := Kd.R_slice HO236.out
                                    (first | subst eo62 | (injection eo62 with f1_ f2_ f3_; have f4_ := f1_.symm; have f5_ := f3_.symm; clear f1_ f2_ f3_; subst f4_; subst f5_))
                                    refine hK.out _ _ (tab_loadAt Try.underlying24 (show (Try.prog.info? 24).map (·.size) = some 256 from by kernel_rfl) BK218.out) (fun hHeld => ?_)
                                    clear hK K
                                    refine norm_ (a' := ?_) ?_ ?_
                                    rotate_left
                                    · show Act.put _ (some 92) _ = _
                                      simp only [Act.put, List.setIfInBounds_toArray, List.set_cons_zero, List.set_cons_succ, i64_w, i32_w]
                                      rfl
                                    refine one_ (i := 6) (N := some 96) #[true, true, true, true, true, true, true, false, false, false, false, false, false, false] rfl rfl (one_of HT_.out (by kernel_rfl)) (by decide) (fun K hK => ?_)
                                    refine goes_ Try.func23 (by kernel_rfl) rfl #[.slice Ao62 y234.length co62, .int .i64 (l2.length : Int), .agg (tabC a0)] (by rfl) rfl rfl (by (try simp only [List.map_toArray, List.map_cons, List.map_nil]); first | done | rfl | (simp only [List.length_drop, List.length_take]; rfl)) ?_
                                    with_reducible refine (frame_Get.calls kj19 _ _ y234 (l2.length : Int) a0 t237 t238 t239 _ ?side1 ?side2 A47.out).mono ?_
                                    (case side1 => repeat (first | exact (Kd.R_reads' HO236.out).2.2 | (with_reducible refine Kd.C_alloc ?_ _) | (with_reducible refine Kd.C_drewN ?_ _) | (with_reducible refine Kd.C_drew ?_)))
                                    (case side2 => exact (Kd.R_reads' HO236.out).2.1)
                                    rintro e w63 ⟨v240, rfl, ho0, hb⟩
                                    refine ⟨_, rfl, ?_⟩
                                    have n0_ := Aside0.mk (Kd.R_elder' (by (with_reducible repeat (first | apply Kd.R_alloc | apply Kd.R_drewN | apply Kd.R_drew)); exact HO233.out) (Kd.R_base ho0) hb)
                                    have n1_ := Aside0.mk (Kd.R_elder' (by (with_reducible repeat (first | apply Kd.R_alloc | apply Kd.R_drewN | apply Kd.R_drew)); exact HO236.out) (Kd.R_base ho0) hb)
                                    have n2_ := Aside0.mk (Kd.R_lower (Kd.R_new' (Kd.R_new' ho0 (Kd.R_lt (by (with_reducible repeat (first | apply Kd.R_alloc | apply Kd.R_drewN | apply Kd.R_drew)); exact HO233.out))) (Kd.R_lt (by (with_reducible repeat (first | apply Kd.R_alloc | apply Kd.R_drewN | apply Kd.R_drew)); exact HO236.out))) (below_size (by repeat (first | (with_reducible first | exact HB.out | apply below_alloc | apply pw_below_drewN | apply below_drew1 | refine below_set ?_ GE218.out) | exact HB.out))))
                                    have n3_ := Aside0.mk (blk_below (g := gb218) (o := .cells (tabC a0) 24 (0, 0)) (by (with_reducible repeat (first | refine blk_drewN ?_ _ | refine blk_drew ?_ | refine blk_alloc ?_ _)); exact BK218.out) hb)
                                    have n4_ := Aside0.mk (below_step (by repeat (first | (with_reducible first | exact HB.out | apply below_alloc | apply pw_below_drewN | apply below_drew1 | refine below_set ?_ GE218.out) | exact HB.out)) hb)
                                    clear HO233
                                    clear HO236
                                    clear BK218
                                    clear HB
                                    have HO233 := n0_
                                    have HO236 := n1_
                                    have HO241 := n2_
                                    have BK218 := n3_
                                    have HB := n4_
                                    clear n0_ n1_ n2_ n3_ n4_
                                    (try clear hb)
                                    (try clear hb2)
                                    (try clear hk)
                                    (try clear hi)
                                    (try clear ho0)
                                    refine hK.out _ _ (tab_loadAt Try.underlying24 (show (Try.prog.info? 24).map (·.size) = some 256 from by kernel_rfl) BK218.out) (fun hHeld => ?_)
                                    clear hK K
                                    refine norm_ (a' := ?_) ?_ ?_
                                    rotate_left
                                    · show Act.put _ (some 96) _ = _
                                      simp only [Act.put, List.setIfInBounds_toArray, List.set_cons_zero, List.set_cons_succ, i64_w, i32_w]
                                      rfl
                                    refine pure_ (i := 7) (N := some 89) (v := ?_) (a' := ?_) #[true, true, true, true, true, true, true, true, false, false, false, false, false, false] rfl rfl (any_of HT_.out (by kernel_rfl)) (fun _ _ _ h => h) (Or.inl ⟨by rfl, ?_⟩) ?_ ?_
                                    rotate_left
                                    · intro w'
                                      go_simp
                                      with_reducible rfl
                                    rotate_left
                                    · simp only [Act.put, List.setIfInBounds_toArray, List.set_cons_zero, List.set_cons_succ, i64_w, i32_w]
                                      rfl
                                    refine pure_ (i := 8) (N := some 97) (v := ?_) (a' := ?_) #[true, true, true, true, true, true, true, true, true, false, false, false, false, false] rfl rfl (any_of HT_.out (by kernel_rfl)) (fun _ _ _ h => h) (Or.inl ⟨by rfl, ?_⟩) ?_ ?_
                                    rotate_left
                                    · intro w'
                                      go_simp
                                      with_reducible rfl
                                    rotate_left
                                    · simp only [Act.put, List.setIfInBounds_toArray, List.set_cons_zero, List.set_cons_succ, i64_w, i32_w]
                                      rfl
                                    refine pure_ (i := 9) (N := some 98) (v := ?_) (a' := ?_) #[true, true, true, true, true, true, true, true, true, true, false, false, false, false] rfl rfl (any_of HT_.out (by kernel_rfl)) (fun _ _ _ h => h) (Or.inl ⟨by rfl, ?_⟩) ?_ ?_
                                    rotate_left
                                    · intro w'
                                      go_simp
                                      with_reducible rfl
                                    rotate_left
                                    · simp only [Act.put, List.setIfInBounds_toArray, List.set_cons_zero, List.set_cons_succ, i64_w, i32_w]
                                      rfl
                                    refine pure_ (i := 10) (N := some 99) (v := ?_) (a' := ?_) #[true, true, true, true, true, true, true, true, true, true, true, false, false, false] rfl rfl (any_of HT_.out (by kernel_rfl)) (fun _ _ _ h => h) (Or.inl ⟨by rfl, ?_⟩) ?_ ?_
                                    rotate_left
                                    · intro w'
                                      go_simp
                                      with_reducible rfl
                                    rotate_left
                                    · simp only [Act.put, List.setIfInBounds_toArray, List.set_cons_zero, List.set_cons_succ, i64_w, i32_w]
                                      rfl
                                    refine pure_ (i := 11) (N := some 15) (v := ?_) (a' := ?_) #[true, true, true, true, true, true, true, true, true, true, true, true, false, false] rfl rfl (any_of HT_.out (by kernel_rfl)) (fun _ _ _ h => h) (Or.inl ⟨by rfl, ?_⟩) ?_ ?_
                                    rotate_left
                                    · intro w'
                                      go_simp
                                      with_reducible rfl
                                    rotate_left
                                    · simp only [Act.put, List.setIfInBounds_toArray, List.set_cons_zero, List.set_cons_succ, i64_w, i32_w]
                                      rfl
                                    refine pure_ (i := 12) (N := some 16) (v := ?_) (a' := ?_) #[true, true, true, true, true, true, true, true, true, true, true, true, true, false] rfl rfl (any_of HT_.out (by kernel_rfl)) (fun _ _ _ h => h) (Or.inl ⟨by rfl, ?_⟩) ?_ ?_
                                    rotate_left
                                    · intro w'
                                      go_simp
                                      with_reducible rfl
                                    rotate_left
                                    · simp only [Act.put, List.setIfInBounds_toArray, List.set_cons_zero, List.set_cons_succ, i64_w, i32_w]
                                      rfl
                                    refine pure_ (i := 13) (N := some 17) (v := ?_) (a' := ?_) #[true, true, true, true, true, true, true, true, true, true, true, true, true, true] rfl rfl (any_of HT_.out (by kernel_rfl)) (fun _ _ _ h => h) (Or.inl ⟨by rfl, ?_⟩) ?_ ?_
                                    rotate_left
                                    · intro w'
                                      go_simp
                                      with_reducible rfl
                                    rotate_left
                                    · simp only [Act.put, List.setIfInBounds_toArray, List.set_cons_zero, List.set_cons_succ, i64_w, i32_w]
                                      rfl
                                    refine done_ (done_of HT_.out (by kernel_rfl)) ?_
                                    have hcv64 := own_string (P := Try.prog) Try.underlying25 Try.underlying5 Try.underlying9 (Kd.own_of_R HO241.out)
                                    have hcv65 := Kd.C_string (P := Try.prog) (A := A1) (c := c1) Try.underlying25 Try.underlying5 Try.underlying9 (Kd.C_below HR1.out HB.out)
                                    obtain ⟨Ao66, co66, eo66⟩ := Kd.R_slice HO233.out
                                    subst eo66
                                    try go_wp2
                                    go_ret
                                    exact ⟨by first | rfl | (simp [errW_none, errW_some] <;> rfl) | (simp [*, errW_none, errW_some] <;> rfl), by repeat (first | (with_reducible first | exact HB.out | apply below_alloc | apply pw_below_drewN | apply below_drew1 | refine below_set ?_ GE218.out) | exact HB.out)⟩
                                  · rw [if_neg c49] at H
                                    have c49b0 : (t238 == (wrap64 ((l2.length : Int) + (t231.length : Int)))) = false := beq_eq_false_iff_ne.mpr c49
                                    try (have c49b0w : (t238 == (((l2.length : Int) + (t231.length : Int)))) = false := by (rw [show ((l2.length : Int) + (t231.length : Int)) = wrap64 ((l2.length : Int) + (t231.length : Int)) from (by unfold wrap64; omega)]; exact c49b0))
                                    have c49b1 : (t238 != (wrap64 ((l2.length : Int) + (t231.length : Int)))) = true := bne_iff_ne.mpr c49
                                    try (have c49b1w : (t238 != (((l2.length : Int) + (t231.length : Int)))) = true := by (rw [show ((l2.length : Int) + (t231.length : Int)) = wrap64 ((l2.length : Int) + (t231.length : Int)) from (by unfold wrap64; omega)]; exact c49b1))
                                    obtain rfl := Option.some.inj H
                                    try go_wp2
                                    have n0_ := Aside0.mk (blk_drew BK218.out)
                                    have n1_ := Aside0.mk (below_drew1 HB.out)
                                    clear BK218
                                    clear HB
                                    have BK218 := n0_
                                    have HB := n1_
                                    clear n0_ n1_
                                    refine start_ (n := 11) (S := fun w' => (Instr.loadAt 24 (.pointer (some ⟨gb218, 0, none⟩))).run Try.prog w' = .ok (.agg (tabC a0)) w') (ds := []) #[false, false, false, false, false, false, false, false, false, false, false] (by kernel_rfl) rfl rfl (tab_loadAt Try.underlying24 (show (Try.prog.info? 24).map (·.size) = some 256 from by kernel_rfl) BK218.out) (fun hHeld => ?_); refine with_tabW punnetlaw07_FramePuts.tab8 punnetlaw07_FramePuts.bits8 (fun HT_ HW_ => ?_)
                                    generalize wc.drew = w67 at BK218 HB hHeld ⊢
                                    refine pure_ (i := 1) (N := some 53) (v := ?_) (a' := ?_) #[false, true, false, false, false, false, false, false, false, false, false] rfl rfl (any_of HT_.out (by kernel_rfl)) (fun _ _ _ h => h) (Or.inl ⟨by rfl, ?_⟩) ?_ ?_
                                    rotate_left
                                    · intro w'
                                      go_simp
                                      with_reducible rfl
                                    rotate_left
                                    · simp only [Act.put, List.setIfInBounds_toArray, List.set_cons_zero, List.set_cons_succ, i64_w, i32_w]
                                      rfl
                                    refine pure_ (i := 4) (N := some 56) (v := ?_) (a' := ?_) #[false, true, false, false, true, false, false, false, false, false, false] rfl rfl (any_of HT_.out (by kernel_rfl)) (fun _ _ _ h => h) (Or.inl ⟨by rfl, ?_⟩) ?_ ?_
                                    rotate_left
                                    · intro w'
                                      go_simp
                                      with_reducible rfl
                                    rotate_left
                                    · simp only [Act.put, List.setIfInBounds_toArray, List.set_cons_zero, List.set_cons_succ, i64_w, i32_w]
                                      rfl
                                    refine take_ (i := 3) (N := some 55) (v := ?_) (a' := ?_) #[false, true, false, true, true, false, false, false, false, false, false] rfl rfl (take_ofW HT_.out HW_.out (by kernel_rfl)) (fun _ _ _ h => h) (Or.inl ⟨by rfl, ?_⟩) hHeld ?_ ?_
                                    rotate_left
                                    · intro w' s0
                                      exact tab_exec rfl rfl (by assumption)
                                    rotate_left
                                    · simp only [Act.put, List.setIfInBounds_toArray, List.set_cons_zero, List.set_cons_succ, i64_w, i32_w]
                                      rfl
                                    refine one_ (i := 0) (N := some 52) #[true, true, false, true, true, false, false, false, false, false, false] rfl rfl (one_of HT_.out (by kernel_rfl)) (by decide) (fun K hK => ?_)
                                    refine Kd.R_lit_step (Kd.int .u8) _ 5 ?hg (N := 52) ?hd (xs := ([] : List Int)) (inner := []) (ok := fun _ => True) (okp := fun _ => True) ?hr ?hp (fun _ hk => hk) trivial (Below.refl _ _) (Nat.le_refl _) (by simp) ?_; (case hd => rfl); (case hg => rfl); (case hr => first | (go_simp; done) | (go_simp; rfl)); (case hp => exact (Reps.none _ _))
                                    intro v221 w68 ho69 hb hg_ hnew_
                                    clear hg_ hnew_
                                    (first | rw [← Ny220.out] at ho69 | (simp only [Int.reduceToNat] at ho69; rw [← Ny220.out] at ho69))
                                    have n0_ := Aside0.mk (Kd.R_lower ho69 (below_size (by repeat (first | (with_reducible first | exact HB.out | apply below_alloc | apply pw_below_drewN | apply below_drew1 | refine below_set ?_ GE218.out) | exact HB.out))))
                                    have n1_ := Aside0.mk (blk_below (g := gb218) (o := .cells (tabC a0) 24 (0, 0)) (by (with_reducible repeat (first | refine blk_drewN ?_ _ | refine blk_drew ?_ | refine blk_alloc ?_ _)); exact BK218.out) hb)
                                    have n2_ := Aside0.mk (below_step (by repeat (first | (with_reducible first | exact HB.out | apply below_alloc | apply pw_below_drewN | apply below_drew1 | refine below_set ?_ GE218.out) | exact HB.out)) hb)
                                    clear BK218
                                    clear HB
                                    have HO222 := n0_
                                    have BK218 := n1_
                                    have HB := n2_
                                    clear n0_ n1_ n2_
                                    clear hb ho69
                                    refine hK.out _ _ (tab_loadAt Try.underlying24 (show (Try.prog.info? 24).map (·.size) = some 256 from by kernel_rfl) BK218.out) (fun hHeld => ?_)
                                    clear hK K
                                    refine norm_ (a' := ?_) ?_ ?_
                                    rotate_left
                                    · show Act.put _ (some 52) _ = _
                                      simp only [Act.put, List.setIfInBounds_toArray, List.set_cons_zero, List.set_cons_succ, i64_w, i32_w]
                                      rfl
                                    refine one_ (i := 2) (N := some 54) #[true, true, true, true, true, false, false, false, false, false, false] rfl rfl (one_of HT_.out (by kernel_rfl)) (by decide) (fun K hK => ?_)
                                    refine Kd.R_append_rows_step (Kd.int .u8) (w0 := w) w.heap.size (by rfl) (.tmp 52) (.tmp 53) 25 5 (.int .u8 0) 1 rfl Try.underlying25 info5 rfl (by decide) (by omega) v221 y220 l2 _ _ _ (fun _ => True) (fun _ => False) rfl rfl ?aO ?aR (fun _ _ h => h) (fun _ h => h.elim) ?aF ?aB ?aS ?aL ?_
                                    (case aR => repeat (first | exact (Kd.C_below HR2.out HB.out) | (with_reducible refine Kd.C_alloc ?_ _) | (with_reducible refine Kd.C_drewN ?_ _) | (with_reducible refine Kd.C_drew ?_)))
                                    (case aB => exact (by repeat (first | (with_reducible first | exact HB.out | apply below_alloc | apply pw_below_drewN | apply below_drew1 | refine below_set ?_ GE218.out) | exact HB.out)))
                                    (case aF => exact (fun _ _ => trivial))
                                    (case aO => exact (by (with_reducible repeat (first | apply Kd.R_alloc | apply Kd.R_drewN | apply Kd.R_drew)); exact HO222.out))
                                    (case aS => exact (below_size (by repeat (first | (with_reducible first | exact HB.out | apply below_alloc | apply pw_below_drewN | apply below_drew1 | refine below_set ?_ GE218.out) | exact HB.out))))
                                    (case aL => have := LMc22.out; omega)
                                    intro v224 w70 ho hb hg hat
                                    rw [← Ny223.out] at ho
                                    have n0_ := Aside0.mk (blk_grown (g := gb218) (o := .cells (tabC a0) 24 (0, 0)) (by (with_reducible repeat (first | refine blk_drewN ?_ _ | refine blk_drew ?_ | refine blk_alloc ?_ _)); exact BK218.out) hg (Kd.R_ne HO222.out BK218.out (by decide)))
                                    have n1_ := Aside0.mk (hb)
                                    have n2_ := Aside0.mk (ho)
                                    clear BK218
                                    clear HB
                                    clear HO222
                                    have BK218 := n0_
                                    have HB := n1_
                                    have HO225 := n2_
                                    clear n0_ n1_ n2_
                                    clear ho hb hg hat
                                    obtain ⟨Ao71, co71, eo71⟩ := Kd.R_slice HO225.out
                                    (first | subst eo71 | (injection eo71 with f1_ f2_ f3_; have f4_ := f1_.symm; have f5_ := f3_.symm; clear f1_ f2_ f3_; subst f4_; subst f5_))
                                    refine hK.out _ _ (tab_loadAt Try.underlying24 (show (Try.prog.info? 24).map (·.size) = some 256 from by kernel_rfl) BK218.out) (fun hHeld => ?_)
                                    clear hK K
                                    refine norm_ (a' := ?_) ?_ ?_
                                    rotate_left
                                    · show Act.put _ (some 54) _ = _
                                      simp only [Act.put, List.setIfInBounds_toArray, List.set_cons_zero, List.set_cons_succ, i64_w, i32_w]
                                      rfl
                                    refine one_ (i := 5) (N := some 57) #[true, true, true, true, true, true, false, false, false, false, false] rfl rfl (one_of HT_.out (by kernel_rfl)) (by decide) (fun K hK => ?_)
                                    refine goes_ Try.func20 (by kernel_rfl) rfl #[.slice Ao71 y223.length co71, .agg (tabC a0), .slice A1 l1.length c1] (by rfl) rfl rfl (by (try simp only [List.map_toArray, List.map_cons, List.map_nil]); first | done | rfl | (simp only [List.length_drop, List.length_take]; rfl)) ?_
                                    with_reducible refine (frame_Put.calls kj19 (fun k_ => some k_ = (.slice Ao71 y223.length co71 : Value).ownBlock) (.slice Ao71 y223.length co71) y223 a0 _ _ l1 t226 t229 w _ ?side1 ?side2 ?side3 ?side4 A23.out).mono ?_
                                    (case side1 => repeat (first | (with_reducible first | exact HB.out | apply below_alloc | apply pw_below_drewN | apply below_drew1 | refine below_set ?_ GE218.out) | exact HB.out))
                                    (case side2 => exact Kd.R_tight rfl HO225.out)
                                    (case side3 => exact Kd.C_kept_came (Kd.heap_int .u8) HR1.out (by repeat (first | (with_reducible first | exact HB.out | apply below_alloc | apply pw_below_drewN | apply below_drew1 | refine below_set ?_ GE218.out) | exact HB.out)) (fun k_ hs_ => (fun e_ => Kd.R_base HO225.out k_ e_.symm) hs_))
                                    (case side4 => exact HC1.out)
                                    rintro e w72 ⟨v227, rfl, ho0, hb, hkp⟩
                                    refine ⟨_, rfl, ?_⟩
                                    have n0_ := Aside0.mk (blk_kept (by (with_reducible repeat (first | refine blk_drewN ?_ _ | refine blk_drew ?_ | refine blk_alloc ?_ _)); exact BK218.out) hkp (fun hs_ => (fun e_ => (Kd.R_ne HO225.out BK218.out (by decide)) e_) hs_))
                                    have n1_ := Aside0.mk (Kd.R_mono (ok' := fun k_ => True) ho0 (fun k_ hk_ => trivial))
                                    have n2_ := Aside0.mk (hb)
                                    clear BK218
                                    clear HB
                                    clear HO225
                                    have BK218 := n0_
                                    have HO228 := n1_
                                    have HB := n2_
                                    clear n0_ n1_ n2_
                                    (try clear hb)
                                    (try clear hkp)
                                    (try clear ho0)
                                    refine hK.out _ _ (tab_loadAt Try.underlying24 (show (Try.prog.info? 24).map (·.size) = some 256 from by kernel_rfl) BK218.out) (fun hHeld => ?_)
                                    clear hK K
                                    refine norm_ (a' := ?_) ?_ ?_
                                    rotate_left
                                    · show Act.put _ (some 57) _ = _
                                      simp only [Act.put, List.setIfInBounds_toArray, List.set_cons_zero, List.set_cons_succ, i64_w, i32_w]
                                      rfl
                                    refine pure_ (i := 6) (N := some 51) (v := ?_) (a' := ?_) #[true, true, true, true, true, true, true, false, false, false, false] rfl rfl (any_of HT_.out (by kernel_rfl)) (fun _ _ _ h => h) (Or.inl ⟨by rfl, ?_⟩) ?_ ?_
                                    rotate_left
                                    · intro w'
                                      go_simp
                                      with_reducible rfl
                                    rotate_left
                                    · simp only [Act.put, List.setIfInBounds_toArray, List.set_cons_zero, List.set_cons_succ, i64_w, i32_w]
                                      rfl
                                    refine pure_ (i := 7) (N := some 58) (v := ?_) (a' := ?_) #[true, true, true, true, true, true, true, true, false, false, false] rfl rfl (any_of HT_.out (by kernel_rfl)) (fun _ _ _ h => h) (Or.inl ⟨by rfl, ?_⟩) ?_ ?_
                                    rotate_left
                                    · intro w'
                                      go_simp
                                      with_reducible rfl
                                    rotate_left
                                    · simp only [Act.put, List.setIfInBounds_toArray, List.set_cons_zero, List.set_cons_succ, i64_w, i32_w]
                                      rfl
                                    refine pure_ (i := 8) (N := some 59) (v := ?_) (a' := ?_) #[true, true, true, true, true, true, true, true, true, false, false] rfl rfl (any_of HT_.out (by kernel_rfl)) (fun _ _ _ h => h) (Or.inl ⟨by rfl, ?_⟩) ?_ ?_
                                    rotate_left
                                    · intro w'
                                      go_simp
                                      with_reducible rfl
                                    rotate_left
                                    · simp only [Act.put, List.setIfInBounds_toArray, List.set_cons_zero, List.set_cons_succ, i64_w, i32_w]
                                      rfl
                                    refine pure_ (i := 9) (N := some 12) (v := ?_) (a' := ?_) #[true, true, true, true, true, true, true, true, true, true, false] rfl rfl (any_of HT_.out (by kernel_rfl)) (fun _ _ _ h => h) (Or.inl ⟨by rfl, ?_⟩) ?_ ?_
                                    rotate_left
                                    · intro w'
                                      go_simp
                                      with_reducible rfl
                                    rotate_left
                                    · simp only [Act.put, List.setIfInBounds_toArray, List.set_cons_zero, List.set_cons_succ, i64_w, i32_w]
                                      rfl
                                    refine pure_ (i := 10) (N := some 13) (v := ?_) (a' := ?_) #[true, true, true, true, true, true, true, true, true, true, true] rfl rfl (any_of HT_.out (by kernel_rfl)) (fun _ _ _ h => h) (Or.inl ⟨by rfl, ?_⟩) ?_ ?_
                                    rotate_left
                                    · intro w'
                                      go_simp
                                      with_reducible rfl
                                    rotate_left
                                    · simp only [Act.put, List.setIfInBounds_toArray, List.set_cons_zero, List.set_cons_succ, i64_w, i32_w]
                                      rfl
                                    refine done_ (done_of HT_.out (by kernel_rfl)) ?_
                                    try go_wp2_with (first | ((with_reducible refine gate_callee (f := 21) rfl ?_); refine goesL_ (some 61) rfl rfl Try.func21 (by kernel_rfl) rfl #[.int .i64 a4] rfl (by (try simp only [List.map_toArray, List.map_cons, List.map_nil]); first | done | rfl | (simp only [List.length_drop, List.length_take]; rfl)) ?_; (with_reducible refine (frame_Size.calls a4 t230 _ A24.out).mono ?_); rintro e w' ⟨rfl, ⟨nd, rfl⟩⟩; refine ⟨_, rfl, ?_⟩) | ((with_reducible refine gate_dst (N := 74) rfl ?_); (try (refine gate_guard (by rfl) ?_; dsimp only)); refine wpList_load_row rfl 24 (.tmp 5) rfl gb218 rfl 24 (tabC a0) (0, 0) _ (by (with_reducible repeat (first | refine blk_drewN ?_ _ | refine blk_drew ?_ | refine blk_alloc ?_ _)); exact BK218.out) Try.underlying24 rfl (by rw [tabC_size]; kernel_rfl) ?_) | ((with_reducible refine gate_callee (f := 22) rfl ?_); refine goesL_ (some 76) rfl rfl Try.func22 (by kernel_rfl) rfl #[.agg (tabC a0), .slice A1 l1.length c1] rfl (by (try simp only [List.map_toArray, List.map_cons, List.map_nil]); first | done | rfl | (simp only [List.length_drop, List.length_take]; rfl)) ?_; (with_reducible refine (punnetref07_Frame.calls kj19 a0 _ _ l1 t231 _ ?side1 ?side2 A42.out).mono ?_); (case side1 => repeat (first | exact (Kd.C_below HR1.out (by repeat (first | (with_reducible first | exact HB.out | apply below_alloc | apply pw_below_drewN | apply below_drew1 | refine below_set ?_ GE218.out) | exact HB.out))) | (with_reducible refine Kd.C_alloc ?_ _) | (with_reducible refine Kd.C_drewN ?_ _) | (with_reducible refine Kd.C_drew ?_))); (case side2 => exact HC1.out); rintro e w73 ⟨v232, rfl, ho0, hb⟩; refine ⟨_, rfl, ?_⟩; have n0_ := Aside0.mk (Kd.R_elder' (by (with_reducible repeat (first | apply Kd.R_alloc | apply Kd.R_drewN | apply Kd.R_drew)); exact HO228.out) (Kd.R_base ho0) hb); have n1_ := Aside0.mk (Kd.R_lower (Kd.R_new' ho0 (Kd.R_lt (by (with_reducible repeat (first | apply Kd.R_alloc | apply Kd.R_drewN | apply Kd.R_drew)); exact HO228.out))) (below_size (by repeat (first | (with_reducible first | exact HB.out | apply below_alloc | apply pw_below_drewN | apply below_drew1 | refine below_set ?_ GE218.out) | exact HB.out)))); have n2_ := Aside0.mk (blk_below (g := gb218) (o := .cells (tabC a0) 24 (0, 0)) (by (with_reducible repeat (first | refine blk_drewN ?_ _ | refine blk_drew ?_ | refine blk_alloc ?_ _)); exact BK218.out) hb); have n3_ := Aside0.mk (below_step (by repeat (first | (with_reducible first | exact HB.out | apply below_alloc | apply pw_below_drewN | apply below_drew1 | refine below_set ?_ GE218.out) | exact HB.out)) hb); clear HO228; clear BK218; clear HB; have HO228 := n0_; have HO233 := n1_; have BK218 := n2_; have HB := n3_; clear n0_ n1_ n2_ n3_; (try clear hb); (try clear hb2); (try clear hk); (try clear hi); (try clear ho0); have hcv74 := own_string (P := Try.prog) Try.underlying25 Try.underlying5 Try.underlying9 (Kd.own_of_R HO228.out); have hcv75 := Kd.C_string (P := Try.prog) (A := A2) (c := c2) Try.underlying25 Try.underlying5 Try.underlying9 (Kd.C_below HR2.out HB.out); have hcv76 := own_string (P := Try.prog) Try.underlying25 Try.underlying5 Try.underlying9 (Kd.own_of_R HO233.out)))
                                    have n0_ := Aside0.mk (Kd.R_drew HO228.out)
                                    have n1_ := Aside0.mk (Kd.R_drew HO233.out)
                                    have n2_ := Aside0.mk (blk_drew BK218.out)
                                    have n3_ := Aside0.mk (below_drew1 HB.out)
                                    clear HO228
                                    clear HO233
                                    clear BK218
                                    clear HB
                                    have HO228 := n0_
                                    have HO233 := n1_
                                    have BK218 := n2_
                                    have HB := n3_
                                    clear n0_ n1_ n2_ n3_
                                    refine start_ (n := 14) (S := fun w' => (Instr.loadAt 24 (.pointer (some ⟨gb218, 0, none⟩))).run Try.prog w' = .ok (.agg (tabC a0)) w') (ds := []) #[false, false, false, false, false, false, false, false, false, false, false, false, false, false] (by kernel_rfl) rfl rfl (tab_loadAt Try.underlying24 (show (Try.prog.info? 24).map (·.size) = some 256 from by kernel_rfl) BK218.out) (fun hHeld => ?_); refine with_tabW punnetlaw07_FramePuts.tab16 punnetlaw07_FramePuts.bits16 (fun HT_ HW_ => ?_)
                                    generalize w73.drew = w77 at HO228 HO233 BK218 HB hHeld ⊢
                                    refine pure_ (i := 0) (N := some 90) (v := ?_) (a' := ?_) #[true, false, false, false, false, false, false, false, false, false, false, false, false, false] rfl rfl (any_of HT_.out (by kernel_rfl)) (fun _ _ _ h => h) (Or.inl ⟨by rfl, ?_⟩) ?_ ?_
                                    rotate_left
                                    · intro w'
                                      go_simp
                                      with_reducible rfl
                                    rotate_left
                                    · simp only [Act.put, List.setIfInBounds_toArray, List.set_cons_zero, List.set_cons_succ, i64_w, i32_w]
                                      rfl
                                    refine pure_ (i := 1) (N := some 91) (v := ?_) (a' := ?_) #[true, true, false, false, false, false, false, false, false, false, false, false, false, false] rfl rfl (any_of HT_.out (by kernel_rfl)) (fun _ _ _ h => h) (Or.inl ⟨by rfl, ?_⟩) ?_ ?_
                                    rotate_left
                                    · intro w'
                                      go_simp
                                      with_reducible rfl
                                    rotate_left
                                    · simp only [Act.put, List.setIfInBounds_toArray, List.set_cons_zero, List.set_cons_succ, i64_w, i32_w]
                                      rfl
                                    refine pure_ (i := 3) (N := some 93) (v := ?_) (a' := ?_) #[true, true, false, true, false, false, false, false, false, false, false, false, false, false] rfl rfl (any_of HT_.out (by kernel_rfl)) (fun _ _ _ h => h) (Or.inl ⟨by rfl, ?_⟩) ?_ ?_
                                    rotate_left
                                    · intro w'
                                      go_simp
                                      with_reducible rfl
                                    rotate_left
                                    · simp only [Act.put, List.setIfInBounds_toArray, List.set_cons_zero, List.set_cons_succ, i64_w, i32_w]
                                      rfl
                                    refine pure_ (i := 4) (N := some 94) (v := ?_) (a' := ?_) #[true, true, false, true, true, false, false, false, false, false, false, false, false, false] rfl rfl (any_of HT_.out (by kernel_rfl)) (fun _ _ _ h => h) (Or.inl ⟨by rfl, ?_⟩) ?_ ?_
                                    rotate_left
                                    · intro w'
                                      go_simp
                                      with_reducible rfl
                                    rotate_left
                                    · simp only [Act.put, List.setIfInBounds_toArray, List.set_cons_zero, List.set_cons_succ, i64_w, i32_w]
                                      rfl
                                    refine take_ (i := 5) (N := some 95) (v := ?_) (a' := ?_) #[true, true, false, true, true, true, false, false, false, false, false, false, false, false] rfl rfl (take_ofW HT_.out HW_.out (by kernel_rfl)) (fun _ _ _ h => h) (Or.inl ⟨by rfl, ?_⟩) hHeld ?_ ?_
                                    rotate_left
                                    · intro w' s0
                                      exact tab_exec rfl rfl (by assumption)
                                    rotate_left
                                    · simp only [Act.put, List.setIfInBounds_toArray, List.set_cons_zero, List.set_cons_succ, i64_w, i32_w]
                                      rfl
                                    refine one_ (i := 2) (N := some 92) #[true, true, true, true, true, true, false, false, false, false, false, false, false, false] rfl rfl (one_of HT_.out (by kernel_rfl)) (by decide) (fun K hK => ?_)
                                    refine Kd.R_append_rows_step (Kd.int .u8) (w0 := w) w.heap.size (by rfl) (.tmp 90) (.tmp 91) 25 5 (.int .u8 0) 1 rfl Try.underlying25 info5 rfl (by decide) (by omega) v227 t226 l3 _ _ _ (fun k_ => some k_ ≠ (v232 : Value).ownBlock) (fun _ => False) rfl rfl ?aO ?aR (fun _ _ h => h) (fun _ h => h.elim) ?aF ?aB ?aS ?aL ?_
                                    (case aR => repeat (first | exact (Kd.C_below HR3.out HB.out) | (with_reducible refine Kd.C_alloc ?_ _) | (with_reducible refine Kd.C_drewN ?_ _) | (with_reducible refine Kd.C_drew ?_)))
                                    (case aB => exact (by repeat (first | (with_reducible first | exact HB.out | apply below_alloc | apply pw_below_drewN | apply below_drew1 | refine below_set ?_ GE218.out) | exact HB.out)))
                                    (case aF => exact (fun k_ hk => Kd.fresh' (Kd.R_lt (by (with_reducible repeat (first | apply Kd.R_alloc | apply Kd.R_drewN | apply Kd.R_drew)); exact HO233.out)) k_ hk))
                                    (case aO => exact (by (with_reducible repeat (first | apply Kd.R_alloc | apply Kd.R_drewN | apply Kd.R_drew)); exact Kd.R_mono HO228.out (fun _ hk => hk.2)))
                                    (case aS => exact (below_size (by repeat (first | (with_reducible first | exact HB.out | apply below_alloc | apply pw_below_drewN | apply below_drew1 | refine below_set ?_ GE218.out) | exact HB.out))))
                                    (case aL => have := LMc46.out; omega)
                                    intro v235 w78 ho hb hg hat
                                    rw [← Ny234.out] at ho
                                    have n0_ := Aside0.mk (blk_grown (g := gb218) (o := .cells (tabC a0) 24 (0, 0)) (by (with_reducible repeat (first | refine blk_drewN ?_ _ | refine blk_drew ?_ | refine blk_alloc ?_ _)); exact BK218.out) hg (Kd.R_ne HO228.out BK218.out (by decide)))
                                    have n1_ := Aside0.mk (Kd.R_after (ok := (fun _ => True)) (by (with_reducible repeat (first | apply Kd.R_alloc | apply Kd.R_drewN | apply Kd.R_drew)); exact HO233.out) hg hat)
                                    have n2_ := Aside0.mk (hb)
                                    have n3_ := Aside0.mk (ho)
                                    clear BK218
                                    clear HO233
                                    clear HB
                                    clear HO228
                                    have BK218 := n0_
                                    have HO233 := n1_
                                    have HB := n2_
                                    have HO236 := n3_
                                    clear n0_ n1_ n2_ n3_
                                    clear ho hb hg hat
                                    obtain ⟨Ao79, co79, eo79⟩ := Kd.R_slice HO236.out
                                    (first | subst eo79 | (injection eo79 with f1_ f2_ f3_; have f4_ := f1_.symm; have f5_ := f3_.symm; clear f1_ f2_ f3_; subst f4_; subst f5_))
                                    refine hK.out _ _ (tab_loadAt Try.underlying24 (show (Try.prog.info? 24).map (·.size) = some 256 from by kernel_rfl) BK218.out) (fun hHeld => ?_)
                                    clear hK K
                                    refine norm_ (a' := ?_) ?_ ?_
                                    rotate_left
                                    · show Act.put _ (some 92) _ = _
                                      simp only [Act.put, List.setIfInBounds_toArray, List.set_cons_zero, List.set_cons_succ, i64_w, i32_w]
                                      rfl
                                    refine one_ (i := 6) (N := some 96) #[true, true, true, true, true, true, true, false, false, false, false, false, false, false] rfl rfl (one_of HT_.out (by kernel_rfl)) (by decide) (fun K hK => ?_)
                                    refine goes_ Try.func23 (by kernel_rfl) rfl #[.slice Ao79 y234.length co79, .int .i64 (l2.length : Int), .agg (tabC a0)] (by rfl) rfl rfl (by (try simp only [List.map_toArray, List.map_cons, List.map_nil]); first | done | rfl | (simp only [List.length_drop, List.length_take]; rfl)) ?_
                                    with_reducible refine (frame_Get.calls kj19 _ _ y234 (l2.length : Int) a0 t237 t238 t239 _ ?side1 ?side2 A47.out).mono ?_
                                    (case side1 => repeat (first | exact (Kd.R_reads' HO236.out).2.2 | (with_reducible refine Kd.C_alloc ?_ _) | (with_reducible refine Kd.C_drewN ?_ _) | (with_reducible refine Kd.C_drew ?_)))
                                    (case side2 => exact (Kd.R_reads' HO236.out).2.1)
                                    rintro e w80 ⟨v240, rfl, ho0, hb⟩
                                    refine ⟨_, rfl, ?_⟩
                                    have n0_ := Aside0.mk (Kd.R_elder' (by (with_reducible repeat (first | apply Kd.R_alloc | apply Kd.R_drewN | apply Kd.R_drew)); exact HO233.out) (Kd.R_base ho0) hb)
                                    have n1_ := Aside0.mk (Kd.R_elder' (by (with_reducible repeat (first | apply Kd.R_alloc | apply Kd.R_drewN | apply Kd.R_drew)); exact HO236.out) (Kd.R_base ho0) hb)
                                    have n2_ := Aside0.mk (Kd.R_lower (Kd.R_new' (Kd.R_new' ho0 (Kd.R_lt (by (with_reducible repeat (first | apply Kd.R_alloc | apply Kd.R_drewN | apply Kd.R_drew)); exact HO233.out))) (Kd.R_lt (by (with_reducible repeat (first | apply Kd.R_alloc | apply Kd.R_drewN | apply Kd.R_drew)); exact HO236.out))) (below_size (by repeat (first | (with_reducible first | exact HB.out | apply below_alloc | apply pw_below_drewN | apply below_drew1 | refine below_set ?_ GE218.out) | exact HB.out))))
                                    have n3_ := Aside0.mk (blk_below (g := gb218) (o := .cells (tabC a0) 24 (0, 0)) (by (with_reducible repeat (first | refine blk_drewN ?_ _ | refine blk_drew ?_ | refine blk_alloc ?_ _)); exact BK218.out) hb)
                                    have n4_ := Aside0.mk (below_step (by repeat (first | (with_reducible first | exact HB.out | apply below_alloc | apply pw_below_drewN | apply below_drew1 | refine below_set ?_ GE218.out) | exact HB.out)) hb)
                                    clear HO233
                                    clear HO236
                                    clear BK218
                                    clear HB
                                    have HO233 := n0_
                                    have HO236 := n1_
                                    have HO241 := n2_
                                    have BK218 := n3_
                                    have HB := n4_
                                    clear n0_ n1_ n2_ n3_ n4_
                                    (try clear hb)
                                    (try clear hb2)
                                    (try clear hk)
                                    (try clear hi)
                                    (try clear ho0)
                                    refine hK.out _ _ (tab_loadAt Try.underlying24 (show (Try.prog.info? 24).map (·.size) = some 256 from by kernel_rfl) BK218.out) (fun hHeld => ?_)
                                    clear hK K
                                    refine norm_ (a' := ?_) ?_ ?_
                                    rotate_left
                                    · show Act.put _ (some 96) _ = _
                                      simp only [Act.put, List.setIfInBounds_toArray, List.set_cons_zero, List.set_cons_succ, i64_w, i32_w]
                                      rfl
                                    refine pure_ (i := 7) (N := some 89) (v := ?_) (a' := ?_) #[true, true, true, true, true, true, true, true, false, false, false, false, false, false] rfl rfl (any_of HT_.out (by kernel_rfl)) (fun _ _ _ h => h) (Or.inl ⟨by rfl, ?_⟩) ?_ ?_
                                    rotate_left
                                    · intro w'
                                      go_simp
                                      with_reducible rfl
                                    rotate_left
                                    · simp only [Act.put, List.setIfInBounds_toArray, List.set_cons_zero, List.set_cons_succ, i64_w, i32_w]
                                      rfl
                                    refine pure_ (i := 8) (N := some 97) (v := ?_) (a' := ?_) #[true, true, true, true, true, true, true, true, true, false, false, false, false, false] rfl rfl (any_of HT_.out (by kernel_rfl)) (fun _ _ _ h => h) (Or.inl ⟨by rfl, ?_⟩) ?_ ?_
                                    rotate_left
                                    · intro w'
                                      go_simp
                                      with_reducible rfl
                                    rotate_left
                                    · simp only [Act.put, List.setIfInBounds_toArray, List.set_cons_zero, List.set_cons_succ, i64_w, i32_w]
                                      rfl
                                    refine pure_ (i := 9) (N := some 98) (v := ?_) (a' := ?_) #[true, true, true, true, true, true, true, true, true, true, false, false, false, false] rfl rfl (any_of HT_.out (by kernel_rfl)) (fun _ _ _ h => h) (Or.inl ⟨by rfl, ?_⟩) ?_ ?_
                                    rotate_left
                                    · intro w'
                                      go_simp
                                      with_reducible rfl
                                    rotate_left
                                    · simp only [Act.put, List.setIfInBounds_toArray, List.set_cons_zero, List.set_cons_succ, i64_w, i32_w]
                                      rfl
                                    refine pure_ (i := 10) (N := some 99) (v := ?_) (a' := ?_) #[true, true, true, true, true, true, true, true, true, true, true, false, false, false] rfl rfl (any_of HT_.out (by kernel_rfl)) (fun _ _ _ h => h) (Or.inl ⟨by rfl, ?_⟩) ?_ ?_
                                    rotate_left
                                    · intro w'
                                      go_simp
                                      with_reducible rfl
                                    rotate_left
                                    · simp only [Act.put, List.setIfInBounds_toArray, List.set_cons_zero, List.set_cons_succ, i64_w, i32_w]
                                      rfl
                                    refine pure_ (i := 11) (N := some 15) (v := ?_) (a' := ?_) #[true, true, true, true, true, true, true, true, true, true, true, true, false, false] rfl rfl (any_of HT_.out (by kernel_rfl)) (fun _ _ _ h => h) (Or.inl ⟨by rfl, ?_⟩) ?_ ?_
                                    rotate_left
                                    · intro w'
                                      go_simp
                                      with_reducible rfl
                                    rotate_left
                                    · simp only [Act.put, List.setIfInBounds_toArray, List.set_cons_zero, List.set_cons_succ, i64_w, i32_w]
                                      rfl
                                    refine pure_ (i := 12) (N := some 16) (v := ?_) (a' := ?_) #[true, true, true, true, true, true, true, true, true, true, true, true, true, false] rfl rfl (any_of HT_.out (by kernel_rfl)) (fun _ _ _ h => h) (Or.inl ⟨by rfl, ?_⟩) ?_ ?_
                                    rotate_left
                                    · intro w'
                                      go_simp
                                      with_reducible rfl
                                    rotate_left
                                    · simp only [Act.put, List.setIfInBounds_toArray, List.set_cons_zero, List.set_cons_succ, i64_w, i32_w]
                                      rfl
                                    refine pure_ (i := 13) (N := some 17) (v := ?_) (a' := ?_) #[true, true, true, true, true, true, true, true, true, true, true, true, true, true] rfl rfl (any_of HT_.out (by kernel_rfl)) (fun _ _ _ h => h) (Or.inl ⟨by rfl, ?_⟩) ?_ ?_
                                    rotate_left
                                    · intro w'
                                      go_simp
                                      with_reducible rfl
                                    rotate_left
                                    · simp only [Act.put, List.setIfInBounds_toArray, List.set_cons_zero, List.set_cons_succ, i64_w, i32_w]
                                      rfl
                                    refine done_ (done_of HT_.out (by kernel_rfl)) ?_
                                    have hcv81 := own_string (P := Try.prog) Try.underlying25 Try.underlying5 Try.underlying9 (Kd.own_of_R HO241.out)
                                    have hcv82 := Kd.C_string (P := Try.prog) (A := A1) (c := c1) Try.underlying25 Try.underlying5 Try.underlying9 (Kd.C_below HR1.out HB.out)
                                    obtain ⟨Ao83, co83, eo83⟩ := Kd.R_slice HO233.out
                                    subst eo83
                                    try go_wp2
                                    go_ret
                                    exact ⟨by first | rfl | (simp [errW_none, errW_some] <;> rfl) | (simp [*, errW_none, errW_some] <;> rfl), by repeat (first | (with_reducible first | exact HB.out | apply below_alloc | apply pw_below_drewN | apply below_drew1 | refine below_set ?_ GE218.out) | exact HB.out)⟩
                                · rw [if_neg c48] at H
                                  have c48b0 : ((strOfNums t237).toList == (strOfNums l1).toList) = false := beq_eq_false_iff_ne.mpr c48
                                  have c48b1 : ((strOfNums t237).toList != (strOfNums l1).toList) = true := bne_iff_ne.mpr c48
                                  obtain rfl := Option.some.inj H
                                  try go_wp2
                                  have n0_ := Aside0.mk (blk_drew BK218.out)
                                  have n1_ := Aside0.mk (below_drew1 HB.out)
                                  clear BK218
                                  clear HB
                                  have BK218 := n0_
                                  have HB := n1_
                                  clear n0_ n1_
                                  refine start_ (n := 11) (S := fun w' => (Instr.loadAt 24 (.pointer (some ⟨gb218, 0, none⟩))).run Try.prog w' = .ok (.agg (tabC a0)) w') (ds := []) #[false, false, false, false, false, false, false, false, false, false, false] (by kernel_rfl) rfl rfl (tab_loadAt Try.underlying24 (show (Try.prog.info? 24).map (·.size) = some 256 from by kernel_rfl) BK218.out) (fun hHeld => ?_); refine with_tabW punnetlaw07_FramePuts.tab8 punnetlaw07_FramePuts.bits8 (fun HT_ HW_ => ?_)
                                  generalize wc.drew = w84 at BK218 HB hHeld ⊢
                                  refine pure_ (i := 1) (N := some 53) (v := ?_) (a' := ?_) #[false, true, false, false, false, false, false, false, false, false, false] rfl rfl (any_of HT_.out (by kernel_rfl)) (fun _ _ _ h => h) (Or.inl ⟨by rfl, ?_⟩) ?_ ?_
                                  rotate_left
                                  · intro w'
                                    go_simp
                                    with_reducible rfl
                                  rotate_left
                                  · simp only [Act.put, List.setIfInBounds_toArray, List.set_cons_zero, List.set_cons_succ, i64_w, i32_w]
                                    rfl
                                  refine pure_ (i := 4) (N := some 56) (v := ?_) (a' := ?_) #[false, true, false, false, true, false, false, false, false, false, false] rfl rfl (any_of HT_.out (by kernel_rfl)) (fun _ _ _ h => h) (Or.inl ⟨by rfl, ?_⟩) ?_ ?_
                                  rotate_left
                                  · intro w'
                                    go_simp
                                    with_reducible rfl
                                  rotate_left
                                  · simp only [Act.put, List.setIfInBounds_toArray, List.set_cons_zero, List.set_cons_succ, i64_w, i32_w]
                                    rfl
                                  refine take_ (i := 3) (N := some 55) (v := ?_) (a' := ?_) #[false, true, false, true, true, false, false, false, false, false, false] rfl rfl (take_ofW HT_.out HW_.out (by kernel_rfl)) (fun _ _ _ h => h) (Or.inl ⟨by rfl, ?_⟩) hHeld ?_ ?_
                                  rotate_left
                                  · intro w' s0
                                    exact tab_exec rfl rfl (by assumption)
                                  rotate_left
                                  · simp only [Act.put, List.setIfInBounds_toArray, List.set_cons_zero, List.set_cons_succ, i64_w, i32_w]
                                    rfl
                                  refine one_ (i := 0) (N := some 52) #[true, true, false, true, true, false, false, false, false, false, false] rfl rfl (one_of HT_.out (by kernel_rfl)) (by decide) (fun K hK => ?_)
                                  refine Kd.R_lit_step (Kd.int .u8) _ 5 ?hg (N := 52) ?hd (xs := ([] : List Int)) (inner := []) (ok := fun _ => True) (okp := fun _ => True) ?hr ?hp (fun _ hk => hk) trivial (Below.refl _ _) (Nat.le_refl _) (by simp) ?_; (case hd => rfl); (case hg => rfl); (case hr => first | (go_simp; done) | (go_simp; rfl)); (case hp => exact (Reps.none _ _))
                                  intro v221 w85 ho86 hb hg_ hnew_
                                  clear hg_ hnew_
                                  (first | rw [← Ny220.out] at ho86 | (simp only [Int.reduceToNat] at ho86; rw [← Ny220.out] at ho86))
                                  have n0_ := Aside0.mk (Kd.R_lower ho86 (below_size (by repeat (first | (with_reducible first | exact HB.out | apply below_alloc | apply pw_below_drewN | apply below_drew1 | refine below_set ?_ GE218.out) | exact HB.out))))
                                  have n1_ := Aside0.mk (blk_below (g := gb218) (o := .cells (tabC a0) 24 (0, 0)) (by (with_reducible repeat (first | refine blk_drewN ?_ _ | refine blk_drew ?_ | refine blk_alloc ?_ _)); exact BK218.out) hb)
                                  have n2_ := Aside0.mk (below_step (by repeat (first | (with_reducible first | exact HB.out | apply below_alloc | apply pw_below_drewN | apply below_drew1 | refine below_set ?_ GE218.out) | exact HB.out)) hb)
                                  clear BK218
                                  clear HB
                                  have HO222 := n0_
                                  have BK218 := n1_
                                  have HB := n2_
                                  clear n0_ n1_ n2_
                                  clear hb ho86
                                  refine hK.out _ _ (tab_loadAt Try.underlying24 (show (Try.prog.info? 24).map (·.size) = some 256 from by kernel_rfl) BK218.out) (fun hHeld => ?_)
                                  clear hK K
                                  refine norm_ (a' := ?_) ?_ ?_
                                  rotate_left
                                  · show Act.put _ (some 52) _ = _
                                    simp only [Act.put, List.setIfInBounds_toArray, List.set_cons_zero, List.set_cons_succ, i64_w, i32_w]
                                    rfl
                                  refine one_ (i := 2) (N := some 54) #[true, true, true, true, true, false, false, false, false, false, false] rfl rfl (one_of HT_.out (by kernel_rfl)) (by decide) (fun K hK => ?_)
                                  refine Kd.R_append_rows_step (Kd.int .u8) (w0 := w) w.heap.size (by rfl) (.tmp 52) (.tmp 53) 25 5 (.int .u8 0) 1 rfl Try.underlying25 info5 rfl (by decide) (by omega) v221 y220 l2 _ _ _ (fun _ => True) (fun _ => False) rfl rfl ?aO ?aR (fun _ _ h => h) (fun _ h => h.elim) ?aF ?aB ?aS ?aL ?_
                                  (case aR => repeat (first | exact (Kd.C_below HR2.out HB.out) | (with_reducible refine Kd.C_alloc ?_ _) | (with_reducible refine Kd.C_drewN ?_ _) | (with_reducible refine Kd.C_drew ?_)))
                                  (case aB => exact (by repeat (first | (with_reducible first | exact HB.out | apply below_alloc | apply pw_below_drewN | apply below_drew1 | refine below_set ?_ GE218.out) | exact HB.out)))
                                  (case aF => exact (fun _ _ => trivial))
                                  (case aO => exact (by (with_reducible repeat (first | apply Kd.R_alloc | apply Kd.R_drewN | apply Kd.R_drew)); exact HO222.out))
                                  (case aS => exact (below_size (by repeat (first | (with_reducible first | exact HB.out | apply below_alloc | apply pw_below_drewN | apply below_drew1 | refine below_set ?_ GE218.out) | exact HB.out))))
                                  (case aL => have := LMc22.out; omega)
                                  intro v224 w87 ho hb hg hat
                                  rw [← Ny223.out] at ho
                                  have n0_ := Aside0.mk (blk_grown (g := gb218) (o := .cells (tabC a0) 24 (0, 0)) (by (with_reducible repeat (first | refine blk_drewN ?_ _ | refine blk_drew ?_ | refine blk_alloc ?_ _)); exact BK218.out) hg (Kd.R_ne HO222.out BK218.out (by decide)))
                                  have n1_ := Aside0.mk (hb)
                                  have n2_ := Aside0.mk (ho)
                                  clear BK218
                                  clear HB
                                  clear HO222
                                  have BK218 := n0_
                                  have HB := n1_
                                  have HO225 := n2_
                                  clear n0_ n1_ n2_
                                  clear ho hb hg hat
                                  obtain ⟨Ao88, co88, eo88⟩ := Kd.R_slice HO225.out
                                  (first | subst eo88 | (injection eo88 with f1_ f2_ f3_; have f4_ := f1_.symm; have f5_ := f3_.symm; clear f1_ f2_ f3_; subst f4_; subst f5_))
                                  refine hK.out _ _ (tab_loadAt Try.underlying24 (show (Try.prog.info? 24).map (·.size) = some 256 from by kernel_rfl) BK218.out) (fun hHeld => ?_)
                                  clear hK K
                                  refine norm_ (a' := ?_) ?_ ?_
                                  rotate_left
                                  · show Act.put _ (some 54) _ = _
                                    simp only [Act.put, List.setIfInBounds_toArray, List.set_cons_zero, List.set_cons_succ, i64_w, i32_w]
                                    rfl
                                  refine one_ (i := 5) (N := some 57) #[true, true, true, true, true, true, false, false, false, false, false] rfl rfl (one_of HT_.out (by kernel_rfl)) (by decide) (fun K hK => ?_)
                                  refine goes_ Try.func20 (by kernel_rfl) rfl #[.slice Ao88 y223.length co88, .agg (tabC a0), .slice A1 l1.length c1] (by rfl) rfl rfl (by (try simp only [List.map_toArray, List.map_cons, List.map_nil]); first | done | rfl | (simp only [List.length_drop, List.length_take]; rfl)) ?_
                                  with_reducible refine (frame_Put.calls kj19 (fun k_ => some k_ = (.slice Ao88 y223.length co88 : Value).ownBlock) (.slice Ao88 y223.length co88) y223 a0 _ _ l1 t226 t229 w _ ?side1 ?side2 ?side3 ?side4 A23.out).mono ?_
                                  (case side1 => repeat (first | (with_reducible first | exact HB.out | apply below_alloc | apply pw_below_drewN | apply below_drew1 | refine below_set ?_ GE218.out) | exact HB.out))
                                  (case side2 => exact Kd.R_tight rfl HO225.out)
                                  (case side3 => exact Kd.C_kept_came (Kd.heap_int .u8) HR1.out (by repeat (first | (with_reducible first | exact HB.out | apply below_alloc | apply pw_below_drewN | apply below_drew1 | refine below_set ?_ GE218.out) | exact HB.out)) (fun k_ hs_ => (fun e_ => Kd.R_base HO225.out k_ e_.symm) hs_))
                                  (case side4 => exact HC1.out)
                                  rintro e w89 ⟨v227, rfl, ho0, hb, hkp⟩
                                  refine ⟨_, rfl, ?_⟩
                                  have n0_ := Aside0.mk (blk_kept (by (with_reducible repeat (first | refine blk_drewN ?_ _ | refine blk_drew ?_ | refine blk_alloc ?_ _)); exact BK218.out) hkp (fun hs_ => (fun e_ => (Kd.R_ne HO225.out BK218.out (by decide)) e_) hs_))
                                  have n1_ := Aside0.mk (Kd.R_mono (ok' := fun k_ => True) ho0 (fun k_ hk_ => trivial))
                                  have n2_ := Aside0.mk (hb)
                                  clear BK218
                                  clear HB
                                  clear HO225
                                  have BK218 := n0_
                                  have HO228 := n1_
                                  have HB := n2_
                                  clear n0_ n1_ n2_
                                  (try clear hb)
                                  (try clear hkp)
                                  (try clear ho0)
                                  refine hK.out _ _ (tab_loadAt Try.underlying24 (show (Try.prog.info? 24).map (·.size) = some 256 from by kernel_rfl) BK218.out) (fun hHeld => ?_)
                                  clear hK K
                                  refine norm_ (a' := ?_) ?_ ?_
                                  rotate_left
                                  · show Act.put _ (some 57) _ = _
                                    simp only [Act.put, List.setIfInBounds_toArray, List.set_cons_zero, List.set_cons_succ, i64_w, i32_w]
                                    rfl
                                  refine pure_ (i := 6) (N := some 51) (v := ?_) (a' := ?_) #[true, true, true, true, true, true, true, false, false, false, false] rfl rfl (any_of HT_.out (by kernel_rfl)) (fun _ _ _ h => h) (Or.inl ⟨by rfl, ?_⟩) ?_ ?_
                                  rotate_left
                                  · intro w'
                                    go_simp
                                    with_reducible rfl
                                  rotate_left
                                  · simp only [Act.put, List.setIfInBounds_toArray, List.set_cons_zero, List.set_cons_succ, i64_w, i32_w]
                                    rfl
                                  refine pure_ (i := 7) (N := some 58) (v := ?_) (a' := ?_) #[true, true, true, true, true, true, true, true, false, false, false] rfl rfl (any_of HT_.out (by kernel_rfl)) (fun _ _ _ h => h) (Or.inl ⟨by rfl, ?_⟩) ?_ ?_
                                  rotate_left
                                  · intro w'
                                    go_simp
                                    with_reducible rfl
                                  rotate_left
                                  · simp only [Act.put, List.setIfInBounds_toArray, List.set_cons_zero, List.set_cons_succ, i64_w, i32_w]
                                    rfl
                                  refine pure_ (i := 8) (N := some 59) (v := ?_) (a' := ?_) #[true, true, true, true, true, true, true, true, true, false, false] rfl rfl (any_of HT_.out (by kernel_rfl)) (fun _ _ _ h => h) (Or.inl ⟨by rfl, ?_⟩) ?_ ?_
                                  rotate_left
                                  · intro w'
                                    go_simp
                                    with_reducible rfl
                                  rotate_left
                                  · simp only [Act.put, List.setIfInBounds_toArray, List.set_cons_zero, List.set_cons_succ, i64_w, i32_w]
                                    rfl
                                  refine pure_ (i := 9) (N := some 12) (v := ?_) (a' := ?_) #[true, true, true, true, true, true, true, true, true, true, false] rfl rfl (any_of HT_.out (by kernel_rfl)) (fun _ _ _ h => h) (Or.inl ⟨by rfl, ?_⟩) ?_ ?_
                                  rotate_left
                                  · intro w'
                                    go_simp
                                    with_reducible rfl
                                  rotate_left
                                  · simp only [Act.put, List.setIfInBounds_toArray, List.set_cons_zero, List.set_cons_succ, i64_w, i32_w]
                                    rfl
                                  refine pure_ (i := 10) (N := some 13) (v := ?_) (a' := ?_) #[true, true, true, true, true, true, true, true, true, true, true] rfl rfl (any_of HT_.out (by kernel_rfl)) (fun _ _ _ h => h) (Or.inl ⟨by rfl, ?_⟩) ?_ ?_
                                  rotate_left
                                  · intro w'
                                    go_simp
                                    with_reducible rfl
                                  rotate_left
                                  · simp only [Act.put, List.setIfInBounds_toArray, List.set_cons_zero, List.set_cons_succ, i64_w, i32_w]
                                    rfl
                                  refine done_ (done_of HT_.out (by kernel_rfl)) ?_
                                  try go_wp2_with (first | ((with_reducible refine gate_callee (f := 21) rfl ?_); refine goesL_ (some 61) rfl rfl Try.func21 (by kernel_rfl) rfl #[.int .i64 a4] rfl (by (try simp only [List.map_toArray, List.map_cons, List.map_nil]); first | done | rfl | (simp only [List.length_drop, List.length_take]; rfl)) ?_; (with_reducible refine (frame_Size.calls a4 t230 _ A24.out).mono ?_); rintro e w' ⟨rfl, ⟨nd, rfl⟩⟩; refine ⟨_, rfl, ?_⟩) | ((with_reducible refine gate_dst (N := 74) rfl ?_); (try (refine gate_guard (by rfl) ?_; dsimp only)); refine wpList_load_row rfl 24 (.tmp 5) rfl gb218 rfl 24 (tabC a0) (0, 0) _ (by (with_reducible repeat (first | refine blk_drewN ?_ _ | refine blk_drew ?_ | refine blk_alloc ?_ _)); exact BK218.out) Try.underlying24 rfl (by rw [tabC_size]; kernel_rfl) ?_) | ((with_reducible refine gate_callee (f := 22) rfl ?_); refine goesL_ (some 76) rfl rfl Try.func22 (by kernel_rfl) rfl #[.agg (tabC a0), .slice A1 l1.length c1] rfl (by (try simp only [List.map_toArray, List.map_cons, List.map_nil]); first | done | rfl | (simp only [List.length_drop, List.length_take]; rfl)) ?_; (with_reducible refine (punnetref07_Frame.calls kj19 a0 _ _ l1 t231 _ ?side1 ?side2 A42.out).mono ?_); (case side1 => repeat (first | exact (Kd.C_below HR1.out (by repeat (first | (with_reducible first | exact HB.out | apply below_alloc | apply pw_below_drewN | apply below_drew1 | refine below_set ?_ GE218.out) | exact HB.out))) | (with_reducible refine Kd.C_alloc ?_ _) | (with_reducible refine Kd.C_drewN ?_ _) | (with_reducible refine Kd.C_drew ?_))); (case side2 => exact HC1.out); rintro e w90 ⟨v232, rfl, ho0, hb⟩; refine ⟨_, rfl, ?_⟩; have n0_ := Aside0.mk (Kd.R_elder' (by (with_reducible repeat (first | apply Kd.R_alloc | apply Kd.R_drewN | apply Kd.R_drew)); exact HO228.out) (Kd.R_base ho0) hb); have n1_ := Aside0.mk (Kd.R_lower (Kd.R_new' ho0 (Kd.R_lt (by (with_reducible repeat (first | apply Kd.R_alloc | apply Kd.R_drewN | apply Kd.R_drew)); exact HO228.out))) (below_size (by repeat (first | (with_reducible first | exact HB.out | apply below_alloc | apply pw_below_drewN | apply below_drew1 | refine below_set ?_ GE218.out) | exact HB.out)))); have n2_ := Aside0.mk (blk_below (g := gb218) (o := .cells (tabC a0) 24 (0, 0)) (by (with_reducible repeat (first | refine blk_drewN ?_ _ | refine blk_drew ?_ | refine blk_alloc ?_ _)); exact BK218.out) hb); have n3_ := Aside0.mk (below_step (by repeat (first | (with_reducible first | exact HB.out | apply below_alloc | apply pw_below_drewN | apply below_drew1 | refine below_set ?_ GE218.out) | exact HB.out)) hb); clear HO228; clear BK218; clear HB; have HO228 := n0_; have HO233 := n1_; have BK218 := n2_; have HB := n3_; clear n0_ n1_ n2_ n3_; (try clear hb); (try clear hb2); (try clear hk); (try clear hi); (try clear ho0); have hcv91 := own_string (P := Try.prog) Try.underlying25 Try.underlying5 Try.underlying9 (Kd.own_of_R HO228.out); have hcv92 := Kd.C_string (P := Try.prog) (A := A2) (c := c2) Try.underlying25 Try.underlying5 Try.underlying9 (Kd.C_below HR2.out HB.out); have hcv93 := own_string (P := Try.prog) Try.underlying25 Try.underlying5 Try.underlying9 (Kd.own_of_R HO233.out)))
                                  have n0_ := Aside0.mk (Kd.R_drew HO228.out)
                                  have n1_ := Aside0.mk (Kd.R_drew HO233.out)
                                  have n2_ := Aside0.mk (blk_drew BK218.out)
                                  have n3_ := Aside0.mk (below_drew1 HB.out)
                                  clear HO228
                                  clear HO233
                                  clear BK218
                                  clear HB
                                  have HO228 := n0_
                                  have HO233 := n1_
                                  have BK218 := n2_
                                  have HB := n3_
                                  clear n0_ n1_ n2_ n3_
                                  refine start_ (n := 14) (S := fun w' => (Instr.loadAt 24 (.pointer (some ⟨gb218, 0, none⟩))).run Try.prog w' = .ok (.agg (tabC a0)) w') (ds := []) #[false, false, false, false, false, false, false, false, false, false, false, false, false, false] (by kernel_rfl) rfl rfl (tab_loadAt Try.underlying24 (show (Try.prog.info? 24).map (·.size) = some 256 from by kernel_rfl) BK218.out) (fun hHeld => ?_); refine with_tabW punnetlaw07_FramePuts.tab16 punnetlaw07_FramePuts.bits16 (fun HT_ HW_ => ?_)
                                  generalize w90.drew = w94 at HO228 HO233 BK218 HB hHeld ⊢
                                  refine pure_ (i := 0) (N := some 90) (v := ?_) (a' := ?_) #[true, false, false, false, false, false, false, false, false, false, false, false, false, false] rfl rfl (any_of HT_.out (by kernel_rfl)) (fun _ _ _ h => h) (Or.inl ⟨by rfl, ?_⟩) ?_ ?_
                                  rotate_left
                                  · intro w'
                                    go_simp
                                    with_reducible rfl
                                  rotate_left
                                  · simp only [Act.put, List.setIfInBounds_toArray, List.set_cons_zero, List.set_cons_succ, i64_w, i32_w]
                                    rfl
                                  refine pure_ (i := 1) (N := some 91) (v := ?_) (a' := ?_) #[true, true, false, false, false, false, false, false, false, false, false, false, false, false] rfl rfl (any_of HT_.out (by kernel_rfl)) (fun _ _ _ h => h) (Or.inl ⟨by rfl, ?_⟩) ?_ ?_
                                  rotate_left
                                  · intro w'
                                    go_simp
                                    with_reducible rfl
                                  rotate_left
                                  · simp only [Act.put, List.setIfInBounds_toArray, List.set_cons_zero, List.set_cons_succ, i64_w, i32_w]
                                    rfl
                                  refine pure_ (i := 3) (N := some 93) (v := ?_) (a' := ?_) #[true, true, false, true, false, false, false, false, false, false, false, false, false, false] rfl rfl (any_of HT_.out (by kernel_rfl)) (fun _ _ _ h => h) (Or.inl ⟨by rfl, ?_⟩) ?_ ?_
                                  rotate_left
                                  · intro w'
                                    go_simp
                                    with_reducible rfl
                                  rotate_left
                                  · simp only [Act.put, List.setIfInBounds_toArray, List.set_cons_zero, List.set_cons_succ, i64_w, i32_w]
                                    rfl
                                  refine pure_ (i := 4) (N := some 94) (v := ?_) (a' := ?_) #[true, true, false, true, true, false, false, false, false, false, false, false, false, false] rfl rfl (any_of HT_.out (by kernel_rfl)) (fun _ _ _ h => h) (Or.inl ⟨by rfl, ?_⟩) ?_ ?_
                                  rotate_left
                                  · intro w'
                                    go_simp
                                    with_reducible rfl
                                  rotate_left
                                  · simp only [Act.put, List.setIfInBounds_toArray, List.set_cons_zero, List.set_cons_succ, i64_w, i32_w]
                                    rfl
                                  refine take_ (i := 5) (N := some 95) (v := ?_) (a' := ?_) #[true, true, false, true, true, true, false, false, false, false, false, false, false, false] rfl rfl (take_ofW HT_.out HW_.out (by kernel_rfl)) (fun _ _ _ h => h) (Or.inl ⟨by rfl, ?_⟩) hHeld ?_ ?_
                                  rotate_left
                                  · intro w' s0
                                    exact tab_exec rfl rfl (by assumption)
                                  rotate_left
                                  · simp only [Act.put, List.setIfInBounds_toArray, List.set_cons_zero, List.set_cons_succ, i64_w, i32_w]
                                    rfl
                                  refine one_ (i := 2) (N := some 92) #[true, true, true, true, true, true, false, false, false, false, false, false, false, false] rfl rfl (one_of HT_.out (by kernel_rfl)) (by decide) (fun K hK => ?_)
                                  refine Kd.R_append_rows_step (Kd.int .u8) (w0 := w) w.heap.size (by rfl) (.tmp 90) (.tmp 91) 25 5 (.int .u8 0) 1 rfl Try.underlying25 info5 rfl (by decide) (by omega) v227 t226 l3 _ _ _ (fun k_ => some k_ ≠ (v232 : Value).ownBlock) (fun _ => False) rfl rfl ?aO ?aR (fun _ _ h => h) (fun _ h => h.elim) ?aF ?aB ?aS ?aL ?_
                                  (case aR => repeat (first | exact (Kd.C_below HR3.out HB.out) | (with_reducible refine Kd.C_alloc ?_ _) | (with_reducible refine Kd.C_drewN ?_ _) | (with_reducible refine Kd.C_drew ?_)))
                                  (case aB => exact (by repeat (first | (with_reducible first | exact HB.out | apply below_alloc | apply pw_below_drewN | apply below_drew1 | refine below_set ?_ GE218.out) | exact HB.out)))
                                  (case aF => exact (fun k_ hk => Kd.fresh' (Kd.R_lt (by (with_reducible repeat (first | apply Kd.R_alloc | apply Kd.R_drewN | apply Kd.R_drew)); exact HO233.out)) k_ hk))
                                  (case aO => exact (by (with_reducible repeat (first | apply Kd.R_alloc | apply Kd.R_drewN | apply Kd.R_drew)); exact Kd.R_mono HO228.out (fun _ hk => hk.2)))
                                  (case aS => exact (below_size (by repeat (first | (with_reducible first | exact HB.out | apply below_alloc | apply pw_below_drewN | apply below_drew1 | refine below_set ?_ GE218.out) | exact HB.out))))
                                  (case aL => have := LMc46.out; omega)
                                  intro v235 w95 ho hb hg hat
                                  rw [← Ny234.out] at ho
                                  have n0_ := Aside0.mk (blk_grown (g := gb218) (o := .cells (tabC a0) 24 (0, 0)) (by (with_reducible repeat (first | refine blk_drewN ?_ _ | refine blk_drew ?_ | refine blk_alloc ?_ _)); exact BK218.out) hg (Kd.R_ne HO228.out BK218.out (by decide)))
                                  have n1_ := Aside0.mk (Kd.R_after (ok := (fun _ => True)) (by (with_reducible repeat (first | apply Kd.R_alloc | apply Kd.R_drewN | apply Kd.R_drew)); exact HO233.out) hg hat)
                                  have n2_ := Aside0.mk (hb)
                                  have n3_ := Aside0.mk (ho)
                                  clear BK218
                                  clear HO233
                                  clear HB
                                  clear HO228
                                  have BK218 := n0_
                                  have HO233 := n1_
                                  have HB := n2_
                                  have HO236 := n3_
                                  clear n0_ n1_ n2_ n3_
                                  clear ho hb hg hat
                                  obtain ⟨Ao96, co96, eo96⟩ := Kd.R_slice HO236.out
                                  (first | subst eo96 | (injection eo96 with f1_ f2_ f3_; have f4_ := f1_.symm; have f5_ := f3_.symm; clear f1_ f2_ f3_; subst f4_; subst f5_))
                                  refine hK.out _ _ (tab_loadAt Try.underlying24 (show (Try.prog.info? 24).map (·.size) = some 256 from by kernel_rfl) BK218.out) (fun hHeld => ?_)
                                  clear hK K
                                  refine norm_ (a' := ?_) ?_ ?_
                                  rotate_left
                                  · show Act.put _ (some 92) _ = _
                                    simp only [Act.put, List.setIfInBounds_toArray, List.set_cons_zero, List.set_cons_succ, i64_w, i32_w]
                                    rfl
                                  refine one_ (i := 6) (N := some 96) #[true, true, true, true, true, true, true, false, false, false, false, false, false, false] rfl rfl (one_of HT_.out (by kernel_rfl)) (by decide) (fun K hK => ?_)
                                  refine goes_ Try.func23 (by kernel_rfl) rfl #[.slice Ao96 y234.length co96, .int .i64 (l2.length : Int), .agg (tabC a0)] (by rfl) rfl rfl (by (try simp only [List.map_toArray, List.map_cons, List.map_nil]); first | done | rfl | (simp only [List.length_drop, List.length_take]; rfl)) ?_
                                  with_reducible refine (frame_Get.calls kj19 _ _ y234 (l2.length : Int) a0 t237 t238 t239 _ ?side1 ?side2 A47.out).mono ?_
                                  (case side1 => repeat (first | exact (Kd.R_reads' HO236.out).2.2 | (with_reducible refine Kd.C_alloc ?_ _) | (with_reducible refine Kd.C_drewN ?_ _) | (with_reducible refine Kd.C_drew ?_)))
                                  (case side2 => exact (Kd.R_reads' HO236.out).2.1)
                                  rintro e w97 ⟨v240, rfl, ho0, hb⟩
                                  refine ⟨_, rfl, ?_⟩
                                  have n0_ := Aside0.mk (Kd.R_elder' (by (with_reducible repeat (first | apply Kd.R_alloc | apply Kd.R_drewN | apply Kd.R_drew)); exact HO233.out) (Kd.R_base ho0) hb)
                                  have n1_ := Aside0.mk (Kd.R_elder' (by (with_reducible repeat (first | apply Kd.R_alloc | apply Kd.R_drewN | apply Kd.R_drew)); exact HO236.out) (Kd.R_base ho0) hb)
                                  have n2_ := Aside0.mk (Kd.R_lower (Kd.R_new' (Kd.R_new' ho0 (Kd.R_lt (by (with_reducible repeat (first | apply Kd.R_alloc | apply Kd.R_drewN | apply Kd.R_drew)); exact HO233.out))) (Kd.R_lt (by (with_reducible repeat (first | apply Kd.R_alloc | apply Kd.R_drewN | apply Kd.R_drew)); exact HO236.out))) (below_size (by repeat (first | (with_reducible first | exact HB.out | apply below_alloc | apply pw_below_drewN | apply below_drew1 | refine below_set ?_ GE218.out) | exact HB.out))))
                                  have n3_ := Aside0.mk (blk_below (g := gb218) (o := .cells (tabC a0) 24 (0, 0)) (by (with_reducible repeat (first | refine blk_drewN ?_ _ | refine blk_drew ?_ | refine blk_alloc ?_ _)); exact BK218.out) hb)
                                  have n4_ := Aside0.mk (below_step (by repeat (first | (with_reducible first | exact HB.out | apply below_alloc | apply pw_below_drewN | apply below_drew1 | refine below_set ?_ GE218.out) | exact HB.out)) hb)
                                  clear HO233
                                  clear HO236
                                  clear BK218
                                  clear HB
                                  have HO233 := n0_
                                  have HO236 := n1_
                                  have HO241 := n2_
                                  have BK218 := n3_
                                  have HB := n4_
                                  clear n0_ n1_ n2_ n3_ n4_
                                  (try clear hb)
                                  (try clear hb2)
                                  (try clear hk)
                                  (try clear hi)
                                  (try clear ho0)
                                  refine hK.out _ _ (tab_loadAt Try.underlying24 (show (Try.prog.info? 24).map (·.size) = some 256 from by kernel_rfl) BK218.out) (fun hHeld => ?_)
                                  clear hK K
                                  refine norm_ (a' := ?_) ?_ ?_
                                  rotate_left
                                  · show Act.put _ (some 96) _ = _
                                    simp only [Act.put, List.setIfInBounds_toArray, List.set_cons_zero, List.set_cons_succ, i64_w, i32_w]
                                    rfl
                                  refine pure_ (i := 7) (N := some 89) (v := ?_) (a' := ?_) #[true, true, true, true, true, true, true, true, false, false, false, false, false, false] rfl rfl (any_of HT_.out (by kernel_rfl)) (fun _ _ _ h => h) (Or.inl ⟨by rfl, ?_⟩) ?_ ?_
                                  rotate_left
                                  · intro w'
                                    go_simp
                                    with_reducible rfl
                                  rotate_left
                                  · simp only [Act.put, List.setIfInBounds_toArray, List.set_cons_zero, List.set_cons_succ, i64_w, i32_w]
                                    rfl
                                  refine pure_ (i := 8) (N := some 97) (v := ?_) (a' := ?_) #[true, true, true, true, true, true, true, true, true, false, false, false, false, false] rfl rfl (any_of HT_.out (by kernel_rfl)) (fun _ _ _ h => h) (Or.inl ⟨by rfl, ?_⟩) ?_ ?_
                                  rotate_left
                                  · intro w'
                                    go_simp
                                    with_reducible rfl
                                  rotate_left
                                  · simp only [Act.put, List.setIfInBounds_toArray, List.set_cons_zero, List.set_cons_succ, i64_w, i32_w]
                                    rfl
                                  refine pure_ (i := 9) (N := some 98) (v := ?_) (a' := ?_) #[true, true, true, true, true, true, true, true, true, true, false, false, false, false] rfl rfl (any_of HT_.out (by kernel_rfl)) (fun _ _ _ h => h) (Or.inl ⟨by rfl, ?_⟩) ?_ ?_
                                  rotate_left
                                  · intro w'
                                    go_simp
                                    with_reducible rfl
                                  rotate_left
                                  · simp only [Act.put, List.setIfInBounds_toArray, List.set_cons_zero, List.set_cons_succ, i64_w, i32_w]
                                    rfl
                                  refine pure_ (i := 10) (N := some 99) (v := ?_) (a' := ?_) #[true, true, true, true, true, true, true, true, true, true, true, false, false, false] rfl rfl (any_of HT_.out (by kernel_rfl)) (fun _ _ _ h => h) (Or.inl ⟨by rfl, ?_⟩) ?_ ?_
                                  rotate_left
                                  · intro w'
                                    go_simp
                                    with_reducible rfl
                                  rotate_left
                                  · simp only [Act.put, List.setIfInBounds_toArray, List.set_cons_zero, List.set_cons_succ, i64_w, i32_w]
                                    rfl
                                  refine pure_ (i := 11) (N := some 15) (v := ?_) (a' := ?_) #[true, true, true, true, true, true, true, true, true, true, true, true, false, false] rfl rfl (any_of HT_.out (by kernel_rfl)) (fun _ _ _ h => h) (Or.inl ⟨by rfl, ?_⟩) ?_ ?_
                                  rotate_left
                                  · intro w'
                                    go_simp
                                    with_reducible rfl
                                  rotate_left
                                  · simp only [Act.put, List.setIfInBounds_toArray, List.set_cons_zero, List.set_cons_succ, i64_w, i32_w]
                                    rfl
                                  refine pure_ (i := 12) (N := some 16) (v := ?_) (a' := ?_) #[true, true, true, true, true, true, true, true, true, true, true, true, true, false] rfl rfl (any_of HT_.out (by kernel_rfl)) (fun _ _ _ h => h) (Or.inl ⟨by rfl, ?_⟩) ?_ ?_
                                  rotate_left
                                  · intro w'
                                    go_simp
                                    with_reducible rfl
                                  rotate_left
                                  · simp only [Act.put, List.setIfInBounds_toArray, List.set_cons_zero, List.set_cons_succ, i64_w, i32_w]
                                    rfl
                                  refine pure_ (i := 13) (N := some 17) (v := ?_) (a' := ?_) #[true, true, true, true, true, true, true, true, true, true, true, true, true, true] rfl rfl (any_of HT_.out (by kernel_rfl)) (fun _ _ _ h => h) (Or.inl ⟨by rfl, ?_⟩) ?_ ?_
                                  rotate_left
                                  · intro w'
                                    go_simp
                                    with_reducible rfl
                                  rotate_left
                                  · simp only [Act.put, List.setIfInBounds_toArray, List.set_cons_zero, List.set_cons_succ, i64_w, i32_w]
                                    rfl
                                  refine done_ (done_of HT_.out (by kernel_rfl)) ?_
                                  have hcv98 := own_string (P := Try.prog) Try.underlying25 Try.underlying5 Try.underlying9 (Kd.own_of_R HO241.out)
                                  have hcv99 := Kd.C_string (P := Try.prog) (A := A1) (c := c1) Try.underlying25 Try.underlying5 Try.underlying9 (Kd.C_below HR1.out HB.out)
                                  try go_wp2
                                  go_ret
                                  exact ⟨by first | rfl | (simp [errW_none, errW_some] <;> rfl) | (simp [*, errW_none, errW_some] <;> rfl), by repeat (first | (with_reducible first | exact HB.out | apply below_alloc | apply pw_below_drewN | apply below_drew1 | refine below_set ?_ GE218.out) | exact HB.out)⟩
                              · rw [if_neg c46] at H
                                exact absurd H (by simp)
                            · rw [if_neg c45] at H
                              have c45b0 : ((strOfNums t226).toList == ((strOfNums l2) ++ (strOfNums t231)).toList) = false := beq_eq_false_iff_ne.mpr c45
                              have c45b1 : ((strOfNums t226).toList != ((strOfNums l2) ++ (strOfNums t231)).toList) = true := bne_iff_ne.mpr c45
                              obtain rfl := Option.some.inj H
                              try go_wp2
                              have n0_ := Aside0.mk (blk_drew BK218.out)
                              have n1_ := Aside0.mk (below_drew1 HB.out)
                              clear BK218
                              clear HB
                              have BK218 := n0_
                              have HB := n1_
                              clear n0_ n1_
                              refine start_ (n := 11) (S := fun w' => (Instr.loadAt 24 (.pointer (some ⟨gb218, 0, none⟩))).run Try.prog w' = .ok (.agg (tabC a0)) w') (ds := []) #[false, false, false, false, false, false, false, false, false, false, false] (by kernel_rfl) rfl rfl (tab_loadAt Try.underlying24 (show (Try.prog.info? 24).map (·.size) = some 256 from by kernel_rfl) BK218.out) (fun hHeld => ?_); refine with_tabW punnetlaw07_FramePuts.tab8 punnetlaw07_FramePuts.bits8 (fun HT_ HW_ => ?_)
                              generalize wc.drew = w100 at BK218 HB hHeld ⊢
                              refine pure_ (i := 1) (N := some 53) (v := ?_) (a' := ?_) #[false, true, false, false, false, false, false, false, false, false, false] rfl rfl (any_of HT_.out (by kernel_rfl)) (fun _ _ _ h => h) (Or.inl ⟨by rfl, ?_⟩) ?_ ?_
                              rotate_left
                              · intro w'
                                go_simp
                                with_reducible rfl
                              rotate_left
                              · simp only [Act.put, List.setIfInBounds_toArray, List.set_cons_zero, List.set_cons_succ, i64_w, i32_w]
                                rfl
                              refine pure_ (i := 4) (N := some 56) (v := ?_) (a' := ?_) #[false, true, false, false, true, false, false, false, false, false, false] rfl rfl (any_of HT_.out (by kernel_rfl)) (fun _ _ _ h => h) (Or.inl ⟨by rfl, ?_⟩) ?_ ?_
                              rotate_left
                              · intro w'
                                go_simp
                                with_reducible rfl
                              rotate_left
                              · simp only [Act.put, List.setIfInBounds_toArray, List.set_cons_zero, List.set_cons_succ, i64_w, i32_w]
                                rfl
                              refine take_ (i := 3) (N := some 55) (v := ?_) (a' := ?_) #[false, true, false, true, true, false, false, false, false, false, false] rfl rfl (take_ofW HT_.out HW_.out (by kernel_rfl)) (fun _ _ _ h => h) (Or.inl ⟨by rfl, ?_⟩) hHeld ?_ ?_
                              rotate_left
                              · intro w' s0
                                exact tab_exec rfl rfl (by assumption)
                              rotate_left
                              · simp only [Act.put, List.setIfInBounds_toArray, List.set_cons_zero, List.set_cons_succ, i64_w, i32_w]
                                rfl
                              refine one_ (i := 0) (N := some 52) #[true, true, false, true, true, false, false, false, false, false, false] rfl rfl (one_of HT_.out (by kernel_rfl)) (by decide) (fun K hK => ?_)
                              refine Kd.R_lit_step (Kd.int .u8) _ 5 ?hg (N := 52) ?hd (xs := ([] : List Int)) (inner := []) (ok := fun _ => True) (okp := fun _ => True) ?hr ?hp (fun _ hk => hk) trivial (Below.refl _ _) (Nat.le_refl _) (by simp) ?_; (case hd => rfl); (case hg => rfl); (case hr => first | (go_simp; done) | (go_simp; rfl)); (case hp => exact (Reps.none _ _))
                              intro v221 w101 ho102 hb hg_ hnew_
                              clear hg_ hnew_
                              (first | rw [← Ny220.out] at ho102 | (simp only [Int.reduceToNat] at ho102; rw [← Ny220.out] at ho102))
                              have n0_ := Aside0.mk (Kd.R_lower ho102 (below_size (by repeat (first | (with_reducible first | exact HB.out | apply below_alloc | apply pw_below_drewN | apply below_drew1 | refine below_set ?_ GE218.out) | exact HB.out))))
                              have n1_ := Aside0.mk (blk_below (g := gb218) (o := .cells (tabC a0) 24 (0, 0)) (by (with_reducible repeat (first | refine blk_drewN ?_ _ | refine blk_drew ?_ | refine blk_alloc ?_ _)); exact BK218.out) hb)
                              have n2_ := Aside0.mk (below_step (by repeat (first | (with_reducible first | exact HB.out | apply below_alloc | apply pw_below_drewN | apply below_drew1 | refine below_set ?_ GE218.out) | exact HB.out)) hb)
                              clear BK218
                              clear HB
                              have HO222 := n0_
                              have BK218 := n1_
                              have HB := n2_
                              clear n0_ n1_ n2_
                              clear hb ho102
                              refine hK.out _ _ (tab_loadAt Try.underlying24 (show (Try.prog.info? 24).map (·.size) = some 256 from by kernel_rfl) BK218.out) (fun hHeld => ?_)
                              clear hK K
                              refine norm_ (a' := ?_) ?_ ?_
                              rotate_left
                              · show Act.put _ (some 52) _ = _
                                simp only [Act.put, List.setIfInBounds_toArray, List.set_cons_zero, List.set_cons_succ, i64_w, i32_w]
                                rfl
                              refine one_ (i := 2) (N := some 54) #[true, true, true, true, true, false, false, false, false, false, false] rfl rfl (one_of HT_.out (by kernel_rfl)) (by decide) (fun K hK => ?_)
                              refine Kd.R_append_rows_step (Kd.int .u8) (w0 := w) w.heap.size (by rfl) (.tmp 52) (.tmp 53) 25 5 (.int .u8 0) 1 rfl Try.underlying25 info5 rfl (by decide) (by omega) v221 y220 l2 _ _ _ (fun _ => True) (fun _ => False) rfl rfl ?aO ?aR (fun _ _ h => h) (fun _ h => h.elim) ?aF ?aB ?aS ?aL ?_
                              (case aR => repeat (first | exact (Kd.C_below HR2.out HB.out) | (with_reducible refine Kd.C_alloc ?_ _) | (with_reducible refine Kd.C_drewN ?_ _) | (with_reducible refine Kd.C_drew ?_)))
                              (case aB => exact (by repeat (first | (with_reducible first | exact HB.out | apply below_alloc | apply pw_below_drewN | apply below_drew1 | refine below_set ?_ GE218.out) | exact HB.out)))
                              (case aF => exact (fun _ _ => trivial))
                              (case aO => exact (by (with_reducible repeat (first | apply Kd.R_alloc | apply Kd.R_drewN | apply Kd.R_drew)); exact HO222.out))
                              (case aS => exact (below_size (by repeat (first | (with_reducible first | exact HB.out | apply below_alloc | apply pw_below_drewN | apply below_drew1 | refine below_set ?_ GE218.out) | exact HB.out))))
                              (case aL => have := LMc22.out; omega)
                              intro v224 w103 ho hb hg hat
                              rw [← Ny223.out] at ho
                              have n0_ := Aside0.mk (blk_grown (g := gb218) (o := .cells (tabC a0) 24 (0, 0)) (by (with_reducible repeat (first | refine blk_drewN ?_ _ | refine blk_drew ?_ | refine blk_alloc ?_ _)); exact BK218.out) hg (Kd.R_ne HO222.out BK218.out (by decide)))
                              have n1_ := Aside0.mk (hb)
                              have n2_ := Aside0.mk (ho)
                              clear BK218
                              clear HB
                              clear HO222
                              have BK218 := n0_
                              have HB := n1_
                              have HO225 := n2_
                              clear n0_ n1_ n2_
                              clear ho hb hg hat
                              obtain ⟨Ao104, co104, eo104⟩ := Kd.R_slice HO225.out
                              (first | subst eo104 | (injection eo104 with f1_ f2_ f3_; have f4_ := f1_.symm; have f5_ := f3_.symm; clear f1_ f2_ f3_; subst f4_; subst f5_))
                              refine hK.out _ _ (tab_loadAt Try.underlying24 (show (Try.prog.info? 24).map (·.size) = some 256 from by kernel_rfl) BK218.out) (fun hHeld => ?_)
                              clear hK K
                              refine norm_ (a' := ?_) ?_ ?_
                              rotate_left
                              · show Act.put _ (some 54) _ = _
                                simp only [Act.put, List.setIfInBounds_toArray, List.set_cons_zero, List.set_cons_succ, i64_w, i32_w]
                                rfl
                              refine one_ (i := 5) (N := some 57) #[true, true, true, true, true, true, false, false, false, false, false] rfl rfl (one_of HT_.out (by kernel_rfl)) (by decide) (fun K hK => ?_)
                              refine goes_ Try.func20 (by kernel_rfl) rfl #[.slice Ao104 y223.length co104, .agg (tabC a0), .slice A1 l1.length c1] (by rfl) rfl rfl (by (try simp only [List.map_toArray, List.map_cons, List.map_nil]); first | done | rfl | (simp only [List.length_drop, List.length_take]; rfl)) ?_
                              with_reducible refine (frame_Put.calls kj19 (fun k_ => some k_ = (.slice Ao104 y223.length co104 : Value).ownBlock) (.slice Ao104 y223.length co104) y223 a0 _ _ l1 t226 t229 w _ ?side1 ?side2 ?side3 ?side4 A23.out).mono ?_
                              (case side1 => repeat (first | (with_reducible first | exact HB.out | apply below_alloc | apply pw_below_drewN | apply below_drew1 | refine below_set ?_ GE218.out) | exact HB.out))
                              (case side2 => exact Kd.R_tight rfl HO225.out)
                              (case side3 => exact Kd.C_kept_came (Kd.heap_int .u8) HR1.out (by repeat (first | (with_reducible first | exact HB.out | apply below_alloc | apply pw_below_drewN | apply below_drew1 | refine below_set ?_ GE218.out) | exact HB.out)) (fun k_ hs_ => (fun e_ => Kd.R_base HO225.out k_ e_.symm) hs_))
                              (case side4 => exact HC1.out)
                              rintro e w105 ⟨v227, rfl, ho0, hb, hkp⟩
                              refine ⟨_, rfl, ?_⟩
                              have n0_ := Aside0.mk (blk_kept (by (with_reducible repeat (first | refine blk_drewN ?_ _ | refine blk_drew ?_ | refine blk_alloc ?_ _)); exact BK218.out) hkp (fun hs_ => (fun e_ => (Kd.R_ne HO225.out BK218.out (by decide)) e_) hs_))
                              have n1_ := Aside0.mk (Kd.R_mono (ok' := fun k_ => True) ho0 (fun k_ hk_ => trivial))
                              have n2_ := Aside0.mk (hb)
                              clear BK218
                              clear HB
                              clear HO225
                              have BK218 := n0_
                              have HO228 := n1_
                              have HB := n2_
                              clear n0_ n1_ n2_
                              (try clear hb)
                              (try clear hkp)
                              (try clear ho0)
                              refine hK.out _ _ (tab_loadAt Try.underlying24 (show (Try.prog.info? 24).map (·.size) = some 256 from by kernel_rfl) BK218.out) (fun hHeld => ?_)
                              clear hK K
                              refine norm_ (a' := ?_) ?_ ?_
                              rotate_left
                              · show Act.put _ (some 57) _ = _
                                simp only [Act.put, List.setIfInBounds_toArray, List.set_cons_zero, List.set_cons_succ, i64_w, i32_w]
                                rfl
                              refine pure_ (i := 6) (N := some 51) (v := ?_) (a' := ?_) #[true, true, true, true, true, true, true, false, false, false, false] rfl rfl (any_of HT_.out (by kernel_rfl)) (fun _ _ _ h => h) (Or.inl ⟨by rfl, ?_⟩) ?_ ?_
                              rotate_left
                              · intro w'
                                go_simp
                                with_reducible rfl
                              rotate_left
                              · simp only [Act.put, List.setIfInBounds_toArray, List.set_cons_zero, List.set_cons_succ, i64_w, i32_w]
                                rfl
                              refine pure_ (i := 7) (N := some 58) (v := ?_) (a' := ?_) #[true, true, true, true, true, true, true, true, false, false, false] rfl rfl (any_of HT_.out (by kernel_rfl)) (fun _ _ _ h => h) (Or.inl ⟨by rfl, ?_⟩) ?_ ?_
                              rotate_left
                              · intro w'
                                go_simp
                                with_reducible rfl
                              rotate_left
                              · simp only [Act.put, List.setIfInBounds_toArray, List.set_cons_zero, List.set_cons_succ, i64_w, i32_w]
                                rfl
                              refine pure_ (i := 8) (N := some 59) (v := ?_) (a' := ?_) #[true, true, true, true, true, true, true, true, true, false, false] rfl rfl (any_of HT_.out (by kernel_rfl)) (fun _ _ _ h => h) (Or.inl ⟨by rfl, ?_⟩) ?_ ?_
                              rotate_left
                              · intro w'
                                go_simp
                                with_reducible rfl
                              rotate_left
                              · simp only [Act.put, List.setIfInBounds_toArray, List.set_cons_zero, List.set_cons_succ, i64_w, i32_w]
                                rfl
                              refine pure_ (i := 9) (N := some 12) (v := ?_) (a' := ?_) #[true, true, true, true, true, true, true, true, true, true, false] rfl rfl (any_of HT_.out (by kernel_rfl)) (fun _ _ _ h => h) (Or.inl ⟨by rfl, ?_⟩) ?_ ?_
                              rotate_left
                              · intro w'
                                go_simp
                                with_reducible rfl
                              rotate_left
                              · simp only [Act.put, List.setIfInBounds_toArray, List.set_cons_zero, List.set_cons_succ, i64_w, i32_w]
                                rfl
                              refine pure_ (i := 10) (N := some 13) (v := ?_) (a' := ?_) #[true, true, true, true, true, true, true, true, true, true, true] rfl rfl (any_of HT_.out (by kernel_rfl)) (fun _ _ _ h => h) (Or.inl ⟨by rfl, ?_⟩) ?_ ?_
                              rotate_left
                              · intro w'
                                go_simp
                                with_reducible rfl
                              rotate_left
                              · simp only [Act.put, List.setIfInBounds_toArray, List.set_cons_zero, List.set_cons_succ, i64_w, i32_w]
                                rfl
                              refine done_ (done_of HT_.out (by kernel_rfl)) ?_
                              try go_wp2_with (first | ((with_reducible refine gate_callee (f := 21) rfl ?_); refine goesL_ (some 61) rfl rfl Try.func21 (by kernel_rfl) rfl #[.int .i64 a4] rfl (by (try simp only [List.map_toArray, List.map_cons, List.map_nil]); first | done | rfl | (simp only [List.length_drop, List.length_take]; rfl)) ?_; (with_reducible refine (frame_Size.calls a4 t230 _ A24.out).mono ?_); rintro e w' ⟨rfl, ⟨nd, rfl⟩⟩; refine ⟨_, rfl, ?_⟩) | ((with_reducible refine gate_dst (N := 74) rfl ?_); (try (refine gate_guard (by rfl) ?_; dsimp only)); refine wpList_load_row rfl 24 (.tmp 5) rfl gb218 rfl 24 (tabC a0) (0, 0) _ (by (with_reducible repeat (first | refine blk_drewN ?_ _ | refine blk_drew ?_ | refine blk_alloc ?_ _)); exact BK218.out) Try.underlying24 rfl (by rw [tabC_size]; kernel_rfl) ?_) | ((with_reducible refine gate_callee (f := 22) rfl ?_); refine goesL_ (some 76) rfl rfl Try.func22 (by kernel_rfl) rfl #[.agg (tabC a0), .slice A1 l1.length c1] rfl (by (try simp only [List.map_toArray, List.map_cons, List.map_nil]); first | done | rfl | (simp only [List.length_drop, List.length_take]; rfl)) ?_; (with_reducible refine (punnetref07_Frame.calls kj19 a0 _ _ l1 t231 _ ?side1 ?side2 A42.out).mono ?_); (case side1 => repeat (first | exact (Kd.C_below HR1.out (by repeat (first | (with_reducible first | exact HB.out | apply below_alloc | apply pw_below_drewN | apply below_drew1 | refine below_set ?_ GE218.out) | exact HB.out))) | (with_reducible refine Kd.C_alloc ?_ _) | (with_reducible refine Kd.C_drewN ?_ _) | (with_reducible refine Kd.C_drew ?_))); (case side2 => exact HC1.out); rintro e w106 ⟨v232, rfl, ho0, hb⟩; refine ⟨_, rfl, ?_⟩; have n0_ := Aside0.mk (Kd.R_elder' (by (with_reducible repeat (first | apply Kd.R_alloc | apply Kd.R_drewN | apply Kd.R_drew)); exact HO228.out) (Kd.R_base ho0) hb); have n1_ := Aside0.mk (Kd.R_lower (Kd.R_new' ho0 (Kd.R_lt (by (with_reducible repeat (first | apply Kd.R_alloc | apply Kd.R_drewN | apply Kd.R_drew)); exact HO228.out))) (below_size (by repeat (first | (with_reducible first | exact HB.out | apply below_alloc | apply pw_below_drewN | apply below_drew1 | refine below_set ?_ GE218.out) | exact HB.out)))); have n2_ := Aside0.mk (blk_below (g := gb218) (o := .cells (tabC a0) 24 (0, 0)) (by (with_reducible repeat (first | refine blk_drewN ?_ _ | refine blk_drew ?_ | refine blk_alloc ?_ _)); exact BK218.out) hb); have n3_ := Aside0.mk (below_step (by repeat (first | (with_reducible first | exact HB.out | apply below_alloc | apply pw_below_drewN | apply below_drew1 | refine below_set ?_ GE218.out) | exact HB.out)) hb); clear HO228; clear BK218; clear HB; have HO228 := n0_; have HO233 := n1_; have BK218 := n2_; have HB := n3_; clear n0_ n1_ n2_ n3_; (try clear hb); (try clear hb2); (try clear hk); (try clear hi); (try clear ho0); have hcv107 := own_string (P := Try.prog) Try.underlying25 Try.underlying5 Try.underlying9 (Kd.own_of_R HO228.out); have hcv108 := Kd.C_string (P := Try.prog) (A := A2) (c := c2) Try.underlying25 Try.underlying5 Try.underlying9 (Kd.C_below HR2.out HB.out); have hcv109 := own_string (P := Try.prog) Try.underlying25 Try.underlying5 Try.underlying9 (Kd.own_of_R HO233.out)))
                              go_ret
                              exact ⟨by first | rfl | (simp [errW_none, errW_some] <;> rfl) | (simp [*, errW_none, errW_some] <;> rfl), by repeat (first | (with_reducible first | exact HB.out | apply below_alloc | apply pw_below_drewN | apply below_drew1 | refine below_set ?_ GE218.out) | exact HB.out)⟩
                          · rw [if_neg c44] at H
                            exact absurd H (by simp)
                        · rw [if_neg c43] at H
                          have c43b0 : (t229 == 0) = false := beq_eq_false_iff_ne.mpr c43
                          have c43b1 : (t229 != 0) = true := bne_iff_ne.mpr c43
                          obtain rfl := Option.some.inj H
                          try go_wp2
                          have n0_ := Aside0.mk (blk_drew BK218.out)
                          have n1_ := Aside0.mk (below_drew1 HB.out)
                          clear BK218
                          clear HB
                          have BK218 := n0_
                          have HB := n1_
                          clear n0_ n1_
                          refine start_ (n := 11) (S := fun w' => (Instr.loadAt 24 (.pointer (some ⟨gb218, 0, none⟩))).run Try.prog w' = .ok (.agg (tabC a0)) w') (ds := []) #[false, false, false, false, false, false, false, false, false, false, false] (by kernel_rfl) rfl rfl (tab_loadAt Try.underlying24 (show (Try.prog.info? 24).map (·.size) = some 256 from by kernel_rfl) BK218.out) (fun hHeld => ?_); refine with_tabW punnetlaw07_FramePuts.tab8 punnetlaw07_FramePuts.bits8 (fun HT_ HW_ => ?_)
                          generalize wc.drew = w110 at BK218 HB hHeld ⊢
                          refine pure_ (i := 1) (N := some 53) (v := ?_) (a' := ?_) #[false, true, false, false, false, false, false, false, false, false, false] rfl rfl (any_of HT_.out (by kernel_rfl)) (fun _ _ _ h => h) (Or.inl ⟨by rfl, ?_⟩) ?_ ?_
                          rotate_left
                          · intro w'
                            go_simp
                            with_reducible rfl
                          rotate_left
                          · simp only [Act.put, List.setIfInBounds_toArray, List.set_cons_zero, List.set_cons_succ, i64_w, i32_w]
                            rfl
                          refine pure_ (i := 4) (N := some 56) (v := ?_) (a' := ?_) #[false, true, false, false, true, false, false, false, false, false, false] rfl rfl (any_of HT_.out (by kernel_rfl)) (fun _ _ _ h => h) (Or.inl ⟨by rfl, ?_⟩) ?_ ?_
                          rotate_left
                          · intro w'
                            go_simp
                            with_reducible rfl
                          rotate_left
                          · simp only [Act.put, List.setIfInBounds_toArray, List.set_cons_zero, List.set_cons_succ, i64_w, i32_w]
                            rfl
                          refine take_ (i := 3) (N := some 55) (v := ?_) (a' := ?_) #[false, true, false, true, true, false, false, false, false, false, false] rfl rfl (take_ofW HT_.out HW_.out (by kernel_rfl)) (fun _ _ _ h => h) (Or.inl ⟨by rfl, ?_⟩) hHeld ?_ ?_
                          rotate_left
                          · intro w' s0
                            exact tab_exec rfl rfl (by assumption)
                          rotate_left
                          · simp only [Act.put, List.setIfInBounds_toArray, List.set_cons_zero, List.set_cons_succ, i64_w, i32_w]
                            rfl
                          refine one_ (i := 0) (N := some 52) #[true, true, false, true, true, false, false, false, false, false, false] rfl rfl (one_of HT_.out (by kernel_rfl)) (by decide) (fun K hK => ?_)
                          refine Kd.R_lit_step (Kd.int .u8) _ 5 ?hg (N := 52) ?hd (xs := ([] : List Int)) (inner := []) (ok := fun _ => True) (okp := fun _ => True) ?hr ?hp (fun _ hk => hk) trivial (Below.refl _ _) (Nat.le_refl _) (by simp) ?_; (case hd => rfl); (case hg => rfl); (case hr => first | (go_simp; done) | (go_simp; rfl)); (case hp => exact (Reps.none _ _))
                          intro v221 w111 ho112 hb hg_ hnew_
                          clear hg_ hnew_
                          (first | rw [← Ny220.out] at ho112 | (simp only [Int.reduceToNat] at ho112; rw [← Ny220.out] at ho112))
                          have n0_ := Aside0.mk (Kd.R_lower ho112 (below_size (by repeat (first | (with_reducible first | exact HB.out | apply below_alloc | apply pw_below_drewN | apply below_drew1 | refine below_set ?_ GE218.out) | exact HB.out))))
                          have n1_ := Aside0.mk (blk_below (g := gb218) (o := .cells (tabC a0) 24 (0, 0)) (by (with_reducible repeat (first | refine blk_drewN ?_ _ | refine blk_drew ?_ | refine blk_alloc ?_ _)); exact BK218.out) hb)
                          have n2_ := Aside0.mk (below_step (by repeat (first | (with_reducible first | exact HB.out | apply below_alloc | apply pw_below_drewN | apply below_drew1 | refine below_set ?_ GE218.out) | exact HB.out)) hb)
                          clear BK218
                          clear HB
                          have HO222 := n0_
                          have BK218 := n1_
                          have HB := n2_
                          clear n0_ n1_ n2_
                          clear hb ho112
                          refine hK.out _ _ (tab_loadAt Try.underlying24 (show (Try.prog.info? 24).map (·.size) = some 256 from by kernel_rfl) BK218.out) (fun hHeld => ?_)
                          clear hK K
                          refine norm_ (a' := ?_) ?_ ?_
                          rotate_left
                          · show Act.put _ (some 52) _ = _
                            simp only [Act.put, List.setIfInBounds_toArray, List.set_cons_zero, List.set_cons_succ, i64_w, i32_w]
                            rfl
                          refine one_ (i := 2) (N := some 54) #[true, true, true, true, true, false, false, false, false, false, false] rfl rfl (one_of HT_.out (by kernel_rfl)) (by decide) (fun K hK => ?_)
                          refine Kd.R_append_rows_step (Kd.int .u8) (w0 := w) w.heap.size (by rfl) (.tmp 52) (.tmp 53) 25 5 (.int .u8 0) 1 rfl Try.underlying25 info5 rfl (by decide) (by omega) v221 y220 l2 _ _ _ (fun _ => True) (fun _ => False) rfl rfl ?aO ?aR (fun _ _ h => h) (fun _ h => h.elim) ?aF ?aB ?aS ?aL ?_
                          (case aR => repeat (first | exact (Kd.C_below HR2.out HB.out) | (with_reducible refine Kd.C_alloc ?_ _) | (with_reducible refine Kd.C_drewN ?_ _) | (with_reducible refine Kd.C_drew ?_)))
                          (case aB => exact (by repeat (first | (with_reducible first | exact HB.out | apply below_alloc | apply pw_below_drewN | apply below_drew1 | refine below_set ?_ GE218.out) | exact HB.out)))
                          (case aF => exact (fun _ _ => trivial))
                          (case aO => exact (by (with_reducible repeat (first | apply Kd.R_alloc | apply Kd.R_drewN | apply Kd.R_drew)); exact HO222.out))
                          (case aS => exact (below_size (by repeat (first | (with_reducible first | exact HB.out | apply below_alloc | apply pw_below_drewN | apply below_drew1 | refine below_set ?_ GE218.out) | exact HB.out))))
                          (case aL => have := LMc22.out; omega)
                          intro v224 w113 ho hb hg hat
                          rw [← Ny223.out] at ho
                          have n0_ := Aside0.mk (blk_grown (g := gb218) (o := .cells (tabC a0) 24 (0, 0)) (by (with_reducible repeat (first | refine blk_drewN ?_ _ | refine blk_drew ?_ | refine blk_alloc ?_ _)); exact BK218.out) hg (Kd.R_ne HO222.out BK218.out (by decide)))
                          have n1_ := Aside0.mk (hb)
                          have n2_ := Aside0.mk (ho)
                          clear BK218
                          clear HB
                          clear HO222
                          have BK218 := n0_
                          have HB := n1_
                          have HO225 := n2_
                          clear n0_ n1_ n2_
                          clear ho hb hg hat
                          obtain ⟨Ao114, co114, eo114⟩ := Kd.R_slice HO225.out
                          (first | subst eo114 | (injection eo114 with f1_ f2_ f3_; have f4_ := f1_.symm; have f5_ := f3_.symm; clear f1_ f2_ f3_; subst f4_; subst f5_))
                          refine hK.out _ _ (tab_loadAt Try.underlying24 (show (Try.prog.info? 24).map (·.size) = some 256 from by kernel_rfl) BK218.out) (fun hHeld => ?_)
                          clear hK K
                          refine norm_ (a' := ?_) ?_ ?_
                          rotate_left
                          · show Act.put _ (some 54) _ = _
                            simp only [Act.put, List.setIfInBounds_toArray, List.set_cons_zero, List.set_cons_succ, i64_w, i32_w]
                            rfl
                          refine one_ (i := 5) (N := some 57) #[true, true, true, true, true, true, false, false, false, false, false] rfl rfl (one_of HT_.out (by kernel_rfl)) (by decide) (fun K hK => ?_)
                          refine goes_ Try.func20 (by kernel_rfl) rfl #[.slice Ao114 y223.length co114, .agg (tabC a0), .slice A1 l1.length c1] (by rfl) rfl rfl (by (try simp only [List.map_toArray, List.map_cons, List.map_nil]); first | done | rfl | (simp only [List.length_drop, List.length_take]; rfl)) ?_
                          with_reducible refine (frame_Put.calls kj19 (fun k_ => some k_ = (.slice Ao114 y223.length co114 : Value).ownBlock) (.slice Ao114 y223.length co114) y223 a0 _ _ l1 t226 t229 w _ ?side1 ?side2 ?side3 ?side4 A23.out).mono ?_
                          (case side1 => repeat (first | (with_reducible first | exact HB.out | apply below_alloc | apply pw_below_drewN | apply below_drew1 | refine below_set ?_ GE218.out) | exact HB.out))
                          (case side2 => exact Kd.R_tight rfl HO225.out)
                          (case side3 => exact Kd.C_kept_came (Kd.heap_int .u8) HR1.out (by repeat (first | (with_reducible first | exact HB.out | apply below_alloc | apply pw_below_drewN | apply below_drew1 | refine below_set ?_ GE218.out) | exact HB.out)) (fun k_ hs_ => (fun e_ => Kd.R_base HO225.out k_ e_.symm) hs_))
                          (case side4 => exact HC1.out)
                          rintro e w115 ⟨v227, rfl, ho0, hb, hkp⟩
                          refine ⟨_, rfl, ?_⟩
                          have n0_ := Aside0.mk (blk_kept (by (with_reducible repeat (first | refine blk_drewN ?_ _ | refine blk_drew ?_ | refine blk_alloc ?_ _)); exact BK218.out) hkp (fun hs_ => (fun e_ => (Kd.R_ne HO225.out BK218.out (by decide)) e_) hs_))
                          have n1_ := Aside0.mk (Kd.R_mono (ok' := fun k_ => True) ho0 (fun k_ hk_ => trivial))
                          have n2_ := Aside0.mk (hb)
                          clear BK218
                          clear HB
                          clear HO225
                          have BK218 := n0_
                          have HO228 := n1_
                          have HB := n2_
                          clear n0_ n1_ n2_
                          (try clear hb)
                          (try clear hkp)
                          (try clear ho0)
                          refine hK.out _ _ (tab_loadAt Try.underlying24 (show (Try.prog.info? 24).map (·.size) = some 256 from by kernel_rfl) BK218.out) (fun hHeld => ?_)
                          clear hK K
                          refine norm_ (a' := ?_) ?_ ?_
                          rotate_left
                          · show Act.put _ (some 57) _ = _
                            simp only [Act.put, List.setIfInBounds_toArray, List.set_cons_zero, List.set_cons_succ, i64_w, i32_w]
                            rfl
                          refine pure_ (i := 6) (N := some 51) (v := ?_) (a' := ?_) #[true, true, true, true, true, true, true, false, false, false, false] rfl rfl (any_of HT_.out (by kernel_rfl)) (fun _ _ _ h => h) (Or.inl ⟨by rfl, ?_⟩) ?_ ?_
                          rotate_left
                          · intro w'
                            go_simp
                            with_reducible rfl
                          rotate_left
                          · simp only [Act.put, List.setIfInBounds_toArray, List.set_cons_zero, List.set_cons_succ, i64_w, i32_w]
                            rfl
                          refine pure_ (i := 7) (N := some 58) (v := ?_) (a' := ?_) #[true, true, true, true, true, true, true, true, false, false, false] rfl rfl (any_of HT_.out (by kernel_rfl)) (fun _ _ _ h => h) (Or.inl ⟨by rfl, ?_⟩) ?_ ?_
                          rotate_left
                          · intro w'
                            go_simp
                            with_reducible rfl
                          rotate_left
                          · simp only [Act.put, List.setIfInBounds_toArray, List.set_cons_zero, List.set_cons_succ, i64_w, i32_w]
                            rfl
                          refine pure_ (i := 8) (N := some 59) (v := ?_) (a' := ?_) #[true, true, true, true, true, true, true, true, true, false, false] rfl rfl (any_of HT_.out (by kernel_rfl)) (fun _ _ _ h => h) (Or.inl ⟨by rfl, ?_⟩) ?_ ?_
                          rotate_left
                          · intro w'
                            go_simp
                            with_reducible rfl
                          rotate_left
                          · simp only [Act.put, List.setIfInBounds_toArray, List.set_cons_zero, List.set_cons_succ, i64_w, i32_w]
                            rfl
                          refine pure_ (i := 9) (N := some 12) (v := ?_) (a' := ?_) #[true, true, true, true, true, true, true, true, true, true, false] rfl rfl (any_of HT_.out (by kernel_rfl)) (fun _ _ _ h => h) (Or.inl ⟨by rfl, ?_⟩) ?_ ?_
                          rotate_left
                          · intro w'
                            go_simp
                            with_reducible rfl
                          rotate_left
                          · simp only [Act.put, List.setIfInBounds_toArray, List.set_cons_zero, List.set_cons_succ, i64_w, i32_w]
                            rfl
                          refine pure_ (i := 10) (N := some 13) (v := ?_) (a' := ?_) #[true, true, true, true, true, true, true, true, true, true, true] rfl rfl (any_of HT_.out (by kernel_rfl)) (fun _ _ _ h => h) (Or.inl ⟨by rfl, ?_⟩) ?_ ?_
                          rotate_left
                          · intro w'
                            go_simp
                            with_reducible rfl
                          rotate_left
                          · simp only [Act.put, List.setIfInBounds_toArray, List.set_cons_zero, List.set_cons_succ, i64_w, i32_w]
                            rfl
                          refine done_ (done_of HT_.out (by kernel_rfl)) ?_
                          try go_wp2_with (first | ((with_reducible refine gate_callee (f := 21) rfl ?_); refine goesL_ (some 61) rfl rfl Try.func21 (by kernel_rfl) rfl #[.int .i64 a4] rfl (by (try simp only [List.map_toArray, List.map_cons, List.map_nil]); first | done | rfl | (simp only [List.length_drop, List.length_take]; rfl)) ?_; (with_reducible refine (frame_Size.calls a4 t230 _ A24.out).mono ?_); rintro e w' ⟨rfl, ⟨nd, rfl⟩⟩; refine ⟨_, rfl, ?_⟩) | ((with_reducible refine gate_dst (N := 74) rfl ?_); (try (refine gate_guard (by rfl) ?_; dsimp only)); refine wpList_load_row rfl 24 (.tmp 5) rfl gb218 rfl 24 (tabC a0) (0, 0) _ (by (with_reducible repeat (first | refine blk_drewN ?_ _ | refine blk_drew ?_ | refine blk_alloc ?_ _)); exact BK218.out) Try.underlying24 rfl (by rw [tabC_size]; kernel_rfl) ?_) | ((with_reducible refine gate_callee (f := 22) rfl ?_); refine goesL_ (some 76) rfl rfl Try.func22 (by kernel_rfl) rfl #[.agg (tabC a0), .slice A1 l1.length c1] rfl (by (try simp only [List.map_toArray, List.map_cons, List.map_nil]); first | done | rfl | (simp only [List.length_drop, List.length_take]; rfl)) ?_; (with_reducible refine (punnetref07_Frame.calls kj19 a0 _ _ l1 t231 _ ?side1 ?side2 A42.out).mono ?_); (case side1 => repeat (first | exact (Kd.C_below HR1.out (by repeat (first | (with_reducible first | exact HB.out | apply below_alloc | apply pw_below_drewN | apply below_drew1 | refine below_set ?_ GE218.out) | exact HB.out))) | (with_reducible refine Kd.C_alloc ?_ _) | (with_reducible refine Kd.C_drewN ?_ _) | (with_reducible refine Kd.C_drew ?_))); (case side2 => exact HC1.out); rintro e w116 ⟨v232, rfl, ho0, hb⟩; refine ⟨_, rfl, ?_⟩; have n0_ := Aside0.mk (Kd.R_elder' (by (with_reducible repeat (first | apply Kd.R_alloc | apply Kd.R_drewN | apply Kd.R_drew)); exact HO228.out) (Kd.R_base ho0) hb); have n1_ := Aside0.mk (Kd.R_lower (Kd.R_new' ho0 (Kd.R_lt (by (with_reducible repeat (first | apply Kd.R_alloc | apply Kd.R_drewN | apply Kd.R_drew)); exact HO228.out))) (below_size (by repeat (first | (with_reducible first | exact HB.out | apply below_alloc | apply pw_below_drewN | apply below_drew1 | refine below_set ?_ GE218.out) | exact HB.out)))); have n2_ := Aside0.mk (blk_below (g := gb218) (o := .cells (tabC a0) 24 (0, 0)) (by (with_reducible repeat (first | refine blk_drewN ?_ _ | refine blk_drew ?_ | refine blk_alloc ?_ _)); exact BK218.out) hb); have n3_ := Aside0.mk (below_step (by repeat (first | (with_reducible first | exact HB.out | apply below_alloc | apply pw_below_drewN | apply below_drew1 | refine below_set ?_ GE218.out) | exact HB.out)) hb); clear HO228; clear BK218; clear HB; have HO228 := n0_; have HO233 := n1_; have BK218 := n2_; have HB := n3_; clear n0_ n1_ n2_ n3_; (try clear hb); (try clear hb2); (try clear hk); (try clear hi); (try clear ho0)))
                          go_ret
                          exact ⟨by first | rfl | (simp [errW_none, errW_some] <;> rfl) | (simp [*, errW_none, errW_some] <;> rfl), by repeat (first | (with_reducible first | exact HB.out | apply below_alloc | apply pw_below_drewN | apply below_drew1 | refine below_set ?_ GE218.out) | exact HB.out)⟩
                    · rw [if_neg c25] at H
                      have c25b0 : (t230 == x11_19) = false := beq_eq_false_iff_ne.mpr c25
                      have c25b1 : (t230 != x11_19) = true := bne_iff_ne.mpr c25
                      obtain rfl := Option.some.inj H
                      try go_wp2
                      have n0_ := Aside0.mk (blk_drew BK218.out)
                      have n1_ := Aside0.mk (below_drew1 HB.out)
                      clear BK218
                      clear HB
                      have BK218 := n0_
                      have HB := n1_
                      clear n0_ n1_
                      refine start_ (n := 11) (S := fun w' => (Instr.loadAt 24 (.pointer (some ⟨gb218, 0, none⟩))).run Try.prog w' = .ok (.agg (tabC a0)) w') (ds := []) #[false, false, false, false, false, false, false, false, false, false, false] (by kernel_rfl) rfl rfl (tab_loadAt Try.underlying24 (show (Try.prog.info? 24).map (·.size) = some 256 from by kernel_rfl) BK218.out) (fun hHeld => ?_); refine with_tabW punnetlaw07_FramePuts.tab8 punnetlaw07_FramePuts.bits8 (fun HT_ HW_ => ?_)
                      generalize wc.drew = w117 at BK218 HB hHeld ⊢
                      refine pure_ (i := 1) (N := some 53) (v := ?_) (a' := ?_) #[false, true, false, false, false, false, false, false, false, false, false] rfl rfl (any_of HT_.out (by kernel_rfl)) (fun _ _ _ h => h) (Or.inl ⟨by rfl, ?_⟩) ?_ ?_
                      rotate_left
                      · intro w'
                        go_simp
                        with_reducible rfl
                      rotate_left
                      · simp only [Act.put, List.setIfInBounds_toArray, List.set_cons_zero, List.set_cons_succ, i64_w, i32_w]
                        rfl
                      refine pure_ (i := 4) (N := some 56) (v := ?_) (a' := ?_) #[false, true, false, false, true, false, false, false, false, false, false] rfl rfl (any_of HT_.out (by kernel_rfl)) (fun _ _ _ h => h) (Or.inl ⟨by rfl, ?_⟩) ?_ ?_
                      rotate_left
                      · intro w'
                        go_simp
                        with_reducible rfl
                      rotate_left
                      · simp only [Act.put, List.setIfInBounds_toArray, List.set_cons_zero, List.set_cons_succ, i64_w, i32_w]
                        rfl
                      refine take_ (i := 3) (N := some 55) (v := ?_) (a' := ?_) #[false, true, false, true, true, false, false, false, false, false, false] rfl rfl (take_ofW HT_.out HW_.out (by kernel_rfl)) (fun _ _ _ h => h) (Or.inl ⟨by rfl, ?_⟩) hHeld ?_ ?_
                      rotate_left
                      · intro w' s0
                        exact tab_exec rfl rfl (by assumption)
                      rotate_left
                      · simp only [Act.put, List.setIfInBounds_toArray, List.set_cons_zero, List.set_cons_succ, i64_w, i32_w]
                        rfl
                      refine one_ (i := 0) (N := some 52) #[true, true, false, true, true, false, false, false, false, false, false] rfl rfl (one_of HT_.out (by kernel_rfl)) (by decide) (fun K hK => ?_)
                      refine Kd.R_lit_step (Kd.int .u8) _ 5 ?hg (N := 52) ?hd (xs := ([] : List Int)) (inner := []) (ok := fun _ => True) (okp := fun _ => True) ?hr ?hp (fun _ hk => hk) trivial (Below.refl _ _) (Nat.le_refl _) (by simp) ?_; (case hd => rfl); (case hg => rfl); (case hr => first | (go_simp; done) | (go_simp; rfl)); (case hp => exact (Reps.none _ _))
                      intro v221 w118 ho119 hb hg_ hnew_
                      clear hg_ hnew_
                      (first | rw [← Ny220.out] at ho119 | (simp only [Int.reduceToNat] at ho119; rw [← Ny220.out] at ho119))
                      have n0_ := Aside0.mk (Kd.R_lower ho119 (below_size (by repeat (first | (with_reducible first | exact HB.out | apply below_alloc | apply pw_below_drewN | apply below_drew1 | refine below_set ?_ GE218.out) | exact HB.out))))
                      have n1_ := Aside0.mk (blk_below (g := gb218) (o := .cells (tabC a0) 24 (0, 0)) (by (with_reducible repeat (first | refine blk_drewN ?_ _ | refine blk_drew ?_ | refine blk_alloc ?_ _)); exact BK218.out) hb)
                      have n2_ := Aside0.mk (below_step (by repeat (first | (with_reducible first | exact HB.out | apply below_alloc | apply pw_below_drewN | apply below_drew1 | refine below_set ?_ GE218.out) | exact HB.out)) hb)
                      clear BK218
                      clear HB
                      have HO222 := n0_
                      have BK218 := n1_
                      have HB := n2_
                      clear n0_ n1_ n2_
                      clear hb ho119
                      refine hK.out _ _ (tab_loadAt Try.underlying24 (show (Try.prog.info? 24).map (·.size) = some 256 from by kernel_rfl) BK218.out) (fun hHeld => ?_)
                      clear hK K
                      refine norm_ (a' := ?_) ?_ ?_
                      rotate_left
                      · show Act.put _ (some 52) _ = _
                        simp only [Act.put, List.setIfInBounds_toArray, List.set_cons_zero, List.set_cons_succ, i64_w, i32_w]
                        rfl
                      refine one_ (i := 2) (N := some 54) #[true, true, true, true, true, false, false, false, false, false, false] rfl rfl (one_of HT_.out (by kernel_rfl)) (by decide) (fun K hK => ?_)
                      refine Kd.R_append_rows_step (Kd.int .u8) (w0 := w) w.heap.size (by rfl) (.tmp 52) (.tmp 53) 25 5 (.int .u8 0) 1 rfl Try.underlying25 info5 rfl (by decide) (by omega) v221 y220 l2 _ _ _ (fun _ => True) (fun _ => False) rfl rfl ?aO ?aR (fun _ _ h => h) (fun _ h => h.elim) ?aF ?aB ?aS ?aL ?_
                      (case aR => repeat (first | exact (Kd.C_below HR2.out HB.out) | (with_reducible refine Kd.C_alloc ?_ _) | (with_reducible refine Kd.C_drewN ?_ _) | (with_reducible refine Kd.C_drew ?_)))
                      (case aB => exact (by repeat (first | (with_reducible first | exact HB.out | apply below_alloc | apply pw_below_drewN | apply below_drew1 | refine below_set ?_ GE218.out) | exact HB.out)))
                      (case aF => exact (fun _ _ => trivial))
                      (case aO => exact (by (with_reducible repeat (first | apply Kd.R_alloc | apply Kd.R_drewN | apply Kd.R_drew)); exact HO222.out))
                      (case aS => exact (below_size (by repeat (first | (with_reducible first | exact HB.out | apply below_alloc | apply pw_below_drewN | apply below_drew1 | refine below_set ?_ GE218.out) | exact HB.out))))
                      (case aL => have := LMc22.out; omega)
                      intro v224 w120 ho hb hg hat
                      rw [← Ny223.out] at ho
                      have n0_ := Aside0.mk (blk_grown (g := gb218) (o := .cells (tabC a0) 24 (0, 0)) (by (with_reducible repeat (first | refine blk_drewN ?_ _ | refine blk_drew ?_ | refine blk_alloc ?_ _)); exact BK218.out) hg (Kd.R_ne HO222.out BK218.out (by decide)))
                      have n1_ := Aside0.mk (hb)
                      have n2_ := Aside0.mk (ho)
                      clear BK218
                      clear HB
                      clear HO222
                      have BK218 := n0_
                      have HB := n1_
                      have HO225 := n2_
                      clear n0_ n1_ n2_
                      clear ho hb hg hat
                      obtain ⟨Ao121, co121, eo121⟩ := Kd.R_slice HO225.out
                      (first | subst eo121 | (injection eo121 with f1_ f2_ f3_; have f4_ := f1_.symm; have f5_ := f3_.symm; clear f1_ f2_ f3_; subst f4_; subst f5_))
                      refine hK.out _ _ (tab_loadAt Try.underlying24 (show (Try.prog.info? 24).map (·.size) = some 256 from by kernel_rfl) BK218.out) (fun hHeld => ?_)
                      clear hK K
                      refine norm_ (a' := ?_) ?_ ?_
                      rotate_left
                      · show Act.put _ (some 54) _ = _
                        simp only [Act.put, List.setIfInBounds_toArray, List.set_cons_zero, List.set_cons_succ, i64_w, i32_w]
                        rfl
                      refine one_ (i := 5) (N := some 57) #[true, true, true, true, true, true, false, false, false, false, false] rfl rfl (one_of HT_.out (by kernel_rfl)) (by decide) (fun K hK => ?_)
                      refine goes_ Try.func20 (by kernel_rfl) rfl #[.slice Ao121 y223.length co121, .agg (tabC a0), .slice A1 l1.length c1] (by rfl) rfl rfl (by (try simp only [List.map_toArray, List.map_cons, List.map_nil]); first | done | rfl | (simp only [List.length_drop, List.length_take]; rfl)) ?_
                      with_reducible refine (frame_Put.calls kj19 (fun k_ => some k_ = (.slice Ao121 y223.length co121 : Value).ownBlock) (.slice Ao121 y223.length co121) y223 a0 _ _ l1 t226 t229 w _ ?side1 ?side2 ?side3 ?side4 A23.out).mono ?_
                      (case side1 => repeat (first | (with_reducible first | exact HB.out | apply below_alloc | apply pw_below_drewN | apply below_drew1 | refine below_set ?_ GE218.out) | exact HB.out))
                      (case side2 => exact Kd.R_tight rfl HO225.out)
                      (case side3 => exact Kd.C_kept_came (Kd.heap_int .u8) HR1.out (by repeat (first | (with_reducible first | exact HB.out | apply below_alloc | apply pw_below_drewN | apply below_drew1 | refine below_set ?_ GE218.out) | exact HB.out)) (fun k_ hs_ => (fun e_ => Kd.R_base HO225.out k_ e_.symm) hs_))
                      (case side4 => exact HC1.out)
                      rintro e w122 ⟨v227, rfl, ho0, hb, hkp⟩
                      refine ⟨_, rfl, ?_⟩
                      have n0_ := Aside0.mk (blk_kept (by (with_reducible repeat (first | refine blk_drewN ?_ _ | refine blk_drew ?_ | refine blk_alloc ?_ _)); exact BK218.out) hkp (fun hs_ => (fun e_ => (Kd.R_ne HO225.out BK218.out (by decide)) e_) hs_))
                      have n1_ := Aside0.mk (Kd.R_mono (ok' := fun k_ => True) ho0 (fun k_ hk_ => trivial))
                      have n2_ := Aside0.mk (hb)
                      clear BK218
                      clear HB
                      clear HO225
                      have BK218 := n0_
                      have HO228 := n1_
                      have HB := n2_
                      clear n0_ n1_ n2_
                      (try clear hb)
                      (try clear hkp)
                      (try clear ho0)
                      refine hK.out _ _ (tab_loadAt Try.underlying24 (show (Try.prog.info? 24).map (·.size) = some 256 from by kernel_rfl) BK218.out) (fun hHeld => ?_)
                      clear hK K
                      refine norm_ (a' := ?_) ?_ ?_
                      rotate_left
                      · show Act.put _ (some 57) _ = _
                        simp only [Act.put, List.setIfInBounds_toArray, List.set_cons_zero, List.set_cons_succ, i64_w, i32_w]
                        rfl
                      refine pure_ (i := 6) (N := some 51) (v := ?_) (a' := ?_) #[true, true, true, true, true, true, true, false, false, false, false] rfl rfl (any_of HT_.out (by kernel_rfl)) (fun _ _ _ h => h) (Or.inl ⟨by rfl, ?_⟩) ?_ ?_
                      rotate_left
                      · intro w'
                        go_simp
                        with_reducible rfl
                      rotate_left
                      · simp only [Act.put, List.setIfInBounds_toArray, List.set_cons_zero, List.set_cons_succ, i64_w, i32_w]
                        rfl
                      refine pure_ (i := 7) (N := some 58) (v := ?_) (a' := ?_) #[true, true, true, true, true, true, true, true, false, false, false] rfl rfl (any_of HT_.out (by kernel_rfl)) (fun _ _ _ h => h) (Or.inl ⟨by rfl, ?_⟩) ?_ ?_
                      rotate_left
                      · intro w'
                        go_simp
                        with_reducible rfl
                      rotate_left
                      · simp only [Act.put, List.setIfInBounds_toArray, List.set_cons_zero, List.set_cons_succ, i64_w, i32_w]
                        rfl
                      refine pure_ (i := 8) (N := some 59) (v := ?_) (a' := ?_) #[true, true, true, true, true, true, true, true, true, false, false] rfl rfl (any_of HT_.out (by kernel_rfl)) (fun _ _ _ h => h) (Or.inl ⟨by rfl, ?_⟩) ?_ ?_
                      rotate_left
                      · intro w'
                        go_simp
                        with_reducible rfl
                      rotate_left
                      · simp only [Act.put, List.setIfInBounds_toArray, List.set_cons_zero, List.set_cons_succ, i64_w, i32_w]
                        rfl
                      refine pure_ (i := 9) (N := some 12) (v := ?_) (a' := ?_) #[true, true, true, true, true, true, true, true, true, true, false] rfl rfl (any_of HT_.out (by kernel_rfl)) (fun _ _ _ h => h) (Or.inl ⟨by rfl, ?_⟩) ?_ ?_
                      rotate_left
                      · intro w'
                        go_simp
                        with_reducible rfl
                      rotate_left
                      · simp only [Act.put, List.setIfInBounds_toArray, List.set_cons_zero, List.set_cons_succ, i64_w, i32_w]
                        rfl
                      refine pure_ (i := 10) (N := some 13) (v := ?_) (a' := ?_) #[true, true, true, true, true, true, true, true, true, true, true] rfl rfl (any_of HT_.out (by kernel_rfl)) (fun _ _ _ h => h) (Or.inl ⟨by rfl, ?_⟩) ?_ ?_
                      rotate_left
                      · intro w'
                        go_simp
                        with_reducible rfl
                      rotate_left
                      · simp only [Act.put, List.setIfInBounds_toArray, List.set_cons_zero, List.set_cons_succ, i64_w, i32_w]
                        rfl
                      refine done_ (done_of HT_.out (by kernel_rfl)) ?_
                      try go_wp2_with (first | ((with_reducible refine gate_callee (f := 21) rfl ?_); refine goesL_ (some 61) rfl rfl Try.func21 (by kernel_rfl) rfl #[.int .i64 a4] rfl (by (try simp only [List.map_toArray, List.map_cons, List.map_nil]); first | done | rfl | (simp only [List.length_drop, List.length_take]; rfl)) ?_; (with_reducible refine (frame_Size.calls a4 t230 _ A24.out).mono ?_); rintro e w' ⟨rfl, ⟨nd, rfl⟩⟩; refine ⟨_, rfl, ?_⟩))
                      go_ret
                      exact ⟨by first | rfl | (simp [errW_none, errW_some] <;> rfl) | (simp [*, errW_none, errW_some] <;> rfl), by repeat (first | (with_reducible first | exact HB.out | apply below_alloc | apply pw_below_drewN | apply below_drew1 | refine below_set ?_ GE218.out) | exact HB.out)⟩
                  · rw [if_neg c22] at H
                    exact absurd H (by simp)
  · replace c7 := Bool.eq_false_iff.mpr c7
    subst c7
    have H1 : (some false) = some r := by rw [if_neg (show ¬ (false = true) by decide)] at H; exact H
    clear H
    have H := H1
    clear H1
    obtain rfl := Option.some.inj H
    go_enter Try.func6, Try.ntmps6
    go_wp2_with (first | ((with_reducible refine gate_dst (N := 5) rfl ?_); (try (refine gate_guard (by rfl) ?_; dsimp only)); refine box_event ?hg (N := 5) ?hd (cs := tabC a0) (t := 24) ?hr ?_; (case hd => rfl); (case hg => rfl); (case hr => first | (go_simp; done) | (go_simp; rfl)); intro gb218 hg w123 hbox hb; have n0_ := Aside0.mk (below_step (by repeat (first | (with_reducible first | exact HB.out | apply below_alloc | apply pw_below_drewN | apply below_drew1) | exact HB.out)) hb); have n1_ := Aside0.mk (hbox); have n2_ := Aside0.mk ((by rw [hg]; exact (below_size (by repeat (first | (with_reducible first | exact HB.out | apply below_alloc | apply pw_below_drewN | apply below_drew1) | exact HB.out))) : w.heap.size ≤ gb218)); have n3_ := Aside0.mk ((by rw [hg]; exact (below_size (by repeat (first | (with_reducible first | exact HB.out | apply below_alloc | apply pw_below_drewN | apply below_drew1) | exact HB.out))) : w.heap.size ≤ gb218)); clear HB; have HB := n0_; have BK218 := n1_; have GW218 := n2_; have GE218 := n3_; clear n0_ n1_ n2_ n3_; clear hb hbox hg) | ((with_reducible refine gate_callee (f := 19) rfl ?_); refine goesL_ (some 18) rfl rfl Try.func19 (by kernel_rfl) rfl #[] rfl (by (try simp only [List.map_toArray, List.map_cons, List.map_nil]); first | done | rfl | (simp only [List.length_drop, List.length_take]; rfl)) ?_; (with_reducible refine (punnetlaw07_awake.calls k  false _ A6.out).mono ?_); rintro e w124 ⟨rfl, hb⟩; refine ⟨_, rfl, ?_⟩; have n0_ := Aside0.mk (blk_below (g := gb218) (o := .cells (tabC a0) 24 (0, 0)) (by (with_reducible repeat (first | refine blk_drewN ?_ _ | refine blk_drew ?_ | refine blk_alloc ?_ _)); exact BK218.out) hb); have n1_ := Aside0.mk (below_step (by repeat (first | (with_reducible first | exact HB.out | apply below_alloc | apply pw_below_drewN | apply below_drew1 | refine below_set ?_ GE218.out) | exact HB.out)) hb); clear BK218; clear HB; have BK218 := n0_; have HB := n1_; clear n0_ n1_; (try clear hb); (try clear hb2); (try clear hk); (try clear hi)))
    go_ret
    exact ⟨by first | rfl | (simp [errW_none, errW_some] <;> rfl) | (simp [*, errW_none, errW_some] <;> rfl), by repeat (first | (with_reducible first | exact HB.out | apply below_alloc | apply pw_below_drewN | apply below_drew1 | refine below_set ?_ GE218.out) | exact HB.out)⟩

/-- THE ONE PURE STATEMENT of punnetlaw07_FramePuts: yours. -/
def punnetlaw07_FramePuts.Pure : Prop := ∀ (a0 : Tab) (l1 : List Int) (l2 : List Int) (l3 : List Int) (a4 : Int), l1.length ≤ maxLen → l1.length * 1 ≤ 140737488351232 → (∀ x ∈ l1, (Lit.int .u8 x).wf = true) → l2.length ≤ maxLen → l2.length * 1 ≤ 140737488351232 → (∀ x ∈ l2, (Lit.int .u8 x).wf = true) → l3.length ≤ maxLen → l3.length * 1 ≤ 140737488351232 → (∀ x ∈ l3, (Lit.int .u8 x).wf = true) → (Lit.int .i64 a4).wf = true → ∃ k, punnetlaw07_FramePuts.f k a0 l1 l2 l3 a4 = some true
theorem punnetlaw07_FramePuts.walk (P : punnetlaw07_FramePuts.Pure) (a0 : Tab) (a1 : Option Addr) (len1 cap1 : Nat) (z1 : List Int) (a2 : Option Addr) (len2 cap2 : Nat) (z2 : List Int) (a3 : Option Addr) (len3 cap3 : Nat) (z3 : List Int) (a4 : Int) (w : World) (w1 : (a1 = none ∧ len1 = 0 ∧ cap1 = 0 ∧ z1 = []) ∨ ∃ x, a1 = some x ∧ len1 ≤ cap1 ∧ cap1 ≤ maxLen ∧ z1.length = cap1 ∧ (∀ i, i < z1.length → w.cell? (x.add i) = some (.int .u8 (z1.getD i 0))) ∧ ∀ n ∈ z1, (Lit.int .u8 n).wf = true) (y1 : len1 * 1 ≤ 140737488351232) (w2 : (a2 = none ∧ len2 = 0 ∧ cap2 = 0 ∧ z2 = []) ∨ ∃ x, a2 = some x ∧ len2 ≤ cap2 ∧ cap2 ≤ maxLen ∧ z2.length = cap2 ∧ (∀ i, i < z2.length → w.cell? (x.add i) = some (.int .u8 (z2.getD i 0))) ∧ ∀ n ∈ z2, (Lit.int .u8 n).wf = true) (y2 : len2 * 1 ≤ 140737488351232) (w3 : (a3 = none ∧ len3 = 0 ∧ cap3 = 0 ∧ z3 = []) ∨ ∃ x, a3 = some x ∧ len3 ≤ cap3 ∧ cap3 ≤ maxLen ∧ z3.length = cap3 ∧ (∀ i, i < z3.length → w.cell? (x.add i) = some (.int .u8 (z3.getD i 0))) ∧ ∀ n ∈ z3, (Lit.int .u8 n).wf = true) (y3 : len3 * 1 ≤ 140737488351232) (w4 : (Lit.int .i64 a4).wf = true) :
    Calls Try.prog 6 #[.agg (tabC a0), .slice a1 len1 cap1, .slice a2 len2 cap2, .slice a3 len3 cap3, .int .i64 a4] w fun e w' => e = .returned (.bool true) ∧ Below w.heap.size w w' := by
  obtain ⟨l1, rfl, hr1, hm1, hw1, hc1⟩ := ReadsInt.ofRowC w1
  obtain ⟨l2, rfl, hr2, hm2, hw2, hc2⟩ := ReadsInt.ofRowC w2
  obtain ⟨l3, rfl, hr3, hm3, hw3, hc3⟩ := ReadsInt.ofRowC w3
  obtain ⟨k, h⟩ := P a0 l1 l2 l3 a4 hm1 y1 hw1 hm2 y2 hw2 hm3 y3 hw3 w4
  refine (punnetlaw07_FramePuts.calls k a0 _ _ l1 _ _ l2 _ _ l3 a4 true w (Kd.C_of_reads (d := (0 : Int)) (h1 := fun _ => rfl) hr1) hc1 (Kd.C_of_reads (d := (0 : Int)) (h1 := fun _ => rfl) hr2) hc2 (Kd.C_of_reads (d := (0 : Int)) (h1 := fun _ => rfl) hr3) hc3 h).mono ?_
  rintro e w' ⟨rfl, hd⟩
  exact ⟨rfl, hd⟩

end Go.Proofs.Ytcgbcnalofecgaa.Q
