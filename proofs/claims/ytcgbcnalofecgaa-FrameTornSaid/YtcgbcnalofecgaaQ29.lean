/- A function of the program or a law's row comes to what the Lean function beside it says; no condition beyond those typed. Written by a program of this workplace; Lean checks it. -/
import Derived.Test.YtcgbcnalofecgaaQ0
import Derived.Test.YtcgbcnalofecgaaQ17
import Derived.Test.YtcgbcnalofecgaaQ18
import Derived.Test.YtcgbcnalofecgaaQ24
import Derived.Test.YtcgbcnalofecgaaQ27
namespace Go.Proofs.Ytcgbcnalofecgaa.Q
open Go.RowKit Go.Proofs.YtcgbcnalofecgaaW.PrintWords Go.Proofs.YtcgbcnalofecgaaW.PrintLast Go.Proofs.YtcgbcnalofecgaaW.PrintMore
attribute [local go_sem] max2_int min2_int max_two min_two max_three min_three max_four min_four   -- for this text's walks alone
set_option linter.unusedVariables false
set_option linter.unusedSimpArgs false

/-! ### punnetlaw07_FrameTorn: function 9 -/
mutual
def punnetlaw07_FrameTorn.l0 : Nat → List (List Int) → Int → List Int → List Int → Int → Tab → Option (Bool)
  | 0, _, _, _, _, _, _ => none
  | k + 1, x1, x2, x7, x8, x9, x310000 => if x9 < (x1.length : Int) then (if 0 ≤ x9 then (if ((rd_L2 x1 x9).length : Int) > 300 then (some true) else ((frame_Put.f k x7 x310000 (rd_L2 x1 x9)).bind fun bt319 => (if bt319.2 = 0 then (if x8.length < 17592186044416 then (punnetlaw07_FrameTorn.l0 k x1 x2 bt319.1 (x8 ++ [(bt319.1.length : Int)]) (wrap64 (x9 + 1)) x310000) else (none)) else (some false)))) else (none)) else (if x2 < 0 then (punnetlaw07_FrameTorn.j1 k x1 x2 x7 x8 true x310000) else (punnetlaw07_FrameTorn.j1 k x1 x2 x7 x8 (decide (x2 > (x7.length : Int))) x310000))
def punnetlaw07_FrameTorn.j1 : Nat → List (List Int) → Int → List Int → List Int → Bool → Tab → Option (Bool)
  | 0, _, _, _, _, _, _ => none
  | k + 1, x1, x2, x7, x8, x59, x310000 => if x59 = true then (punnetlaw07_FrameTorn.j2 k x1 (x7.length : Int) x7 x8 x310000) else (punnetlaw07_FrameTorn.j2 k x1 x2 x7 x8 x310000)
def punnetlaw07_FrameTorn.j2 : Nat → List (List Int) → Int → List Int → List Int → Tab → Option (Bool)
  | 0, _, _, _, _, _ => none
  | k + 1, x1, x2, x7, x8, x310000 => punnetlaw07_FrameTorn.l1 k x1 x2 x7 x8 0 x310000
def punnetlaw07_FrameTorn.l1 : Nat → List (List Int) → Int → List Int → List Int → Int → Tab → Option (Bool)
  | 0, _, _, _, _, _, _ => none
  | k + 1, x1, x2, x7, x8, x12, x310000 => if 0 ≤ x12 then (if x12 < (x8.length : Int) then (if (rd x8 x12) ≤ x2 then (if x12 < (x1.length : Int) then (if 0 ≤ (wrap64 (x12 + 1)) then (if (wrap64 (x12 + 1)) < (x8.length : Int) then (if (rd x8 (wrap64 (x12 + 1))) ≤ x2 then (punnetlaw07_FrameTorn.l1 k x1 x2 x7 x8 (wrap64 (x12 + 1)) x310000) else (if 0 ≤ x2 then (if x2 ≤ (x7.length : Int) then ((frame_Scan.f k (x7.take (x2 : Int).toNat) x310000).bind fun bt332 => (if bt332.2 = (rd x8 x12) then (if x12 ≤ (x1.length : Int) then ((punnetref07_Same.f k bt332.1 (x1.take (x12 : Int).toNat)).bind fun t341 => (some t341)) else (none)) else (some false))) else (none)) else (none))) else (none)) else (none)) else (if 0 ≤ x2 then (if x2 ≤ (x7.length : Int) then ((frame_Scan.f k (x7.take (x2 : Int).toNat) x310000).bind fun bt346 => (if bt346.2 = (rd x8 x12) then (if x12 ≤ (x1.length : Int) then ((punnetref07_Same.f k bt346.1 (x1.take (x12 : Int).toNat)).bind fun t355 => (some t355)) else (none)) else (some false))) else (none)) else (none))) else (if 0 ≤ x2 then (if x2 ≤ (x7.length : Int) then ((frame_Scan.f k (x7.take (x2 : Int).toNat) x310000).bind fun bt360 => (if bt360.2 = (rd x8 x12) then (if x12 ≤ (x1.length : Int) then ((punnetref07_Same.f k bt360.1 (x1.take (x12 : Int).toNat)).bind fun t369 => (some t369)) else (none)) else (some false))) else (none)) else (none))) else (none)) else (none)
end
def punnetlaw07_FrameTorn.f (k : Nat) (a0 : Tab) (l1 : List (List Int)) (a2 : Int) : Option (Bool) := (punnetlaw07_awake.f k).bind fun t310 => (if t310 = true then (if (l1.length : Int) > 40 then (some true) else (punnetlaw07_FrameTorn.l0 k l1 a2 (([] : List Int)) (([0] : List Int)) 0 a0)) else (some false))
theorem punnetlaw07_FrameTorn.mono_l : ∀ k, (∀ y0 y1 y2 y3 y4 y5, LeO (punnetlaw07_FrameTorn.l0 k y0 y1 y2 y3 y4 y5) (punnetlaw07_FrameTorn.l0 (k + 1) y0 y1 y2 y3 y4 y5)) ∧ (∀ y0 y1 y2 y3 y4 y5, LeO (punnetlaw07_FrameTorn.j1 k y0 y1 y2 y3 y4 y5) (punnetlaw07_FrameTorn.j1 (k + 1) y0 y1 y2 y3 y4 y5)) ∧ (∀ y0 y1 y2 y3 y4, LeO (punnetlaw07_FrameTorn.j2 k y0 y1 y2 y3 y4) (punnetlaw07_FrameTorn.j2 (k + 1) y0 y1 y2 y3 y4)) ∧ (∀ y0 y1 y2 y3 y4 y5, LeO (punnetlaw07_FrameTorn.l1 k y0 y1 y2 y3 y4 y5) (punnetlaw07_FrameTorn.l1 (k + 1) y0 y1 y2 y3 y4 y5))
  | 0 => ⟨fun _ _ _ _ _ _ r h => by simp [punnetlaw07_FrameTorn.l0] at h, fun _ _ _ _ _ _ r h => by simp [punnetlaw07_FrameTorn.j1] at h, fun _ _ _ _ _ r h => by simp [punnetlaw07_FrameTorn.j2] at h, fun _ _ _ _ _ _ r h => by simp [punnetlaw07_FrameTorn.l1] at h⟩
  | k + 1 => by
    obtain ⟨ih0, ih1, ih2, ih3⟩ := punnetlaw07_FrameTorn.mono_l k
    refine ⟨?_, ?_, ?_, ?_⟩
    · intro y0 y1 y2 y3 y4 y5
      unfold punnetlaw07_FrameTorn.l0
      repeat' first
      | (with_reducible exact ih0 _ _ _ _ _ _)
      | (with_reducible exact ih1 _ _ _ _ _ _)
      | (with_reducible exact ih2 _ _ _ _ _)
      | (with_reducible exact ih3 _ _ _ _ _ _)
      | (with_reducible exact frame_Put.mono _ _ _ _)
      | (with_reducible exact frame_Scan.mono _ _ _)
      | (with_reducible exact punnetlaw07_awake.mono _)
      | (with_reducible exact punnetref07_Same.mono _ _ _)
      | (with_reducible exact LeO.refl _)
      | (with_reducible exact LeO.none _)
      | (with_reducible refine LeO.ite ?_ ?_)
      | (with_reducible refine LeO.bind ?_ (fun _ => ?_))
      | exact ih0 _ _ _ _ _ _
      | exact ih1 _ _ _ _ _ _
      | exact ih2 _ _ _ _ _
      | exact ih3 _ _ _ _ _ _
      | exact frame_Put.mono _ _ _ _
      | exact frame_Scan.mono _ _ _
      | exact punnetlaw07_awake.mono _
      | exact punnetref07_Same.mono _ _ _
      | exact LeO.none _
      | refine LeO.ite ?_ ?_
      | refine LeO.bind ?_ (fun _ => ?_)
    · intro y0 y1 y2 y3 y4 y5
      unfold punnetlaw07_FrameTorn.j1
      repeat' first
      | (with_reducible exact ih0 _ _ _ _ _ _)
      | (with_reducible exact ih1 _ _ _ _ _ _)
      | (with_reducible exact ih2 _ _ _ _ _)
      | (with_reducible exact ih3 _ _ _ _ _ _)
      | (with_reducible exact frame_Put.mono _ _ _ _)
      | (with_reducible exact frame_Scan.mono _ _ _)
      | (with_reducible exact punnetlaw07_awake.mono _)
      | (with_reducible exact punnetref07_Same.mono _ _ _)
      | (with_reducible exact LeO.refl _)
      | (with_reducible exact LeO.none _)
      | (with_reducible refine LeO.ite ?_ ?_)
      | (with_reducible refine LeO.bind ?_ (fun _ => ?_))
      | exact ih0 _ _ _ _ _ _
      | exact ih1 _ _ _ _ _ _
      | exact ih2 _ _ _ _ _
      | exact ih3 _ _ _ _ _ _
      | exact frame_Put.mono _ _ _ _
      | exact frame_Scan.mono _ _ _
      | exact punnetlaw07_awake.mono _
      | exact punnetref07_Same.mono _ _ _
      | exact LeO.none _
      | refine LeO.ite ?_ ?_
      | refine LeO.bind ?_ (fun _ => ?_)
    · intro y0 y1 y2 y3 y4
      unfold punnetlaw07_FrameTorn.j2
      repeat' first
      | (with_reducible exact ih0 _ _ _ _ _ _)
      | (with_reducible exact ih1 _ _ _ _ _ _)
      | (with_reducible exact ih2 _ _ _ _ _)
      | (with_reducible exact ih3 _ _ _ _ _ _)
      | (with_reducible exact frame_Put.mono _ _ _ _)
      | (with_reducible exact frame_Scan.mono _ _ _)
      | (with_reducible exact punnetlaw07_awake.mono _)
      | (with_reducible exact punnetref07_Same.mono _ _ _)
      | (with_reducible exact LeO.refl _)
      | (with_reducible exact LeO.none _)
      | (with_reducible refine LeO.ite ?_ ?_)
      | (with_reducible refine LeO.bind ?_ (fun _ => ?_))
      | exact ih0 _ _ _ _ _ _
      | exact ih1 _ _ _ _ _ _
      | exact ih2 _ _ _ _ _
      | exact ih3 _ _ _ _ _ _
      | exact frame_Put.mono _ _ _ _
      | exact frame_Scan.mono _ _ _
      | exact punnetlaw07_awake.mono _
      | exact punnetref07_Same.mono _ _ _
      | exact LeO.none _
      | refine LeO.ite ?_ ?_
      | refine LeO.bind ?_ (fun _ => ?_)
    · intro y0 y1 y2 y3 y4 y5
      unfold punnetlaw07_FrameTorn.l1
      repeat' first
      | (with_reducible exact ih0 _ _ _ _ _ _)
      | (with_reducible exact ih1 _ _ _ _ _ _)
      | (with_reducible exact ih2 _ _ _ _ _)
      | (with_reducible exact ih3 _ _ _ _ _ _)
      | (with_reducible exact frame_Put.mono _ _ _ _)
      | (with_reducible exact frame_Scan.mono _ _ _)
      | (with_reducible exact punnetlaw07_awake.mono _)
      | (with_reducible exact punnetref07_Same.mono _ _ _)
      | (with_reducible exact LeO.refl _)
      | (with_reducible exact LeO.none _)
      | (with_reducible refine LeO.ite ?_ ?_)
      | (with_reducible refine LeO.bind ?_ (fun _ => ?_))
      | exact ih0 _ _ _ _ _ _
      | exact ih1 _ _ _ _ _ _
      | exact ih2 _ _ _ _ _
      | exact ih3 _ _ _ _ _ _
      | exact frame_Put.mono _ _ _ _
      | exact frame_Scan.mono _ _ _
      | exact punnetlaw07_awake.mono _
      | exact punnetref07_Same.mono _ _ _
      | exact LeO.none _
      | refine LeO.ite ?_ ?_
      | refine LeO.bind ?_ (fun _ => ?_)
theorem punnetlaw07_FrameTorn.mono : ∀ a0 a1 a2 k, LeO (punnetlaw07_FrameTorn.f k a0 a1 a2) (punnetlaw07_FrameTorn.f (k + 1) a0 a1 a2) := by
  intro a0 a1 a2 k
  obtain ⟨ih0, ih1, ih2, ih3⟩ := punnetlaw07_FrameTorn.mono_l k
  unfold punnetlaw07_FrameTorn.f
  repeat' first
      | (with_reducible exact ih0 _ _ _ _ _ _)
      | (with_reducible exact ih1 _ _ _ _ _ _)
      | (with_reducible exact ih2 _ _ _ _ _)
      | (with_reducible exact ih3 _ _ _ _ _ _)
      | (with_reducible exact frame_Put.mono _ _ _ _)
      | (with_reducible exact frame_Scan.mono _ _ _)
      | (with_reducible exact punnetlaw07_awake.mono _)
      | (with_reducible exact punnetref07_Same.mono _ _ _)
      | (with_reducible exact LeO.refl _)
      | (with_reducible exact LeO.none _)
      | (with_reducible refine LeO.ite ?_ ?_)
      | (with_reducible refine LeO.bind ?_ (fun _ => ?_))
      | exact ih0 _ _ _ _ _ _
      | exact ih1 _ _ _ _ _ _
      | exact ih2 _ _ _ _ _
      | exact ih3 _ _ _ _ _ _
      | exact frame_Put.mono _ _ _ _
      | exact frame_Scan.mono _ _ _
      | exact punnetlaw07_awake.mono _
      | exact punnetref07_Same.mono _ _ _
      | exact LeO.none _
      | refine LeO.ite ?_ ?_
      | refine LeO.bind ?_ (fun _ => ?_)
def punnetlaw07_FrameTorn.T12 : Bool × List (List Nat × List Nat) := (true, [([], []), ([], []), ([], []), ([], []), ([2, 3], [2, 3]), ([4], [4]), ([0, 1, 5], [0, 1, 5]), ([6], [6]), ([7], [7]), ([7], [7]), ([8, 6, 0, 1, 2, 3, 4, 5, 6, 7, 8], [8]), ([9, 10, 0, 1, 2, 3, 4, 5, 6, 7, 8, 9, 10], [9])])
def punnetlaw07_FrameTorn.B12 : List Nat := [0, 0, 0, 0, 12, 28, 63, 127, 255, 255, 511, 2047]
theorem punnetlaw07_FrameTorn.tab12 : rtab .any (opsOf Try.f9 12) = punnetlaw07_FrameTorn.T12 := by kernel_rfl
theorem punnetlaw07_FrameTorn.bits12 : waitsOk punnetlaw07_FrameTorn.T12.2 punnetlaw07_FrameTorn.B12 = true := by kernel_rfl
def punnetlaw07_FrameTorn.T22 : Bool × List (List Nat × List Nat) := (true, [([], []), ([], []), ([0, 1], [0, 1]), ([], []), ([2, 3], [2, 3]), ([4], [4]), ([5], [5]), ([5], [5]), ([6, 4, 0, 1, 2, 3, 4, 5, 6], [6]), ([7, 8, 0, 1, 2, 3, 4, 5, 6, 7, 8], [7])])
def punnetlaw07_FrameTorn.B22 : List Nat := [0, 0, 3, 0, 15, 31, 63, 63, 127, 511]
theorem punnetlaw07_FrameTorn.tab22 : rtab .any (opsOf Try.f9 22) = punnetlaw07_FrameTorn.T22 := by kernel_rfl
theorem punnetlaw07_FrameTorn.bits22 : waitsOk punnetlaw07_FrameTorn.T22.2 punnetlaw07_FrameTorn.B22 = true := by kernel_rfl
set_option maxHeartbeats 8000000 in
set_option maxRecDepth 100000 in
theorem punnetlaw07_FrameTorn.calls (k : Nat) (a0 : Tab) (A1 : Option Addr) (c1 : Nat) (l1 : List (List Int)) (a2 : Int) (r : Bool) (w : World) (hr1 : Kd.C (Kd.slice 5 (Kd.int .u8)) w A1 l1.length l1) (hc1 : l1.length ≤ c1) (h : punnetlaw07_FrameTorn.f k a0 l1 a2 = some r) :
    Calls Try.prog 9 #[.agg (tabC a0), .slice A1 l1.length c1, .int .i64 a2] w fun e w' => e = .returned (.bool r) ∧ Below w.heap.size w w' := by
  have HR1 := Aside0.mk hr1
  have HC1 := Aside0.mk hc1
  clear hr1 hc1
  have HB := Aside0.mk (Below.refl w.heap.size w)
  have H : ((punnetlaw07_awake.f k).bind fun t310 => (if t310 = true then (if (l1.length : Int) > 40 then (some true) else (punnetlaw07_FrameTorn.l0 k l1 a2 (([] : List Int)) (([0] : List Int)) 0 a0)) else (some false))) = some r := h
  clear h
  replace H := Option.bind_eq_some_iff.mp H
  obtain ⟨t310, A40, H⟩ := H
  replace H : (if t310 = true then (if (l1.length : Int) > 40 then (some true) else (punnetlaw07_FrameTorn.l0 k l1 a2 (([] : List Int)) (([0] : List Int)) 0 a0)) else (some false)) = some r := H
  have A4 := Aside0.mk A40
  clear A40
  by_cases c5 : t310 = true
  · subst c5
    have H1 : (if (l1.length : Int) > 40 then (some true) else (punnetlaw07_FrameTorn.l0 k l1 a2 (([] : List Int)) (([0] : List Int)) 0 a0)) = some r := by rw [if_pos rfl] at H; exact H
    clear H
    have H := H1
    clear H1
    by_cases c6 : (l1.length : Int) > 40
    · rw [if_pos c6] at H
      have c6b0 : decide (40 < (l1.length : Int)) = true := decide_eq_true c6
      have c6b1 : decide (40 < l1.length) = true := decide_eq_true (by omega)
      clear c6
      obtain rfl := Option.some.inj H
      go_enter Try.func9, Try.ntmps9
      go_wp2_with (first | ((with_reducible refine gate_dst (N := 3) rfl ?_); (try (refine gate_guard (by rfl) ?_; dsimp only)); refine box_event ?hg (N := 3) ?hd (cs := tabC a0) (t := 24) ?hr ?_; (case hd => rfl); (case hg => rfl); (case hr => first | (go_simp; done) | (go_simp; rfl)); intro gb309 hg w7 hbox hb; have n0_ := Aside0.mk (below_step (by repeat (first | (with_reducible first | exact HB.out | apply below_alloc | apply pw_below_drewN | apply below_drew1) | exact HB.out)) hb); have n1_ := Aside0.mk (hbox); have n2_ := Aside0.mk ((by rw [hg]; exact (below_size (by repeat (first | (with_reducible first | exact HB.out | apply below_alloc | apply pw_below_drewN | apply below_drew1) | exact HB.out))) : w.heap.size ≤ gb309)); have n3_ := Aside0.mk ((by rw [hg]; exact (below_size (by repeat (first | (with_reducible first | exact HB.out | apply below_alloc | apply pw_below_drewN | apply below_drew1) | exact HB.out))) : w.heap.size ≤ gb309)); clear HB; have HB := n0_; have BK309 := n1_; have GW309 := n2_; have GE309 := n3_; clear n0_ n1_ n2_ n3_; clear hb hbox hg) | ((with_reducible refine gate_callee (f := 19) rfl ?_); refine goesL_ (some 15) rfl rfl Try.func19 (by kernel_rfl) rfl #[] rfl (by (try simp only [List.map_toArray, List.map_cons, List.map_nil]); first | done | rfl | (simp only [List.length_drop, List.length_take]; rfl)) ?_; (with_reducible refine (punnetlaw07_awake.calls k  true _ A4.out).mono ?_); rintro e w8 ⟨rfl, hb⟩; refine ⟨_, rfl, ?_⟩; have n0_ := Aside0.mk (blk_below (g := gb309) (o := .cells (tabC a0) 24 (0, 0)) (by (with_reducible repeat (first | refine blk_drewN ?_ _ | refine blk_drew ?_ | refine blk_alloc ?_ _)); exact BK309.out) hb); have n1_ := Aside0.mk (below_step (by repeat (first | (with_reducible first | exact HB.out | apply below_alloc | apply pw_below_drewN | apply below_drew1 | refine below_set ?_ GE309.out) | exact HB.out)) hb); clear BK309; clear HB; have BK309 := n0_; have HB := n1_; clear n0_ n1_; (try clear hb); (try clear hb2); (try clear hk); (try clear hi)))
      go_ret
      exact ⟨by first | rfl | (simp [errW_none, errW_some] <;> rfl) | (simp [*, errW_none, errW_some] <;> rfl), by repeat (first | (with_reducible first | exact HB.out | apply below_alloc | apply pw_below_drewN | apply below_drew1 | refine below_set ?_ GE309.out) | exact HB.out)⟩
    · rw [if_neg c6] at H
      have c6b0 : decide (40 < (l1.length : Int)) = false := decide_eq_false c6
      have c6b1 : decide (40 < l1.length) = false := decide_eq_false (by omega)
      clear c6
      obtain ⟨y311, hy311⟩ : ∃ y_ : List Int, y_ = (([] : List Int)) := ⟨_, rfl⟩
      replace H : (punnetlaw07_FrameTorn.l0 k l1 a2 y311 (([0] : List Int)) 0 a0) = some r := by first | (rw [hy311]; with_reducible exact H) | (have H2_ := (Option.bind_some _ _).symm.trans H; rw [hy311]; with_reducible exact H2_) | (have H2_ := (Option.bind_some _ _).symm.trans H; with_reducible exact H2_) | with_reducible exact H | (rw [hy311]; exact H) | exact H
      have Ny311 := Aside0.mk hy311
      clear hy311
      obtain ⟨y314, hy314⟩ : ∃ y_ : List Int, y_ = (([0] : List Int)) := ⟨_, rfl⟩
      replace H : (punnetlaw07_FrameTorn.l0 k l1 a2 y311 y314 0 a0) = some r := by first | (rw [hy314]; with_reducible exact H) | (have H2_ := (Option.bind_some _ _).symm.trans H; rw [hy314]; with_reducible exact H2_) | (have H2_ := (Option.bind_some _ _).symm.trans H; with_reducible exact H2_) | with_reducible exact H | (rw [hy314]; exact H) | exact H
      have Ny314 := Aside0.mk hy314
      clear hy314
      have H' := Aside0.mk H
      clear H
      go_enter Try.func9, Try.ntmps9
      go_wp2_with (first | ((with_reducible refine gate_dst (N := 3) rfl ?_); (try (refine gate_guard (by rfl) ?_; dsimp only)); refine box_event ?hg (N := 3) ?hd (cs := tabC a0) (t := 24) ?hr ?_; (case hd => rfl); (case hg => rfl); (case hr => first | (go_simp; done) | (go_simp; rfl)); intro gb309 hg w9 hbox hb; have n0_ := Aside0.mk (below_step (by repeat (first | (with_reducible first | exact HB.out | apply below_alloc | apply pw_below_drewN | apply below_drew1) | exact HB.out)) hb); have n1_ := Aside0.mk (hbox); have n2_ := Aside0.mk ((by rw [hg]; exact (below_size (by repeat (first | (with_reducible first | exact HB.out | apply below_alloc | apply pw_below_drewN | apply below_drew1) | exact HB.out))) : w.heap.size ≤ gb309)); have n3_ := Aside0.mk ((by rw [hg]; exact (below_size (by repeat (first | (with_reducible first | exact HB.out | apply below_alloc | apply pw_below_drewN | apply below_drew1) | exact HB.out))) : w.heap.size ≤ gb309)); clear HB; have HB := n0_; have BK309 := n1_; have GW309 := n2_; have GE309 := n3_; clear n0_ n1_ n2_ n3_; clear hb hbox hg) | ((with_reducible refine gate_callee (f := 19) rfl ?_); refine goesL_ (some 15) rfl rfl Try.func19 (by kernel_rfl) rfl #[] rfl (by (try simp only [List.map_toArray, List.map_cons, List.map_nil]); first | done | rfl | (simp only [List.length_drop, List.length_take]; rfl)) ?_; (with_reducible refine (punnetlaw07_awake.calls k  true _ A4.out).mono ?_); rintro e w10 ⟨rfl, hb⟩; refine ⟨_, rfl, ?_⟩; have n0_ := Aside0.mk (blk_below (g := gb309) (o := .cells (tabC a0) 24 (0, 0)) (by (with_reducible repeat (first | refine blk_drewN ?_ _ | refine blk_drew ?_ | refine blk_alloc ?_ _)); exact BK309.out) hb); have n1_ := Aside0.mk (below_step (by repeat (first | (with_reducible first | exact HB.out | apply below_alloc | apply pw_below_drewN | apply below_drew1 | refine below_set ?_ GE309.out) | exact HB.out)) hb); clear BK309; clear HB; have BK309 := n0_; have HB := n1_; clear n0_ n1_; (try clear hb); (try clear hb2); (try clear hk); (try clear hi)) | ((with_reducible refine gate_dst (N := 20) rfl ?_); (try (refine gate_guard (by rfl) ?_; dsimp only)); refine Kd.R_lit (Kd.int .u8) _ 5 ?hg (N := 20) ?hd (xs := ([] : List Int)) (inner := []) (ok := fun _ => True) (okp := fun _ => True) ?hr ?hp (fun _ hk => hk) trivial (Below.refl _ _) (Nat.le_refl _) (by simp) ?_; (case hd => rfl); (case hg => rfl); (case hr => first | (go_simp; done) | (go_simp; rfl)); (case hp => exact (Reps.none _ _)); intro v312 w11 ho12 hb hg_ hnew_; clear hg_ hnew_; (first | rw [← Ny311.out] at ho12 | (simp only [Int.reduceToNat] at ho12; rw [← Ny311.out] at ho12)); have n0_ := Aside0.mk (Kd.R_lower ho12 (below_size (by repeat (first | (with_reducible first | exact HB.out | apply below_alloc | apply pw_below_drewN | apply below_drew1 | refine below_set ?_ GE309.out) | exact HB.out)))); have n1_ := Aside0.mk (blk_below (g := gb309) (o := .cells (tabC a0) 24 (0, 0)) (by (with_reducible repeat (first | refine blk_drewN ?_ _ | refine blk_drew ?_ | refine blk_alloc ?_ _)); exact BK309.out) hb); have n2_ := Aside0.mk (below_step (by repeat (first | (with_reducible first | exact HB.out | apply below_alloc | apply pw_below_drewN | apply below_drew1 | refine below_set ?_ GE309.out) | exact HB.out)) hb); clear BK309; clear HB; have HO313 := n0_; have BK309 := n1_; have HB := n2_; clear n0_ n1_ n2_; clear hb ho12) | ((with_reducible refine gate_dst (N := 21) rfl ?_); (try (refine gate_guard (by rfl) ?_; dsimp only)); refine Kd.R_lit (Kd.int .i64) _ 3 ?hg (N := 21) ?hd (xs := ([0] : List Int)) (inner := [.int .i64 0]) (ok := fun _ => True) (okp := fun _ => True) ?hr ?hp (fun _ hk => hk) trivial (Below.refl _ _) (Nat.le_refl _) (by simp) ?_; (case hd => rfl); (case hg => rfl); (case hr => first | (go_simp; done) | (go_simp; rfl)); (case hp => exact (Reps.one (show Kd.M (Kd.int .i64) _ _ _ 0 [.int .i64 0] from rfl) (Reps.none _ _))); intro v315 w13 ho14 hb hg_ hnew_; clear hg_ hnew_; (first | rw [← Ny314.out] at ho14 | (simp only [Int.reduceToNat] at ho14; rw [← Ny314.out] at ho14)); have n0_ := Aside0.mk (Kd.R_below (by (with_reducible repeat (first | apply Kd.R_alloc | apply Kd.R_drewN | apply Kd.R_drew)); exact HO313.out) hb); have n1_ := Aside0.mk (Kd.R_lower ho14 (below_size (by repeat (first | (with_reducible first | exact HB.out | apply below_alloc | apply pw_below_drewN | apply below_drew1 | refine below_set ?_ GE309.out) | exact HB.out)))); have n2_ := Aside0.mk (blk_below (g := gb309) (o := .cells (tabC a0) 24 (0, 0)) (by (with_reducible repeat (first | refine blk_drewN ?_ _ | refine blk_drew ?_ | refine blk_alloc ?_ _)); exact BK309.out) hb); have n3_ := Aside0.mk (below_step (by repeat (first | (with_reducible first | exact HB.out | apply below_alloc | apply pw_below_drewN | apply below_drew1 | refine below_set ?_ GE309.out) | exact HB.out)) hb); clear HO313; clear BK309; clear HB; have HO313 := n0_; have HO316 := n1_; have BK309 := n2_; have HB := n3_; clear n0_ n1_ n2_ n3_; clear hb ho14))
      go_loopg [7, 8, 9] k (fun kq v7 v8 v9 w' => ∃ (x7_1 : List Int) (x8_1 : List Int) (x9_1 : Int), v9 = .int .i64 x9_1 ∧ Aside0 (punnetlaw07_FrameTorn.l0 kq l1 a2 x7_1 x8_1 x9_1 a0 = some r) ∧ Aside0 (kq ≤ k) ∧ Aside0 (Kd.R (Kd.int .u8) 5 w' w.heap.size (fun _ => True) v7 x7_1) ∧ Aside0 (Kd.R (Kd.int .i64) 3 w' w.heap.size (fun _ => True) v8 x8_1) ∧ Aside0 (w'.heap[gb309]? = some (.cells (tabC a0) 24 (0, 0))) ∧ Aside0 (Below w.heap.size w w'))
      case atStart => exact ⟨(y311), (y314), (0), (by first | rfl | (simp; done) | (simp [*]; done)), H', ⟨Nat.le_refl _⟩, ⟨by (with_reducible repeat (first | apply Kd.R_alloc | apply Kd.R_drewN | apply Kd.R_drew)); exact HO313.out⟩, ⟨by (with_reducible repeat (first | apply Kd.R_alloc | apply Kd.R_drewN | apply Kd.R_drew)); exact HO316.out⟩, ⟨by (with_reducible repeat (first | refine blk_drewN ?_ _ | refine blk_drew ?_ | refine blk_alloc ?_ _)); exact BK309.out⟩, ⟨by repeat (first | (with_reducible first | exact HB.out | apply below_alloc | apply pw_below_drewN | apply below_drew1 | refine below_set ?_ GE309.out) | exact HB.out)⟩⟩
      case round =>
        clear H'
        try clear c1
        try clear p2
        try clear c5
        try clear c6
        try clear c6b0
        try clear c6b1
        try clear c9
        obtain ⟨x7_1, x8_1, x9_1, rfl, HA, HK1, HO_7, HO_8, BK309, HB⟩ := hrel
        cases gk with
        | zero => exact absurd HA.out (by simp [punnetlaw07_FrameTorn.l0])
        | succ k1 =>
          have H := HA.out
          clear HA
          simp only [punnetlaw07_FrameTorn.l0] at H
          by_cases c15 : x9_1 < (l1.length : Int)
          · rw [if_pos c15] at H
            have c15b0 : decide (x9_1 < (l1.length : Int)) = true := decide_eq_true c15
            clear c15
            by_cases c16 : 0 ≤ x9_1
            · rw [if_pos c16] at H
              have c16b0 : decide (0 ≤ x9_1) = true := decide_eq_true c16
              clear c16
              by_cases c17 : ((rd_L2 l1 x9_1).length : Int) > 300
              · rw [if_pos c17] at H
                have c17b0 : decide (300 < ((rd_L2 l1 x9_1).length : Int)) = true := decide_eq_true c17
                have c17b1 : decide (300 < (rd_L2 l1 x9_1).length) = true := decide_eq_true (by omega)
                clear c17
                obtain rfl := Option.some.inj H
                have p317 : 0 ≤ (x9_1 : Int) := of_decide_eq_true (by first | (with_reducible assumption) | assumption)
                have q317 : x9_1 < (l1.length : Int) := of_decide_eq_true (by first | (with_reducible assumption) | assumption)
                obtain ⟨ad317, A317_0, c317_0, e317, hx317_0, hl317_0, hi317_0⟩ := at_L2 HR1.out x9_1 p317 q317
                cases e317
                replace hx317_0 := (HB.out.cell (World.block_lt_of_cell? w _ hx317_0)).trans hx317_0
                have HR317_0 := Aside0.mk hi317_0
                have HC317_0 := Aside0.mk hl317_0
                clear hi317_0 hl317_0
                replace p317 := eq_true p317
                replace q317 := eq_true q317
                go_wp2
                go_ret
                exact ⟨by first | rfl | (simp [errW_none, errW_some] <;> rfl) | (simp [*, errW_none, errW_some] <;> rfl), by repeat (first | (with_reducible first | exact HB.out | apply below_alloc | apply pw_below_drewN | apply below_drew1 | refine below_set ?_ GE309.out) | exact HB.out)⟩
              · rw [if_neg c17] at H
                have c17b0 : decide (300 < ((rd_L2 l1 x9_1).length : Int)) = false := decide_eq_false c17
                have c17b1 : decide (300 < (rd_L2 l1 x9_1).length) = false := decide_eq_false (by omega)
                clear c17
                replace H := Option.bind_eq_some_iff.mp H
                obtain ⟨⟨t319, t322⟩, A180, H⟩ := H
                replace H : (if t322 = 0 then (if x8_1.length < 17592186044416 then (punnetlaw07_FrameTorn.l0 k1 l1 a2 t319 (x8_1 ++ [(t319.length : Int)]) (wrap64 (x9_1 + 1)) a0) else (none)) else (some false)) = some r := H
                have A18 := Aside0.mk A180
                clear A180
                by_cases c19 : t322 = 0
                · rw [if_pos c19] at H
                  have c19b0 : (t322 == 0) = true := beq_iff_eq.mpr c19
                  have c19b1 : (t322 != 0) = false := bne_eq_false_iff_eq.mpr c19
                  clear c19
                  by_cases c20 : x8_1.length < 17592186044416
                  · rw [if_pos c20] at H
                    have LMc20 := Aside0.mk c20
                    clear c20
                    obtain ⟨y323, hy323⟩ : ∃ y_ : List Int, y_ = (x8_1 ++ [(t319.length : Int)]) := ⟨_, rfl⟩
                    replace H : (punnetlaw07_FrameTorn.l0 k1 l1 a2 t319 y323 (wrap64 (x9_1 + 1)) a0) = some r := by first | (rw [hy323]; with_reducible exact H) | (have H2_ := (Option.bind_some _ _).symm.trans H; rw [hy323]; with_reducible exact H2_) | (have H2_ := (Option.bind_some _ _).symm.trans H; with_reducible exact H2_) | with_reducible exact H | (rw [hy323]; exact H) | exact H
                    have Ny323 := Aside0.mk hy323
                    clear hy323
                    have H' := Aside0.mk H
                    clear H
                    have p317 : 0 ≤ (x9_1 : Int) := of_decide_eq_true (by first | (with_reducible assumption) | assumption)
                    have q317 : x9_1 < (l1.length : Int) := of_decide_eq_true (by first | (with_reducible assumption) | assumption)
                    obtain ⟨ad317, A317_0, c317_0, e317, hx317_0, hl317_0, hi317_0⟩ := at_L2 HR1.out x9_1 p317 q317
                    cases e317
                    replace hx317_0 := (HB.out.cell (World.block_lt_of_cell? w _ hx317_0)).trans hx317_0
                    have HR317_0 := Aside0.mk hi317_0
                    have HC317_0 := Aside0.mk hl317_0
                    clear hi317_0 hl317_0
                    replace p317 := eq_true p317
                    replace q317 := eq_true q317
                    try go_wp2
                    have n0_ := Aside0.mk (Kd.R_drew HO_7.out)
                    have n1_ := Aside0.mk (Kd.R_drew HO_8.out)
                    have n2_ := Aside0.mk (blk_drew BK309.out)
                    have n3_ := Aside0.mk (below_drew1 HB.out)
                    clear HO_7
                    clear HO_8
                    clear BK309
                    clear HB
                    have HO_7 := n0_
                    have HO_8 := n1_
                    have BK309 := n2_
                    have HB := n3_
                    clear n0_ n1_ n2_ n3_
                    have p318 : 0 ≤ (x9_1 : Int) := of_decide_eq_true (by first | (with_reducible assumption) | assumption)
                    have q318 : x9_1 < (l1.length : Int) := of_decide_eq_true (by first | (with_reducible assumption) | assumption)
                    obtain ⟨ad318, A318_0, c318_0, e318, hx318_0, hl318_0, hi318_0⟩ := at_L2 HR1.out x9_1 p318 q318
                    have hw318_0 := hx318_0
                    obtain rfl : ad317 = ad318 := (by injection e318)
                    replace hx318_0 := (HB.out.cell (World.block_lt_of_cell? w _ hx318_0)).trans hx318_0
                    have HR318_0 := Aside0.mk hi318_0
                    have HC318_0 := Aside0.mk hl318_0
                    clear hi318_0 hl318_0
                    replace p318 := eq_true p318
                    replace q318 := eq_true q318
                    obtain ⟨Ao22, co22, eo22⟩ := Kd.R_slice HO_7.out
                    (first | subst eo22 | (injection eo22 with f1_ f2_ f3_; have f4_ := f1_.symm; have f5_ := f3_.symm; clear f1_ f2_ f3_; subst f4_; subst f5_))
                    refine start_ (n := 12) (S := fun w' => (Instr.loadAt 24 (.pointer (some ⟨gb309, 0, none⟩))).run Try.prog w' = .ok (.agg (tabC a0)) w' ∧ w'.cell? (ad317.add (x9_1).toNat) = some (.slice A318_0 (rd_L2 l1 x9_1).length c318_0)) (ds := []) #[false, false, false, false, false, false, false, false, false, false, false, false] (by kernel_rfl) rfl rfl ⟨tab_loadAt Try.underlying24 (show (Try.prog.info? 24).map (·.size) = some 256 from by kernel_rfl) BK309.out, ((HB.out.cell (World.block_lt_of_cell? w _ hw318_0)).trans hw318_0)⟩ (fun hHeld => ?_); refine with_tabW punnetlaw07_FrameTorn.tab12 punnetlaw07_FrameTorn.bits12 (fun HT_ HW_ => ?_)
                    generalize wr.drew = w21 at HO_7 HO_8 BK309 HB HR318_0 hx318_0 hHeld ⊢
                    refine pure_ (i := 0) (N := some 35) (v := ?_) (a' := ?_) #[true, false, false, false, false, false, false, false, false, false, false, false] rfl rfl (any_of HT_.out (by kernel_rfl)) (fun _ _ _ h => h) (Or.inl ⟨by rfl, ?_⟩) ?_ ?_
                    rotate_left
                    · intro w'
                      go_simp
                      with_reducible rfl
                    rotate_left
                    · simp only [Act.put, List.setIfInBounds_toArray, List.set_cons_zero, List.set_cons_succ, i64_w, i32_w]
                      rfl
                    refine pure_ (i := 2) (N := some 37) (v := ?_) (a' := ?_) #[true, false, true, false, false, false, false, false, false, false, false, false] rfl rfl (any_of HT_.out (by kernel_rfl)) (fun _ _ _ h => h) (Or.inl ⟨by rfl, ?_⟩) ?_ ?_
                    rotate_left
                    · intro w'
                      go_simp
                      with_reducible rfl
                    rotate_left
                    · simp only [Act.put, List.setIfInBounds_toArray, List.set_cons_zero, List.set_cons_succ, i64_w, i32_w]
                      rfl
                    refine pure_ (i := 3) (N := some 38) (v := ?_) (a' := ?_) #[true, false, true, true, false, false, false, false, false, false, false, false] rfl rfl (any_of HT_.out (by kernel_rfl)) (fun _ _ _ h => h) (Or.inl ⟨by rfl, ?_⟩) ?_ ?_
                    rotate_left
                    · intro w'
                      go_simp
                      with_reducible rfl
                    rotate_left
                    · simp only [Act.put, List.setIfInBounds_toArray, List.set_cons_zero, List.set_cons_succ, i64_w, i32_w]
                      rfl
                    refine pure_ (i := 4) (N := some 39) (v := ?_) (a' := ?_) #[true, false, true, true, true, false, false, false, false, false, false, false] rfl rfl (any_of HT_.out (by kernel_rfl)) (fun _ _ _ h => h) (Or.inl ⟨by rfl, ?_⟩) ?_ ?_
                    rotate_left
                    · intro w'
                      go_simp
                      with_reducible rfl
                    rotate_left
                    · simp only [Act.put, List.setIfInBounds_toArray, List.set_cons_zero, List.set_cons_succ, i64_w, i32_w]
                      rfl
                    refine take_ (i := 1) (N := some 36) (v := ?_) (a' := ?_) #[true, true, true, true, true, false, false, false, false, false, false, false] rfl rfl (take_ofW HT_.out HW_.out (by kernel_rfl)) (fun _ _ _ h => h) (Or.inl ⟨by rfl, ?_⟩) hHeld ?_ ?_
                    rotate_left
                    · rintro w' ⟨s0, s1⟩
                      exact tab_exec rfl rfl (by assumption)
                    rotate_left
                    · simp only [Act.put, List.setIfInBounds_toArray, List.set_cons_zero, List.set_cons_succ, i64_w, i32_w]
                      rfl
                    refine take_ (i := 5) (N := some 40) (v := ?_) (a' := ?_) #[true, true, true, true, true, true, false, false, false, false, false, false] rfl rfl (take_ofW HT_.out HW_.out (by kernel_rfl)) (fun _ _ _ h => h) (Or.inl ⟨by rfl, ?_⟩) hHeld ?_ ?_
                    rotate_left
                    · rintro w' ⟨s0, s1⟩
                      go_simp
                      with_reducible rfl
                    rotate_left
                    · simp only [Act.put, List.setIfInBounds_toArray, List.set_cons_zero, List.set_cons_succ, i64_w, i32_w]
                      rfl
                    refine one_ (i := 6) (N := some 41) #[true, true, true, true, true, true, true, false, false, false, false, false] rfl rfl (one_of HT_.out (by kernel_rfl)) (by decide) (fun K hK => ?_)
                    refine goes_ Try.func20 (by kernel_rfl) rfl #[.slice Ao22 x7_1.length co22, .agg (tabC a0), .slice A318_0 (rd_L2 l1 x9_1).length c318_0] (by rfl) rfl rfl (by (try simp only [List.map_toArray, List.map_cons, List.map_nil]); first | done | rfl | (simp only [List.length_drop, List.length_take]; rfl)) ?_
                    with_reducible refine (frame_Put.calls k1 (fun k_ => some k_ = (.slice Ao22 x7_1.length co22 : Value).ownBlock) (.slice Ao22 x7_1.length co22) x7_1 a0 _ _ (rd_L2 l1 x9_1) t319 t322 w _ ?side1 ?side2 ?side3 ?side4 A18.out).mono ?_
                    (case side1 => repeat (first | (with_reducible first | exact HB.out | apply below_alloc | apply pw_below_drewN | apply below_drew1 | refine below_set ?_ GE309.out) | exact HB.out))
                    (case side2 => exact Kd.R_tight rfl HO_7.out)
                    (case side3 => exact Kd.C_kept_came (Kd.heap_int .u8) HR318_0.out (by repeat (first | (with_reducible first | exact HB.out | apply below_alloc | apply pw_below_drewN | apply below_drew1 | refine below_set ?_ GE309.out) | exact HB.out)) (fun k_ hs_ => (fun e_ => Kd.R_base HO_7.out k_ e_.symm) hs_))
                    (case side4 => exact HC318_0.out)
                    rintro e w23 ⟨v320, rfl, ho0, hb, hkp⟩
                    refine ⟨_, rfl, ?_⟩
                    have n0_ := Aside0.mk (Kd.R_mono (ok' := fun k_ => True) (Kd.R_keptB ((Kd.R_apart' HO_8.out (Kd.R_typed HO_7.out) (by decide))) hkp (fun k_ hk_ hs_ => (hk_.2) hs_)) (fun k_ hk_ => trivial))
                    have n1_ := Aside0.mk (blk_kept (by (with_reducible repeat (first | refine blk_drewN ?_ _ | refine blk_drew ?_ | refine blk_alloc ?_ _)); exact BK309.out) hkp (fun hs_ => (fun e_ => (Kd.R_ne HO_7.out BK309.out (by decide)) e_) hs_))
                    have n2_ := Aside0.mk (Kd.R_mono (ok' := fun k_ => True) ho0 (fun k_ hk_ => trivial))
                    have n3_ := Aside0.mk (hb)
                    clear HO_8
                    clear BK309
                    clear HB
                    clear HO_7
                    have HO_8 := n0_
                    have BK309 := n1_
                    have HO321 := n2_
                    have HB := n3_
                    clear n0_ n1_ n2_ n3_
                    (try clear hb)
                    (try clear hkp)
                    (try clear ho0)
                    refine hK.out _ _ ⟨tab_loadAt Try.underlying24 (show (Try.prog.info? 24).map (·.size) = some 256 from by kernel_rfl) BK309.out, ((HB.out.cell (World.block_lt_of_cell? w _ hw318_0)).trans hw318_0)⟩ (fun hHeld => ?_)
                    clear hK K
                    refine norm_ (a' := ?_) ?_ ?_
                    rotate_left
                    · show Act.put _ (some 41) _ = _
                      simp only [Act.put, List.setIfInBounds_toArray, List.set_cons_zero, List.set_cons_succ, i64_w, i32_w]
                      rfl
                    refine pure_ (i := 7) (N := some 34) (v := ?_) (a' := ?_) #[true, true, true, true, true, true, true, true, false, false, false, false] rfl rfl (any_of HT_.out (by kernel_rfl)) (fun _ _ _ h => h) (Or.inl ⟨by rfl, ?_⟩) ?_ ?_
                    rotate_left
                    · intro w'
                      go_simp
                      with_reducible rfl
                    rotate_left
                    · simp only [Act.put, List.setIfInBounds_toArray, List.set_cons_zero, List.set_cons_succ, i64_w, i32_w]
                      rfl
                    refine pure_ (i := 8) (N := some 42) (v := ?_) (a' := ?_) #[true, true, true, true, true, true, true, true, true, false, false, false] rfl rfl (any_of HT_.out (by kernel_rfl)) (fun _ _ _ h => h) (Or.inl ⟨by rfl, ?_⟩) ?_ ?_
                    rotate_left
                    · intro w'
                      go_simp
                      with_reducible rfl
                    rotate_left
                    · simp only [Act.put, List.setIfInBounds_toArray, List.set_cons_zero, List.set_cons_succ, i64_w, i32_w]
                      rfl
                    refine pure_ (i := 9) (N := some 43) (v := ?_) (a' := ?_) #[true, true, true, true, true, true, true, true, true, true, false, false] rfl rfl (any_of HT_.out (by kernel_rfl)) (fun _ _ _ h => h) (Or.inl ⟨by rfl, ?_⟩) ?_ ?_
                    rotate_left
                    · intro w'
                      go_simp
                      with_reducible rfl
                    rotate_left
                    · simp only [Act.put, List.setIfInBounds_toArray, List.set_cons_zero, List.set_cons_succ, i64_w, i32_w]
                      rfl
                    refine pure_ (i := 10) (N := some 10) (v := ?_) (a' := ?_) #[true, true, true, true, true, true, true, true, true, true, true, false] rfl rfl (any_of HT_.out (by kernel_rfl)) (fun _ _ _ h => h) (Or.inl ⟨by rfl, ?_⟩) ?_ ?_
                    rotate_left
                    · intro w'
                      go_simp
                      with_reducible rfl
                    rotate_left
                    · simp only [Act.put, List.setIfInBounds_toArray, List.set_cons_zero, List.set_cons_succ, i64_w, i32_w]
                      rfl
                    refine pure_ (i := 11) (N := some 11) (v := ?_) (a' := ?_) #[true, true, true, true, true, true, true, true, true, true, true, true] rfl rfl (any_of HT_.out (by kernel_rfl)) (fun _ _ _ h => h) (Or.inl ⟨by rfl, ?_⟩) ?_ ?_
                    rotate_left
                    · intro w'
                      go_simp
                      with_reducible rfl
                    rotate_left
                    · simp only [Act.put, List.setIfInBounds_toArray, List.set_cons_zero, List.set_cons_succ, i64_w, i32_w]
                      rfl
                    refine done_ (done_of HT_.out (by kernel_rfl)) ?_
                    obtain ⟨Ao24, co24, eo24⟩ := Kd.R_slice HO321.out
                    subst eo24
                    try go_wp2_with (first | ((with_reducible refine gate_builtin (b := .append) (xs := #[.tmp 47, .tmp 50]) rfl ?_); (try (refine gate_guard (by rfl) ?_; dsimp only)); at_builtin; refine Kd.R_append (Kd.int .i64) (w0 := w) w.heap.size rfl (.tmp 47) (.tmp 50) 50 3 (.int .i64 0) 8 rfl Try.underlying50 info3 rfl (by decide) (by omega) u8 x8_1 (t319.length : Int) [.int .i64 (t319.length : Int)] (fun _ => True) (fun _ => False) rfl rfl ?aP (fun _ hk => hk.elim) ?aF ?aO ?aB ?aS ?aL ?_; (case aP => exact rfl); (case aB => exact (by repeat (first | (with_reducible first | exact HB.out | apply below_alloc | apply pw_below_drewN | apply below_drew1 | refine below_set ?_ GE309.out) | exact HB.out))); (case aF => exact (fun _ _ => trivial)); (case aO => exact (by (with_reducible repeat (first | apply Kd.R_alloc | apply Kd.R_drewN | apply Kd.R_drew)); exact HO_8.out)); (case aS => exact (below_size (by repeat (first | (with_reducible first | exact HB.out | apply below_alloc | apply pw_below_drewN | apply below_drew1 | refine below_set ?_ GE309.out) | exact HB.out)))); (case aL => have := LMc20.out; omega); intro v324 w25 ho hb hg hat; rw [← Ny323.out] at ho; have n0_ := Aside0.mk (blk_grown (g := gb309) (o := .cells (tabC a0) 24 (0, 0)) (by (with_reducible repeat (first | refine blk_drewN ?_ _ | refine blk_drew ?_ | refine blk_alloc ?_ _)); exact BK309.out) hg (Kd.R_ne HO_8.out BK309.out (by decide))); have n1_ := Aside0.mk (Kd.R_over' (by (with_reducible repeat (first | apply Kd.R_alloc | apply Kd.R_drewN | apply Kd.R_drew)); exact HO321.out) (Kd.R_typed (by (with_reducible repeat (first | apply Kd.R_alloc | apply Kd.R_drewN | apply Kd.R_drew)); exact HO_8.out)) (by decide) hg); have n2_ := Aside0.mk (hb); have n3_ := Aside0.mk (ho); clear BK309; clear HO321; clear HB; clear HO_8; have BK309 := n0_; have HO321 := n1_; have HB := n2_; have HO325 := n3_; clear n0_ n1_ n2_ n3_; clear ho hb hg hat))
                    go_roundg k1
                    case measure => have := HK1.out; omega
                    case rel => exact ⟨(t319), (y323), (wrap64 (x9_1 + 1)), (by first | rfl | (simp; done) | (simp [*]; done)), H', ⟨by have := HK1.out; omega⟩, ⟨by (with_reducible repeat (first | apply Kd.R_alloc | apply Kd.R_drewN | apply Kd.R_drew)); exact HO321.out⟩, ⟨by (with_reducible repeat (first | apply Kd.R_alloc | apply Kd.R_drewN | apply Kd.R_drew)); exact HO325.out⟩, ⟨by (with_reducible repeat (first | refine blk_drewN ?_ _ | refine blk_drew ?_ | refine blk_alloc ?_ _)); exact BK309.out⟩, ⟨by repeat (first | (with_reducible first | exact HB.out | apply below_alloc | apply pw_below_drewN | apply below_drew1 | refine below_set ?_ GE309.out) | exact HB.out)⟩⟩
                  · rw [if_neg c20] at H
                    exact absurd H (by simp)
                · rw [if_neg c19] at H
                  have c19b0 : (t322 == 0) = false := beq_eq_false_iff_ne.mpr c19
                  have c19b1 : (t322 != 0) = true := bne_iff_ne.mpr c19
                  obtain rfl := Option.some.inj H
                  have p317 : 0 ≤ (x9_1 : Int) := of_decide_eq_true (by first | (with_reducible assumption) | assumption)
                  have q317 : x9_1 < (l1.length : Int) := of_decide_eq_true (by first | (with_reducible assumption) | assumption)
                  obtain ⟨ad317, A317_0, c317_0, e317, hx317_0, hl317_0, hi317_0⟩ := at_L2 HR1.out x9_1 p317 q317
                  cases e317
                  replace hx317_0 := (HB.out.cell (World.block_lt_of_cell? w _ hx317_0)).trans hx317_0
                  have HR317_0 := Aside0.mk hi317_0
                  have HC317_0 := Aside0.mk hl317_0
                  clear hi317_0 hl317_0
                  replace p317 := eq_true p317
                  replace q317 := eq_true q317
                  try go_wp2
                  have n0_ := Aside0.mk (Kd.R_drew HO_7.out)
                  have n1_ := Aside0.mk (Kd.R_drew HO_8.out)
                  have n2_ := Aside0.mk (blk_drew BK309.out)
                  have n3_ := Aside0.mk (below_drew1 HB.out)
                  clear HO_7
                  clear HO_8
                  clear BK309
                  clear HB
                  have HO_7 := n0_
                  have HO_8 := n1_
                  have BK309 := n2_
                  have HB := n3_
                  clear n0_ n1_ n2_ n3_
                  have p318 : 0 ≤ (x9_1 : Int) := of_decide_eq_true (by first | (with_reducible assumption) | assumption)
                  have q318 : x9_1 < (l1.length : Int) := of_decide_eq_true (by first | (with_reducible assumption) | assumption)
                  obtain ⟨ad318, A318_0, c318_0, e318, hx318_0, hl318_0, hi318_0⟩ := at_L2 HR1.out x9_1 p318 q318
                  have hw318_0 := hx318_0
                  obtain rfl : ad317 = ad318 := (by injection e318)
                  replace hx318_0 := (HB.out.cell (World.block_lt_of_cell? w _ hx318_0)).trans hx318_0
                  have HR318_0 := Aside0.mk hi318_0
                  have HC318_0 := Aside0.mk hl318_0
                  clear hi318_0 hl318_0
                  replace p318 := eq_true p318
                  replace q318 := eq_true q318
                  obtain ⟨Ao27, co27, eo27⟩ := Kd.R_slice HO_7.out
                  (first | subst eo27 | (injection eo27 with f1_ f2_ f3_; have f4_ := f1_.symm; have f5_ := f3_.symm; clear f1_ f2_ f3_; subst f4_; subst f5_))
                  refine start_ (n := 12) (S := fun w' => (Instr.loadAt 24 (.pointer (some ⟨gb309, 0, none⟩))).run Try.prog w' = .ok (.agg (tabC a0)) w' ∧ w'.cell? (ad317.add (x9_1).toNat) = some (.slice A318_0 (rd_L2 l1 x9_1).length c318_0)) (ds := []) #[false, false, false, false, false, false, false, false, false, false, false, false] (by kernel_rfl) rfl rfl ⟨tab_loadAt Try.underlying24 (show (Try.prog.info? 24).map (·.size) = some 256 from by kernel_rfl) BK309.out, ((HB.out.cell (World.block_lt_of_cell? w _ hw318_0)).trans hw318_0)⟩ (fun hHeld => ?_); refine with_tabW punnetlaw07_FrameTorn.tab12 punnetlaw07_FrameTorn.bits12 (fun HT_ HW_ => ?_)
                  generalize wr.drew = w26 at HO_7 HO_8 BK309 HB HR318_0 hx318_0 hHeld ⊢
                  refine pure_ (i := 0) (N := some 35) (v := ?_) (a' := ?_) #[true, false, false, false, false, false, false, false, false, false, false, false] rfl rfl (any_of HT_.out (by kernel_rfl)) (fun _ _ _ h => h) (Or.inl ⟨by rfl, ?_⟩) ?_ ?_
                  rotate_left
                  · intro w'
                    go_simp
                    with_reducible rfl
                  rotate_left
                  · simp only [Act.put, List.setIfInBounds_toArray, List.set_cons_zero, List.set_cons_succ, i64_w, i32_w]
                    rfl
                  refine pure_ (i := 2) (N := some 37) (v := ?_) (a' := ?_) #[true, false, true, false, false, false, false, false, false, false, false, false] rfl rfl (any_of HT_.out (by kernel_rfl)) (fun _ _ _ h => h) (Or.inl ⟨by rfl, ?_⟩) ?_ ?_
                  rotate_left
                  · intro w'
                    go_simp
                    with_reducible rfl
                  rotate_left
                  · simp only [Act.put, List.setIfInBounds_toArray, List.set_cons_zero, List.set_cons_succ, i64_w, i32_w]
                    rfl
                  refine pure_ (i := 3) (N := some 38) (v := ?_) (a' := ?_) #[true, false, true, true, false, false, false, false, false, false, false, false] rfl rfl (any_of HT_.out (by kernel_rfl)) (fun _ _ _ h => h) (Or.inl ⟨by rfl, ?_⟩) ?_ ?_
                  rotate_left
                  · intro w'
                    go_simp
                    with_reducible rfl
                  rotate_left
                  · simp only [Act.put, List.setIfInBounds_toArray, List.set_cons_zero, List.set_cons_succ, i64_w, i32_w]
                    rfl
                  refine pure_ (i := 4) (N := some 39) (v := ?_) (a' := ?_) #[true, false, true, true, true, false, false, false, false, false, false, false] rfl rfl (any_of HT_.out (by kernel_rfl)) (fun _ _ _ h => h) (Or.inl ⟨by rfl, ?_⟩) ?_ ?_
                  rotate_left
                  · intro w'
                    go_simp
                    with_reducible rfl
                  rotate_left
                  · simp only [Act.put, List.setIfInBounds_toArray, List.set_cons_zero, List.set_cons_succ, i64_w, i32_w]
                    rfl
                  refine take_ (i := 1) (N := some 36) (v := ?_) (a' := ?_) #[true, true, true, true, true, false, false, false, false, false, false, false] rfl rfl (take_ofW HT_.out HW_.out (by kernel_rfl)) (fun _ _ _ h => h) (Or.inl ⟨by rfl, ?_⟩) hHeld ?_ ?_
                  rotate_left
                  · rintro w' ⟨s0, s1⟩
                    exact tab_exec rfl rfl (by assumption)
                  rotate_left
                  · simp only [Act.put, List.setIfInBounds_toArray, List.set_cons_zero, List.set_cons_succ, i64_w, i32_w]
                    rfl
                  refine take_ (i := 5) (N := some 40) (v := ?_) (a' := ?_) #[true, true, true, true, true, true, false, false, false, false, false, false] rfl rfl (take_ofW HT_.out HW_.out (by kernel_rfl)) (fun _ _ _ h => h) (Or.inl ⟨by rfl, ?_⟩) hHeld ?_ ?_
                  rotate_left
                  · rintro w' ⟨s0, s1⟩
                    go_simp
                    with_reducible rfl
                  rotate_left
                  · simp only [Act.put, List.setIfInBounds_toArray, List.set_cons_zero, List.set_cons_succ, i64_w, i32_w]
                    rfl
                  refine one_ (i := 6) (N := some 41) #[true, true, true, true, true, true, true, false, false, false, false, false] rfl rfl (one_of HT_.out (by kernel_rfl)) (by decide) (fun K hK => ?_)
                  refine goes_ Try.func20 (by kernel_rfl) rfl #[.slice Ao27 x7_1.length co27, .agg (tabC a0), .slice A318_0 (rd_L2 l1 x9_1).length c318_0] (by rfl) rfl rfl (by (try simp only [List.map_toArray, List.map_cons, List.map_nil]); first | done | rfl | (simp only [List.length_drop, List.length_take]; rfl)) ?_
                  with_reducible refine (frame_Put.calls k1 (fun k_ => some k_ = (.slice Ao27 x7_1.length co27 : Value).ownBlock) (.slice Ao27 x7_1.length co27) x7_1 a0 _ _ (rd_L2 l1 x9_1) t319 t322 w _ ?side1 ?side2 ?side3 ?side4 A18.out).mono ?_
                  (case side1 => repeat (first | (with_reducible first | exact HB.out | apply below_alloc | apply pw_below_drewN | apply below_drew1 | refine below_set ?_ GE309.out) | exact HB.out))
                  (case side2 => exact Kd.R_tight rfl HO_7.out)
                  (case side3 => exact Kd.C_kept_came (Kd.heap_int .u8) HR318_0.out (by repeat (first | (with_reducible first | exact HB.out | apply below_alloc | apply pw_below_drewN | apply below_drew1 | refine below_set ?_ GE309.out) | exact HB.out)) (fun k_ hs_ => (fun e_ => Kd.R_base HO_7.out k_ e_.symm) hs_))
                  (case side4 => exact HC318_0.out)
                  rintro e w28 ⟨v320, rfl, ho0, hb, hkp⟩
                  refine ⟨_, rfl, ?_⟩
                  have n0_ := Aside0.mk (Kd.R_mono (ok' := fun k_ => True) (Kd.R_keptB ((Kd.R_apart' HO_8.out (Kd.R_typed HO_7.out) (by decide))) hkp (fun k_ hk_ hs_ => (hk_.2) hs_)) (fun k_ hk_ => trivial))
                  have n1_ := Aside0.mk (blk_kept (by (with_reducible repeat (first | refine blk_drewN ?_ _ | refine blk_drew ?_ | refine blk_alloc ?_ _)); exact BK309.out) hkp (fun hs_ => (fun e_ => (Kd.R_ne HO_7.out BK309.out (by decide)) e_) hs_))
                  have n2_ := Aside0.mk (Kd.R_mono (ok' := fun k_ => True) ho0 (fun k_ hk_ => trivial))
                  have n3_ := Aside0.mk (hb)
                  clear HO_8
                  clear BK309
                  clear HB
                  clear HO_7
                  have HO_8 := n0_
                  have BK309 := n1_
                  have HO321 := n2_
                  have HB := n3_
                  clear n0_ n1_ n2_ n3_
                  (try clear hb)
                  (try clear hkp)
                  (try clear ho0)
                  refine hK.out _ _ ⟨tab_loadAt Try.underlying24 (show (Try.prog.info? 24).map (·.size) = some 256 from by kernel_rfl) BK309.out, ((HB.out.cell (World.block_lt_of_cell? w _ hw318_0)).trans hw318_0)⟩ (fun hHeld => ?_)
                  clear hK K
                  refine norm_ (a' := ?_) ?_ ?_
                  rotate_left
                  · show Act.put _ (some 41) _ = _
                    simp only [Act.put, List.setIfInBounds_toArray, List.set_cons_zero, List.set_cons_succ, i64_w, i32_w]
                    rfl
                  refine pure_ (i := 7) (N := some 34) (v := ?_) (a' := ?_) #[true, true, true, true, true, true, true, true, false, false, false, false] rfl rfl (any_of HT_.out (by kernel_rfl)) (fun _ _ _ h => h) (Or.inl ⟨by rfl, ?_⟩) ?_ ?_
                  rotate_left
                  · intro w'
                    go_simp
                    with_reducible rfl
                  rotate_left
                  · simp only [Act.put, List.setIfInBounds_toArray, List.set_cons_zero, List.set_cons_succ, i64_w, i32_w]
                    rfl
                  refine pure_ (i := 8) (N := some 42) (v := ?_) (a' := ?_) #[true, true, true, true, true, true, true, true, true, false, false, false] rfl rfl (any_of HT_.out (by kernel_rfl)) (fun _ _ _ h => h) (Or.inl ⟨by rfl, ?_⟩) ?_ ?_
                  rotate_left
                  · intro w'
                    go_simp
                    with_reducible rfl
                  rotate_left
                  · simp only [Act.put, List.setIfInBounds_toArray, List.set_cons_zero, List.set_cons_succ, i64_w, i32_w]
                    rfl
                  refine pure_ (i := 9) (N := some 43) (v := ?_) (a' := ?_) #[true, true, true, true, true, true, true, true, true, true, false, false] rfl rfl (any_of HT_.out (by kernel_rfl)) (fun _ _ _ h => h) (Or.inl ⟨by rfl, ?_⟩) ?_ ?_
                  rotate_left
                  · intro w'
                    go_simp
                    with_reducible rfl
                  rotate_left
                  · simp only [Act.put, List.setIfInBounds_toArray, List.set_cons_zero, List.set_cons_succ, i64_w, i32_w]
                    rfl
                  refine pure_ (i := 10) (N := some 10) (v := ?_) (a' := ?_) #[true, true, true, true, true, true, true, true, true, true, true, false] rfl rfl (any_of HT_.out (by kernel_rfl)) (fun _ _ _ h => h) (Or.inl ⟨by rfl, ?_⟩) ?_ ?_
                  rotate_left
                  · intro w'
                    go_simp
                    with_reducible rfl
                  rotate_left
                  · simp only [Act.put, List.setIfInBounds_toArray, List.set_cons_zero, List.set_cons_succ, i64_w, i32_w]
                    rfl
                  refine pure_ (i := 11) (N := some 11) (v := ?_) (a' := ?_) #[true, true, true, true, true, true, true, true, true, true, true, true] rfl rfl (any_of HT_.out (by kernel_rfl)) (fun _ _ _ h => h) (Or.inl ⟨by rfl, ?_⟩) ?_ ?_
                  rotate_left
                  · intro w'
                    go_simp
                    with_reducible rfl
                  rotate_left
                  · simp only [Act.put, List.setIfInBounds_toArray, List.set_cons_zero, List.set_cons_succ, i64_w, i32_w]
                    rfl
                  refine done_ (done_of HT_.out (by kernel_rfl)) ?_
                  try go_wp2
                  go_ret
                  exact ⟨by first | rfl | (simp [errW_none, errW_some] <;> rfl) | (simp [*, errW_none, errW_some] <;> rfl), by repeat (first | (with_reducible first | exact HB.out | apply below_alloc | apply pw_below_drewN | apply below_drew1 | refine below_set ?_ GE309.out) | exact HB.out)⟩
            · rw [if_neg c16] at H
              exact absurd H (by simp)
          · rw [if_neg c15] at H
            have c15b0 : decide (x9_1 < (l1.length : Int)) = false := decide_eq_false c15
            clear c15
            have HC29 := Aside0.mk H
            clear H
            go_upto_region 17 with (fail)
            go_cut [59] (fun v59 wc => ∃ (kq : Nat) (x59_28 : Bool), v59 = .bool x59_28 ∧ Aside0 (punnetlaw07_FrameTorn.j1 kq l1 a2 x7_1 x8_1 x59_28 a0 = some r) ∧ Aside0 (kq ≤ k1) ∧ Aside0 (Kd.R (Kd.int .u8) 5 wc w.heap.size (fun _ => True) u7 x7_1) ∧ Aside0 (Kd.R (Kd.int .i64) 3 wc w.heap.size (fun _ => True) u8 x8_1) ∧ Aside0 (wc.heap[gb309]? = some (.cells (tabC a0) 24 (0, 0))) ∧ Aside0 (Below w.heap.size w wc))
            case first =>
              have H := HC29.out
              clear HC29
              by_cases c30 : a2 < 0
              · rw [if_pos c30] at H
                have c30b0 : decide (a2 < 0) = true := decide_eq_true c30
                clear c30
                (first | rw [c30b0] | (simp only [i64_w, i32_w]; rw [c30b0]) | skip)
                have H' := Aside0.mk H
                clear H
                go_wp2
                go_meet
                case rel => exact ⟨_, (true), (by first | rfl | (simp; done) | (simp [*]; done)), H', ⟨by have := HK1.out; first | omega | exact Nat.le_refl _⟩, ⟨by (with_reducible repeat (first | apply Kd.R_alloc | apply Kd.R_drewN | apply Kd.R_drew)); exact HO_7.out⟩, ⟨by (with_reducible repeat (first | apply Kd.R_alloc | apply Kd.R_drewN | apply Kd.R_drew)); exact HO_8.out⟩, ⟨by (with_reducible repeat (first | refine blk_drewN ?_ _ | refine blk_drew ?_ | refine blk_alloc ?_ _)); exact BK309.out⟩, ⟨by repeat (first | (with_reducible first | exact HB.out | apply below_alloc | apply pw_below_drewN | apply below_drew1 | refine below_set ?_ GE309.out) | exact HB.out)⟩⟩
              · rw [if_neg c30] at H
                have c30b0 : decide (a2 < 0) = false := decide_eq_false c30
                clear c30
                (first | rw [c30b0] | (simp only [i64_w, i32_w]; rw [c30b0]) | skip)
                have H' := Aside0.mk H
                clear H
                obtain ⟨Ao31, co31, eo31⟩ := Kd.R_slice HO_7.out
                subst eo31
                go_wp2
                go_meet
                case rel => exact ⟨_, (decide (a2 > (x7_1.length : Int))), (by first | rfl | (simp; done) | (simp [*]; done)), H', ⟨by have := HK1.out; first | omega | exact Nat.le_refl _⟩, ⟨by (with_reducible repeat (first | apply Kd.R_alloc | apply Kd.R_drewN | apply Kd.R_drew)); exact HO_7.out⟩, ⟨by (with_reducible repeat (first | apply Kd.R_alloc | apply Kd.R_drewN | apply Kd.R_drew)); exact HO_8.out⟩, ⟨by (with_reducible repeat (first | refine blk_drewN ?_ _ | refine blk_drew ?_ | refine blk_alloc ?_ _)); exact BK309.out⟩, ⟨by repeat (first | (with_reducible first | exact HB.out | apply below_alloc | apply pw_below_drewN | apply below_drew1 | refine below_set ?_ GE309.out) | exact HB.out)⟩⟩
            case rest =>
              clear HC29
              try clear c1
              try clear c2
              try clear p2
              try clear c3
              try clear p3
              try clear q3
              try clear hx3
              try clear c5
              try clear c6
              try clear c6b0
              try clear c6b1
              try clear p6
              try clear c9
              try clear c15
              try clear c15b0
              try clear c16
              try clear c16b0
              try clear c17
              try clear c17b0
              try clear c17b1
              try clear c19
              try clear c19b0
              try clear c19b1
              try clear c20
              try clear c30
              try clear c30b0
              try clear c31
              try clear p31
              try clear q31
              try clear hx31
              try clear hx317_0
              try clear hx318_0
              try clear p2
              try clear p317
              try clear p318
              try clear q317
              try clear q318
              obtain ⟨kq, x59_28, rfl, HA, HJ28, HO_7, HO_8, BK309, HB⟩ := hcut
              cases kq with
              | zero => exact absurd HA.out (by simp [punnetlaw07_FrameTorn.j1])
              | succ kj28 =>
                have H := HA.out
                clear HA
                simp only [punnetlaw07_FrameTorn.j1] at H
                have HC32 := Aside0.mk H
                clear H
                go_upto_if 59 with (fail)
                go_cut [2] (fun v2 wc => ∃ (kq : Nat) (x2_31 : Int), v2 = .int .i64 x2_31 ∧ Aside0 (punnetlaw07_FrameTorn.j2 kq l1 x2_31 x7_1 x8_1 a0 = some r) ∧ Aside0 (kq ≤ kj28) ∧ Aside0 (Kd.R (Kd.int .u8) 5 wc w.heap.size (fun _ => True) u7 x7_1) ∧ Aside0 (Kd.R (Kd.int .i64) 3 wc w.heap.size (fun _ => True) u8 x8_1) ∧ Aside0 (wc.heap[gb309]? = some (.cells (tabC a0) 24 (0, 0))) ∧ Aside0 (Below w.heap.size w wc))
                case first =>
                  have H := HC32.out
                  clear HC32
                  by_cases c33 : x59_28 = true
                  · subst c33
                    have H1 : (punnetlaw07_FrameTorn.j2 kj28 l1 (x7_1.length : Int) x7_1 x8_1 a0) = some r := by rw [if_pos rfl] at H; exact H
                    clear H
                    have H := H1
                    clear H1
                    have H' := Aside0.mk H
                    clear H
                    obtain ⟨Ao34, co34, eo34⟩ := Kd.R_slice HO_7.out
                    subst eo34
                    go_wp2
                    go_meet
                    case rel => exact ⟨_, ((x7_1.length : Int)), (by first | rfl | (simp; done) | (simp [*]; done)), H', ⟨by have := HK1.out; have := HJ28.out; first | omega | exact Nat.le_refl _⟩, ⟨by (with_reducible repeat (first | apply Kd.R_alloc | apply Kd.R_drewN | apply Kd.R_drew)); exact HO_7.out⟩, ⟨by (with_reducible repeat (first | apply Kd.R_alloc | apply Kd.R_drewN | apply Kd.R_drew)); exact HO_8.out⟩, ⟨by (with_reducible repeat (first | refine blk_drewN ?_ _ | refine blk_drew ?_ | refine blk_alloc ?_ _)); exact BK309.out⟩, ⟨by repeat (first | (with_reducible first | exact HB.out | apply below_alloc | apply pw_below_drewN | apply below_drew1 | refine below_set ?_ GE309.out) | exact HB.out)⟩⟩
                  · replace c33 := Bool.eq_false_iff.mpr c33
                    subst c33
                    have H1 : (punnetlaw07_FrameTorn.j2 kj28 l1 a2 x7_1 x8_1 a0) = some r := by rw [if_neg (show ¬ (false = true) by decide)] at H; exact H
                    clear H
                    have H := H1
                    clear H1
                    have H' := Aside0.mk H
                    clear H
                    go_wp2
                    go_meet
                    case rel => exact ⟨_, (a2), (by first | rfl | (simp; done) | (simp [*]; done)), H', ⟨by have := HK1.out; have := HJ28.out; first | omega | exact Nat.le_refl _⟩, ⟨by (with_reducible repeat (first | apply Kd.R_alloc | apply Kd.R_drewN | apply Kd.R_drew)); exact HO_7.out⟩, ⟨by (with_reducible repeat (first | apply Kd.R_alloc | apply Kd.R_drewN | apply Kd.R_drew)); exact HO_8.out⟩, ⟨by (with_reducible repeat (first | refine blk_drewN ?_ _ | refine blk_drew ?_ | refine blk_alloc ?_ _)); exact BK309.out⟩, ⟨by repeat (first | (with_reducible first | exact HB.out | apply below_alloc | apply pw_below_drewN | apply below_drew1 | refine below_set ?_ GE309.out) | exact HB.out)⟩⟩
                case rest =>
                  clear HC32
                  try clear c1
                  try clear c2
                  try clear p2
                  try clear c3
                  try clear p3
                  try clear q3
                  try clear hx3
                  try clear c5
                  try clear c6
                  try clear c6b0
                  try clear c6b1
                  try clear p6
                  try clear c9
                  try clear c15
                  try clear c15b0
                  try clear c16
                  try clear c16b0
                  try clear c17
                  try clear c17b0
                  try clear c17b1
                  try clear c19
                  try clear c19b0
                  try clear c19b1
                  try clear c20
                  try clear c30
                  try clear c30b0
                  try clear c31
                  try clear p31
                  try clear q31
                  try clear hx31
                  try clear c33
                  try clear hx317_0
                  try clear hx318_0
                  try clear p2
                  try clear p3
                  try clear p31
                  try clear p317
                  try clear p318
                  try clear p6
                  try clear q3
                  try clear q31
                  try clear q317
                  try clear q318
                  obtain ⟨kq, x2_31, rfl, HA, HJ31, HO_7, HO_8, BK309, HB⟩ := hcut
                  cases kq with
                  | zero => exact absurd HA.out (by simp [punnetlaw07_FrameTorn.j2])
                  | succ kj31 =>
                    have H := HA.out
                    clear HA
                    simp only [punnetlaw07_FrameTorn.j2] at H
                    have H' := Aside0.mk H
                    clear H
                    go_wp2
                    go_loopg [12] kj31 (fun kq v12 w' => ∃ (x12_4 : Int), v12 = .int .i64 x12_4 ∧ Aside0 (punnetlaw07_FrameTorn.l1 kq l1 x2_31 x7_1 x8_1 x12_4 a0 = some r) ∧ Aside0 (kq ≤ kj31) ∧ Aside0 (Kd.R (Kd.int .u8) 5 w' w.heap.size (fun _ => True) u7 x7_1) ∧ Aside0 (Kd.R (Kd.int .i64) 3 w' w.heap.size (fun _ => True) u8 x8_1) ∧ Aside0 (w'.heap[gb309]? = some (.cells (tabC a0) 24 (0, 0))) ∧ Aside0 (Below w.heap.size w w'))
                    case atStart => exact ⟨(0), (by first | rfl | (simp; done) | (simp [*]; done)), H', ⟨Nat.le_refl _⟩, ⟨by (with_reducible repeat (first | apply Kd.R_alloc | apply Kd.R_drewN | apply Kd.R_drew)); exact HO_7.out⟩, ⟨by (with_reducible repeat (first | apply Kd.R_alloc | apply Kd.R_drewN | apply Kd.R_drew)); exact HO_8.out⟩, ⟨by (with_reducible repeat (first | refine blk_drewN ?_ _ | refine blk_drew ?_ | refine blk_alloc ?_ _)); exact BK309.out⟩, ⟨by repeat (first | (with_reducible first | exact HB.out | apply below_alloc | apply pw_below_drewN | apply below_drew1 | refine below_set ?_ GE309.out) | exact HB.out)⟩⟩
                    case round =>
                      clear H'
                      try clear c1
                      try clear c2
                      try clear p2
                      try clear c3
                      try clear p3
                      try clear q3
                      try clear hx3
                      try clear c5
                      try clear c6
                      try clear c6b0
                      try clear c6b1
                      try clear p6
                      try clear c9
                      try clear c15
                      try clear c15b0
                      try clear c16
                      try clear c16b0
                      try clear c17
                      try clear c17b0
                      try clear c17b1
                      try clear c19
                      try clear c19b0
                      try clear c19b1
                      try clear c20
                      try clear c30
                      try clear c30b0
                      try clear c31
                      try clear p31
                      try clear q31
                      try clear hx31
                      try clear c33
                      try clear hx317_0
                      try clear hx318_0
                      try clear p2
                      try clear p3
                      try clear p31
                      try clear p317
                      try clear p318
                      try clear p6
                      try clear q3
                      try clear q31
                      try clear q317
                      try clear q318
                      obtain ⟨x12_4, rfl, HA, HK4, HO_7, HO_8, BK309, HB⟩ := hrel
                      cases gk with
                      | zero => exact absurd HA.out (by simp [punnetlaw07_FrameTorn.l1])
                      | succ k4 =>
                        have H := HA.out
                        clear HA
                        simp only [punnetlaw07_FrameTorn.l1] at H
                        by_cases c35 : 0 ≤ x12_4
                        · rw [if_pos c35] at H
                          have c35b0 : decide (0 ≤ x12_4) = true := decide_eq_true c35
                          clear c35
                          by_cases c36 : x12_4 < (x8_1.length : Int)
                          · rw [if_pos c36] at H
                            have c36b0 : decide (x12_4 < (x8_1.length : Int)) = true := decide_eq_true c36
                            clear c36
                            by_cases c37 : (rd x8_1 x12_4) ≤ x2_31
                            · rw [if_pos c37] at H
                              have c37b0 : decide ((rd x8_1 x12_4) ≤ x2_31) = true := decide_eq_true c37
                              clear c37
                              by_cases c38 : x12_4 < (l1.length : Int)
                              · rw [if_pos c38] at H
                                have c38b0 : decide (x12_4 < (l1.length : Int)) = true := decide_eq_true c38
                                clear c38
                                obtain ⟨ji39, hji39⟩ : ∃ j_ : Int, (wrap64 (x12_4 + 1)) = j_ := ⟨_, rfl⟩
                                replace H : (if 0 ≤ (ji39) then (if (ji39) < (x8_1.length : Int) then (if (rd x8_1 (ji39)) ≤ x2_31 then (punnetlaw07_FrameTorn.l1 k4 l1 x2_31 x7_1 x8_1 ji39 a0) else (if 0 ≤ x2_31 then (if x2_31 ≤ (x7_1.length : Int) then ((frame_Scan.f k4 (x7_1.take (x2_31 : Int).toNat) a0).bind fun bt332 => (if bt332.2 = (rd x8_1 x12_4) then (if x12_4 ≤ (l1.length : Int) then ((punnetref07_Same.f k4 bt332.1 (l1.take (x12_4 : Int).toNat)).bind fun t341 => (some t341)) else (none)) else (some false))) else (none)) else (none))) else (none)) else (none)) = some r := by first | (rw [hji39] at H; exact H) | (simp only [hji39] at H ⊢; exact H)
                                have hji39w : (IntKind.i64.wrap (x12_4 + 1)) = ji39 := (i64_w _).trans hji39
                                by_cases c40 : 0 ≤ (ji39)
                                · rw [if_pos c40] at H
                                  have c40b0 : decide (0 ≤ (ji39)) = true := decide_eq_true c40
                                  clear c40
                                  by_cases c41 : (ji39) < (x8_1.length : Int)
                                  · rw [if_pos c41] at H
                                    have c41b0 : decide ((ji39) < (x8_1.length : Int)) = true := decide_eq_true c41
                                    clear c41
                                    by_cases c42 : (rd x8_1 (ji39)) ≤ x2_31
                                    · rw [if_pos c42] at H
                                      have c42b0 : decide ((rd x8_1 (ji39)) ≤ x2_31) = true := decide_eq_true c42
                                      clear c42
                                      have H' := Aside0.mk H
                                      clear H
                                      obtain ⟨Ao43, co43, eo43⟩ := Kd.R_slice HO_8.out
                                      subst eo43
                                      have p326 : 0 ≤ (x12_4 : Int) := of_decide_eq_true (by first | (with_reducible assumption) | assumption)
                                      have q326 : x12_4 < (x8_1.length : Int) := of_decide_eq_true (by first | (with_reducible assumption) | assumption)
                                      obtain ⟨ad326, e326, hx326_0⟩ := Kd.at_int (Kd.R_reads' HO_8.out).2.2 x12_4 p326 q326
                                      cases e326
                                      replace p326 := eq_true p326
                                      replace q326 := eq_true q326
                                      have p327 : 0 ≤ ((ji39) : Int) := of_decide_eq_true (by first | (with_reducible assumption) | assumption)
                                      have q327 : (ji39) < (x8_1.length : Int) := of_decide_eq_true (by first | (with_reducible assumption) | assumption)
                                      obtain ⟨ad327, e327, hx327_0⟩ := Kd.at_int (Kd.R_reads' HO_8.out).2.2 (ji39) p327 q327
                                      obtain rfl : ad326 = ad327 := (by injection e327)
                                      replace p327 := eq_true p327
                                      replace q327 := eq_true q327
                                      go_wp2
                                      go_roundg k4
                                      case measure => have := HK1.out; have := HJ28.out; have := HJ31.out; have := HK4.out; omega
                                      case rel => exact ⟨(ji39), (by first | rfl | (simp; done) | (simp only [← hji39] <;> (first | rfl | simp)) | (simp [*]; done)), H', ⟨by have := HK1.out; have := HJ28.out; have := HJ31.out; have := HK4.out; omega⟩, ⟨by (with_reducible repeat (first | apply Kd.R_alloc | apply Kd.R_drewN | apply Kd.R_drew)); exact HO_7.out⟩, ⟨by (with_reducible repeat (first | apply Kd.R_alloc | apply Kd.R_drewN | apply Kd.R_drew)); exact HO_8.out⟩, ⟨by (with_reducible repeat (first | refine blk_drewN ?_ _ | refine blk_drew ?_ | refine blk_alloc ?_ _)); exact BK309.out⟩, ⟨by repeat (first | (with_reducible first | exact HB.out | apply below_alloc | apply pw_below_drewN | apply below_drew1 | refine below_set ?_ GE309.out) | exact HB.out)⟩⟩
                                    · rw [if_neg c42] at H
                                      have c42b0 : decide ((rd x8_1 (ji39)) ≤ x2_31) = false := decide_eq_false c42
                                      clear c42
                                      by_cases c44 : 0 ≤ x2_31
                                      · rw [if_pos c44] at H
                                        have c44b0 := eq_true c44
                                        have c44b1 : decide (0 ≤ x2_31) = true := decide_eq_true c44
                                        clear c44
                                        by_cases c45 : x2_31 ≤ (x7_1.length : Int)
                                        · rw [if_pos c45] at H
                                          have c45b0 := eq_true c45
                                          have c45b1 : decide (x2_31 ≤ (x7_1.length : Int)) = true := decide_eq_true c45
                                          clear c45
                                          obtain ⟨y328, hy328⟩ : ∃ y_ : List Int, y_ = (x7_1.take (x2_31 : Int).toNat) := ⟨_, rfl⟩
                                          replace H : ((frame_Scan.f k4 y328 a0).bind fun bt332 => (if bt332.2 = (rd x8_1 x12_4) then (if x12_4 ≤ (l1.length : Int) then ((punnetref07_Same.f k4 bt332.1 (l1.take (x12_4 : Int).toNat)).bind fun t341 => (some t341)) else (none)) else (some false))) = some r := by first | (rw [hy328]; with_reducible exact H) | (have H2_ := (Option.bind_some _ _).symm.trans H; rw [hy328]; with_reducible exact H2_) | (have H2_ := (Option.bind_some _ _).symm.trans H; with_reducible exact H2_) | with_reducible exact H | (rw [hy328]; exact H) | exact H
                                          have Ny328 := Aside0.mk hy328
                                          clear hy328
                                          replace H := Option.bind_eq_some_iff.mp H
                                          obtain ⟨⟨t332, t333⟩, A460, H⟩ := H
                                          replace H : (if t333 = (rd x8_1 x12_4) then (if x12_4 ≤ (l1.length : Int) then ((punnetref07_Same.f k4 t332 (l1.take (x12_4 : Int).toNat)).bind fun t341 => (some t341)) else (none)) else (some false)) = some r := H
                                          have A46 := Aside0.mk A460
                                          clear A460
                                          by_cases c47 : t333 = (rd x8_1 x12_4)
                                          · rw [if_pos c47] at H
                                            have c47b0 : (t333 == (rd x8_1 x12_4)) = true := beq_iff_eq.mpr c47
                                            have c47b1 : (t333 != (rd x8_1 x12_4)) = false := bne_eq_false_iff_eq.mpr c47
                                            clear c47
                                            have c48b0 := eq_true (of_decide_eq_true (by first | (with_reducible assumption) | assumption) : 0 ≤ x12_4)
                                            by_cases c49 : x12_4 ≤ (l1.length : Int)
                                            · rw [if_pos c49] at H
                                              have c49b0 := eq_true c49
                                              have c49b1 : decide (x12_4 ≤ (l1.length : Int)) = true := decide_eq_true c49
                                              clear c49
                                              obtain ⟨y337, hy337⟩ : ∃ y_ : List (List Int), y_ = (l1.take (x12_4 : Int).toNat) := ⟨_, rfl⟩
                                              replace H : ((punnetref07_Same.f k4 t332 y337).bind fun t341 => (some t341)) = some r := by first | (rw [hy337]; with_reducible exact H) | (have H2_ := (Option.bind_some _ _).symm.trans H; rw [hy337]; with_reducible exact H2_) | (have H2_ := (Option.bind_some _ _).symm.trans H; with_reducible exact H2_) | with_reducible exact H | (rw [hy337]; exact H) | exact H
                                              have Ny337 := Aside0.mk hy337
                                              clear hy337
                                              replace H := Option.bind_eq_some_iff.mp H
                                              obtain ⟨t341, A500, H⟩ := H
                                              replace H : (some t341) = some r := H
                                              have A50 := Aside0.mk A500
                                              clear A500
                                              obtain rfl := Option.some.inj H
                                              obtain ⟨Ao51, co51, eo51⟩ := Kd.R_slice HO_8.out
                                              subst eo51
                                              have p326 : 0 ≤ (x12_4 : Int) := of_decide_eq_true (by first | (with_reducible assumption) | assumption)
                                              have q326 : x12_4 < (x8_1.length : Int) := of_decide_eq_true (by first | (with_reducible assumption) | assumption)
                                              obtain ⟨ad326, e326, hx326_0⟩ := Kd.at_int (Kd.R_reads' HO_8.out).2.2 x12_4 p326 q326
                                              cases e326
                                              replace p326 := eq_true p326
                                              replace q326 := eq_true q326
                                              have p327 : 0 ≤ ((ji39) : Int) := of_decide_eq_true (by first | (with_reducible assumption) | assumption)
                                              have q327 : (ji39) < (x8_1.length : Int) := of_decide_eq_true (by first | (with_reducible assumption) | assumption)
                                              obtain ⟨ad327, e327, hx327_0⟩ := Kd.at_int (Kd.R_reads' HO_8.out).2.2 (ji39) p327 q327
                                              obtain rfl : ad326 = ad327 := (by injection e327)
                                              replace p327 := eq_true p327
                                              replace q327 := eq_true q327
                                              try go_wp2
                                              have n0_ := Aside0.mk (Kd.R_drew HO_7.out)
                                              have n1_ := Aside0.mk (Kd.R_drew HO_8.out)
                                              have n2_ := Aside0.mk (blk_drew BK309.out)
                                              have n3_ := Aside0.mk (below_drew1 HB.out)
                                              clear HO_7
                                              clear HO_8
                                              clear BK309
                                              clear HB
                                              have HO_7 := n0_
                                              have HO_8 := n1_
                                              have BK309 := n2_
                                              have HB := n3_
                                              clear n0_ n1_ n2_ n3_
                                              obtain ⟨Ao54, co54, eo54⟩ := Kd.R_slice HO_7.out
                                              (first | subst eo54 | (injection eo54 with f1_ f2_ f3_; have f4_ := f1_.symm; have f5_ := f3_.symm; clear f1_ f2_ f3_; subst f4_; subst f5_))
                                              have q53 : (x2_31 : Int) ≤ ((x7_1.length : Int) : Int) := of_decide_eq_true (by first | (with_reducible assumption) | assumption)
                                              obtain ⟨i053, hi053, _, hsz53, _⟩ := info_parts info5
                                              have hroom53 : x7_1.length ≤ co54 := (Kd.R_reads' HO_7.out).2.1
                                              have hC53 : Kd.C (Kd.int .u8) _ Ao54 x7_1.length x7_1 := (Kd.R_reads' HO_7.out).2.2
                                              have hcut53 := cut_to (P := Try.prog) 25 5 .i64 Try.underlying25 hi053 Ao54 x7_1.length co54 x2_31 (of_decide_eq_true (by first | (with_reducible assumption) | assumption)) q53 hroom53
                                              have hr53 := Kd.C_take (m := (x2_31 : Int).toNat) hC53 (by omega)
                                              have hy53 : y328.length = (x2_31 : Int).toNat := (by rw [Ny328.out, List.length_take]; omega)
                                              rw [← Ny328.out] at hr53
                                              rw [← hy53] at hcut53
                                              have HR331 := Aside0.mk hr53
                                              have HC331 := Aside0.mk (show y328.length ≤ co54 from by omega)
                                              clear hr53 hC53 hroom53 hi053 hsz53
                                              have KY53 := Aside0.mk hy53
                                              clear hy53
                                              have KL53 := Aside0.mk (show (x2_31 : Int).toNat ≤ x7_1.length from by omega)
                                              replace q53 := eq_true q53
                                              refine start_ (n := 10) (S := fun w' => (Instr.loadAt 24 (.pointer (some ⟨gb309, 0, none⟩))).run Try.prog w' = .ok (.agg (tabC a0)) w') (ds := []) #[false, false, false, false, false, false, false, false, false, false] (by kernel_rfl) rfl rfl (tab_loadAt Try.underlying24 (show (Try.prog.info? 24).map (·.size) = some 256 from by kernel_rfl) BK309.out) (fun hHeld => ?_); refine with_tabW punnetlaw07_FrameTorn.tab22 punnetlaw07_FrameTorn.bits22 (fun HT_ HW_ => ?_)
                                              generalize wr.drew = w52 at HO_7 HO_8 BK309 HB HR331 hHeld ⊢
                                              refine pure_ (i := 0) (N := some 86) (v := ?_) (a' := ?_) #[true, false, false, false, false, false, false, false, false, false] rfl rfl (any_of HT_.out (by kernel_rfl)) (fun _ _ _ h => h) (Or.inl ⟨by rfl, ?_⟩) ?_ ?_
                                              rotate_left
                                              · intro w'
                                                go_simp
                                                with_reducible rfl
                                              rotate_left
                                              · simp only [Act.put, List.setIfInBounds_toArray, List.set_cons_zero, List.set_cons_succ, i64_w, i32_w]
                                                rfl
                                              refine pure_ (i := 1) (N := some 87) (v := ?_) (a' := ?_) #[true, true, false, false, false, false, false, false, false, false] rfl rfl (any_of HT_.out (by kernel_rfl)) (fun _ _ _ h => h) (Or.inl ⟨by rfl, ?_⟩) ?_ ?_
                                              rotate_left
                                              · intro w'
                                                go_simp
                                                with_reducible rfl
                                              rotate_left
                                              · simp only [Act.put, List.setIfInBounds_toArray, List.set_cons_zero, List.set_cons_succ, i64_w, i32_w]
                                                rfl
                                              refine pure_ (i := 2) (N := some 88) (v := ?_) (a' := ?_) #[true, true, true, false, false, false, false, false, false, false] rfl rfl (any_of HT_.out (by kernel_rfl)) (fun _ _ _ h => h) (Or.inl ⟨by rfl, ?_⟩) ?_ ?_
                                              rotate_left
                                              · intro w'
                                                go_simp
                                                with_reducible rfl
                                              rotate_left
                                              · simp only [Act.put, List.setIfInBounds_toArray, List.set_cons_zero, List.set_cons_succ, i64_w, i32_w]
                                                rfl
                                              refine take_ (i := 3) (N := some 89) (v := ?_) (a' := ?_) #[true, true, true, true, false, false, false, false, false, false] rfl rfl (take_ofW HT_.out HW_.out (by kernel_rfl)) (fun _ _ _ h => h) (Or.inl ⟨by rfl, ?_⟩) hHeld ?_ ?_
                                              rotate_left
                                              · intro w' s0
                                                exact tab_exec rfl rfl (by assumption)
                                              rotate_left
                                              · simp only [Act.put, List.setIfInBounds_toArray, List.set_cons_zero, List.set_cons_succ, i64_w, i32_w]
                                                rfl
                                              refine one_ (i := 4) (N := some 90) #[true, true, true, true, true, false, false, false, false, false] rfl rfl (one_of HT_.out (by kernel_rfl)) (by decide) (fun K hK => ?_)
                                              refine goes_ Try.func24 (by kernel_rfl) rfl #[.slice Ao54 y328.length co54, .agg (tabC a0)] (by rfl) rfl rfl (by (try simp only [List.map_toArray, List.map_cons, List.map_nil]); first | done | rfl | (simp only [List.length_drop, List.length_take]; rfl)) ?_
                                              with_reducible refine (frame_Scan.calls k4 _ _ y328 a0 t332 t333 _ ?side1 ?side2 A46.out).mono ?_
                                              (case side1 => repeat (first | exact (by repeat (first | (with_reducible exact HR331.out) | (with_reducible refine Kd.C_alloc ?_ _) | (with_reducible refine Kd.C_drewN ?_ _) | (with_reducible refine Kd.C_drew ?_) | exact HR331.out)) | (with_reducible refine Kd.C_alloc ?_ _) | (with_reducible refine Kd.C_drewN ?_ _) | (with_reducible refine Kd.C_drew ?_)))
                                              (case side2 => exact HC331.out)
                                              rintro e w55 ⟨v334, rfl, ho0, hb⟩
                                              refine ⟨_, rfl, ?_⟩
                                              have n0_ := Aside0.mk (Kd.R_below (by (with_reducible repeat (first | apply Kd.R_alloc | apply Kd.R_drewN | apply Kd.R_drew)); exact HO_7.out) hb)
                                              have n1_ := Aside0.mk (Kd.R_below (by (with_reducible repeat (first | apply Kd.R_alloc | apply Kd.R_drewN | apply Kd.R_drew)); exact HO_8.out) hb)
                                              have n2_ := Aside0.mk (Kd.S_lower (Kd.S_new' ho0 (Kd.R_lt (by (with_reducible repeat (first | apply Kd.R_alloc | apply Kd.R_drewN | apply Kd.R_drew)); exact HO_7.out))) (below_size (by repeat (first | (with_reducible first | exact HB.out | apply below_alloc | apply pw_below_drewN | apply below_drew1 | refine below_set ?_ GE309.out) | exact HB.out))))
                                              have n3_ := Aside0.mk (blk_below (g := gb309) (o := .cells (tabC a0) 24 (0, 0)) (by (with_reducible repeat (first | refine blk_drewN ?_ _ | refine blk_drew ?_ | refine blk_alloc ?_ _)); exact BK309.out) hb)
                                              have n4_ := Aside0.mk (Kd.C_below (by repeat (first | (with_reducible exact HR331.out) | (with_reducible refine Kd.C_alloc ?_ _) | (with_reducible refine Kd.C_drewN ?_ _) | (with_reducible refine Kd.C_drew ?_) | exact HR331.out)) hb)
                                              have n5_ := Aside0.mk (below_step (by repeat (first | (with_reducible first | exact HB.out | apply below_alloc | apply pw_below_drewN | apply below_drew1 | refine below_set ?_ GE309.out) | exact HB.out)) hb)
                                              clear HO_7
                                              clear HO_8
                                              clear BK309
                                              clear HR331
                                              clear HB
                                              have HO_7 := n0_
                                              have HO_8 := n1_
                                              have HO335 := n2_
                                              have BK309 := n3_
                                              have HR331 := n4_
                                              have HB := n5_
                                              clear n0_ n1_ n2_ n3_ n4_ n5_
                                              (try clear hb)
                                              (try clear hb2)
                                              (try clear hk)
                                              (try clear hi)
                                              (try clear ho0)
                                              refine hK.out _ _ (tab_loadAt Try.underlying24 (show (Try.prog.info? 24).map (·.size) = some 256 from by kernel_rfl) BK309.out) (fun hHeld => ?_)
                                              clear hK K
                                              refine norm_ (a' := ?_) ?_ ?_
                                              rotate_left
                                              · show Act.put _ (some 90) _ = _
                                                simp only [Act.put, List.setIfInBounds_toArray, List.set_cons_zero, List.set_cons_succ, i64_w, i32_w]
                                                rfl
                                              refine pure_ (i := 5) (N := some 85) (v := ?_) (a' := ?_) #[true, true, true, true, true, true, false, false, false, false] rfl rfl (any_of HT_.out (by kernel_rfl)) (fun _ _ _ h => h) (Or.inl ⟨by rfl, ?_⟩) ?_ ?_
                                              rotate_left
                                              · intro w'
                                                go_simp
                                                with_reducible rfl
                                              rotate_left
                                              · simp only [Act.put, List.setIfInBounds_toArray, List.set_cons_zero, List.set_cons_succ, i64_w, i32_w]
                                                rfl
                                              refine pure_ (i := 6) (N := some 91) (v := ?_) (a' := ?_) #[true, true, true, true, true, true, true, false, false, false] rfl rfl (any_of HT_.out (by kernel_rfl)) (fun _ _ _ h => h) (Or.inl ⟨by rfl, ?_⟩) ?_ ?_
                                              rotate_left
                                              · intro w'
                                                go_simp
                                                with_reducible rfl
                                              rotate_left
                                              · simp only [Act.put, List.setIfInBounds_toArray, List.set_cons_zero, List.set_cons_succ, i64_w, i32_w]
                                                rfl
                                              refine pure_ (i := 7) (N := some 92) (v := ?_) (a' := ?_) #[true, true, true, true, true, true, true, true, false, false] rfl rfl (any_of HT_.out (by kernel_rfl)) (fun _ _ _ h => h) (Or.inl ⟨by rfl, ?_⟩) ?_ ?_
                                              rotate_left
                                              · intro w'
                                                go_simp
                                                with_reducible rfl
                                              rotate_left
                                              · simp only [Act.put, List.setIfInBounds_toArray, List.set_cons_zero, List.set_cons_succ, i64_w, i32_w]
                                                rfl
                                              refine pure_ (i := 8) (N := some 13) (v := ?_) (a' := ?_) #[true, true, true, true, true, true, true, true, true, false] rfl rfl (any_of HT_.out (by kernel_rfl)) (fun _ _ _ h => h) (Or.inl ⟨by rfl, ?_⟩) ?_ ?_
                                              rotate_left
                                              · intro w'
                                                go_simp
                                                with_reducible rfl
                                              rotate_left
                                              · simp only [Act.put, List.setIfInBounds_toArray, List.set_cons_zero, List.set_cons_succ, i64_w, i32_w]
                                                rfl
                                              refine pure_ (i := 9) (N := some 14) (v := ?_) (a' := ?_) #[true, true, true, true, true, true, true, true, true, true] rfl rfl (any_of HT_.out (by kernel_rfl)) (fun _ _ _ h => h) (Or.inl ⟨by rfl, ?_⟩) ?_ ?_
                                              rotate_left
                                              · intro w'
                                                go_simp
                                                with_reducible rfl
                                              rotate_left
                                              · simp only [Act.put, List.setIfInBounds_toArray, List.set_cons_zero, List.set_cons_succ, i64_w, i32_w]
                                                rfl
                                              refine done_ (done_of HT_.out (by kernel_rfl)) ?_
                                              have p336 : 0 ≤ (x12_4 : Int) := of_decide_eq_true (by first | (with_reducible assumption) | assumption)
                                              have q336 : x12_4 < (x8_1.length : Int) := of_decide_eq_true (by first | (with_reducible assumption) | assumption)
                                              obtain ⟨ad336, e336, hx336_0⟩ := Kd.at_int (Kd.R_reads' HO_8.out).2.2 x12_4 p336 q336
                                              obtain rfl : ad326 = ad336 := (by injection e336)
                                              replace p336 := eq_true p336
                                              replace q336 := eq_true q336
                                              have q56 : (x12_4 : Int) ≤ ((l1.length : Int) : Int) := of_decide_eq_true (by first | (with_reducible assumption) | assumption)
                                              obtain ⟨i056, hi056, _, hsz56, _⟩ := info_parts info25
                                              have hroom56 : l1.length ≤ c1 := HC1.out
                                              have hC56 : Kd.C (Kd.slice 5 (Kd.int .u8)) _ A1 l1.length l1 := HR1.out
                                              have hcut56 := cut_to (P := Try.prog) 43 25 .i64 Try.underlying43 hi056 A1 l1.length c1 x12_4 (of_decide_eq_true (by first | (with_reducible assumption) | assumption)) q56 hroom56
                                              have hr56 := Kd.C_take (m := (x12_4 : Int).toNat) hC56 (by omega)
                                              have hy56 : y337.length = (x12_4 : Int).toNat := (by rw [Ny337.out, List.length_take]; omega)
                                              rw [← Ny337.out] at hr56
                                              rw [← hy56] at hcut56
                                              have HR340 := Aside0.mk hr56
                                              have HC340 := Aside0.mk (show y337.length ≤ c1 from by omega)
                                              clear hr56 hC56 hroom56 hi056 hsz56
                                              have KY56 := Aside0.mk hy56
                                              clear hy56
                                              replace q56 := eq_true q56
                                              obtain ⟨Ao57, co57, eo57⟩ := Kd.S_slice HO335.out
                                              subst eo57
                                              try go_wp2_with (first | (go_at_call 26; (with_reducible refine (punnetref07_Same.calls k4 _ _ t332 _ _ y337 t341 _ ?side1 ?side2 ?side3 ?side4 A50.out).mono ?_); (case side1 => repeat (first | exact (Kd.S_reads' HO335.out).2.2 | (with_reducible refine Kd.C_alloc ?_ _) | (with_reducible refine Kd.C_drewN ?_ _) | (with_reducible refine Kd.C_drew ?_))); (case side2 => exact (Kd.S_reads' HO335.out).2.1); (case side3 => repeat (first | exact (Kd.C_below HR340.out HB.out) | (with_reducible refine Kd.C_alloc ?_ _) | (with_reducible refine Kd.C_drewN ?_ _) | (with_reducible refine Kd.C_drew ?_))); (case side4 => exact HC340.out); rintro e w' ⟨rfl, ⟨nd, rfl⟩⟩))
                                              go_ret
                                              exact ⟨by first | rfl | (simp [errW_none, errW_some] <;> rfl) | (simp only [← hji39]; first | rfl | (simp [errW_none, errW_some] <;> rfl)) | (simp [*, errW_none, errW_some] <;> rfl), by repeat (first | (with_reducible first | exact HB.out | apply below_alloc | apply pw_below_drewN | apply below_drew1 | refine below_set ?_ GE309.out) | exact HB.out)⟩
                                            · rw [if_neg c49] at H
                                              exact absurd H (by simp)
                                          · rw [if_neg c47] at H
                                            have c47b0 : (t333 == (rd x8_1 x12_4)) = false := beq_eq_false_iff_ne.mpr c47
                                            have c47b1 : (t333 != (rd x8_1 x12_4)) = true := bne_iff_ne.mpr c47
                                            obtain rfl := Option.some.inj H
                                            obtain ⟨Ao58, co58, eo58⟩ := Kd.R_slice HO_8.out
                                            subst eo58
                                            have p326 : 0 ≤ (x12_4 : Int) := of_decide_eq_true (by first | (with_reducible assumption) | assumption)
                                            have q326 : x12_4 < (x8_1.length : Int) := of_decide_eq_true (by first | (with_reducible assumption) | assumption)
                                            obtain ⟨ad326, e326, hx326_0⟩ := Kd.at_int (Kd.R_reads' HO_8.out).2.2 x12_4 p326 q326
                                            cases e326
                                            replace p326 := eq_true p326
                                            replace q326 := eq_true q326
                                            have p327 : 0 ≤ ((ji39) : Int) := of_decide_eq_true (by first | (with_reducible assumption) | assumption)
                                            have q327 : (ji39) < (x8_1.length : Int) := of_decide_eq_true (by first | (with_reducible assumption) | assumption)
                                            obtain ⟨ad327, e327, hx327_0⟩ := Kd.at_int (Kd.R_reads' HO_8.out).2.2 (ji39) p327 q327
                                            obtain rfl : ad326 = ad327 := (by injection e327)
                                            replace p327 := eq_true p327
                                            replace q327 := eq_true q327
                                            try go_wp2
                                            have n0_ := Aside0.mk (Kd.R_drew HO_7.out)
                                            have n1_ := Aside0.mk (Kd.R_drew HO_8.out)
                                            have n2_ := Aside0.mk (blk_drew BK309.out)
                                            have n3_ := Aside0.mk (below_drew1 HB.out)
                                            clear HO_7
                                            clear HO_8
                                            clear BK309
                                            clear HB
                                            have HO_7 := n0_
                                            have HO_8 := n1_
                                            have BK309 := n2_
                                            have HB := n3_
                                            clear n0_ n1_ n2_ n3_
                                            obtain ⟨Ao61, co61, eo61⟩ := Kd.R_slice HO_7.out
                                            (first | subst eo61 | (injection eo61 with f1_ f2_ f3_; have f4_ := f1_.symm; have f5_ := f3_.symm; clear f1_ f2_ f3_; subst f4_; subst f5_))
                                            have q60 : (x2_31 : Int) ≤ ((x7_1.length : Int) : Int) := of_decide_eq_true (by first | (with_reducible assumption) | assumption)
                                            obtain ⟨i060, hi060, _, hsz60, _⟩ := info_parts info5
                                            have hroom60 : x7_1.length ≤ co61 := (Kd.R_reads' HO_7.out).2.1
                                            have hC60 : Kd.C (Kd.int .u8) _ Ao61 x7_1.length x7_1 := (Kd.R_reads' HO_7.out).2.2
                                            have hcut60 := cut_to (P := Try.prog) 25 5 .i64 Try.underlying25 hi060 Ao61 x7_1.length co61 x2_31 (of_decide_eq_true (by first | (with_reducible assumption) | assumption)) q60 hroom60
                                            have hr60 := Kd.C_take (m := (x2_31 : Int).toNat) hC60 (by omega)
                                            have hy60 : y328.length = (x2_31 : Int).toNat := (by rw [Ny328.out, List.length_take]; omega)
                                            rw [← Ny328.out] at hr60
                                            rw [← hy60] at hcut60
                                            have HR331 := Aside0.mk hr60
                                            have HC331 := Aside0.mk (show y328.length ≤ co61 from by omega)
                                            clear hr60 hC60 hroom60 hi060 hsz60
                                            have KY60 := Aside0.mk hy60
                                            clear hy60
                                            have KL60 := Aside0.mk (show (x2_31 : Int).toNat ≤ x7_1.length from by omega)
                                            replace q60 := eq_true q60
                                            refine start_ (n := 10) (S := fun w' => (Instr.loadAt 24 (.pointer (some ⟨gb309, 0, none⟩))).run Try.prog w' = .ok (.agg (tabC a0)) w') (ds := []) #[false, false, false, false, false, false, false, false, false, false] (by kernel_rfl) rfl rfl (tab_loadAt Try.underlying24 (show (Try.prog.info? 24).map (·.size) = some 256 from by kernel_rfl) BK309.out) (fun hHeld => ?_); refine with_tabW punnetlaw07_FrameTorn.tab22 punnetlaw07_FrameTorn.bits22 (fun HT_ HW_ => ?_)
                                            generalize wr.drew = w59 at HO_7 HO_8 BK309 HB HR331 hHeld ⊢
                                            refine pure_ (i := 0) (N := some 86) (v := ?_) (a' := ?_) #[true, false, false, false, false, false, false, false, false, false] rfl rfl (any_of HT_.out (by kernel_rfl)) (fun _ _ _ h => h) (Or.inl ⟨by rfl, ?_⟩) ?_ ?_
                                            rotate_left
                                            · intro w'
                                              go_simp
                                              with_reducible rfl
                                            rotate_left
                                            · simp only [Act.put, List.setIfInBounds_toArray, List.set_cons_zero, List.set_cons_succ, i64_w, i32_w]
                                              rfl
                                            refine pure_ (i := 1) (N := some 87) (v := ?_) (a' := ?_) #[true, true, false, false, false, false, false, false, false, false] rfl rfl (any_of HT_.out (by kernel_rfl)) (fun _ _ _ h => h) (Or.inl ⟨by rfl, ?_⟩) ?_ ?_
                                            rotate_left
                                            · intro w'
                                              go_simp
                                              with_reducible rfl
                                            rotate_left
                                            · simp only [Act.put, List.setIfInBounds_toArray, List.set_cons_zero, List.set_cons_succ, i64_w, i32_w]
                                              rfl
                                            refine pure_ (i := 2) (N := some 88) (v := ?_) (a' := ?_) #[true, true, true, false, false, false, false, false, false, false] rfl rfl (any_of HT_.out (by kernel_rfl)) (fun _ _ _ h => h) (Or.inl ⟨by rfl, ?_⟩) ?_ ?_
                                            rotate_left
                                            · intro w'
                                              go_simp
                                              with_reducible rfl
                                            rotate_left
                                            · simp only [Act.put, List.setIfInBounds_toArray, List.set_cons_zero, List.set_cons_succ, i64_w, i32_w]
                                              rfl
                                            refine take_ (i := 3) (N := some 89) (v := ?_) (a' := ?_) #[true, true, true, true, false, false, false, false, false, false] rfl rfl (take_ofW HT_.out HW_.out (by kernel_rfl)) (fun _ _ _ h => h) (Or.inl ⟨by rfl, ?_⟩) hHeld ?_ ?_
                                            rotate_left
                                            · intro w' s0
                                              exact tab_exec rfl rfl (by assumption)
                                            rotate_left
                                            · simp only [Act.put, List.setIfInBounds_toArray, List.set_cons_zero, List.set_cons_succ, i64_w, i32_w]
                                              rfl
                                            refine one_ (i := 4) (N := some 90) #[true, true, true, true, true, false, false, false, false, false] rfl rfl (one_of HT_.out (by kernel_rfl)) (by decide) (fun K hK => ?_)
                                            refine goes_ Try.func24 (by kernel_rfl) rfl #[.slice Ao61 y328.length co61, .agg (tabC a0)] (by rfl) rfl rfl (by (try simp only [List.map_toArray, List.map_cons, List.map_nil]); first | done | rfl | (simp only [List.length_drop, List.length_take]; rfl)) ?_
                                            with_reducible refine (frame_Scan.calls k4 _ _ y328 a0 t332 t333 _ ?side1 ?side2 A46.out).mono ?_
                                            (case side1 => repeat (first | exact (by repeat (first | (with_reducible exact HR331.out) | (with_reducible refine Kd.C_alloc ?_ _) | (with_reducible refine Kd.C_drewN ?_ _) | (with_reducible refine Kd.C_drew ?_) | exact HR331.out)) | (with_reducible refine Kd.C_alloc ?_ _) | (with_reducible refine Kd.C_drewN ?_ _) | (with_reducible refine Kd.C_drew ?_)))
                                            (case side2 => exact HC331.out)
                                            rintro e w62 ⟨v334, rfl, ho0, hb⟩
                                            refine ⟨_, rfl, ?_⟩
                                            have n0_ := Aside0.mk (Kd.R_below (by (with_reducible repeat (first | apply Kd.R_alloc | apply Kd.R_drewN | apply Kd.R_drew)); exact HO_7.out) hb)
                                            have n1_ := Aside0.mk (Kd.R_below (by (with_reducible repeat (first | apply Kd.R_alloc | apply Kd.R_drewN | apply Kd.R_drew)); exact HO_8.out) hb)
                                            have n2_ := Aside0.mk (Kd.S_lower (Kd.S_new' ho0 (Kd.R_lt (by (with_reducible repeat (first | apply Kd.R_alloc | apply Kd.R_drewN | apply Kd.R_drew)); exact HO_7.out))) (below_size (by repeat (first | (with_reducible first | exact HB.out | apply below_alloc | apply pw_below_drewN | apply below_drew1 | refine below_set ?_ GE309.out) | exact HB.out))))
                                            have n3_ := Aside0.mk (blk_below (g := gb309) (o := .cells (tabC a0) 24 (0, 0)) (by (with_reducible repeat (first | refine blk_drewN ?_ _ | refine blk_drew ?_ | refine blk_alloc ?_ _)); exact BK309.out) hb)
                                            have n4_ := Aside0.mk (Kd.C_below (by repeat (first | (with_reducible exact HR331.out) | (with_reducible refine Kd.C_alloc ?_ _) | (with_reducible refine Kd.C_drewN ?_ _) | (with_reducible refine Kd.C_drew ?_) | exact HR331.out)) hb)
                                            have n5_ := Aside0.mk (below_step (by repeat (first | (with_reducible first | exact HB.out | apply below_alloc | apply pw_below_drewN | apply below_drew1 | refine below_set ?_ GE309.out) | exact HB.out)) hb)
                                            clear HO_7
                                            clear HO_8
                                            clear BK309
                                            clear HR331
                                            clear HB
                                            have HO_7 := n0_
                                            have HO_8 := n1_
                                            have HO335 := n2_
                                            have BK309 := n3_
                                            have HR331 := n4_
                                            have HB := n5_
                                            clear n0_ n1_ n2_ n3_ n4_ n5_
                                            (try clear hb)
                                            (try clear hb2)
                                            (try clear hk)
                                            (try clear hi)
                                            (try clear ho0)
                                            refine hK.out _ _ (tab_loadAt Try.underlying24 (show (Try.prog.info? 24).map (·.size) = some 256 from by kernel_rfl) BK309.out) (fun hHeld => ?_)
                                            clear hK K
                                            refine norm_ (a' := ?_) ?_ ?_
                                            rotate_left
                                            · show Act.put _ (some 90) _ = _
                                              simp only [Act.put, List.setIfInBounds_toArray, List.set_cons_zero, List.set_cons_succ, i64_w, i32_w]
                                              rfl
                                            refine pure_ (i := 5) (N := some 85) (v := ?_) (a' := ?_) #[true, true, true, true, true, true, false, false, false, false] rfl rfl (any_of HT_.out (by kernel_rfl)) (fun _ _ _ h => h) (Or.inl ⟨by rfl, ?_⟩) ?_ ?_
                                            rotate_left
                                            · intro w'
                                              go_simp
                                              with_reducible rfl
                                            rotate_left
                                            · simp only [Act.put, List.setIfInBounds_toArray, List.set_cons_zero, List.set_cons_succ, i64_w, i32_w]
                                              rfl
                                            refine pure_ (i := 6) (N := some 91) (v := ?_) (a' := ?_) #[true, true, true, true, true, true, true, false, false, false] rfl rfl (any_of HT_.out (by kernel_rfl)) (fun _ _ _ h => h) (Or.inl ⟨by rfl, ?_⟩) ?_ ?_
                                            rotate_left
                                            · intro w'
                                              go_simp
                                              with_reducible rfl
                                            rotate_left
                                            · simp only [Act.put, List.setIfInBounds_toArray, List.set_cons_zero, List.set_cons_succ, i64_w, i32_w]
                                              rfl
                                            refine pure_ (i := 7) (N := some 92) (v := ?_) (a' := ?_) #[true, true, true, true, true, true, true, true, false, false] rfl rfl (any_of HT_.out (by kernel_rfl)) (fun _ _ _ h => h) (Or.inl ⟨by rfl, ?_⟩) ?_ ?_
                                            rotate_left
                                            · intro w'
                                              go_simp
                                              with_reducible rfl
                                            rotate_left
                                            · simp only [Act.put, List.setIfInBounds_toArray, List.set_cons_zero, List.set_cons_succ, i64_w, i32_w]
                                              rfl
                                            refine pure_ (i := 8) (N := some 13) (v := ?_) (a' := ?_) #[true, true, true, true, true, true, true, true, true, false] rfl rfl (any_of HT_.out (by kernel_rfl)) (fun _ _ _ h => h) (Or.inl ⟨by rfl, ?_⟩) ?_ ?_
                                            rotate_left
                                            · intro w'
                                              go_simp
                                              with_reducible rfl
                                            rotate_left
                                            · simp only [Act.put, List.setIfInBounds_toArray, List.set_cons_zero, List.set_cons_succ, i64_w, i32_w]
                                              rfl
                                            refine pure_ (i := 9) (N := some 14) (v := ?_) (a' := ?_) #[true, true, true, true, true, true, true, true, true, true] rfl rfl (any_of HT_.out (by kernel_rfl)) (fun _ _ _ h => h) (Or.inl ⟨by rfl, ?_⟩) ?_ ?_
                                            rotate_left
                                            · intro w'
                                              go_simp
                                              with_reducible rfl
                                            rotate_left
                                            · simp only [Act.put, List.setIfInBounds_toArray, List.set_cons_zero, List.set_cons_succ, i64_w, i32_w]
                                              rfl
                                            refine done_ (done_of HT_.out (by kernel_rfl)) ?_
                                            have p336 : 0 ≤ (x12_4 : Int) := of_decide_eq_true (by first | (with_reducible assumption) | assumption)
                                            have q336 : x12_4 < (x8_1.length : Int) := of_decide_eq_true (by first | (with_reducible assumption) | assumption)
                                            obtain ⟨ad336, e336, hx336_0⟩ := Kd.at_int (Kd.R_reads' HO_8.out).2.2 x12_4 p336 q336
                                            obtain rfl : ad326 = ad336 := (by injection e336)
                                            replace p336 := eq_true p336
                                            replace q336 := eq_true q336
                                            try go_wp2
                                            go_ret
                                            exact ⟨by first | rfl | (simp [errW_none, errW_some] <;> rfl) | (simp only [← hji39]; first | rfl | (simp [errW_none, errW_some] <;> rfl)) | (simp [*, errW_none, errW_some] <;> rfl), by repeat (first | (with_reducible first | exact HB.out | apply below_alloc | apply pw_below_drewN | apply below_drew1 | refine below_set ?_ GE309.out) | exact HB.out)⟩
                                        · rw [if_neg c45] at H
                                          exact absurd H (by simp)
                                      · rw [if_neg c44] at H
                                        exact absurd H (by simp)
                                  · rw [if_neg c41] at H
                                    exact absurd H (by simp)
                                · rw [if_neg c40] at H
                                  exact absurd H (by simp)
                              · rw [if_neg c38] at H
                                have c38b0 : decide (x12_4 < (l1.length : Int)) = false := decide_eq_false c38
                                clear c38
                                by_cases c63 : 0 ≤ x2_31
                                · rw [if_pos c63] at H
                                  have c63b0 := eq_true c63
                                  have c63b1 : decide (0 ≤ x2_31) = true := decide_eq_true c63
                                  clear c63
                                  by_cases c64 : x2_31 ≤ (x7_1.length : Int)
                                  · rw [if_pos c64] at H
                                    have c64b0 := eq_true c64
                                    have c64b1 : decide (x2_31 ≤ (x7_1.length : Int)) = true := decide_eq_true c64
                                    clear c64
                                    obtain ⟨y342, hy342⟩ : ∃ y_ : List Int, y_ = (x7_1.take (x2_31 : Int).toNat) := ⟨_, rfl⟩
                                    replace H : ((frame_Scan.f k4 y342 a0).bind fun bt346 => (if bt346.2 = (rd x8_1 x12_4) then (if x12_4 ≤ (l1.length : Int) then ((punnetref07_Same.f k4 bt346.1 (l1.take (x12_4 : Int).toNat)).bind fun t355 => (some t355)) else (none)) else (some false))) = some r := by first | (rw [hy342]; with_reducible exact H) | (have H2_ := (Option.bind_some _ _).symm.trans H; rw [hy342]; with_reducible exact H2_) | (have H2_ := (Option.bind_some _ _).symm.trans H; with_reducible exact H2_) | with_reducible exact H | (rw [hy342]; exact H) | exact H
                                    have Ny342 := Aside0.mk hy342
                                    clear hy342
                                    replace H := Option.bind_eq_some_iff.mp H
                                    obtain ⟨⟨t346, t347⟩, A650, H⟩ := H
                                    replace H : (if t347 = (rd x8_1 x12_4) then (if x12_4 ≤ (l1.length : Int) then ((punnetref07_Same.f k4 t346 (l1.take (x12_4 : Int).toNat)).bind fun t355 => (some t355)) else (none)) else (some false)) = some r := H
                                    have A65 := Aside0.mk A650
                                    clear A650
                                    by_cases c66 : t347 = (rd x8_1 x12_4)
                                    · rw [if_pos c66] at H
                                      have c66b0 : (t347 == (rd x8_1 x12_4)) = true := beq_iff_eq.mpr c66
                                      have c66b1 : (t347 != (rd x8_1 x12_4)) = false := bne_eq_false_iff_eq.mpr c66
                                      clear c66
                                      have c67b0 := eq_true (of_decide_eq_true (by first | (with_reducible assumption) | assumption) : 0 ≤ x12_4)
                                      by_cases c68 : x12_4 ≤ (l1.length : Int)
                                      · rw [if_pos c68] at H
                                        have c68b0 := eq_true c68
                                        have c68b1 : decide (x12_4 ≤ (l1.length : Int)) = true := decide_eq_true c68
                                        clear c68
                                        obtain ⟨y351, hy351⟩ : ∃ y_ : List (List Int), y_ = (l1.take (x12_4 : Int).toNat) := ⟨_, rfl⟩
                                        replace H : ((punnetref07_Same.f k4 t346 y351).bind fun t355 => (some t355)) = some r := by first | (rw [hy351]; with_reducible exact H) | (have H2_ := (Option.bind_some _ _).symm.trans H; rw [hy351]; with_reducible exact H2_) | (have H2_ := (Option.bind_some _ _).symm.trans H; with_reducible exact H2_) | with_reducible exact H | (rw [hy351]; exact H) | exact H
                                        have Ny351 := Aside0.mk hy351
                                        clear hy351
                                        replace H := Option.bind_eq_some_iff.mp H
                                        obtain ⟨t355, A690, H⟩ := H
                                        replace H : (some t355) = some r := H
                                        have A69 := Aside0.mk A690
                                        clear A690
                                        obtain rfl := Option.some.inj H
                                        obtain ⟨Ao70, co70, eo70⟩ := Kd.R_slice HO_8.out
                                        subst eo70
                                        have p326 : 0 ≤ (x12_4 : Int) := of_decide_eq_true (by first | (with_reducible assumption) | assumption)
                                        have q326 : x12_4 < (x8_1.length : Int) := of_decide_eq_true (by first | (with_reducible assumption) | assumption)
                                        obtain ⟨ad326, e326, hx326_0⟩ := Kd.at_int (Kd.R_reads' HO_8.out).2.2 x12_4 p326 q326
                                        cases e326
                                        replace p326 := eq_true p326
                                        replace q326 := eq_true q326
                                        try go_wp2
                                        have n0_ := Aside0.mk (Kd.R_drew HO_7.out)
                                        have n1_ := Aside0.mk (Kd.R_drew HO_8.out)
                                        have n2_ := Aside0.mk (blk_drew BK309.out)
                                        have n3_ := Aside0.mk (below_drew1 HB.out)
                                        clear HO_7
                                        clear HO_8
                                        clear BK309
                                        clear HB
                                        have HO_7 := n0_
                                        have HO_8 := n1_
                                        have BK309 := n2_
                                        have HB := n3_
                                        clear n0_ n1_ n2_ n3_
                                        obtain ⟨Ao73, co73, eo73⟩ := Kd.R_slice HO_7.out
                                        (first | subst eo73 | (injection eo73 with f1_ f2_ f3_; have f4_ := f1_.symm; have f5_ := f3_.symm; clear f1_ f2_ f3_; subst f4_; subst f5_))
                                        have q72 : (x2_31 : Int) ≤ ((x7_1.length : Int) : Int) := of_decide_eq_true (by first | (with_reducible assumption) | assumption)
                                        obtain ⟨i072, hi072, _, hsz72, _⟩ := info_parts info5
                                        have hroom72 : x7_1.length ≤ co73 := (Kd.R_reads' HO_7.out).2.1
                                        have hC72 : Kd.C (Kd.int .u8) _ Ao73 x7_1.length x7_1 := (Kd.R_reads' HO_7.out).2.2
                                        have hcut72 := cut_to (P := Try.prog) 25 5 .i64 Try.underlying25 hi072 Ao73 x7_1.length co73 x2_31 (of_decide_eq_true (by first | (with_reducible assumption) | assumption)) q72 hroom72
                                        have hr72 := Kd.C_take (m := (x2_31 : Int).toNat) hC72 (by omega)
                                        have hy72 : y342.length = (x2_31 : Int).toNat := (by rw [Ny342.out, List.length_take]; omega)
                                        rw [← Ny342.out] at hr72
                                        rw [← hy72] at hcut72
                                        have HR345 := Aside0.mk hr72
                                        have HC345 := Aside0.mk (show y342.length ≤ co73 from by omega)
                                        clear hr72 hC72 hroom72 hi072 hsz72
                                        have KY72 := Aside0.mk hy72
                                        clear hy72
                                        have KL72 := Aside0.mk (show (x2_31 : Int).toNat ≤ x7_1.length from by omega)
                                        replace q72 := eq_true q72
                                        refine start_ (n := 10) (S := fun w' => (Instr.loadAt 24 (.pointer (some ⟨gb309, 0, none⟩))).run Try.prog w' = .ok (.agg (tabC a0)) w') (ds := []) #[false, false, false, false, false, false, false, false, false, false] (by kernel_rfl) rfl rfl (tab_loadAt Try.underlying24 (show (Try.prog.info? 24).map (·.size) = some 256 from by kernel_rfl) BK309.out) (fun hHeld => ?_); refine with_tabW punnetlaw07_FrameTorn.tab22 punnetlaw07_FrameTorn.bits22 (fun HT_ HW_ => ?_)
                                        generalize wr.drew = w71 at HO_7 HO_8 BK309 HB HR345 hHeld ⊢
                                        refine pure_ (i := 0) (N := some 86) (v := ?_) (a' := ?_) #[true, false, false, false, false, false, false, false, false, false] rfl rfl (any_of HT_.out (by kernel_rfl)) (fun _ _ _ h => h) (Or.inl ⟨by rfl, ?_⟩) ?_ ?_
                                        rotate_left
                                        · intro w'
                                          go_simp
                                          with_reducible rfl
                                        rotate_left
                                        · simp only [Act.put, List.setIfInBounds_toArray, List.set_cons_zero, List.set_cons_succ, i64_w, i32_w]
                                          rfl
                                        refine pure_ (i := 1) (N := some 87) (v := ?_) (a' := ?_) #[true, true, false, false, false, false, false, false, false, false] rfl rfl (any_of HT_.out (by kernel_rfl)) (fun _ _ _ h => h) (Or.inl ⟨by rfl, ?_⟩) ?_ ?_
                                        rotate_left
                                        · intro w'
                                          go_simp
                                          with_reducible rfl
                                        rotate_left
                                        · simp only [Act.put, List.setIfInBounds_toArray, List.set_cons_zero, List.set_cons_succ, i64_w, i32_w]
                                          rfl
                                        refine pure_ (i := 2) (N := some 88) (v := ?_) (a' := ?_) #[true, true, true, false, false, false, false, false, false, false] rfl rfl (any_of HT_.out (by kernel_rfl)) (fun _ _ _ h => h) (Or.inl ⟨by rfl, ?_⟩) ?_ ?_
                                        rotate_left
                                        · intro w'
                                          go_simp
                                          with_reducible rfl
                                        rotate_left
                                        · simp only [Act.put, List.setIfInBounds_toArray, List.set_cons_zero, List.set_cons_succ, i64_w, i32_w]
                                          rfl
                                        refine take_ (i := 3) (N := some 89) (v := ?_) (a' := ?_) #[true, true, true, true, false, false, false, false, false, false] rfl rfl (take_ofW HT_.out HW_.out (by kernel_rfl)) (fun _ _ _ h => h) (Or.inl ⟨by rfl, ?_⟩) hHeld ?_ ?_
                                        rotate_left
                                        · intro w' s0
                                          exact tab_exec rfl rfl (by assumption)
                                        rotate_left
                                        · simp only [Act.put, List.setIfInBounds_toArray, List.set_cons_zero, List.set_cons_succ, i64_w, i32_w]
                                          rfl
                                        refine one_ (i := 4) (N := some 90) #[true, true, true, true, true, false, false, false, false, false] rfl rfl (one_of HT_.out (by kernel_rfl)) (by decide) (fun K hK => ?_)
                                        refine goes_ Try.func24 (by kernel_rfl) rfl #[.slice Ao73 y342.length co73, .agg (tabC a0)] (by rfl) rfl rfl (by (try simp only [List.map_toArray, List.map_cons, List.map_nil]); first | done | rfl | (simp only [List.length_drop, List.length_take]; rfl)) ?_
                                        with_reducible refine (frame_Scan.calls k4 _ _ y342 a0 t346 t347 _ ?side1 ?side2 A65.out).mono ?_
                                        (case side1 => repeat (first | exact (by repeat (first | (with_reducible exact HR345.out) | (with_reducible refine Kd.C_alloc ?_ _) | (with_reducible refine Kd.C_drewN ?_ _) | (with_reducible refine Kd.C_drew ?_) | exact HR345.out)) | (with_reducible refine Kd.C_alloc ?_ _) | (with_reducible refine Kd.C_drewN ?_ _) | (with_reducible refine Kd.C_drew ?_)))
                                        (case side2 => exact HC345.out)
                                        rintro e w74 ⟨v348, rfl, ho0, hb⟩
                                        refine ⟨_, rfl, ?_⟩
                                        have n0_ := Aside0.mk (Kd.R_below (by (with_reducible repeat (first | apply Kd.R_alloc | apply Kd.R_drewN | apply Kd.R_drew)); exact HO_7.out) hb)
                                        have n1_ := Aside0.mk (Kd.R_below (by (with_reducible repeat (first | apply Kd.R_alloc | apply Kd.R_drewN | apply Kd.R_drew)); exact HO_8.out) hb)
                                        have n2_ := Aside0.mk (Kd.S_lower (Kd.S_new' ho0 (Kd.R_lt (by (with_reducible repeat (first | apply Kd.R_alloc | apply Kd.R_drewN | apply Kd.R_drew)); exact HO_7.out))) (below_size (by repeat (first | (with_reducible first | exact HB.out | apply below_alloc | apply pw_below_drewN | apply below_drew1 | refine below_set ?_ GE309.out) | exact HB.out))))
                                        have n3_ := Aside0.mk (blk_below (g := gb309) (o := .cells (tabC a0) 24 (0, 0)) (by (with_reducible repeat (first | refine blk_drewN ?_ _ | refine blk_drew ?_ | refine blk_alloc ?_ _)); exact BK309.out) hb)
                                        have n4_ := Aside0.mk (Kd.C_below (by repeat (first | (with_reducible exact HR345.out) | (with_reducible refine Kd.C_alloc ?_ _) | (with_reducible refine Kd.C_drewN ?_ _) | (with_reducible refine Kd.C_drew ?_) | exact HR345.out)) hb)
                                        have n5_ := Aside0.mk (below_step (by repeat (first | (with_reducible first | exact HB.out | apply below_alloc | apply pw_below_drewN | apply below_drew1 | refine below_set ?_ GE309.out) | exact HB.out)) hb)
                                        clear HO_7
                                        clear HO_8
                                        clear BK309
                                        clear HR345
                                        clear HB
                                        have HO_7 := n0_
                                        have HO_8 := n1_
                                        have HO349 := n2_
                                        have BK309 := n3_
                                        have HR345 := n4_
                                        have HB := n5_
                                        clear n0_ n1_ n2_ n3_ n4_ n5_
                                        (try clear hb)
                                        (try clear hb2)
                                        (try clear hk)
                                        (try clear hi)
                                        (try clear ho0)
                                        refine hK.out _ _ (tab_loadAt Try.underlying24 (show (Try.prog.info? 24).map (·.size) = some 256 from by kernel_rfl) BK309.out) (fun hHeld => ?_)
                                        clear hK K
                                        refine norm_ (a' := ?_) ?_ ?_
                                        rotate_left
                                        · show Act.put _ (some 90) _ = _
                                          simp only [Act.put, List.setIfInBounds_toArray, List.set_cons_zero, List.set_cons_succ, i64_w, i32_w]
                                          rfl
                                        refine pure_ (i := 5) (N := some 85) (v := ?_) (a' := ?_) #[true, true, true, true, true, true, false, false, false, false] rfl rfl (any_of HT_.out (by kernel_rfl)) (fun _ _ _ h => h) (Or.inl ⟨by rfl, ?_⟩) ?_ ?_
                                        rotate_left
                                        · intro w'
                                          go_simp
                                          with_reducible rfl
                                        rotate_left
                                        · simp only [Act.put, List.setIfInBounds_toArray, List.set_cons_zero, List.set_cons_succ, i64_w, i32_w]
                                          rfl
                                        refine pure_ (i := 6) (N := some 91) (v := ?_) (a' := ?_) #[true, true, true, true, true, true, true, false, false, false] rfl rfl (any_of HT_.out (by kernel_rfl)) (fun _ _ _ h => h) (Or.inl ⟨by rfl, ?_⟩) ?_ ?_
                                        rotate_left
                                        · intro w'
                                          go_simp
                                          with_reducible rfl
                                        rotate_left
                                        · simp only [Act.put, List.setIfInBounds_toArray, List.set_cons_zero, List.set_cons_succ, i64_w, i32_w]
                                          rfl
                                        refine pure_ (i := 7) (N := some 92) (v := ?_) (a' := ?_) #[true, true, true, true, true, true, true, true, false, false] rfl rfl (any_of HT_.out (by kernel_rfl)) (fun _ _ _ h => h) (Or.inl ⟨by rfl, ?_⟩) ?_ ?_
                                        rotate_left
                                        · intro w'
                                          go_simp
                                          with_reducible rfl
                                        rotate_left
                                        · simp only [Act.put, List.setIfInBounds_toArray, List.set_cons_zero, List.set_cons_succ, i64_w, i32_w]
                                          rfl
                                        refine pure_ (i := 8) (N := some 13) (v := ?_) (a' := ?_) #[true, true, true, true, true, true, true, true, true, false] rfl rfl (any_of HT_.out (by kernel_rfl)) (fun _ _ _ h => h) (Or.inl ⟨by rfl, ?_⟩) ?_ ?_
                                        rotate_left
                                        · intro w'
                                          go_simp
                                          with_reducible rfl
                                        rotate_left
                                        · simp only [Act.put, List.setIfInBounds_toArray, List.set_cons_zero, List.set_cons_succ, i64_w, i32_w]
                                          rfl
                                        refine pure_ (i := 9) (N := some 14) (v := ?_) (a' := ?_) #[true, true, true, true, true, true, true, true, true, true] rfl rfl (any_of HT_.out (by kernel_rfl)) (fun _ _ _ h => h) (Or.inl ⟨by rfl, ?_⟩) ?_ ?_
                                        rotate_left
                                        · intro w'
                                          go_simp
                                          with_reducible rfl
                                        rotate_left
                                        · simp only [Act.put, List.setIfInBounds_toArray, List.set_cons_zero, List.set_cons_succ, i64_w, i32_w]
                                          rfl
                                        refine done_ (done_of HT_.out (by kernel_rfl)) ?_
                                        have p350 : 0 ≤ (x12_4 : Int) := of_decide_eq_true (by first | (with_reducible assumption) | assumption)
                                        have q350 : x12_4 < (x8_1.length : Int) := of_decide_eq_true (by first | (with_reducible assumption) | assumption)
                                        obtain ⟨ad350, e350, hx350_0⟩ := Kd.at_int (Kd.R_reads' HO_8.out).2.2 x12_4 p350 q350
                                        obtain rfl : ad326 = ad350 := (by injection e350)
                                        replace p350 := eq_true p350
                                        replace q350 := eq_true q350
                                        have q75 : (x12_4 : Int) ≤ ((l1.length : Int) : Int) := of_decide_eq_true (by first | (with_reducible assumption) | assumption)
                                        obtain ⟨i075, hi075, _, hsz75, _⟩ := info_parts info25
                                        have hroom75 : l1.length ≤ c1 := HC1.out
                                        have hC75 : Kd.C (Kd.slice 5 (Kd.int .u8)) _ A1 l1.length l1 := HR1.out
                                        have hcut75 := cut_to (P := Try.prog) 43 25 .i64 Try.underlying43 hi075 A1 l1.length c1 x12_4 (of_decide_eq_true (by first | (with_reducible assumption) | assumption)) q75 hroom75
                                        have hr75 := Kd.C_take (m := (x12_4 : Int).toNat) hC75 (by omega)
                                        have hy75 : y351.length = (x12_4 : Int).toNat := (by rw [Ny351.out, List.length_take]; omega)
                                        rw [← Ny351.out] at hr75
                                        rw [← hy75] at hcut75
                                        have HR354 := Aside0.mk hr75
                                        have HC354 := Aside0.mk (show y351.length ≤ c1 from by omega)
                                        clear hr75 hC75 hroom75 hi075 hsz75
                                        have KY75 := Aside0.mk hy75
                                        clear hy75
                                        replace q75 := eq_true q75
                                        obtain ⟨Ao76, co76, eo76⟩ := Kd.S_slice HO349.out
                                        subst eo76
                                        try go_wp2_with (first | (go_at_call 26; (with_reducible refine (punnetref07_Same.calls k4 _ _ t346 _ _ y351 t355 _ ?side1 ?side2 ?side3 ?side4 A69.out).mono ?_); (case side1 => repeat (first | exact (Kd.S_reads' HO349.out).2.2 | (with_reducible refine Kd.C_alloc ?_ _) | (with_reducible refine Kd.C_drewN ?_ _) | (with_reducible refine Kd.C_drew ?_))); (case side2 => exact (Kd.S_reads' HO349.out).2.1); (case side3 => repeat (first | exact (Kd.C_below HR354.out HB.out) | (with_reducible refine Kd.C_alloc ?_ _) | (with_reducible refine Kd.C_drewN ?_ _) | (with_reducible refine Kd.C_drew ?_))); (case side4 => exact HC354.out); rintro e w' ⟨rfl, ⟨nd, rfl⟩⟩))
                                        go_ret
                                        exact ⟨by first | rfl | (simp [errW_none, errW_some] <;> rfl) | (simp [*, errW_none, errW_some] <;> rfl), by repeat (first | (with_reducible first | exact HB.out | apply below_alloc | apply pw_below_drewN | apply below_drew1 | refine below_set ?_ GE309.out) | exact HB.out)⟩
                                      · rw [if_neg c68] at H
                                        exact absurd H (by simp)
                                    · rw [if_neg c66] at H
                                      have c66b0 : (t347 == (rd x8_1 x12_4)) = false := beq_eq_false_iff_ne.mpr c66
                                      have c66b1 : (t347 != (rd x8_1 x12_4)) = true := bne_iff_ne.mpr c66
                                      obtain rfl := Option.some.inj H
                                      obtain ⟨Ao77, co77, eo77⟩ := Kd.R_slice HO_8.out
                                      subst eo77
                                      have p326 : 0 ≤ (x12_4 : Int) := of_decide_eq_true (by first | (with_reducible assumption) | assumption)
                                      have q326 : x12_4 < (x8_1.length : Int) := of_decide_eq_true (by first | (with_reducible assumption) | assumption)
                                      obtain ⟨ad326, e326, hx326_0⟩ := Kd.at_int (Kd.R_reads' HO_8.out).2.2 x12_4 p326 q326
                                      cases e326
                                      replace p326 := eq_true p326
                                      replace q326 := eq_true q326
                                      try go_wp2
                                      have n0_ := Aside0.mk (Kd.R_drew HO_7.out)
                                      have n1_ := Aside0.mk (Kd.R_drew HO_8.out)
                                      have n2_ := Aside0.mk (blk_drew BK309.out)
                                      have n3_ := Aside0.mk (below_drew1 HB.out)
                                      clear HO_7
                                      clear HO_8
                                      clear BK309
                                      clear HB
                                      have HO_7 := n0_
                                      have HO_8 := n1_
                                      have BK309 := n2_
                                      have HB := n3_
                                      clear n0_ n1_ n2_ n3_
                                      obtain ⟨Ao80, co80, eo80⟩ := Kd.R_slice HO_7.out
                                      (first | subst eo80 | (injection eo80 with f1_ f2_ f3_; have f4_ := f1_.symm; have f5_ := f3_.symm; clear f1_ f2_ f3_; subst f4_; subst f5_))
                                      have q79 : (x2_31 : Int) ≤ ((x7_1.length : Int) : Int) := of_decide_eq_true (by first | (with_reducible assumption) | assumption)
                                      obtain ⟨i079, hi079, _, hsz79, _⟩ := info_parts info5
                                      have hroom79 : x7_1.length ≤ co80 := (Kd.R_reads' HO_7.out).2.1
                                      have hC79 : Kd.C (Kd.int .u8) _ Ao80 x7_1.length x7_1 := (Kd.R_reads' HO_7.out).2.2
                                      have hcut79 := cut_to (P := Try.prog) 25 5 .i64 Try.underlying25 hi079 Ao80 x7_1.length co80 x2_31 (of_decide_eq_true (by first | (with_reducible assumption) | assumption)) q79 hroom79
                                      have hr79 := Kd.C_take (m := (x2_31 : Int).toNat) hC79 (by omega)
                                      have hy79 : y342.length = (x2_31 : Int).toNat := (by rw [Ny342.out, List.length_take]; omega)
                                      rw [← Ny342.out] at hr79
                                      rw [← hy79] at hcut79
                                      have HR345 := Aside0.mk hr79
                                      have HC345 := Aside0.mk (show y342.length ≤ co80 from by omega)
                                      clear hr79 hC79 hroom79 hi079 hsz79
                                      have KY79 := Aside0.mk hy79
                                      clear hy79
                                      have KL79 := Aside0.mk (show (x2_31 : Int).toNat ≤ x7_1.length from by omega)
                                      replace q79 := eq_true q79
                                      refine start_ (n := 10) (S := fun w' => (Instr.loadAt 24 (.pointer (some ⟨gb309, 0, none⟩))).run Try.prog w' = .ok (.agg (tabC a0)) w') (ds := []) #[false, false, false, false, false, false, false, false, false, false] (by kernel_rfl) rfl rfl (tab_loadAt Try.underlying24 (show (Try.prog.info? 24).map (·.size) = some 256 from by kernel_rfl) BK309.out) (fun hHeld => ?_); refine with_tabW punnetlaw07_FrameTorn.tab22 punnetlaw07_FrameTorn.bits22 (fun HT_ HW_ => ?_)
                                      generalize wr.drew = w78 at HO_7 HO_8 BK309 HB HR345 hHeld ⊢
                                      refine pure_ (i := 0) (N := some 86) (v := ?_) (a' := ?_) #[true, false, false, false, false, false, false, false, false, false] rfl rfl (any_of HT_.out (by kernel_rfl)) (fun _ _ _ h => h) (Or.inl ⟨by rfl, ?_⟩) ?_ ?_
                                      rotate_left
                                      · intro w'
                                        go_simp
                                        with_reducible rfl
                                      rotate_left
                                      · simp only [Act.put, List.setIfInBounds_toArray, List.set_cons_zero, List.set_cons_succ, i64_w, i32_w]
                                        rfl
                                      refine pure_ (i := 1) (N := some 87) (v := ?_) (a' := ?_) #[true, true, false, false, false, false, false, false, false, false] rfl rfl (any_of HT_.out (by kernel_rfl)) (fun _ _ _ h => h) (Or.inl ⟨by rfl, ?_⟩) ?_ ?_
                                      rotate_left
                                      · intro w'
                                        go_simp
                                        with_reducible rfl
                                      rotate_left
                                      · simp only [Act.put, List.setIfInBounds_toArray, List.set_cons_zero, List.set_cons_succ, i64_w, i32_w]
                                        rfl
                                      refine pure_ (i := 2) (N := some 88) (v := ?_) (a' := ?_) #[true, true, true, false, false, false, false, false, false, false] rfl rfl (any_of HT_.out (by kernel_rfl)) (fun _ _ _ h => h) (Or.inl ⟨by rfl, ?_⟩) ?_ ?_
                                      rotate_left
                                      · intro w'
                                        go_simp
                                        with_reducible rfl
                                      rotate_left
                                      · simp only [Act.put, List.setIfInBounds_toArray, List.set_cons_zero, List.set_cons_succ, i64_w, i32_w]
                                        rfl
                                      refine take_ (i := 3) (N := some 89) (v := ?_) (a' := ?_) #[true, true, true, true, false, false, false, false, false, false] rfl rfl (take_ofW HT_.out HW_.out (by kernel_rfl)) (fun _ _ _ h => h) (Or.inl ⟨by rfl, ?_⟩) hHeld ?_ ?_
                                      rotate_left
                                      · intro w' s0
                                        exact tab_exec rfl rfl (by assumption)
                                      rotate_left
                                      · simp only [Act.put, List.setIfInBounds_toArray, List.set_cons_zero, List.set_cons_succ, i64_w, i32_w]
                                        rfl
                                      refine one_ (i := 4) (N := some 90) #[true, true, true, true, true, false, false, false, false, false] rfl rfl (one_of HT_.out (by kernel_rfl)) (by decide) (fun K hK => ?_)
                                      refine goes_ Try.func24 (by kernel_rfl) rfl #[.slice Ao80 y342.length co80, .agg (tabC a0)] (by rfl) rfl rfl (by (try simp only [List.map_toArray, List.map_cons, List.map_nil]); first | done | rfl | (simp only [List.length_drop, List.length_take]; rfl)) ?_
                                      with_reducible refine (frame_Scan.calls k4 _ _ y342 a0 t346 t347 _ ?side1 ?side2 A65.out).mono ?_
                                      (case side1 => repeat (first | exact (by repeat (first | (with_reducible exact HR345.out) | (with_reducible refine Kd.C_alloc ?_ _) | (with_reducible refine Kd.C_drewN ?_ _) | (with_reducible refine Kd.C_drew ?_) | exact HR345.out)) | (with_reducible refine Kd.C_alloc ?_ _) | (with_reducible refine Kd.C_drewN ?_ _) | (with_reducible refine Kd.C_drew ?_)))
                                      (case side2 => exact HC345.out)
                                      rintro e w81 ⟨v348, rfl, ho0, hb⟩
                                      refine ⟨_, rfl, ?_⟩
                                      have n0_ := Aside0.mk (Kd.R_below (by (with_reducible repeat (first | apply Kd.R_alloc | apply Kd.R_drewN | apply Kd.R_drew)); exact HO_7.out) hb)
                                      have n1_ := Aside0.mk (Kd.R_below (by (with_reducible repeat (first | apply Kd.R_alloc | apply Kd.R_drewN | apply Kd.R_drew)); exact HO_8.out) hb)
                                      have n2_ := Aside0.mk (Kd.S_lower (Kd.S_new' ho0 (Kd.R_lt (by (with_reducible repeat (first | apply Kd.R_alloc | apply Kd.R_drewN | apply Kd.R_drew)); exact HO_7.out))) (below_size (by repeat (first | (with_reducible first | exact HB.out | apply below_alloc | apply pw_below_drewN | apply below_drew1 | refine below_set ?_ GE309.out) | exact HB.out))))
                                      have n3_ := Aside0.mk (blk_below (g := gb309) (o := .cells (tabC a0) 24 (0, 0)) (by (with_reducible repeat (first | refine blk_drewN ?_ _ | refine blk_drew ?_ | refine blk_alloc ?_ _)); exact BK309.out) hb)
                                      have n4_ := Aside0.mk (Kd.C_below (by repeat (first | (with_reducible exact HR345.out) | (with_reducible refine Kd.C_alloc ?_ _) | (with_reducible refine Kd.C_drewN ?_ _) | (with_reducible refine Kd.C_drew ?_) | exact HR345.out)) hb)
                                      have n5_ := Aside0.mk (below_step (by repeat (first | (with_reducible first | exact HB.out | apply below_alloc | apply pw_below_drewN | apply below_drew1 | refine below_set ?_ GE309.out) | exact HB.out)) hb)
                                      clear HO_7
                                      clear HO_8
                                      clear BK309
                                      clear HR345
                                      clear HB
                                      have HO_7 := n0_
                                      have HO_8 := n1_
                                      have HO349 := n2_
                                      have BK309 := n3_
                                      have HR345 := n4_
                                      have HB := n5_
                                      clear n0_ n1_ n2_ n3_ n4_ n5_
                                      (try clear hb)
                                      (try clear hb2)
                                      (try clear hk)
                                      (try clear hi)
                                      (try clear ho0)
                                      refine hK.out _ _ (tab_loadAt Try.underlying24 (show (Try.prog.info? 24).map (·.size) = some 256 from by kernel_rfl) BK309.out) (fun hHeld => ?_)
                                      clear hK K
                                      refine norm_ (a' := ?_) ?_ ?_
                                      rotate_left
                                      · show Act.put _ (some 90) _ = _
                                        simp only [Act.put, List.setIfInBounds_toArray, List.set_cons_zero, List.set_cons_succ, i64_w, i32_w]
                                        rfl
                                      refine pure_ (i := 5) (N := some 85) (v := ?_) (a' := ?_) #[true, true, true, true, true, true, false, false, false, false] rfl rfl (any_of HT_.out (by kernel_rfl)) (fun _ _ _ h => h) (Or.inl ⟨by rfl, ?_⟩) ?_ ?_
                                      rotate_left
                                      · intro w'
                                        go_simp
                                        with_reducible rfl
                                      rotate_left
                                      · simp only [Act.put, List.setIfInBounds_toArray, List.set_cons_zero, List.set_cons_succ, i64_w, i32_w]
                                        rfl
                                      refine pure_ (i := 6) (N := some 91) (v := ?_) (a' := ?_) #[true, true, true, true, true, true, true, false, false, false] rfl rfl (any_of HT_.out (by kernel_rfl)) (fun _ _ _ h => h) (Or.inl ⟨by rfl, ?_⟩) ?_ ?_
                                      rotate_left
                                      · intro w'
                                        go_simp
                                        with_reducible rfl
                                      rotate_left
                                      · simp only [Act.put, List.setIfInBounds_toArray, List.set_cons_zero, List.set_cons_succ, i64_w, i32_w]
                                        rfl
                                      refine pure_ (i := 7) (N := some 92) (v := ?_) (a' := ?_) #[true, true, true, true, true, true, true, true, false, false] rfl rfl (any_of HT_.out (by kernel_rfl)) (fun _ _ _ h => h) (Or.inl ⟨by rfl, ?_⟩) ?_ ?_
                                      rotate_left
                                      · intro w'
                                        go_simp
                                        with_reducible rfl
                                      rotate_left
                                      · simp only [Act.put, List.setIfInBounds_toArray, List.set_cons_zero, List.set_cons_succ, i64_w, i32_w]
                                        rfl
                                      refine pure_ (i := 8) (N := some 13) (v := ?_) (a' := ?_) #[true, true, true, true, true, true, true, true, true, false] rfl rfl (any_of HT_.out (by kernel_rfl)) (fun _ _ _ h => h) (Or.inl ⟨by rfl, ?_⟩) ?_ ?_
                                      rotate_left
                                      · intro w'
                                        go_simp
                                        with_reducible rfl
                                      rotate_left
                                      · simp only [Act.put, List.setIfInBounds_toArray, List.set_cons_zero, List.set_cons_succ, i64_w, i32_w]
                                        rfl
                                      refine pure_ (i := 9) (N := some 14) (v := ?_) (a' := ?_) #[true, true, true, true, true, true, true, true, true, true] rfl rfl (any_of HT_.out (by kernel_rfl)) (fun _ _ _ h => h) (Or.inl ⟨by rfl, ?_⟩) ?_ ?_
                                      rotate_left
                                      · intro w'
                                        go_simp
                                        with_reducible rfl
                                      rotate_left
                                      · simp only [Act.put, List.setIfInBounds_toArray, List.set_cons_zero, List.set_cons_succ, i64_w, i32_w]
                                        rfl
                                      refine done_ (done_of HT_.out (by kernel_rfl)) ?_
                                      have p350 : 0 ≤ (x12_4 : Int) := of_decide_eq_true (by first | (with_reducible assumption) | assumption)
                                      have q350 : x12_4 < (x8_1.length : Int) := of_decide_eq_true (by first | (with_reducible assumption) | assumption)
                                      obtain ⟨ad350, e350, hx350_0⟩ := Kd.at_int (Kd.R_reads' HO_8.out).2.2 x12_4 p350 q350
                                      obtain rfl : ad326 = ad350 := (by injection e350)
                                      replace p350 := eq_true p350
                                      replace q350 := eq_true q350
                                      try go_wp2
                                      go_ret
                                      exact ⟨by first | rfl | (simp [errW_none, errW_some] <;> rfl) | (simp [*, errW_none, errW_some] <;> rfl), by repeat (first | (with_reducible first | exact HB.out | apply below_alloc | apply pw_below_drewN | apply below_drew1 | refine below_set ?_ GE309.out) | exact HB.out)⟩
                                  · rw [if_neg c64] at H
                                    exact absurd H (by simp)
                                · rw [if_neg c63] at H
                                  exact absurd H (by simp)
                            · rw [if_neg c37] at H
                              have c37b0 : decide ((rd x8_1 x12_4) ≤ x2_31) = false := decide_eq_false c37
                              clear c37
                              by_cases c82 : 0 ≤ x2_31
                              · rw [if_pos c82] at H
                                have c82b0 := eq_true c82
                                have c82b1 : decide (0 ≤ x2_31) = true := decide_eq_true c82
                                clear c82
                                by_cases c83 : x2_31 ≤ (x7_1.length : Int)
                                · rw [if_pos c83] at H
                                  have c83b0 := eq_true c83
                                  have c83b1 : decide (x2_31 ≤ (x7_1.length : Int)) = true := decide_eq_true c83
                                  clear c83
                                  obtain ⟨y356, hy356⟩ : ∃ y_ : List Int, y_ = (x7_1.take (x2_31 : Int).toNat) := ⟨_, rfl⟩
                                  replace H : ((frame_Scan.f k4 y356 a0).bind fun bt360 => (if bt360.2 = (rd x8_1 x12_4) then (if x12_4 ≤ (l1.length : Int) then ((punnetref07_Same.f k4 bt360.1 (l1.take (x12_4 : Int).toNat)).bind fun t369 => (some t369)) else (none)) else (some false))) = some r := by first | (rw [hy356]; with_reducible exact H) | (have H2_ := (Option.bind_some _ _).symm.trans H; rw [hy356]; with_reducible exact H2_) | (have H2_ := (Option.bind_some _ _).symm.trans H; with_reducible exact H2_) | with_reducible exact H | (rw [hy356]; exact H) | exact H
                                  have Ny356 := Aside0.mk hy356
                                  clear hy356
                                  replace H := Option.bind_eq_some_iff.mp H
                                  obtain ⟨⟨t360, t361⟩, A840, H⟩ := H
                                  replace H : (if t361 = (rd x8_1 x12_4) then (if x12_4 ≤ (l1.length : Int) then ((punnetref07_Same.f k4 t360 (l1.take (x12_4 : Int).toNat)).bind fun t369 => (some t369)) else (none)) else (some false)) = some r := H
                                  have A84 := Aside0.mk A840
                                  clear A840
                                  by_cases c85 : t361 = (rd x8_1 x12_4)
                                  · rw [if_pos c85] at H
                                    have c85b0 : (t361 == (rd x8_1 x12_4)) = true := beq_iff_eq.mpr c85
                                    have c85b1 : (t361 != (rd x8_1 x12_4)) = false := bne_eq_false_iff_eq.mpr c85
                                    clear c85
                                    have c86b0 := eq_true (of_decide_eq_true (by first | (with_reducible assumption) | assumption) : 0 ≤ x12_4)
                                    by_cases c87 : x12_4 ≤ (l1.length : Int)
                                    · rw [if_pos c87] at H
                                      have c87b0 := eq_true c87
                                      have c87b1 : decide (x12_4 ≤ (l1.length : Int)) = true := decide_eq_true c87
                                      clear c87
                                      obtain ⟨y365, hy365⟩ : ∃ y_ : List (List Int), y_ = (l1.take (x12_4 : Int).toNat) := ⟨_, rfl⟩
                                      replace H : ((punnetref07_Same.f k4 t360 y365).bind fun t369 => (some t369)) = some r := by first | (rw [hy365]; with_reducible exact H) | (have H2_ := (Option.bind_some _ _).symm.trans H; rw [hy365]; with_reducible exact H2_) | (have H2_ := (Option.bind_some _ _).symm.trans H; with_reducible exact H2_) | with_reducible exact H | (rw [hy365]; exact H) | exact H
                                      have Ny365 := Aside0.mk hy365
                                      clear hy365
                                      replace H := Option.bind_eq_some_iff.mp H
                                      obtain ⟨t369, A880, H⟩ := H
                                      replace H : (some t369) = some r := H
                                      have A88 := Aside0.mk A880
                                      clear A880
                                      obtain rfl := Option.some.inj H
                                      obtain ⟨Ao89, co89, eo89⟩ := Kd.R_slice HO_8.out
                                      subst eo89
                                      have p326 : 0 ≤ (x12_4 : Int) := of_decide_eq_true (by first | (with_reducible assumption) | assumption)
                                      have q326 : x12_4 < (x8_1.length : Int) := of_decide_eq_true (by first | (with_reducible assumption) | assumption)
                                      obtain ⟨ad326, e326, hx326_0⟩ := Kd.at_int (Kd.R_reads' HO_8.out).2.2 x12_4 p326 q326
                                      cases e326
                                      replace p326 := eq_true p326
                                      replace q326 := eq_true q326
                                      try go_wp2
                                      have n0_ := Aside0.mk (Kd.R_drew HO_7.out)
                                      have n1_ := Aside0.mk (Kd.R_drew HO_8.out)
                                      have n2_ := Aside0.mk (blk_drew BK309.out)
                                      have n3_ := Aside0.mk (below_drew1 HB.out)
                                      clear HO_7
                                      clear HO_8
                                      clear BK309
                                      clear HB
                                      have HO_7 := n0_
                                      have HO_8 := n1_
                                      have BK309 := n2_
                                      have HB := n3_
                                      clear n0_ n1_ n2_ n3_
                                      obtain ⟨Ao92, co92, eo92⟩ := Kd.R_slice HO_7.out
                                      (first | subst eo92 | (injection eo92 with f1_ f2_ f3_; have f4_ := f1_.symm; have f5_ := f3_.symm; clear f1_ f2_ f3_; subst f4_; subst f5_))
                                      have q91 : (x2_31 : Int) ≤ ((x7_1.length : Int) : Int) := of_decide_eq_true (by first | (with_reducible assumption) | assumption)
                                      obtain ⟨i091, hi091, _, hsz91, _⟩ := info_parts info5
                                      have hroom91 : x7_1.length ≤ co92 := (Kd.R_reads' HO_7.out).2.1
                                      have hC91 : Kd.C (Kd.int .u8) _ Ao92 x7_1.length x7_1 := (Kd.R_reads' HO_7.out).2.2
                                      have hcut91 := cut_to (P := Try.prog) 25 5 .i64 Try.underlying25 hi091 Ao92 x7_1.length co92 x2_31 (of_decide_eq_true (by first | (with_reducible assumption) | assumption)) q91 hroom91
                                      have hr91 := Kd.C_take (m := (x2_31 : Int).toNat) hC91 (by omega)
                                      have hy91 : y356.length = (x2_31 : Int).toNat := (by rw [Ny356.out, List.length_take]; omega)
                                      rw [← Ny356.out] at hr91
                                      rw [← hy91] at hcut91
                                      have HR359 := Aside0.mk hr91
                                      have HC359 := Aside0.mk (show y356.length ≤ co92 from by omega)
                                      clear hr91 hC91 hroom91 hi091 hsz91
                                      have KY91 := Aside0.mk hy91
                                      clear hy91
                                      have KL91 := Aside0.mk (show (x2_31 : Int).toNat ≤ x7_1.length from by omega)
                                      replace q91 := eq_true q91
                                      refine start_ (n := 10) (S := fun w' => (Instr.loadAt 24 (.pointer (some ⟨gb309, 0, none⟩))).run Try.prog w' = .ok (.agg (tabC a0)) w') (ds := []) #[false, false, false, false, false, false, false, false, false, false] (by kernel_rfl) rfl rfl (tab_loadAt Try.underlying24 (show (Try.prog.info? 24).map (·.size) = some 256 from by kernel_rfl) BK309.out) (fun hHeld => ?_); refine with_tabW punnetlaw07_FrameTorn.tab22 punnetlaw07_FrameTorn.bits22 (fun HT_ HW_ => ?_)
                                      generalize wr.drew = w90 at HO_7 HO_8 BK309 HB HR359 hHeld ⊢
                                      refine pure_ (i := 0) (N := some 86) (v := ?_) (a' := ?_) #[true, false, false, false, false, false, false, false, false, false] rfl rfl (any_of HT_.out (by kernel_rfl)) (fun _ _ _ h => h) (Or.inl ⟨by rfl, ?_⟩) ?_ ?_
                                      rotate_left
                                      · intro w'
                                        go_simp
                                        with_reducible rfl
                                      rotate_left
                                      · simp only [Act.put, List.setIfInBounds_toArray, List.set_cons_zero, List.set_cons_succ, i64_w, i32_w]
                                        rfl
                                      refine pure_ (i := 1) (N := some 87) (v := ?_) (a' := ?_) #[true, true, false, false, false, false, false, false, false, false] rfl rfl (any_of HT_.out (by kernel_rfl)) (fun _ _ _ h => h) (Or.inl ⟨by rfl, ?_⟩) ?_ ?_
                                      rotate_left
                                      · intro w'
                                        go_simp
                                        with_reducible rfl
                                      rotate_left
                                      · simp only [Act.put, List.setIfInBounds_toArray, List.set_cons_zero, List.set_cons_succ, i64_w, i32_w]
                                        rfl
                                      refine pure_ (i := 2) (N := some 88) (v := ?_) (a' := ?_) #[true, true, true, false, false, false, false, false, false, false] rfl rfl (any_of HT_.out (by kernel_rfl)) (fun _ _ _ h => h) (Or.inl ⟨by rfl, ?_⟩) ?_ ?_
                                      rotate_left
                                      · intro w'
                                        go_simp
                                        with_reducible rfl
                                      rotate_left
                                      · simp only [Act.put, List.setIfInBounds_toArray, List.set_cons_zero, List.set_cons_succ, i64_w, i32_w]
                                        rfl
                                      refine take_ (i := 3) (N := some 89) (v := ?_) (a' := ?_) #[true, true, true, true, false, false, false, false, false, false] rfl rfl (take_ofW HT_.out HW_.out (by kernel_rfl)) (fun _ _ _ h => h) (Or.inl ⟨by rfl, ?_⟩) hHeld ?_ ?_
                                      rotate_left
                                      · intro w' s0
                                        exact tab_exec rfl rfl (by assumption)
                                      rotate_left
                                      · simp only [Act.put, List.setIfInBounds_toArray, List.set_cons_zero, List.set_cons_succ, i64_w, i32_w]
                                        rfl
                                      refine one_ (i := 4) (N := some 90) #[true, true, true, true, true, false, false, false, false, false] rfl rfl (one_of HT_.out (by kernel_rfl)) (by decide) (fun K hK => ?_)
                                      refine goes_ Try.func24 (by kernel_rfl) rfl #[.slice Ao92 y356.length co92, .agg (tabC a0)] (by rfl) rfl rfl (by (try simp only [List.map_toArray, List.map_cons, List.map_nil]); first | done | rfl | (simp only [List.length_drop, List.length_take]; rfl)) ?_
                                      with_reducible refine (frame_Scan.calls k4 _ _ y356 a0 t360 t361 _ ?side1 ?side2 A84.out).mono ?_
                                      (case side1 => repeat (first | exact (by repeat (first | (with_reducible exact HR359.out) | (with_reducible refine Kd.C_alloc ?_ _) | (with_reducible refine Kd.C_drewN ?_ _) | (with_reducible refine Kd.C_drew ?_) | exact HR359.out)) | (with_reducible refine Kd.C_alloc ?_ _) | (with_reducible refine Kd.C_drewN ?_ _) | (with_reducible refine Kd.C_drew ?_)))
                                      (case side2 => exact HC359.out)
                                      rintro e w93 ⟨v362, rfl, ho0, hb⟩
                                      refine ⟨_, rfl, ?_⟩
                                      have n0_ := Aside0.mk (Kd.R_below (by (with_reducible repeat (first | apply Kd.R_alloc | apply Kd.R_drewN | apply Kd.R_drew)); exact HO_7.out) hb)
                                      have n1_ := Aside0.mk (Kd.R_below (by (with_reducible repeat (first | apply Kd.R_alloc | apply Kd.R_drewN | apply Kd.R_drew)); exact HO_8.out) hb)
                                      have n2_ := Aside0.mk (Kd.S_lower (Kd.S_new' ho0 (Kd.R_lt (by (with_reducible repeat (first | apply Kd.R_alloc | apply Kd.R_drewN | apply Kd.R_drew)); exact HO_7.out))) (below_size (by repeat (first | (with_reducible first | exact HB.out | apply below_alloc | apply pw_below_drewN | apply below_drew1 | refine below_set ?_ GE309.out) | exact HB.out))))
                                      have n3_ := Aside0.mk (blk_below (g := gb309) (o := .cells (tabC a0) 24 (0, 0)) (by (with_reducible repeat (first | refine blk_drewN ?_ _ | refine blk_drew ?_ | refine blk_alloc ?_ _)); exact BK309.out) hb)
                                      have n4_ := Aside0.mk (Kd.C_below (by repeat (first | (with_reducible exact HR359.out) | (with_reducible refine Kd.C_alloc ?_ _) | (with_reducible refine Kd.C_drewN ?_ _) | (with_reducible refine Kd.C_drew ?_) | exact HR359.out)) hb)
                                      have n5_ := Aside0.mk (below_step (by repeat (first | (with_reducible first | exact HB.out | apply below_alloc | apply pw_below_drewN | apply below_drew1 | refine below_set ?_ GE309.out) | exact HB.out)) hb)
                                      clear HO_7
                                      clear HO_8
                                      clear BK309
                                      clear HR359
                                      clear HB
                                      have HO_7 := n0_
                                      have HO_8 := n1_
                                      have HO363 := n2_
                                      have BK309 := n3_
                                      have HR359 := n4_
                                      have HB := n5_
                                      clear n0_ n1_ n2_ n3_ n4_ n5_
                                      (try clear hb)
                                      (try clear hb2)
                                      (try clear hk)
                                      (try clear hi)
                                      (try clear ho0)
                                      refine hK.out _ _ (tab_loadAt Try.underlying24 (show (Try.prog.info? 24).map (·.size) = some 256 from by kernel_rfl) BK309.out) (fun hHeld => ?_)
                                      clear hK K
                                      refine norm_ (a' := ?_) ?_ ?_
                                      rotate_left
                                      · show Act.put _ (some 90) _ = _
                                        simp only [Act.put, List.setIfInBounds_toArray, List.set_cons_zero, List.set_cons_succ, i64_w, i32_w]
                                        rfl
                                      refine pure_ (i := 5) (N := some 85) (v := ?_) (a' := ?_) #[true, true, true, true, true, true, false, false, false, false] rfl rfl (any_of HT_.out (by kernel_rfl)) (fun _ _ _ h => h) (Or.inl ⟨by rfl, ?_⟩) ?_ ?_
                                      rotate_left
                                      · intro w'
                                        go_simp
                                        with_reducible rfl
                                      rotate_left
                                      · simp only [Act.put, List.setIfInBounds_toArray, List.set_cons_zero, List.set_cons_succ, i64_w, i32_w]
                                        rfl
                                      refine pure_ (i := 6) (N := some 91) (v := ?_) (a' := ?_) #[true, true, true, true, true, true, true, false, false, false] rfl rfl (any_of HT_.out (by kernel_rfl)) (fun _ _ _ h => h) (Or.inl ⟨by rfl, ?_⟩) ?_ ?_
                                      rotate_left
                                      · intro w'
                                        go_simp
                                        with_reducible rfl
                                      rotate_left
                                      · simp only [Act.put, List.setIfInBounds_toArray, List.set_cons_zero, List.set_cons_succ, i64_w, i32_w]
                                        rfl
                                      refine pure_ (i := 7) (N := some 92) (v := ?_) (a' := ?_) #[true, true, true, true, true, true, true, true, false, false] rfl rfl (any_of HT_.out (by kernel_rfl)) (fun _ _ _ h => h) (Or.inl ⟨by rfl, ?_⟩) ?_ ?_
                                      rotate_left
                                      · intro w'
                                        go_simp
                                        with_reducible rfl
                                      rotate_left
                                      · simp only [Act.put, List.setIfInBounds_toArray, List.set_cons_zero, List.set_cons_succ, i64_w, i32_w]
                                        rfl
                                      refine pure_ (i := 8) (N := some 13) (v := ?_) (a' := ?_) #[true, true, true, true, true, true, true, true, true, false] rfl rfl (any_of HT_.out (by kernel_rfl)) (fun _ _ _ h => h) (Or.inl ⟨by rfl, ?_⟩) ?_ ?_
                                      rotate_left
                                      · intro w'
                                        go_simp
                                        with_reducible rfl
                                      rotate_left
                                      · simp only [Act.put, List.setIfInBounds_toArray, List.set_cons_zero, List.set_cons_succ, i64_w, i32_w]
                                        rfl
                                      refine pure_ (i := 9) (N := some 14) (v := ?_) (a' := ?_) #[true, true, true, true, true, true, true, true, true, true] rfl rfl (any_of HT_.out (by kernel_rfl)) (fun _ _ _ h => h) (Or.inl ⟨by rfl, ?_⟩) ?_ ?_
                                      rotate_left
                                      · intro w'
                                        go_simp
                                        with_reducible rfl
                                      rotate_left
                                      · simp only [Act.put, List.setIfInBounds_toArray, List.set_cons_zero, List.set_cons_succ, i64_w, i32_w]
                                        rfl
                                      refine done_ (done_of HT_.out (by kernel_rfl)) ?_
                                      have p364 : 0 ≤ (x12_4 : Int) := of_decide_eq_true (by first | (with_reducible assumption) | assumption)
                                      have q364 : x12_4 < (x8_1.length : Int) := of_decide_eq_true (by first | (with_reducible assumption) | assumption)
                                      obtain ⟨ad364, e364, hx364_0⟩ := Kd.at_int (Kd.R_reads' HO_8.out).2.2 x12_4 p364 q364
                                      obtain rfl : ad326 = ad364 := (by injection e364)
                                      replace p364 := eq_true p364
                                      replace q364 := eq_true q364
                                      have q94 : (x12_4 : Int) ≤ ((l1.length : Int) : Int) := of_decide_eq_true (by first | (with_reducible assumption) | assumption)
                                      obtain ⟨i094, hi094, _, hsz94, _⟩ := info_parts info25
                                      have hroom94 : l1.length ≤ c1 := HC1.out
                                      have hC94 : Kd.C (Kd.slice 5 (Kd.int .u8)) _ A1 l1.length l1 := HR1.out
                                      have hcut94 := cut_to (P := Try.prog) 43 25 .i64 Try.underlying43 hi094 A1 l1.length c1 x12_4 (of_decide_eq_true (by first | (with_reducible assumption) | assumption)) q94 hroom94
                                      have hr94 := Kd.C_take (m := (x12_4 : Int).toNat) hC94 (by omega)
                                      have hy94 : y365.length = (x12_4 : Int).toNat := (by rw [Ny365.out, List.length_take]; omega)
                                      rw [← Ny365.out] at hr94
                                      rw [← hy94] at hcut94
                                      have HR368 := Aside0.mk hr94
                                      have HC368 := Aside0.mk (show y365.length ≤ c1 from by omega)
                                      clear hr94 hC94 hroom94 hi094 hsz94
                                      have KY94 := Aside0.mk hy94
                                      clear hy94
                                      replace q94 := eq_true q94
                                      obtain ⟨Ao95, co95, eo95⟩ := Kd.S_slice HO363.out
                                      subst eo95
                                      try go_wp2_with (first | (go_at_call 26; (with_reducible refine (punnetref07_Same.calls k4 _ _ t360 _ _ y365 t369 _ ?side1 ?side2 ?side3 ?side4 A88.out).mono ?_); (case side1 => repeat (first | exact (Kd.S_reads' HO363.out).2.2 | (with_reducible refine Kd.C_alloc ?_ _) | (with_reducible refine Kd.C_drewN ?_ _) | (with_reducible refine Kd.C_drew ?_))); (case side2 => exact (Kd.S_reads' HO363.out).2.1); (case side3 => repeat (first | exact (Kd.C_below HR368.out HB.out) | (with_reducible refine Kd.C_alloc ?_ _) | (with_reducible refine Kd.C_drewN ?_ _) | (with_reducible refine Kd.C_drew ?_))); (case side4 => exact HC368.out); rintro e w' ⟨rfl, ⟨nd, rfl⟩⟩))
                                      go_ret
                                      exact ⟨by first | rfl | (simp [errW_none, errW_some] <;> rfl) | (simp [*, errW_none, errW_some] <;> rfl), by repeat (first | (with_reducible first | exact HB.out | apply below_alloc | apply pw_below_drewN | apply below_drew1 | refine below_set ?_ GE309.out) | exact HB.out)⟩
                                    · rw [if_neg c87] at H
                                      exact absurd H (by simp)
                                  · rw [if_neg c85] at H
                                    have c85b0 : (t361 == (rd x8_1 x12_4)) = false := beq_eq_false_iff_ne.mpr c85
                                    have c85b1 : (t361 != (rd x8_1 x12_4)) = true := bne_iff_ne.mpr c85
                                    obtain rfl := Option.some.inj H
                                    obtain ⟨Ao96, co96, eo96⟩ := Kd.R_slice HO_8.out
                                    subst eo96
                                    have p326 : 0 ≤ (x12_4 : Int) := of_decide_eq_true (by first | (with_reducible assumption) | assumption)
                                    have q326 : x12_4 < (x8_1.length : Int) := of_decide_eq_true (by first | (with_reducible assumption) | assumption)
                                    obtain ⟨ad326, e326, hx326_0⟩ := Kd.at_int (Kd.R_reads' HO_8.out).2.2 x12_4 p326 q326
                                    cases e326
                                    replace p326 := eq_true p326
                                    replace q326 := eq_true q326
                                    try go_wp2
                                    have n0_ := Aside0.mk (Kd.R_drew HO_7.out)
                                    have n1_ := Aside0.mk (Kd.R_drew HO_8.out)
                                    have n2_ := Aside0.mk (blk_drew BK309.out)
                                    have n3_ := Aside0.mk (below_drew1 HB.out)
                                    clear HO_7
                                    clear HO_8
                                    clear BK309
                                    clear HB
                                    have HO_7 := n0_
                                    have HO_8 := n1_
                                    have BK309 := n2_
                                    have HB := n3_
                                    clear n0_ n1_ n2_ n3_
                                    obtain ⟨Ao99, co99, eo99⟩ := Kd.R_slice HO_7.out
                                    (first | subst eo99 | (injection eo99 with f1_ f2_ f3_; have f4_ := f1_.symm; have f5_ := f3_.symm; clear f1_ f2_ f3_; subst f4_; subst f5_))
                                    have q98 : (x2_31 : Int) ≤ ((x7_1.length : Int) : Int) := of_decide_eq_true (by first | (with_reducible assumption) | assumption)
                                    obtain ⟨i098, hi098, _, hsz98, _⟩ := info_parts info5
                                    have hroom98 : x7_1.length ≤ co99 := (Kd.R_reads' HO_7.out).2.1
                                    have hC98 : Kd.C (Kd.int .u8) _ Ao99 x7_1.length x7_1 := (Kd.R_reads' HO_7.out).2.2
                                    have hcut98 := cut_to (P := Try.prog) 25 5 .i64 Try.underlying25 hi098 Ao99 x7_1.length co99 x2_31 (of_decide_eq_true (by first | (with_reducible assumption) | assumption)) q98 hroom98
                                    have hr98 := Kd.C_take (m := (x2_31 : Int).toNat) hC98 (by omega)
                                    have hy98 : y356.length = (x2_31 : Int).toNat := (by rw [Ny356.out, List.length_take]; omega)
                                    rw [← Ny356.out] at hr98
                                    rw [← hy98] at hcut98
                                    have HR359 := Aside0.mk hr98
                                    have HC359 := Aside0.mk (show y356.length ≤ co99 from by omega)
                                    clear hr98 hC98 hroom98 hi098 hsz98
                                    have KY98 := Aside0.mk hy98
                                    clear hy98
                                    have KL98 := Aside0.mk (show (x2_31 : Int).toNat ≤ x7_1.length from by omega)
                                    replace q98 := eq_true q98
                                    refine start_ (n := 10) (S := fun w' => (Instr.loadAt 24 (.pointer (some ⟨gb309, 0, none⟩))).run Try.prog w' = .ok (.agg (tabC a0)) w') (ds := []) #[false, false, false, false, false, false, false, false, false, false] (by kernel_rfl) rfl rfl (tab_loadAt Try.underlying24 (show (Try.prog.info? 24).map (·.size) = some 256 from by kernel_rfl) BK309.out) (fun hHeld => ?_); refine with_tabW punnetlaw07_FrameTorn.tab22 punnetlaw07_FrameTorn.bits22 (fun HT_ HW_ => ?_)
                                    generalize wr.drew = w97 at HO_7 HO_8 BK309 HB HR359 hHeld ⊢
                                    refine pure_ (i := 0) (N := some 86) (v := ?_) (a' := ?_) #[true, false, false, false, false, false, false, false, false, false] rfl rfl (any_of HT_.out (by kernel_rfl)) (fun _ _ _ h => h) (Or.inl ⟨by rfl, ?_⟩) ?_ ?_
                                    rotate_left
                                    · intro w'
                                      go_simp
                                      with_reducible rfl
                                    rotate_left
                                    · simp only [Act.put, List.setIfInBounds_toArray, List.set_cons_zero, List.set_cons_succ, i64_w, i32_w]
                                      rfl
                                    refine pure_ (i := 1) (N := some 87) (v := ?_) (a' := ?_) #[true, true, false, false, false, false, false, false, false, false] rfl rfl (any_of HT_.out (by kernel_rfl)) (fun _ _ _ h => h) (Or.inl ⟨by rfl, ?_⟩) ?_ ?_
                                    rotate_left
                                    · intro w'
                                      go_simp
                                      with_reducible rfl
                                    rotate_left
                                    · simp only [Act.put, List.setIfInBounds_toArray, List.set_cons_zero, List.set_cons_succ, i64_w, i32_w]
                                      rfl
                                    refine pure_ (i := 2) (N := some 88) (v := ?_) (a' := ?_) #[true, true, true, false, false, false, false, false, false, false] rfl rfl (any_of HT_.out (by kernel_rfl)) (fun _ _ _ h => h) (Or.inl ⟨by rfl, ?_⟩) ?_ ?_
                                    rotate_left
                                    · intro w'
                                      go_simp
                                      with_reducible rfl
                                    rotate_left
                                    · simp only [Act.put, List.setIfInBounds_toArray, List.set_cons_zero, List.set_cons_succ, i64_w, i32_w]
                                      rfl
                                    refine take_ (i := 3) (N := some 89) (v := ?_) (a' := ?_) #[true, true, true, true, false, false, false, false, false, false] rfl rfl (take_ofW HT_.out HW_.out (by kernel_rfl)) (fun _ _ _ h => h) (Or.inl ⟨by rfl, ?_⟩) hHeld ?_ ?_
                                    rotate_left
                                    · intro w' s0
                                      exact tab_exec rfl rfl (by assumption)
                                    rotate_left
                                    · simp only [Act.put, List.setIfInBounds_toArray, List.set_cons_zero, List.set_cons_succ, i64_w, i32_w]
                                      rfl
                                    refine one_ (i := 4) (N := some 90) #[true, true, true, true, true, false, false, false, false, false] rfl rfl (one_of HT_.out (by kernel_rfl)) (by decide) (fun K hK => ?_)
                                    refine goes_ Try.func24 (by kernel_rfl) rfl #[.slice Ao99 y356.length co99, .agg (tabC a0)] (by rfl) rfl rfl (by (try simp only [List.map_toArray, List.map_cons, List.map_nil]); first | done | rfl | (simp only [List.length_drop, List.length_take]; rfl)) ?_
                                    with_reducible refine (frame_Scan.calls k4 _ _ y356 a0 t360 t361 _ ?side1 ?side2 A84.out).mono ?_
                                    (case side1 => repeat (first | exact (by repeat (first | (with_reducible exact HR359.out) | (with_reducible refine Kd.C_alloc ?_ _) | (with_reducible refine Kd.C_drewN ?_ _) | (with_reducible refine Kd.C_drew ?_) | exact HR359.out)) | (with_reducible refine Kd.C_alloc ?_ _) | (with_reducible refine Kd.C_drewN ?_ _) | (with_reducible refine Kd.C_drew ?_)))
                                    (case side2 => exact HC359.out)
                                    rintro e w100 ⟨v362, rfl, ho0, hb⟩
                                    refine ⟨_, rfl, ?_⟩
                                    have n0_ := Aside0.mk (Kd.R_below (by (with_reducible repeat (first | apply Kd.R_alloc | apply Kd.R_drewN | apply Kd.R_drew)); exact HO_7.out) hb)
                                    have n1_ := Aside0.mk (Kd.R_below (by (with_reducible repeat (first | apply Kd.R_alloc | apply Kd.R_drewN | apply Kd.R_drew)); exact HO_8.out) hb)
                                    have n2_ := Aside0.mk (Kd.S_lower (Kd.S_new' ho0 (Kd.R_lt (by (with_reducible repeat (first | apply Kd.R_alloc | apply Kd.R_drewN | apply Kd.R_drew)); exact HO_7.out))) (below_size (by repeat (first | (with_reducible first | exact HB.out | apply below_alloc | apply pw_below_drewN | apply below_drew1 | refine below_set ?_ GE309.out) | exact HB.out))))
                                    have n3_ := Aside0.mk (blk_below (g := gb309) (o := .cells (tabC a0) 24 (0, 0)) (by (with_reducible repeat (first | refine blk_drewN ?_ _ | refine blk_drew ?_ | refine blk_alloc ?_ _)); exact BK309.out) hb)
                                    have n4_ := Aside0.mk (Kd.C_below (by repeat (first | (with_reducible exact HR359.out) | (with_reducible refine Kd.C_alloc ?_ _) | (with_reducible refine Kd.C_drewN ?_ _) | (with_reducible refine Kd.C_drew ?_) | exact HR359.out)) hb)
                                    have n5_ := Aside0.mk (below_step (by repeat (first | (with_reducible first | exact HB.out | apply below_alloc | apply pw_below_drewN | apply below_drew1 | refine below_set ?_ GE309.out) | exact HB.out)) hb)
                                    clear HO_7
                                    clear HO_8
                                    clear BK309
                                    clear HR359
                                    clear HB
                                    have HO_7 := n0_
                                    have HO_8 := n1_
                                    have HO363 := n2_
                                    have BK309 := n3_
                                    have HR359 := n4_
                                    have HB := n5_
                                    clear n0_ n1_ n2_ n3_ n4_ n5_
                                    (try clear hb)
                                    (try clear hb2)
                                    (try clear hk)
                                    (try clear hi)
                                    (try clear ho0)
                                    refine hK.out _ _ (tab_loadAt Try.underlying24 (show (Try.prog.info? 24).map (·.size) = some 256 from by kernel_rfl) BK309.out) (fun hHeld => ?_)
                                    clear hK K
                                    refine norm_ (a' := ?_) ?_ ?_
                                    rotate_left
                                    · show Act.put _ (some 90) _ = _
                                      simp only [Act.put, List.setIfInBounds_toArray, List.set_cons_zero, List.set_cons_succ, i64_w, i32_w]
                                      rfl
                                    refine pure_ (i := 5) (N := some 85) (v := ?_) (a' := ?_) #[true, true, true, true, true, true, false, false, false, false] rfl rfl (any_of HT_.out (by kernel_rfl)) (fun _ _ _ h => h) (Or.inl ⟨by rfl, ?_⟩) ?_ ?_
                                    rotate_left
                                    · intro w'
                                      go_simp
                                      with_reducible rfl
                                    rotate_left
                                    · simp only [Act.put, List.setIfInBounds_toArray, List.set_cons_zero, List.set_cons_succ, i64_w, i32_w]
                                      rfl
                                    refine pure_ (i := 6) (N := some 91) (v := ?_) (a' := ?_) #[true, true, true, true, true, true, true, false, false, false] rfl rfl (any_of HT_.out (by kernel_rfl)) (fun _ _ _ h => h) (Or.inl ⟨by rfl, ?_⟩) ?_ ?_
                                    rotate_left
                                    · intro w'
                                      go_simp
                                      with_reducible rfl
                                    rotate_left
                                    · simp only [Act.put, List.setIfInBounds_toArray, List.set_cons_zero, List.set_cons_succ, i64_w, i32_w]
                                      rfl
                                    refine pure_ (i := 7) (N := some 92) (v := ?_) (a' := ?_) #[true, true, true, true, true, true, true, true, false, false] rfl rfl (any_of HT_.out (by kernel_rfl)) (fun _ _ _ h => h) (Or.inl ⟨by rfl, ?_⟩) ?_ ?_
                                    rotate_left
                                    · intro w'
                                      go_simp
                                      with_reducible rfl
                                    rotate_left
                                    · simp only [Act.put, List.setIfInBounds_toArray, List.set_cons_zero, List.set_cons_succ, i64_w, i32_w]
                                      rfl
                                    refine pure_ (i := 8) (N := some 13) (v := ?_) (a' := ?_) #[true, true, true, true, true, true, true, true, true, false] rfl rfl (any_of HT_.out (by kernel_rfl)) (fun _ _ _ h => h) (Or.inl ⟨by rfl, ?_⟩) ?_ ?_
                                    rotate_left
                                    · intro w'
                                      go_simp
                                      with_reducible rfl
                                    rotate_left
                                    · simp only [Act.put, List.setIfInBounds_toArray, List.set_cons_zero, List.set_cons_succ, i64_w, i32_w]
                                      rfl
                                    refine pure_ (i := 9) (N := some 14) (v := ?_) (a' := ?_) #[true, true, true, true, true, true, true, true, true, true] rfl rfl (any_of HT_.out (by kernel_rfl)) (fun _ _ _ h => h) (Or.inl ⟨by rfl, ?_⟩) ?_ ?_
                                    rotate_left
                                    · intro w'
                                      go_simp
                                      with_reducible rfl
                                    rotate_left
                                    · simp only [Act.put, List.setIfInBounds_toArray, List.set_cons_zero, List.set_cons_succ, i64_w, i32_w]
                                      rfl
                                    refine done_ (done_of HT_.out (by kernel_rfl)) ?_
                                    have p364 : 0 ≤ (x12_4 : Int) := of_decide_eq_true (by first | (with_reducible assumption) | assumption)
                                    have q364 : x12_4 < (x8_1.length : Int) := of_decide_eq_true (by first | (with_reducible assumption) | assumption)
                                    obtain ⟨ad364, e364, hx364_0⟩ := Kd.at_int (Kd.R_reads' HO_8.out).2.2 x12_4 p364 q364
                                    obtain rfl : ad326 = ad364 := (by injection e364)
                                    replace p364 := eq_true p364
                                    replace q364 := eq_true q364
                                    try go_wp2
                                    go_ret
                                    exact ⟨by first | rfl | (simp [errW_none, errW_some] <;> rfl) | (simp [*, errW_none, errW_some] <;> rfl), by repeat (first | (with_reducible first | exact HB.out | apply below_alloc | apply pw_below_drewN | apply below_drew1 | refine below_set ?_ GE309.out) | exact HB.out)⟩
                                · rw [if_neg c83] at H
                                  exact absurd H (by simp)
                              · rw [if_neg c82] at H
                                exact absurd H (by simp)
                          · rw [if_neg c36] at H
                            exact absurd H (by simp)
                        · rw [if_neg c35] at H
                          exact absurd H (by simp)
  · replace c5 := Bool.eq_false_iff.mpr c5
    subst c5
    have H1 : (some false) = some r := by rw [if_neg (show ¬ (false = true) by decide)] at H; exact H
    clear H
    have H := H1
    clear H1
    obtain rfl := Option.some.inj H
    go_enter Try.func9, Try.ntmps9
    go_wp2_with (first | ((with_reducible refine gate_dst (N := 3) rfl ?_); (try (refine gate_guard (by rfl) ?_; dsimp only)); refine box_event ?hg (N := 3) ?hd (cs := tabC a0) (t := 24) ?hr ?_; (case hd => rfl); (case hg => rfl); (case hr => first | (go_simp; done) | (go_simp; rfl)); intro gb309 hg w101 hbox hb; have n0_ := Aside0.mk (below_step (by repeat (first | (with_reducible first | exact HB.out | apply below_alloc | apply pw_below_drewN | apply below_drew1) | exact HB.out)) hb); have n1_ := Aside0.mk (hbox); have n2_ := Aside0.mk ((by rw [hg]; exact (below_size (by repeat (first | (with_reducible first | exact HB.out | apply below_alloc | apply pw_below_drewN | apply below_drew1) | exact HB.out))) : w.heap.size ≤ gb309)); have n3_ := Aside0.mk ((by rw [hg]; exact (below_size (by repeat (first | (with_reducible first | exact HB.out | apply below_alloc | apply pw_below_drewN | apply below_drew1) | exact HB.out))) : w.heap.size ≤ gb309)); clear HB; have HB := n0_; have BK309 := n1_; have GW309 := n2_; have GE309 := n3_; clear n0_ n1_ n2_ n3_; clear hb hbox hg) | ((with_reducible refine gate_callee (f := 19) rfl ?_); refine goesL_ (some 15) rfl rfl Try.func19 (by kernel_rfl) rfl #[] rfl (by (try simp only [List.map_toArray, List.map_cons, List.map_nil]); first | done | rfl | (simp only [List.length_drop, List.length_take]; rfl)) ?_; (with_reducible refine (punnetlaw07_awake.calls k  false _ A4.out).mono ?_); rintro e w102 ⟨rfl, hb⟩; refine ⟨_, rfl, ?_⟩; have n0_ := Aside0.mk (blk_below (g := gb309) (o := .cells (tabC a0) 24 (0, 0)) (by (with_reducible repeat (first | refine blk_drewN ?_ _ | refine blk_drew ?_ | refine blk_alloc ?_ _)); exact BK309.out) hb); have n1_ := Aside0.mk (below_step (by repeat (first | (with_reducible first | exact HB.out | apply below_alloc | apply pw_below_drewN | apply below_drew1 | refine below_set ?_ GE309.out) | exact HB.out)) hb); clear BK309; clear HB; have BK309 := n0_; have HB := n1_; clear n0_ n1_; (try clear hb); (try clear hb2); (try clear hk); (try clear hi)))
    go_ret
    exact ⟨by first | rfl | (simp [errW_none, errW_some] <;> rfl) | (simp [*, errW_none, errW_some] <;> rfl), by repeat (first | (with_reducible first | exact HB.out | apply below_alloc | apply pw_below_drewN | apply below_drew1 | refine below_set ?_ GE309.out) | exact HB.out)⟩

end Go.Proofs.Ytcgbcnalofecgaa.Q
