/- A function of the program or a law's row comes to what the Lean function beside it says; no condition beyond those typed. Written by a program of this workplace; Lean checks it. -/
import Derived.Test.YtcgbcnalofecgaaQ0
import Derived.Test.YtcgbcnalofecgaaQ11
import Derived.Test.YtcgbcnalofecgaaQ17
import Derived.Test.YtcgbcnalofecgaaQ18
import Derived.Test.YtcgbcnalofecgaaQ22
namespace Go.Proofs.Ytcgbcnalofecgaa.Q
open Go.RowKit Go.Proofs.YtcgbcnalofecgaaW.PrintWords Go.Proofs.YtcgbcnalofecgaaW.PrintLast Go.Proofs.YtcgbcnalofecgaaW.PrintMore
attribute [local go_sem] max2_int min2_int max_two min_two max_three min_three max_four min_four   -- for this text's walks alone
set_option linter.unusedVariables false
set_option linter.unusedSimpArgs false

/-! ### punnetlaw07_FrameTells: function 7 -/
mutual
def punnetlaw07_FrameTells.j0 : Nat → List Int → Int → Int → Bool → Option (Bool)
  | 0, _, _, _, _ => none
  | k + 1, x0, x1, x2, x31 => if x31 = true then (some true) else ((punnetref06_Made.f).bind fun t371 => ((frame_Put.f k ([] : List Int) t371 x0).bind fun bt373 => (if (Int.tmod x1 2) = 0 then (punnetlaw07_FrameTells.j1 k x0 x1 x2 bt373.1 32 64 t371) else (punnetlaw07_FrameTells.j1 k x0 x1 x2 bt373.1 64 (wrap64 (8 * (bt373.1.length : Int))) t371))))
def punnetlaw07_FrameTells.j1 : Nat → List Int → Int → Int → List Int → Int → Int → Tab → Option (Bool)
  | 0, _, _, _, _, _, _, _ => none
  | k + 1, x0, x1, x2, x8, x10, x11, x373000 => if x11 ≤ x10 then (punnetlaw07_FrameTells.j2 k x0 x1 x2 x8 x10 x11 true x373000) else (punnetlaw07_FrameTells.j2 k x0 x1 x2 x8 x10 x11 ((x8.length : Int) != (wrap64 ((x0.length : Int) + 8))) x373000)
def punnetlaw07_FrameTells.j2 : Nat → List Int → Int → Int → List Int → Int → Int → Bool → Tab → Option (Bool)
  | 0, _, _, _, _, _, _, _, _ => none
  | k + 1, x0, x1, x2, x8, x10, x11, x55, x373000 => if x55 = true then (some ((x8.length : Int) == (wrap64 ((x0.length : Int) + 8)))) else (if (wrap64 (x11 - x10)) = 0 then (none) else (punnetlaw07_FrameTells.l0 k x2 x8 x11 (wrap64 (x10 + (Int.tmod x1 (wrap64 (x11 - x10))))) true 0 x373000))
def punnetlaw07_FrameTells.l0 : Nat → Int → List Int → Int → Int → Bool → Int → Tab → Option (Bool)
  | 0, _, _, _, _, _, _, _ => none
  | k + 1, x2, x8, x11, x12, x13, x14, x373000 => if x14 < 32 then (if 0 ≤ (IntKind.u64.wrap (x14)) then (if (Int.tmod (shr .u32 x2 (IntKind.u64.wrap (x14))) 2) = 1 then (if (wrap64 (x12 + x14)) < x11 then (if 0 ≤ (wrap64 (Int.tdiv (wrap64 (x12 + x14)) 8)) then (if (wrap64 (Int.tdiv (wrap64 (x12 + x14)) 8)) < (x8.length : Int) then (if 0 ≤ (IntKind.u64.wrap (Int.tmod (wrap64 (x12 + x14)) 8)) then (punnetlaw07_FrameTells.l0 k x2 (x8.set ((wrap64 (Int.tdiv (wrap64 (x12 + x14)) 8)) : Int).toNat (Go.bits .xor .u8 (rd x8 (wrap64 (Int.tdiv (wrap64 (x12 + x14)) 8))) (shl .u8 1 (IntKind.u64.wrap (Int.tmod (wrap64 (x12 + x14)) 8))))) x11 x12 false (wrap64 (x14 + 1)) x373000) else (none)) else (none)) else (none)) else (punnetlaw07_FrameTells.l0 k x2 x8 x11 x12 x13 (wrap64 (x14 + 1)) x373000)) else (punnetlaw07_FrameTells.l0 k x2 x8 x11 x12 x13 (wrap64 (x14 + 1)) x373000)) else (none)) else ((frame_Get.f k x8 0 x373000).bind fun bt379 => (if (x13 == (bt379.2.2 == 0)) = true then (if x13 = true then (some true) else (if (bt379.1.length : Int) = 0 then (some (bt379.2.2 == 8)) else (some false))) else (some false)))
end
def punnetlaw07_FrameTells.f (k : Nat) (l0 : List Int) (a1 : Int) (a2 : Int) : Option (Bool) := (punnetlaw07_awake.f k).bind fun t370 => (if t370 = true then (if (l0.length : Int) > 3000 then (punnetlaw07_FrameTells.j0 k l0 a1 a2 true) else (if a1 < 0 then (punnetlaw07_FrameTells.j0 k l0 a1 a2 true) else (punnetlaw07_FrameTells.j0 k l0 a1 a2 (a2 == 0)))) else (some false))
theorem punnetlaw07_FrameTells.mono_l : ∀ k, (∀ y0 y1 y2 y3, LeO (punnetlaw07_FrameTells.j0 k y0 y1 y2 y3) (punnetlaw07_FrameTells.j0 (k + 1) y0 y1 y2 y3)) ∧ (∀ y0 y1 y2 y3 y4 y5 y6, LeO (punnetlaw07_FrameTells.j1 k y0 y1 y2 y3 y4 y5 y6) (punnetlaw07_FrameTells.j1 (k + 1) y0 y1 y2 y3 y4 y5 y6)) ∧ (∀ y0 y1 y2 y3 y4 y5 y6 y7, LeO (punnetlaw07_FrameTells.j2 k y0 y1 y2 y3 y4 y5 y6 y7) (punnetlaw07_FrameTells.j2 (k + 1) y0 y1 y2 y3 y4 y5 y6 y7)) ∧ (∀ y0 y1 y2 y3 y4 y5 y6, LeO (punnetlaw07_FrameTells.l0 k y0 y1 y2 y3 y4 y5 y6) (punnetlaw07_FrameTells.l0 (k + 1) y0 y1 y2 y3 y4 y5 y6))
  | 0 => ⟨fun _ _ _ _ r h => by simp [punnetlaw07_FrameTells.j0] at h, fun _ _ _ _ _ _ _ r h => by simp [punnetlaw07_FrameTells.j1] at h, fun _ _ _ _ _ _ _ _ r h => by simp [punnetlaw07_FrameTells.j2] at h, fun _ _ _ _ _ _ _ r h => by simp [punnetlaw07_FrameTells.l0] at h⟩
  | k + 1 => by
    obtain ⟨ih0, ih1, ih2, ih3⟩ := punnetlaw07_FrameTells.mono_l k
    refine ⟨?_, ?_, ?_, ?_⟩
    · intro y0 y1 y2 y3
      unfold punnetlaw07_FrameTells.j0
      repeat' first
      | (with_reducible exact ih0 _ _ _ _)
      | (with_reducible exact ih1 _ _ _ _ _ _ _)
      | (with_reducible exact ih2 _ _ _ _ _ _ _ _)
      | (with_reducible exact ih3 _ _ _ _ _ _ _)
      | (with_reducible exact frame_Get.mono _ _ _ _)
      | (with_reducible exact frame_Put.mono _ _ _ _)
      | (with_reducible exact punnetlaw07_awake.mono _)
      | (with_reducible exact LeO.refl _)
      | (with_reducible exact LeO.none _)
      | (with_reducible refine LeO.ite ?_ ?_)
      | (with_reducible refine LeO.bind ?_ (fun _ => ?_))
      | exact ih0 _ _ _ _
      | exact ih1 _ _ _ _ _ _ _
      | exact ih2 _ _ _ _ _ _ _ _
      | exact ih3 _ _ _ _ _ _ _
      | exact frame_Get.mono _ _ _ _
      | exact frame_Put.mono _ _ _ _
      | exact punnetlaw07_awake.mono _
      | exact LeO.none _
      | refine LeO.ite ?_ ?_
      | refine LeO.bind ?_ (fun _ => ?_)
    · intro y0 y1 y2 y3 y4 y5 y6
      unfold punnetlaw07_FrameTells.j1
      repeat' first
      | (with_reducible exact ih0 _ _ _ _)
      | (with_reducible exact ih1 _ _ _ _ _ _ _)
      | (with_reducible exact ih2 _ _ _ _ _ _ _ _)
      | (with_reducible exact ih3 _ _ _ _ _ _ _)
      | (with_reducible exact frame_Get.mono _ _ _ _)
      | (with_reducible exact frame_Put.mono _ _ _ _)
      | (with_reducible exact punnetlaw07_awake.mono _)
      | (with_reducible exact LeO.refl _)
      | (with_reducible exact LeO.none _)
      | (with_reducible refine LeO.ite ?_ ?_)
      | (with_reducible refine LeO.bind ?_ (fun _ => ?_))
      | exact ih0 _ _ _ _
      | exact ih1 _ _ _ _ _ _ _
      | exact ih2 _ _ _ _ _ _ _ _
      | exact ih3 _ _ _ _ _ _ _
      | exact frame_Get.mono _ _ _ _
      | exact frame_Put.mono _ _ _ _
      | exact punnetlaw07_awake.mono _
      | exact LeO.none _
      | refine LeO.ite ?_ ?_
      | refine LeO.bind ?_ (fun _ => ?_)
    · intro y0 y1 y2 y3 y4 y5 y6 y7
      unfold punnetlaw07_FrameTells.j2
      repeat' first
      | (with_reducible exact ih0 _ _ _ _)
      | (with_reducible exact ih1 _ _ _ _ _ _ _)
      | (with_reducible exact ih2 _ _ _ _ _ _ _ _)
      | (with_reducible exact ih3 _ _ _ _ _ _ _)
      | (with_reducible exact frame_Get.mono _ _ _ _)
      | (with_reducible exact frame_Put.mono _ _ _ _)
      | (with_reducible exact punnetlaw07_awake.mono _)
      | (with_reducible exact LeO.refl _)
      | (with_reducible exact LeO.none _)
      | (with_reducible refine LeO.ite ?_ ?_)
      | (with_reducible refine LeO.bind ?_ (fun _ => ?_))
      | exact ih0 _ _ _ _
      | exact ih1 _ _ _ _ _ _ _
      | exact ih2 _ _ _ _ _ _ _ _
      | exact ih3 _ _ _ _ _ _ _
      | exact frame_Get.mono _ _ _ _
      | exact frame_Put.mono _ _ _ _
      | exact punnetlaw07_awake.mono _
      | exact LeO.none _
      | refine LeO.ite ?_ ?_
      | refine LeO.bind ?_ (fun _ => ?_)
    · intro y0 y1 y2 y3 y4 y5 y6
      unfold punnetlaw07_FrameTells.l0
      repeat' first
      | (with_reducible exact ih0 _ _ _ _)
      | (with_reducible exact ih1 _ _ _ _ _ _ _)
      | (with_reducible exact ih2 _ _ _ _ _ _ _ _)
      | (with_reducible exact ih3 _ _ _ _ _ _ _)
      | (with_reducible exact frame_Get.mono _ _ _ _)
      | (with_reducible exact frame_Put.mono _ _ _ _)
      | (with_reducible exact punnetlaw07_awake.mono _)
      | (with_reducible exact LeO.refl _)
      | (with_reducible exact LeO.none _)
      | (with_reducible refine LeO.ite ?_ ?_)
      | (with_reducible refine LeO.bind ?_ (fun _ => ?_))
      | exact ih0 _ _ _ _
      | exact ih1 _ _ _ _ _ _ _
      | exact ih2 _ _ _ _ _ _ _ _
      | exact ih3 _ _ _ _ _ _ _
      | exact frame_Get.mono _ _ _ _
      | exact frame_Put.mono _ _ _ _
      | exact punnetlaw07_awake.mono _
      | exact LeO.none _
      | refine LeO.ite ?_ ?_
      | refine LeO.bind ?_ (fun _ => ?_)
theorem punnetlaw07_FrameTells.mono : ∀ a0 a1 a2 k, LeO (punnetlaw07_FrameTells.f k a0 a1 a2) (punnetlaw07_FrameTells.f (k + 1) a0 a1 a2) := by
  intro a0 a1 a2 k
  obtain ⟨ih0, ih1, ih2, ih3⟩ := punnetlaw07_FrameTells.mono_l k
  unfold punnetlaw07_FrameTells.f
  repeat' first
      | (with_reducible exact ih0 _ _ _ _)
      | (with_reducible exact ih1 _ _ _ _ _ _ _)
      | (with_reducible exact ih2 _ _ _ _ _ _ _ _)
      | (with_reducible exact ih3 _ _ _ _ _ _ _)
      | (with_reducible exact frame_Get.mono _ _ _ _)
      | (with_reducible exact frame_Put.mono _ _ _ _)
      | (with_reducible exact punnetlaw07_awake.mono _)
      | (with_reducible exact LeO.refl _)
      | (with_reducible exact LeO.none _)
      | (with_reducible refine LeO.ite ?_ ?_)
      | (with_reducible refine LeO.bind ?_ (fun _ => ?_))
      | exact ih0 _ _ _ _
      | exact ih1 _ _ _ _ _ _ _
      | exact ih2 _ _ _ _ _ _ _ _
      | exact ih3 _ _ _ _ _ _ _
      | exact frame_Get.mono _ _ _ _
      | exact frame_Put.mono _ _ _ _
      | exact punnetlaw07_awake.mono _
      | exact LeO.none _
      | refine LeO.ite ?_ ?_
      | refine LeO.bind ?_ (fun _ => ?_)
set_option maxHeartbeats 8000000 in
set_option maxRecDepth 100000 in
theorem punnetlaw07_FrameTells.calls (k : Nat) (A0 : Option Addr) (c0 : Nat) (l0 : List Int) (a1 : Int) (a2 : Int) (r : Bool) (w : World) (hr0 : Kd.C (Kd.int .u8) w A0 l0.length l0) (hc0 : l0.length ≤ c0) (h : punnetlaw07_FrameTells.f k l0 a1 a2 = some r) :
    Calls Try.prog 7 #[.slice A0 l0.length c0, .int .i64 a1, .int .u32 a2] w fun e w' => e = .returned (.bool r) ∧ Below w.heap.size w w' := by
  have HR0 := Aside0.mk hr0
  have HC0 := Aside0.mk hc0
  clear hr0 hc0
  have HB := Aside0.mk (Below.refl w.heap.size w)
  have H : ((punnetlaw07_awake.f k).bind fun t370 => (if t370 = true then (if (l0.length : Int) > 3000 then (punnetlaw07_FrameTells.j0 k l0 a1 a2 true) else (if a1 < 0 then (punnetlaw07_FrameTells.j0 k l0 a1 a2 true) else (punnetlaw07_FrameTells.j0 k l0 a1 a2 (a2 == 0)))) else (some false))) = some r := h
  clear h
  replace H := Option.bind_eq_some_iff.mp H
  obtain ⟨t370, A40, H⟩ := H
  replace H : (if t370 = true then (if (l0.length : Int) > 3000 then (punnetlaw07_FrameTells.j0 k l0 a1 a2 true) else (if a1 < 0 then (punnetlaw07_FrameTells.j0 k l0 a1 a2 true) else (punnetlaw07_FrameTells.j0 k l0 a1 a2 (a2 == 0)))) else (some false)) = some r := H
  have A4 := Aside0.mk A40
  clear A40
  by_cases c5 : t370 = true
  · subst c5
    have H1 : (if (l0.length : Int) > 3000 then (punnetlaw07_FrameTells.j0 k l0 a1 a2 true) else (if a1 < 0 then (punnetlaw07_FrameTells.j0 k l0 a1 a2 true) else (punnetlaw07_FrameTells.j0 k l0 a1 a2 (a2 == 0)))) = some r := by rw [if_pos rfl] at H; exact H
    clear H
    have H := H1
    clear H1
    have HC6 := Aside0.mk H
    clear H
    go_enter Try.func7, Try.ntmps7
    go_upto_region 3 with (first | ((with_reducible refine gate_callee (f := 19) rfl ?_); refine goesL_ (some 19) rfl rfl Try.func19 (by kernel_rfl) rfl #[] rfl (by (try simp only [List.map_toArray, List.map_cons, List.map_nil]); first | done | rfl | (simp only [List.length_drop, List.length_take]; rfl)) ?_; (with_reducible refine (punnetlaw07_awake.calls k  true _ A4.out).mono ?_); rintro e w7 ⟨rfl, hb⟩; refine ⟨_, rfl, ?_⟩; have n0_ := Aside0.mk (below_step (by repeat (first | (with_reducible first | exact HB.out | apply below_alloc | apply pw_below_drewN | apply below_drew1) | exact HB.out)) hb); clear HB; have HB := n0_; clear n0_; (try clear hb); (try clear hb2); (try clear hk); (try clear hi)))
    (try simp only [Act.put, List.setIfInBounds_toArray, List.set_cons_zero, List.set_cons_succ])
    go_cut [31] (fun v31 wc => ∃ (kq : Nat) (x31_5 : Bool), v31 = .bool x31_5 ∧ Aside0 (punnetlaw07_FrameTells.j0 kq l0 a1 a2 x31_5 = some r) ∧ Aside0 (kq ≤ k) ∧ Aside0 (Below w.heap.size w wc))
    case first =>
      have H := HC6.out
      clear HC6
      by_cases c8 : (l0.length : Int) > 3000
      · rw [if_pos c8] at H
        have c8b0 : decide (3000 < (l0.length : Int)) = true := decide_eq_true c8
        have c8b1 : decide (3000 < l0.length) = true := decide_eq_true (by omega)
        clear c8
        (first | rw [c8b0] | (simp only [i64_w, i32_w]; rw [c8b0]) | skip)
        have H' := Aside0.mk H
        clear H
        go_wp2
        go_meet
        case rel => exact ⟨_, (true), (by first | rfl | (simp; done) | (simp [*]; done)), H', ⟨by first | omega | exact Nat.le_refl _⟩, ⟨by repeat (first | (with_reducible first | exact HB.out | apply below_alloc | apply pw_below_drewN | apply below_drew1) | exact HB.out)⟩⟩
      · rw [if_neg c8] at H
        have c8b0 : decide (3000 < (l0.length : Int)) = false := decide_eq_false c8
        have c8b1 : decide (3000 < l0.length) = false := decide_eq_false (by omega)
        clear c8
        (first | rw [c8b0] | (simp only [i64_w, i32_w]; rw [c8b0]) | skip)
        by_cases c9 : a1 < 0
        · rw [if_pos c9] at H
          have c9b0 : decide (a1 < 0) = true := decide_eq_true c9
          clear c9
          have H' := Aside0.mk H
          clear H
          go_wp2
          go_meet
          case rel => exact ⟨_, (true), (by first | rfl | (simp; done) | (simp [*]; done)), H', ⟨by first | omega | exact Nat.le_refl _⟩, ⟨by repeat (first | (with_reducible first | exact HB.out | apply below_alloc | apply pw_below_drewN | apply below_drew1) | exact HB.out)⟩⟩
        · rw [if_neg c9] at H
          have c9b0 : decide (a1 < 0) = false := decide_eq_false c9
          clear c9
          have H' := Aside0.mk H
          clear H
          go_wp2
          go_meet
          case rel => exact ⟨_, ((a2 == 0)), (by first | rfl | (simp; done) | (simp [*]; done)), H', ⟨by first | omega | exact Nat.le_refl _⟩, ⟨by repeat (first | (with_reducible first | exact HB.out | apply below_alloc | apply pw_below_drewN | apply below_drew1) | exact HB.out)⟩⟩
    case rest =>
      clear HC6
      try clear c1
      try clear p2
      try clear c5
      try clear c7
      try clear c8
      try clear c8b0
      try clear c8b1
      try clear c9
      try clear c9b0
      obtain ⟨kq, x31_5, rfl, HA, HJ5, HB⟩ := hcut
      cases kq with
      | zero => exact absurd HA.out (by simp [punnetlaw07_FrameTells.j0])
      | succ kj5 =>
        have H := HA.out
        clear HA
        simp only [punnetlaw07_FrameTells.j0] at H
        by_cases c10 : x31_5 = true
        · subst c10
          have H1 : (some true) = some r := by rw [if_pos rfl] at H; exact H
          clear H
          have H := H1
          clear H1
          obtain rfl := Option.some.inj H
          go_wp2
          go_ret
          exact ⟨by first | rfl | (simp [errW_none, errW_some] <;> rfl) | (simp [*, errW_none, errW_some] <;> rfl), by repeat (first | (with_reducible first | exact HB.out | apply below_alloc | apply pw_below_drewN | apply below_drew1) | exact HB.out)⟩
        · replace c10 := Bool.eq_false_iff.mpr c10
          subst c10
          have H1 : ((punnetref06_Made.f).bind fun t371 => ((frame_Put.f kj5 ([] : List Int) t371 l0).bind fun bt373 => (if (Int.tmod a1 2) = 0 then (punnetlaw07_FrameTells.j1 kj5 l0 a1 a2 bt373.1 32 64 t371) else (punnetlaw07_FrameTells.j1 kj5 l0 a1 a2 bt373.1 64 (wrap64 (8 * (bt373.1.length : Int))) t371)))) = some r := by rw [if_neg (show ¬ (false = true) by decide)] at H; exact H
          clear H
          have H := H1
          clear H1
          replace H := Option.bind_eq_some_iff.mp H
          obtain ⟨t371, A110, H⟩ := H
          replace H : ((frame_Put.f kj5 ([] : List Int) t371 l0).bind fun bt373 => (if (Int.tmod a1 2) = 0 then (punnetlaw07_FrameTells.j1 kj5 l0 a1 a2 bt373.1 32 64 t371) else (punnetlaw07_FrameTells.j1 kj5 l0 a1 a2 bt373.1 64 (wrap64 (8 * (bt373.1.length : Int))) t371))) = some r := H
          have A11 := Aside0.mk A110
          clear A110
          replace H := Option.bind_eq_some_iff.mp H
          obtain ⟨⟨t373, t376⟩, A120, H⟩ := H
          replace H : (if (Int.tmod a1 2) = 0 then (punnetlaw07_FrameTells.j1 kj5 l0 a1 a2 t373 32 64 t371) else (punnetlaw07_FrameTells.j1 kj5 l0 a1 a2 t373 64 (wrap64 (8 * (t373.length : Int))) t371)) = some r := H
          have A12 := Aside0.mk A120
          clear A120
          have HC13 := Aside0.mk H
          clear H
          go_upto_if 44 with (first | ((with_reducible refine gate_callee (f := 17) rfl ?_); refine goesL_ (some 32) rfl rfl Try.func17 (by kernel_rfl) rfl #[] rfl (by (try simp only [List.map_toArray, List.map_cons, List.map_nil]); first | done | rfl | (simp only [List.length_drop, List.length_take]; rfl)) ?_; (with_reducible refine (punnetref06_Made.calls  t371 _ A11.out).mono ?_); rintro e w14 ⟨rfl, hb⟩; refine ⟨_, rfl, ?_⟩; have n0_ := Aside0.mk (below_step (by repeat (first | (with_reducible first | exact HB.out | apply below_alloc | apply pw_below_drewN | apply below_drew1) | exact HB.out)) hb); clear HB; have HB := n0_; clear n0_; (try clear hb); (try clear hb2); (try clear hk); (try clear hi)) | ((with_reducible refine gate_dst (N := 7) rfl ?_); (try (refine gate_guard (by rfl) ?_; dsimp only)); refine tab_alloc_event (t := 24) (x := t371) rfl rfl rfl rfl rfl rfl (by first | rfl | (go_simp; done)) (by first | rfl | (go_simp; done)) (by kernel_rfl) ?_; intro gb372 hg w15 hbox hb; have n0_ := Aside0.mk (below_step (by repeat (first | (with_reducible first | exact HB.out | apply below_alloc | apply pw_below_drewN | apply below_drew1) | exact HB.out)) hb); have n1_ := Aside0.mk (hbox); have n2_ := Aside0.mk ((by rw [hg]; exact (below_size (by repeat (first | (with_reducible first | exact HB.out | apply below_alloc | apply pw_below_drewN | apply below_drew1) | exact HB.out))) : w.heap.size ≤ gb372)); have n3_ := Aside0.mk ((by rw [hg]; exact (below_size (by repeat (first | (with_reducible first | exact HB.out | apply below_alloc | apply pw_below_drewN | apply below_drew1) | exact HB.out))) : w.heap.size ≤ gb372)); clear HB; have HB := n0_; have BK372 := n1_; have GW372 := n2_; have GE372 := n3_; clear n0_ n1_ n2_ n3_; clear hb hbox hg) | ((with_reducible refine gate_dst (N := 34) rfl ?_); (try (refine gate_guard (by rfl) ?_; dsimp only)); refine wpList_load_row rfl 24 (.tmp 7) rfl gb372 rfl 24 (tabC t371) (0, 0) _ (by (with_reducible repeat (first | refine blk_drewN ?_ _ | refine blk_drew ?_ | refine blk_alloc ?_ _)); exact BK372.out) Try.underlying24 rfl (by rw [tabC_size]; kernel_rfl) ?_) | ((with_reducible refine gate_callee (f := 20) rfl ?_); refine goesL_ (some 36) rfl rfl Try.func20 (by kernel_rfl) rfl #[.slice none 0 0, .agg (tabC t371), .slice A0 l0.length c0] rfl (by (try simp only [List.map_toArray, List.map_cons, List.map_nil]); first | done | rfl | (simp only [List.length_drop, List.length_take]; rfl)) ?_; (refine (frame_Put.calls kj5 (fun k_ => some k_ = (.slice none 0 0 : Value).ownBlock) (.slice none 0 0) ([] : List Int) t371 _ _ l0 t373 t376 w _ ?side1 ?side2 ?side3 ?side4 A12.out).mono ?_); (case side1 => repeat (first | (with_reducible first | exact HB.out | apply below_alloc | apply pw_below_drewN | apply below_drew1 | refine below_set ?_ GE372.out) | exact HB.out)); (case side2 => exact Kd.R_nil _ _ _ _ _); (case side3 => exact Kd.C_kept_came (Kd.heap_int .u8) HR0.out (by repeat (first | (with_reducible first | exact HB.out | apply below_alloc | apply pw_below_drewN | apply below_drew1 | refine below_set ?_ GE372.out) | exact HB.out)) (fun k_ hs_ => (fun e_ => by simp [Value.ownBlock] at e_) hs_)); (case side4 => exact HC0.out); rintro e w16 ⟨v374, rfl, ho0, hb, hkp⟩; refine ⟨_, rfl, ?_⟩; have n0_ := Aside0.mk (blk_kept (by (with_reducible repeat (first | refine blk_drewN ?_ _ | refine blk_drew ?_ | refine blk_alloc ?_ _)); exact BK372.out) hkp (fun hs_ => (fun e_ => by simp [Value.ownBlock] at e_) hs_)); have n1_ := Aside0.mk (Kd.R_mono (ok' := fun k_ => True) ho0 (fun k_ hk_ => trivial)); have n2_ := Aside0.mk (hb); clear BK372; clear HB; have BK372 := n0_; have HO375 := n1_; have HB := n2_; clear n0_ n1_ n2_; (try clear hb); (try clear hkp); (try clear ho0); obtain ⟨Ao17, co17, eo17⟩ := Kd.R_slice HO375.out; subst eo17))
          (try simp only [Act.put, List.setIfInBounds_toArray, List.set_cons_zero, List.set_cons_succ])
          go_cut [10, 11] (fun v10 v11 wc => ∃ (kq : Nat) (x10_12 : Int) (x11_12 : Int), v10 = .int .i64 x10_12 ∧ v11 = .int .i64 x11_12 ∧ Aside0 (punnetlaw07_FrameTells.j1 kq l0 a1 a2 t373 x10_12 x11_12 t371 = some r) ∧ Aside0 (kq ≤ kj5) ∧ Aside0 (Kd.R (Kd.int .u8) 5 wc w.heap.size (fun _ => True) (.slice Ao17 t373.length co17) t373) ∧ Aside0 (wc.heap[gb372]? = some (.cells (tabC t371) 24 (0, 0))) ∧ Aside0 (Below w.heap.size w wc))
          case first =>
            have H := HC13.out
            clear HC13
            by_cases c18 : (Int.tmod a1 2) = 0
            · rw [if_pos c18] at H
              have c18b0 : ((Int.tmod a1 2) == 0) = true := beq_iff_eq.mpr c18
              have c18b1 : ((Int.tmod a1 2) != 0) = false := bne_eq_false_iff_eq.mpr c18
              clear c18
              (first | rw [c18b0] | (simp only [i64_w, i32_w]; rw [c18b0]) | skip)
              have H' := Aside0.mk H
              clear H
              go_wp2
              go_meet
              case rel => exact ⟨_, (32), (64), (by first | rfl | (simp; done) | (simp [*]; done)), (by first | rfl | (simp; done) | (simp [*]; done)), H', ⟨by have := HJ5.out; first | omega | exact Nat.le_refl _⟩, ⟨by (with_reducible repeat (first | apply Kd.R_alloc | apply Kd.R_drewN | apply Kd.R_drew)); exact HO375.out⟩, ⟨by (with_reducible repeat (first | refine blk_drewN ?_ _ | refine blk_drew ?_ | refine blk_alloc ?_ _)); exact BK372.out⟩, ⟨by repeat (first | (with_reducible first | exact HB.out | apply below_alloc | apply pw_below_drewN | apply below_drew1 | refine below_set ?_ GE372.out) | exact HB.out)⟩⟩
            · rw [if_neg c18] at H
              have c18b0 : ((Int.tmod a1 2) == 0) = false := beq_eq_false_iff_ne.mpr c18
              have c18b1 : ((Int.tmod a1 2) != 0) = true := bne_iff_ne.mpr c18
              (first | rw [c18b0] | (simp only [i64_w, i32_w]; rw [c18b0]) | skip)
              have H' := Aside0.mk H
              clear H
              go_wp2
              go_meet
              case rel => exact ⟨_, (64), (wrap64 (8 * (t373.length : Int))), (by first | rfl | (simp; done) | (simp [*]; done)), (by first | rfl | (simp; done) | (simp [*]; done)), H', ⟨by have := HJ5.out; first | omega | exact Nat.le_refl _⟩, ⟨by (with_reducible repeat (first | apply Kd.R_alloc | apply Kd.R_drewN | apply Kd.R_drew)); exact HO375.out⟩, ⟨by (with_reducible repeat (first | refine blk_drewN ?_ _ | refine blk_drew ?_ | refine blk_alloc ?_ _)); exact BK372.out⟩, ⟨by repeat (first | (with_reducible first | exact HB.out | apply below_alloc | apply pw_below_drewN | apply below_drew1 | refine below_set ?_ GE372.out) | exact HB.out)⟩⟩
          case rest =>
            clear HC13
            try clear c1
            try clear c2
            try clear p2
            try clear c5
            try clear p6
            try clear c7
            try clear c8
            try clear c8b0
            try clear c8b1
            try clear c9
            try clear c9b0
            try clear c10
            try clear c17
            try clear c18
            try clear c18b0
            try clear c18b1
            try clear p2
            obtain ⟨kq, x10_12, x11_12, rfl, rfl, HA, HJ12, HO_8, BK372, HB⟩ := hcut
            cases kq with
            | zero => exact absurd HA.out (by simp [punnetlaw07_FrameTells.j1])
            | succ kj12 =>
              have H := HA.out
              clear HA
              simp only [punnetlaw07_FrameTells.j1] at H
              have HC19 := Aside0.mk H
              clear H
              go_upto_region 10 with (fail)
              go_cut [55] (fun v55 wc => ∃ (kq : Nat) (x55_18 : Bool), v55 = .bool x55_18 ∧ Aside0 (punnetlaw07_FrameTells.j2 kq l0 a1 a2 t373 x10_12 x11_12 x55_18 t371 = some r) ∧ Aside0 (kq ≤ kj12) ∧ Aside0 (Kd.R (Kd.int .u8) 5 wc w.heap.size (fun _ => True) (.slice Ao17 t373.length co17) t373) ∧ Aside0 (wc.heap[gb372]? = some (.cells (tabC t371) 24 (0, 0))) ∧ Aside0 (Below w.heap.size w wc))
              case first =>
                have H := HC19.out
                clear HC19
                by_cases c20 : x11_12 ≤ x10_12
                · rw [if_pos c20] at H
                  have c20b0 : decide (x11_12 ≤ x10_12) = true := decide_eq_true c20
                  clear c20
                  (first | rw [c20b0] | (simp only [i64_w, i32_w]; rw [c20b0]) | skip)
                  have H' := Aside0.mk H
                  clear H
                  go_wp2
                  go_meet
                  case rel => exact ⟨_, (true), (by first | rfl | (simp; done) | (simp [*]; done)), H', ⟨by have := HJ5.out; have := HJ12.out; first | omega | exact Nat.le_refl _⟩, ⟨by (with_reducible repeat (first | apply Kd.R_alloc | apply Kd.R_drewN | apply Kd.R_drew)); exact HO_8.out⟩, ⟨by (with_reducible repeat (first | refine blk_drewN ?_ _ | refine blk_drew ?_ | refine blk_alloc ?_ _)); exact BK372.out⟩, ⟨by repeat (first | (with_reducible first | exact HB.out | apply below_alloc | apply pw_below_drewN | apply below_drew1 | refine below_set ?_ GE372.out) | exact HB.out)⟩⟩
                · rw [if_neg c20] at H
                  have c20b0 : decide (x11_12 ≤ x10_12) = false := decide_eq_false c20
                  clear c20
                  (first | rw [c20b0] | (simp only [i64_w, i32_w]; rw [c20b0]) | skip)
                  have H' := Aside0.mk H
                  clear H
                  go_wp2
                  go_meet
                  case rel => exact ⟨_, (((t373.length : Int) != (wrap64 ((l0.length : Int) + 8)))), (by first | rfl | (simp; done) | (simp [*]; done)), H', ⟨by have := HJ5.out; have := HJ12.out; first | omega | exact Nat.le_refl _⟩, ⟨by (with_reducible repeat (first | apply Kd.R_alloc | apply Kd.R_drewN | apply Kd.R_drew)); exact HO_8.out⟩, ⟨by (with_reducible repeat (first | refine blk_drewN ?_ _ | refine blk_drew ?_ | refine blk_alloc ?_ _)); exact BK372.out⟩, ⟨by repeat (first | (with_reducible first | exact HB.out | apply below_alloc | apply pw_below_drewN | apply below_drew1 | refine below_set ?_ GE372.out) | exact HB.out)⟩⟩
              case rest =>
                clear HC19
                try clear c1
                try clear c2
                try clear p2
                try clear c5
                try clear p6
                try clear c7
                try clear c8
                try clear c8b0
                try clear c8b1
                try clear c9
                try clear c9b0
                try clear c10
                try clear c17
                try clear c18
                try clear c18b0
                try clear c18b1
                try clear c19
                try clear c20
                try clear c20b0
                try clear p2
                try clear p6
                obtain ⟨kq, x55_18, rfl, HA, HJ18, HO_8, BK372, HB⟩ := hcut
                cases kq with
                | zero => exact absurd HA.out (by simp [punnetlaw07_FrameTells.j2])
                | succ kj18 =>
                  have H := HA.out
                  clear HA
                  simp only [punnetlaw07_FrameTells.j2] at H
                  by_cases c21 : x55_18 = true
                  · subst c21
                    have H1 : (some ((t373.length : Int) == (wrap64 ((l0.length : Int) + 8)))) = some r := by rw [if_pos rfl] at H; exact H
                    clear H
                    have H := H1
                    clear H1
                    obtain rfl := Option.some.inj H
                    go_wp2
                    go_ret
                    exact ⟨by first | rfl | (simp [errW_none, errW_some] <;> rfl) | (simp [*, errW_none, errW_some] <;> rfl), by repeat (first | (with_reducible first | exact HB.out | apply below_alloc | apply pw_below_drewN | apply below_drew1 | refine below_set ?_ GE372.out) | exact HB.out)⟩
                  · replace c21 := Bool.eq_false_iff.mpr c21
                    subst c21
                    have H1 : (if (wrap64 (x11_12 - x10_12)) = 0 then (none) else (punnetlaw07_FrameTells.l0 kj18 a2 t373 x11_12 (wrap64 (x10_12 + (Int.tmod a1 (wrap64 (x11_12 - x10_12))))) true 0 t371)) = some r := by rw [if_neg (show ¬ (false = true) by decide)] at H; exact H
                    clear H
                    have H := H1
                    clear H1
                    by_cases c22 : (wrap64 (x11_12 - x10_12)) = 0
                    · rw [if_pos c22] at H
                      exact absurd H (by simp)
                    · rw [if_neg c22] at H
                      have c22b0 : ((wrap64 (x11_12 - x10_12)) == 0) = false := beq_eq_false_iff_ne.mpr c22
                      have c22b1 : ((wrap64 (x11_12 - x10_12)) != 0) = true := bne_iff_ne.mpr c22
                      have H' := Aside0.mk H
                      clear H
                      go_wp2
                      go_loopg [13, 14] kj18 (fun kq v13 v14 w' => ∃ (x8_4 : List Int) (x13_4 : Bool) (x14_4 : Int), v13 = .bool x13_4 ∧ v14 = .int .i64 x14_4 ∧ Aside0 (punnetlaw07_FrameTells.l0 kq a2 x8_4 x11_12 (wrap64 (x10_12 + (Int.tmod a1 (wrap64 (x11_12 - x10_12))))) x13_4 x14_4 t371 = some r) ∧ Aside0 (kq ≤ kj18) ∧ Aside0 (Kd.R (Kd.int .u8) 5 w' w.heap.size (fun _ => True) (.slice Ao17 t373.length co17) x8_4) ∧ Aside0 (w'.heap[gb372]? = some (.cells (tabC t371) 24 (0, 0))) ∧ Aside0 (Below w.heap.size w w'))
                      case atStart => exact ⟨(t373), (true), (0), (by first | rfl | (simp; done) | (simp [*]; done)), (by first | rfl | (simp; done) | (simp [*]; done)), H', ⟨Nat.le_refl _⟩, ⟨by (with_reducible repeat (first | apply Kd.R_alloc | apply Kd.R_drewN | apply Kd.R_drew)); exact HO_8.out⟩, ⟨by (with_reducible repeat (first | refine blk_drewN ?_ _ | refine blk_drew ?_ | refine blk_alloc ?_ _)); exact BK372.out⟩, ⟨by repeat (first | (with_reducible first | exact HB.out | apply below_alloc | apply pw_below_drewN | apply below_drew1 | refine below_set ?_ GE372.out) | exact HB.out)⟩⟩
                      case round =>
                        clear H'
                        try clear c1
                        try clear c2
                        try clear p2
                        try clear c5
                        try clear p6
                        try clear c7
                        try clear c8
                        try clear c8b0
                        try clear c8b1
                        try clear c9
                        try clear c9b0
                        try clear c10
                        try clear c17
                        try clear c18
                        try clear c18b0
                        try clear c18b1
                        try clear c19
                        try clear c20
                        try clear c20b0
                        try clear c21
                        try clear c22
                        try clear c22b0
                        try clear c22b1
                        try clear p2
                        try clear p6
                        obtain ⟨x8_4, x13_4, x14_4, rfl, rfl, HA, HK4, HO_8, BK372, HB⟩ := hrel
                        have hl8_4 := (Kd.R_reads' HO_8.out).1
                        rw [hl8_4] at HO_8
                        (try simp only [hl8_4])
                        (try simp only [hl8_4] at BK372)
                        cases gk with
                        | zero => exact absurd HA.out (by simp [punnetlaw07_FrameTells.l0])
                        | succ k4 =>
                          have H := HA.out
                          clear HA
                          simp only [punnetlaw07_FrameTells.l0] at H
                          by_cases c23 : x14_4 < 32
                          · rw [if_pos c23] at H
                            have c23b0 : decide (x14_4 < 32) = true := decide_eq_true c23
                            clear c23
                            obtain ⟨ji24, hji24⟩ : ∃ j_ : Int, (IntKind.u64.wrap (x14_4)) = j_ := ⟨_, rfl⟩
                            replace H : (if 0 ≤ (ji24) then (if (Int.tmod (shr .u32 a2 (ji24)) 2) = 1 then (if (wrap64 ((wrap64 (x10_12 + (Int.tmod a1 (wrap64 (x11_12 - x10_12))))) + x14_4)) < x11_12 then (if 0 ≤ (wrap64 (Int.tdiv (wrap64 ((wrap64 (x10_12 + (Int.tmod a1 (wrap64 (x11_12 - x10_12))))) + x14_4)) 8)) then (if (wrap64 (Int.tdiv (wrap64 ((wrap64 (x10_12 + (Int.tmod a1 (wrap64 (x11_12 - x10_12))))) + x14_4)) 8)) < (x8_4.length : Int) then (if 0 ≤ (IntKind.u64.wrap (Int.tmod (wrap64 ((wrap64 (x10_12 + (Int.tmod a1 (wrap64 (x11_12 - x10_12))))) + x14_4)) 8)) then (punnetlaw07_FrameTells.l0 k4 a2 (x8_4.set ((wrap64 (Int.tdiv (wrap64 ((wrap64 (x10_12 + (Int.tmod a1 (wrap64 (x11_12 - x10_12))))) + x14_4)) 8)) : Int).toNat (Go.bits .xor .u8 (rd x8_4 (wrap64 (Int.tdiv (wrap64 ((wrap64 (x10_12 + (Int.tmod a1 (wrap64 (x11_12 - x10_12))))) + x14_4)) 8))) (shl .u8 1 (IntKind.u64.wrap (Int.tmod (wrap64 ((wrap64 (x10_12 + (Int.tmod a1 (wrap64 (x11_12 - x10_12))))) + x14_4)) 8))))) x11_12 (wrap64 (x10_12 + (Int.tmod a1 (wrap64 (x11_12 - x10_12))))) false (wrap64 (x14_4 + 1)) t371) else (none)) else (none)) else (none)) else (punnetlaw07_FrameTells.l0 k4 a2 x8_4 x11_12 (wrap64 (x10_12 + (Int.tmod a1 (wrap64 (x11_12 - x10_12))))) x13_4 (wrap64 (x14_4 + 1)) t371)) else (punnetlaw07_FrameTells.l0 k4 a2 x8_4 x11_12 (wrap64 (x10_12 + (Int.tmod a1 (wrap64 (x11_12 - x10_12))))) x13_4 (wrap64 (x14_4 + 1)) t371)) else (none)) = some r := by first | (rw [hji24] at H; exact H) | (simp only [hji24] at H ⊢; exact H)
                            by_cases c25 : 0 ≤ (ji24)
                            · rw [if_pos c25] at H
                              have c25b0 := eq_true c25
                              have c25b1 : decide (0 ≤ (ji24)) = true := decide_eq_true c25
                              clear c25
                              obtain ⟨ji26, hji26⟩ : ∃ j_ : Int, (shr .u32 a2 (ji24)) = j_ := ⟨_, rfl⟩
                              replace H : (if (Int.tmod (ji26) 2) = 1 then (if (wrap64 ((wrap64 (x10_12 + (Int.tmod a1 (wrap64 (x11_12 - x10_12))))) + x14_4)) < x11_12 then (if 0 ≤ (wrap64 (Int.tdiv (wrap64 ((wrap64 (x10_12 + (Int.tmod a1 (wrap64 (x11_12 - x10_12))))) + x14_4)) 8)) then (if (wrap64 (Int.tdiv (wrap64 ((wrap64 (x10_12 + (Int.tmod a1 (wrap64 (x11_12 - x10_12))))) + x14_4)) 8)) < (x8_4.length : Int) then (if 0 ≤ (IntKind.u64.wrap (Int.tmod (wrap64 ((wrap64 (x10_12 + (Int.tmod a1 (wrap64 (x11_12 - x10_12))))) + x14_4)) 8)) then (punnetlaw07_FrameTells.l0 k4 a2 (x8_4.set ((wrap64 (Int.tdiv (wrap64 ((wrap64 (x10_12 + (Int.tmod a1 (wrap64 (x11_12 - x10_12))))) + x14_4)) 8)) : Int).toNat (Go.bits .xor .u8 (rd x8_4 (wrap64 (Int.tdiv (wrap64 ((wrap64 (x10_12 + (Int.tmod a1 (wrap64 (x11_12 - x10_12))))) + x14_4)) 8))) (shl .u8 1 (IntKind.u64.wrap (Int.tmod (wrap64 ((wrap64 (x10_12 + (Int.tmod a1 (wrap64 (x11_12 - x10_12))))) + x14_4)) 8))))) x11_12 (wrap64 (x10_12 + (Int.tmod a1 (wrap64 (x11_12 - x10_12))))) false (wrap64 (x14_4 + 1)) t371) else (none)) else (none)) else (none)) else (punnetlaw07_FrameTells.l0 k4 a2 x8_4 x11_12 (wrap64 (x10_12 + (Int.tmod a1 (wrap64 (x11_12 - x10_12))))) x13_4 (wrap64 (x14_4 + 1)) t371)) else (punnetlaw07_FrameTells.l0 k4 a2 x8_4 x11_12 (wrap64 (x10_12 + (Int.tmod a1 (wrap64 (x11_12 - x10_12))))) x13_4 (wrap64 (x14_4 + 1)) t371)) = some r := by first | (rw [hji26] at H; exact H) | (simp only [hji26] at H ⊢; exact H)
                              have hji26_ : (a2 / 2 ^ min (ji24).toNat 32) = ji26 := hji26
                              have hji26z : (ji24) ≤ 32 → (a2 / 2 ^ (ji24).toNat) = ji26 := shr_small hji26
                              by_cases c27 : (Int.tmod (ji26) 2) = 1
                              · rw [if_pos c27] at H
                                have c27b0 : ((Int.tmod (ji26) 2) == 1) = true := beq_iff_eq.mpr c27
                                have c27b1 : ((Int.tmod (ji26) 2) != 1) = false := bne_eq_false_iff_eq.mpr c27
                                clear c27
                                by_cases c28 : (wrap64 ((wrap64 (x10_12 + (Int.tmod a1 (wrap64 (x11_12 - x10_12))))) + x14_4)) < x11_12
                                · rw [if_pos c28] at H
                                  have c28b0 : decide ((wrap64 ((wrap64 (x10_12 + (Int.tmod a1 (wrap64 (x11_12 - x10_12))))) + x14_4)) < x11_12) = true := decide_eq_true c28
                                  clear c28
                                  obtain ⟨ji29, hji29⟩ : ∃ j_ : Int, (wrap64 (Int.tdiv (wrap64 ((wrap64 (x10_12 + (Int.tmod a1 (wrap64 (x11_12 - x10_12))))) + x14_4)) 8)) = j_ := ⟨_, rfl⟩
                                  replace H : (if 0 ≤ (ji29) then (if (ji29) < (x8_4.length : Int) then (if 0 ≤ (IntKind.u64.wrap (Int.tmod (wrap64 ((wrap64 (x10_12 + (Int.tmod a1 (wrap64 (x11_12 - x10_12))))) + x14_4)) 8)) then (punnetlaw07_FrameTells.l0 k4 a2 (x8_4.set ((ji29) : Int).toNat (Go.bits .xor .u8 (rd x8_4 (ji29)) (shl .u8 1 (IntKind.u64.wrap (Int.tmod (wrap64 ((wrap64 (x10_12 + (Int.tmod a1 (wrap64 (x11_12 - x10_12))))) + x14_4)) 8))))) x11_12 (wrap64 (x10_12 + (Int.tmod a1 (wrap64 (x11_12 - x10_12))))) false (wrap64 (x14_4 + 1)) t371) else (none)) else (none)) else (none)) = some r := by first | (rw [hji29] at H; exact H) | (simp only [hji29] at H ⊢; exact H)
                                  have hji29w : (IntKind.i64.wrap (Int.tdiv (wrap64 ((wrap64 (x10_12 + (Int.tmod a1 (wrap64 (x11_12 - x10_12))))) + x14_4)) 8)) = ji29 := (i64_w _).trans hji29
                                  by_cases c30 : 0 ≤ (ji29)
                                  · rw [if_pos c30] at H
                                    have c30b0 : decide (0 ≤ (ji29)) = true := decide_eq_true c30
                                    clear c30
                                    by_cases c31 : (ji29) < (x8_4.length : Int)
                                    · rw [if_pos c31] at H
                                      have c31b0 : decide ((ji29) < (x8_4.length : Int)) = true := decide_eq_true c31
                                      clear c31
                                      obtain ⟨ji32, hji32⟩ : ∃ j_ : Int, (IntKind.u64.wrap (Int.tmod (wrap64 ((wrap64 (x10_12 + (Int.tmod a1 (wrap64 (x11_12 - x10_12))))) + x14_4)) 8)) = j_ := ⟨_, rfl⟩
                                      replace H : (if 0 ≤ (ji32) then (punnetlaw07_FrameTells.l0 k4 a2 (x8_4.set ((ji29) : Int).toNat (Go.bits .xor .u8 (rd x8_4 (ji29)) (shl .u8 1 (ji32)))) x11_12 (wrap64 (x10_12 + (Int.tmod a1 (wrap64 (x11_12 - x10_12))))) false (wrap64 (x14_4 + 1)) t371) else (none)) = some r := by first | (rw [hji32] at H; exact H) | (simp only [hji32] at H ⊢; exact H)
                                      by_cases c33 : 0 ≤ (ji32)
                                      · rw [if_pos c33] at H
                                        have c33b0 := eq_true c33
                                        have c33b1 : decide (0 ≤ (ji32)) = true := decide_eq_true c33
                                        clear c33
                                        obtain ⟨ji34, hji34⟩ : ∃ j_ : Int, (shl .u8 1 (ji32)) = j_ := ⟨_, rfl⟩
                                        replace H : (punnetlaw07_FrameTells.l0 k4 a2 (x8_4.set ((ji29) : Int).toNat (Go.bits .xor .u8 (rd x8_4 (ji29)) (ji34))) x11_12 (wrap64 (x10_12 + (Int.tmod a1 (wrap64 (x11_12 - x10_12))))) false (wrap64 (x14_4 + 1)) t371) = some r := by first | (rw [hji34] at H; exact H) | (simp only [hji34] at H ⊢; exact H)
                                        have hji34_ : (IntKind.u8.wrap (1 * 2 ^ min (ji32).toNat 8)) = ji34 := hji34
                                        have hji34z : (ji32) ≤ 8 → (IntKind.u8.wrap (1 * 2 ^ (ji32).toNat)) = ji34 := shl_small hji34
                                        have hji34u : (IntKind.u8.wrap (2 ^ min (ji32).toNat 8)) = ji34 := by have h_ := hji34_; rw [Int.one_mul] at h_; exact h_
                                        have hji34v : (ji32) ≤ 8 → (IntKind.u8.wrap (2 ^ (ji32).toNat)) = ji34 := fun hle_ => by have h_ := hji34z hle_; rw [Int.one_mul] at h_; exact h_
                                        obtain ⟨y378, hy378⟩ : ∃ y_ : List Int, y_ = (x8_4.set ((ji29) : Int).toNat (Go.bits .xor .u8 (rd x8_4 (ji29)) (ji34))) := ⟨_, rfl⟩
                                        replace H : (punnetlaw07_FrameTells.l0 k4 a2 y378 x11_12 (wrap64 (x10_12 + (Int.tmod a1 (wrap64 (x11_12 - x10_12))))) false (wrap64 (x14_4 + 1)) t371) = some r := by first | (rw [hy378]; with_reducible exact H) | (have H2_ := (Option.bind_some _ _).symm.trans H; rw [hy378]; with_reducible exact H2_) | (have H2_ := (Option.bind_some _ _).symm.trans H; with_reducible exact H2_) | with_reducible exact H | (rw [hy378]; exact H) | exact H
                                        have Ny378 := Aside0.mk hy378
                                        clear hy378
                                        have H' := Aside0.mk H
                                        clear H
                                        have p377 : 0 ≤ ((ji29) : Int) := of_decide_eq_true (by first | (with_reducible assumption) | assumption)
                                        have q377 : (ji29) < (x8_4.length : Int) := of_decide_eq_true (by first | (with_reducible assumption) | assumption)
                                        obtain ⟨ad377, e377, hx377_0⟩ := Kd.at_int (Kd.R_reads' HO_8.out).2.2 (ji29) p377 q377
                                        cases e377
                                        replace p377 := eq_true p377
                                        replace q377 := eq_true q377
                                        have p35 : 0 ≤ ((ji29) : Int) := of_decide_eq_true (by first | (with_reducible assumption) | assumption)
                                        have q35 : ((ji29) : Int) < ((x8_4.length : Int) : Int) := of_decide_eq_true (by first | (with_reducible assumption) | assumption)
                                        obtain ⟨go35, co35, eo35, gb35, gl35, cl35, HG35⟩ := Kd.R_form HO_8.out (by omega)
                                        (first | cases eo35 | (injection eo35 with ea_ en_ ec_; (first | subst ea_ | (injection ea_ with ea_; subst ea_)); subst ec_; clear en_))
                                        have GB35 := Aside0.mk gb35
                                        have GG35 := Aside0.mk HG35
                                        clear gb35 gl35 HG35
                                        (first | simp only [add_plain] at hx377_0 | skip)
                                        obtain ⟨hx35_0, hf35_0⟩ := Kd.R_celln 0 HO_8.out ((ji29) : Int) p35 q35
                                        replace p35 := eq_true p35
                                        replace q35 := eq_true q35
                                        have HP36 := Kd.R_putg HO_8.out ((ji29) : Int) (Go.bits .xor .u8 (rd x8_4 (ji29)) (ji34))
                                        go_wp2_with (first | ((with_reducible refine gate_store (t := 5) (p := 100) rfl ?_); refine store_event (t := 5) (p := 100) (v := ?vo_w37) (w1 := (wr.setCell ⟨go35, ((ji29) : Int).toNat, none⟩ (.int .u8 (Go.bits .xor .u8 (rd x8_4 (ji29)) (ji34))))) ?hg ?ho ?hn ?hr ?_; (case ho => rfl); (case hg => rfl); (case hn => rfl); (case hr => first | (go_simp; done) | (go_simp; rfl)); intro w37 hw; have hg : wr.grownBy w37 (some go35) := (by rw [hw]; exact HP36.2); have hp_ : Kd.R (Kd.int .u8) 5 w37 w.heap.size (fun _ => True) (.slice (some ⟨go35, 0, none⟩) x8_4.length co17) y378 := (by rw [hw, Ny378.out]; exact HP36.1); clear HP36; have n0_ := Aside0.mk (hp_); have n1_ := Aside0.mk (blk_grown (g := gb372) (o := .cells (tabC t371) 24 (0, 0)) (by (with_reducible repeat (first | refine blk_drewN ?_ _ | refine blk_drew ?_ | refine blk_alloc ?_ _)); exact BK372.out) hg (Kd.R_ne HO_8.out BK372.out (by decide))); have n2_ := Aside0.mk ((by rw [hw]; exact below_set (HB.out) GB35.out : Below w.heap.size w w37)); clear HO_8; clear BK372; clear HB; have HO_8 := n0_; have BK372 := n1_; have HB := n2_; clear n0_ n1_ n2_; clear hg hw hp_))
                                        (try simp only [← hl8_4])
                                        go_roundg k4
                                        case measure => have := HJ5.out; have := HJ12.out; have := HJ18.out; have := HK4.out; omega
                                        case rel => exact ⟨(y378), (false), (wrap64 (x14_4 + 1)), (by first | rfl | (simp; done) | (simp [*]; done)), (by first | rfl | (simp; done) | (simp [*]; done)), H', ⟨by have := HJ5.out; have := HJ12.out; have := HJ18.out; have := HK4.out; omega⟩, ⟨by (try simp only [hl8_4]); (with_reducible repeat (first | apply Kd.R_alloc | apply Kd.R_drewN | apply Kd.R_drew)); exact HO_8.out⟩, ⟨by (try simp only [hl8_4]); (with_reducible repeat (first | refine blk_drewN ?_ _ | refine blk_drew ?_ | refine blk_alloc ?_ _)); exact BK372.out⟩, ⟨by repeat (first | (with_reducible first | exact HB.out | apply below_alloc | apply pw_below_drewN | apply below_drew1 | refine below_set ?_ GE372.out) | exact HB.out)⟩⟩
                                      · rw [if_neg c33] at H
                                        exact absurd H (by simp)
                                    · rw [if_neg c31] at H
                                      exact absurd H (by simp)
                                  · rw [if_neg c30] at H
                                    exact absurd H (by simp)
                                · rw [if_neg c28] at H
                                  have c28b0 : decide ((wrap64 ((wrap64 (x10_12 + (Int.tmod a1 (wrap64 (x11_12 - x10_12))))) + x14_4)) < x11_12) = false := decide_eq_false c28
                                  clear c28
                                  have H' := Aside0.mk H
                                  clear H
                                  go_wp2
                                  (try simp only [← hl8_4])
                                  go_roundg k4
                                  case measure => have := HJ5.out; have := HJ12.out; have := HJ18.out; have := HK4.out; omega
                                  case rel => exact ⟨(x8_4), (x13_4), (wrap64 (x14_4 + 1)), (by first | rfl | (simp; done) | (simp [*]; done)), (by first | rfl | (simp; done) | (simp [*]; done)), H', ⟨by have := HJ5.out; have := HJ12.out; have := HJ18.out; have := HK4.out; omega⟩, ⟨by (try simp only [hl8_4]); (with_reducible repeat (first | apply Kd.R_alloc | apply Kd.R_drewN | apply Kd.R_drew)); exact HO_8.out⟩, ⟨by (try simp only [hl8_4]); (with_reducible repeat (first | refine blk_drewN ?_ _ | refine blk_drew ?_ | refine blk_alloc ?_ _)); exact BK372.out⟩, ⟨by repeat (first | (with_reducible first | exact HB.out | apply below_alloc | apply pw_below_drewN | apply below_drew1 | refine below_set ?_ GE372.out) | exact HB.out)⟩⟩
                              · rw [if_neg c27] at H
                                have c27b0 : ((Int.tmod (ji26) 2) == 1) = false := beq_eq_false_iff_ne.mpr c27
                                have c27b1 : ((Int.tmod (ji26) 2) != 1) = true := bne_iff_ne.mpr c27
                                have H' := Aside0.mk H
                                clear H
                                go_wp2
                                (try simp only [← hl8_4])
                                go_roundg k4
                                case measure => have := HJ5.out; have := HJ12.out; have := HJ18.out; have := HK4.out; omega
                                case rel => exact ⟨(x8_4), (x13_4), (wrap64 (x14_4 + 1)), (by first | rfl | (simp; done) | (simp [*]; done)), (by first | rfl | (simp; done) | (simp [*]; done)), H', ⟨by have := HJ5.out; have := HJ12.out; have := HJ18.out; have := HK4.out; omega⟩, ⟨by (try simp only [hl8_4]); (with_reducible repeat (first | apply Kd.R_alloc | apply Kd.R_drewN | apply Kd.R_drew)); exact HO_8.out⟩, ⟨by (try simp only [hl8_4]); (with_reducible repeat (first | refine blk_drewN ?_ _ | refine blk_drew ?_ | refine blk_alloc ?_ _)); exact BK372.out⟩, ⟨by repeat (first | (with_reducible first | exact HB.out | apply below_alloc | apply pw_below_drewN | apply below_drew1 | refine below_set ?_ GE372.out) | exact HB.out)⟩⟩
                            · rw [if_neg c25] at H
                              exact absurd H (by simp)
                          · rw [if_neg c23] at H
                            have c23b0 : decide (x14_4 < 32) = false := decide_eq_false c23
                            clear c23
                            replace H := Option.bind_eq_some_iff.mp H
                            obtain ⟨⟨t379, t380, t381⟩, A380, H⟩ := H
                            replace H : (if (x13_4 == (t381 == 0)) = true then (if x13_4 = true then (some true) else (if (t379.length : Int) = 0 then (some (t381 == 8)) else (some false))) else (some false)) = some r := H
                            have A38 := Aside0.mk A380
                            clear A380
                            by_cases c39 : (x13_4 == (t381 == 0)) = true
                            · rw [if_pos c39] at H
                              have c39b0 : (x13_4 == (t381 == 0)) = true := c39
                              (try (have c39b1 : decide (x13_4 = (t381 == 0)) = true := by simpa using c39))
                              (try (have c39b2 : (x13_4 == (t381 == 0)) = true := by simpa using c39))
                              clear c39
                              by_cases c40 : x13_4 = true
                              · subst c40
                                have H1 : (some true) = some r := by rw [if_pos rfl] at H; exact H
                                clear H
                                have H := H1
                                clear H1
                                obtain rfl := Option.some.inj H
                                go_wp2_with (first | ((with_reducible refine gate_dst (N := 103) rfl ?_); (try (refine gate_guard (by rfl) ?_; dsimp only)); refine wpList_load_row rfl 24 (.tmp 7) rfl gb372 rfl 24 (tabC t371) (0, 0) _ (by (with_reducible repeat (first | refine blk_drewN ?_ _ | refine blk_drew ?_ | refine blk_alloc ?_ _)); exact BK372.out) Try.underlying24 rfl (by rw [tabC_size]; kernel_rfl) ?_) | ((with_reducible refine gate_callee (f := 23) rfl ?_); refine goesL_ (some 104) rfl rfl Try.func23 (by kernel_rfl) rfl #[.slice Ao17 x8_4.length co17, .int .i64 0, .agg (tabC t371)] rfl (by (try simp only [List.map_toArray, List.map_cons, List.map_nil]); first | done | rfl | (simp only [List.length_drop, List.length_take]; rfl)) ?_; (with_reducible refine (frame_Get.calls k4 _ _ x8_4 0 t371 t379 t380 t381 _ ?side1 ?side2 A38.out).mono ?_); (case side1 => repeat (first | exact (Kd.R_reads' HO_8.out).2.2 | (with_reducible refine Kd.C_alloc ?_ _) | (with_reducible refine Kd.C_drewN ?_ _) | (with_reducible refine Kd.C_drew ?_))); (case side2 => exact (Kd.R_reads' HO_8.out).2.1); rintro e w41 ⟨v382, rfl, ho0, hb⟩; refine ⟨_, rfl, ?_⟩; have n0_ := Aside0.mk (Kd.R_elder' (by (with_reducible repeat (first | apply Kd.R_alloc | apply Kd.R_drewN | apply Kd.R_drew)); exact HO_8.out) (Kd.R_base ho0) hb); have n1_ := Aside0.mk (Kd.R_lower (Kd.R_new' ho0 (Kd.R_lt (by (with_reducible repeat (first | apply Kd.R_alloc | apply Kd.R_drewN | apply Kd.R_drew)); exact HO_8.out))) (below_size (by repeat (first | (with_reducible first | exact HB.out | apply below_alloc | apply pw_below_drewN | apply below_drew1 | refine below_set ?_ GE372.out) | exact HB.out)))); have n2_ := Aside0.mk (blk_below (g := gb372) (o := .cells (tabC t371) 24 (0, 0)) (by (with_reducible repeat (first | refine blk_drewN ?_ _ | refine blk_drew ?_ | refine blk_alloc ?_ _)); exact BK372.out) hb); have n3_ := Aside0.mk (below_step (by repeat (first | (with_reducible first | exact HB.out | apply below_alloc | apply pw_below_drewN | apply below_drew1 | refine below_set ?_ GE372.out) | exact HB.out)) hb); clear HO_8; clear BK372; clear HB; have HO_8 := n0_; have HO383 := n1_; have BK372 := n2_; have HB := n3_; clear n0_ n1_ n2_ n3_; (try clear hb); (try clear hb2); (try clear hk); (try clear hi); (try clear ho0)))
                                go_ret
                                exact ⟨by first | rfl | (simp [errW_none, errW_some] <;> rfl) | (simp [*, errW_none, errW_some] <;> rfl), by repeat (first | (with_reducible first | exact HB.out | apply below_alloc | apply pw_below_drewN | apply below_drew1 | refine below_set ?_ GE372.out) | exact HB.out)⟩
                              · replace c40 := Bool.eq_false_iff.mpr c40
                                subst c40
                                have H1 : (if (t379.length : Int) = 0 then (some (t381 == 8)) else (some false)) = some r := by rw [if_neg (show ¬ (false = true) by decide)] at H; exact H
                                clear H
                                have H := H1
                                clear H1
                                by_cases c42 : (t379.length : Int) = 0
                                · rw [if_pos c42] at H
                                  have c42b0 : ((t379.length : Int) == 0) = true := beq_iff_eq.mpr c42
                                  have c42b1 : ((t379.length : Int) != 0) = false := bne_eq_false_iff_eq.mpr c42
                                  clear c42
                                  obtain rfl := Option.some.inj H
                                  go_wp2_with (first | ((with_reducible refine gate_dst (N := 103) rfl ?_); (try (refine gate_guard (by rfl) ?_; dsimp only)); refine wpList_load_row rfl 24 (.tmp 7) rfl gb372 rfl 24 (tabC t371) (0, 0) _ (by (with_reducible repeat (first | refine blk_drewN ?_ _ | refine blk_drew ?_ | refine blk_alloc ?_ _)); exact BK372.out) Try.underlying24 rfl (by rw [tabC_size]; kernel_rfl) ?_) | ((with_reducible refine gate_callee (f := 23) rfl ?_); refine goesL_ (some 104) rfl rfl Try.func23 (by kernel_rfl) rfl #[.slice Ao17 x8_4.length co17, .int .i64 0, .agg (tabC t371)] rfl (by (try simp only [List.map_toArray, List.map_cons, List.map_nil]); first | done | rfl | (simp only [List.length_drop, List.length_take]; rfl)) ?_; (with_reducible refine (frame_Get.calls k4 _ _ x8_4 0 t371 t379 t380 t381 _ ?side1 ?side2 A38.out).mono ?_); (case side1 => repeat (first | exact (Kd.R_reads' HO_8.out).2.2 | (with_reducible refine Kd.C_alloc ?_ _) | (with_reducible refine Kd.C_drewN ?_ _) | (with_reducible refine Kd.C_drew ?_))); (case side2 => exact (Kd.R_reads' HO_8.out).2.1); rintro e w43 ⟨v382, rfl, ho0, hb⟩; refine ⟨_, rfl, ?_⟩; have n0_ := Aside0.mk (Kd.R_elder' (by (with_reducible repeat (first | apply Kd.R_alloc | apply Kd.R_drewN | apply Kd.R_drew)); exact HO_8.out) (Kd.R_base ho0) hb); have n1_ := Aside0.mk (Kd.R_lower (Kd.R_new' ho0 (Kd.R_lt (by (with_reducible repeat (first | apply Kd.R_alloc | apply Kd.R_drewN | apply Kd.R_drew)); exact HO_8.out))) (below_size (by repeat (first | (with_reducible first | exact HB.out | apply below_alloc | apply pw_below_drewN | apply below_drew1 | refine below_set ?_ GE372.out) | exact HB.out)))); have n2_ := Aside0.mk (blk_below (g := gb372) (o := .cells (tabC t371) 24 (0, 0)) (by (with_reducible repeat (first | refine blk_drewN ?_ _ | refine blk_drew ?_ | refine blk_alloc ?_ _)); exact BK372.out) hb); have n3_ := Aside0.mk (below_step (by repeat (first | (with_reducible first | exact HB.out | apply below_alloc | apply pw_below_drewN | apply below_drew1 | refine below_set ?_ GE372.out) | exact HB.out)) hb); clear HO_8; clear BK372; clear HB; have HO_8 := n0_; have HO383 := n1_; have BK372 := n2_; have HB := n3_; clear n0_ n1_ n2_ n3_; (try clear hb); (try clear hb2); (try clear hk); (try clear hi); (try clear ho0); obtain ⟨Ao44, co44, eo44⟩ := Kd.R_slice HO383.out; subst eo44))
                                  go_ret
                                  exact ⟨by first | rfl | (simp [errW_none, errW_some] <;> rfl) | (simp [*, errW_none, errW_some] <;> rfl), by repeat (first | (with_reducible first | exact HB.out | apply below_alloc | apply pw_below_drewN | apply below_drew1 | refine below_set ?_ GE372.out) | exact HB.out)⟩
                                · rw [if_neg c42] at H
                                  have c42b0 : ((t379.length : Int) == 0) = false := beq_eq_false_iff_ne.mpr c42
                                  have c42b1 : ((t379.length : Int) != 0) = true := bne_iff_ne.mpr c42
                                  have c42b2 : ¬ (t379 = []) := fun h_ => c42 (by rw [h_]; rfl)
                                  obtain rfl := Option.some.inj H
                                  go_wp2_with (first | ((with_reducible refine gate_dst (N := 103) rfl ?_); (try (refine gate_guard (by rfl) ?_; dsimp only)); refine wpList_load_row rfl 24 (.tmp 7) rfl gb372 rfl 24 (tabC t371) (0, 0) _ (by (with_reducible repeat (first | refine blk_drewN ?_ _ | refine blk_drew ?_ | refine blk_alloc ?_ _)); exact BK372.out) Try.underlying24 rfl (by rw [tabC_size]; kernel_rfl) ?_) | ((with_reducible refine gate_callee (f := 23) rfl ?_); refine goesL_ (some 104) rfl rfl Try.func23 (by kernel_rfl) rfl #[.slice Ao17 x8_4.length co17, .int .i64 0, .agg (tabC t371)] rfl (by (try simp only [List.map_toArray, List.map_cons, List.map_nil]); first | done | rfl | (simp only [List.length_drop, List.length_take]; rfl)) ?_; (with_reducible refine (frame_Get.calls k4 _ _ x8_4 0 t371 t379 t380 t381 _ ?side1 ?side2 A38.out).mono ?_); (case side1 => repeat (first | exact (Kd.R_reads' HO_8.out).2.2 | (with_reducible refine Kd.C_alloc ?_ _) | (with_reducible refine Kd.C_drewN ?_ _) | (with_reducible refine Kd.C_drew ?_))); (case side2 => exact (Kd.R_reads' HO_8.out).2.1); rintro e w45 ⟨v382, rfl, ho0, hb⟩; refine ⟨_, rfl, ?_⟩; have n0_ := Aside0.mk (Kd.R_elder' (by (with_reducible repeat (first | apply Kd.R_alloc | apply Kd.R_drewN | apply Kd.R_drew)); exact HO_8.out) (Kd.R_base ho0) hb); have n1_ := Aside0.mk (Kd.R_lower (Kd.R_new' ho0 (Kd.R_lt (by (with_reducible repeat (first | apply Kd.R_alloc | apply Kd.R_drewN | apply Kd.R_drew)); exact HO_8.out))) (below_size (by repeat (first | (with_reducible first | exact HB.out | apply below_alloc | apply pw_below_drewN | apply below_drew1 | refine below_set ?_ GE372.out) | exact HB.out)))); have n2_ := Aside0.mk (blk_below (g := gb372) (o := .cells (tabC t371) 24 (0, 0)) (by (with_reducible repeat (first | refine blk_drewN ?_ _ | refine blk_drew ?_ | refine blk_alloc ?_ _)); exact BK372.out) hb); have n3_ := Aside0.mk (below_step (by repeat (first | (with_reducible first | exact HB.out | apply below_alloc | apply pw_below_drewN | apply below_drew1 | refine below_set ?_ GE372.out) | exact HB.out)) hb); clear HO_8; clear BK372; clear HB; have HO_8 := n0_; have HO383 := n1_; have BK372 := n2_; have HB := n3_; clear n0_ n1_ n2_ n3_; (try clear hb); (try clear hb2); (try clear hk); (try clear hi); (try clear ho0); obtain ⟨Ao46, co46, eo46⟩ := Kd.R_slice HO383.out; subst eo46))
                                  go_ret
                                  exact ⟨by first | rfl | (simp [errW_none, errW_some] <;> rfl) | (simp [*, errW_none, errW_some] <;> rfl), by repeat (first | (with_reducible first | exact HB.out | apply below_alloc | apply pw_below_drewN | apply below_drew1 | refine below_set ?_ GE372.out) | exact HB.out)⟩
                            · rw [if_neg c39] at H
                              have c39b0 : (x13_4 == (t381 == 0)) = false := by simpa using c39
                              (try (have c39b1 : decide (x13_4 = (t381 == 0)) = false := by simpa using c39))
                              (try (have c39b2 : (x13_4 == (t381 == 0)) = false := by simpa using c39))
                              (try (have c39b3 : ¬ (x13_4 = (t381 == 0)) := by simpa using c39))
                              clear c39
                              obtain rfl := Option.some.inj H
                              go_wp2_with (first | ((with_reducible refine gate_dst (N := 103) rfl ?_); (try (refine gate_guard (by rfl) ?_; dsimp only)); refine wpList_load_row rfl 24 (.tmp 7) rfl gb372 rfl 24 (tabC t371) (0, 0) _ (by (with_reducible repeat (first | refine blk_drewN ?_ _ | refine blk_drew ?_ | refine blk_alloc ?_ _)); exact BK372.out) Try.underlying24 rfl (by rw [tabC_size]; kernel_rfl) ?_) | ((with_reducible refine gate_callee (f := 23) rfl ?_); refine goesL_ (some 104) rfl rfl Try.func23 (by kernel_rfl) rfl #[.slice Ao17 x8_4.length co17, .int .i64 0, .agg (tabC t371)] rfl (by (try simp only [List.map_toArray, List.map_cons, List.map_nil]); first | done | rfl | (simp only [List.length_drop, List.length_take]; rfl)) ?_; (with_reducible refine (frame_Get.calls k4 _ _ x8_4 0 t371 t379 t380 t381 _ ?side1 ?side2 A38.out).mono ?_); (case side1 => repeat (first | exact (Kd.R_reads' HO_8.out).2.2 | (with_reducible refine Kd.C_alloc ?_ _) | (with_reducible refine Kd.C_drewN ?_ _) | (with_reducible refine Kd.C_drew ?_))); (case side2 => exact (Kd.R_reads' HO_8.out).2.1); rintro e w47 ⟨v382, rfl, ho0, hb⟩; refine ⟨_, rfl, ?_⟩; have n0_ := Aside0.mk (Kd.R_elder' (by (with_reducible repeat (first | apply Kd.R_alloc | apply Kd.R_drewN | apply Kd.R_drew)); exact HO_8.out) (Kd.R_base ho0) hb); have n1_ := Aside0.mk (Kd.R_lower (Kd.R_new' ho0 (Kd.R_lt (by (with_reducible repeat (first | apply Kd.R_alloc | apply Kd.R_drewN | apply Kd.R_drew)); exact HO_8.out))) (below_size (by repeat (first | (with_reducible first | exact HB.out | apply below_alloc | apply pw_below_drewN | apply below_drew1 | refine below_set ?_ GE372.out) | exact HB.out)))); have n2_ := Aside0.mk (blk_below (g := gb372) (o := .cells (tabC t371) 24 (0, 0)) (by (with_reducible repeat (first | refine blk_drewN ?_ _ | refine blk_drew ?_ | refine blk_alloc ?_ _)); exact BK372.out) hb); have n3_ := Aside0.mk (below_step (by repeat (first | (with_reducible first | exact HB.out | apply below_alloc | apply pw_below_drewN | apply below_drew1 | refine below_set ?_ GE372.out) | exact HB.out)) hb); clear HO_8; clear BK372; clear HB; have HO_8 := n0_; have HO383 := n1_; have BK372 := n2_; have HB := n3_; clear n0_ n1_ n2_ n3_; (try clear hb); (try clear hb2); (try clear hk); (try clear hi); (try clear ho0)))
                              go_ret
                              exact ⟨by first | rfl | (simp [errW_none, errW_some] <;> rfl) | (simp [*, errW_none, errW_some] <;> rfl), by repeat (first | (with_reducible first | exact HB.out | apply below_alloc | apply pw_below_drewN | apply below_drew1 | refine below_set ?_ GE372.out) | exact HB.out)⟩
  · replace c5 := Bool.eq_false_iff.mpr c5
    subst c5
    have H1 : (some false) = some r := by rw [if_neg (show ¬ (false = true) by decide)] at H; exact H
    clear H
    have H := H1
    clear H1
    obtain rfl := Option.some.inj H
    go_enter Try.func7, Try.ntmps7
    go_wp2_with (first | ((with_reducible refine gate_callee (f := 19) rfl ?_); refine goesL_ (some 19) rfl rfl Try.func19 (by kernel_rfl) rfl #[] rfl (by (try simp only [List.map_toArray, List.map_cons, List.map_nil]); first | done | rfl | (simp only [List.length_drop, List.length_take]; rfl)) ?_; (with_reducible refine (punnetlaw07_awake.calls k  false _ A4.out).mono ?_); rintro e w48 ⟨rfl, hb⟩; refine ⟨_, rfl, ?_⟩; have n0_ := Aside0.mk (below_step (by repeat (first | (with_reducible first | exact HB.out | apply below_alloc | apply pw_below_drewN | apply below_drew1) | exact HB.out)) hb); clear HB; have HB := n0_; clear n0_; (try clear hb); (try clear hb2); (try clear hk); (try clear hi)))
    go_ret
    exact ⟨by first | rfl | (simp [errW_none, errW_some] <;> rfl) | (simp [*, errW_none, errW_some] <;> rfl), by repeat (first | (with_reducible first | exact HB.out | apply below_alloc | apply pw_below_drewN | apply below_drew1) | exact HB.out)⟩

/-- THE ONE PURE STATEMENT of punnetlaw07_FrameTells: yours. -/
def punnetlaw07_FrameTells.Pure : Prop := ∀ (l0 : List Int) (a1 : Int) (a2 : Int), l0.length ≤ maxLen → l0.length * 1 ≤ 140737488351232 → (∀ x ∈ l0, (Lit.int .u8 x).wf = true) → (Lit.int .i64 a1).wf = true → (Lit.int .u32 a2).wf = true → ∃ k, punnetlaw07_FrameTells.f k l0 a1 a2 = some true
theorem punnetlaw07_FrameTells.walk (P : punnetlaw07_FrameTells.Pure) (a0 : Option Addr) (len0 cap0 : Nat) (z0 : List Int) (a1 : Int) (a2 : Int) (w : World) (w0 : (a0 = none ∧ len0 = 0 ∧ cap0 = 0 ∧ z0 = []) ∨ ∃ x, a0 = some x ∧ len0 ≤ cap0 ∧ cap0 ≤ maxLen ∧ z0.length = cap0 ∧ (∀ i, i < z0.length → w.cell? (x.add i) = some (.int .u8 (z0.getD i 0))) ∧ ∀ n ∈ z0, (Lit.int .u8 n).wf = true) (y0 : len0 * 1 ≤ 140737488351232) (w1 : (Lit.int .i64 a1).wf = true) (w2 : (Lit.int .u32 a2).wf = true) :
    Calls Try.prog 7 #[.slice a0 len0 cap0, .int .i64 a1, .int .u32 a2] w fun e w' => e = .returned (.bool true) ∧ Below w.heap.size w w' := by
  obtain ⟨l0, rfl, hr0, hm0, hw0, hc0⟩ := ReadsInt.ofRowC w0
  obtain ⟨k, h⟩ := P l0 a1 a2 hm0 y0 hw0 w1 w2
  refine (punnetlaw07_FrameTells.calls k _ _ l0 a1 a2 true w (Kd.C_of_reads (d := (0 : Int)) (h1 := fun _ => rfl) hr0) hc0 h).mono ?_
  rintro e w' ⟨rfl, hd⟩
  exact ⟨rfl, hd⟩

end Go.Proofs.Ytcgbcnalofecgaa.Q
