/- A function of the program or a law's row comes to what the Lean function beside it says; no condition beyond those typed. Written by a program of this workplace; Lean checks it. -/
import Derived.Test.YtjaefcinaackeaaQ0
import Derived.Test.YtjaefcinaackeaaQ10
import Derived.Test.YtjaefcinaackeaaQ14
import Derived.Test.YtjaefcinaackeaaQ16
import Derived.Test.YtjaefcinaackeaaQ17
import Derived.Test.YtjaefcinaackeaaQ18
import Derived.Test.YtjaefcinaackeaaQ19
import Derived.Test.YtjaefcinaackeaaQ20
namespace Go.Proofs.Ytjaefcinaackeaa.Q
open Go.RowKit Go.Proofs.YtjaefcinaackeaaW.PrintWords Go.Proofs.YtjaefcinaackeaaW.PrintLast Go.Proofs.YtjaefcinaackeaaW.PrintMore
attribute [local go_sem] max2_int min2_int max_two min_two max_three min_three max_four min_four   -- for this text's walks alone
set_option linter.unusedVariables false
set_option linter.unusedSimpArgs false

/-! ### punnetlaw01_PlaneParts: function 3 -/
def punnetlaw01_PlaneParts.j0 : Nat → Int → Int → Bool → Option (Bool)
  | 0, _, _, _ => none
  | k + 1, x2, x3, x80 => if x80 = true then (some false) else ((plane_Of.f x2 x3).bind fun bt130 => ((punnetref01_Fits.f x2 x3).bind fun t132 => (if t132 = true then ((plane_Parts.f bt130.1).bind fun bt133 => (if bt130.2 = 0 then (if bt133.1 = x2 then (if bt133.2.1 = x3 then (some (bt133.2.2 == 0)) else (some false)) else (some false)) else (some false))) else (if ((FloatKind.f64.format.order bt130.1.1 0 == some Ordering.eq) && (FloatKind.f64.format.order bt130.1.2 0 == some Ordering.eq)) = true then (some (bt130.2 == 3)) else (some false)))))
def punnetlaw01_PlaneParts.f (k : Nat) (a0 : Nat) (a1 : Nat) (a2 : Int) (a3 : Int) : Option (Bool) := (punnetlaw01_awake.f).bind fun t118 => (if t118 = true then ((punnetref01_Parts.f (a0, a1) 4503599627370496).bind fun bt119 => ((punnetref01_Parts.f (a0, a1) 33554432).bind fun bt122 => ((plane_Parts.f (a0, a1)).bind fun bt125 => ((plane_Whole.f (a0, a1)).bind fun t128 => (if (t128 != bt119.2.2) = true then (punnetlaw01_PlaneParts.j0 k a2 a3 true) else ((plane_Small.f (a0, a1)).bind fun t129 => (if (t129 != bt122.2.2) = true then (punnetlaw01_PlaneParts.j0 k a2 a3 true) else (if bt125.1 = bt119.1 then (if bt125.2.1 = bt119.2.1 then (if (bt119.2.2 != (bt125.2.2 == 0)) = true then (punnetlaw01_PlaneParts.j0 k a2 a3 true) else (if bt119.2.2 = true then (punnetlaw01_PlaneParts.j0 k a2 a3 false) else (punnetlaw01_PlaneParts.j0 k a2 a3 (bt125.2.2 != 5)))) else (punnetlaw01_PlaneParts.j0 k a2 a3 true)) else (punnetlaw01_PlaneParts.j0 k a2 a3 true))))))))) else (some false))
theorem punnetlaw01_PlaneParts.mono_l : ∀ k, (∀ y0 y1 y2, LeO (punnetlaw01_PlaneParts.j0 k y0 y1 y2) (punnetlaw01_PlaneParts.j0 (k + 1) y0 y1 y2))
  | 0 => fun _ _ _ r h => by simp [punnetlaw01_PlaneParts.j0] at h
  | k + 1 => by
    have ih0 := punnetlaw01_PlaneParts.mono_l k
    · intro y0 y1 y2
      unfold punnetlaw01_PlaneParts.j0
      repeat' first
      | (with_reducible exact ih0 _ _ _)
      | (with_reducible exact LeO.refl _)
      | (with_reducible exact LeO.none _)
      | (with_reducible refine LeO.ite ?_ ?_)
      | (with_reducible refine LeO.bind ?_ (fun _ => ?_))
      | exact ih0 _ _ _
      | exact LeO.none _
      | refine LeO.ite ?_ ?_
      | refine LeO.bind ?_ (fun _ => ?_)
theorem punnetlaw01_PlaneParts.mono : ∀ a0 a1 a2 a3 k, LeO (punnetlaw01_PlaneParts.f k a0 a1 a2 a3) (punnetlaw01_PlaneParts.f (k + 1) a0 a1 a2 a3) := by
  intro a0 a1 a2 a3 k
  have ih0 := punnetlaw01_PlaneParts.mono_l k
  unfold punnetlaw01_PlaneParts.f
  repeat' first
      | (with_reducible exact ih0 _ _ _)
      | (with_reducible exact LeO.refl _)
      | (with_reducible exact LeO.none _)
      | (with_reducible refine LeO.ite ?_ ?_)
      | (with_reducible refine LeO.bind ?_ (fun _ => ?_))
      | exact ih0 _ _ _
      | exact LeO.none _
      | refine LeO.ite ?_ ?_
      | refine LeO.bind ?_ (fun _ => ?_)
set_option maxHeartbeats 8000000 in
set_option maxRecDepth 100000 in
theorem punnetlaw01_PlaneParts.calls (k : Nat) (a0 : Nat) (a1 : Nat) (a2 : Int) (a3 : Int) (r : Bool) (w : World) (h : punnetlaw01_PlaneParts.f k a0 a1 a2 a3 = some r) :
    Calls Try.prog 3 #[.float .f64 a0, .float .f64 a1, .int .i64 a2, .int .i64 a3] w fun e w' => e = .returned (.bool r) ∧ Below w.heap.size w w' := by
  have HB := Aside0.mk (Below.refl w.heap.size w)
  have H : ((punnetlaw01_awake.f).bind fun t118 => (if t118 = true then ((punnetref01_Parts.f (a0, a1) 4503599627370496).bind fun bt119 => ((punnetref01_Parts.f (a0, a1) 33554432).bind fun bt122 => ((plane_Parts.f (a0, a1)).bind fun bt125 => ((plane_Whole.f (a0, a1)).bind fun t128 => (if (t128 != bt119.2.2) = true then (punnetlaw01_PlaneParts.j0 k a2 a3 true) else ((plane_Small.f (a0, a1)).bind fun t129 => (if (t129 != bt122.2.2) = true then (punnetlaw01_PlaneParts.j0 k a2 a3 true) else (if bt125.1 = bt119.1 then (if bt125.2.1 = bt119.2.1 then (if (bt119.2.2 != (bt125.2.2 == 0)) = true then (punnetlaw01_PlaneParts.j0 k a2 a3 true) else (if bt119.2.2 = true then (punnetlaw01_PlaneParts.j0 k a2 a3 false) else (punnetlaw01_PlaneParts.j0 k a2 a3 (bt125.2.2 != 5)))) else (punnetlaw01_PlaneParts.j0 k a2 a3 true)) else (punnetlaw01_PlaneParts.j0 k a2 a3 true))))))))) else (some false))) = some r := h
  clear h
  replace H := Option.bind_eq_some_iff.mp H
  obtain ⟨t118, A50, H⟩ := H
  replace H : (if t118 = true then ((punnetref01_Parts.f (a0, a1) 4503599627370496).bind fun bt119 => ((punnetref01_Parts.f (a0, a1) 33554432).bind fun bt122 => ((plane_Parts.f (a0, a1)).bind fun bt125 => ((plane_Whole.f (a0, a1)).bind fun t128 => (if (t128 != bt119.2.2) = true then (punnetlaw01_PlaneParts.j0 k a2 a3 true) else ((plane_Small.f (a0, a1)).bind fun t129 => (if (t129 != bt122.2.2) = true then (punnetlaw01_PlaneParts.j0 k a2 a3 true) else (if bt125.1 = bt119.1 then (if bt125.2.1 = bt119.2.1 then (if (bt119.2.2 != (bt125.2.2 == 0)) = true then (punnetlaw01_PlaneParts.j0 k a2 a3 true) else (if bt119.2.2 = true then (punnetlaw01_PlaneParts.j0 k a2 a3 false) else (punnetlaw01_PlaneParts.j0 k a2 a3 (bt125.2.2 != 5)))) else (punnetlaw01_PlaneParts.j0 k a2 a3 true)) else (punnetlaw01_PlaneParts.j0 k a2 a3 true))))))))) else (some false)) = some r := H
  have A5 := Aside0.mk A50
  clear A50
  by_cases c6 : t118 = true
  · subst c6
    have H1 : ((punnetref01_Parts.f (a0, a1) 4503599627370496).bind fun bt119 => ((punnetref01_Parts.f (a0, a1) 33554432).bind fun bt122 => ((plane_Parts.f (a0, a1)).bind fun bt125 => ((plane_Whole.f (a0, a1)).bind fun t128 => (if (t128 != bt119.2.2) = true then (punnetlaw01_PlaneParts.j0 k a2 a3 true) else ((plane_Small.f (a0, a1)).bind fun t129 => (if (t129 != bt122.2.2) = true then (punnetlaw01_PlaneParts.j0 k a2 a3 true) else (if bt125.1 = bt119.1 then (if bt125.2.1 = bt119.2.1 then (if (bt119.2.2 != (bt125.2.2 == 0)) = true then (punnetlaw01_PlaneParts.j0 k a2 a3 true) else (if bt119.2.2 = true then (punnetlaw01_PlaneParts.j0 k a2 a3 false) else (punnetlaw01_PlaneParts.j0 k a2 a3 (bt125.2.2 != 5)))) else (punnetlaw01_PlaneParts.j0 k a2 a3 true)) else (punnetlaw01_PlaneParts.j0 k a2 a3 true))))))))) = some r := by rw [if_pos rfl] at H; exact H
    clear H
    have H := H1
    clear H1
    replace H := Option.bind_eq_some_iff.mp H
    obtain ⟨⟨t119, t120, t121⟩, A70, H⟩ := H
    replace H : ((punnetref01_Parts.f (a0, a1) 33554432).bind fun bt122 => ((plane_Parts.f (a0, a1)).bind fun bt125 => ((plane_Whole.f (a0, a1)).bind fun t128 => (if (t128 != t121) = true then (punnetlaw01_PlaneParts.j0 k a2 a3 true) else ((plane_Small.f (a0, a1)).bind fun t129 => (if (t129 != bt122.2.2) = true then (punnetlaw01_PlaneParts.j0 k a2 a3 true) else (if bt125.1 = t119 then (if bt125.2.1 = t120 then (if (t121 != (bt125.2.2 == 0)) = true then (punnetlaw01_PlaneParts.j0 k a2 a3 true) else (if t121 = true then (punnetlaw01_PlaneParts.j0 k a2 a3 false) else (punnetlaw01_PlaneParts.j0 k a2 a3 (bt125.2.2 != 5)))) else (punnetlaw01_PlaneParts.j0 k a2 a3 true)) else (punnetlaw01_PlaneParts.j0 k a2 a3 true)))))))) = some r := H
    have A7 := Aside0.mk A70
    clear A70
    replace H := Option.bind_eq_some_iff.mp H
    obtain ⟨⟨t122, t123, t124⟩, A80, H⟩ := H
    replace H : ((plane_Parts.f (a0, a1)).bind fun bt125 => ((plane_Whole.f (a0, a1)).bind fun t128 => (if (t128 != t121) = true then (punnetlaw01_PlaneParts.j0 k a2 a3 true) else ((plane_Small.f (a0, a1)).bind fun t129 => (if (t129 != t124) = true then (punnetlaw01_PlaneParts.j0 k a2 a3 true) else (if bt125.1 = t119 then (if bt125.2.1 = t120 then (if (t121 != (bt125.2.2 == 0)) = true then (punnetlaw01_PlaneParts.j0 k a2 a3 true) else (if t121 = true then (punnetlaw01_PlaneParts.j0 k a2 a3 false) else (punnetlaw01_PlaneParts.j0 k a2 a3 (bt125.2.2 != 5)))) else (punnetlaw01_PlaneParts.j0 k a2 a3 true)) else (punnetlaw01_PlaneParts.j0 k a2 a3 true))))))) = some r := H
    have A8 := Aside0.mk A80
    clear A80
    replace H := Option.bind_eq_some_iff.mp H
    obtain ⟨⟨t125, t126, t127⟩, A90, H⟩ := H
    replace H : ((plane_Whole.f (a0, a1)).bind fun t128 => (if (t128 != t121) = true then (punnetlaw01_PlaneParts.j0 k a2 a3 true) else ((plane_Small.f (a0, a1)).bind fun t129 => (if (t129 != t124) = true then (punnetlaw01_PlaneParts.j0 k a2 a3 true) else (if t125 = t119 then (if t126 = t120 then (if (t121 != (t127 == 0)) = true then (punnetlaw01_PlaneParts.j0 k a2 a3 true) else (if t121 = true then (punnetlaw01_PlaneParts.j0 k a2 a3 false) else (punnetlaw01_PlaneParts.j0 k a2 a3 (t127 != 5)))) else (punnetlaw01_PlaneParts.j0 k a2 a3 true)) else (punnetlaw01_PlaneParts.j0 k a2 a3 true)))))) = some r := H
    have A9 := Aside0.mk A90
    clear A90
    have HC10 := Aside0.mk H
    clear H
    go_enter Try.func3, Try.ntmps3
    go_upto_region 7 with (first | ((with_reducible refine gate_callee (f := 12) rfl ?_); refine goesL_ (some 27) rfl rfl Try.func12 (by kernel_rfl) rfl #[] rfl (by (try simp only [List.map_toArray, List.map_cons, List.map_nil]); first | done | rfl | (simp only [List.length_drop, List.length_take]; rfl)) ?_; (with_reducible refine (punnetlaw01_awake.calls  true _ A5.out).mono ?_); rintro e w11 ⟨rfl, hb⟩; refine ⟨_, rfl, ?_⟩; have n0_ := Aside0.mk (below_step (by repeat (first | (with_reducible first | exact HB.out | apply below_alloc | apply pw_below_drewN | apply below_drew1) | exact HB.out)) hb); clear HB; have HB := n0_; clear n0_; (try clear hb); (try clear hb2); (try clear hk); (try clear hi)) | ((with_reducible refine gate_callee (f := 13) rfl ?_); refine goesL_ (some 31) rfl rfl Try.func13 (by kernel_rfl) rfl #[.complex .f64 a0 a1, .int .i64 4503599627370496] rfl (by (try simp only [List.map_toArray, List.map_cons, List.map_nil]); first | done | rfl | (simp only [List.length_drop, List.length_take]; rfl)) ?_; (with_reducible refine (punnetref01_Parts.calls (a0, a1) 4503599627370496 t119 t120 t121 _ A7.out).mono ?_); rintro e w12 ⟨rfl, hb⟩; refine ⟨_, rfl, ?_⟩; have n0_ := Aside0.mk (below_step (by repeat (first | (with_reducible first | exact HB.out | apply below_alloc | apply pw_below_drewN | apply below_drew1) | exact HB.out)) hb); clear HB; have HB := n0_; clear n0_; (try clear hb); (try clear hb2); (try clear hk); (try clear hi)) | ((with_reducible refine gate_callee (f := 13) rfl ?_); refine goesL_ (some 37) rfl rfl Try.func13 (by kernel_rfl) rfl #[.complex .f64 a0 a1, .int .i64 33554432] rfl (by (try simp only [List.map_toArray, List.map_cons, List.map_nil]); first | done | rfl | (simp only [List.length_drop, List.length_take]; rfl)) ?_; (with_reducible refine (punnetref01_Parts.calls (a0, a1) 33554432 t122 t123 t124 _ A8.out).mono ?_); rintro e w13 ⟨rfl, hb⟩; refine ⟨_, rfl, ?_⟩; have n0_ := Aside0.mk (below_step (by repeat (first | (with_reducible first | exact HB.out | apply below_alloc | apply pw_below_drewN | apply below_drew1) | exact HB.out)) hb); clear HB; have HB := n0_; clear n0_; (try clear hb); (try clear hb2); (try clear hk); (try clear hi)) | ((with_reducible refine gate_callee (f := 14) rfl ?_); refine goesL_ (some 43) rfl rfl Try.func14 (by kernel_rfl) rfl #[.complex .f64 a0 a1] rfl (by (try simp only [List.map_toArray, List.map_cons, List.map_nil]); first | done | rfl | (simp only [List.length_drop, List.length_take]; rfl)) ?_; (with_reducible refine (plane_Parts.calls (a0, a1) t125 t126 t127 _ A9.out).mono ?_); rintro e w14 ⟨rfl, hb⟩; refine ⟨_, rfl, ?_⟩; have n0_ := Aside0.mk (below_step (by repeat (first | (with_reducible first | exact HB.out | apply below_alloc | apply pw_below_drewN | apply below_drew1) | exact HB.out)) hb); clear HB; have HB := n0_; clear n0_; (try clear hb); (try clear hb2); (try clear hk); (try clear hi)))
    (try simp only [Act.put, List.setIfInBounds_toArray, List.set_cons_zero, List.set_cons_succ])
    go_cut [80] (fun v80 wc => ∃ (kq : Nat) (x80_9 : Bool), v80 = .bool x80_9 ∧ Aside0 (punnetlaw01_PlaneParts.j0 kq a2 a3 x80_9 = some r) ∧ Aside0 (kq ≤ k) ∧ Aside0 (Below w.heap.size w wc))
    case first =>
      have H := HC10.out
      clear HC10
      replace H := Option.bind_eq_some_iff.mp H
      obtain ⟨t128, A150, H⟩ := H
      replace H : (if (t128 != t121) = true then (punnetlaw01_PlaneParts.j0 k a2 a3 true) else ((plane_Small.f (a0, a1)).bind fun t129 => (if (t129 != t124) = true then (punnetlaw01_PlaneParts.j0 k a2 a3 true) else (if t125 = t119 then (if t126 = t120 then (if (t121 != (t127 == 0)) = true then (punnetlaw01_PlaneParts.j0 k a2 a3 true) else (if t121 = true then (punnetlaw01_PlaneParts.j0 k a2 a3 false) else (punnetlaw01_PlaneParts.j0 k a2 a3 (t127 != 5)))) else (punnetlaw01_PlaneParts.j0 k a2 a3 true)) else (punnetlaw01_PlaneParts.j0 k a2 a3 true))))) = some r := H
      have A15 := Aside0.mk A150
      clear A150
      by_cases c16 : (t128 != t121) = true
      · rw [if_pos c16] at H
        have c16b0 : (t128 != t121) = true := c16
        (try (have c16b1 : decide (t128 = t121) = false := by simpa using c16))
        (try (have c16b2 : (t128 == t121) = false := by simpa using c16))
        (try (have c16b3 : ¬ (t128 = t121) := by simpa using c16))
        clear c16
        (first | rw [c16b0] | (simp only [i64_w, i32_w]; rw [c16b0]) | skip)
        have H' := Aside0.mk H
        clear H
        go_wp2_with (first | ((with_reducible refine gate_callee (f := 15) rfl ?_); refine goesL_ (some 48) rfl rfl Try.func15 (by kernel_rfl) rfl #[.complex .f64 a0 a1] rfl (by (try simp only [List.map_toArray, List.map_cons, List.map_nil]); first | done | rfl | (simp only [List.length_drop, List.length_take]; rfl)) ?_; (with_reducible refine (plane_Whole.calls (a0, a1) t128 _ A15.out).mono ?_); rintro e w17 ⟨rfl, hb⟩; refine ⟨_, rfl, ?_⟩; have n0_ := Aside0.mk (below_step (by repeat (first | (with_reducible first | exact HB.out | apply below_alloc | apply pw_below_drewN | apply below_drew1) | exact HB.out)) hb); clear HB; have HB := n0_; clear n0_; (try clear hb); (try clear hb2); (try clear hk); (try clear hi)))
        go_meet
        case rel => exact ⟨_, (true), (by first | rfl | (simp; done) | (simp [*]; done)), H', ⟨by first | omega | exact Nat.le_refl _⟩, ⟨by repeat (first | (with_reducible first | exact HB.out | apply below_alloc | apply pw_below_drewN | apply below_drew1) | exact HB.out)⟩⟩
      · rw [if_neg c16] at H
        have c16b0 : (t128 != t121) = false := by simpa using c16
        (try (have c16b1 : decide (t128 = t121) = true := by simpa using c16))
        (try (have c16b2 : (t128 == t121) = true := by simpa using c16))
        clear c16
        (first | rw [c16b0] | (simp only [i64_w, i32_w]; rw [c16b0]) | skip)
        replace H := Option.bind_eq_some_iff.mp H
        obtain ⟨t129, A180, H⟩ := H
        replace H : (if (t129 != t124) = true then (punnetlaw01_PlaneParts.j0 k a2 a3 true) else (if t125 = t119 then (if t126 = t120 then (if (t121 != (t127 == 0)) = true then (punnetlaw01_PlaneParts.j0 k a2 a3 true) else (if t121 = true then (punnetlaw01_PlaneParts.j0 k a2 a3 false) else (punnetlaw01_PlaneParts.j0 k a2 a3 (t127 != 5)))) else (punnetlaw01_PlaneParts.j0 k a2 a3 true)) else (punnetlaw01_PlaneParts.j0 k a2 a3 true))) = some r := H
        have A18 := Aside0.mk A180
        clear A180
        by_cases c19 : (t129 != t124) = true
        · rw [if_pos c19] at H
          have c19b0 : (t129 != t124) = true := c19
          (try (have c19b1 : decide (t129 = t124) = false := by simpa using c19))
          (try (have c19b2 : (t129 == t124) = false := by simpa using c19))
          (try (have c19b3 : ¬ (t129 = t124) := by simpa using c19))
          clear c19
          have H' := Aside0.mk H
          clear H
          go_wp2_with (first | ((with_reducible refine gate_callee (f := 15) rfl ?_); refine goesL_ (some 48) rfl rfl Try.func15 (by kernel_rfl) rfl #[.complex .f64 a0 a1] rfl (by (try simp only [List.map_toArray, List.map_cons, List.map_nil]); first | done | rfl | (simp only [List.length_drop, List.length_take]; rfl)) ?_; (with_reducible refine (plane_Whole.calls (a0, a1) t128 _ A15.out).mono ?_); rintro e w20 ⟨rfl, hb⟩; refine ⟨_, rfl, ?_⟩; have n0_ := Aside0.mk (below_step (by repeat (first | (with_reducible first | exact HB.out | apply below_alloc | apply pw_below_drewN | apply below_drew1) | exact HB.out)) hb); clear HB; have HB := n0_; clear n0_; (try clear hb); (try clear hb2); (try clear hk); (try clear hi)) | (go_at_call 16; (with_reducible refine (plane_Small.calls (a0, a1) t129 _ A18.out).mono ?_); rintro e w21 ⟨rfl, hb⟩; have n0_ := Aside0.mk (below_step (by repeat (first | (with_reducible first | exact HB.out | apply below_alloc | apply pw_below_drewN | apply below_drew1) | exact HB.out)) hb); clear HB; have HB := n0_; clear n0_; (try clear hb); (try clear hb2); (try clear hk); (try clear hi)))
          go_meet
          case rel => exact ⟨_, (true), (by first | rfl | (simp; done) | (simp [*]; done)), H', ⟨by first | omega | exact Nat.le_refl _⟩, ⟨by repeat (first | (with_reducible first | exact HB.out | apply below_alloc | apply pw_below_drewN | apply below_drew1) | exact HB.out)⟩⟩
        · rw [if_neg c19] at H
          have c19b0 : (t129 != t124) = false := by simpa using c19
          (try (have c19b1 : decide (t129 = t124) = true := by simpa using c19))
          (try (have c19b2 : (t129 == t124) = true := by simpa using c19))
          clear c19
          by_cases c22 : t125 = t119
          · rw [if_pos c22] at H
            have c22b0 : (t125 == t119) = true := beq_iff_eq.mpr c22
            have c22b1 : (t125 != t119) = false := bne_eq_false_iff_eq.mpr c22
            clear c22
            by_cases c23 : t126 = t120
            · rw [if_pos c23] at H
              have c23b0 : (t126 == t120) = true := beq_iff_eq.mpr c23
              have c23b1 : (t126 != t120) = false := bne_eq_false_iff_eq.mpr c23
              clear c23
              by_cases c24 : (t121 != (t127 == 0)) = true
              · rw [if_pos c24] at H
                have c24b0 : (t121 != (t127 == 0)) = true := c24
                (try (have c24b1 : decide (t121 = (t127 == 0)) = false := by simpa using c24))
                (try (have c24b2 : (t121 == (t127 == 0)) = false := by simpa using c24))
                (try (have c24b3 : ¬ (t121 = (t127 == 0)) := by simpa using c24))
                clear c24
                have H' := Aside0.mk H
                clear H
                go_wp2_with (first | ((with_reducible refine gate_callee (f := 15) rfl ?_); refine goesL_ (some 48) rfl rfl Try.func15 (by kernel_rfl) rfl #[.complex .f64 a0 a1] rfl (by (try simp only [List.map_toArray, List.map_cons, List.map_nil]); first | done | rfl | (simp only [List.length_drop, List.length_take]; rfl)) ?_; (with_reducible refine (plane_Whole.calls (a0, a1) t128 _ A15.out).mono ?_); rintro e w25 ⟨rfl, hb⟩; refine ⟨_, rfl, ?_⟩; have n0_ := Aside0.mk (below_step (by repeat (first | (with_reducible first | exact HB.out | apply below_alloc | apply pw_below_drewN | apply below_drew1) | exact HB.out)) hb); clear HB; have HB := n0_; clear n0_; (try clear hb); (try clear hb2); (try clear hk); (try clear hi)) | (go_at_call 16; (with_reducible refine (plane_Small.calls (a0, a1) t129 _ A18.out).mono ?_); rintro e w26 ⟨rfl, hb⟩; have n0_ := Aside0.mk (below_step (by repeat (first | (with_reducible first | exact HB.out | apply below_alloc | apply pw_below_drewN | apply below_drew1) | exact HB.out)) hb); clear HB; have HB := n0_; clear n0_; (try clear hb); (try clear hb2); (try clear hk); (try clear hi)))
                go_meet
                case rel => exact ⟨_, (true), (by first | rfl | (simp; done) | (simp [*]; done)), H', ⟨by first | omega | exact Nat.le_refl _⟩, ⟨by repeat (first | (with_reducible first | exact HB.out | apply below_alloc | apply pw_below_drewN | apply below_drew1) | exact HB.out)⟩⟩
              · rw [if_neg c24] at H
                have c24b0 : (t121 != (t127 == 0)) = false := by simpa using c24
                (try (have c24b1 : decide (t121 = (t127 == 0)) = true := by simpa using c24))
                (try (have c24b2 : (t121 == (t127 == 0)) = true := by simpa using c24))
                clear c24
                by_cases c27 : t121 = true
                · subst c27
                  have H1 : (punnetlaw01_PlaneParts.j0 k a2 a3 false) = some r := by rw [if_pos rfl] at H; exact H
                  clear H
                  have H := H1
                  clear H1
                  have H' := Aside0.mk H
                  clear H
                  go_wp2_with (first | ((with_reducible refine gate_callee (f := 15) rfl ?_); refine goesL_ (some 48) rfl rfl Try.func15 (by kernel_rfl) rfl #[.complex .f64 a0 a1] rfl (by (try simp only [List.map_toArray, List.map_cons, List.map_nil]); first | done | rfl | (simp only [List.length_drop, List.length_take]; rfl)) ?_; (with_reducible refine (plane_Whole.calls (a0, a1) t128 _ A15.out).mono ?_); rintro e w28 ⟨rfl, hb⟩; refine ⟨_, rfl, ?_⟩; have n0_ := Aside0.mk (below_step (by repeat (first | (with_reducible first | exact HB.out | apply below_alloc | apply pw_below_drewN | apply below_drew1) | exact HB.out)) hb); clear HB; have HB := n0_; clear n0_; (try clear hb); (try clear hb2); (try clear hk); (try clear hi)) | (go_at_call 16; (with_reducible refine (plane_Small.calls (a0, a1) t129 _ A18.out).mono ?_); rintro e w29 ⟨rfl, hb⟩; have n0_ := Aside0.mk (below_step (by repeat (first | (with_reducible first | exact HB.out | apply below_alloc | apply pw_below_drewN | apply below_drew1) | exact HB.out)) hb); clear HB; have HB := n0_; clear n0_; (try clear hb); (try clear hb2); (try clear hk); (try clear hi)))
                  go_meet
                  case rel => exact ⟨_, (false), (by first | rfl | (simp; done) | (simp [*]; done)), H', ⟨by first | omega | exact Nat.le_refl _⟩, ⟨by repeat (first | (with_reducible first | exact HB.out | apply below_alloc | apply pw_below_drewN | apply below_drew1) | exact HB.out)⟩⟩
                · replace c27 := Bool.eq_false_iff.mpr c27
                  subst c27
                  have H1 : (punnetlaw01_PlaneParts.j0 k a2 a3 (t127 != 5)) = some r := by rw [if_neg (show ¬ (false = true) by decide)] at H; exact H
                  clear H
                  have H := H1
                  clear H1
                  have H' := Aside0.mk H
                  clear H
                  go_wp2_with (first | ((with_reducible refine gate_callee (f := 15) rfl ?_); refine goesL_ (some 48) rfl rfl Try.func15 (by kernel_rfl) rfl #[.complex .f64 a0 a1] rfl (by (try simp only [List.map_toArray, List.map_cons, List.map_nil]); first | done | rfl | (simp only [List.length_drop, List.length_take]; rfl)) ?_; (with_reducible refine (plane_Whole.calls (a0, a1) t128 _ A15.out).mono ?_); rintro e w30 ⟨rfl, hb⟩; refine ⟨_, rfl, ?_⟩; have n0_ := Aside0.mk (below_step (by repeat (first | (with_reducible first | exact HB.out | apply below_alloc | apply pw_below_drewN | apply below_drew1) | exact HB.out)) hb); clear HB; have HB := n0_; clear n0_; (try clear hb); (try clear hb2); (try clear hk); (try clear hi)) | (go_at_call 16; (with_reducible refine (plane_Small.calls (a0, a1) t129 _ A18.out).mono ?_); rintro e w31 ⟨rfl, hb⟩; have n0_ := Aside0.mk (below_step (by repeat (first | (with_reducible first | exact HB.out | apply below_alloc | apply pw_below_drewN | apply below_drew1) | exact HB.out)) hb); clear HB; have HB := n0_; clear n0_; (try clear hb); (try clear hb2); (try clear hk); (try clear hi)))
                  go_meet
                  case rel => exact ⟨_, ((t127 != 5)), (by first | rfl | (simp; done) | (simp [*]; done)), H', ⟨by first | omega | exact Nat.le_refl _⟩, ⟨by repeat (first | (with_reducible first | exact HB.out | apply below_alloc | apply pw_below_drewN | apply below_drew1) | exact HB.out)⟩⟩
            · rw [if_neg c23] at H
              have c23b0 : (t126 == t120) = false := beq_eq_false_iff_ne.mpr c23
              have c23b1 : (t126 != t120) = true := bne_iff_ne.mpr c23
              have H' := Aside0.mk H
              clear H
              go_wp2_with (first | ((with_reducible refine gate_callee (f := 15) rfl ?_); refine goesL_ (some 48) rfl rfl Try.func15 (by kernel_rfl) rfl #[.complex .f64 a0 a1] rfl (by (try simp only [List.map_toArray, List.map_cons, List.map_nil]); first | done | rfl | (simp only [List.length_drop, List.length_take]; rfl)) ?_; (with_reducible refine (plane_Whole.calls (a0, a1) t128 _ A15.out).mono ?_); rintro e w32 ⟨rfl, hb⟩; refine ⟨_, rfl, ?_⟩; have n0_ := Aside0.mk (below_step (by repeat (first | (with_reducible first | exact HB.out | apply below_alloc | apply pw_below_drewN | apply below_drew1) | exact HB.out)) hb); clear HB; have HB := n0_; clear n0_; (try clear hb); (try clear hb2); (try clear hk); (try clear hi)) | (go_at_call 16; (with_reducible refine (plane_Small.calls (a0, a1) t129 _ A18.out).mono ?_); rintro e w33 ⟨rfl, hb⟩; have n0_ := Aside0.mk (below_step (by repeat (first | (with_reducible first | exact HB.out | apply below_alloc | apply pw_below_drewN | apply below_drew1) | exact HB.out)) hb); clear HB; have HB := n0_; clear n0_; (try clear hb); (try clear hb2); (try clear hk); (try clear hi)))
              go_meet
              case rel => exact ⟨_, (true), (by first | rfl | (simp; done) | (simp [*]; done)), H', ⟨by first | omega | exact Nat.le_refl _⟩, ⟨by repeat (first | (with_reducible first | exact HB.out | apply below_alloc | apply pw_below_drewN | apply below_drew1) | exact HB.out)⟩⟩
          · rw [if_neg c22] at H
            have c22b0 : (t125 == t119) = false := beq_eq_false_iff_ne.mpr c22
            have c22b1 : (t125 != t119) = true := bne_iff_ne.mpr c22
            have H' := Aside0.mk H
            clear H
            go_wp2_with (first | ((with_reducible refine gate_callee (f := 15) rfl ?_); refine goesL_ (some 48) rfl rfl Try.func15 (by kernel_rfl) rfl #[.complex .f64 a0 a1] rfl (by (try simp only [List.map_toArray, List.map_cons, List.map_nil]); first | done | rfl | (simp only [List.length_drop, List.length_take]; rfl)) ?_; (with_reducible refine (plane_Whole.calls (a0, a1) t128 _ A15.out).mono ?_); rintro e w34 ⟨rfl, hb⟩; refine ⟨_, rfl, ?_⟩; have n0_ := Aside0.mk (below_step (by repeat (first | (with_reducible first | exact HB.out | apply below_alloc | apply pw_below_drewN | apply below_drew1) | exact HB.out)) hb); clear HB; have HB := n0_; clear n0_; (try clear hb); (try clear hb2); (try clear hk); (try clear hi)) | (go_at_call 16; (with_reducible refine (plane_Small.calls (a0, a1) t129 _ A18.out).mono ?_); rintro e w35 ⟨rfl, hb⟩; have n0_ := Aside0.mk (below_step (by repeat (first | (with_reducible first | exact HB.out | apply below_alloc | apply pw_below_drewN | apply below_drew1) | exact HB.out)) hb); clear HB; have HB := n0_; clear n0_; (try clear hb); (try clear hb2); (try clear hk); (try clear hi)))
            go_meet
            case rel => exact ⟨_, (true), (by first | rfl | (simp; done) | (simp [*]; done)), H', ⟨by first | omega | exact Nat.le_refl _⟩, ⟨by repeat (first | (with_reducible first | exact HB.out | apply below_alloc | apply pw_below_drewN | apply below_drew1) | exact HB.out)⟩⟩
    case rest =>
      clear HC10
      try clear c1
      try clear c2
      try clear p2
      try clear c3
      try clear c6
      try clear c12
      try clear c13
      try clear c14
      try clear c15
      try clear c16
      try clear c16b0
      try clear c16b1
      try clear c16b2
      try clear c19
      try clear c19b0
      try clear c19b1
      try clear c19b2
      try clear c22
      try clear c22b0
      try clear c22b1
      try clear c23
      try clear c23b0
      try clear c23b1
      try clear c24
      try clear c24b0
      try clear c24b1
      try clear c24b2
      try clear c27
      obtain ⟨kq, x80_9, rfl, HA, HJ9, HB⟩ := hcut
      cases kq with
      | zero => exact absurd HA.out (by simp [punnetlaw01_PlaneParts.j0])
      | succ kj9 =>
        have H := HA.out
        clear HA
        simp only [punnetlaw01_PlaneParts.j0] at H
        by_cases c36 : x80_9 = true
        · subst c36
          have H1 : (some false) = some r := by rw [if_pos rfl] at H; exact H
          clear H
          have H := H1
          clear H1
          obtain rfl := Option.some.inj H
          go_wp2
          go_ret
          exact ⟨by first | rfl | (simp [errW_none, errW_some] <;> rfl) | (simp [*, errW_none, errW_some] <;> rfl), by repeat (first | (with_reducible first | exact HB.out | apply below_alloc | apply pw_below_drewN | apply below_drew1) | exact HB.out)⟩
        · replace c36 := Bool.eq_false_iff.mpr c36
          subst c36
          have H1 : ((plane_Of.f a2 a3).bind fun bt130 => ((punnetref01_Fits.f a2 a3).bind fun t132 => (if t132 = true then ((plane_Parts.f bt130.1).bind fun bt133 => (if bt130.2 = 0 then (if bt133.1 = a2 then (if bt133.2.1 = a3 then (some (bt133.2.2 == 0)) else (some false)) else (some false)) else (some false))) else (if ((FloatKind.f64.format.order bt130.1.1 0 == some Ordering.eq) && (FloatKind.f64.format.order bt130.1.2 0 == some Ordering.eq)) = true then (some (bt130.2 == 3)) else (some false))))) = some r := by rw [if_neg (show ¬ (false = true) by decide)] at H; exact H
          clear H
          have H := H1
          clear H1
          replace H := Option.bind_eq_some_iff.mp H
          obtain ⟨⟨t130, t131⟩, A370, H⟩ := H
          replace H : ((punnetref01_Fits.f a2 a3).bind fun t132 => (if t132 = true then ((plane_Parts.f t130).bind fun bt133 => (if t131 = 0 then (if bt133.1 = a2 then (if bt133.2.1 = a3 then (some (bt133.2.2 == 0)) else (some false)) else (some false)) else (some false))) else (if ((FloatKind.f64.format.order t130.1 0 == some Ordering.eq) && (FloatKind.f64.format.order t130.2 0 == some Ordering.eq)) = true then (some (t131 == 3)) else (some false)))) = some r := H
          have A37 := Aside0.mk A370
          clear A370
          replace H := Option.bind_eq_some_iff.mp H
          obtain ⟨t132, A380, H⟩ := H
          replace H : (if t132 = true then ((plane_Parts.f t130).bind fun bt133 => (if t131 = 0 then (if bt133.1 = a2 then (if bt133.2.1 = a3 then (some (bt133.2.2 == 0)) else (some false)) else (some false)) else (some false))) else (if ((FloatKind.f64.format.order t130.1 0 == some Ordering.eq) && (FloatKind.f64.format.order t130.2 0 == some Ordering.eq)) = true then (some (t131 == 3)) else (some false))) = some r := H
          have A38 := Aside0.mk A380
          clear A380
          by_cases c39 : t132 = true
          · subst c39
            have H1 : ((plane_Parts.f t130).bind fun bt133 => (if t131 = 0 then (if bt133.1 = a2 then (if bt133.2.1 = a3 then (some (bt133.2.2 == 0)) else (some false)) else (some false)) else (some false))) = some r := by rw [if_pos rfl] at H; exact H
            clear H
            have H := H1
            clear H1
            replace H := Option.bind_eq_some_iff.mp H
            obtain ⟨⟨t133, t134, t135⟩, A400, H⟩ := H
            replace H : (if t131 = 0 then (if t133 = a2 then (if t134 = a3 then (some (t135 == 0)) else (some false)) else (some false)) else (some false)) = some r := H
            have A40 := Aside0.mk A400
            clear A400
            by_cases c41 : t131 = 0
            · rw [if_pos c41] at H
              have c41b0 : (t131 == 0) = true := beq_iff_eq.mpr c41
              have c41b1 : (t131 != 0) = false := bne_eq_false_iff_eq.mpr c41
              clear c41
              by_cases c42 : t133 = a2
              · rw [if_pos c42] at H
                have c42b0 : (t133 == a2) = true := beq_iff_eq.mpr c42
                have c42b1 : (t133 != a2) = false := bne_eq_false_iff_eq.mpr c42
                clear c42
                by_cases c43 : t134 = a3
                · rw [if_pos c43] at H
                  have c43b0 : (t134 == a3) = true := beq_iff_eq.mpr c43
                  have c43b1 : (t134 != a3) = false := bne_eq_false_iff_eq.mpr c43
                  clear c43
                  obtain rfl := Option.some.inj H
                  go_wp2_with (first | ((with_reducible refine gate_callee (f := 17) rfl ?_); refine goesL_ (some 84) rfl rfl Try.func17 (by kernel_rfl) rfl #[.int .i64 a2, .int .i64 a3] rfl (by (try simp only [List.map_toArray, List.map_cons, List.map_nil]); first | done | rfl | (simp only [List.length_drop, List.length_take]; rfl)) ?_; (with_reducible refine (plane_Of.calls a2 a3 t130 t131 _ A37.out).mono ?_); rintro e w' ⟨rfl, ⟨nd, rfl⟩⟩; refine ⟨_, rfl, ?_⟩) | ((with_reducible refine gate_callee (f := 18) rfl ?_); refine goesL_ (some 89) rfl rfl Try.func18 (by kernel_rfl) rfl #[.int .i64 a2, .int .i64 a3] rfl (by (try simp only [List.map_toArray, List.map_cons, List.map_nil]); first | done | rfl | (simp only [List.length_drop, List.length_take]; rfl)) ?_; (with_reducible refine (punnetref01_Fits.calls a2 a3 true _ A38.out).mono ?_); rintro e w' ⟨rfl, ⟨nd, rfl⟩⟩; refine ⟨_, rfl, ?_⟩) | ((with_reducible refine gate_callee (f := 14) rfl ?_); refine goesL_ (some 99) rfl rfl Try.func14 (by kernel_rfl) rfl #[.complex .f64 t130.1 t130.2] rfl (by (try simp only [List.map_toArray, List.map_cons, List.map_nil]); first | done | rfl | (simp only [List.length_drop, List.length_take]; rfl)) ?_; (with_reducible refine (plane_Parts.calls t130 t133 t134 t135 _ A40.out).mono ?_); rintro e w44 ⟨rfl, hb⟩; refine ⟨_, rfl, ?_⟩; have n0_ := Aside0.mk (below_step (by repeat (first | (with_reducible first | exact HB.out | apply below_alloc | apply pw_below_drewN | apply below_drew1) | exact HB.out)) hb); clear HB; have HB := n0_; clear n0_; (try clear hb); (try clear hb2); (try clear hk); (try clear hi)))
                  go_ret
                  exact ⟨by first | rfl | (simp [errW_none, errW_some] <;> rfl) | (simp [*, errW_none, errW_some] <;> rfl), by repeat (first | (with_reducible first | exact HB.out | apply below_alloc | apply pw_below_drewN | apply below_drew1) | exact HB.out)⟩
                · rw [if_neg c43] at H
                  have c43b0 : (t134 == a3) = false := beq_eq_false_iff_ne.mpr c43
                  have c43b1 : (t134 != a3) = true := bne_iff_ne.mpr c43
                  obtain rfl := Option.some.inj H
                  go_wp2_with (first | ((with_reducible refine gate_callee (f := 17) rfl ?_); refine goesL_ (some 84) rfl rfl Try.func17 (by kernel_rfl) rfl #[.int .i64 a2, .int .i64 a3] rfl (by (try simp only [List.map_toArray, List.map_cons, List.map_nil]); first | done | rfl | (simp only [List.length_drop, List.length_take]; rfl)) ?_; (with_reducible refine (plane_Of.calls a2 a3 t130 t131 _ A37.out).mono ?_); rintro e w' ⟨rfl, ⟨nd, rfl⟩⟩; refine ⟨_, rfl, ?_⟩) | ((with_reducible refine gate_callee (f := 18) rfl ?_); refine goesL_ (some 89) rfl rfl Try.func18 (by kernel_rfl) rfl #[.int .i64 a2, .int .i64 a3] rfl (by (try simp only [List.map_toArray, List.map_cons, List.map_nil]); first | done | rfl | (simp only [List.length_drop, List.length_take]; rfl)) ?_; (with_reducible refine (punnetref01_Fits.calls a2 a3 true _ A38.out).mono ?_); rintro e w' ⟨rfl, ⟨nd, rfl⟩⟩; refine ⟨_, rfl, ?_⟩) | ((with_reducible refine gate_callee (f := 14) rfl ?_); refine goesL_ (some 99) rfl rfl Try.func14 (by kernel_rfl) rfl #[.complex .f64 t130.1 t130.2] rfl (by (try simp only [List.map_toArray, List.map_cons, List.map_nil]); first | done | rfl | (simp only [List.length_drop, List.length_take]; rfl)) ?_; (with_reducible refine (plane_Parts.calls t130 t133 t134 t135 _ A40.out).mono ?_); rintro e w45 ⟨rfl, hb⟩; refine ⟨_, rfl, ?_⟩; have n0_ := Aside0.mk (below_step (by repeat (first | (with_reducible first | exact HB.out | apply below_alloc | apply pw_below_drewN | apply below_drew1) | exact HB.out)) hb); clear HB; have HB := n0_; clear n0_; (try clear hb); (try clear hb2); (try clear hk); (try clear hi)))
                  go_ret
                  exact ⟨by first | rfl | (simp [errW_none, errW_some] <;> rfl) | (simp [*, errW_none, errW_some] <;> rfl), by repeat (first | (with_reducible first | exact HB.out | apply below_alloc | apply pw_below_drewN | apply below_drew1) | exact HB.out)⟩
              · rw [if_neg c42] at H
                have c42b0 : (t133 == a2) = false := beq_eq_false_iff_ne.mpr c42
                have c42b1 : (t133 != a2) = true := bne_iff_ne.mpr c42
                obtain rfl := Option.some.inj H
                go_wp2_with (first | ((with_reducible refine gate_callee (f := 17) rfl ?_); refine goesL_ (some 84) rfl rfl Try.func17 (by kernel_rfl) rfl #[.int .i64 a2, .int .i64 a3] rfl (by (try simp only [List.map_toArray, List.map_cons, List.map_nil]); first | done | rfl | (simp only [List.length_drop, List.length_take]; rfl)) ?_; (with_reducible refine (plane_Of.calls a2 a3 t130 t131 _ A37.out).mono ?_); rintro e w' ⟨rfl, ⟨nd, rfl⟩⟩; refine ⟨_, rfl, ?_⟩) | ((with_reducible refine gate_callee (f := 18) rfl ?_); refine goesL_ (some 89) rfl rfl Try.func18 (by kernel_rfl) rfl #[.int .i64 a2, .int .i64 a3] rfl (by (try simp only [List.map_toArray, List.map_cons, List.map_nil]); first | done | rfl | (simp only [List.length_drop, List.length_take]; rfl)) ?_; (with_reducible refine (punnetref01_Fits.calls a2 a3 true _ A38.out).mono ?_); rintro e w' ⟨rfl, ⟨nd, rfl⟩⟩; refine ⟨_, rfl, ?_⟩) | ((with_reducible refine gate_callee (f := 14) rfl ?_); refine goesL_ (some 99) rfl rfl Try.func14 (by kernel_rfl) rfl #[.complex .f64 t130.1 t130.2] rfl (by (try simp only [List.map_toArray, List.map_cons, List.map_nil]); first | done | rfl | (simp only [List.length_drop, List.length_take]; rfl)) ?_; (with_reducible refine (plane_Parts.calls t130 t133 t134 t135 _ A40.out).mono ?_); rintro e w46 ⟨rfl, hb⟩; refine ⟨_, rfl, ?_⟩; have n0_ := Aside0.mk (below_step (by repeat (first | (with_reducible first | exact HB.out | apply below_alloc | apply pw_below_drewN | apply below_drew1) | exact HB.out)) hb); clear HB; have HB := n0_; clear n0_; (try clear hb); (try clear hb2); (try clear hk); (try clear hi)))
                go_ret
                exact ⟨by first | rfl | (simp [errW_none, errW_some] <;> rfl) | (simp [*, errW_none, errW_some] <;> rfl), by repeat (first | (with_reducible first | exact HB.out | apply below_alloc | apply pw_below_drewN | apply below_drew1) | exact HB.out)⟩
            · rw [if_neg c41] at H
              have c41b0 : (t131 == 0) = false := beq_eq_false_iff_ne.mpr c41
              have c41b1 : (t131 != 0) = true := bne_iff_ne.mpr c41
              obtain rfl := Option.some.inj H
              go_wp2_with (first | ((with_reducible refine gate_callee (f := 17) rfl ?_); refine goesL_ (some 84) rfl rfl Try.func17 (by kernel_rfl) rfl #[.int .i64 a2, .int .i64 a3] rfl (by (try simp only [List.map_toArray, List.map_cons, List.map_nil]); first | done | rfl | (simp only [List.length_drop, List.length_take]; rfl)) ?_; (with_reducible refine (plane_Of.calls a2 a3 t130 t131 _ A37.out).mono ?_); rintro e w' ⟨rfl, ⟨nd, rfl⟩⟩; refine ⟨_, rfl, ?_⟩) | ((with_reducible refine gate_callee (f := 18) rfl ?_); refine goesL_ (some 89) rfl rfl Try.func18 (by kernel_rfl) rfl #[.int .i64 a2, .int .i64 a3] rfl (by (try simp only [List.map_toArray, List.map_cons, List.map_nil]); first | done | rfl | (simp only [List.length_drop, List.length_take]; rfl)) ?_; (with_reducible refine (punnetref01_Fits.calls a2 a3 true _ A38.out).mono ?_); rintro e w' ⟨rfl, ⟨nd, rfl⟩⟩; refine ⟨_, rfl, ?_⟩) | ((with_reducible refine gate_callee (f := 14) rfl ?_); refine goesL_ (some 99) rfl rfl Try.func14 (by kernel_rfl) rfl #[.complex .f64 t130.1 t130.2] rfl (by (try simp only [List.map_toArray, List.map_cons, List.map_nil]); first | done | rfl | (simp only [List.length_drop, List.length_take]; rfl)) ?_; (with_reducible refine (plane_Parts.calls t130 t133 t134 t135 _ A40.out).mono ?_); rintro e w47 ⟨rfl, hb⟩; refine ⟨_, rfl, ?_⟩; have n0_ := Aside0.mk (below_step (by repeat (first | (with_reducible first | exact HB.out | apply below_alloc | apply pw_below_drewN | apply below_drew1) | exact HB.out)) hb); clear HB; have HB := n0_; clear n0_; (try clear hb); (try clear hb2); (try clear hk); (try clear hi)))
              go_ret
              exact ⟨by first | rfl | (simp [errW_none, errW_some] <;> rfl) | (simp [*, errW_none, errW_some] <;> rfl), by repeat (first | (with_reducible first | exact HB.out | apply below_alloc | apply pw_below_drewN | apply below_drew1) | exact HB.out)⟩
          · replace c39 := Bool.eq_false_iff.mpr c39
            subst c39
            have H1 : (if ((FloatKind.f64.format.order t130.1 0 == some Ordering.eq) && (FloatKind.f64.format.order t130.2 0 == some Ordering.eq)) = true then (some (t131 == 3)) else (some false)) = some r := by rw [if_neg (show ¬ (false = true) by decide)] at H; exact H
            clear H
            have H := H1
            clear H1
            by_cases c48 : ((FloatKind.f64.format.order t130.1 0 == some Ordering.eq) && (FloatKind.f64.format.order t130.2 0 == some Ordering.eq)) = true
            · rw [if_pos c48] at H
              have c48b0 : ((FloatKind.f64.format.order t130.1 0 == some Ordering.eq) && (FloatKind.f64.format.order t130.2 0 == some Ordering.eq)) = true := c48
              clear c48
              obtain rfl := Option.some.inj H
              go_wp2_with (first | ((with_reducible refine gate_callee (f := 17) rfl ?_); refine goesL_ (some 84) rfl rfl Try.func17 (by kernel_rfl) rfl #[.int .i64 a2, .int .i64 a3] rfl (by (try simp only [List.map_toArray, List.map_cons, List.map_nil]); first | done | rfl | (simp only [List.length_drop, List.length_take]; rfl)) ?_; (with_reducible refine (plane_Of.calls a2 a3 t130 t131 _ A37.out).mono ?_); rintro e w' ⟨rfl, ⟨nd, rfl⟩⟩; refine ⟨_, rfl, ?_⟩) | ((with_reducible refine gate_callee (f := 18) rfl ?_); refine goesL_ (some 89) rfl rfl Try.func18 (by kernel_rfl) rfl #[.int .i64 a2, .int .i64 a3] rfl (by (try simp only [List.map_toArray, List.map_cons, List.map_nil]); first | done | rfl | (simp only [List.length_drop, List.length_take]; rfl)) ?_; (with_reducible refine (punnetref01_Fits.calls a2 a3 false _ A38.out).mono ?_); rintro e w' ⟨rfl, ⟨nd, rfl⟩⟩; refine ⟨_, rfl, ?_⟩))
              go_ret
              exact ⟨by first | rfl | (simp [errW_none, errW_some] <;> rfl) | (simp [*, errW_none, errW_some] <;> rfl), by repeat (first | (with_reducible first | exact HB.out | apply below_alloc | apply pw_below_drewN | apply below_drew1) | exact HB.out)⟩
            · rw [if_neg c48] at H
              have c48b0 : ((FloatKind.f64.format.order t130.1 0 == some Ordering.eq) && (FloatKind.f64.format.order t130.2 0 == some Ordering.eq)) = false := by simpa using c48
              clear c48
              obtain rfl := Option.some.inj H
              go_wp2_with (first | ((with_reducible refine gate_callee (f := 17) rfl ?_); refine goesL_ (some 84) rfl rfl Try.func17 (by kernel_rfl) rfl #[.int .i64 a2, .int .i64 a3] rfl (by (try simp only [List.map_toArray, List.map_cons, List.map_nil]); first | done | rfl | (simp only [List.length_drop, List.length_take]; rfl)) ?_; (with_reducible refine (plane_Of.calls a2 a3 t130 t131 _ A37.out).mono ?_); rintro e w' ⟨rfl, ⟨nd, rfl⟩⟩; refine ⟨_, rfl, ?_⟩) | ((with_reducible refine gate_callee (f := 18) rfl ?_); refine goesL_ (some 89) rfl rfl Try.func18 (by kernel_rfl) rfl #[.int .i64 a2, .int .i64 a3] rfl (by (try simp only [List.map_toArray, List.map_cons, List.map_nil]); first | done | rfl | (simp only [List.length_drop, List.length_take]; rfl)) ?_; (with_reducible refine (punnetref01_Fits.calls a2 a3 false _ A38.out).mono ?_); rintro e w' ⟨rfl, ⟨nd, rfl⟩⟩; refine ⟨_, rfl, ?_⟩))
              go_ret
              exact ⟨by first | rfl | (simp [errW_none, errW_some] <;> rfl) | (simp [*, errW_none, errW_some] <;> rfl), by repeat (first | (with_reducible first | exact HB.out | apply below_alloc | apply pw_below_drewN | apply below_drew1) | exact HB.out)⟩
  · replace c6 := Bool.eq_false_iff.mpr c6
    subst c6
    have H1 : (some false) = some r := by rw [if_neg (show ¬ (false = true) by decide)] at H; exact H
    clear H
    have H := H1
    clear H1
    obtain rfl := Option.some.inj H
    go_enter Try.func3, Try.ntmps3
    go_wp2_with (first | ((with_reducible refine gate_callee (f := 12) rfl ?_); refine goesL_ (some 27) rfl rfl Try.func12 (by kernel_rfl) rfl #[] rfl (by (try simp only [List.map_toArray, List.map_cons, List.map_nil]); first | done | rfl | (simp only [List.length_drop, List.length_take]; rfl)) ?_; (with_reducible refine (punnetlaw01_awake.calls  false _ A5.out).mono ?_); rintro e w49 ⟨rfl, hb⟩; refine ⟨_, rfl, ?_⟩; have n0_ := Aside0.mk (below_step (by repeat (first | (with_reducible first | exact HB.out | apply below_alloc | apply pw_below_drewN | apply below_drew1) | exact HB.out)) hb); clear HB; have HB := n0_; clear n0_; (try clear hb); (try clear hb2); (try clear hk); (try clear hi)))
    go_ret
    exact ⟨by first | rfl | (simp [errW_none, errW_some] <;> rfl) | (simp [*, errW_none, errW_some] <;> rfl), by repeat (first | (with_reducible first | exact HB.out | apply below_alloc | apply pw_below_drewN | apply below_drew1) | exact HB.out)⟩

/-- THE ONE PURE STATEMENT of punnetlaw01_PlaneParts: yours. -/
def punnetlaw01_PlaneParts.Pure : Prop := ∀ (a0 : Nat) (a1 : Nat) (a2 : Int) (a3 : Int), (Lit.float .f64 a0).wf = true → (Lit.float .f64 a1).wf = true → (Lit.int .i64 a2).wf = true → (Lit.int .i64 a3).wf = true → ∃ k, punnetlaw01_PlaneParts.f k a0 a1 a2 a3 = some true
theorem punnetlaw01_PlaneParts.walk (P : punnetlaw01_PlaneParts.Pure) (a0 : Nat) (a1 : Nat) (a2 : Int) (a3 : Int) (w : World) (w0 : (Lit.float .f64 a0).wf = true) (w1 : (Lit.float .f64 a1).wf = true) (w2 : (Lit.int .i64 a2).wf = true) (w3 : (Lit.int .i64 a3).wf = true) :
    Calls Try.prog 3 #[.float .f64 a0, .float .f64 a1, .int .i64 a2, .int .i64 a3] w fun e w' => e = .returned (.bool true) ∧ Below w.heap.size w w' := by
  obtain ⟨k, h⟩ := P a0 a1 a2 a3 w0 w1 w2 w3
  refine (punnetlaw01_PlaneParts.calls k a0 a1 a2 a3 true w h).mono ?_
  rintro e w' ⟨rfl, hd⟩
  exact ⟨rfl, hd⟩

end Go.Proofs.Ytjaefcinaackeaa.Q
