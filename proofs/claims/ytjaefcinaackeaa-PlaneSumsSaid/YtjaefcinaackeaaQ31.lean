/- A function of the program or a law's row comes to what the Lean function beside it says; no condition beyond those typed. Written by a program of this workplace; Lean checks it. -/
import Derived.Test.YtjaefcinaackeaaQ0
import Derived.Test.YtjaefcinaackeaaQ16
import Derived.Test.YtjaefcinaackeaaQ23
namespace Go.Proofs.Ytjaefcinaackeaa.Q
open Go.RowKit Go.Proofs.YtjaefcinaackeaaW.PrintWords Go.Proofs.YtjaefcinaackeaaW.PrintLast Go.Proofs.YtjaefcinaackeaaW.PrintMore
attribute [local go_sem] max2_int min2_int max_two min_two max_three min_three max_four min_four   -- for this text's walks alone
set_option linter.unusedVariables false
set_option linter.unusedSimpArgs false

/-! ### punnetref01_Product: function 26 -/
def punnetref01_Product.f (a0 : (Nat × Nat)) (a1 : (Nat × Nat)) : Option ((Nat × Nat) × Int) := (punnetref01_Parts.f a0 33554432).bind fun bt189 => ((punnetref01_Parts.f a1 33554432).bind fun bt192 => (if bt189.2.2 = true then (if bt192.2.2 = true then ((punnetref01_Of.f (wrap64 ((wrap64 (bt189.1 * bt192.1)) - (wrap64 (bt189.2.1 * bt192.2.1)))) (wrap64 ((wrap64 (bt189.1 * bt192.2.1)) + (wrap64 (bt189.2.1 * bt192.1))))).bind fun t195 => (some (t195, 0))) else (some ((0, 0), 5))) else (some ((0, 0), 5))))
set_option maxHeartbeats 8000000 in
set_option maxRecDepth 100000 in
theorem punnetref01_Product.calls (a0 : (Nat × Nat)) (a1 : (Nat × Nat)) (r1 : (Nat × Nat)) (r2 : Int) (w : World) (h : punnetref01_Product.f a0 a1 = some (r1, r2)) :
    Calls Try.prog 26 #[.complex .f64 a0.1 a0.2, .complex .f64 a1.1 a1.2] w fun e w' => e = .returned (.tuple #[.complex .f64 r1.1 r1.2, .int .i64 r2]) ∧ Below w.heap.size w w' := by
  have HB := Aside0.mk (Below.refl w.heap.size w)
  have H : ((punnetref01_Parts.f a0 33554432).bind fun bt189 => ((punnetref01_Parts.f a1 33554432).bind fun bt192 => (if bt189.2.2 = true then (if bt192.2.2 = true then ((punnetref01_Of.f (wrap64 ((wrap64 (bt189.1 * bt192.1)) - (wrap64 (bt189.2.1 * bt192.2.1)))) (wrap64 ((wrap64 (bt189.1 * bt192.2.1)) + (wrap64 (bt189.2.1 * bt192.1))))).bind fun t195 => (some (t195, 0))) else (some ((0, 0), 5))) else (some ((0, 0), 5))))) = some (r1, r2) := h
  clear h
  replace H := Option.bind_eq_some_iff.mp H
  obtain ⟨⟨t189, t190, t191⟩, A30, H⟩ := H
  replace H : ((punnetref01_Parts.f a1 33554432).bind fun bt192 => (if t191 = true then (if bt192.2.2 = true then ((punnetref01_Of.f (wrap64 ((wrap64 (t189 * bt192.1)) - (wrap64 (t190 * bt192.2.1)))) (wrap64 ((wrap64 (t189 * bt192.2.1)) + (wrap64 (t190 * bt192.1))))).bind fun t195 => (some (t195, 0))) else (some ((0, 0), 5))) else (some ((0, 0), 5)))) = some (r1, r2) := H
  have A3 := Aside0.mk A30
  clear A30
  replace H := Option.bind_eq_some_iff.mp H
  obtain ⟨⟨t192, t193, t194⟩, A40, H⟩ := H
  replace H : (if t191 = true then (if t194 = true then ((punnetref01_Of.f (wrap64 ((wrap64 (t189 * t192)) - (wrap64 (t190 * t193)))) (wrap64 ((wrap64 (t189 * t193)) + (wrap64 (t190 * t192))))).bind fun t195 => (some (t195, 0))) else (some ((0, 0), 5))) else (some ((0, 0), 5))) = some (r1, r2) := H
  have A4 := Aside0.mk A40
  clear A40
  by_cases c5 : t191 = true
  · subst c5
    have H1 : (if t194 = true then ((punnetref01_Of.f (wrap64 ((wrap64 (t189 * t192)) - (wrap64 (t190 * t193)))) (wrap64 ((wrap64 (t189 * t193)) + (wrap64 (t190 * t192))))).bind fun t195 => (some (t195, 0))) else (some ((0, 0), 5))) = some (r1, r2) := by rw [if_pos rfl] at H; exact H
    clear H
    have H := H1
    clear H1
    by_cases c6 : t194 = true
    · subst c6
      have H1 : ((punnetref01_Of.f (wrap64 ((wrap64 (t189 * t192)) - (wrap64 (t190 * t193)))) (wrap64 ((wrap64 (t189 * t193)) + (wrap64 (t190 * t192))))).bind fun t195 => (some (t195, 0))) = some (r1, r2) := by rw [if_pos rfl] at H; exact H
      clear H
      have H := H1
      clear H1
      replace H := Option.bind_eq_some_iff.mp H
      obtain ⟨t195, A70, H⟩ := H
      replace H : (some (t195, 0)) = some (r1, r2) := H
      have A7 := Aside0.mk A70
      clear A70
      simp only [Option.some.injEq, Prod.mk.injEq] at H
      obtain ⟨rfl, rfl⟩ := H
      go_enter Try.func26, Try.ntmps26
      go_wp2_with (first | ((with_reducible refine gate_callee (f := 13) rfl ?_); refine goesL_ (some 14) rfl rfl Try.func13 (by kernel_rfl) rfl #[.complex .f64 a0.1 a0.2, .int .i64 33554432] rfl (by (try simp only [List.map_toArray, List.map_cons, List.map_nil]); first | done | rfl | (simp only [List.length_drop, List.length_take]; rfl)) ?_; (with_reducible refine (punnetref01_Parts.calls a0 33554432 t189 t190 true _ A3.out).mono ?_); rintro e w8 ⟨rfl, hb⟩; refine ⟨_, rfl, ?_⟩; have n0_ := Aside0.mk (below_step (by repeat (first | (with_reducible first | exact HB.out | apply below_alloc | apply pw_below_drewN | apply below_drew1) | exact HB.out)) hb); clear HB; have HB := n0_; clear n0_; (try clear hb); (try clear hb2); (try clear hk); (try clear hi)) | ((with_reducible refine gate_callee (f := 13) rfl ?_); refine goesL_ (some 20) rfl rfl Try.func13 (by kernel_rfl) rfl #[.complex .f64 a1.1 a1.2, .int .i64 33554432] rfl (by (try simp only [List.map_toArray, List.map_cons, List.map_nil]); first | done | rfl | (simp only [List.length_drop, List.length_take]; rfl)) ?_; (with_reducible refine (punnetref01_Parts.calls a1 33554432 t192 t193 true _ A4.out).mono ?_); rintro e w9 ⟨rfl, hb⟩; refine ⟨_, rfl, ?_⟩; have n0_ := Aside0.mk (below_step (by repeat (first | (with_reducible first | exact HB.out | apply below_alloc | apply pw_below_drewN | apply below_drew1) | exact HB.out)) hb); clear HB; have HB := n0_; clear n0_; (try clear hb); (try clear hb2); (try clear hk); (try clear hi)) | ((with_reducible refine gate_callee (f := 36) rfl ?_); refine goesL_ (some 44) rfl rfl Try.func36 (by kernel_rfl) rfl #[.int .i64 (wrap64 ((wrap64 (t189 * t192)) - (wrap64 (t190 * t193)))), .int .i64 (wrap64 ((wrap64 (t189 * t193)) + (wrap64 (t190 * t192))))] rfl (by (try simp only [List.map_toArray, List.map_cons, List.map_nil]); first | done | rfl | (simp only [List.length_drop, List.length_take]; rfl)) ?_; (with_reducible refine (punnetref01_Of.calls (wrap64 ((wrap64 (t189 * t192)) - (wrap64 (t190 * t193)))) (wrap64 ((wrap64 (t189 * t193)) + (wrap64 (t190 * t192)))) t195 _ A7.out).mono ?_); rintro e w10 ⟨rfl, hb⟩; refine ⟨_, rfl, ?_⟩; have n0_ := Aside0.mk (below_step (by repeat (first | (with_reducible first | exact HB.out | apply below_alloc | apply pw_below_drewN | apply below_drew1) | exact HB.out)) hb); clear HB; have HB := n0_; clear n0_; (try clear hb); (try clear hb2); (try clear hk); (try clear hi)))
      go_ret2
      exact ⟨by first | rfl | (simp [errW_none, errW_some] <;> rfl) | (simp [*, errW_none, errW_some] <;> rfl), by repeat (first | (with_reducible first | exact HB.out | apply below_alloc | apply pw_below_drewN | apply below_drew1) | exact HB.out)⟩
    · replace c6 := Bool.eq_false_iff.mpr c6
      subst c6
      have H1 : (some ((0, 0), 5)) = some (r1, r2) := by rw [if_neg (show ¬ (false = true) by decide)] at H; exact H
      clear H
      have H := H1
      clear H1
      simp only [Option.some.injEq, Prod.mk.injEq] at H
      obtain ⟨rfl, rfl⟩ := H
      go_enter Try.func26, Try.ntmps26
      go_wp2_with (first | ((with_reducible refine gate_callee (f := 13) rfl ?_); refine goesL_ (some 14) rfl rfl Try.func13 (by kernel_rfl) rfl #[.complex .f64 a0.1 a0.2, .int .i64 33554432] rfl (by (try simp only [List.map_toArray, List.map_cons, List.map_nil]); first | done | rfl | (simp only [List.length_drop, List.length_take]; rfl)) ?_; (with_reducible refine (punnetref01_Parts.calls a0 33554432 t189 t190 true _ A3.out).mono ?_); rintro e w11 ⟨rfl, hb⟩; refine ⟨_, rfl, ?_⟩; have n0_ := Aside0.mk (below_step (by repeat (first | (with_reducible first | exact HB.out | apply below_alloc | apply pw_below_drewN | apply below_drew1) | exact HB.out)) hb); clear HB; have HB := n0_; clear n0_; (try clear hb); (try clear hb2); (try clear hk); (try clear hi)) | ((with_reducible refine gate_callee (f := 13) rfl ?_); refine goesL_ (some 20) rfl rfl Try.func13 (by kernel_rfl) rfl #[.complex .f64 a1.1 a1.2, .int .i64 33554432] rfl (by (try simp only [List.map_toArray, List.map_cons, List.map_nil]); first | done | rfl | (simp only [List.length_drop, List.length_take]; rfl)) ?_; (with_reducible refine (punnetref01_Parts.calls a1 33554432 t192 t193 false _ A4.out).mono ?_); rintro e w12 ⟨rfl, hb⟩; refine ⟨_, rfl, ?_⟩; have n0_ := Aside0.mk (below_step (by repeat (first | (with_reducible first | exact HB.out | apply below_alloc | apply pw_below_drewN | apply below_drew1) | exact HB.out)) hb); clear HB; have HB := n0_; clear n0_; (try clear hb); (try clear hb2); (try clear hk); (try clear hi)))
      go_ret2
      exact ⟨by first | rfl | (simp [errW_none, errW_some] <;> rfl) | (simp [*, errW_none, errW_some] <;> rfl), by repeat (first | (with_reducible first | exact HB.out | apply below_alloc | apply pw_below_drewN | apply below_drew1) | exact HB.out)⟩
  · replace c5 := Bool.eq_false_iff.mpr c5
    subst c5
    have H1 : (some ((0, 0), 5)) = some (r1, r2) := by rw [if_neg (show ¬ (false = true) by decide)] at H; exact H
    clear H
    have H := H1
    clear H1
    simp only [Option.some.injEq, Prod.mk.injEq] at H
    obtain ⟨rfl, rfl⟩ := H
    go_enter Try.func26, Try.ntmps26
    go_wp2_with (first | ((with_reducible refine gate_callee (f := 13) rfl ?_); refine goesL_ (some 14) rfl rfl Try.func13 (by kernel_rfl) rfl #[.complex .f64 a0.1 a0.2, .int .i64 33554432] rfl (by (try simp only [List.map_toArray, List.map_cons, List.map_nil]); first | done | rfl | (simp only [List.length_drop, List.length_take]; rfl)) ?_; (with_reducible refine (punnetref01_Parts.calls a0 33554432 t189 t190 false _ A3.out).mono ?_); rintro e w13 ⟨rfl, hb⟩; refine ⟨_, rfl, ?_⟩; have n0_ := Aside0.mk (below_step (by repeat (first | (with_reducible first | exact HB.out | apply below_alloc | apply pw_below_drewN | apply below_drew1) | exact HB.out)) hb); clear HB; have HB := n0_; clear n0_; (try clear hb); (try clear hb2); (try clear hk); (try clear hi)) | ((with_reducible refine gate_callee (f := 13) rfl ?_); refine goesL_ (some 20) rfl rfl Try.func13 (by kernel_rfl) rfl #[.complex .f64 a1.1 a1.2, .int .i64 33554432] rfl (by (try simp only [List.map_toArray, List.map_cons, List.map_nil]); first | done | rfl | (simp only [List.length_drop, List.length_take]; rfl)) ?_; (with_reducible refine (punnetref01_Parts.calls a1 33554432 t192 t193 t194 _ A4.out).mono ?_); rintro e w14 ⟨rfl, hb⟩; refine ⟨_, rfl, ?_⟩; have n0_ := Aside0.mk (below_step (by repeat (first | (with_reducible first | exact HB.out | apply below_alloc | apply pw_below_drewN | apply below_drew1) | exact HB.out)) hb); clear HB; have HB := n0_; clear n0_; (try clear hb); (try clear hb2); (try clear hk); (try clear hi)))
    go_ret2
    exact ⟨by first | rfl | (simp [errW_none, errW_some] <;> rfl) | (simp [*, errW_none, errW_some] <;> rfl), by repeat (first | (with_reducible first | exact HB.out | apply below_alloc | apply pw_below_drewN | apply below_drew1) | exact HB.out)⟩

end Go.Proofs.Ytjaefcinaackeaa.Q
