/- A function of the program or a law's row comes to what the Lean function beside it says; no condition beyond those typed. Written by a program of this workplace; Lean checks it. -/
import Derived.Test.YtjaefcinaackeaaQ0
import Derived.Test.YtjaefcinaackeaaQ17
import Derived.Test.YtjaefcinaackeaaQ27
namespace Go.Proofs.Ytjaefcinaackeaa.Q
open Go.RowKit Go.Proofs.YtjaefcinaackeaaW.PrintWords Go.Proofs.YtjaefcinaackeaaW.PrintLast Go.Proofs.YtjaefcinaackeaaW.PrintMore
attribute [local go_sem] max2_int min2_int max_two min_two max_three min_three max_four min_four   -- for this text's walks alone
set_option linter.unusedVariables false
set_option linter.unusedSimpArgs false

/-! ### plane_Plus: function 23 -/
def plane_Plus.f (a0 : (Nat × Nat)) (a1 : (Nat × Nat)) : Option ((Nat × Nat) × Int) := (plane_Whole.f a0).bind fun t173 => (if t173 = true then ((plane_Whole.f a1).bind fun t174 => (if t174 = true then (if csumOk .add a0.1 a0.2 a1.1 a1.2 = true then ((plane_told.f (csumR .add a0.1 a0.2 a1.1 a1.2, csumI .add a0.1 a0.2 a1.1 a1.2)).bind fun bt175 => (some (bt175.1, bt175.2))) else (none)) else (some ((0, 0), 5)))) else (some ((0, 0), 5)))
set_option maxHeartbeats 8000000 in
set_option maxRecDepth 100000 in
theorem plane_Plus.calls (a0 : (Nat × Nat)) (a1 : (Nat × Nat)) (r1 : (Nat × Nat)) (r2 : Int) (w : World) (h : plane_Plus.f a0 a1 = some (r1, r2)) :
    Calls Try.prog 23 #[.complex .f64 a0.1 a0.2, .complex .f64 a1.1 a1.2] w fun e w' => e = .returned (.tuple #[.complex .f64 r1.1 r1.2, .int .i64 r2]) ∧ Below w.heap.size w w' := by
  have hcadd23 := fun (a_ b_ c_ d_ : Nat) (W_ : World) => run_csum (P := Try.prog) W_ 23 .add (.inl rfl) a_ b_ c_ d_
  have HB := Aside0.mk (Below.refl w.heap.size w)
  have H : ((plane_Whole.f a0).bind fun t173 => (if t173 = true then ((plane_Whole.f a1).bind fun t174 => (if t174 = true then (if csumOk .add a0.1 a0.2 a1.1 a1.2 = true then ((plane_told.f (csumR .add a0.1 a0.2 a1.1 a1.2, csumI .add a0.1 a0.2 a1.1 a1.2)).bind fun bt175 => (some (bt175.1, bt175.2))) else (none)) else (some ((0, 0), 5)))) else (some ((0, 0), 5)))) = some (r1, r2) := h
  clear h
  replace H := Option.bind_eq_some_iff.mp H
  obtain ⟨t173, A30, H⟩ := H
  replace H : (if t173 = true then ((plane_Whole.f a1).bind fun t174 => (if t174 = true then (if csumOk .add a0.1 a0.2 a1.1 a1.2 = true then ((plane_told.f (csumR .add a0.1 a0.2 a1.1 a1.2, csumI .add a0.1 a0.2 a1.1 a1.2)).bind fun bt175 => (some (bt175.1, bt175.2))) else (none)) else (some ((0, 0), 5)))) else (some ((0, 0), 5))) = some (r1, r2) := H
  have A3 := Aside0.mk A30
  clear A30
  by_cases c4 : t173 = true
  · subst c4
    have H1 : ((plane_Whole.f a1).bind fun t174 => (if t174 = true then (if csumOk .add a0.1 a0.2 a1.1 a1.2 = true then ((plane_told.f (csumR .add a0.1 a0.2 a1.1 a1.2, csumI .add a0.1 a0.2 a1.1 a1.2)).bind fun bt175 => (some (bt175.1, bt175.2))) else (none)) else (some ((0, 0), 5)))) = some (r1, r2) := by rw [if_pos rfl] at H; exact H
    clear H
    have H := H1
    clear H1
    replace H := Option.bind_eq_some_iff.mp H
    obtain ⟨t174, A50, H⟩ := H
    replace H : (if t174 = true then (if csumOk .add a0.1 a0.2 a1.1 a1.2 = true then ((plane_told.f (csumR .add a0.1 a0.2 a1.1 a1.2, csumI .add a0.1 a0.2 a1.1 a1.2)).bind fun bt175 => (some (bt175.1, bt175.2))) else (none)) else (some ((0, 0), 5))) = some (r1, r2) := H
    have A5 := Aside0.mk A50
    clear A50
    by_cases c6 : t174 = true
    · subst c6
      have H1 : (if csumOk .add a0.1 a0.2 a1.1 a1.2 = true then ((plane_told.f (csumR .add a0.1 a0.2 a1.1 a1.2, csumI .add a0.1 a0.2 a1.1 a1.2)).bind fun bt175 => (some (bt175.1, bt175.2))) else (none)) = some (r1, r2) := by rw [if_pos rfl] at H; exact H
      clear H
      have H := H1
      clear H1
      by_cases c7 : csumOk .add a0.1 a0.2 a1.1 a1.2 = true
      · rw [if_pos c7] at H
        have c7b0 : csumOk .add a0.1 a0.2 a1.1 a1.2 = true := c7
        clear c7
        replace H := Option.bind_eq_some_iff.mp H
        obtain ⟨⟨t175, t176⟩, A80, H⟩ := H
        replace H : (some (t175, t176)) = some (r1, r2) := H
        have A8 := Aside0.mk A80
        clear A80
        simp only [Option.some.injEq, Prod.mk.injEq] at H
        obtain ⟨rfl, rfl⟩ := H
        go_enter Try.func23, Try.ntmps23
        go_wp2_with (first | ((with_reducible refine gate_callee (f := 15) rfl ?_); refine goesL_ (some 7) rfl rfl Try.func15 (by kernel_rfl) rfl #[.complex .f64 a0.1 a0.2] rfl (by (try simp only [List.map_toArray, List.map_cons, List.map_nil]); first | done | rfl | (simp only [List.length_drop, List.length_take]; rfl)) ?_; (with_reducible refine (plane_Whole.calls a0 true _ A3.out).mono ?_); rintro e w9 ⟨rfl, hb⟩; refine ⟨_, rfl, ?_⟩; have n0_ := Aside0.mk (below_step (by repeat (first | (with_reducible first | exact HB.out | apply below_alloc | apply pw_below_drewN | apply below_drew1) | exact HB.out)) hb); clear HB; have HB := n0_; clear n0_; (try clear hb); (try clear hb2); (try clear hk); (try clear hi)) | (go_at_call 15; (with_reducible refine (plane_Whole.calls a1 true _ A5.out).mono ?_); rintro e w10 ⟨rfl, hb⟩; have n0_ := Aside0.mk (below_step (by repeat (first | (with_reducible first | exact HB.out | apply below_alloc | apply pw_below_drewN | apply below_drew1) | exact HB.out)) hb); clear HB; have HB := n0_; clear n0_; (try clear hb); (try clear hb2); (try clear hk); (try clear hi)) | ((with_reducible refine gate_callee (f := 44) rfl ?_); refine goesL_ (some 17) rfl rfl Try.func44 (by kernel_rfl) rfl #[.complex .f64 (csumR .add a0.1 a0.2 a1.1 a1.2) (csumI .add a0.1 a0.2 a1.1 a1.2)] rfl (by (try simp only [List.map_toArray, List.map_cons, List.map_nil]); first | done | rfl | (simp only [List.length_drop, List.length_take]; rfl)) ?_; (with_reducible refine (plane_told.calls (csumR .add a0.1 a0.2 a1.1 a1.2, csumI .add a0.1 a0.2 a1.1 a1.2) t175 t176 _ A8.out).mono ?_); rintro e w11 ⟨rfl, hb⟩; refine ⟨_, rfl, ?_⟩; have n0_ := Aside0.mk (below_step (by repeat (first | (with_reducible first | exact HB.out | apply below_alloc | apply pw_below_drewN | apply below_drew1) | exact HB.out)) hb); clear HB; have HB := n0_; clear n0_; (try clear hb); (try clear hb2); (try clear hk); (try clear hi)))
        go_ret2
        exact ⟨by first | rfl | (simp [errW_none, errW_some] <;> rfl) | (simp [*, errW_none, errW_some] <;> rfl), by repeat (first | (with_reducible first | exact HB.out | apply below_alloc | apply pw_below_drewN | apply below_drew1) | exact HB.out)⟩
      · rw [if_neg c7] at H
        exact absurd H (by simp)
    · replace c6 := Bool.eq_false_iff.mpr c6
      subst c6
      have H1 : (some ((0, 0), 5)) = some (r1, r2) := by rw [if_neg (show ¬ (false = true) by decide)] at H; exact H
      clear H
      have H := H1
      clear H1
      simp only [Option.some.injEq, Prod.mk.injEq] at H
      obtain ⟨rfl, rfl⟩ := H
      go_enter Try.func23, Try.ntmps23
      go_wp2_with (first | ((with_reducible refine gate_callee (f := 15) rfl ?_); refine goesL_ (some 7) rfl rfl Try.func15 (by kernel_rfl) rfl #[.complex .f64 a0.1 a0.2] rfl (by (try simp only [List.map_toArray, List.map_cons, List.map_nil]); first | done | rfl | (simp only [List.length_drop, List.length_take]; rfl)) ?_; (with_reducible refine (plane_Whole.calls a0 true _ A3.out).mono ?_); rintro e w12 ⟨rfl, hb⟩; refine ⟨_, rfl, ?_⟩; have n0_ := Aside0.mk (below_step (by repeat (first | (with_reducible first | exact HB.out | apply below_alloc | apply pw_below_drewN | apply below_drew1) | exact HB.out)) hb); clear HB; have HB := n0_; clear n0_; (try clear hb); (try clear hb2); (try clear hk); (try clear hi)) | (go_at_call 15; (with_reducible refine (plane_Whole.calls a1 false _ A5.out).mono ?_); rintro e w13 ⟨rfl, hb⟩; have n0_ := Aside0.mk (below_step (by repeat (first | (with_reducible first | exact HB.out | apply below_alloc | apply pw_below_drewN | apply below_drew1) | exact HB.out)) hb); clear HB; have HB := n0_; clear n0_; (try clear hb); (try clear hb2); (try clear hk); (try clear hi)))
      go_ret2
      exact ⟨by first | rfl | (simp [errW_none, errW_some] <;> rfl) | (simp [*, errW_none, errW_some] <;> rfl), by repeat (first | (with_reducible first | exact HB.out | apply below_alloc | apply pw_below_drewN | apply below_drew1) | exact HB.out)⟩
  · replace c4 := Bool.eq_false_iff.mpr c4
    subst c4
    have H1 : (some ((0, 0), 5)) = some (r1, r2) := by rw [if_neg (show ¬ (false = true) by decide)] at H; exact H
    clear H
    have H := H1
    clear H1
    simp only [Option.some.injEq, Prod.mk.injEq] at H
    obtain ⟨rfl, rfl⟩ := H
    go_enter Try.func23, Try.ntmps23
    go_wp2_with (first | ((with_reducible refine gate_callee (f := 15) rfl ?_); refine goesL_ (some 7) rfl rfl Try.func15 (by kernel_rfl) rfl #[.complex .f64 a0.1 a0.2] rfl (by (try simp only [List.map_toArray, List.map_cons, List.map_nil]); first | done | rfl | (simp only [List.length_drop, List.length_take]; rfl)) ?_; (with_reducible refine (plane_Whole.calls a0 false _ A3.out).mono ?_); rintro e w14 ⟨rfl, hb⟩; refine ⟨_, rfl, ?_⟩; have n0_ := Aside0.mk (below_step (by repeat (first | (with_reducible first | exact HB.out | apply below_alloc | apply pw_below_drewN | apply below_drew1) | exact HB.out)) hb); clear HB; have HB := n0_; clear n0_; (try clear hb); (try clear hb2); (try clear hk); (try clear hi)))
    go_ret2
    exact ⟨by first | rfl | (simp [errW_none, errW_some] <;> rfl) | (simp [*, errW_none, errW_some] <;> rfl), by repeat (first | (with_reducible first | exact HB.out | apply below_alloc | apply pw_below_drewN | apply below_drew1) | exact HB.out)⟩

end Go.Proofs.Ytjaefcinaackeaa.Q
