/- A function of the program or a law's row comes to what the Lean function beside it says; no condition beyond those typed. Written by a program of this workplace; Lean checks it. -/
import Derived.Test.YtjaefcinaackeaaQ0
import Derived.Test.YtjaefcinaackeaaQ10
namespace Go.Proofs.Ytjaefcinaackeaa.Q
open Go.RowKit Go.Proofs.YtjaefcinaackeaaW.PrintWords Go.Proofs.YtjaefcinaackeaaW.PrintLast Go.Proofs.YtjaefcinaackeaaW.PrintMore
attribute [local go_sem] max2_int min2_int max_two min_two max_three min_three max_four min_four   -- for this text's walks alone
set_option linter.unusedVariables false
set_option linter.unusedSimpArgs false

/-! ### plane_Times: function 21 -/
def plane_Times.f (a0 : (Nat × Nat)) (a1 : (Nat × Nat)) : Option ((Nat × Nat) × Int) := (plane_Small.f a0).bind fun t104 => (if t104 = true then ((plane_Small.f a1).bind fun t105 => (if t105 = true then (if cmulOk a0.1 a0.2 a1.1 a1.2 = true then (some ((cmulR a0.1 a0.2 a1.1 a1.2, cmulI a0.1 a0.2 a1.1 a1.2), 0)) else (none)) else (some ((0, 0), 5)))) else (some ((0, 0), 5)))
set_option maxHeartbeats 8000000 in
set_option maxRecDepth 100000 in
theorem plane_Times.calls (a0 : (Nat × Nat)) (a1 : (Nat × Nat)) (r1 : (Nat × Nat)) (r2 : Int) (w : World) (h : plane_Times.f a0 a1 = some (r1, r2)) :
    Calls Try.prog 21 #[.complex .f64 a0.1 a0.2, .complex .f64 a1.1 a1.2] w fun e w' => e = .returned (.tuple #[.complex .f64 r1.1 r1.2, .int .i64 r2]) ∧ Below w.heap.size w w' := by
  have hcmul23 := fun (a_ b_ c_ d_ : Nat) (W_ : World) => run_cmul (P := Try.prog) W_ 23 a_ b_ c_ d_
  have HB := Aside0.mk (Below.refl w.heap.size w)
  have H : ((plane_Small.f a0).bind fun t104 => (if t104 = true then ((plane_Small.f a1).bind fun t105 => (if t105 = true then (if cmulOk a0.1 a0.2 a1.1 a1.2 = true then (some ((cmulR a0.1 a0.2 a1.1 a1.2, cmulI a0.1 a0.2 a1.1 a1.2), 0)) else (none)) else (some ((0, 0), 5)))) else (some ((0, 0), 5)))) = some (r1, r2) := h
  clear h
  replace H := Option.bind_eq_some_iff.mp H
  obtain ⟨t104, A30, H⟩ := H
  replace H : (if t104 = true then ((plane_Small.f a1).bind fun t105 => (if t105 = true then (if cmulOk a0.1 a0.2 a1.1 a1.2 = true then (some ((cmulR a0.1 a0.2 a1.1 a1.2, cmulI a0.1 a0.2 a1.1 a1.2), 0)) else (none)) else (some ((0, 0), 5)))) else (some ((0, 0), 5))) = some (r1, r2) := H
  have A3 := Aside0.mk A30
  clear A30
  by_cases c4 : t104 = true
  · subst c4
    have H1 : ((plane_Small.f a1).bind fun t105 => (if t105 = true then (if cmulOk a0.1 a0.2 a1.1 a1.2 = true then (some ((cmulR a0.1 a0.2 a1.1 a1.2, cmulI a0.1 a0.2 a1.1 a1.2), 0)) else (none)) else (some ((0, 0), 5)))) = some (r1, r2) := by rw [if_pos rfl] at H; exact H
    clear H
    have H := H1
    clear H1
    replace H := Option.bind_eq_some_iff.mp H
    obtain ⟨t105, A50, H⟩ := H
    replace H : (if t105 = true then (if cmulOk a0.1 a0.2 a1.1 a1.2 = true then (some ((cmulR a0.1 a0.2 a1.1 a1.2, cmulI a0.1 a0.2 a1.1 a1.2), 0)) else (none)) else (some ((0, 0), 5))) = some (r1, r2) := H
    have A5 := Aside0.mk A50
    clear A50
    by_cases c6 : t105 = true
    · subst c6
      have H1 : (if cmulOk a0.1 a0.2 a1.1 a1.2 = true then (some ((cmulR a0.1 a0.2 a1.1 a1.2, cmulI a0.1 a0.2 a1.1 a1.2), 0)) else (none)) = some (r1, r2) := by rw [if_pos rfl] at H; exact H
      clear H
      have H := H1
      clear H1
      by_cases c7 : cmulOk a0.1 a0.2 a1.1 a1.2 = true
      · rw [if_pos c7] at H
        have c7b0 : cmulOk a0.1 a0.2 a1.1 a1.2 = true := c7
        clear c7
        simp only [Option.some.injEq, Prod.mk.injEq] at H
        obtain ⟨rfl, rfl⟩ := H
        go_enter Try.func21, Try.ntmps21
        go_wp2_with (first | ((with_reducible refine gate_callee (f := 16) rfl ?_); refine goesL_ (some 7) rfl rfl Try.func16 (by kernel_rfl) rfl #[.complex .f64 a0.1 a0.2] rfl (by (try simp only [List.map_toArray, List.map_cons, List.map_nil]); first | done | rfl | (simp only [List.length_drop, List.length_take]; rfl)) ?_; (with_reducible refine (plane_Small.calls a0 true _ A3.out).mono ?_); rintro e w8 ⟨rfl, hb⟩; refine ⟨_, rfl, ?_⟩; have n0_ := Aside0.mk (below_step (by repeat (first | (with_reducible first | exact HB.out | apply below_alloc | apply pw_below_drewN | apply below_drew1) | exact HB.out)) hb); clear HB; have HB := n0_; clear n0_; (try clear hb); (try clear hb2); (try clear hk); (try clear hi)) | (go_at_call 16; (with_reducible refine (plane_Small.calls a1 true _ A5.out).mono ?_); rintro e w9 ⟨rfl, hb⟩; have n0_ := Aside0.mk (below_step (by repeat (first | (with_reducible first | exact HB.out | apply below_alloc | apply pw_below_drewN | apply below_drew1) | exact HB.out)) hb); clear HB; have HB := n0_; clear n0_; (try clear hb); (try clear hb2); (try clear hk); (try clear hi)))
        go_ret2
        exact ⟨by first | rfl | (simp [errW_none, errW_some] <;> rfl) | (simp [*, errW_none, errW_some] <;> rfl), by repeat (first | (with_reducible first | exact HB.out | apply below_alloc | apply pw_below_drewN | apply below_drew1) | exact HB.out)⟩
      · rw [if_neg c7] at H
        exact absurd H (by simp)
    · replace c6 := Bool.eq_false_iff.mpr c6
      subst c6
      have H1 : (some ((0, 0), 5)) = some (r1, r2) := by rw [if_neg (show ¬ (false = true) by decide)] at H; exact H
      clear H
      have H := H1
      clear H1
      simp only [Option.some.injEq, Prod.mk.injEq] at H
      obtain ⟨rfl, rfl⟩ := H
      go_enter Try.func21, Try.ntmps21
      go_wp2_with (first | ((with_reducible refine gate_callee (f := 16) rfl ?_); refine goesL_ (some 7) rfl rfl Try.func16 (by kernel_rfl) rfl #[.complex .f64 a0.1 a0.2] rfl (by (try simp only [List.map_toArray, List.map_cons, List.map_nil]); first | done | rfl | (simp only [List.length_drop, List.length_take]; rfl)) ?_; (with_reducible refine (plane_Small.calls a0 true _ A3.out).mono ?_); rintro e w10 ⟨rfl, hb⟩; refine ⟨_, rfl, ?_⟩; have n0_ := Aside0.mk (below_step (by repeat (first | (with_reducible first | exact HB.out | apply below_alloc | apply pw_below_drewN | apply below_drew1) | exact HB.out)) hb); clear HB; have HB := n0_; clear n0_; (try clear hb); (try clear hb2); (try clear hk); (try clear hi)) | (go_at_call 16; (with_reducible refine (plane_Small.calls a1 false _ A5.out).mono ?_); rintro e w11 ⟨rfl, hb⟩; have n0_ := Aside0.mk (below_step (by repeat (first | (with_reducible first | exact HB.out | apply below_alloc | apply pw_below_drewN | apply below_drew1) | exact HB.out)) hb); clear HB; have HB := n0_; clear n0_; (try clear hb); (try clear hb2); (try clear hk); (try clear hi)))
      go_ret2
      exact ⟨by first | rfl | (simp [errW_none, errW_some] <;> rfl) | (simp [*, errW_none, errW_some] <;> rfl), by repeat (first | (with_reducible first | exact HB.out | apply below_alloc | apply pw_below_drewN | apply below_drew1) | exact HB.out)⟩
  · replace c4 := Bool.eq_false_iff.mpr c4
    subst c4
    have H1 : (some ((0, 0), 5)) = some (r1, r2) := by rw [if_neg (show ¬ (false = true) by decide)] at H; exact H
    clear H
    have H := H1
    clear H1
    simp only [Option.some.injEq, Prod.mk.injEq] at H
    obtain ⟨rfl, rfl⟩ := H
    go_enter Try.func21, Try.ntmps21
    go_wp2_with (first | ((with_reducible refine gate_callee (f := 16) rfl ?_); refine goesL_ (some 7) rfl rfl Try.func16 (by kernel_rfl) rfl #[.complex .f64 a0.1 a0.2] rfl (by (try simp only [List.map_toArray, List.map_cons, List.map_nil]); first | done | rfl | (simp only [List.length_drop, List.length_take]; rfl)) ?_; (with_reducible refine (plane_Small.calls a0 false _ A3.out).mono ?_); rintro e w12 ⟨rfl, hb⟩; refine ⟨_, rfl, ?_⟩; have n0_ := Aside0.mk (below_step (by repeat (first | (with_reducible first | exact HB.out | apply below_alloc | apply pw_below_drewN | apply below_drew1) | exact HB.out)) hb); clear HB; have HB := n0_; clear n0_; (try clear hb); (try clear hb2); (try clear hk); (try clear hi)))
    go_ret2
    exact ⟨by first | rfl | (simp [errW_none, errW_some] <;> rfl) | (simp [*, errW_none, errW_some] <;> rfl), by repeat (first | (with_reducible first | exact HB.out | apply below_alloc | apply pw_below_drewN | apply below_drew1) | exact HB.out)⟩

end Go.Proofs.Ytjaefcinaackeaa.Q
