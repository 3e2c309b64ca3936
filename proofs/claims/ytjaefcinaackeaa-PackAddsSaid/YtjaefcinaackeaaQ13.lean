/- A function of the program or a law's row comes to what the Lean function beside it says; no condition beyond those typed. Written by a program of this workplace; Lean checks it. -/
import Derived.Test.YtjaefcinaackeaaQ0
import Derived.Test.YtjaefcinaackeaaQ10
import Derived.Test.YtjaefcinaackeaaQ12
namespace Go.Proofs.Ytjaefcinaackeaa.Q
open Go.RowKit Go.Proofs.YtjaefcinaackeaaW.PrintWords Go.Proofs.YtjaefcinaackeaaW.PrintLast Go.Proofs.YtjaefcinaackeaaW.PrintMore
attribute [local go_sem] max2_int min2_int max_two min_two max_three min_three max_four min_four   -- for this text's walks alone
set_option linter.unusedVariables false
set_option linter.unusedSimpArgs false

/-! ### plane_Norm: function 22 -/
def plane_Norm.f (a0 : (Nat × Nat)) : Option (Int × Int) := (plane_Small.f a0).bind fun t106 => (if t106 = true then ((plane_mirrored.f a0).bind fun t107 => (if cmulOk a0.1 a0.2 t107.1 t107.2 = true then (if f2iOk (cmulR a0.1 a0.2 t107.1 t107.2) = true then (some (f2i (cmulR a0.1 a0.2 t107.1 t107.2), 0)) else (none)) else (none))) else (some (0, 5)))
set_option maxHeartbeats 8000000 in
set_option maxRecDepth 100000 in
theorem plane_Norm.calls (a0 : (Nat × Nat)) (r1 : Int) (r2 : Int) (w : World) (h : plane_Norm.f a0 = some (r1, r2)) :
    Calls Try.prog 22 #[.complex .f64 a0.1 a0.2] w fun e w' => e = .returned (.tuple #[.int .i64 r1, .int .i64 r2]) ∧ Below w.heap.size w w' := by
  have hcmul23 := fun (a_ b_ c_ d_ : Nat) (W_ : World) => run_cmul (P := Try.prog) W_ 23 a_ b_ c_ d_
  have hfi2 := fun (b_ : Nat) (W_ : World) => run_f2i (P := Try.prog) W_ 22 2 b_ (by kernel_rfl) Try.underlying2
  have HB := Aside0.mk (Below.refl w.heap.size w)
  have H : ((plane_Small.f a0).bind fun t106 => (if t106 = true then ((plane_mirrored.f a0).bind fun t107 => (if cmulOk a0.1 a0.2 t107.1 t107.2 = true then (if f2iOk (cmulR a0.1 a0.2 t107.1 t107.2) = true then (some (f2i (cmulR a0.1 a0.2 t107.1 t107.2), 0)) else (none)) else (none))) else (some (0, 5)))) = some (r1, r2) := h
  clear h
  replace H := Option.bind_eq_some_iff.mp H
  obtain ⟨t106, A20, H⟩ := H
  replace H : (if t106 = true then ((plane_mirrored.f a0).bind fun t107 => (if cmulOk a0.1 a0.2 t107.1 t107.2 = true then (if f2iOk (cmulR a0.1 a0.2 t107.1 t107.2) = true then (some (f2i (cmulR a0.1 a0.2 t107.1 t107.2), 0)) else (none)) else (none))) else (some (0, 5))) = some (r1, r2) := H
  have A2 := Aside0.mk A20
  clear A20
  by_cases c3 : t106 = true
  · subst c3
    have H1 : ((plane_mirrored.f a0).bind fun t107 => (if cmulOk a0.1 a0.2 t107.1 t107.2 = true then (if f2iOk (cmulR a0.1 a0.2 t107.1 t107.2) = true then (some (f2i (cmulR a0.1 a0.2 t107.1 t107.2), 0)) else (none)) else (none))) = some (r1, r2) := by rw [if_pos rfl] at H; exact H
    clear H
    have H := H1
    clear H1
    replace H := Option.bind_eq_some_iff.mp H
    obtain ⟨t107, A40, H⟩ := H
    replace H : (if cmulOk a0.1 a0.2 t107.1 t107.2 = true then (if f2iOk (cmulR a0.1 a0.2 t107.1 t107.2) = true then (some (f2i (cmulR a0.1 a0.2 t107.1 t107.2), 0)) else (none)) else (none)) = some (r1, r2) := H
    have A4 := Aside0.mk A40
    clear A40
    by_cases c5 : cmulOk a0.1 a0.2 t107.1 t107.2 = true
    · rw [if_pos c5] at H
      have c5b0 : cmulOk a0.1 a0.2 t107.1 t107.2 = true := c5
      clear c5
      by_cases c6 : f2iOk (cmulR a0.1 a0.2 t107.1 t107.2) = true
      · rw [if_pos c6] at H
        have c6b0 : f2iOk (cmulR a0.1 a0.2 t107.1 t107.2) = true := c6
        clear c6
        simp only [Option.some.injEq, Prod.mk.injEq] at H
        obtain ⟨rfl, rfl⟩ := H
        go_enter Try.func22, Try.ntmps22
        go_wp2_with (first | ((with_reducible refine gate_callee (f := 16) rfl ?_); refine goesL_ (some 5) rfl rfl Try.func16 (by kernel_rfl) rfl #[.complex .f64 a0.1 a0.2] rfl (by (try simp only [List.map_toArray, List.map_cons, List.map_nil]); first | done | rfl | (simp only [List.length_drop, List.length_take]; rfl)) ?_; (with_reducible refine (plane_Small.calls a0 true _ A2.out).mono ?_); rintro e w7 ⟨rfl, hb⟩; refine ⟨_, rfl, ?_⟩; have n0_ := Aside0.mk (below_step (by repeat (first | (with_reducible first | exact HB.out | apply below_alloc | apply pw_below_drewN | apply below_drew1) | exact HB.out)) hb); clear HB; have HB := n0_; clear n0_; (try clear hb); (try clear hb2); (try clear hk); (try clear hi)) | ((with_reducible refine gate_callee (f := 43) rfl ?_); refine goesL_ (some 9) rfl rfl Try.func43 (by kernel_rfl) rfl #[.complex .f64 a0.1 a0.2] rfl (by (try simp only [List.map_toArray, List.map_cons, List.map_nil]); first | done | rfl | (simp only [List.length_drop, List.length_take]; rfl)) ?_; (with_reducible refine (plane_mirrored.calls a0 t107 _ A4.out).mono ?_); rintro e w8 ⟨rfl, hb⟩; refine ⟨_, rfl, ?_⟩; have n0_ := Aside0.mk (below_step (by repeat (first | (with_reducible first | exact HB.out | apply below_alloc | apply pw_below_drewN | apply below_drew1) | exact HB.out)) hb); clear HB; have HB := n0_; clear n0_; (try clear hb); (try clear hb2); (try clear hk); (try clear hi)))
        go_ret2
        exact ⟨by first | rfl | (simp [errW_none, errW_some] <;> rfl) | (simp [*, errW_none, errW_some] <;> rfl), by repeat (first | (with_reducible first | exact HB.out | apply below_alloc | apply pw_below_drewN | apply below_drew1) | exact HB.out)⟩
      · rw [if_neg c6] at H
        exact absurd H (by simp)
    · rw [if_neg c5] at H
      exact absurd H (by simp)
  · replace c3 := Bool.eq_false_iff.mpr c3
    subst c3
    have H1 : (some (0, 5)) = some (r1, r2) := by rw [if_neg (show ¬ (false = true) by decide)] at H; exact H
    clear H
    have H := H1
    clear H1
    simp only [Option.some.injEq, Prod.mk.injEq] at H
    obtain ⟨rfl, rfl⟩ := H
    go_enter Try.func22, Try.ntmps22
    go_wp2_with (first | ((with_reducible refine gate_callee (f := 16) rfl ?_); refine goesL_ (some 5) rfl rfl Try.func16 (by kernel_rfl) rfl #[.complex .f64 a0.1 a0.2] rfl (by (try simp only [List.map_toArray, List.map_cons, List.map_nil]); first | done | rfl | (simp only [List.length_drop, List.length_take]; rfl)) ?_; (with_reducible refine (plane_Small.calls a0 false _ A2.out).mono ?_); rintro e w9 ⟨rfl, hb⟩; refine ⟨_, rfl, ?_⟩; have n0_ := Aside0.mk (below_step (by repeat (first | (with_reducible first | exact HB.out | apply below_alloc | apply pw_below_drewN | apply below_drew1) | exact HB.out)) hb); clear HB; have HB := n0_; clear n0_; (try clear hb); (try clear hb2); (try clear hk); (try clear hi)))
    go_ret2
    exact ⟨by first | rfl | (simp [errW_none, errW_some] <;> rfl) | (simp [*, errW_none, errW_some] <;> rfl), by repeat (first | (with_reducible first | exact HB.out | apply below_alloc | apply pw_below_drewN | apply below_drew1) | exact HB.out)⟩

end Go.Proofs.Ytjaefcinaackeaa.Q
