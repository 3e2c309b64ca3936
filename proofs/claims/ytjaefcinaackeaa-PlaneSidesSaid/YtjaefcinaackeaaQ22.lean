/- A function of the program or a law's row comes to what the Lean function beside it says; no condition beyond those typed. Written by a program of this workplace; Lean checks it. -/
import Derived.Test.YtjaefcinaackeaaQ0
import Derived.Test.YtjaefcinaackeaaQ17
namespace Go.Proofs.Ytjaefcinaackeaa.Q
open Go.RowKit Go.Proofs.YtjaefcinaackeaaW.PrintWords Go.Proofs.YtjaefcinaackeaaW.PrintLast Go.Proofs.YtjaefcinaackeaaW.PrintMore
attribute [local go_sem] max2_int min2_int max_two min_two max_three min_three max_four min_four   -- for this text's walks alone
set_option linter.unusedVariables false
set_option linter.unusedSimpArgs false

/-! ### plane_Turn: function 19 -/
def plane_Turn.f (a0 : (Nat × Nat)) (a1 : Int) : Option ((Nat × Nat) × Int) := (plane_Whole.f a0).bind fun t136 => (if t136 = true then (if (Go.bits .and .i64 a1 3) = 1 then (some ((Go.Op.negFloat .f64 a0.2, a0.1), 0)) else (if (Go.bits .and .i64 a1 3) = 2 then (some ((Go.Op.negFloat .f64 a0.1, Go.Op.negFloat .f64 a0.2), 0)) else (if (Go.bits .and .i64 a1 3) = 3 then (some ((a0.2, Go.Op.negFloat .f64 a0.1), 0)) else (some (a0, 0))))) else (some ((0, 0), 5)))
set_option maxHeartbeats 8000000 in
set_option maxRecDepth 100000 in
theorem plane_Turn.calls (a0 : (Nat × Nat)) (a1 : Int) (r1 : (Nat × Nat)) (r2 : Int) (w : World) (h : plane_Turn.f a0 a1 = some (r1, r2)) :
    Calls Try.prog 19 #[.complex .f64 a0.1 a0.2, .int .i64 a1] w fun e w' => e = .returned (.tuple #[.complex .f64 r1.1 r1.2, .int .i64 r2]) ∧ Below w.heap.size w w' := by
  have hngf : ∀ (b_ : Nat) (W_ : World), (Go.Op.unary UnOp.neg (Value.float .f64 b_)).run Try.prog W_ = .ok (.float .f64 (Go.Op.negFloat .f64 b_)) W_ := fun _ _ => rfl
  have hngc : ∀ (a_ b_ : Nat) (W_ : World), (Go.Op.unary UnOp.neg (Value.complex .f64 a_ b_)).run Try.prog W_ = .ok (.complex .f64 (Go.Op.negFloat .f64 a_) (Go.Op.negFloat .f64 b_)) W_ := fun _ _ _ => rfl
  have HB := Aside0.mk (Below.refl w.heap.size w)
  have H : ((plane_Whole.f a0).bind fun t136 => (if t136 = true then (if (Go.bits .and .i64 a1 3) = 1 then (some ((Go.Op.negFloat .f64 a0.2, a0.1), 0)) else (if (Go.bits .and .i64 a1 3) = 2 then (some ((Go.Op.negFloat .f64 a0.1, Go.Op.negFloat .f64 a0.2), 0)) else (if (Go.bits .and .i64 a1 3) = 3 then (some ((a0.2, Go.Op.negFloat .f64 a0.1), 0)) else (some (a0, 0))))) else (some ((0, 0), 5)))) = some (r1, r2) := h
  clear h
  replace H := Option.bind_eq_some_iff.mp H
  obtain ⟨t136, A30, H⟩ := H
  replace H : (if t136 = true then (if (Go.bits .and .i64 a1 3) = 1 then (some ((Go.Op.negFloat .f64 a0.2, a0.1), 0)) else (if (Go.bits .and .i64 a1 3) = 2 then (some ((Go.Op.negFloat .f64 a0.1, Go.Op.negFloat .f64 a0.2), 0)) else (if (Go.bits .and .i64 a1 3) = 3 then (some ((a0.2, Go.Op.negFloat .f64 a0.1), 0)) else (some (a0, 0))))) else (some ((0, 0), 5))) = some (r1, r2) := H
  have A3 := Aside0.mk A30
  clear A30
  by_cases c4 : t136 = true
  · subst c4
    have H1 : (if (Go.bits .and .i64 a1 3) = 1 then (some ((Go.Op.negFloat .f64 a0.2, a0.1), 0)) else (if (Go.bits .and .i64 a1 3) = 2 then (some ((Go.Op.negFloat .f64 a0.1, Go.Op.negFloat .f64 a0.2), 0)) else (if (Go.bits .and .i64 a1 3) = 3 then (some ((a0.2, Go.Op.negFloat .f64 a0.1), 0)) else (some (a0, 0))))) = some (r1, r2) := by rw [if_pos rfl] at H; exact H
    clear H
    have H := H1
    clear H1
    by_cases c5 : (Go.bits .and .i64 a1 3) = 1
    · rw [if_pos c5] at H
      have c5b0 : ((Go.bits .and .i64 a1 3) == 1) = true := beq_iff_eq.mpr c5
      have c5b1 : ((Go.bits .and .i64 a1 3) != 1) = false := bne_eq_false_iff_eq.mpr c5
      clear c5
      simp only [Option.some.injEq, Prod.mk.injEq] at H
      obtain ⟨rfl, rfl⟩ := H
      go_enter Try.func19, Try.ntmps19
      go_wp2_with (first | ((with_reducible refine gate_callee (f := 15) rfl ?_); refine goesL_ (some 7) rfl rfl Try.func15 (by kernel_rfl) rfl #[.complex .f64 a0.1 a0.2] rfl (by (try simp only [List.map_toArray, List.map_cons, List.map_nil]); first | done | rfl | (simp only [List.length_drop, List.length_take]; rfl)) ?_; (with_reducible refine (plane_Whole.calls a0 true _ A3.out).mono ?_); rintro e w6 ⟨rfl, hb⟩; refine ⟨_, rfl, ?_⟩; have n0_ := Aside0.mk (below_step (by repeat (first | (with_reducible first | exact HB.out | apply below_alloc | apply pw_below_drewN | apply below_drew1) | exact HB.out)) hb); clear HB; have HB := n0_; clear n0_; (try clear hb); (try clear hb2); (try clear hk); (try clear hi)))
      go_ret2
      exact ⟨by first | rfl | (simp [errW_none, errW_some] <;> rfl) | (simp [*, errW_none, errW_some] <;> rfl), by repeat (first | (with_reducible first | exact HB.out | apply below_alloc | apply pw_below_drewN | apply below_drew1) | exact HB.out)⟩
    · rw [if_neg c5] at H
      have c5b0 : ((Go.bits .and .i64 a1 3) == 1) = false := beq_eq_false_iff_ne.mpr c5
      have c5b1 : ((Go.bits .and .i64 a1 3) != 1) = true := bne_iff_ne.mpr c5
      by_cases c7 : (Go.bits .and .i64 a1 3) = 2
      · rw [if_pos c7] at H
        have c7b0 : ((Go.bits .and .i64 a1 3) == 2) = true := beq_iff_eq.mpr c7
        have c7b1 : ((Go.bits .and .i64 a1 3) != 2) = false := bne_eq_false_iff_eq.mpr c7
        clear c7
        simp only [Option.some.injEq, Prod.mk.injEq] at H
        obtain ⟨rfl, rfl⟩ := H
        go_enter Try.func19, Try.ntmps19
        go_wp2_with (first | ((with_reducible refine gate_callee (f := 15) rfl ?_); refine goesL_ (some 7) rfl rfl Try.func15 (by kernel_rfl) rfl #[.complex .f64 a0.1 a0.2] rfl (by (try simp only [List.map_toArray, List.map_cons, List.map_nil]); first | done | rfl | (simp only [List.length_drop, List.length_take]; rfl)) ?_; (with_reducible refine (plane_Whole.calls a0 true _ A3.out).mono ?_); rintro e w8 ⟨rfl, hb⟩; refine ⟨_, rfl, ?_⟩; have n0_ := Aside0.mk (below_step (by repeat (first | (with_reducible first | exact HB.out | apply below_alloc | apply pw_below_drewN | apply below_drew1) | exact HB.out)) hb); clear HB; have HB := n0_; clear n0_; (try clear hb); (try clear hb2); (try clear hk); (try clear hi)))
        go_ret2
        exact ⟨by first | rfl | (simp [errW_none, errW_some] <;> rfl) | (simp [*, errW_none, errW_some] <;> rfl), by repeat (first | (with_reducible first | exact HB.out | apply below_alloc | apply pw_below_drewN | apply below_drew1) | exact HB.out)⟩
      · rw [if_neg c7] at H
        have c7b0 : ((Go.bits .and .i64 a1 3) == 2) = false := beq_eq_false_iff_ne.mpr c7
        have c7b1 : ((Go.bits .and .i64 a1 3) != 2) = true := bne_iff_ne.mpr c7
        by_cases c9 : (Go.bits .and .i64 a1 3) = 3
        · rw [if_pos c9] at H
          have c9b0 : ((Go.bits .and .i64 a1 3) == 3) = true := beq_iff_eq.mpr c9
          have c9b1 : ((Go.bits .and .i64 a1 3) != 3) = false := bne_eq_false_iff_eq.mpr c9
          clear c9
          simp only [Option.some.injEq, Prod.mk.injEq] at H
          obtain ⟨rfl, rfl⟩ := H
          go_enter Try.func19, Try.ntmps19
          go_wp2_with (first | ((with_reducible refine gate_callee (f := 15) rfl ?_); refine goesL_ (some 7) rfl rfl Try.func15 (by kernel_rfl) rfl #[.complex .f64 a0.1 a0.2] rfl (by (try simp only [List.map_toArray, List.map_cons, List.map_nil]); first | done | rfl | (simp only [List.length_drop, List.length_take]; rfl)) ?_; (with_reducible refine (plane_Whole.calls a0 true _ A3.out).mono ?_); rintro e w10 ⟨rfl, hb⟩; refine ⟨_, rfl, ?_⟩; have n0_ := Aside0.mk (below_step (by repeat (first | (with_reducible first | exact HB.out | apply below_alloc | apply pw_below_drewN | apply below_drew1) | exact HB.out)) hb); clear HB; have HB := n0_; clear n0_; (try clear hb); (try clear hb2); (try clear hk); (try clear hi)))
          go_ret2
          exact ⟨by first | rfl | (simp [errW_none, errW_some] <;> rfl) | (simp [*, errW_none, errW_some] <;> rfl), by repeat (first | (with_reducible first | exact HB.out | apply below_alloc | apply pw_below_drewN | apply below_drew1) | exact HB.out)⟩
        · rw [if_neg c9] at H
          have c9b0 : ((Go.bits .and .i64 a1 3) == 3) = false := beq_eq_false_iff_ne.mpr c9
          have c9b1 : ((Go.bits .and .i64 a1 3) != 3) = true := bne_iff_ne.mpr c9
          simp only [Option.some.injEq, Prod.mk.injEq] at H
          obtain ⟨rfl, rfl⟩ := H
          go_enter Try.func19, Try.ntmps19
          go_wp2_with (first | ((with_reducible refine gate_callee (f := 15) rfl ?_); refine goesL_ (some 7) rfl rfl Try.func15 (by kernel_rfl) rfl #[.complex .f64 a0.1 a0.2] rfl (by (try simp only [List.map_toArray, List.map_cons, List.map_nil]); first | done | rfl | (simp only [List.length_drop, List.length_take]; rfl)) ?_; (with_reducible refine (plane_Whole.calls a0 true _ A3.out).mono ?_); rintro e w11 ⟨rfl, hb⟩; refine ⟨_, rfl, ?_⟩; have n0_ := Aside0.mk (below_step (by repeat (first | (with_reducible first | exact HB.out | apply below_alloc | apply pw_below_drewN | apply below_drew1) | exact HB.out)) hb); clear HB; have HB := n0_; clear n0_; (try clear hb); (try clear hb2); (try clear hk); (try clear hi)))
          go_ret2
          exact ⟨by first | rfl | (simp [errW_none, errW_some] <;> rfl) | (simp [*, errW_none, errW_some] <;> rfl), by repeat (first | (with_reducible first | exact HB.out | apply below_alloc | apply pw_below_drewN | apply below_drew1) | exact HB.out)⟩
  · replace c4 := Bool.eq_false_iff.mpr c4
    subst c4
    have H1 : (some ((0, 0), 5)) = some (r1, r2) := by rw [if_neg (show ¬ (false = true) by decide)] at H; exact H
    clear H
    have H := H1
    clear H1
    simp only [Option.some.injEq, Prod.mk.injEq] at H
    obtain ⟨rfl, rfl⟩ := H
    go_enter Try.func19, Try.ntmps19
    go_wp2_with (first | ((with_reducible refine gate_callee (f := 15) rfl ?_); refine goesL_ (some 7) rfl rfl Try.func15 (by kernel_rfl) rfl #[.complex .f64 a0.1 a0.2] rfl (by (try simp only [List.map_toArray, List.map_cons, List.map_nil]); first | done | rfl | (simp only [List.length_drop, List.length_take]; rfl)) ?_; (with_reducible refine (plane_Whole.calls a0 false _ A3.out).mono ?_); rintro e w12 ⟨rfl, hb⟩; refine ⟨_, rfl, ?_⟩; have n0_ := Aside0.mk (below_step (by repeat (first | (with_reducible first | exact HB.out | apply below_alloc | apply pw_below_drewN | apply below_drew1) | exact HB.out)) hb); clear HB; have HB := n0_; clear n0_; (try clear hb); (try clear hb2); (try clear hk); (try clear hi)))
    go_ret2
    exact ⟨by first | rfl | (simp [errW_none, errW_some] <;> rfl) | (simp [*, errW_none, errW_some] <;> rfl), by repeat (first | (with_reducible first | exact HB.out | apply below_alloc | apply pw_below_drewN | apply below_drew1) | exact HB.out)⟩

end Go.Proofs.Ytjaefcinaackeaa.Q
