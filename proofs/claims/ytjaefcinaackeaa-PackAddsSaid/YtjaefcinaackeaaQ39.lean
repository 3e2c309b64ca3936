/- A function of the program or a law's row comes to what the Lean function beside it says; no condition beyond those typed. Written by a program of this workplace; Lean checks it. -/
import Derived.Test.YtjaefcinaackeaaQ0
import Derived.Test.YtjaefcinaackeaaQ36
import Derived.Test.YtjaefcinaackeaaQ37
namespace Go.Proofs.Ytjaefcinaackeaa.Q
open Go.RowKit Go.Proofs.YtjaefcinaackeaaW.PrintWords Go.Proofs.YtjaefcinaackeaaW.PrintLast Go.Proofs.YtjaefcinaackeaaW.PrintMore
attribute [local go_sem] max2_int min2_int max_two min_two max_three min_three max_four min_four   -- for this text's walks alone
set_option linter.unusedVariables false
set_option linter.unusedSimpArgs false

/-! ### pack_Part: function 37 -/
def pack_Part.f (a0 : Int) (a1 : Int) : Option ((Nat × Nat) × Int) := (pack_Factor.f a1).bind fun t237 => (if t237 = true then ((pack_far.f a0).bind fun t238 => (if t238 = true then (some ((0, 0), 3)) else (if a1 = 0 then (none) else (if (Int.tmod a0 a1) < 0 then (some ((Go.floatOfInt .f64 (wrap64 ((Int.tmod a0 a1) + a1)), Go.floatOfInt .f64 (wrap64 (Int.tdiv (wrap64 (a0 - (wrap64 ((Int.tmod a0 a1) + a1)))) a1))), 0)) else (some ((Go.floatOfInt .f64 (Int.tmod a0 a1), Go.floatOfInt .f64 (wrap64 (Int.tdiv (wrap64 (a0 - (Int.tmod a0 a1))) a1))), 0)))))) else (some ((0, 0), 2)))
set_option maxHeartbeats 8000000 in
set_option maxRecDepth 100000 in
theorem pack_Part.calls (a0 : Int) (a1 : Int) (r1 : (Nat × Nat)) (r2 : Int) (w : World) (h : pack_Part.f a0 a1 = some (r1, r2)) :
    Calls Try.prog 37 #[.int .i64 a0, .int .i64 a1] w fun e w' => e = .returned (.tuple #[.complex .f64 r1.1 r1.2, .int .i64 r2]) ∧ Below w.heap.size w w' := by
  have hif2 := fun (q_ : IntKind) (n_ : Int) (W_ : World) => run_convert_int_float (P := Try.prog) W_ 2 22 q_ .f64 n_ (by kernel_rfl) Try.underlying22
  have HB := Aside0.mk (Below.refl w.heap.size w)
  have H : ((pack_Factor.f a1).bind fun t237 => (if t237 = true then ((pack_far.f a0).bind fun t238 => (if t238 = true then (some ((0, 0), 3)) else (if a1 = 0 then (none) else (if (Int.tmod a0 a1) < 0 then (some ((Go.floatOfInt .f64 (wrap64 ((Int.tmod a0 a1) + a1)), Go.floatOfInt .f64 (wrap64 (Int.tdiv (wrap64 (a0 - (wrap64 ((Int.tmod a0 a1) + a1)))) a1))), 0)) else (some ((Go.floatOfInt .f64 (Int.tmod a0 a1), Go.floatOfInt .f64 (wrap64 (Int.tdiv (wrap64 (a0 - (Int.tmod a0 a1))) a1))), 0)))))) else (some ((0, 0), 2)))) = some (r1, r2) := h
  clear h
  replace H := Option.bind_eq_some_iff.mp H
  obtain ⟨t237, A30, H⟩ := H
  replace H : (if t237 = true then ((pack_far.f a0).bind fun t238 => (if t238 = true then (some ((0, 0), 3)) else (if a1 = 0 then (none) else (if (Int.tmod a0 a1) < 0 then (some ((Go.floatOfInt .f64 (wrap64 ((Int.tmod a0 a1) + a1)), Go.floatOfInt .f64 (wrap64 (Int.tdiv (wrap64 (a0 - (wrap64 ((Int.tmod a0 a1) + a1)))) a1))), 0)) else (some ((Go.floatOfInt .f64 (Int.tmod a0 a1), Go.floatOfInt .f64 (wrap64 (Int.tdiv (wrap64 (a0 - (Int.tmod a0 a1))) a1))), 0)))))) else (some ((0, 0), 2))) = some (r1, r2) := H
  have A3 := Aside0.mk A30
  clear A30
  by_cases c4 : t237 = true
  · subst c4
    have H1 : ((pack_far.f a0).bind fun t238 => (if t238 = true then (some ((0, 0), 3)) else (if a1 = 0 then (none) else (if (Int.tmod a0 a1) < 0 then (some ((Go.floatOfInt .f64 (wrap64 ((Int.tmod a0 a1) + a1)), Go.floatOfInt .f64 (wrap64 (Int.tdiv (wrap64 (a0 - (wrap64 ((Int.tmod a0 a1) + a1)))) a1))), 0)) else (some ((Go.floatOfInt .f64 (Int.tmod a0 a1), Go.floatOfInt .f64 (wrap64 (Int.tdiv (wrap64 (a0 - (Int.tmod a0 a1))) a1))), 0)))))) = some (r1, r2) := by rw [if_pos rfl] at H; exact H
    clear H
    have H := H1
    clear H1
    replace H := Option.bind_eq_some_iff.mp H
    obtain ⟨t238, A50, H⟩ := H
    replace H : (if t238 = true then (some ((0, 0), 3)) else (if a1 = 0 then (none) else (if (Int.tmod a0 a1) < 0 then (some ((Go.floatOfInt .f64 (wrap64 ((Int.tmod a0 a1) + a1)), Go.floatOfInt .f64 (wrap64 (Int.tdiv (wrap64 (a0 - (wrap64 ((Int.tmod a0 a1) + a1)))) a1))), 0)) else (some ((Go.floatOfInt .f64 (Int.tmod a0 a1), Go.floatOfInt .f64 (wrap64 (Int.tdiv (wrap64 (a0 - (Int.tmod a0 a1))) a1))), 0))))) = some (r1, r2) := H
    have A5 := Aside0.mk A50
    clear A50
    by_cases c6 : t238 = true
    · subst c6
      have H1 : (some ((0, 0), 3)) = some (r1, r2) := by rw [if_pos rfl] at H; exact H
      clear H
      have H := H1
      clear H1
      simp only [Option.some.injEq, Prod.mk.injEq] at H
      obtain ⟨rfl, rfl⟩ := H
      go_enter Try.func37, Try.ntmps37
      go_wp2_with (first | ((with_reducible refine gate_callee (f := 33) rfl ?_); refine goesL_ (some 9) rfl rfl Try.func33 (by kernel_rfl) rfl #[.int .i64 a1] rfl (by (try simp only [List.map_toArray, List.map_cons, List.map_nil]); first | done | rfl | (simp only [List.length_drop, List.length_take]; rfl)) ?_; (with_reducible refine (pack_Factor.calls a1 true _ A3.out).mono ?_); rintro e w' ⟨rfl, ⟨nd, rfl⟩⟩; refine ⟨_, rfl, ?_⟩) | ((with_reducible refine gate_callee (f := 45) rfl ?_); refine goesL_ (some 13) rfl rfl Try.func45 (by kernel_rfl) rfl #[.int .i64 a0] rfl (by (try simp only [List.map_toArray, List.map_cons, List.map_nil]); first | done | rfl | (simp only [List.length_drop, List.length_take]; rfl)) ?_; (with_reducible refine (pack_far.calls a0 true _ A5.out).mono ?_); rintro e w' ⟨rfl, ⟨nd, rfl⟩⟩; refine ⟨_, rfl, ?_⟩))
      go_ret2
      exact ⟨by first | rfl | (simp [errW_none, errW_some] <;> rfl) | (simp [*, errW_none, errW_some] <;> rfl), by repeat (first | (with_reducible first | exact HB.out | apply below_alloc | apply pw_below_drewN | apply below_drew1) | exact HB.out)⟩
    · replace c6 := Bool.eq_false_iff.mpr c6
      subst c6
      have H1 : (if a1 = 0 then (none) else (if (Int.tmod a0 a1) < 0 then (some ((Go.floatOfInt .f64 (wrap64 ((Int.tmod a0 a1) + a1)), Go.floatOfInt .f64 (wrap64 (Int.tdiv (wrap64 (a0 - (wrap64 ((Int.tmod a0 a1) + a1)))) a1))), 0)) else (some ((Go.floatOfInt .f64 (Int.tmod a0 a1), Go.floatOfInt .f64 (wrap64 (Int.tdiv (wrap64 (a0 - (Int.tmod a0 a1))) a1))), 0)))) = some (r1, r2) := by rw [if_neg (show ¬ (false = true) by decide)] at H; exact H
      clear H
      have H := H1
      clear H1
      by_cases c7 : a1 = 0
      · rw [if_pos c7] at H
        exact absurd H (by simp)
      · rw [if_neg c7] at H
        have c7b0 : (a1 == 0) = false := beq_eq_false_iff_ne.mpr c7
        have c7b1 : (a1 != 0) = true := bne_iff_ne.mpr c7
        by_cases c8 : (Int.tmod a0 a1) < 0
        · rw [if_pos c8] at H
          have c8b0 : decide ((Int.tmod a0 a1) < 0) = true := decide_eq_true c8
          clear c8
          simp only [Option.some.injEq, Prod.mk.injEq] at H
          obtain ⟨rfl, rfl⟩ := H
          go_enter Try.func37, Try.ntmps37
          go_wp2_with (first | ((with_reducible refine gate_callee (f := 33) rfl ?_); refine goesL_ (some 9) rfl rfl Try.func33 (by kernel_rfl) rfl #[.int .i64 a1] rfl (by (try simp only [List.map_toArray, List.map_cons, List.map_nil]); first | done | rfl | (simp only [List.length_drop, List.length_take]; rfl)) ?_; (with_reducible refine (pack_Factor.calls a1 true _ A3.out).mono ?_); rintro e w' ⟨rfl, ⟨nd, rfl⟩⟩; refine ⟨_, rfl, ?_⟩) | ((with_reducible refine gate_callee (f := 45) rfl ?_); refine goesL_ (some 13) rfl rfl Try.func45 (by kernel_rfl) rfl #[.int .i64 a0] rfl (by (try simp only [List.map_toArray, List.map_cons, List.map_nil]); first | done | rfl | (simp only [List.length_drop, List.length_take]; rfl)) ?_; (with_reducible refine (pack_far.calls a0 false _ A5.out).mono ?_); rintro e w' ⟨rfl, ⟨nd, rfl⟩⟩; refine ⟨_, rfl, ?_⟩))
          go_ret2
          exact ⟨by first | rfl | (simp [errW_none, errW_some] <;> rfl) | (simp [*, errW_none, errW_some] <;> rfl), by repeat (first | (with_reducible first | exact HB.out | apply below_alloc | apply pw_below_drewN | apply below_drew1) | exact HB.out)⟩
        · rw [if_neg c8] at H
          have c8b0 : decide ((Int.tmod a0 a1) < 0) = false := decide_eq_false c8
          clear c8
          simp only [Option.some.injEq, Prod.mk.injEq] at H
          obtain ⟨rfl, rfl⟩ := H
          go_enter Try.func37, Try.ntmps37
          go_wp2_with (first | ((with_reducible refine gate_callee (f := 33) rfl ?_); refine goesL_ (some 9) rfl rfl Try.func33 (by kernel_rfl) rfl #[.int .i64 a1] rfl (by (try simp only [List.map_toArray, List.map_cons, List.map_nil]); first | done | rfl | (simp only [List.length_drop, List.length_take]; rfl)) ?_; (with_reducible refine (pack_Factor.calls a1 true _ A3.out).mono ?_); rintro e w' ⟨rfl, ⟨nd, rfl⟩⟩; refine ⟨_, rfl, ?_⟩) | ((with_reducible refine gate_callee (f := 45) rfl ?_); refine goesL_ (some 13) rfl rfl Try.func45 (by kernel_rfl) rfl #[.int .i64 a0] rfl (by (try simp only [List.map_toArray, List.map_cons, List.map_nil]); first | done | rfl | (simp only [List.length_drop, List.length_take]; rfl)) ?_; (with_reducible refine (pack_far.calls a0 false _ A5.out).mono ?_); rintro e w' ⟨rfl, ⟨nd, rfl⟩⟩; refine ⟨_, rfl, ?_⟩))
          go_ret2
          exact ⟨by first | rfl | (simp [errW_none, errW_some] <;> rfl) | (simp [*, errW_none, errW_some] <;> rfl), by repeat (first | (with_reducible first | exact HB.out | apply below_alloc | apply pw_below_drewN | apply below_drew1) | exact HB.out)⟩
  · replace c4 := Bool.eq_false_iff.mpr c4
    subst c4
    have H1 : (some ((0, 0), 2)) = some (r1, r2) := by rw [if_neg (show ¬ (false = true) by decide)] at H; exact H
    clear H
    have H := H1
    clear H1
    simp only [Option.some.injEq, Prod.mk.injEq] at H
    obtain ⟨rfl, rfl⟩ := H
    go_enter Try.func37, Try.ntmps37
    go_wp2_with (first | ((with_reducible refine gate_callee (f := 33) rfl ?_); refine goesL_ (some 9) rfl rfl Try.func33 (by kernel_rfl) rfl #[.int .i64 a1] rfl (by (try simp only [List.map_toArray, List.map_cons, List.map_nil]); first | done | rfl | (simp only [List.length_drop, List.length_take]; rfl)) ?_; (with_reducible refine (pack_Factor.calls a1 false _ A3.out).mono ?_); rintro e w' ⟨rfl, ⟨nd, rfl⟩⟩; refine ⟨_, rfl, ?_⟩))
    go_ret2
    exact ⟨by first | rfl | (simp [errW_none, errW_some] <;> rfl) | (simp [*, errW_none, errW_some] <;> rfl), by repeat (first | (with_reducible first | exact HB.out | apply below_alloc | apply pw_below_drewN | apply below_drew1) | exact HB.out)⟩

end Go.Proofs.Ytjaefcinaackeaa.Q
