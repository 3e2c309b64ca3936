/- A function of the program or a law's row comes to what the Lean function beside it says; no condition beyond those typed. Written by a program of this workplace; Lean checks it. -/
import Derived.Test.YtjaefcinaackeaaQ0
namespace Go.Proofs.Ytjaefcinaackeaa.Q
open Go.RowKit Go.Proofs.YtjaefcinaackeaaW.PrintWords Go.Proofs.YtjaefcinaackeaaW.PrintLast Go.Proofs.YtjaefcinaackeaaW.PrintMore
attribute [local go_sem] max2_int min2_int max_two min_two max_three min_three max_four min_four   -- for this text's walks alone
set_option linter.unusedVariables false
set_option linter.unusedSimpArgs false

/-! ### punnetref01_part: function 41 -/
def punnetref01_part.f (a0 : Nat) (a1 : Int) : Option (Int × Bool) := if ((FloatKind.f64.format.order a0 14064741636278059008 == some Ordering.gt) || (FloatKind.f64.format.order a0 14064741636278059008 == some Ordering.eq)) = true then (if (((FloatKind.f64.format.order a0 4841369599423283200 == some Ordering.lt) || (FloatKind.f64.format.order a0 4841369599423283200 == some Ordering.eq)) = true) then (if f2iOk a0 = true then (if (FloatKind.f64.format.order (Go.floatOfInt .f64 (f2i a0)) a0 == some Ordering.eq) = true then (if (f2i a0) ≥ (wrap64 (-a1)) then (some (f2i a0, decide ((f2i a0) ≤ a1))) else (some (f2i a0, false))) else (some (f2i a0, false))) else (none)) else (some (0, false))) else (some (0, false))
set_option maxHeartbeats 8000000 in
set_option maxRecDepth 100000 in
theorem punnetref01_part.calls (a0 : Nat) (a1 : Int) (r1 : Int) (r2 : Bool) (w : World) (h : punnetref01_part.f a0 a1 = some (r1, r2)) :
    Calls Try.prog 41 #[.float .f64 a0, .int .i64 a1] w fun e w' => e = .returned (.tuple #[.int .i64 r1, .bool r2]) ∧ Drawn0 w w' := by
  have hfi2 := fun (b_ : Nat) (W_ : World) => run_f2i (P := Try.prog) W_ 22 2 b_ (by kernel_rfl) Try.underlying2
  have hif2 := fun (q_ : IntKind) (n_ : Int) (W_ : World) => run_convert_int_float (P := Try.prog) W_ 2 22 q_ .f64 n_ (by kernel_rfl) Try.underlying22
  have H : (if ((FloatKind.f64.format.order a0 14064741636278059008 == some Ordering.gt) || (FloatKind.f64.format.order a0 14064741636278059008 == some Ordering.eq)) = true then (if (((FloatKind.f64.format.order a0 4841369599423283200 == some Ordering.lt) || (FloatKind.f64.format.order a0 4841369599423283200 == some Ordering.eq)) = true) then (if f2iOk a0 = true then (if (FloatKind.f64.format.order (Go.floatOfInt .f64 (f2i a0)) a0 == some Ordering.eq) = true then (if (f2i a0) ≥ (wrap64 (-a1)) then (some (f2i a0, decide ((f2i a0) ≤ a1))) else (some (f2i a0, false))) else (some (f2i a0, false))) else (none)) else (some (0, false))) else (some (0, false))) = some (r1, r2) := h
  clear h
  by_cases c3 : ((FloatKind.f64.format.order a0 14064741636278059008 == some Ordering.gt) || (FloatKind.f64.format.order a0 14064741636278059008 == some Ordering.eq)) = true
  · rw [if_pos c3] at H
    have c3b0 : ((FloatKind.f64.format.order a0 14064741636278059008 == some Ordering.gt) || (FloatKind.f64.format.order a0 14064741636278059008 == some Ordering.eq)) = true := c3
    clear c3
    by_cases c4 : (((FloatKind.f64.format.order a0 4841369599423283200 == some Ordering.lt) || (FloatKind.f64.format.order a0 4841369599423283200 == some Ordering.eq)) = true)
    · rw [if_pos c4] at H
      have c4b0 : ((FloatKind.f64.format.order a0 4841369599423283200 == some Ordering.lt) || (FloatKind.f64.format.order a0 4841369599423283200 == some Ordering.eq)) = true := c4
      clear c4
      by_cases c5 : f2iOk a0 = true
      · rw [if_pos c5] at H
        have c5b0 : f2iOk a0 = true := c5
        clear c5
        by_cases c6 : (FloatKind.f64.format.order (Go.floatOfInt .f64 (f2i a0)) a0 == some Ordering.eq) = true
        · rw [if_pos c6] at H
          have c6b0 : (FloatKind.f64.format.order (Go.floatOfInt .f64 (f2i a0)) a0 == some Ordering.eq) = true := c6
          (try (have c6b1 : decide (FloatKind.f64.format.order (Go.floatOfInt .f64 (f2i a0)) a0 = some Ordering.eq) = true := by simpa using c6))
          (try (have c6b2 : (FloatKind.f64.format.order (Go.floatOfInt .f64 (f2i a0)) a0 == some Ordering.eq) = true := by simpa using c6))
          clear c6
          by_cases c7 : (f2i a0) ≥ (wrap64 (-a1))
          · rw [if_pos c7] at H
            have c7b0 : decide ((wrap64 (-a1)) ≤ (f2i a0)) = true := decide_eq_true c7
            clear c7
            simp only [Option.some.injEq, Prod.mk.injEq] at H
            obtain ⟨rfl, rfl⟩ := H
            go_enter Try.func41, Try.ntmps41
            go_wp2
            go_ret2
            exact ⟨by first | rfl | (simp; done) | (simp [*]; done), by repeat (first | exact Drawn0.refl _ | apply Drawn0.step)⟩
          · rw [if_neg c7] at H
            have c7b0 : decide ((wrap64 (-a1)) ≤ (f2i a0)) = false := decide_eq_false c7
            clear c7
            simp only [Option.some.injEq, Prod.mk.injEq] at H
            obtain ⟨rfl, rfl⟩ := H
            go_enter Try.func41, Try.ntmps41
            go_wp2
            go_ret2
            exact ⟨by first | rfl | (simp; done) | (simp [*]; done), by repeat (first | exact Drawn0.refl _ | apply Drawn0.step)⟩
        · rw [if_neg c6] at H
          have c6b0 : (FloatKind.f64.format.order (Go.floatOfInt .f64 (f2i a0)) a0 == some Ordering.eq) = false := by simpa using c6
          (try (have c6b1 : decide (FloatKind.f64.format.order (Go.floatOfInt .f64 (f2i a0)) a0 = some Ordering.eq) = false := by simpa using c6))
          (try (have c6b2 : (FloatKind.f64.format.order (Go.floatOfInt .f64 (f2i a0)) a0 == some Ordering.eq) = false := by simpa using c6))
          (try (have c6b3 : ¬ (FloatKind.f64.format.order (Go.floatOfInt .f64 (f2i a0)) a0 = some Ordering.eq) := by simpa using c6))
          clear c6
          simp only [Option.some.injEq, Prod.mk.injEq] at H
          obtain ⟨rfl, rfl⟩ := H
          go_enter Try.func41, Try.ntmps41
          go_wp2
          go_ret2
          exact ⟨by first | rfl | (simp; done) | (simp [*]; done), by repeat (first | exact Drawn0.refl _ | apply Drawn0.step)⟩
      · rw [if_neg c5] at H
        exact absurd H (by simp)
    · rw [if_neg c4] at H
      have c4b0 : ((FloatKind.f64.format.order a0 4841369599423283200 == some Ordering.lt) || (FloatKind.f64.format.order a0 4841369599423283200 == some Ordering.eq)) = false := by simpa using c4
      clear c4
      simp only [Option.some.injEq, Prod.mk.injEq] at H
      obtain ⟨rfl, rfl⟩ := H
      go_enter Try.func41, Try.ntmps41
      go_wp2
      go_ret2
      exact ⟨by first | rfl | (simp; done) | (simp [*]; done), by repeat (first | exact Drawn0.refl _ | apply Drawn0.step)⟩
  · rw [if_neg c3] at H
    have c3b0 : ((FloatKind.f64.format.order a0 14064741636278059008 == some Ordering.gt) || (FloatKind.f64.format.order a0 14064741636278059008 == some Ordering.eq)) = false := by simpa using c3
    clear c3
    simp only [Option.some.injEq, Prod.mk.injEq] at H
    obtain ⟨rfl, rfl⟩ := H
    go_enter Try.func41, Try.ntmps41
    go_wp2
    go_ret2
    exact ⟨by first | rfl | (simp; done) | (simp [*]; done), by repeat (first | exact Drawn0.refl _ | apply Drawn0.step)⟩

end Go.Proofs.Ytjaefcinaackeaa.Q
