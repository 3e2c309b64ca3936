/- A function of the program or a law's row comes to what the Lean function beside it says; no condition beyond those typed. Written by a program of this workplace; Lean checks it. -/
import Derived.Test.YtmmofckknopaaaaQ0
namespace Go.Proofs.Ytmmofckknopaaaa.Q
open Go.RowKit Go.Proofs.YtmmofckknopaaaaW.PrintWords Go.Proofs.YtmmofckknopaaaaW.PrintLast Go.Proofs.YtmmofckknopaaaaW.PrintMore
attribute [local go_sem] max2_int min2_int max_two min_two max_three min_three max_four min_four   -- for this text's walks alone
set_option linter.unusedVariables false
set_option linter.unusedSimpArgs false

/-! ### num_value: function 48 -/
def num_value.f (a0 : Int) (a1 : Bool) : Option (Int × Bool) := if a1 = true then (some (wrap64 (IntKind.u64.wrap (-a0)), decide (a0 ≤ 9223372036854775808))) else (some (wrap64 (a0), decide (a0 ≤ 9223372036854775807)))
set_option maxHeartbeats 8000000 in
set_option maxRecDepth 100000 in
theorem num_value.calls (a0 : Int) (a1 : Bool) (r1 : Int) (r2 : Bool) (w : World) (h : num_value.f a0 a1 = some (r1, r2)) :
    Calls Try.prog 48 #[.int .u64 a0, .bool a1] w fun e w' => e = .returned (.tuple #[.int .i64 r1, .bool r2]) ∧ Drawn0 w w' := by
  have H : (if a1 = true then (some (wrap64 (IntKind.u64.wrap (-a0)), decide (a0 ≤ 9223372036854775808))) else (some (wrap64 (a0), decide (a0 ≤ 9223372036854775807)))) = some (r1, r2) := h
  clear h
  by_cases c3 : a1 = true
  · subst c3
    have H1 : (some (wrap64 (IntKind.u64.wrap (-a0)), decide (a0 ≤ 9223372036854775808))) = some (r1, r2) := by rw [if_pos rfl] at H; exact H
    clear H
    have H := H1
    clear H1
    simp only [Option.some.injEq, Prod.mk.injEq] at H
    obtain ⟨rfl, rfl⟩ := H
    go_enter Try.func48, Try.ntmps48
    go_wp2
    go_ret2
    exact ⟨by first | rfl | (simp; done) | (simp [*]; done), by repeat (first | exact Drawn0.refl _ | apply Drawn0.step)⟩
  · replace c3 := Bool.eq_false_iff.mpr c3
    subst c3
    have H1 : (some (wrap64 (a0), decide (a0 ≤ 9223372036854775807))) = some (r1, r2) := by rw [if_neg (show ¬ (false = true) by decide)] at H; exact H
    clear H
    have H := H1
    clear H1
    simp only [Option.some.injEq, Prod.mk.injEq] at H
    obtain ⟨rfl, rfl⟩ := H
    go_enter Try.func48, Try.ntmps48
    go_wp2
    go_ret2
    exact ⟨by first | rfl | (simp; done) | (simp [*]; done), by repeat (first | exact Drawn0.refl _ | apply Drawn0.step)⟩

end Go.Proofs.Ytmmofckknopaaaa.Q
