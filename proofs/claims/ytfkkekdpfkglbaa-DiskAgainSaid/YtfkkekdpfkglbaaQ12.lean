/- A function of the program or a law's row comes to what the Lean function beside it says; no condition beyond those typed. Written by a program of this workplace; Lean checks it. -/
import Derived.Test.YtfkkekdpfkglbaaQ0
namespace Go.Proofs.Ytfkkekdpfkglbaa.Q
open Go.RowKit Go.Proofs.YtfkkekdpfkglbaaW.PrintWords Go.Proofs.YtfkkekdpfkglbaaW.PrintLast Go.Proofs.YtfkkekdpfkglbaaW.PrintMore
attribute [local go_sem] max2_int min2_int max_two min_two max_three min_three max_four min_four   -- for this text's walks alone
set_option linter.unusedVariables false
set_option linter.unusedSimpArgs false

/-! ### plane_mirrored: function 88 -/
def plane_mirrored.f (a0 : (Nat × Nat)) : Option ((Nat × Nat)) := some (a0.1, Go.Op.negFloat .f64 a0.2)
set_option maxHeartbeats 8000000 in
set_option maxRecDepth 100000 in
theorem plane_mirrored.calls (a0 : (Nat × Nat)) (r : (Nat × Nat)) (w : World) (h : plane_mirrored.f a0 = some r) :
    Calls Try.prog 88 #[.complex .f64 a0.1 a0.2] w fun e w' => e = .returned (.complex .f64 r.1 r.2) ∧ Drawn0 w w' := by
  have hngf : ∀ (b_ : Nat) (W_ : World), (Go.Op.unary UnOp.neg (Value.float .f64 b_)).run Try.prog W_ = .ok (.float .f64 (Go.Op.negFloat .f64 b_)) W_ := fun _ _ => rfl
  have H : (some (a0.1, Go.Op.negFloat .f64 a0.2)) = some r := h
  clear h
  obtain rfl := Option.some.inj H
  go_enter Try.func88, Try.ntmps88
  go_wp2
  go_ret
  exact ⟨by first | rfl | (simp; done) | (simp [*]; done), by repeat (first | exact Drawn0.refl _ | apply Drawn0.step)⟩

end Go.Proofs.Ytfkkekdpfkglbaa.Q
