/- A function of the program or a law's row comes to what the Lean function beside it says; no condition beyond those typed. Written by a program of this workplace; Lean checks it. -/
import Derived.Test.YtjaefcinaackeaaQ0
namespace Go.Proofs.Ytjaefcinaackeaa.Q
open Go.RowKit Go.Proofs.YtjaefcinaackeaaW.PrintWords Go.Proofs.YtjaefcinaackeaaW.PrintLast Go.Proofs.YtjaefcinaackeaaW.PrintMore
attribute [local go_sem] max2_int min2_int max_two min_two max_three min_three max_four min_four   -- for this text's walks alone
set_option linter.unusedVariables false
set_option linter.unusedSimpArgs false

/-! ### punnetref01_Of: function 36 -/
def punnetref01_Of.f (a0 : Int) (a1 : Int) : Option ((Nat × Nat)) := some (Go.floatOfInt .f64 a0, Go.floatOfInt .f64 a1)
set_option maxHeartbeats 8000000 in
set_option maxRecDepth 100000 in
theorem punnetref01_Of.calls (a0 : Int) (a1 : Int) (r : (Nat × Nat)) (w : World) (h : punnetref01_Of.f a0 a1 = some r) :
    Calls Try.prog 36 #[.int .i64 a0, .int .i64 a1] w fun e w' => e = .returned (.complex .f64 r.1 r.2) ∧ Below w.heap.size w w' := by
  have hif2 := fun (q_ : IntKind) (n_ : Int) (W_ : World) => run_convert_int_float (P := Try.prog) W_ 2 22 q_ .f64 n_ (by kernel_rfl) Try.underlying22
  have HB := Aside0.mk (Below.refl w.heap.size w)
  have H : (some (Go.floatOfInt .f64 a0, Go.floatOfInt .f64 a1)) = some r := h
  clear h
  obtain rfl := Option.some.inj H
  go_enter Try.func36, Try.ntmps36
  go_wp2
  go_ret
  exact ⟨by first | rfl | (simp [errW_none, errW_some] <;> rfl) | (simp [*, errW_none, errW_some] <;> rfl), by repeat (first | (with_reducible first | exact HB.out | apply below_alloc | apply pw_below_drewN | apply below_drew1) | exact HB.out)⟩

end Go.Proofs.Ytjaefcinaackeaa.Q
