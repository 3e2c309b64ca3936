/- A function of the program or a law's row comes to what the Lean function beside it says; no condition beyond those typed. Written by a program of this workplace; Lean checks it. -/
import Derived.Test.YtfkkekdpfkglbaaQ0
import Derived.Test.YtfkkekdpfkglbaaQ9
namespace Go.Proofs.Ytfkkekdpfkglbaa.Q
open Go.RowKit Go.Proofs.YtfkkekdpfkglbaaW.PrintWords Go.Proofs.YtfkkekdpfkglbaaW.PrintLast Go.Proofs.YtfkkekdpfkglbaaW.PrintMore
attribute [local go_sem] max2_int min2_int max_two min_two max_three min_three max_four min_four   -- for this text's walks alone
set_option linter.unusedVariables false
set_option linter.unusedSimpArgs false

/-! ### plane_both: function 87 -/
def plane_both.f (a0 : (Nat × Nat)) (a1 : Nat) : Option (Bool) := (plane_within.f a0.1 a1).bind fun t101 => (if t101 = true then ((plane_within.f a0.2 a1).bind fun t102 => (some t102)) else (some false))
set_option maxHeartbeats 8000000 in
set_option maxRecDepth 100000 in
theorem plane_both.calls (a0 : (Nat × Nat)) (a1 : Nat) (r : Bool) (w : World) (h : plane_both.f a0 a1 = some r) :
    Calls Try.prog 87 #[.complex .f64 a0.1 a0.2, .float .f64 a1] w fun e w' => e = .returned (.bool r) ∧ Drawn0 w w' := by
  have H : ((plane_within.f a0.1 a1).bind fun t101 => (if t101 = true then ((plane_within.f a0.2 a1).bind fun t102 => (some t102)) else (some false))) = some r := h
  clear h
  replace H := Option.bind_eq_some_iff.mp H
  obtain ⟨t101, A30, H⟩ := H
  replace H : (if t101 = true then ((plane_within.f a0.2 a1).bind fun t102 => (some t102)) else (some false)) = some r := H
  have A3 := Aside0.mk A30
  clear A30
  by_cases c4 : t101 = true
  · subst c4
    have H1 : ((plane_within.f a0.2 a1).bind fun t102 => (some t102)) = some r := by rw [if_pos rfl] at H; exact H
    clear H
    have H := H1
    clear H1
    replace H := Option.bind_eq_some_iff.mp H
    obtain ⟨t102, A50, H⟩ := H
    replace H : (some t102) = some r := H
    have A5 := Aside0.mk A50
    clear A50
    obtain rfl := Option.some.inj H
    go_enter Try.func87, Try.ntmps87
    go_wp2_with (first | ((with_reducible refine gate_callee (f := 93) rfl ?_); refine goesL_ (some 8) rfl rfl Try.func93 (by kernel_rfl) rfl #[.float .f64 a0.1, .float .f64 a1] rfl (by (try simp only [List.map_toArray, List.map_cons, List.map_nil]); first | done | rfl | (simp only [List.length_drop, List.length_take]; rfl)) ?_; (with_reducible refine (plane_within.calls a0.1 a1 true _ A3.out).mono ?_); rintro e w' ⟨rfl, ⟨nd, rfl⟩⟩; refine ⟨_, rfl, ?_⟩) | (go_at_call 93; (with_reducible refine (plane_within.calls a0.2 a1 t102 _ A5.out).mono ?_); rintro e w' ⟨rfl, ⟨nd, rfl⟩⟩))
    go_ret
    exact ⟨by first | rfl | (simp; done) | (simp [*]; done), by repeat (first | exact Drawn0.refl _ | apply Drawn0.step)⟩
  · replace c4 := Bool.eq_false_iff.mpr c4
    subst c4
    have H1 : (some false) = some r := by rw [if_neg (show ¬ (false = true) by decide)] at H; exact H
    clear H
    have H := H1
    clear H1
    obtain rfl := Option.some.inj H
    go_enter Try.func87, Try.ntmps87
    go_wp2_with (first | ((with_reducible refine gate_callee (f := 93) rfl ?_); refine goesL_ (some 8) rfl rfl Try.func93 (by kernel_rfl) rfl #[.float .f64 a0.1, .float .f64 a1] rfl (by (try simp only [List.map_toArray, List.map_cons, List.map_nil]); first | done | rfl | (simp only [List.length_drop, List.length_take]; rfl)) ?_; (with_reducible refine (plane_within.calls a0.1 a1 false _ A3.out).mono ?_); rintro e w' ⟨rfl, ⟨nd, rfl⟩⟩; refine ⟨_, rfl, ?_⟩))
    go_ret
    exact ⟨by first | rfl | (simp; done) | (simp [*]; done), by repeat (first | exact Drawn0.refl _ | apply Drawn0.step)⟩

end Go.Proofs.Ytfkkekdpfkglbaa.Q
