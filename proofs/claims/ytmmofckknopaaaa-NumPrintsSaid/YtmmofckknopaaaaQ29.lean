/- A function of the program or a law's row comes to what the Lean function beside it says; no condition beyond those typed. Written by a program of this workplace; Lean checks it. -/
import Derived.Test.YtmmofckknopaaaaQ0
namespace Go.Proofs.Ytmmofckknopaaaa.Q
open Go.RowKit Go.Proofs.YtmmofckknopaaaaW.PrintWords Go.Proofs.YtmmofckknopaaaaW.PrintLast Go.Proofs.YtmmofckknopaaaaW.PrintMore
attribute [local go_sem] max2_int min2_int max_two min_two max_three min_three max_four min_four   -- for this text's walks alone
set_option linter.unusedVariables false
set_option linter.unusedSimpArgs false

/-! ### punnetref03_less: function 50 -/
theorem bytes_leq : ∀ x y : List UInt8, (Op.bytesLess x y || x == y) = !Op.bytesLess y x
  | [], [] => rfl
  | [], _ :: _ => rfl
  | _ :: _, [] => rfl
  | a :: x, b :: y => by
    have ih := bytes_leq x y
    simp only [Op.bytesLess]
    by_cases h1 : a < b
    · have h2 : ¬ b < a := fun h => by simp only [UInt8.lt_iff_toNat_lt] at h h1; omega
      have h3 : (b == a) = false := by rw [beq_eq_false_iff_ne]; rintro rfl; exact h2 h1
      simp [h1, h2, h3]
    · by_cases h2 : b < a
      · have h3 : (a == b) = false := by rw [beq_eq_false_iff_ne]; rintro rfl; exact h1 h2
        have h4 : (a :: x == b :: y) = false := by rw [beq_eq_false_iff_ne]; intro h; injection h with h _; rw [h] at h3; simp at h3
        simp [h1, h2, h3, h4]
      · have h3 : a = b := UInt8.toNat_inj.1 (by simp only [UInt8.lt_iff_toNat_lt] at h1 h2; omega)
        subst h3
        simp [h1, ← ih]
theorem bytes_leq_iff (x y : List UInt8) : (Op.bytesLess x y = true ∨ x = y) ↔ Op.bytesLess y x = false := by
  have h := bytes_leq x y
  rw [Bool.eq_iff_iff, Bool.or_eq_true, beq_iff_eq, Bool.not_eq_true'] at h
  exact h
theorem ret_leq {p q : Bool} (h : p = q) : Ending.returned (.bool p) = Ending.returned (.bool q) := by rw [h]
def punnetref03_less.f (a0 : ByteArray) (a1 : ByteArray) : Option (Bool) := if (a0.size : Int) < (a1.size : Int) then (some true) else (if (a0.size : Int) = (a1.size : Int) then (some (!(Op.bytesLess a1.toList a0.toList))) else (some false))
set_option maxHeartbeats 8000000 in
set_option maxRecDepth 100000 in
theorem punnetref03_less.calls (a0 : ByteArray) (a1 : ByteArray) (r : Bool) (w : World) (h : punnetref03_less.f a0 a1 = some r) :
    Calls Try.prog 50 #[.string a0, .string a1] w fun e w' => e = .returned (.bool r) ∧ Drawn0 w w' := by
  have H : (if (a0.size : Int) < (a1.size : Int) then (some true) else (if (a0.size : Int) = (a1.size : Int) then (some (!(Op.bytesLess a1.toList a0.toList))) else (some false))) = some r := h
  clear h
  by_cases c3 : (a0.size : Int) < (a1.size : Int)
  · rw [if_pos c3] at H
    have c3b0 : decide ((a0.size : Int) < (a1.size : Int)) = true := decide_eq_true c3
    have c3b1 : decide (a0.size < a1.size) = true := decide_eq_true (Int.ofNat_lt.mp c3)
    clear c3
    obtain rfl := Option.some.inj H
    go_enter Try.func50, Try.ntmps50
    go_wp2
    go_ret
    exact ⟨by first | rfl | (refine ret_leq ?_; rw [Bool.eq_iff_iff, Bool.or_eq_true, beq_iff_eq, Bool.not_eq_true']; exact bytes_leq_iff _ _) | (simp; done) | (simp [*]; done), by repeat (first | exact Drawn0.refl _ | apply Drawn0.step)⟩
  · rw [if_neg c3] at H
    have c3b0 : decide ((a0.size : Int) < (a1.size : Int)) = false := decide_eq_false c3
    have c3b1 : decide (a0.size < a1.size) = false := decide_eq_false (fun h => c3 (Int.ofNat_lt.mpr h))
    clear c3
    by_cases c4 : (a0.size : Int) = (a1.size : Int)
    · rw [if_pos c4] at H
      have c4b0 : ((a0.size : Int) == (a1.size : Int)) = true := beq_iff_eq.mpr c4
      have c4b1 : ((a0.size : Int) != (a1.size : Int)) = false := bne_eq_false_iff_eq.mpr c4
      have c4b2 : (a0.size == a1.size) = true := by first | simpa using c4 | (simp at c4 ⊢; omega)
      clear c4
      obtain rfl := Option.some.inj H
      go_enter Try.func50, Try.ntmps50
      go_wp2
      go_ret
      exact ⟨by first | rfl | (refine ret_leq ?_; rw [Bool.eq_iff_iff, Bool.or_eq_true, beq_iff_eq, Bool.not_eq_true']; exact bytes_leq_iff _ _) | (simp; done) | (simp [*]; done), by repeat (first | exact Drawn0.refl _ | apply Drawn0.step)⟩
    · rw [if_neg c4] at H
      have c4b0 : ((a0.size : Int) == (a1.size : Int)) = false := beq_eq_false_iff_ne.mpr c4
      have c4b1 : ((a0.size : Int) != (a1.size : Int)) = true := bne_iff_ne.mpr c4
      have c4b2 : (a0.size == a1.size) = false := by first | simpa using c4 | (simp at c4 ⊢; omega)
      obtain rfl := Option.some.inj H
      go_enter Try.func50, Try.ntmps50
      go_wp2
      go_ret
      exact ⟨by first | rfl | (refine ret_leq ?_; rw [Bool.eq_iff_iff, Bool.or_eq_true, beq_iff_eq, Bool.not_eq_true']; exact bytes_leq_iff _ _) | (simp; done) | (simp [*]; done), by repeat (first | exact Drawn0.refl _ | apply Drawn0.step)⟩

end Go.Proofs.Ytmmofckknopaaaa.Q
