/- The law's own examples hold; what fits; sums of two points. Conditions: as typed. -/
import Derived.Test.YtjaefcinaackeaaQ14
import Derived.Test.YtjaefcinaackeaaQ20
import Derived.Test.YtjaefcinaackeaaQ28
import Derived.Test.YtjaefcinaackeaaPair
set_option linter.unusedSimpArgs false
namespace Go.Proofs.Ytjaefcinaackeaa.Ieee
open Go Go.RowKit
open Go.Proofs.Ytjaefcinaackeaa.Q Go.Proofs.YtjaefcinaackeaaW.PrintWords Go.Proofs.YtjaefcinaackeaaW.PrintLast
theorem w64 {x : Int} (h0 : -9223372036854775808 ≤ x) (h1 : x < 9223372036854775808) : wrap64 x = x := by unfold wrap64; omega
theorem awake01 : punnetlaw01_awake.f = some true := by decide +kernel
theorem fits_is (a b : Int) : punnetref01_Fits.f a b = some (inB 4503599627370496 a b) := by
  unfold punnetref01_Fits.f inB
  by_cases c1 : a ≥ -4503599627370496
  · rw [if_pos c1]
    by_cases c2 : a ≤ 4503599627370496
    · rw [if_pos c2]
      by_cases c3 : b ≥ -4503599627370496
      · rw [if_pos c3]
        congr 1
        exact decide_eq_decide.2 ⟨fun c4 => ⟨⟨c1, c2⟩, c3, c4⟩, fun c4 => c4.2.2⟩
      · rw [if_neg c3, decide_eq_false (fun c4 => c3 c4.2.1)]
    · rw [if_neg c2, decide_eq_false (fun c4 => c2 c4.1.2)]
  · rw [if_neg c1, decide_eq_false (fun c4 => c1 c4.1.1)]
theorem told_is {z : Nat × Nat} {a b : Int} (h1 : Is z.1 a) (h2 : Is z.2 b) (n1 : bigI a) (n2 : bigI b) :
    Tells (plane_told.f z) (if inB 4503599627370496 a b = true then 0 else 3) (if inB 4503599627370496 a b = true then a else 0) (if inB 4503599627370496 a b = true then b else 0) := by
  unfold plane_told.f
  rw [whole_big h1 h2 n1 n2, Option.bind_some]
  by_cases c : inB 4503599627370496 a b = true
  · rw [if_pos c, if_pos c, if_pos c, if_pos c]
    exact ⟨_, rfl, rfl, h1, h2⟩
  · rw [if_neg c, if_neg c, if_neg c, if_neg c]
    exact tells_none
theorem tells_again {o : Option ((Nat × Nat) × Int)} {c p q : Int} (h : Tells o c p q) : Tells (o.bind fun t => some (t.1, t.2)) c p q := by
  obtain ⟨v, rfl, h⟩ := h
  exact ⟨v, rfl, h⟩
theorem plus_is {z z' : Nat × Nat} {a b c d : Int} (h : IsC z a b) (h' : IsC z' c d) :
    Tells (plane_Plus.f z z') (if inB 4503599627370496 (a + c) (b + d) = true then 0 else 3) (if inB 4503599627370496 (a + c) (b + d) = true then a + c else 0) (if inB 4503599627370496 (a + c) (b + d) = true then b + d else 0) := by
  have g := h.2.2
  have g' := h'.2.2
  unfold nearI at g g'
  have g1 : bigI (a + c) := by unfold bigI; omega
  have g2 : bigI (b + d) := by unfold bigI; omega
  obtain ⟨k1, k2, k3⟩ := cadd_is h.1 h.2.1 h'.1 h'.2.1 g1 g2
  unfold plane_Plus.f
  rw [whole_is h, Option.bind_some, if_pos rfl, whole_is h', Option.bind_some, if_pos rfl, if_pos k1]
  exact tells_again (told_is (z := (csumR .add z.1 z.2 z'.1 z'.2, csumI .add z.1 z.2 z'.1 z'.2)) k2 k3 g1 g2)
theorem told_some {x y : Nat} (hx : (Lit.float .f64 x).wf = true) (hy : (Lit.float .f64 y).wf = true) : ∃ q, plane_Whole.f (x, y) = some q ∧ ((∃ a b, IsC (x, y) a b ∧ q = true) ∨ (FarC (x, y) ∧ q = false)) := by
  rcases point_cases hx hy with ⟨a, b, h⟩ | h
  · exact ⟨_, whole_is h, .inl ⟨a, b, h, rfl⟩⟩
  · exact ⟨_, whole_far h, .inr ⟨h, rfl⟩⟩
end Go.Proofs.Ytjaefcinaackeaa.Ieee
