/- Any four floats: the sum, the difference and the product of two points are told alike. No condition. -/
import Derived.Test.YtjaefcinaackeaaQ32
import Derived.Test.YtjaefcinaackeaaFits
namespace Go.Proofs.Ytjaefcinaackeaa.Pure
open Go Go.RowKit Go.Proofs.Ytjaefcinaackeaa.Q Go.Proofs.YtjaefcinaackeaaW.PrintWords Go.Proofs.YtjaefcinaackeaaW.PrintLast
open Go.Proofs.Ytjaefcinaackeaa.Ieee
theorem minus_is {z z' : Nat × Nat} {a b c d : Int} (h : IsC z a b) (h' : IsC z' c d) :
    Tells (plane_Minus.f z z') (if inB 4503599627370496 (a - c) (b - d) = true then 0 else 3) (if inB 4503599627370496 (a - c) (b - d) = true then a - c else 0) (if inB 4503599627370496 (a - c) (b - d) = true then b - d else 0) := by
  have g := h.2.2
  have g' := h'.2.2
  unfold nearI at g g'
  have g1 : bigI (a - c) := by unfold bigI; omega
  have g2 : bigI (b - d) := by unfold bigI; omega
  obtain ⟨k1, k2, k3⟩ := csub_is h.1 h.2.1 h'.1 h'.2.1 g1 g2
  unfold plane_Minus.f
  rw [whole_is h, Option.bind_some, if_pos rfl, whole_is h', Option.bind_some, if_pos rfl, if_pos k1]
  exact tells_again (told_is (z := (csumR .sub z.1 z.2 z'.1 z'.2, csumI .sub z.1 z.2 z'.1 z'.2)) k2 k3 g1 g2)
theorem refSum_is {z z' : Nat × Nat} {a b c d s p q : Int} (h : IsC z a b) (h' : IsC z' c d) (hp : wrap64 (a + wrap64 (s * c)) = p) (hq : wrap64 (b + wrap64 (s * d)) = q) :
    Tells (punnetref01_Sum.f 1 z z' s) (if inB 4503599627370496 p q = true then 0 else 3) (if inB 4503599627370496 p q = true then p else 0) (if inB 4503599627370496 p q = true then q else 0) := by
  unfold punnetref01_Sum.f
  rw [refParts_is h (by omega) (by omega), Option.bind_some, refParts_is h' (by omega) (by omega), Option.bind_some, inB_near h.2.2.1 h.2.2.2, inB_near h'.2.2.1 h'.2.2.2, if_pos rfl, if_pos rfl, if_pos rfl, punnetref01_Sum.j0, if_neg (by simp)]
  simp only [hp, hq]
  rw [fits_is, Option.bind_some]
  by_cases e : inB 4503599627370496 p q = true
  · rw [if_pos e, if_pos e, if_pos e, if_pos e]
    have e' := inB_iff.1 e
    have := of_is (a := p) (b := q) e'.1 e'.2
    exact ⟨_, rfl, rfl, this.1, this.2.1⟩
  · rw [if_neg e, if_neg e, if_neg e, if_neg e]
    exact tells_none
theorem refSum_far {z z' : Nat × Nat} {s : Int} (h : FarC z ∧ (FarC z' ∨ ∃ c d, IsC z' c d) ∨ (∃ c d, IsC z c d) ∧ FarC z') : Tells (punnetref01_Sum.f 1 z z' s) 5 0 0 := by
  unfold punnetref01_Sum.f
  rcases h with ⟨h, h' | ⟨c, d, h'⟩⟩ | ⟨⟨c, d, h⟩, h'⟩
  · rw [refParts_far h (by omega) (by omega), Option.bind_some, refParts_far h' (by omega) (by omega), Option.bind_some, if_neg (by simp), punnetref01_Sum.j0, if_pos rfl]
    exact tells_none
  · rw [refParts_far h (by omega) (by omega), Option.bind_some, refParts_is h' (by omega) (by omega), Option.bind_some, if_neg (by simp), punnetref01_Sum.j0, if_pos rfl]
    exact tells_none
  · rw [refParts_is h (by omega) (by omega), Option.bind_some, refParts_far h' (by omega) (by omega), Option.bind_some, inB_near h.2.2.1 h.2.2.2, if_pos rfl, if_pos rfl, punnetref01_Sum.j0, if_pos (by rfl)]
    exact tells_none
theorem same_none {c : Int} {o o' : Option ((Nat × Nat) × Int)} (h : Tells o c 0 0) (h' : Tells o' c 0 0) : Same o o' := ⟨c, 0, 0, h, h'⟩
theorem wholes_not {z z' : Nat × Nat} (h : FarC z ∨ ((∃ c d, IsC z c d) ∧ FarC z')) : Tells (plane_Plus.f z z') 5 0 0 ∧ Tells (plane_Minus.f z z') 5 0 0 := by
  unfold plane_Plus.f plane_Minus.f
  rcases h with h | ⟨⟨c, d, h⟩, h'⟩
  · rw [whole_far h, Option.bind_some, if_neg (by simp), Option.bind_some, if_neg (by simp)]
    exact ⟨tells_none, tells_none⟩
  · rw [whole_is h, Option.bind_some, if_pos rfl, whole_far h', Option.bind_some, if_neg (by simp), Option.bind_some, if_pos rfl, Option.bind_some, if_neg (by simp)]
    exact ⟨tells_none, tells_none⟩
theorem times_same {z z' : Nat × Nat} (h : (∃ a b, IsC z a b) ∨ FarC z) (h' : (∃ a b, IsC z' a b) ∨ FarC z') : Same (plane_Times.f z z') (punnetref01_Product.f z z') := by
  -- what both say of each point
  have key : ∀ z : Nat × Nat, ((∃ a b, IsC z a b) ∨ FarC z) → (∃ a b, IsC z a b ∧ inB 33554432 a b = true) ∨ (plane_Small.f z = some false ∧ punnetref01_Parts.f z 33554432 = some (0, 0, false)) := by
    intro z h
    rcases h with ⟨a, b, h⟩ | h
    · by_cases c : inB 33554432 a b = true
      · exact .inl ⟨a, b, h, c⟩
      · refine .inr ⟨?_, ?_⟩
        · rw [small_is h, eq_false_of_ne_true c]
        · rw [refParts_is h (by omega) (by omega), if_neg c]
    · exact .inr ⟨small_far h, refParts_far h (by omega) (by omega)⟩
  rcases key z h with ⟨a, b, i, s⟩ | ⟨s, r⟩
  · rcases key z' h' with ⟨c, d, i', s'⟩ | ⟨s', r'⟩
    · refine ⟨0, a * c - b * d, a * d + b * c, times_tells i i' s s', ?_⟩
      have s0 := inB_iff.1 s
      have s1 := inB_iff.1 s'
      have p1 := mul_small (M := 33554432) s0.1.1 s0.1.2 s1.1.1 s1.1.2
      have p2 := mul_small (M := 33554432) s0.2.1 s0.2.2 s1.2.1 s1.2.2
      have p3 := mul_small (M := 33554432) s0.1.1 s0.1.2 s1.2.1 s1.2.2
      have p4 := mul_small (M := 33554432) s0.2.1 s0.2.2 s1.1.1 s1.1.2
      unfold punnetref01_Product.f
      rw [refParts_is i (by omega) (by omega), Option.bind_some, refParts_is i' (by omega) (by omega), Option.bind_some, s, s', if_pos rfl, if_pos rfl, if_pos rfl, if_pos rfl]
      have e1 : wrap64 (wrap64 (a * c) - wrap64 (b * d)) = a * c - b * d := by
        rw [w64 (x := a * c) (by omega) (by omega), w64 (x := b * d) (by omega) (by omega), w64 (by omega) (by omega)]
      have e2 : wrap64 (wrap64 (a * d) + wrap64 (b * c)) = a * d + b * c := by
        rw [w64 (x := a * d) (by omega) (by omega), w64 (x := b * c) (by omega) (by omega), w64 (by omega) (by omega)]
      simp only [e1, e2]
      exact ⟨_, rfl, rfl, is_int (by omega) (by omega), is_int (by omega) (by omega)⟩
    · have e1 : punnetref01_Product.f z z' = some ((0, 0), 5) := by
        unfold punnetref01_Product.f
        rw [refParts_is i (by omega) (by omega), Option.bind_some, r', Option.bind_some, s, if_pos rfl, if_pos rfl, if_neg (by simp)]
      rw [times_not (small_is i) s' (by simp), e1]
      exact same_none tells_none tells_none
  · have e1 : punnetref01_Product.f z z' = some ((0, 0), 5) := by
      unfold punnetref01_Product.f
      rw [r, Option.bind_some]
      rcases h' with ⟨c, d, h'⟩ | h'
      · rw [refParts_is h' (by omega) (by omega), Option.bind_some, if_neg (by simp)]
      · rw [refParts_far h' (by omega) (by omega), Option.bind_some, if_neg (by simp)]
    have e2 : plane_Times.f z z' = some ((0, 0), 5) := by
      unfold plane_Times.f
      rw [s, Option.bind_some, if_neg (by simp)]
    rw [e1, e2]
    exact same_none tells_none tells_none
theorem sums_same {z z' : Nat × Nat} (h : (∃ a b, IsC z a b) ∨ FarC z) (h' : (∃ a b, IsC z' a b) ∨ FarC z') : Same (plane_Plus.f z z') (punnetref01_Sum.f 1 z z' 1) ∧ Same (plane_Minus.f z z') (punnetref01_Sum.f 1 z z' (-1)) := by
  rcases h with ⟨a, b, h⟩ | h
  · rcases h' with ⟨c, d, h'⟩ | h'
    · have g := h.2.2
      have g' := h'.2.2
      unfold nearI at g g'
      refine ⟨⟨_, _, _, plus_is h h', refSum_is h h' ?_ ?_⟩, ⟨_, _, _, minus_is h h', refSum_is h h' ?_ ?_⟩⟩
      · rw [Int.one_mul, w64 (x := c) (by omega) (by omega), w64 (by omega) (by omega)]
      · rw [Int.one_mul, w64 (x := d) (by omega) (by omega), w64 (by omega) (by omega)]
      · rw [Int.neg_one_mul, w64 (x := -c) (by omega) (by omega), w64 (by omega) (by omega)]; omega
      · rw [Int.neg_one_mul, w64 (x := -d) (by omega) (by omega), w64 (by omega) (by omega)]; omega
    · have n := wholes_not (.inr ⟨⟨_, _, h⟩, h'⟩)
      exact ⟨same_none n.1 (refSum_far (.inr ⟨⟨_, _, h⟩, h'⟩)), same_none n.2 (refSum_far (.inr ⟨⟨_, _, h⟩, h'⟩))⟩
  · have n := wholes_not (z' := z') (.inl h)
    exact ⟨same_none n.1 (refSum_far (.inl ⟨h, h'.symm⟩)), same_none n.2 (refSum_far (.inl ⟨h, h'.symm⟩))⟩
theorem PlaneSums : punnetlaw01_PlaneSums.Pure := by
  intro x y u v hx hy hu hv
  refine ⟨1, ?_⟩
  unfold punnetlaw01_PlaneSums.f
  rw [awake01, Option.bind_some, if_pos rfl]
  have c := point_cases hx hy
  have c' := point_cases hu hv
  obtain ⟨⟨_, _, _, ⟨a1, e1, h1⟩, ⟨b1, f1, g1⟩⟩, ⟨_, _, _, ⟨a2, e2, h2⟩, ⟨b2, f2, g2⟩⟩⟩ := sums_same c c'
  obtain ⟨_, _, _, ⟨a3, e3, h3⟩, ⟨b3, f3, g3⟩⟩ := times_same c c'
  rw [e1, Option.bind_some, f1, Option.bind_some, e2, Option.bind_some, f2, Option.bind_some, e3, Option.bind_some, f3, Option.bind_some]
  rw [if_pos (bind_eq h1 g1).1, if_pos (bind_eq h1 g1).2, if_pos (bind_eq h2 g2).1, if_pos (bind_eq h2 g2).2, if_pos (bind_eq h3 g3).1, (bind_eq h3 g3).2]
  simp
end Go.Proofs.Ytjaefcinaackeaa.Pure
