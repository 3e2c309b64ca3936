/- Any two floats and any two whole numbers: whether the point is whole, small, and its parts, are told alike. No condition. -/
import Derived.Test.YtjaefcinaackeaaQ21
import Derived.Test.YtjaefcinaackeaaPair
namespace Go.Proofs.Ytjaefcinaackeaa.Pure
open Go Go.RowKit Go.Proofs.Ytjaefcinaackeaa.Q Go.Proofs.YtjaefcinaackeaaW.PrintWords Go.Proofs.YtjaefcinaackeaaW.PrintLast
open Go.Proofs.Ytjaefcinaackeaa.Ieee
theorem awake01 : punnetlaw01_awake.f = some true := by decide +kernel
theorem fits_is (a b : Int) : punnetref01_Fits.f a b = some (inB 4503599627370496 a b) := by
  unfold punnetref01_Fits.f inB
  by_cases c1 : a ≥ -4503599627370496
  · rw [if_pos c1]
    by_cases c2 : a ≤ 4503599627370496
    · rw [if_pos c2]
      by_cases c3 : b ≥ -4503599627370496
      · rw [if_pos c3]
        congr 1
        exact decide_eq_decide.2 ⟨fun c4 => ⟨⟨c1, c2⟩, c3, c4⟩, fun c4 => c4.2.2⟩
      · rw [if_neg c3, decide_eq_false (fun c4 => c3 c4.2.1)]
    · rw [if_neg c2, decide_eq_false (fun c4 => c2 c4.1.2)]
  · rw [if_neg c1, decide_eq_false (fun c4 => c1 c4.1.1)]
theorem parts_j0 (k : Nat) (a b : Int) : punnetlaw01_PlaneParts.j0 (k + 1) a b false = some true := by
  rw [punnetlaw01_PlaneParts.j0, if_neg (by simp)]
  unfold plane_Of.f
  rw [Option.bind_some, fits_is, Option.bind_some]
  by_cases c : nearI a ∧ nearI b
  · have hi : inP a ∧ inP b := ⟨⟨c.1.2, c.1.1⟩, ⟨c.2.2, c.2.1⟩⟩
    rw [if_pos hi, inB_near c.1 c.2, if_pos rfl, parts_is (of_is c.1 c.2), Option.bind_some, if_pos rfl, if_pos rfl, if_pos rfl]
    rfl
  · have hi : ¬ (inP a ∧ inP b) := fun d => c ⟨⟨d.1.2, d.1.1⟩, ⟨d.2.2, d.2.1⟩⟩
    rw [if_neg hi, show inB 4503599627370496 a b = false from decide_eq_false c, if_neg (by simp)]
    rw [zero_eq]
    rfl
theorem PlaneParts : punnetlaw01_PlaneParts.Pure := by
  intro x y a b hx hy _ _
  refine ⟨1, ?_⟩
  unfold punnetlaw01_PlaneParts.f
  rw [awake01, Option.bind_some, if_pos rfl]
  rcases point_cases hx hy with ⟨c, d, h⟩ | h
  · rw [refParts_is h (by omega) (by omega), Option.bind_some, refParts_is h (by omega) (by omega), Option.bind_some, parts_is h, Option.bind_some, whole_is h, Option.bind_some, inB_near h.2.2.1 h.2.2.2, small_is h, Option.bind_some, if_pos rfl, if_neg (by simp)]
    rw [if_neg]
    · rw [if_pos rfl, if_pos rfl, if_neg (by simp), if_pos rfl]
      exact parts_j0 0 a b
    · by_cases e : inB 33554432 c d = true
      · rw [if_pos e, e]; simp
      · rw [if_neg e]; simpa using e
  · rw [refParts_far h (by omega) (by omega), Option.bind_some, refParts_far h (by omega) (by omega), Option.bind_some, parts_far h, Option.bind_some, whole_far h, Option.bind_some, small_far h, Option.bind_some]
    exact parts_j0 0 a b
end Go.Proofs.Ytjaefcinaackeaa.Pure
