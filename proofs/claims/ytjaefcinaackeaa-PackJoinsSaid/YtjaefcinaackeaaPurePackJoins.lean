/- Any two floats and any factor: what the point comes to, and the point in order, are told alike. No condition. -/
import Derived.Test.YtjaefcinaackeaaQ46
import Derived.Test.YtjaefcinaackeaaSplit
namespace Go.Proofs.Ytjaefcinaackeaa.Pure
open Go Go.RowKit Go.Proofs.Ytjaefcinaackeaa.Q Go.Proofs.YtjaefcinaackeaaW.PrintWords Go.Proofs.YtjaefcinaackeaaW.PrintLast
open Go.Proofs.Ytjaefcinaackeaa.Ieee
theorem awake02 : punnetlaw02_awake.f = some true := by decide +kernel
theorem refJoin_is {z : Nat × Nat} {a b : Int} (h : IsC z a b) (g : Int) : punnetref02_Join.f z g = some (if factB g = true then joinI a b g else (0, 2)) := by
  unfold punnetref02_Join.f
  rw [refFactor_is, Option.bind_some]
  by_cases c : factB g = true
  · rw [if_pos c, if_pos c, refParts_is h (by omega) (by omega), Option.bind_some, inB_near h.2.2.1 h.2.2.2, if_pos rfl, if_pos rfl]
    have hg : 2 ≤ g ∧ g ≤ 1000 := of_decide_eq_true c
    have hr := reach h.2.2.2 hg
    have na := h.2.2.1
    unfold nearI at na
    have e : wrap64 (b * g) = b * g := w64j (by omega) (by omega)
    have e2 : wrap64 (a + b * g) = a + b * g := w64j (by omega) (by omega)
    unfold joinI
    simp only [e, e2]
    rw [refNear_is, Option.bind_some]
    by_cases c1 : nearB (b * g) = true
    · rw [if_pos c1, if_pos c1, refNear_is, Option.bind_some]
      by_cases c2 : nearB (a + b * g) = true
      · rw [if_pos c2, if_pos c2]
      · rw [if_neg c2, if_neg c2]
    · rw [if_neg c1, if_neg c1]
  · rw [if_neg c, if_neg c]
theorem refJoin_far {z : Nat × Nat} (h : FarC z) (g : Int) : punnetref02_Join.f z g = some (if factB g = true then (0, 5) else (0, 2)) := by
  unfold punnetref02_Join.f
  rw [refFactor_is, Option.bind_some]
  by_cases c : factB g = true
  · rw [if_pos c, if_pos c, refParts_far h (by omega) (by omega), Option.bind_some, if_neg (by simp)]
  · rw [if_neg c, if_neg c]
/-- The rest, when what both come to is alike. -/
theorem joins_end {z : Nat × Nat} {n c g p q : Int} (h1 : pack_Join.f z g = some (n, c)) (h2 : punnetref02_Join.f z g = some (n, c)) (h3 : Tells (pack_Order.f z g) c p q) (hc : c = 0 → factB g = true ∧ nearI n ∧ p = n % g ∧ q = n / g) (hz : c ≠ 0 → p = 0 ∧ q = 0) :
    (pack_Join.f z g).bind (fun bt258 => (punnetref02_Join.f z g).bind fun bt260 => (pack_Order.f z g).bind fun bt262 => (if bt258.1 = bt260.1 then (if bt258.2 = bt260.2 then (if bt262.2 = bt260.2 then ((pack_Factor.f g).bind fun t264 => ((punnetref02_Factor.f g).bind fun t265 => (punnetlaw02_PackJoins.j0 4 g bt260.1 bt260.2 bt262.1 (t264 != t265)))) else (punnetlaw02_PackJoins.j0 4 g bt260.1 bt260.2 bt262.1 true)) else (punnetlaw02_PackJoins.j0 4 g bt260.1 bt260.2 bt262.1 true)) else (punnetlaw02_PackJoins.j0 4 g bt260.1 bt260.2 bt262.1 true))) = some true := by
  obtain ⟨v, e, hv⟩ := h3
  rw [h1, Option.bind_some, h2, Option.bind_some, e, Option.bind_some, if_pos rfl, if_pos rfl, if_pos hv.1, factor_is, Option.bind_some, refFactor_is, Option.bind_some, show (factB g != factB g) = false by simp]
  rw [punnetlaw02_PackJoins.j0, if_neg (by simp)]
  by_cases c0 : c = 0
  · obtain ⟨k1, k2, rfl, rfl⟩ := hc c0
    have hg : 2 ≤ g ∧ g ≤ 1000 := of_decide_eq_true k1
    obtain ⟨p1, p2, p3, p4, _, _⟩ := parted k2 hg
    have := of_is (a := n % g) (b := n / g) (by unfold nearI; omega) p4
    rw [if_pos c0, refPart_is, Option.bind_some, if_pos k1, nearB_iff.2 k2, if_pos rfl]
    unfold punnetref01_Of.f
    rw [Option.bind_some, pair_eq (z' := (floatOfInt .f64 (n % g), floatOfInt .f64 (n / g))) hv.2.1 hv.2.2 this.1 this.2.1, decide_eq_true ⟨rfl, rfl⟩]
  · obtain ⟨rfl, rfl⟩ := hz c0
    rw [if_neg c0]
    have := pair_eq (z' := (0, 0)) hv.2.1 hv.2.2 is_zero is_zero
    rw [this, decide_eq_true ⟨rfl, rfl⟩]
theorem order_not {z : Nat × Nat} {g n c : Int} (h : pack_Join.f z g = some (n, c)) (hc : c ≠ 0) : Tells (pack_Order.f z g) c 0 0 := by
  unfold pack_Order.f
  rw [h, Option.bind_some, if_neg hc]
  exact tells_none
theorem PackJoins : punnetlaw02_PackJoins.Pure := by
  intro x y g hx hy _
  refine ⟨4, ?_⟩
  unfold punnetlaw02_PackJoins.f
  rw [awake02, Option.bind_some, if_pos rfl]
  have bad : ∀ c : Int, c ≠ 0 → pack_Join.f (x, y) g = some (0, c) → punnetref02_Join.f (x, y) g = some (0, c) → _ := fun c hc h1 h2 =>
    joins_end h1 h2 (order_not h1 hc) (fun c0 => absurd c0 hc) (fun _ => ⟨rfl, rfl⟩)
  by_cases c : factB g = true
  · rcases point_cases hx hy with ⟨a, b, h⟩ | h
    · have j1 := join_is h g
      have j2 := refJoin_is h g
      rw [if_pos c] at j1 j2
      have jc := joinI_code a b g
      generalize joinI a b g = J at *
      obtain ⟨n, k⟩ := J
      rcases jc with ⟨c0, cn, _, cb⟩ | ⟨cj, _⟩
      · have c0 : k = 0 := c0
        have cn : n = a + b * g := cn
        have hn : nearI n := by rw [cn]; exact cb
        have j3 := order_tells (n := n) (c := k) j1 c (fun _ => hn)
        refine joins_end j1 j2 j3 (fun _ => ⟨c, hn, ?_, ?_⟩) (fun h => absurd c0 h)
        · rw [if_pos c0]
        · rw [if_pos c0]
      · rw [cj] at j1 j2
        exact bad 3 (by decide) j1 j2
    · have j1 := join_far h g
      have j2 := refJoin_far h g
      rw [if_pos c] at j1 j2
      exact bad 5 (by decide) j1 j2
  · rcases point_cases hx hy with ⟨a, b, h⟩ | h
    · have j1 := join_is h g
      have j2 := refJoin_is h g
      rw [if_neg c] at j1 j2
      exact bad 2 (by decide) j1 j2
    · have j1 := join_far h g
      have j2 := refJoin_far h g
      rw [if_neg c] at j1 j2
      exact bad 2 (by decide) j1 j2
end Go.Proofs.Ytjaefcinaackeaa.Pure
