/- Any two floats and any number of quarters: the point turned, turned back, turned four times and multiplied by i is told alike. No condition. -/
import Derived.Test.YtjaefcinaackeaaQ25
import Derived.Test.YtjaefcinaackeaaTurn
namespace Go.Proofs.Ytjaefcinaackeaa.Pure
open Go Go.RowKit Go.Proofs.Ytjaefcinaackeaa.Q Go.Proofs.YtjaefcinaackeaaW.PrintWords Go.Proofs.YtjaefcinaackeaaW.PrintLast
open Go.Proofs.Ytjaefcinaackeaa.Ieee
theorem awake01 : punnetlaw01_awake.f = some true := by decide +kernel
theorem w64 {x : Int} (h0 : -9223372036854775808 ≤ x) (h1 : x < 9223372036854775808) : wrap64 x = x := by unfold wrap64; omega
theorem near_neg64 {x : Int} (h : nearI x) : wrap64 (-x) = -x := by unfold nearI at h; exact w64 (by omega) (by omega)
theorem tmod4 (t : Int) : (0 ≤ t → Int.tmod t 4 = t % 4) ∧ (t < 0 → Int.tmod t 4 = -((-t) % 4)) := by
  refine ⟨fun h => Int.tmod_eq_emod_of_nonneg h, fun h => ?_⟩
  have := Int.tmod_eq_emod_of_nonneg (a := -t) (b := 4) (by omega)
  rw [Int.neg_tmod] at this
  omega
theorem turn_loop {a b : Int} (ha : nearI a) (hb : nearI b) (k : Int) (h0 : 0 ≤ k) (h1 : k < 4) : Tells (punnetref01_Turn.j0 6 a b k) 0 (rot k a b).1 (rot k a b).2 := by
  have step : ∀ (m : Nat) (x y k i : Int), i < k → 0 ≤ i → k ≤ 4 → nearI y → punnetref01_Turn.l0 (m + 1) x y k i = punnetref01_Turn.l0 m (-y) x k (i + 1) := by
    intro m x y k i h h0 h1 hy
    rw [punnetref01_Turn.l0, if_pos h, near_neg64 hy, w64 (by omega) (by omega)]
  have last : ∀ (m : Nat) (x y k i : Int), ¬ i < k → nearI x → nearI y → Tells (punnetref01_Turn.l0 (m + 1) x y k i) 0 x y := by
    intro m x y k i h hx hy
    rw [punnetref01_Turn.l0, if_neg h]
    unfold punnetref01_Of.f
    have := of_is hx hy
    exact ⟨_, rfl, rfl, this.1, this.2.1⟩
  have hk : k = 0 ∨ k = 1 ∨ k = 2 ∨ k = 3 := by omega
  rw [punnetref01_Turn.j0]
  rcases hk with rfl | rfl | rfl | rfl
  · exact last _ _ _ _ _ (by omega) ha hb
  · rw [step _ _ _ _ _ (by omega) (by omega) (by omega) hb]
    exact last _ _ _ _ _ (by omega) hb.neg ha
  · rw [step _ _ _ _ _ (by omega) (by omega) (by omega) hb, step _ _ _ _ _ (by omega) (by omega) (by omega) ha]
    exact last _ _ _ _ _ (by omega) ha.neg hb.neg
  · rw [step _ _ _ _ _ (by omega) (by omega) (by omega) hb, step _ _ _ _ _ (by omega) (by omega) (by omega) ha, step _ _ _ _ _ (by omega) (by omega) (by omega) hb.neg, Int.neg_neg]
    exact last _ _ _ _ _ (by omega) hb ha.neg
theorem refTurn_is {z : Nat × Nat} {a b : Int} (h : IsC z a b) (t : Int) : Tells (punnetref01_Turn.f 6 z t) 0 (rot (t % 4) a b).1 (rot (t % 4) a b).2 := by
  have e := tmod4 t
  unfold punnetref01_Turn.f
  rw [refParts_is h (by omega) (by omega), Option.bind_some, inB_near h.2.2.1 h.2.2.2, if_pos rfl, if_pos rfl]
  generalize Int.tmod t 4 = m at *
  by_cases c : m < 0
  · rw [if_pos c, w64 (by omega) (by omega), show m + 4 = t % 4 by omega]
    exact turn_loop h.2.2.1 h.2.2.2 _ (by omega) (by omega)
  · rw [if_neg c, show m = t % 4 by omega]
    exact turn_loop h.2.2.1 h.2.2.2 _ (by omega) (by omega)
theorem rot_back (t a b : Int) : rot (wrap64 (-t) % 4) (rot (t % 4) a b).1 (rot (t % 4) a b).2 = (a, b) := by
  have hw : wrap64 (-t) % 4 = (-t) % 4 := by unfold wrap64; omega
  rw [hw]
  have hk : t % 4 = 0 ∧ (-t) % 4 = 0 ∨ t % 4 = 1 ∧ (-t) % 4 = 3 ∨ t % 4 = 2 ∧ (-t) % 4 = 2 ∨ t % 4 = 3 ∧ (-t) % 4 = 1 := by omega
  rcases hk with ⟨h, h'⟩ | ⟨h, h'⟩ | ⟨h, h'⟩ | ⟨h, h'⟩ <;> rw [h, h'] <;> simp [rot]
theorem i_is : IsC (0, 4607182418800017408) 0 1 := by
  have := of_is (a := 0) (b := 1) (by unfold nearI; omega) (by unfold nearI; omega)
  rwa [show floatOfInt .f64 0 = 0 by decide +kernel, show floatOfInt .f64 1 = 4607182418800017408 by decide +kernel] at this
theorem PlaneTurns : punnetlaw01_PlaneTurns.Pure := by
  intro x y t hx hy _
  refine ⟨6, ?_⟩
  unfold punnetlaw01_PlaneTurns.f
  rw [awake01, Option.bind_some, if_pos rfl]
  rcases point_cases hx hy with ⟨a, b, h⟩ | h
  · obtain ⟨v, e, c0, hv⟩ := turn_is h t
    obtain ⟨r, e', hr⟩ := refTurn_is h t
    have hs := bind_eq ⟨c0, hv.1, hv.2.1⟩ hr
    rw [e, Option.bind_some, e', Option.bind_some, if_pos hs.1, hs.2, show (r.2 != r.2) = false by simp, punnetlaw01_PlaneTurns.j0, if_neg (by simp), ← hs.2, if_pos c0]
    obtain ⟨v1, e1, c1, h1⟩ := turn_is hv (wrap64 (-t))
    rw [rot_back] at h1
    obtain ⟨v2, e2, c2, h2⟩ := turn_is h 4
    rw [show rot (4 % 4) a b = (a, b) from rfl] at h2
    obtain ⟨v3, e3, c3, h3⟩ := turn_is h 1
    rw [show rot (1 % 4) a b = (-b, a) from rfl] at h3
    rw [e1, Option.bind_some, e2, Option.bind_some, e3, Option.bind_some]
    have k1 := pair_eq h1.1 h1.2.1 h.1 h.2.1
    have k2 := pair_eq h2.1 h2.2.1 h.1 h.2.1
    rw [decide_eq_true ⟨rfl, rfl⟩] at k1 k2
    by_cases s : inB 33554432 a b = true
    · obtain ⟨v4, e4, h4⟩ := times_tells h i_is s (by decide)
      rw [show a * 0 - b * 1 = -b by omega, show a * 1 + b * 0 = a by omega] at h4
      have k3 := bind_eq ⟨c3, h3.1, h3.2.1⟩ h4
      rw [e4, Option.bind_some, if_pos k1, if_pos c1, if_pos k2, if_pos c2, if_pos c3, if_pos h4.1, k3.1]
    · have e4 : plane_Times.f (x, y) (0, 4607182418800017408) = some ((0, 0), 5) := by
        unfold plane_Times.f
        rw [small_is h, Option.bind_some, if_neg s]
      rw [e4, Option.bind_some, if_pos k1, if_pos c1, if_pos k2, if_pos c2, if_pos c3, if_neg (by decide)]
  · have e' : punnetref01_Turn.f 6 (x, y) t = some ((0, 0), 5) := by
      unfold punnetref01_Turn.f
      rw [refParts_far h (by omega) (by omega), Option.bind_some, if_neg (by simp)]
    rw [turn_far h, Option.bind_some, e', Option.bind_some, if_pos (by rw [zero_eq]; rfl), punnetlaw01_PlaneTurns.j0, if_neg (by simp), if_neg (by decide), whole_far h]
    rfl
end Go.Proofs.Ytjaefcinaackeaa.Pure
