/- A whole number parted by a factor, by the program and by the document. Conditions: as typed. -/
import Derived.Test.YtjaefcinaackeaaQ39
import Derived.Test.YtjaefcinaackeaaQ44
import Derived.Test.YtjaefcinaackeaaQ45
import Derived.Test.YtjaefcinaackeaaJoin
set_option linter.unusedSimpArgs false
namespace Go.Proofs.Ytjaefcinaackeaa.Ieee
open Go Go.RowKit
open Go.Proofs.Ytjaefcinaackeaa.Q Go.Proofs.YtjaefcinaackeaaW.PrintWords Go.Proofs.YtjaefcinaackeaaW.PrintLast
/-- A number's parts, and where they lie. -/
theorem parted {n g : Int} (hn : nearI n) (hg : 2 ≤ g ∧ g ≤ 1000) : g * (n / g) + n % g = n ∧ 0 ≤ n % g ∧ n % g < g ∧ nearI (n / g) ∧ (Int.tdiv n g = n / g ∨ Int.tdiv n g = n / g + 1) ∧ Int.tmod n g = n - g * Int.tdiv n g := by
  unfold nearI at hn
  refine ⟨Int.mul_ediv_add_emod n g, Int.emod_nonneg _ (by omega), Int.emod_lt_of_pos _ (by omega), ?_, ?_, Int.tmod_def n g⟩
  · unfold nearI
    refine ⟨(Int.le_ediv_iff_mul_le (by omega)).2 (by omega), ?_⟩
    have : n / g < 4503599627370497 := (Int.ediv_lt_iff_lt_mul (by omega)).2 (by omega)
    omega
  · rw [Int.tdiv_eq_ediv]
    split
    · left; omega
    · right; rw [Int.sign_eq_one_of_pos (by omega)]
theorem part_tells (n g : Int) : Tells (pack_Part.f n g) (if factB g = true then (if nearB n = true then 0 else 3) else 2) (if factB g = true then (if nearB n = true then n % g else 0) else 0) (if factB g = true then (if nearB n = true then n / g else 0) else 0) := by
  unfold pack_Part.f
  rw [factor_is, Option.bind_some]
  by_cases c : factB g = true
  · rw [if_pos c, if_pos c, if_pos c, if_pos c, far_is, Option.bind_some]
    by_cases c1 : nearB n = true
    · have hg : 2 ≤ g ∧ g ≤ 1000 := of_decide_eq_true c
      have hn := nearB_iff.1 c1
      obtain ⟨p1, p2, p3, p4, p5, p6⟩ := parted hn hg
      have h4 := p4
      unfold nearI at hn h4
      rw [if_neg (by rw [c1]; simp), if_pos c1, if_pos c1, if_pos c1, if_neg (by omega)]
      have hq : Int.tdiv (n - n % g) g = n / g := by
        rw [show n - n % g = g * (n / g) by omega]
        exact Int.mul_tdiv_cancel_left _ (by omega)
      have hend : Tells (some ((floatOfInt .f64 (n % g), floatOfInt .f64 (wrap64 (Int.tdiv (wrap64 (n - n % g)) g))), 0)) 0 (n % g) (n / g) := by
        rw [w64j (x := n - n % g) (by omega) (by omega), hq, w64j (x := n / g) (by omega) (by omega)]
        exact ⟨_, rfl, rfl, is_int (by omega) (by omega), is_int (by omega) (by omega)⟩
      rcases p5 with p5 | p5
      · have ht : Int.tmod n g = n % g := by rw [p6, p5]; omega
        rw [ht, if_neg (by omega)]
        exact hend
      · have ht : Int.tmod n g = n % g - g := by rw [p6, p5, Int.mul_add, Int.mul_one]; omega
        rw [ht, if_pos (by omega), show n % g - g + g = n % g by omega, w64j (x := n % g) (by omega) (by omega)]
        exact hend
    · rw [if_pos (by simpa using c1), if_neg c1, if_neg c1, if_neg c1]
      exact tells_none
  · rw [if_neg c, if_neg c, if_neg c, if_neg c]
    exact tells_none
theorem refFactor_is (g : Int) : punnetref02_Factor.f g = some (factB g) := by
  unfold punnetref02_Factor.f factB
  by_cases h : g > 1
  · rw [if_pos h]
    congr 1
    exact decide_eq_decide.2 ⟨fun c => ⟨by omega, by omega⟩, fun c => by omega⟩
  · rw [if_neg h, decide_eq_false (fun c => h (by omega))]
theorem refNear_is (n : Int) : punnetref02_Near.f n = some (nearB n) := by
  unfold punnetref02_Near.f nearB
  by_cases h : n ≤ 4503599627370496
  · rw [if_pos h]
    congr 1
    exact decide_eq_decide.2 ⟨fun c => ⟨by omega, by omega⟩, fun c => by omega⟩
  · rw [if_neg h, decide_eq_false (fun c => h (by omega))]
theorem refPart_is (k : Nat) (n g : Int) : punnetref02_Part.f (k + 2) n g = some (if factB g = true then (if nearB n = true then (n % g, n / g, 0) else (0, 0, 3)) else (0, 0, 2)) := by
  unfold punnetref02_Part.f
  rw [refFactor_is, Option.bind_some]
  by_cases c : factB g = true
  · rw [if_pos c, if_pos c, refNear_is, Option.bind_some]
    by_cases c1 : nearB n = true
    · have hg : 2 ≤ g ∧ g ≤ 1000 := of_decide_eq_true c
      have hn := nearB_iff.1 c1
      obtain ⟨p1, p2, p3, p4, p5, p6⟩ := parted hn hg
      have h4 := p4
      unfold nearI at hn h4
      rw [if_pos c1, if_pos c1, if_neg (by omega)]
      have m1 : n / g * g = n - n % g := by rw [Int.mul_comm]; omega
      have hend : ∀ m : Nat, punnetref02_Part.l0 (m + 1) n g (n / g) = some (n % g, n / g, 0) := by
        intro m
        rw [punnetref02_Part.l0, w64j (x := n / g * g) (by omega) (by omega), m1, show n - (n - n % g) = n % g by omega, w64j (x := n % g) (by omega) (by omega), if_neg (by omega)]
      rcases p5 with p5 | p5
      · rw [p5, w64j (x := n / g) (by omega) (by omega)]
        exact hend _
      · have m2 : (n / g + 1) * g = n - n % g + g := by rw [Int.add_mul, Int.one_mul]; omega
        rw [p5, w64j (x := n / g + 1) (by omega) (by omega), punnetref02_Part.l0, w64j (x := (n / g + 1) * g) (by omega) (by omega), m2, w64j (x := n - (n - n % g + g)) (by omega) (by omega), if_pos (by omega), w64j (x := n / g + 1 - 1) (by omega) (by omega), show n / g + 1 - 1 = n / g by omega]
        exact hend _
    · rw [if_neg c1, if_neg c1]
  · rw [if_neg c, if_neg c]
theorem tells_on {o : Option ((Nat × Nat) × Int)} {c p q : Int} (h : Tells o c p q) : Tells (o.bind fun t => some (t.1, t.2)) c p q := by
  obtain ⟨v, rfl, h⟩ := h
  exact ⟨v, rfl, h⟩
/-- A whole point in order. -/
theorem order_tells {z : Nat × Nat} {g n c : Int} (h : pack_Join.f z g = some (n, c)) (hg : factB g = true) (hn : c = 0 → nearI n) :
    Tells (pack_Order.f z g) c (if c = 0 then n % g else 0) (if c = 0 then n / g else 0) := by
  unfold pack_Order.f
  rw [h, Option.bind_some]
  by_cases hc : c = 0
  · have := part_tells n g
    rw [if_pos hg, if_pos hg, if_pos hg, nearB_iff.2 (hn hc), if_pos rfl, if_pos rfl, if_pos rfl] at this
    obtain ⟨v, e, hv⟩ := this
    rw [if_pos hc, if_pos hc, if_pos hc, hc]
    exact tells_on ⟨v, e, hv⟩
  · rw [if_neg hc, if_neg hc, if_neg hc]
    exact tells_none
end Go.Proofs.Ytjaefcinaackeaa.Ieee
