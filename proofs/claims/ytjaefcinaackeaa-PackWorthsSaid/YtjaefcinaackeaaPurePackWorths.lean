/- Any number so many times is what it comes to, or why it can't be told: the program's way and the document's, digit by digit, come to the same. No condition. -/
import Derived.Test.YtjaefcinaackeaaQ50
namespace Go.Proofs.Ytjaefcinaackeaa.Pure
open Go.RowKit Go.Proofs.Ytjaefcinaackeaa.Q Go.Proofs.YtjaefcinaackeaaW.PrintWords Go.Proofs.YtjaefcinaackeaaW.PrintLast
theorem awake02 : punnetlaw02_awake.f = some true := by decide +kernel
theorem w64 {x : Int} (h0 : -4611686018427387904 ≤ x) (h1 : x < 4611686018427387904) : wrap64 x = x := by unfold wrap64; omega
theorem i64_wf {a : Int} (h : (Lit.int .i64 a).wf = true) : -9223372036854775808 ≤ a ∧ a ≤ 9223372036854775807 := by
  simp [Lit.wf, IntKind.min, IntKind.max, IntKind.bits, IntKind.signed] at h; omega
def nearB (n : Int) : Bool := decide (n ≤ 4503599627370496 ∧ -4503599627370496 ≤ n)
theorem near_is (n : Int) : punnetref02_Near.f n = some (nearB n) := by
  unfold punnetref02_Near.f nearB
  by_cases h : n ≤ 4503599627370496
  · rw [if_pos h]
    by_cases h2 : n ≥ -4503599627370496
    · rw [decide_eq_true h2, decide_eq_true ⟨h, h2⟩]
    · rw [decide_eq_false h2, decide_eq_false (fun c => h2 c.2)]
  · rw [if_neg h, decide_eq_false (fun c => h c.1)]
def wout (n w : Int) : Int × Int := if nearB (n * w) then (n * w, 0) else (0, 3)
theorem far_more {n b w : Int} (h0 : 0 ≤ b) (h1 : b ≤ w) (h : nearB (n * b) = false) : nearB (n * w) = false := by
  unfold nearB at h ⊢
  rw [decide_eq_false_iff_not] at h ⊢
  intro hc
  apply h
  rcases Int.lt_or_le n 0 with hn | hn
  · have h2 : n * w ≤ n * b := Int.mul_le_mul_of_nonpos_left (Int.le_of_lt hn) h1
    have h3 : n * b ≤ 0 := by
      have := Int.mul_le_mul_of_nonpos_left (Int.le_of_lt hn) h0
      rwa [Int.mul_zero] at this
    omega
  · have h2 : n * b ≤ n * w := Int.mul_le_mul_of_nonneg_left h1 hn
    have h3 : 0 ≤ n * b := Int.mul_nonneg hn h0
    omega
theorem worth_loop (n w : Int) (hn : nearB n = true) (hw0 : 1 ≤ w) (hw1 : w ≤ 1048576) : ∀ (j k : Nat), j ≤ 20 → j + 3 < k → nearB (n * (w / (2 ^ (j + 1) : Nat))) = true →
    punnetref02_Worth.l0 k n w (n * (w / (2 ^ (j + 1) : Nat))) (2 ^ j : Nat) = some (wout n w) := by
  intro j
  induction j with
  | zero =>
    intro k hj hk hs
    obtain ⟨k, rfl⟩ : ∃ m, k = m + 1 + 1 := ⟨k - 2, by omega⟩
    have hb : n * w = n * (w / (2 ^ (0 + 1) : Nat)) + n * (w / (2 ^ (0 + 1) : Nat)) + n * (w % 2) := by
      rw [← Int.mul_add, ← Int.mul_add]; congr 1; omega
    have e0 : (w / ((2 ^ 0 : Nat) : Int)) = w := by simp
    unfold nearB at hs hn
    rw [decide_eq_true_iff] at hs hn
    generalize n * (w / (2 ^ (0 + 1) : Nat)) = S at *
    have t1 : wrap64 (S + S) = S + S := w64 (by omega) (by omega)
    have t2 : wrap64 (S + S + n) = S + S + n := w64 (by omega) (by omega)
    have fin : ∀ T : Int, T = n * w → ((punnetref02_Near.f T).bind fun t => if t = true then punnetref02_Worth.l0 (k + 1) n w T (wrap64 (Int.tdiv ((2 ^ 0 : Nat) : Int) 2)) else some (0, 3)) = some (wout n w) := by
      intro T hT
      rw [near_is, Option.bind_some, hT]
      unfold wout
      by_cases c : nearB (n * w) = true
      · rw [if_pos c, if_pos c, show wrap64 (Int.tdiv ((2 ^ 0 : Nat) : Int) 2) = 0 from (congrArg wrap64 (show Int.tdiv ((2 ^ 0 : Nat) : Int) 2 = 0 from rfl)).trans (w64 (by omega) (by omega)), punnetref02_Worth.l0, if_neg (by omega)]
      · rw [if_neg c, if_neg c]
    rw [punnetref02_Worth.l0, if_pos (by decide), if_neg (by decide), Int.tdiv_eq_ediv_of_nonneg (by omega), e0, w64 (x := w) (by omega) (by omega), Int.tmod_eq_emod_of_nonneg (by omega), t1]
    by_cases c : w % 2 = 1
    · rw [if_pos c, t2]
      rw [c, Int.mul_one] at hb
      exact fin _ hb.symm
    · rw [if_neg c]
      rw [show w % 2 = 0 by omega, Int.mul_zero, Int.add_zero] at hb
      exact fin _ hb.symm
  | succ j ih =>
    intro k hj hk hs
    obtain ⟨k, rfl⟩ : ∃ m, k = m + 1 := ⟨k - 1, by omega⟩
    have hp : (0 : Int) < ((2 ^ (j + 1) : Nat) : Int) := by have := Nat.two_pow_pos (j + 1); omega
    have hbw : 0 ≤ w / ((2 ^ (j + 1) : Nat) : Int) := Int.ediv_nonneg (by omega) (by omega)
    have hle : w / ((2 ^ (j + 1) : Nat) : Int) ≤ w := Int.ediv_le_self _ (by omega)
    have hdd : w / ((2 ^ (j + 1 + 1) : Nat) : Int) = w / ((2 ^ (j + 1) : Nat) : Int) / 2 := by
      rw [Int.ediv_ediv_of_nonneg (by omega)]; congr 1
    have hih := ih k (by omega) (by omega)
    have htd : wrap64 (Int.tdiv ((2 ^ (j + 1) : Nat) : Int) 2) = ((2 ^ j : Nat) : Int) := by
      have h20 : 2 ^ j ≤ 2 ^ 20 := Nat.pow_le_pow_right (by decide) (by omega)
      rw [Int.tdiv_eq_ediv_of_nonneg (by omega), show ((2 ^ (j + 1) : Nat) : Int) = 2 * ((2 ^ j : Nat) : Int) by rw [Nat.pow_succ]; omega]
      rw [show (2 * ((2 ^ j : Nat) : Int)) / 2 = ((2 ^ j : Nat) : Int) by omega]
      exact w64 (by omega) (by omega)
    rw [hdd] at hs ⊢
    generalize hbd : w / ((2 ^ (j + 1) : Nat) : Int) = b at *
    have hb : n * b = n * (b / 2) + n * (b / 2) + n * (b % 2) := by
      rw [← Int.mul_add, ← Int.mul_add]; congr 1; omega
    unfold nearB at hs hn
    rw [decide_eq_true_iff] at hs hn
    generalize n * (b / 2) = S at *
    have t1 : wrap64 (S + S) = S + S := w64 (by omega) (by omega)
    have t2 : wrap64 (S + S + n) = S + S + n := w64 (by omega) (by omega)
    have step : ∀ T : Int, T = n * b → ((punnetref02_Near.f T).bind fun t => if t = true then punnetref02_Worth.l0 k n w T (wrap64 (Int.tdiv ((2 ^ (j + 1) : Nat) : Int) 2)) else some (0, 3)) = some (wout n w) := by
      intro T hT
      rw [near_is, Option.bind_some, hT, htd]
      by_cases c : nearB (n * b) = true
      · rw [if_pos c]
        exact hih c
      · rw [if_neg c]
        unfold wout
        rw [if_neg (by rw [far_more hbw hle (by simpa using c)]; simp)]
    rw [punnetref02_Worth.l0, if_pos hp, if_neg (by omega), Int.tdiv_eq_ediv_of_nonneg (by omega), hbd, w64 (x := b) (by omega) (by omega), Int.tmod_eq_emod_of_nonneg hbw, t1]
    by_cases c : b % 2 = 1
    · rw [if_pos c, t2]
      rw [c, Int.mul_one] at hb
      exact step _ hb.symm
    · rw [if_neg c]
      rw [show b % 2 = 0 by omega, Int.mul_zero, Int.add_zero] at hb
      exact step _ hb.symm
theorem refWorth_is (n w : Int) (hw0 : 1 ≤ w) (hw1 : w ≤ 1048576) : punnetref02_Worth.f 40 n w = some (wout n w) := by
  unfold punnetref02_Worth.f
  rw [if_neg (by omega), decide_eq_false (by omega), punnetref02_Worth.j0, if_neg (by simp), near_is, Option.bind_some]
  by_cases c : nearB n = true
  · rw [if_pos c]
    have e : w / ((2 ^ (20 + 1) : Nat) : Int) = 0 := Int.ediv_eq_zero_of_lt (by omega) (by omega)
    have := worth_loop n w c hw0 hw1 20 39 (by omega) (by omega) (by rw [e, Int.mul_zero]; decide)
    rw [e, Int.mul_zero] at this
    exact this
  · rw [if_neg c]
    unfold wout
    rw [if_neg]
    have h1 : nearB (n * 1) = false := by rw [Int.mul_one]; simpa using c
    rw [far_more (by omega) hw0 h1]
    simp
theorem worth_is (n w : Int) (hw0 : 1 ≤ w) (hw1 : w ≤ 1048576) : pack_Worth.f 40 n w = some (wout n w) := by
  have hq0 : 0 ≤ 4503599627370496 / w := Int.ediv_nonneg (by omega) (by omega)
  have hq1 : 4503599627370496 / w ≤ 4503599627370496 := Int.ediv_le_self _ (by omega)
  have hm : w * (4503599627370496 / w) ≤ 4503599627370496 := Int.mul_ediv_self_le (by omega)
  have hl : 4503599627370496 < w * (4503599627370496 / w) + w := Int.lt_mul_ediv_self_add (by omega)
  unfold pack_Worth.f
  rw [if_neg (by omega), decide_eq_false (by omega), pack_Worth.j0, if_neg (by simp), if_neg (by omega), Int.tdiv_eq_ediv_of_nonneg (by omega)]
  generalize 4503599627370496 / w = Q at *
  rw [w64 (x := Q) (by omega) (by omega), w64 (x := -Q) (by omega) (by omega)]
  unfold wout
  by_cases c1 : n > Q
  · rw [if_pos c1, if_neg]
    have : w * (Q + 1) ≤ w * n := Int.mul_le_mul_of_nonneg_left (by omega) (by omega)
    rw [Int.mul_add, Int.mul_one, Int.mul_comm w n] at this
    unfold nearB
    simp
    omega
  · rw [if_neg c1]
    by_cases c2 : n < -Q
    · rw [if_pos c2, if_neg]
      have : w * (Q + 1) ≤ w * (-n) := Int.mul_le_mul_of_nonneg_left (by omega) (by omega)
      rw [Int.mul_add, Int.mul_one, Int.mul_neg, Int.mul_comm w n] at this
      unfold nearB
      simp
      omega
    · rw [if_neg c2]
      have h1 : w * n ≤ w * Q := Int.mul_le_mul_of_nonneg_left (by omega) (by omega)
      have h2 : w * (-n) ≤ w * Q := Int.mul_le_mul_of_nonneg_left (by omega) (by omega)
      rw [Int.mul_comm w n] at h1
      rw [Int.mul_neg, Int.mul_comm w n] at h2
      rw [if_pos (by unfold nearB; rw [decide_eq_true_iff]; omega), w64 (by omega) (by omega)]
theorem PackWorths : punnetlaw02_PackWorths.Pure := by
  intro n w hn hw
  refine ⟨40, ?_⟩
  unfold punnetlaw02_PackWorths.f
  rw [awake02, Option.bind_some, if_pos rfl]
  by_cases c1 : w < 1
  · have e1 : pack_Worth.f 40 n w = some (0, 2) := by unfold pack_Worth.f; rw [if_pos c1, pack_Worth.j0, if_pos rfl]
    have e2 : punnetref02_Worth.f 40 n w = some (0, 2) := by unfold punnetref02_Worth.f; rw [if_pos c1, punnetref02_Worth.j0, if_pos rfl]
    rw [e1, Option.bind_some, e2, Option.bind_some]
    rfl
  · by_cases c2 : w > 1048576
    · have e1 : pack_Worth.f 40 n w = some (0, 2) := by unfold pack_Worth.f; rw [if_neg c1, decide_eq_true c2, pack_Worth.j0, if_pos rfl]
      have e2 : punnetref02_Worth.f 40 n w = some (0, 2) := by unfold punnetref02_Worth.f; rw [if_neg c1, decide_eq_true c2, punnetref02_Worth.j0, if_pos rfl]
      rw [e1, Option.bind_some, e2, Option.bind_some]
      rfl
    · rw [worth_is n w (by omega) (by omega), Option.bind_some, refWorth_is n w (by omega) (by omega), Option.bind_some, if_pos rfl]
      simp
end Go.Proofs.Ytjaefcinaackeaa.Pure
