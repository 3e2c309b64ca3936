/- A few turned bits are told: by the made table the sums of a text, and of the same with bits within 32 in a row turned, are unlike; for texts of up to 3000 bytes, and true beyond. No further condition. -/
import Derived.Test.YtcgbcnalofecgaaQ14
import Derived.Test.YtcgbcnalofecgaaMade
namespace Go.Proofs.Ytcgbcnalofecgaa.Pure
open Go.RowKit Go.Proofs.Ytcgbcnalofecgaa.Q Go.Proofs.Ytcgbcnalofecgaa.Sum Go.Proofs.Ytcgbcnalofecgaa.Made Go.Proofs.YtcgbcnalofecgaaW.PrintWords Go.Proofs.YtcgbcnalofecgaaW.PrintLast Go.Proofs.YtcgbcnalofecgaaW.PrintMore

theorem tells_step (b x : List Int) (base n k : Nat) (a2 : Int) (h2 : 0 ≤ a2) (same : Bool) (hx : Bytes x) (hl : x.length = b.length) (h3 : b.length ≤ 3000) (hbase : base ≤ 8 * b.length) (hn : n < 32) :
    punnetlaw06_SumTells.l0 (k + 1) b base a2 x same n = if a2.toNat / 2 ^ n % 2 = 1 ∧ n < 8 * b.length - base then punnetlaw06_SumTells.l0 k b base a2 (turn x (base + n)) false (n + 1 : Nat) else punnetlaw06_SumTells.l0 k b base a2 x same (n + 1 : Nat) := by
  have hi0 : (0 : Int) ≤ (((base + n) / 8 : Nat) : Int) := Int.natCast_nonneg _
  have hi2 : (0 : Int) ≤ (((base + n) % 8 : Nat) : Int) := Int.natCast_nonneg _
  have hn32 : (n : Int) < 32 := by omega
  have hu : (0 : Int) ≤ IntKind.u64.wrap (n : Int) := by
    rw [show IntKind.u64.wrap (n : Int) = (n : Int) % 18446744073709551616 by simp [IntKind.wrap, IntKind.bits, IntKind.signed]]
    omega
  have htb := turn_bit h2 (k := n) hn
  have hi1 : base + n < 8 * b.length → (((base + n) / 8 : Nat) : Int) < (x.length : Int) := by omega
  have hlt : base + n < 8 * b.length → ((base + n : Nat) : Int) < ((8 * b.length : Nat) : Int) := by omega
  have hge : ¬ base + n < 8 * b.length → ¬ ((base + n : Nat) : Int) < ((8 * b.length : Nat) : Int) := by omega
  have hk : n < 8 * b.length - base ↔ base + n < 8 * b.length := by omega
  have hw : wrap64 ((n : Int) + 1) = ((n + 1 : Nat) : Int) := by unfold wrap64; omega
  have hN : wrap64 (8 * (b.length : Int)) = ((8 * b.length : Nat) : Int) := by unfold wrap64; omega
  have e : wrap64 ((base : Int) + (n : Int)) = ((base + n : Nat) : Int) := by clear hw hN; unfold wrap64; omega
  obtain ⟨p1, p2, p3⟩ := turn_place e
  rw [e] at p1 p2 p3
  rw [punnetlaw06_SumTells.l0, if_pos hn32, if_pos hu, hw, hN, e, p1, p2, p3]
  by_cases ht : a2.toNat / 2 ^ n % 2 = 1
  · rw [if_pos (htb.mpr ht)]
    by_cases hr : base + n < 8 * b.length
    · rw [if_pos (hlt hr), if_pos hi0, if_pos (hi1 hr), if_pos hi2, turn_set x hx, if_pos ⟨ht, hk.2 hr⟩]
    · rw [if_neg (hge hr), if_neg (fun c => hr (hk.1 c.2))]
  · rw [if_neg (fun c => ht (htb.mp c)), if_neg (fun c => ht c.1)]
theorem tells_loop (b : List Int) (hb : Bytes b) (h3 : b.length ≤ 3000) (base : Nat) (hbase : base ≤ 8 * b.length) (a2 : Int) (h2 : 0 ≤ a2) : ∀ (d n : Nat) (x : List Int) (same : Bool) (k : Nat), n + d = 32 → d + b.length + 5 < k →
    Turned b x base (8 * b.length - base) a2.toNat n same → punnetlaw06_SumTells.l0 k b base a2 x same n = some true := by
  intro d
  induction d with
  | zero =>
    intro n x same k hn hk h
    obtain ⟨k, rfl⟩ : ∃ m, k = m + 1 := ⟨k - 1, by omega⟩
    have hn32 : n = 32 := by omega
    subst hn32
    simp only [punnetlaw06_SumTells.l0]
    rw [if_neg (by omega), show sum_Make.f = some madeTab from rfl, Option.bind_some, Of_is madeTab h.bytes (by rw [h.len]; omega) (by rw [h.len]; omega), Option.bind_some, Of_is madeTab hb (by omega) (by omega), Option.bind_some]
    exact congrArg some (h.tells hb (by omega))
  | succ d ih =>
    intro n x same k hn hk h
    obtain ⟨k, rfl⟩ : ∃ m, k = m + 1 := ⟨k - 1, by omega⟩
    have hroom : base + (8 * b.length - base) ≤ 8 * b.length := by omega
    have h1 : n + 1 + d = 32 := by omega
    have h5 : d + b.length + 5 < k := by omega
    rw [tells_step b x base n k a2 h2 same h.bytes h.len h3 hbase (by omega)]
    by_cases ht : a2.toNat / 2 ^ n % 2 = 1 ∧ n < 8 * b.length - base
    · rw [if_pos ht]
      exact ih (n + 1) _ false k h1 h5 (h.turn ht.1 ht.2 hroom)
    · rw [if_neg ht]
      exact ih (n + 1) x same k h1 h5 (h.skip ht)
theorem SumTells : punnetlaw06_SumTells.Pure := by
  intro b a1 a2 hml hlen hl hw1 hw2
  have hb := bytes_wf hl
  have h1 := i64_wf hw1
  have h2 := u32_wf hw2
  refine ⟨b.length + 60, ?_⟩
  unfold punnetlaw06_SumTells.f
  rw [show punnetlaw06_awake.f = some true from rfl, Option.bind_some, if_pos rfl]
  have out : ∀ k x1 x2, punnetlaw06_SumTells.j0 (k + 1) b x1 x2 true = some true := by intro k x1 x2; simp only [punnetlaw06_SumTells.j0]; rw [if_pos trivial]
  by_cases h3 : (b.length : Int) > 3000
  · rw [if_pos h3]; exact out _ _ _
  · rw [if_neg h3]
    by_cases h4 : a1 < 0
    · rw [if_pos h4]; exact out _ _ _
    · rw [if_neg h4, show wrap64 (8 * (b.length : Int)) = 8 * (b.length : Int) by unfold wrap64; omega]
      by_cases h5 : a1 > 8 * (b.length : Int)
      · rw [if_pos h5]; exact out _ _ _
      · rw [if_neg h5]
        by_cases h6 : a2 = 0
        · rw [show (a2 == 0) = true by simp [h6]]; exact out _ _ _
        · rw [show (a2 == 0) = false by simp [h6]]
          simp only [punnetlaw06_SumTells.j0]
          rw [if_neg (by simp), Option.bind_some, if_pos (by simp; omega)]
          have := tells_loop b hb (by omega) a1.toNat (by omega) a2 h2.1 32 0 b true (b.length + 59) (by omega) (by omega) (Turned.begin hb _ _ _)
          rw [show ((a1.toNat : Nat) : Int) = a1 by omega] at this
          exact this
end Go.Proofs.Ytcgbcnalofecgaa.Pure
