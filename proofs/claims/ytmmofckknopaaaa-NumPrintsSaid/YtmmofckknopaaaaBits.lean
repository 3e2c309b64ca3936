/- Plain facts on bits and wraps of 64 bits: what turning a number comes to. Condition: the numbers lie within their kinds, as typed. -/
import Derived.Laws.BitsAllLaws
import Derived.Laws.BitsLemmas
import Derived.Test.YtmmofckknopaaaaQ0
namespace Go.Proofs.Ytmmofckknopaaaa.Bits
open Go.RowKit Go.Proofs.YtmmofckknopaaaaW.PrintWords Go.Proofs.YtmmofckknopaaaaW.PrintLast Go.Proofs.YtmmofckknopaaaaW.PrintMore

theorem wrap_u64 (n : Int) : IntKind.u64.wrap n = n % 18446744073709551616 := by simp [IntKind.wrap, IntKind.bits, IntKind.signed]
theorem i64_wf {a : Int} (h : (Lit.int .i64 a).wf = true) : -9223372036854775808 ≤ a ∧ a ≤ 9223372036854775807 := by
  simp [Lit.wf, IntKind.min, IntKind.max, IntKind.bits, IntKind.signed] at h; omega
theorem u64_wf {a : Int} (h : (Lit.int .u64 a).wf = true) : 0 ≤ a ∧ a < 18446744073709551616 := by
  simp [Lit.wf, IntKind.min, IntKind.max, IntKind.bits, IntKind.signed] at h; omega
theorem u8_wf {a : Int} (h : (Lit.int .u8 a).wf = true) : 0 ≤ a ∧ a < 256 := by
  simp [Lit.wf, IntKind.min, IntKind.max, IntKind.bits, IntKind.signed] at h; omega

theorem xor_ones (x : Int) (h0 : 0 ≤ x) (h1 : x < 18446744073709551616) : bits .xor .u64 x 18446744073709551615 = 18446744073709551615 - x := by
  rw [u64_xor x _ h0 h1 (by omega) (by omega)]
  have h := BitVec.toNat_not (x := BitVec.ofNat 64 x.toNat)
  rw [← BitVec.xor_allOnes, BitVec.toNat_xor, BitVec.toNat_ofNat, BitVec.toNat_allOnes] at h
  have e : x.toNat % 2 ^ 64 = x.toNat := Nat.mod_eq_of_lt (by omega)
  rw [e] at h
  have e2 : (18446744073709551615 : Int).toNat = 2 ^ 64 - 1 := by decide
  rw [e2, h]
  omega
theorem xor_zero (x : Int) (h0 : 0 ≤ x) (h1 : x < 18446744073709551616) : bits .xor .u64 x 0 = x := by
  rw [u64_xor x _ h0 h1 (by omega) (by omega)]
  simp; omega
theorem i64_xor_zero (x : Int) (h0 : 0 ≤ x) (h1 : x < 9223372036854775808) : bits .xor .i64 x 0 = x := by
  show IntKind.i64.wrap ((BitVec.ofInt 64 x ^^^ BitVec.ofInt 64 0).toNat : Int) = _
  have e : (BitVec.ofInt 64 0) = 0#64 := by decide
  rw [e, BitVec.xor_zero]
  obtain ⟨n, rfl⟩ := Int.eq_ofNat_of_zero_le h0
  rw [BitVec.ofInt_natCast, BitVec.toNat_ofNat, IntKind.wrap_i64]
  omega
theorem i64_xor_ones (x : Int) (h0 : 0 ≤ x) (h1 : x < 9223372036854775808) : bits .xor .i64 x (-1) = -x - 1 := by
  show IntKind.i64.wrap ((BitVec.ofInt 64 x ^^^ BitVec.ofInt 64 (-1)).toNat : Int) = _
  have e : (BitVec.ofInt 64 (-1)) = BitVec.allOnes 64 := by decide
  rw [e, BitVec.xor_allOnes, BitVec.toNat_not]
  obtain ⟨n, rfl⟩ := Int.eq_ofNat_of_zero_le h0
  rw [BitVec.ofInt_natCast, BitVec.toNat_ofNat, IntKind.wrap_i64]
  omega
theorem and_one (x : Int) (h0 : 0 ≤ x) (h1 : x < 18446744073709551616) : bits .and .u64 x 1 = x % 2 := by
  rw [u64_and x _ h0 h1 (by omega) (by omega)]
  have := nat_mask1 x.toNat
  simp only [show (1 : Int).toNat = 1 from rfl, this]; omega
theorem and_127 (x : Int) (h0 : 0 ≤ x) (h1 : x < 18446744073709551616) : bits .and .u64 x 127 = x % 128 := by
  rw [u64_and x _ h0 h1 (by omega) (by omega)]
  have := nat_mask7 x.toNat
  simp only [show (127 : Int).toNat = 127 from rfl, this]; omega
theorem or_128 (x : Int) (h0 : 0 ≤ x) (h1 : x < 128) : bits .or .u64 x 128 = x + 128 := by
  rw [u64_or x _ h0 (by omega) (by omega) (by omega), Nat.or_comm]
  have := nat_join 7 128 x.toNat (by decide) (by omega)
  simp only [show (128 : Int).toNat = 128 from rfl, this]; omega

/-- Turned. -/
def tn (n : Int) : Int := if 0 ≤ n then 2 * n else -2 * n - 1
/-- Turned back. -/
def bk (u : Int) : Int := if u % 2 = 0 then u / 2 else -(u / 2) - 1
theorem tn_range {n : Int} (h : -9223372036854775808 ≤ n ∧ n ≤ 9223372036854775807) : 0 ≤ tn n ∧ tn n < 18446744073709551616 := by unfold tn; split <;> omega
theorem bk_range {u : Int} (h : 0 ≤ u ∧ u < 18446744073709551616) : -9223372036854775808 ≤ bk u ∧ bk u ≤ 9223372036854775807 := by unfold bk; split <;> omega
theorem bk_tn (n : Int) : bk (tn n) = n := by unfold bk tn; split <;> split <;> omega
theorem tn_bk {u : Int} (h : 0 ≤ u) : tn (bk u) = u := by unfold bk tn; split <;> split <;> omega
end Go.Proofs.Ytmmofckknopaaaa.Bits
