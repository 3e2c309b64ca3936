/- What the program's and the document's functions for putting numbers as bytes come to, as lists. Conditions: the numbers are of their kinds, the list before has room, as typed. -/
import Derived.Test.YtmmofckknopaaaaQ3
import Derived.Test.YtmmofckknopaaaaQ20
import Derived.Test.YtmmofckknopaaaaQ23
import Derived.Test.YtmmofckknopaaaaPureCodeTurns
import Derived.Lib.Bytes
namespace Go.Proofs.Ytmmofckknopaaaa.Pure
open Go.RowKit Go.Proofs.Ytmmofckknopaaaa.Q Go.Proofs.Ytmmofckknopaaaa.Bits Go.Proofs.YtmmofckknopaaaaW.PrintWords Go.Proofs.YtmmofckknopaaaaW.PrintLast

theorem wrap64_id {x : Int} (h0 : -9223372036854775808 ≤ x) (h1 : x ≤ 9223372036854775807) : wrap64 x = x := by unfold wrap64; omega
theorem wrap_u64_id {x : Int} (h0 : 0 ≤ x) (h1 : x < 18446744073709551616) : IntKind.u64.wrap x = x := by rw [wrap_u64]; omega

def le : Nat → Int → List Int
  | 0, _ => []
  | k + 1, u => u % 256 :: le k (u / 256)
theorem le_length (k : Nat) : ∀ u, (le k u).length = k := by
  induction k with
  | zero => intro u; rfl
  | succ k ih => intro u; simp [le, ih]

theorem put_l0 (d : Nat) : ∀ (k : Nat) (xs : List Int) (u i : Int), 0 ≤ u → u < 18446744073709551616 → i = 8 - d → d ≤ 8 → d < k → xs.length + d < 140737488355328 → code_Put.l0 k xs u i = some (xs ++ le d u) := by
  induction d with
  | zero =>
    intro k xs u i h0 h1 hi hd hk hl
    obtain ⟨k, rfl⟩ : ∃ m, k = m + 1 := ⟨k - 1, by omega⟩
    simp only [code_Put.l0, le, List.append_nil]
    rw [if_neg (by omega)]
  | succ d ih =>
    intro k xs u i h0 h1 hi hd hk hl
    obtain ⟨k, rfl⟩ : ∃ m, k = m + 1 := ⟨k - 1, by omega⟩
    simp only [code_Put.l0, le]
    rw [if_pos (by omega), if_pos (by omega), wrap64_id (by omega) (by omega)]
    rw [ih k _ _ _ (by omega) (by omega) (by omega) (by omega) (by omega) (by simp; omega)]
    simp

theorem ref_put_l0 (d : Nat) : ∀ (k : Nat) (a : Int) (xs : List Int) (u i : Int), 0 ≤ u → u < 18446744073709551616 → i = 8 - d → d ≤ 8 → d + 1 < k → xs.length + d < 140737488355328 → punnetref04_Put.l0 k 1 a xs u i = some (xs ++ le d u) := by
  induction d with
  | zero =>
    intro k a xs u i h0 h1 hi hd hk hl
    obtain ⟨k, rfl⟩ : ∃ m, k = m + 1 + 1 := ⟨k - 2, by omega⟩
    simp only [punnetref04_Put.l0, punnetref04_Put.j1, le, List.append_nil]
    rw [if_neg (by omega), if_neg (by omega)]
  | succ d ih =>
    intro k a xs u i h0 h1 hi hd hk hl
    obtain ⟨k, rfl⟩ : ∃ m, k = m + 1 := ⟨k - 1, by omega⟩
    simp only [punnetref04_Put.l0, le]
    rw [if_pos (by omega), if_pos (by omega), wrap64_id (by omega) (by omega)]
    rw [Int.tmod_eq_emod_of_nonneg h0, Int.tdiv_eq_ediv_of_nonneg h0, wrap_u64_id (by omega) (by omega)]
    rw [ih k _ _ _ _ (by omega) (by omega) (by omega) (by omega) (by omega) (by simp; omega)]
    simp

/-- The bytes of a number, seven bits each. -/
def vb (n : Nat) : List Int := if n < 128 then [(n : Int)] else ((n % 128 + 128 : Nat) : Int) :: vb (n / 128)
termination_by n
theorem vb_small {n : Nat} (h : n < 128) : vb n = [(n : Int)] := by rw [vb, if_pos h]
theorem vb_big {n : Nat} (h : ¬ n < 128) : vb n = ((n % 128 + 128 : Nat) : Int) :: vb (n / 128) := by rw [vb, if_neg h]

theorem vary_l0 (m : Nat) : ∀ (k : Nat) (xs : List Int) (n : Nat), n < 128 ^ (m + 1) → n < 18446744073709551616 → m < k → xs.length + m < 140737488355328 → code_vary.l0 k xs (n : Int) = some (xs ++ vb n) := by
  induction m with
  | zero =>
    intro k xs n h h2 hk hl
    obtain ⟨k, rfl⟩ : ∃ m, k = m + 1 := ⟨k - 1, by omega⟩
    simp only [code_vary.l0]
    rw [if_pos (by omega), if_pos (by omega), vb_small (by omega), show (n : Int) % 256 = n by omega]
  | succ m ih =>
    intro k xs n h h2 hk hl
    obtain ⟨k, rfl⟩ : ∃ m, k = m + 1 := ⟨k - 1, by omega⟩
    simp only [code_vary.l0]
    by_cases hn : n < 128
    · rw [if_pos (by omega), if_pos (by omega), vb_small (by omega), show (n : Int) % 256 = n by omega]
    · rw [if_neg (by omega), if_pos (by omega), vb_big hn, and_127 _ (by omega) (by omega), or_128 _ (by omega) (by omega)]
      have e : ((n : Int) / 128) = ((n / 128 : Nat) : Int) := by omega
      rw [e, ih k _ _ (by rw [Nat.pow_succ] at h; omega) (by omega) (by omega) (by simp; omega)]
      rw [show (((n : Int) % 128 + 128) % 256) = ((n % 128 + 128 : Nat) : Int) by omega]
      simp

theorem ref_put_l1 (m : Nat) : ∀ (k : Nat) (xs : List Int) (n : Nat), n < 128 ^ (m + 1) → n < 18446744073709551616 → m < k → xs.length + m < 140737488355328 → punnetref04_Put.l1 k xs (n : Int) = some (xs ++ vb n) := by
  induction m with
  | zero =>
    intro k xs n h h2 hk hl
    obtain ⟨k, rfl⟩ : ∃ m, k = m + 1 := ⟨k - 1, by omega⟩
    simp only [punnetref04_Put.l1]
    rw [if_neg (by omega), if_pos (by omega), vb_small (by omega), show (n : Int) % 256 = n by omega]
  | succ m ih =>
    intro k xs n h h2 hk hl
    obtain ⟨k, rfl⟩ : ∃ m, k = m + 1 := ⟨k - 1, by omega⟩
    simp only [punnetref04_Put.l1]
    by_cases hn : n < 128
    · rw [if_neg (by omega), if_pos (by omega), vb_small (by omega), show (n : Int) % 256 = n by omega]
    · rw [if_pos (by omega), if_pos (by omega), vb_big hn, Int.tmod_eq_emod_of_nonneg (by omega), Int.tdiv_eq_ediv_of_nonneg (by omega), wrap_u64_id (by omega) (by omega), wrap_u64_id (by omega) (by omega)]
      have e : ((n : Int) / 128) = ((n / 128 : Nat) : Int) := by omega
      rw [e, ih k _ _ (by rw [Nat.pow_succ] at h; omega) (by omega) (by omega) (by simp; omega)]
      rw [show ((128 + (n : Int) % 128) % 256) = ((n % 128 + 128 : Nat) : Int) by omega]
      simp

/-- A number's bytes, in a format; none where it is none. -/
def enc (format n : Int) : List Int := if format = 1 then le 8 (n % 18446744073709551616) else if format = 2 then vb (tn n).toNat else []

theorem code_Put_is {k : Nat} {xs : List Int} {format n : Int} (h : -9223372036854775808 ≤ n ∧ n ≤ 9223372036854775807) (hk : 10 ≤ k) (hl : xs.length + 9 < 140737488355328) : code_Put.f k xs format n = some (xs ++ enc format n) := by
  unfold code_Put.f enc
  by_cases h1 : format = 1
  · rw [if_pos h1, if_pos h1, wrap_u64, put_l0 8 k xs _ 0 (by omega) (by omega) (by omega) (by omega) (by omega) (by omega)]
  · rw [if_neg h1, if_neg h1]
    by_cases h2 : format = 2
    · rw [if_pos h2, if_pos h2, code_Turn_is h]
      have ht := tn_range h
      simp only [Option.bind_some, code_vary.f]
      obtain ⟨t, e⟩ : ∃ t : Nat, tn n = t := ⟨(tn n).toNat, by omega⟩
      rw [e, Int.toNat_natCast, vary_l0 9 k xs _ (by show _ < 1180591620717411303424; omega) (by omega) (by omega) (by omega)]
      rfl
    · rw [if_neg h2, if_neg h2]; simp
theorem ref_Put_is {k : Nat} {format n : Int} (h : -9223372036854775808 ≤ n ∧ n ≤ 9223372036854775807) (hk : 11 ≤ k) : punnetref04_Put.f k format n = some (enc format n) := by
  unfold punnetref04_Put.f enc
  simp only [Option.bind_some]
  by_cases h1 : format = 1
  · subst h1
    rw [if_pos rfl, if_pos rfl, wrap_u64, ref_put_l0 8 k n [] _ 0 (by omega) (by omega) (by omega) (by omega) (by omega) (by simp)]
    simp
  · rw [if_neg h1, if_neg h1]
    obtain ⟨k, rfl⟩ : ∃ m, k = m + 1 := ⟨k - 1, by omega⟩
    simp only [punnetref04_Put.j1]
    by_cases h2 : format = 2
    · rw [if_pos h2, if_pos h2, ref_Turn_is h]
      have ht := tn_range h
      simp only [Option.bind_some]
      obtain ⟨t, e⟩ : ∃ t : Nat, tn n = t := ⟨(tn n).toNat, by omega⟩
      rw [e, Int.toNat_natCast, ref_put_l1 9 k [] _ (by show _ < 1180591620717411303424; omega) (by omega) (by omega) (by simp)]
      rfl
    · rw [if_neg h2, if_neg h2]
theorem vb_len (m : Nat) : ∀ n, n < 128 ^ (m + 1) → 1 ≤ (vb n).length ∧ (vb n).length ≤ m + 1 := by
  induction m with
  | zero => intro n h; rw [vb_small (by omega)]; simp
  | succ m ih =>
    intro n h
    by_cases hn : n < 128
    · rw [vb_small hn]; simp
    · rw [vb_big hn]
      have := ih (n / 128) (by rw [Nat.pow_succ] at h; omega)
      simp; omega
theorem enc_len {format n : Int} (h : -9223372036854775808 ≤ n ∧ n ≤ 9223372036854775807) : (enc format n).length ≤ 10 := by
  unfold enc
  have ht := tn_range h
  split
  · rw [le_length]; omega
  · split
    · exact (vb_len 9 _ (by show _ < 1180591620717411303424; omega)).2
    · simp
theorem strOfNums_append (a b : List Int) : strOfNums (a ++ b) = strOfNums a ++ strOfNums b := by
  apply ByteArray.ext
  simp [strOfNums]
end Go.Proofs.Ytmmofckknopaaaa.Pure
