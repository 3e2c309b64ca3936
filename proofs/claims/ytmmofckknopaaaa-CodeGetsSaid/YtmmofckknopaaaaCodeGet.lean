/- What the program's and the document's functions for getting numbers out of bytes come to; both come to the same. Conditions: bytes from 0 to 255, at most 2000 of them, as typed. -/
import Derived.Test.YtmmofckknopaaaaCode
import Derived.Test.YtmmofckknopaaaaQ19
import Derived.Test.YtmmofckknopaaaaQ21
namespace Go.Proofs.Ytmmofckknopaaaa.Pure
open Go.RowKit Go.Proofs.Ytmmofckknopaaaa.Q Go.Proofs.Ytmmofckknopaaaa.Bits Go.Proofs.YtmmofckknopaaaaW.PrintWords Go.Proofs.YtmmofckknopaaaaW.PrintLast Go.Proofs.YtmmofckknopaaaaW.PrintMore

def Bytes (l : List Int) : Prop := ∀ x ∈ l, 0 ≤ x ∧ x < 256
theorem Bytes.drop {l : List Int} (h : Bytes l) (n : Nat) : Bytes (l.drop n) := fun x hx => h x (List.mem_of_mem_drop hx)
theorem Bytes.take {l : List Int} (h : Bytes l) (n : Nat) : Bytes (l.take n) := fun x hx => h x (List.mem_of_mem_take hx)
theorem drop_cons {l : List Int} {n : Nat} (h : n < l.length) : l.drop n = rd l (n : Int) :: l.drop (n + 1) := by
  rw [List.drop_eq_getElem_cons h]
  congr 1
  simp [rd, List.getD_eq_getElem?_getD, List.getElem?_eq_getElem h]

theorem rd_eq {l : List Int} {n : Nat} (h : n < l.length) : rd l (n : Int) = l[n] := by
  unfold rd
  rw [Int.toNat_natCast, List.getD_eq_getElem?_getD, List.getElem?_eq_getElem h, Option.getD_some]
theorem rd_mem {l : List Int} {n : Nat} (h : n < l.length) : rd l (n : Int) ∈ l := by
  simp [rd, List.getD_eq_getElem?_getD, List.getElem?_eq_getElem h]
theorem or_shl (j : Nat) (u x y : Int) (hy : y = j) (hj : j ≤ 64) (hu : 0 ≤ u) (hu1 : u < 2 ^ j) (hx0 : 0 ≤ x) (hx : x * 2 ^ j < 18446744073709551616) :
    bits .or .u64 u (shl .u64 x y) = u + x * 2 ^ j := by
  subst hy
  have hp : (2 : Int) ^ j ≤ 2 ^ 64 := by
    have h : (2 : Nat) ^ j ≤ 2 ^ 64 := Nat.pow_le_pow_right (by decide) hj
    have h2 : ((2 ^ j : Nat) : Int) ≤ ((2 ^ 64 : Nat) : Int) := by omega
    rw [Int.natCast_pow, Int.natCast_pow] at h2
    exact h2
  have hp2 : (2 : Int) ^ 64 = 18446744073709551616 := by decide
  have h0 : 0 ≤ x * 2 ^ j := Int.mul_nonneg hx0 (Int.pow_nonneg (by decide))
  have e : shl .u64 x (j : Int) = x * 2 ^ j := by
    unfold shl
    rw [Int.toNat_natCast, show min j (IntKind.u64.bits) = j from Nat.min_eq_left hj, wrap_u64_id h0 hx]
  rw [e, u64_or u _ hu (by omega) h0 hx]
  have e2 : (x * 2 ^ j).toNat = x.toNat * 2 ^ j := by
    obtain ⟨n, rfl⟩ := Int.eq_ofNat_of_zero_le hx0
    have : ((n : Int) * 2 ^ j) = ((n * 2 ^ j : Nat) : Int) := by rw [Int.natCast_mul, Int.natCast_pow]; rfl
    rw [this, Int.toNat_natCast, Int.toNat_natCast]
  have e3 : u.toNat < 2 ^ j := by
    have h : ((u.toNat : Nat) : Int) < ((2 ^ j : Nat) : Int) := by rw [Int.natCast_pow]; rw [Int.toNat_of_nonneg hu]; exact hu1
    omega
  rw [Nat.or_comm, nat_join j _ _ (by rw [e2]; exact Nat.mul_mod_left _ _) e3]
  omega

/-! ### The first format -/
def leval : List Int → Int
  | [] => 0
  | b :: r => b + 256 * leval r
theorem leval_range {l : List Int} (h : Bytes l) : 0 ≤ leval l ∧ leval l < 256 ^ l.length := by
  induction l with
  | nil => simp [leval]
  | cons b r ih =>
    have hb := h b (by simp)
    have hr := ih (fun x hx => h x (by simp [hx]))
    simp only [leval, List.length_cons, Int.pow_succ]
    omega
theorem leval_snoc (a : List Int) (b : Int) : leval (a ++ [b]) = leval a + 256 ^ a.length * b := by
  induction a with
  | nil => simp [leval]
  | cons x r ih =>
    simp only [List.cons_append, leval, ih, List.length_cons, Int.pow_succ]
    rw [Int.mul_add, ← Int.mul_assoc, Int.mul_comm 256 (256 ^ r.length)]; omega

theorem fixed_l0 (l : List Int) (hb : Bytes l) (hl : l.length ≤ 2000) (at_ : Nat) (ha : at_ + 8 ≤ l.length) (d : Nat) : ∀ (k i : Nat) (u : Int), i + d = 8 → d < k → 0 ≤ u → u < 256 ^ i →
    code_fixed.l0 k l at_ u i = some (wrap64 (u + 256 ^ i * leval ((l.drop (at_ + i)).take d)), (at_ : Int) + 8, 0) := by
  induction d with
  | zero =>
    intro k i u hi hk h0 h1
    obtain ⟨k, rfl⟩ : ∃ m, k = m + 1 := ⟨k - 1, by omega⟩
    simp only [code_fixed.l0, List.take_zero, leval]
    rw [if_neg (by omega), wrap64_id (x := (at_ : Int) + 8) (by omega) (by omega)]
    simp
  | succ d ih =>
    intro k i u hi hk h0 h1
    obtain ⟨k, rfl⟩ : ∃ m, k = m + 1 := ⟨k - 1, by omega⟩
    have hlt : at_ + i < l.length := by omega
    have hx := hb (rd l ((at_ + i : Nat) : Int)) (rd_mem hlt)
    simp only [code_fixed.l0]
    rw [if_pos (by omega), wrap64_id (x := (at_ : Int) + i) (by omega) (by omega), if_pos (by omega), if_pos (by omega), wrap64_id (x := 8 * (i : Int)) (by omega) (by omega), if_pos (by omega)]
    rw [show (at_ : Int) + i = ((at_ + i : Nat) : Int) by omega, wrap_u64_id hx.1 (by omega), wrap64_id (x := (i : Int) + 1) (by omega) (by omega)]
    have hp : (2 : Int) ^ (8 * i) = 256 ^ i := by rw [Int.pow_mul]; rfl
    have h256 : (256 : Int) ^ (i + 1) ≤ 18446744073709551616 := by
      have h : (256 : Nat) ^ (i + 1) ≤ 256 ^ 8 := Nat.pow_le_pow_right (by decide) (by omega)
      have h2 : ((256 ^ (i + 1) : Nat) : Int) ≤ ((256 ^ 8 : Nat) : Int) := by omega
      rw [Int.natCast_pow, Int.natCast_pow] at h2
      exact h2
    have hpos : (0 : Int) < 256 ^ i := Int.pow_pos (by decide)
    have hm : rd l ((at_ + i : Nat) : Int) * 256 ^ i ≤ 255 * 256 ^ i := Int.mul_le_mul_of_nonneg_right (by omega) (by omega)
    have hm0 : 0 ≤ rd l ((at_ + i : Nat) : Int) * 256 ^ i := Int.mul_nonneg hx.1 (by omega)
    rw [Int.pow_succ] at h256
    rw [or_shl (8 * i) u _ _ (by omega) (by omega) h0 (by rw [hp]; exact h1) hx.1 (by rw [hp]; omega), hp]
    rw [show ((i : Int) + 1) = ((i + 1 : Nat) : Int) by omega]
    rw [ih k (i + 1) _ (by omega) (by omega) (by omega) (by rw [Int.pow_succ]; omega)]
    rw [drop_cons hlt, List.take_succ_cons, leval, Int.pow_succ, show at_ + i + 1 = at_ + (i + 1) by omega]
    congr 3
    rw [Int.mul_add, Int.mul_comm (rd l ((at_ + i : Nat) : Int)), Int.mul_assoc]; omega

theorem ref_get_l0 (l : List Int) (hb : Bytes l) (hl : l.length ≤ 2000) (at_ : Nat) (ha : at_ + 8 ≤ l.length) (d : Nat) : ∀ (k : Nat) (u i : Int), i = (d : Int) - 1 → d ≤ 8 → d < k → 0 ≤ u → u * 256 ^ d + 256 ^ d ≤ 18446744073709551616 →
    punnetref04_Get.l0 k l at_ u i = some (wrap64 (u * 256 ^ d + leval ((l.drop at_).take d)), (at_ : Int) + 8, 0) := by
  induction d with
  | zero =>
    intro k u i hi hd hk h0 h1
    obtain ⟨k, rfl⟩ : ∃ m, k = m + 1 := ⟨k - 1, by omega⟩
    simp only [punnetref04_Get.l0, List.take_zero, leval]
    rw [if_neg (by omega), wrap64_id (x := (at_ : Int) + 8) (by omega) (by omega)]
    simp
  | succ d ih =>
    intro k u i hi hd hk h0 h1
    obtain ⟨k, rfl⟩ : ∃ m, k = m + 1 := ⟨k - 1, by omega⟩
    have hlt : at_ + d < l.length := by omega
    have hx := hb (rd l ((at_ + d : Nat) : Int)) (rd_mem hlt)
    obtain rfl : i = (d : Int) := by omega
    simp only [punnetref04_Get.l0]
    rw [if_pos (by omega), wrap64_id (x := (at_ : Int) + d) (by omega) (by omega), if_pos (by omega), if_pos (by omega), wrap64_id (x := (d : Int) - 1) (by omega) (by omega)]
    rw [show (at_ : Int) + d = ((at_ + d : Nat) : Int) by omega, wrap_u64_id hx.1 (by omega)]
    have hpos : (1 : Int) ≤ 256 ^ d := by have : (0 : Int) < 256 ^ d := Int.pow_pos (by decide); omega
    have hu : u * 256 + 256 ≤ 18446744073709551616 := by
      rw [Int.pow_succ, ← Int.mul_assoc] at h1
      have h2 : (u * 256 + 256) * 1 ≤ (u * 256 + 256) * 256 ^ d := Int.mul_le_mul_of_nonneg_left hpos (by omega)
      have h3 : (u * 256 + 256) * 256 ^ d = u * 256 ^ d * 256 + 256 ^ d * 256 := by rw [Int.add_mul, Int.mul_assoc, Int.mul_comm 256 (256 ^ d), ← Int.mul_assoc]
      omega
    rw [wrap_u64_id (x := u * 256) (by omega) (by omega), wrap_u64_id (x := u * 256 + _) (by omega) (by omega)]
    have h3 : (u * 256 + rd l ((at_ + d : Nat) : Int)) * 256 ^ d = u * 256 ^ (d + 1) + 256 ^ d * rd l ((at_ + d : Nat) : Int) := by
      rw [Int.add_mul, Int.pow_succ, Int.mul_assoc, Int.mul_comm 256 (256 ^ d), Int.mul_comm (rd l _)]
    have h4 : 256 ^ d * rd l ((at_ + d : Nat) : Int) ≤ 256 ^ d * 255 := Int.mul_le_mul_of_nonneg_left (by omega) (by omega)
    have h5 : (256 : Int) ^ (d + 1) = 256 ^ d * 256 := Int.pow_succ ..
    rw [ih k _ _ rfl (by omega) (by omega) (by omega) (by omega), h3]
    have e : (l.drop at_).take (d + 1) = (l.drop at_).take d ++ [rd l ((at_ + d : Nat) : Int)] := by
      rw [List.take_succ_eq_append_getElem (by simp; omega)]
      rw [rd_eq hlt]
      simp
    rw [e, leval_snoc, show ((l.drop at_).take d).length = d by simp; omega]
    congr 3
    omega

theorem leval_le (d : Nat) : ∀ u, 0 ≤ u → u < 256 ^ d → leval (le d u) = u := by
  induction d with
  | zero => intro u h0 h1; simp only [Int.pow_zero] at h1; simp only [le, leval]; omega
  | succ d ih =>
    intro u h0 h1
    rw [Int.pow_succ] at h1
    simp only [le, leval]
    rw [ih _ (by omega) (by omega)]; omega
theorem le_leval {l : List Int} (h : Bytes l) : le l.length (leval l) = l := by
  induction l with
  | nil => rfl
  | cons b r ih =>
    have hb := h b (by simp)
    have hr : Bytes r := fun x hx => h x (by simp [hx])
    have := (leval_range hr).1
    simp only [List.length_cons, le, leval]
    rw [show (b + 256 * leval r) % 256 = b by omega, show (b + 256 * leval r) / 256 = leval r by omega, ih hr]

/-! ### The second format -/
def vval : List Int → Int
  | [] => 0
  | x :: r => x % 128 + 128 * vval r
theorem vval_nonneg (l : List Int) : 0 ≤ vval l := by
  induction l with
  | nil => simp [vval]
  | cons x r ih => simp only [vval]; omega
theorem vval_lt (l : List Int) : vval l < 128 ^ l.length := by
  induction l with
  | nil => simp [vval]
  | cons x r ih => simp only [vval, List.length_cons, Int.pow_succ]; omega
theorem vval_snoc (a : List Int) (b : Int) : vval (a ++ [b]) = vval a + 128 ^ a.length * (b % 128) := by
  induction a with
  | nil => simp [vval]
  | cons x r ih =>
    simp only [List.cons_append, vval, ih, List.length_cons, Int.pow_succ]
    rw [Int.mul_add, ← Int.mul_assoc, Int.mul_comm 128 (128 ^ r.length)]; omega
/-- The bytes up to the first that is below 128, if it is one of the first c. -/
def pre : Nat → List Int → Option (List Int)
  | 0, _ => none
  | _ + 1, [] => none
  | c + 1, x :: r => if x ≥ 128 then (pre c r).map (x :: ·) else some [x]
/-- What the program asks of them: the tenth is at most 1, and the last is no 0 behind others. -/
def okd : Nat → List Int → Bool
  | _, [] => false
  | i, [x] => (i != 9 || decide (x ≤ 1)) && (x != 0 || i == 0)
  | i, _ :: y :: r => okd (i + 1) (y :: r)
theorem pre_ne {c : Nat} {s d : List Int} (h : pre c s = some d) : d ≠ [] := by
  cases c with
  | zero => simp [pre] at h
  | succ c =>
    cases s with
    | nil => simp [pre] at h
    | cons x r =>
      simp only [pre] at h
      split at h
      · obtain ⟨e, _, rfl⟩ := Option.map_eq_some_iff.1 h; simp
      · cases h; simp
theorem pre_take : ∀ {c : Nat} {s d : List Int}, pre c s = some d → d = s.take d.length ∧ d.length ≤ s.length ∧ d.length ≤ c
  | 0, _, _, h => by simp [pre] at h
  | c + 1, [], _, h => by simp [pre] at h
  | c + 1, x :: r, d, h => by
    simp only [pre] at h
    split at h
    · obtain ⟨e, he, rfl⟩ := Option.map_eq_some_iff.1 h
      have := pre_take he
      simp only [List.length_cons, List.take_succ_cons]
      exact ⟨by rw [← this.1], by omega, by omega⟩
    · cases h; simp
/-- Bytes of 128 and more, and one below behind them. -/
def good : List Int → Prop
  | [] => False
  | [x] => 0 ≤ x ∧ x < 128
  | x :: y :: r => 128 ≤ x ∧ x < 256 ∧ good (y :: r)
theorem pre_good : ∀ {c : Nat} {s d : List Int}, Bytes s → pre c s = some d → good d
  | 0, _, _, _, h => by simp [pre] at h
  | c + 1, [], _, _, h => by simp [pre] at h
  | c + 1, x :: r, d, hb, h => by
    have hx := hb x (by simp)
    simp only [pre] at h
    split at h
    · obtain ⟨e, he, rfl⟩ := Option.map_eq_some_iff.1 h
      have hg := pre_good (fun y hy => hb y (by simp [hy])) he
      cases e with
      | nil => exact hg.elim
      | cons y e => exact ⟨by omega, by omega, hg⟩
    · cases h; exact ⟨hx.1, by omega⟩

theorem varied_l0 (l : List Int) (hb : Bytes l) (hl : l.length ≤ 2000) (at_ : Nat) (ha : at_ ≤ l.length) (c : Nat) : ∀ (k i : Nat) (u : Int), i + c = 10 → 3 * c + 3 < k → at_ + i ≤ l.length → 0 ≤ u → u < 128 ^ i →
    code_varied.l0 k l at_ u i = (match pre c (l.drop (at_ + i)) with
      | none => some (0, 0, 8)
      | some d => if okd i d = true then some (bk (u + 128 ^ i * vval d), ((at_ + i + d.length : Nat) : Int), 0) else some (0, 0, 8)) := by
  induction c with
  | zero =>
    intro k i u hi hk hai h0 h1
    obtain ⟨k, rfl⟩ : ∃ m, k = m + 1 + 1 := ⟨k - 2, by omega⟩
    obtain rfl : i = 10 := by omega
    simp only [code_varied.l0, code_varied.j1, pre]
    rw [wrap64_id (x := (at_ : Int) + (10 : Nat)) (by omega) (by omega)]
    simp
  | succ c ih =>
    intro k i u hi hk hai h0 h1
    obtain ⟨k, rfl⟩ : ∃ m, k = m + 1 + 1 + 1 := ⟨k - 3, by omega⟩
    by_cases hlt : at_ + i < l.length
    · have hx := hb (rd l ((at_ + i : Nat) : Int)) (rd_mem hlt)
      have hw : wrap64 ((at_ : Int) + i) = ((at_ + i : Nat) : Int) := by rw [wrap64_id (by omega) (by omega)]; omega
      have h10 : ((i : Int) == 10) = false := beq_eq_false_iff_ne.mpr (by omega)
      rw [drop_cons hlt]
      generalize hxx : rd l ((at_ + i : Nat) : Int) = x at hx
      simp only [code_varied.l0, code_varied.j1]
      rw [hw, if_neg (by omega), h10]
      simp only [Bool.false_eq_true, if_false]
      rw [if_pos (by omega), if_pos (by omega), hxx]
      have hand : bits .and .u8 x 127 = x % 128 := by
        rw [u8_and x _ hx.1 hx.2 (by omega) (by omega)]
        have := nat_mask7 x.toNat
        simp only [show (127 : Int).toNat = 127 from rfl, this]; omega
      have hp : (2 : Int) ^ (7 * i) = 128 ^ i := by rw [Int.pow_mul]; rfl
      have hpos : (0 : Int) < 128 ^ i := Int.pow_pos (by decide)
      -- the number so far
      have hor : (i ≠ 9 ∨ x ≤ 1) → bits .or .u64 u (shl .u64 (IntKind.u64.wrap (x % 128)) (wrap64 (7 * (i : Int)))) = u + 128 ^ i * (x % 128) ∧ (u + 128 ^ i * (x % 128) < 18446744073709551616) := by
        intro hi9
        have hle : 128 ^ i * (x % 128) + 128 ^ i ≤ 18446744073709551616 := by
          by_cases h9 : i = 9
          · subst h9
            have : (128 : Int) ^ 9 = 9223372036854775808 := by decide
            rw [this]
            have : x % 128 ≤ 1 := by omega
            omega
          · have h : (128 : Nat) ^ (i + 1) ≤ 128 ^ 9 := Nat.pow_le_pow_right (by decide) (by omega)
            have h2 : ((128 ^ (i + 1) : Nat) : Int) ≤ ((128 ^ 9 : Nat) : Int) := by omega
            rw [Int.natCast_pow, Int.natCast_pow, Int.pow_succ] at h2
            have h3 : ((128 : Nat) : Int) ^ 9 = 9223372036854775808 := by decide
            have h4 : (128 : Int) ^ i * (x % 128) ≤ 128 ^ i * 127 := Int.mul_le_mul_of_nonneg_left (by omega) (by omega)
            have h5 : ((128 : Nat) : Int) ^ i = 128 ^ i := rfl
            omega
        refine ⟨?_, by omega⟩
        rw [wrap64_id (x := 7 * (i : Int)) (by omega) (by omega), wrap_u64_id (by omega) (by omega)]
        rw [or_shl (7 * i) u _ _ (by omega) (by omega) h0 (by rw [hp]; exact h1) (by omega) (by rw [hp, Int.mul_comm]; omega), hp, Int.mul_comm]
      have hsum : 0 ≤ 128 ^ i * (x % 128) := Int.mul_nonneg (by omega) (by omega)
      have hnext : u + 128 ^ i * (x % 128) < 128 ^ (i + 1) := by
        have h4 : (128 : Int) ^ i * (x % 128) ≤ 128 ^ i * 127 := Int.mul_le_mul_of_nonneg_left (by omega) (by omega)
        rw [Int.pow_succ]; omega
      have hval : ∀ d, u + 128 ^ i * (x % 128) + 128 ^ (i + 1) * vval d = u + 128 ^ i * vval (x :: d) := by
        intro d; simp only [vval]; rw [Int.mul_add, Int.pow_succ, Int.mul_assoc]; omega
      have main : (i ≠ 9 ∨ x ≤ 1) → code_varied.j2 (k + 1) l at_ u i x false = (match pre (c + 1) (x :: l.drop (at_ + i + 1)) with
          | none => some (0, 0, 8)
          | some d => if okd i d = true then some (bk (u + 128 ^ i * vval d), ((at_ + i + d.length : Nat) : Int), 0) else some (0, 0, 8)) := by
        intro hi9
        obtain ⟨e1, e2⟩ := hor hi9
        simp only [code_varied.j2, Bool.false_eq_true, if_false, pre]
        rw [if_pos (by rw [wrap64_id (by omega) (by omega)]; omega), hand, e1, wrap64_id (x := (i : Int) + 1) (by omega) (by omega)]
        by_cases h128 : x ≥ 128
        · rw [if_pos h128, if_pos h128, show (i : Int) + 1 = ((i + 1 : Nat) : Int) by omega, ih k (i + 1) _ (by omega) (by omega) (by omega) (by omega) hnext, show at_ + i + 1 = at_ + (i + 1) by omega]
          cases hq : pre c (l.drop (at_ + (i + 1))) with
          | none => simp
          | some d =>
            simp only [Option.map_some]
            cases d with
            | nil => exact absurd rfl (pre_ne hq)
            | cons y d =>
              rw [hval]
              simp only [okd, List.length_cons]
              rw [show at_ + (i + 1) + (d.length + 1) = at_ + i + (d.length + 1 + 1) by omega]
              rfl
        · rw [if_neg h128, if_neg h128]
          have hv : vval [x] = x % 128 := by simp [vval]
          have hB := code_Back_is (u := u + 128 ^ i * (x % 128)) ⟨by omega, e2⟩
          have ht : wrap64 ((at_ : Int) + ((i : Int) + 1)) = ((at_ + i + 1 : Nat) : Int) := by rw [wrap64_id (by omega) (by omega)]; omega
          simp only [hv, hB, ht, Option.bind_some, List.length_singleton, okd]
          by_cases hx0 : x = 0
          · rw [if_pos hx0]
            by_cases hi0 : i = 0
            · subst hi0
              rw [if_neg (by omega)]
              simp [hx0]
            · rw [if_pos (by omega), if_neg (by simp [hx0, hi0])]
          · rw [if_neg hx0, if_pos (by
              have : (i != 9 || decide (x ≤ 1)) = true := by rcases hi9 with h | h <;> simp [h]
              rw [this]; simp [hx0])]
      by_cases h9 : i = 9
      · rw [if_pos (by omega)]
        by_cases hx1 : x > 1
        · have hd : decide (x > 1) = true := decide_eq_true hx1
          rw [hd]
          simp only [code_varied.j2, if_true]
          obtain rfl : c = 0 := by omega
          simp only [pre]
          by_cases h128 : x ≥ 128
          · rw [if_pos h128]; simp
          · rw [if_neg h128]
            have hf : okd i [x] = false := by simp [okd, h9]; omega
            simp [hf]
        · have hd : decide (x > 1) = false := decide_eq_false hx1
          rw [hd]; exact main (Or.inr (by omega))
      · rw [if_neg (by omega)]; exact main (Or.inl h9)
    · have hw : wrap64 ((at_ : Int) + i) = ((at_ + i : Nat) : Int) := by rw [wrap64_id (by omega) (by omega)]; omega
      simp only [code_varied.l0, code_varied.j1]
      rw [hw, if_pos (by omega), List.drop_eq_nil_of_le (by omega)]
      simp [pre]
end Go.Proofs.Ytmmofckknopaaaa.Pure
