/- The document's way to get a number of the second format comes to the program's. Conditions: bytes from 0 to 255, at most 2000 of them, as typed. -/
import Derived.Test.YtmmofckknopaaaaCodeGet
namespace Go.Proofs.Ytmmofckknopaaaa.Pure
open Go.RowKit Go.Proofs.Ytmmofckknopaaaa.Q Go.Proofs.Ytmmofckknopaaaa.Bits Go.Proofs.YtmmofckknopaaaaW.PrintWords Go.Proofs.YtmmofckknopaaaaW.PrintLast Go.Proofs.YtmmofckknopaaaaW.PrintMore

/-! ### Just the bytes that are put -/
def lastv : List Int → Int
  | [] => 0
  | [x] => x
  | _ :: y :: r => lastv (y :: r)
theorem vval_vb (n : Nat) : vval (vb n) = n := by
  induction n using Nat.strongRecOn with
  | _ n ih =>
    by_cases h : n < 128
    · rw [vb_small h]; simp only [vval]; omega
    · rw [vb_big h]; simp only [vval]; rw [ih (n / 128) (by omega)]; omega
theorem vb_ne (n : Nat) : vb n ≠ [] := by
  by_cases h : n < 128
  · rw [vb_small h]; simp
  · rw [vb_big h]; simp
theorem lastv_vb (n : Nat) (h1 : 1 ≤ n) : lastv (vb n) ≠ 0 := by
  induction n using Nat.strongRecOn with
  | _ n ih =>
    by_cases h : n < 128
    · rw [vb_small h]; simp only [lastv]; omega
    · rw [vb_big h]
      have := ih (n / 128) (by omega) (by omega)
      cases hv : vb (n / 128) with
      | nil => exact absurd hv (vb_ne _)
      | cons y r => rw [hv] at this; exact this
theorem good_vb (n : Nat) : good (vb n) := by
  induction n using Nat.strongRecOn with
  | _ n ih =>
    by_cases h : n < 128
    · rw [vb_small h]; simp only [good]; omega
    · rw [vb_big h]
      have := ih (n / 128) (by omega)
      cases hv : vb (n / 128) with
      | nil => exact absurd hv (vb_ne _)
      | cons y r => rw [hv] at this; exact ⟨by omega, by omega, this⟩
theorem good_bytes : ∀ {d : List Int}, good d → Bytes d
  | [], h => h.elim
  | [x], h => by
    intro y hy
    simp only [List.mem_singleton] at hy
    have := h.1; have := h.2
    omega
  | x :: y :: r, h => by
    intro z hz
    rcases List.mem_cons.1 hz with e | hz
    · have := h.1; have := h.2.1; omega
    · exact good_bytes h.2.2 z hz
theorem vval_bounds : ∀ {d : List Int}, good d → 128 ^ (d.length - 1) * lastv d ≤ vval d ∧ vval d < 128 ^ (d.length - 1) * (lastv d + 1)
  | [], h => h.elim
  | [x], h => by
    have := h.1; have := h.2
    simp only [lastv, vval, List.length_singleton, Nat.sub_self, Int.pow_zero]; omega
  | x :: y :: r, h => by
    have ih := vval_bounds h.2.2
    simp only [List.length_cons, Nat.add_sub_cancel] at ih ⊢
    simp only [lastv]
    generalize lastv (y :: r) = v at ih ⊢
    rw [Int.pow_succ]
    have e1 : (128 : Int) ^ r.length * 128 * v = 128 * (128 ^ r.length * v) := by rw [Int.mul_comm (128 ^ r.length) 128, Int.mul_assoc]
    have e2 : (128 : Int) ^ r.length * 128 * (v + 1) = 128 * (128 ^ r.length * (v + 1)) := by rw [Int.mul_comm (128 ^ r.length) 128, Int.mul_assoc]
    rw [e1, e2]
    have hv : vval (x :: y :: r) = x % 128 + 128 * vval (y :: r) := rfl
    rw [hv]
    omega
theorem lastv_nonneg : ∀ {d : List Int}, good d → 0 ≤ lastv d
  | [], h => h.elim
  | [_], h => h.1
  | _ :: y :: r, h => lastv_nonneg (d := y :: r) h.2.2
theorem vval_pos {d : List Int} (h : good d) (hl : lastv d ≠ 0) : 1 ≤ vval d := by
  have h1 := (vval_bounds h).1
  have h2 := lastv_nonneg h
  have h3 : (1 : Int) * 1 ≤ 128 ^ (d.length - 1) * lastv d := by
    have hp : (0 : Int) < 128 ^ (d.length - 1) := Int.pow_pos (by decide)
    exact Int.mul_le_mul (by omega) (by omega) (by omega) (by omega)
  omega
theorem vb_of : ∀ {d : List Int}, good d → (lastv d ≠ 0 ∨ d.length = 1) → vb (vval d).toNat = d
  | [], h, _ => h.elim
  | [x], h, _ => by
    have h0 := h.1; have h1 := h.2
    have e : vval [x] = x := by simp only [vval]; omega
    rw [e, vb_small (by omega)]
    congr 1; omega
  | x :: y :: r, h, hl => by
    have hl' : lastv (y :: r) ≠ 0 := by
      rcases hl with hl | hl
      · exact hl
      · simp at hl
    have hp := vval_pos h.2.2 hl'
    have ih := vb_of h.2.2 (Or.inl hl')
    have h0 := h.1; have h1 := h.2.1
    have e : vval (x :: y :: r) = x % 128 + 128 * vval (y :: r) := rfl
    rw [e, vb_big (by omega)]
    rw [show (x % 128 + 128 * vval (y :: r)).toNat / 128 = (vval (y :: r)).toNat by omega, ih]
    congr 1; omega
theorem okd_iff : ∀ (i : Nat) {d : List Int}, d ≠ [] → (okd i d = true ↔ (i + d.length = 10 → lastv d ≤ 1) ∧ (lastv d = 0 → i + d.length = 1))
  | _, [], h => absurd rfl h
  | i, [x], _ => by
    simp only [okd, lastv, List.length_singleton, Bool.and_eq_true, Bool.or_eq_true, bne_iff_ne, beq_iff_eq, decide_eq_true_eq]
    omega
  | i, x :: y :: r, _ => by
    have := okd_iff (i + 1) (d := y :: r) (by simp)
    simp only [okd, lastv, List.length_cons] at this ⊢
    rw [this]
    constructor <;> rintro ⟨h1, h2⟩ <;> exact ⟨fun h => h1 (by omega), fun h => by have := h2 h; omega⟩
theorem pow9 : (128 : Int) ^ 9 = 9223372036854775808 := by decide
theorem canon {d : List Int} (hg : good d) (hl : d.length ≤ 10) : (vb (vval d % 18446744073709551616).toNat = d ↔ okd 0 d = true) ∧ (okd 0 d = true → vval d < 18446744073709551616) := by
  have hne : d ≠ [] := by rintro rfl; exact hg
  have hb := vval_bounds hg
  have hn := vval_nonneg d
  have hv := lastv_nonneg hg
  have hlen : 1 ≤ d.length := by
    cases d with
    | nil => exact absurd rfl hne
    | cons x r => simp
  have hlt := vval_lt d
  have small : d.length ≤ 9 → vval d < 9223372036854775808 := by
    intro h9
    have h : (128 : Nat) ^ d.length ≤ 128 ^ 9 := Nat.pow_le_pow_right (by decide) h9
    have h2 : ((128 ^ d.length : Nat) : Int) ≤ ((128 ^ 9 : Nat) : Int) := by omega
    rw [Int.natCast_pow, Int.natCast_pow] at h2
    have h3 : ((128 : Nat) : Int) ^ d.length = 128 ^ d.length := rfl
    have h4 : ((128 : Nat) : Int) ^ 9 = 9223372036854775808 := by decide
    omega
  have ten : d.length = 10 → 9223372036854775808 * lastv d ≤ vval d ∧ vval d < 9223372036854775808 * (lastv d + 1) := by
    intro h10
    rw [h10, show 10 - 1 = 9 from rfl, pow9] at hb
    exact hb
  have hbig : okd 0 d = true → vval d < 18446744073709551616 := by
    intro hok
    have hok := (okd_iff 0 hne).1 hok
    by_cases h10 : d.length = 10
    · have h1 := hok.1 (by omega)
      have h2 := ten h10
      omega
    · have := small (by omega); omega
  refine ⟨⟨fun h => ?_, fun hok => ?_⟩, hbig⟩
  · have hu := vval_vb (vval d % 18446744073709551616).toNat
    rw [h] at hu
    refine (okd_iff 0 hne).2 ⟨fun h10 => ?_, fun h0 => ?_⟩
    · have := ten (by omega); omega
    · by_cases h1 : 1 ≤ (vval d % 18446744073709551616).toNat
      · have := lastv_vb _ h1
        rw [h] at this; exact absurd h0 this
      · have e : (vval d % 18446744073709551616).toNat = 0 := by omega
        rw [e, vb_small (by omega)] at h
        rw [← h]; rfl
  · have h1 := hbig hok
    rw [show vval d % 18446744073709551616 = vval d by omega]
    have h2 := (okd_iff 0 hne).1 hok
    exact vb_of hg (by
      by_cases h0 : lastv d = 0
      · right; have := h2.2 h0; omega
      · left; exact h0)

theorem strs_inj : ∀ {a b : List Int}, Bytes a → Bytes b → (strOfNums a).toList = (strOfNums b).toList → a = b := by
  intro a
  induction a with
  | nil =>
    intro b _ _ h
    rw [Lib.strOfNums_toList, Lib.strOfNums_toList] at h
    cases b with
    | nil => rfl
    | cons y r => simp [Lib.bytesOf] at h
  | cons x a ih =>
    intro b ha hb h
    rw [Lib.strOfNums_toList, Lib.strOfNums_toList] at h
    cases b with
    | nil => simp [Lib.bytesOf] at h
    | cons y r =>
      simp only [Lib.bytesOf, List.map_cons, List.cons.injEq] at h
      have hx := ha x (by simp)
      have hy := hb y (by simp)
      have e : x = y := by
        have h1 := congrArg UInt8.toNat h.1
        simp only [UInt8.toNat_ofNat'] at h1
        omega
      subst e
      have key : a = r := ih (fun z hz => ha z (List.mem_cons_of_mem _ hz)) (fun z hz => hb z (List.mem_cons_of_mem _ hz)) (by rw [Lib.strOfNums_toList, Lib.strOfNums_toList]; exact h.2)
      rw [key]

theorem emod_mul_add (a c e M : Int) : ((a % M) * c + e) % M = (a * c + e) % M := by
  rw [Int.add_emod, Int.mul_emod, Int.emod_emod, ← Int.mul_emod, ← Int.add_emod]

def fin (l : List Int) (at_ X : Nat) (u : Int) : Option (Int × Int × Int) := if vb u.toNat = (l.drop at_).take (X + 1) then some (bk u, ((at_ + X + 1 : Nat) : Int), 0) else some (0, 0, 8)

theorem ref_l2 (l : List Int) (hb : Bytes l) (hl : l.length ≤ 2000) (at_ X : Nat) (ha : at_ + X + 1 ≤ l.length) (d : Nat) : ∀ (k : Nat) (u i : Int), i = (d : Int) - 1 → d ≤ X + 1 → d + 12 < k → 0 ≤ u → u < 18446744073709551616 →
    punnetref04_Get.l2 k l at_ u X i = fin l at_ X ((u * 128 ^ d + vval ((l.drop at_).take d)) % 18446744073709551616) := by
  induction d with
  | zero =>
    intro k u i hi hd hk h0 h1
    obtain ⟨k, rfl⟩ : ∃ m, k = m + 1 := ⟨k - 1, by omega⟩
    simp only [punnetref04_Get.l2, List.take_zero, vval, Int.pow_zero]
    rw [if_neg (by omega), show (u * 1 + 0) % 18446744073709551616 = u by omega, ref_Back_is ⟨h0, h1⟩]
    simp only [Option.bind_some]
    rw [ref_Put_is (bk_range ⟨h0, h1⟩) (by omega)]
    have hw : wrap64 (wrap64 ((at_ : Int) + X) + 1) = ((at_ + X + 1 : Nat) : Int) := by
      rw [wrap64_id (x := (at_ : Int) + X) (by omega) (by omega), wrap64_id (by omega) (by omega)]; omega
    simp only [Option.bind_some, hw]
    rw [if_pos (by omega), if_pos (by omega), if_pos (by omega)]
    unfold fin
    have e : enc 2 (bk u) = vb u.toNat := by unfold enc; rw [if_neg (by decide), if_pos rfl, tn_bk h0]
    have e2 : (l.take (((at_ + X + 1 : Nat) : Int).toNat)).drop ((at_ : Int).toNat) = (l.drop at_).take (X + 1) := by
      rw [Int.toNat_natCast, Int.toNat_natCast, List.drop_take]
      congr 1; omega
    rw [e, e2]
    by_cases h : vb u.toNat = (l.drop at_).take (X + 1)
    · rw [if_pos h, if_pos (by rw [h])]
    · rw [if_neg h, if_neg (fun h2 => h (strs_inj (good_bytes (good_vb _)) ((hb.drop _).take _) h2))]
  | succ d ih =>
    intro k u i hi hd hk h0 h1
    obtain ⟨k, rfl⟩ : ∃ m, k = m + 1 := ⟨k - 1, by omega⟩
    have hlt : at_ + d < l.length := by omega
    have hx := hb (rd l ((at_ + d : Nat) : Int)) (rd_mem hlt)
    obtain rfl : i = (d : Int) := by omega
    simp only [punnetref04_Get.l2]
    rw [if_pos (by omega), wrap64_id (x := (at_ : Int) + d) (by omega) (by omega), if_pos (by omega), if_pos (by omega), wrap64_id (x := (d : Int) - 1) (by omega) (by omega)]
    rw [show (at_ : Int) + d = ((at_ + d : Nat) : Int) by omega, Int.tmod_eq_emod_of_nonneg hx.1, wrap_u64_id (x := _ % 128) (by omega) (by omega)]
    rw [wrap_u64, wrap_u64, ih k _ _ rfl (by omega) (by omega) (by omega) (by omega)]
    congr 1
    have e : (l.drop at_).take (d + 1) = (l.drop at_).take d ++ [rd l ((at_ + d : Nat) : Int)] := by
      rw [List.take_succ_eq_append_getElem (by simp; omega)]
      rw [rd_eq hlt]
      simp
    rw [e, vval_snoc, show ((l.drop at_).take d).length = d by simp; omega, emod_mul_add, Int.add_mul, Int.add_assoc, emod_mul_add]
    congr 1
    rw [Int.pow_succ, Int.mul_comm (rd l _ % 128), Int.mul_assoc, Int.mul_comm 128 (128 ^ d)]
    omega

theorem ref_l1 (l : List Int) (hb : Bytes l) (hl : l.length ≤ 2000) (at_ : Nat) (ha : at_ ≤ l.length) (c : Nat) : ∀ (k K : Nat), K + c = 10 → c + 42 < k → at_ + K ≤ l.length →
    punnetref04_Get.l1 k l at_ 0 K = (match pre c (l.drop (at_ + K)) with
      | none => some (0, 0, 8)
      | some d => fin l at_ (K + d.length - 1) (vval ((l.drop at_).take (K + d.length)) % 18446744073709551616)) := by
  have hj3 : ∀ (k K : Nat), 40 < k → K ≤ 10 → at_ + K ≤ l.length → (at_ + K = l.length ∨ K = 10) → punnetref04_Get.j3 k l at_ 0 K = some (0, 0, 8) := by
    intro k K hk hK hai h
    obtain ⟨k, rfl⟩ : ∃ m, k = m + 1 + 1 := ⟨k - 2, by omega⟩
    simp only [punnetref04_Get.j3, punnetref04_Get.j4]
    rw [wrap64_id (x := (at_ : Int) + K) (by omega) (by omega)]
    by_cases h1 : at_ + K = l.length
    · rw [if_pos (by omega)]; simp
    · have e : ((K : Int) == 10) = true := beq_iff_eq.mpr (by omega)
      rw [if_neg (by omega), e]; simp
  have hj3' : ∀ (k K : Nat), 40 < k → K < 10 → at_ + K < l.length → punnetref04_Get.j3 k l at_ 0 K = fin l at_ K (vval ((l.drop at_).take (K + 1)) % 18446744073709551616) := by
    intro k K hk hK hai
    obtain ⟨k, rfl⟩ : ∃ m, k = m + 1 + 1 := ⟨k - 2, by omega⟩
    simp only [punnetref04_Get.j3, punnetref04_Get.j4]
    have e : ((K : Int) == 10) = false := beq_eq_false_iff_ne.mpr (by omega)
    rw [wrap64_id (x := (at_ : Int) + K) (by omega) (by omega), if_neg (by omega), e]
    simp only [Bool.false_eq_true, if_false]
    rw [ref_l2 l hb hl at_ K (by omega) (K + 1) k 0 K (by omega) (by omega) (by omega) (by omega) (by omega)]
    congr 2
    omega
  induction c with
  | zero =>
    intro k K hi hk hai
    obtain ⟨k, rfl⟩ : ∃ m, k = m + 1 := ⟨k - 1, by omega⟩
    simp only [punnetref04_Get.l1, pre]
    have hw : wrap64 ((at_ : Int) + K) = (at_ : Int) + K := wrap64_id (by omega) (by omega)
    rw [hw]
    have h3 := hj3 k K (by omega) (by omega) hai (Or.inr (by omega))
    have h10 : ¬ (K : Int) < 10 := by omega
    by_cases hlt : at_ + K < l.length
    · rw [if_pos (show (at_ : Int) + K < l.length by omega), if_pos (show (0 : Int) ≤ (at_ : Int) + K by omega), if_neg h10, h3, ite_self]
    · rw [if_neg (by omega), h3]
  | succ c ih =>
    intro k K hi hk hai
    obtain ⟨k, rfl⟩ : ∃ m, k = m + 1 := ⟨k - 1, by omega⟩
    have hw : wrap64 ((at_ : Int) + K) = (at_ : Int) + K := wrap64_id (by omega) (by omega)
    by_cases hlt : at_ + K < l.length
    · rw [drop_cons hlt]
      simp only [punnetref04_Get.l1, pre]
      rw [hw, if_pos (by omega), if_pos (by omega), show (at_ : Int) + K = ((at_ + K : Nat) : Int) by omega]
      by_cases h128 : rd l ((at_ + K : Nat) : Int) ≥ 128
      · rw [if_pos h128, if_pos h128, if_pos (by omega), wrap64_id (by omega) (by omega), show (K : Int) + 1 = ((K + 1 : Nat) : Int) by omega, ih k (K + 1) (by omega) (by omega) (by omega), show at_ + K + 1 = at_ + (K + 1) by omega]
        cases hq : pre c (l.drop (at_ + (K + 1))) with
        | none => simp
        | some d =>
          simp only [Option.map_some, List.length_cons]
          rw [show K + 1 + d.length = K + (d.length + 1) by omega]
      · rw [if_neg h128, if_neg h128, hj3' k K (by omega) (by omega) hlt]
        simp
    · rw [List.drop_eq_nil_of_le (by omega)]
      simp only [punnetref04_Get.l1, pre]
      rw [hw, if_neg (by omega)]
      exact hj3 k K (by omega) (by omega) hai (Or.inl (by omega))

/-- What stands at a place. -/
def getR (l : List Int) (at_ format : Int) : Int × Int × Int :=
  if (format ≠ 1 ∧ format ≠ 2) ∨ at_ < 0 ∨ (l.length : Int) < at_ then (0, 0, 2)
  else if format = 1 then (if (l.length : Int) - at_ < 8 then (0, 0, 8) else (wrap64 (leval ((l.drop at_.toNat).take 8)), at_ + 8, 0))
  else match pre 10 (l.drop at_.toNat) with
    | none => (0, 0, 8)
    | some d => if okd 0 d = true then (bk (vval d), at_ + d.length, 0) else (0, 0, 8)

theorem getR_arg {l : List Int} {at_ format : Int} (h : (format ≠ 1 ∧ format ≠ 2) ∨ at_ < 0 ∨ (l.length : Int) < at_) : getR l at_ format = (0, 0, 2) := by unfold getR; rw [if_pos h]
theorem getR_fix {l : List Int} {a : Nat} (h : a ≤ l.length) : getR l a 1 = if (l.length : Int) - a < 8 then (0, 0, 8) else (wrap64 (leval ((l.drop a).take 8)), (a : Int) + 8, 0) := by
  unfold getR; rw [if_neg (by omega), if_pos rfl, Int.toNat_natCast]
theorem getR_var {l : List Int} {a : Nat} (h : a ≤ l.length) : getR l a 2 = match pre 10 (l.drop a) with
    | none => (0, 0, 8)
    | some d => if okd 0 d = true then (bk (vval d), (a : Int) + d.length, 0) else (0, 0, 8) := by
  unfold getR; rw [if_neg (by omega), if_neg (by decide), Int.toNat_natCast]

theorem code_Get_is (l : List Int) (hb : Bytes l) (hl : l.length ≤ 2000) (at_ format : Int) (k : Nat) (hk : 60 < k) : code_Get.f k l at_ format = some (getR l at_ format) := by
  obtain ⟨k, rfl⟩ : ∃ m, k = m + 1 := ⟨k - 1, by omega⟩
  have hR : code_Right.f format = some (format == 1 || format == 2) := by
    unfold code_Right.f
    by_cases h : format = 1
    · rw [if_pos h]; simp [h]
    · rw [if_neg h]; simp [h]
  unfold code_Get.f
  rw [hR]
  simp only [Option.bind_some, code_Get.j0]
  by_cases hf : format = 1 ∨ format = 2
  · have e : (format == 1 || format == 2) = true := by simpa using hf
    simp only [e, if_true]
    by_cases h0 : at_ < 0
    · rw [if_pos h0, getR_arg (by omega)]
    · rw [if_neg h0]
      by_cases h1 : (l.length : Int) < at_
      · have e : decide (at_ > (l.length : Int)) = true := decide_eq_true h1
        simp only [e, if_true]
        rw [getR_arg (by omega)]
      · have e : decide (at_ > (l.length : Int)) = false := decide_eq_false h1
        simp only [e, Bool.false_eq_true, if_false]
        obtain ⟨a, rfl⟩ := Int.eq_ofNat_of_zero_le (show 0 ≤ at_ by omega)
        rcases hf with rfl | rfl
        · rw [if_pos rfl, getR_fix (by omega)]
          unfold code_fixed.f
          rw [wrap64_id (by omega) (by omega)]
          by_cases h8 : (l.length : Int) - a < 8
          · rw [if_pos h8, if_pos h8]; rfl
          · have h := fixed_l0 l hb hl a (by omega) 8 k 0 0 (by omega) (by omega) (by omega) (by simp)
            simp only [Int.pow_zero, Int.one_mul, Int.zero_add, Nat.add_zero] at h
            have h0' : ((0 : Nat) : Int) = 0 := rfl
            rw [h0'] at h
            rw [if_neg h8, if_neg h8, h]; rfl
        · rw [if_neg (by decide), getR_var (by omega)]
          unfold code_varied.f
          have h := varied_l0 l hb hl a (by omega) 10 k 0 0 (by omega) (by omega) (by omega) (by omega) (by simp)
          have h0' : ((0 : Nat) : Int) = 0 := rfl
          simp only [Int.pow_zero, Int.one_mul, Int.zero_add, Nat.add_zero] at h
          rw [h0'] at h
          rw [h]
          cases pre 10 (l.drop a) with
          | none => rfl
          | some d =>
            dsimp only
            split
            · simp
            · rfl
  · have e : (format == 1 || format == 2) = false := by simpa using hf
    simp only [e, Bool.false_eq_true, if_false, if_true]
    rw [getR_arg (by omega)]

theorem ref_Get_is (l : List Int) (hb : Bytes l) (hl : l.length ≤ 2000) (at_ format : Int) (k : Nat) (hk : 60 < k) : punnetref04_Get.f k l at_ format = some (getR l at_ format) := by
  obtain ⟨k, rfl⟩ : ∃ m, k = m + 1 := ⟨k - 1, by omega⟩
  have main : format = 1 ∨ format = 2 → (if at_ < 0 then (punnetref04_Get.j0 (k + 1) l at_ format true) else (punnetref04_Get.j0 (k + 1) l at_ format (decide (at_ > (l.length : Int))))) = some (getR l at_ format) := by
    intro hf
    simp only [punnetref04_Get.j0]
    by_cases h0 : at_ < 0
    · simp only [if_pos h0, if_true]
      rw [getR_arg (by omega)]
    · rw [if_neg h0]
      by_cases h1 : (l.length : Int) < at_
      · have e : decide (at_ > (l.length : Int)) = true := decide_eq_true h1
        simp only [e, if_true]
        rw [getR_arg (by omega)]
      · have e : decide (at_ > (l.length : Int)) = false := decide_eq_false h1
        simp only [e, Bool.false_eq_true, if_false]
        obtain ⟨a, rfl⟩ := Int.eq_ofNat_of_zero_le (show 0 ≤ at_ by omega)
        rcases hf with rfl | rfl
        · rw [if_pos rfl, getR_fix (by omega), wrap64_id (by omega) (by omega)]
          by_cases h8 : (l.length : Int) - a < 8
          · rw [if_pos h8, if_pos h8]
          · rw [if_neg h8, if_neg h8, ref_get_l0 l hb hl a (by omega) 8 k 0 7 (by omega) (by omega) (by omega) (by omega) (by decide)]
            simp
        · rw [if_neg (by decide), getR_var (by omega)]
          have h := ref_l1 l hb hl a (by omega) 10 k 0 (by omega) (by omega) (by omega)
          have h0' : ((0 : Nat) : Int) = 0 := rfl
          simp only [Nat.add_zero, Nat.zero_add] at h
          rw [h0'] at h
          rw [h]
          cases hq : pre 10 (l.drop a) with
          | none => rfl
          | some d =>
            have ht := pre_take hq
            have hg := pre_good (hb.drop a) hq
            have hc := canon hg ht.2.2
            have hlen : 1 ≤ d.length := by
              cases d with
              | nil => exact absurd rfl (pre_ne hq)
              | cons x r => simp
            dsimp only
            unfold fin
            rw [show d.length - 1 + 1 = d.length by omega, ← ht.1, show a + (d.length - 1) + 1 = a + d.length by omega]
            by_cases hok : okd 0 d = true
            · rw [if_pos (hc.1.2 hok), if_pos hok]
              have := hc.2 hok
              have := vval_nonneg d
              rw [show vval d % 18446744073709551616 = vval d by omega]
              simp
            · rw [if_neg (fun h => hok (hc.1.1 h)), if_neg hok]
  unfold punnetref04_Get.f
  by_cases h1 : format = 1
  · rw [if_pos h1]; exact main (Or.inl h1)
  · rw [if_neg h1]
    by_cases h2 : format = 2
    · rw [if_pos h2]; exact main (Or.inr h2)
    · rw [if_neg h2]
      rw [getR_arg (Or.inl ⟨h1, h2⟩)]
      simp [punnetref04_Get.j0]
end Go.Proofs.Ytmmofckknopaaaa.Pure
