/- Digits of whole numbers, as lists of bytes: what they come to, and which come first. No condition beyond those typed. -/
import Derived.Test.YtmmofckknopaaaaStr
import Derived.Test.YtmmofckknopaaaaQ14
namespace Go.Proofs.Ytmmofckknopaaaa.Dig
open Go.RowKit Go.Proofs.YtmmofckknopaaaaW.PrintWords Go.Proofs.YtmmofckknopaaaaW.PrintLast Go.Proofs.Ytmmofckknopaaaa.Q Go.Proofs.Ytmmofckknopaaaa.Str

/-- All are digits. -/
def Ds (l : List Int) : Prop := ∀ x ∈ l, 48 ≤ x ∧ x ≤ 57
theorem Ds.bytes {l : List Int} (h : Ds l) : Bytes l := fun x hx => by have := h x hx; omega
/-- What digits come to. -/
def dv : List Int → Nat
  | [] => 0
  | c :: r => (c - 48).toNat * 10 ^ r.length + dv r
theorem dv_snoc (l : List Int) (c : Int) : dv (l ++ [c]) = 10 * dv l + (c - 48).toNat := by
  induction l with
  | nil => simp [dv]
  | cons x r ih =>
    simp only [List.cons_append, dv, ih, List.length_append, List.length_singleton, Nat.pow_succ]
    have e : (x - 48).toNat * (10 ^ r.length * 10) = 10 * ((x - 48).toNat * 10 ^ r.length) := by rw [← Nat.mul_assoc, Nat.mul_comm]
    rw [e]; omega
theorem dv_lt {l : List Int} (h : Ds l) : dv l < 10 ^ l.length := by
  induction l with
  | nil => simp [dv]
  | cons x r ih =>
    have hx := h x (by simp)
    have := ih (fun y hy => h y (by simp [hy]))
    simp only [dv, List.length_cons, Nat.pow_succ]
    have h2 : (x - 48).toNat * 10 ^ r.length ≤ 9 * 10 ^ r.length := Nat.mul_le_mul_right _ (by omega)
    omega
theorem dg_Ds (n : Nat) : Ds (dg n) := by
  induction n using Nat.strongRecOn with
  | _ n ih =>
    by_cases h : n < 10
    · rw [dg_small h]; intro x hx; simp only [List.mem_singleton] at hx; omega
    · rw [dg_big h]
      intro x hx
      rcases List.mem_append.1 hx with hx | hx
      · exact ih (n / 10) (by omega) x hx
      · simp only [List.mem_singleton] at hx; omega
theorem dv_dg (n : Nat) : dv (dg n) = n := by
  induction n using Nat.strongRecOn with
  | _ n ih =>
    by_cases h : n < 10
    · rw [dg_small h]; simp only [dv, List.length_nil, Nat.pow_zero]; omega
    · rw [dg_big h, dv_snoc, ih (n / 10) (by omega)]; omega
theorem dg_ne (n : Nat) : dg n ≠ [] := by
  by_cases h : n < 10
  · rw [dg_small h]; simp
  · rw [dg_big h]; simp
/-- No 0 stands ahead of others. -/
def Lead (l : List Int) : Prop := l.getD 0 0 ≠ 48 ∨ l.length = 1
theorem dg_lead (n : Nat) : Lead (dg n) := by
  induction n using Nat.strongRecOn with
  | _ n ih =>
    by_cases h : n < 10
    · rw [dg_small h]; right; rfl
    · rw [dg_big h]
      have hne := dg_ne (n / 10)
      left
      have h1 := ih (n / 10) (by omega)
      have hlen : 0 < (dg (n / 10)).length := List.length_pos_iff.2 hne
      have e : (dg (n / 10) ++ [(48 + (n % 10 : Nat) : Int)]).getD 0 0 = (dg (n / 10)).getD 0 0 := by
        rw [List.getD_eq_getElem?_getD, List.getD_eq_getElem?_getD, List.getElem?_append_left hlen]
      rw [e]
      rcases h1 with h1 | h1
      · exact h1
      · have hv := dv_dg (n / 10)
        have hD := dg_Ds (n / 10)
        match hq : dg (n / 10), h1 with
        | [c], _ =>
          rw [hq] at hv
          simp only [dv, List.length_nil, Nat.pow_zero] at hv
          simp only [List.getD_cons_zero]
          omega
theorem dg_of {l : List Int} (h : Ds l) (hne : l ≠ []) (hl : Lead l) : dg (dv l) = l := by
  generalize hn : l.length = n
  induction n using Nat.strongRecOn generalizing l with
  | _ n ih =>
    rcases List.eq_nil_or_concat l with rfl | ⟨r, c, rfl⟩
    · exact absurd rfl hne
    · rw [List.concat_eq_append] at hn h hne hl ⊢
      have hn2 : n = r.length + 1 := by rw [← hn]; simp
      have hc := h c (by simp)
      rw [dv_snoc]
      by_cases hr : r = []
      · subst hr
        simp only [dv, List.nil_append]
        rw [dg_small (by omega)]
        congr 1; omega
      · have hDr : Ds r := fun x hx => h x (by simp [hx])
        have hlr : 0 < r.length := List.length_pos_iff.2 hr
        have hhead : r.getD 0 0 ≠ 48 := by
          rcases hl with hl | hl
          · rw [List.getD_eq_getElem?_getD, List.getElem?_append_left hlr, ← List.getD_eq_getElem?_getD] at hl
            exact hl
          · rw [List.length_append, List.length_singleton] at hl; omega
        have hp : 1 ≤ dv r := by
          cases r with
          | nil => exact absurd rfl hr
          | cons x t =>
            have hx := hDr x (by simp)
            simp only [List.getD_cons_zero] at hhead
            simp only [dv]
            have h1 : 1 ≤ 10 ^ t.length := Nat.one_le_pow _ _ (by decide)
            have h2 : 1 * 1 ≤ (x - 48).toNat * 10 ^ t.length := Nat.mul_le_mul (by omega) h1
            omega
        rw [dg_big (by omega)]
        rw [show (10 * dv r + (c - 48).toNat) / 10 = dv r by omega, ih r.length (by omega) hDr hr (Or.inl hhead) rfl]
        congr 2; omega
theorem lead_ge {l : List Int} (h : Ds l) (hl : l.getD 0 0 ≠ 48) (hne : l ≠ []) : 10 ^ (l.length - 1) ≤ dv l := by
  cases l with
  | nil => exact absurd rfl hne
  | cons x t =>
    have hx := h x (by simp)
    simp only [List.getD_cons_zero] at hl
    simp only [dv, List.length_cons, Nat.add_sub_cancel]
    have h2 : 1 * 10 ^ t.length ≤ (x - 48).toNat * 10 ^ t.length := Nat.mul_le_mul_right _ (by omega)
    omega
/-- Fewer digits are less. -/
theorem dv_short {a b : List Int} (ha : Ds a) (hb : Ds b) (hl : Lead b) (h : a.length < b.length) (hz : a ≠ []) : dv a < dv b := by
  have h1 := dv_lt ha
  have hapos : 0 < a.length := List.length_pos_iff.2 hz
  have h2 : b.getD 0 0 ≠ 48 := by rcases hl with h | h <;> first | exact h | omega
  have h3 := lead_ge hb h2 (by rintro rfl; simp at h)
  have h4 : 10 ^ a.length ≤ 10 ^ (b.length - 1) := Nat.pow_le_pow_right (by decide) (by omega)
  omega
/-- Of as many digits the first that differ decide. -/
theorem less_digits : ∀ {a b : List Int}, Ds a → Ds b → a.length = b.length → Op.bytesLess (strOfNums a).toList (strOfNums b).toList = decide (dv a < dv b) := by
  intro a
  induction a with
  | nil =>
    intro b _ _ h
    cases b with
    | nil => rw [Lib.strOfNums_toList]; rfl
    | cons y t => simp at h
  | cons x r ih =>
    intro b ha hb h
    cases b with
    | nil => simp at h
    | cons y t =>
      have hx := ha x (by simp)
      have hy := hb y (by simp)
      have hDr : Ds r := fun z hz => ha z (by simp [hz])
      have hDt : Ds t := fun z hz => hb z (by simp [hz])
      simp only [List.length_cons, Nat.add_right_cancel_iff] at h
      have ih2 := ih hDr hDt h
      rw [Lib.strOfNums_toList, Lib.strOfNums_toList] at ih2 ⊢
      simp only [Lib.bytesOf, List.map_cons, Op.bytesLess] at ih2 ⊢
      rw [ih2]
      have hr := dv_lt hDr
      have ht := dv_lt hDt
      simp only [dv, h] at hr ⊢
      have e1 : decide (UInt8.ofNat x.toNat < UInt8.ofNat y.toNat) = decide (x < y) := by
        rw [decide_eq_decide, UInt8.lt_iff_toNat_lt, UInt8.toNat_ofNat', UInt8.toNat_ofNat']; omega
      have e2 : (UInt8.ofNat x.toNat == UInt8.ofNat y.toNat) = decide (x = y) := by
        rw [Bool.eq_iff_iff, beq_iff_eq, decide_eq_true_eq, ← UInt8.toNat_inj, UInt8.toNat_ofNat', UInt8.toNat_ofNat']; omega
      rw [e1, e2]
      rcases Int.lt_trichotomy x y with hlt | rfl | hgt
      · have h2 : (x - 48).toNat * 10 ^ t.length + 10 ^ t.length ≤ (y - 48).toNat * 10 ^ t.length := by
          have : ((x - 48).toNat + 1) * 10 ^ t.length ≤ (y - 48).toNat * 10 ^ t.length := Nat.mul_le_mul_right _ (by omega)
          rw [Nat.add_mul, Nat.one_mul] at this; exact this
        have h3 : (x - 48).toNat * 10 ^ t.length + dv r < (y - 48).toNat * 10 ^ t.length + dv t := by omega
        simp [hlt, h3]
      · simp
      · have h2 : (y - 48).toNat * 10 ^ t.length + 10 ^ t.length ≤ (x - 48).toNat * 10 ^ t.length := by
          have : ((y - 48).toNat + 1) * 10 ^ t.length ≤ (x - 48).toNat * 10 ^ t.length := Nat.mul_le_mul_right _ (by omega)
          rw [Nat.add_mul, Nat.one_mul] at this; exact this
        have h3 : ¬ (x - 48).toNat * 10 ^ t.length + dv r < (y - 48).toNat * 10 ^ t.length + dv t := by omega
        have h4 : ¬ x < y := by omega
        have h5 : ¬ x = y := by omega
        simp [h3, h4, h5]
end Go.Proofs.Ytmmofckknopaaaa.Dig
