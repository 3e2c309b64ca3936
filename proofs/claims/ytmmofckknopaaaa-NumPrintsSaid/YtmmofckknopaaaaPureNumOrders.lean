/- More digits are more: of numbers from 0 on the print tells which is the lesser one; below 0 a sign stands ahead. -/
import Derived.Test.YtmmofckknopaaaaQ15
import Derived.Test.YtmmofckknopaaaaBits
import Derived.Test.YtmmofckknopaaaaDig
namespace Go.Proofs.Ytmmofckknopaaaa.Pure
open Go.RowKit Go.Proofs.Ytmmofckknopaaaa.Q Go.Proofs.Ytmmofckknopaaaa.Bits Go.Proofs.Ytmmofckknopaaaa.Str Go.Proofs.Ytmmofckknopaaaa.Dig Go.Proofs.YtmmofckknopaaaaW.PrintWords Go.Proofs.YtmmofckknopaaaaW.PrintLast

theorem awake03 : punnetlaw03_awake.f 30 = some true := by kernel_rfl
theorem awake03_more (k : Nat) : punnetlaw03_awake.f (30 + k) = some true := by
  induction k with
  | zero => exact awake03
  | succ k ih => exact punnetlaw03_awake.mono (30 + k) _ ih
theorem print_pos {n : Int} (h0 : 0 ≤ n) (h1 : n ≤ 9223372036854775807) : num_Print.f n = some (strOfNums (dg n.natAbs)) := by
  unfold num_Print.f
  rw [if_pos ⟨by omega, h1⟩, if_neg (by omega)]
theorem print_neg {n : Int} (h0 : n < 0) (h1 : -9223372036854775808 ≤ n) : num_Print.f n = some ((⟨#[45]⟩ : ByteArray) ++ strOfNums (dg n.natAbs)) := by
  unfold num_Print.f
  rw [if_pos ⟨h1, by omega⟩, if_pos h0]
theorem L_minus : L (⟨#[45]⟩ : ByteArray) = [45] := rfl
theorem NumOrders : punnetlaw03_NumOrders.Pure := by
  intro a b ha hb
  have ha := i64_wf ha
  have hb := i64_wf hb
  refine ⟨30, ?_⟩
  unfold punnetlaw03_NumOrders.f
  rw [awake03]
  simp only [Option.bind_some, if_true]
  have hlong : ∀ n : Nat, 0 < (dg n).length := fun n => List.length_pos_iff.2 (dg_ne n)
  have neg : a < 0 ∨ b < 0 → punnetlaw03_NumOrders.j0 30 a b true = some true := by
    intro h
    simp only [punnetlaw03_NumOrders.j0, if_true]
    by_cases h0 : a < 0
    · rw [print_neg h0 ha.1]
      simp only [Option.bind_some]
      have hs : 0 < ((⟨#[45]⟩ : ByteArray) ++ strOfNums (dg a.natAbs)).size := by rw [← L_len, L_append, L_minus]; simp
      rw [if_pos (by omega), if_pos (by omega)]
      have hb0 : bt ((⟨#[45]⟩ : ByteArray) ++ strOfNums (dg a.natAbs)) ((0 : Nat) : Int) = 45 := by rw [bt_L, L_append, L_minus]; rfl
      have hb1 : bt ((⟨#[45]⟩ : ByteArray) ++ strOfNums (dg a.natAbs)) 0 = 45 := hb0
      rw [hb1]; simp [h0]
    · rw [print_pos (by omega) ha.2]
      simp only [Option.bind_some]
      have hs := hlong a.natAbs
      rw [if_pos (by rw [strOfNums_size]; omega), if_pos (by rw [strOfNums_size]; omega)]
      have hD := dg_Ds a.natAbs
      have hb1 : bt (strOfNums (dg a.natAbs)) ((0 : Nat) : Int) ≠ 45 := by
        rw [bt_L, L_strOfNums hD.bytes]
        cases hq : dg a.natAbs with
        | nil => exact absurd hq (dg_ne _)
        | cons x t =>
          have := hD x (by rw [hq]; simp)
          simp only [List.getD_cons_zero]; omega
      have hb2 : (bt (strOfNums (dg a.natAbs)) 0 == 45) = false := beq_eq_false_iff_ne.2 hb1
      rw [hb2]; simp [h0]
  by_cases h0 : a < 0
  · rw [if_pos h0]; exact neg (Or.inl h0)
  · rw [if_neg h0]
    by_cases h1 : b < 0
    · have e : decide (b < 0) = true := decide_eq_true h1
      rw [e]; exact neg (Or.inr h1)
    · have e : decide (b < 0) = false := decide_eq_false h1
      rw [e]
      simp only [punnetlaw03_NumOrders.j0, Bool.false_eq_true, if_false]
      rw [print_pos (by omega) ha.2, print_pos (by omega) hb.2]
      simp only [Option.bind_some, strOfNums_size]
      have va := dv_dg a.natAbs
      have vb := dv_dg b.natAbs
      by_cases hl : (dg a.natAbs).length = (dg b.natAbs).length
      · rw [if_pos (by omega), less_digits (dg_Ds _) (dg_Ds _) hl, va, vb]
        congr 1
        rw [beq_iff_eq, decide_eq_decide]; omega
      · rw [if_neg (by omega)]
        congr 1
        rw [beq_iff_eq, decide_eq_decide]
        rcases Nat.lt_or_ge (dg a.natAbs).length (dg b.natAbs).length with h | h
        · have := dv_short (dg_Ds a.natAbs) (dg_Ds b.natAbs) (dg_lead _) h (dg_ne _)
          omega
        · have := dv_short (dg_Ds b.natAbs) (dg_Ds a.natAbs) (dg_lead _) (by omega) (dg_ne _)
          omega
end Go.Proofs.Ytmmofckknopaaaa.Pure
