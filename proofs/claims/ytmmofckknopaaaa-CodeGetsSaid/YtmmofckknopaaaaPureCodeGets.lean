/- What is got was put just so: of any bytes and any place the program tells what the document says, and what is put again has these bytes. -/
import Derived.Test.YtmmofckknopaaaaQ22
import Derived.Test.YtmmofckknopaaaaCodeRef
namespace Go.Proofs.Ytmmofckknopaaaa.Pure
open Go.RowKit Go.Proofs.Ytmmofckknopaaaa.Q Go.Proofs.Ytmmofckknopaaaa.Bits Go.Proofs.YtmmofckknopaaaaW.PrintWords Go.Proofs.YtmmofckknopaaaaW.PrintLast

theorem enc_wrap {u : Int} (h : 0 ≤ u ∧ u < 18446744073709551616) : enc 1 (wrap64 u) = le 8 u := by
  unfold enc wrap64
  rw [if_pos rfl]
  congr 1; omega
theorem enc_bk {u : Int} (h : 0 ≤ u ∧ u < 18446744073709551616) : enc 2 (bk u) = vb u.toNat := by
  unfold enc
  rw [if_neg (by decide), if_pos rfl, tn_bk h.1]
theorem CodeGets : punnetlaw04_CodeGets.Pure := by
  intro l at_ format _ _ hw _ _
  have hb : Bytes l := fun x hx => u8_wf (hw x hx)
  refine ⟨80, ?_⟩
  unfold punnetlaw04_CodeGets.f
  rw [awake04_more 60]
  simp only [Option.bind_some, if_true]
  by_cases h5 : (l.length : Int) > 500
  · rw [if_pos h5]
  · rw [if_neg h5, code_Get_is l hb (by omega) at_ format 80 (by omega), ref_Get_is l hb (by omega) at_ format 80 (by omega)]
    simp only [Option.bind_some, if_true]
    by_cases harg : (format ≠ 1 ∧ format ≠ 2) ∨ at_ < 0 ∨ (l.length : Int) < at_
    · rw [getR_arg harg, if_neg (by decide)]
    · obtain ⟨a, rfl⟩ := Int.eq_ofNat_of_zero_le (show 0 ≤ at_ by omega)
      have hf : format = 1 ∨ format = 2 := by omega
      have fin1 : ∀ (n : Int) (e : Nat), -9223372036854775808 ≤ n ∧ n ≤ 9223372036854775807 → a + e ≤ l.length → enc format n = (l.drop a).take e →
          ((code_Put.f 80 ([] : List Int) format n).bind fun t182 => (if (0 : Int) ≤ (a : Int) then (if (a : Int) ≤ (a : Int) + e then (if (a : Int) + e ≤ (l.length : Int) then (some ((strOfNums t182).toList == (strOfNums ((l.take (((a : Int) + e).toNat)).drop ((a : Int).toNat))).toList)) else (none)) else (none)) else (none))) = some true := by
        intro n e hn he henc
        rw [code_Put_is hn (by omega) (by simp)]
        simp only [Option.bind_some]
        rw [if_pos (by omega), if_pos (by omega), if_pos (by omega), List.nil_append, henc, Int.toNat_natCast, show ((a : Int) + e).toNat = a + e by omega, List.drop_take, show a + e - a = e by omega]
        simp
      rcases hf with rfl | rfl
      · rw [getR_fix (by omega)]
        by_cases h8 : (l.length : Int) - a < 8
        · rw [if_pos h8, if_neg (by decide)]
        · rw [if_neg h8]
          simp only [if_true]
          have hB := (hb.drop a).take 8
          have hlen : ((l.drop a).take 8).length = 8 := by simp; omega
          have hr := leval_range hB
          rw [hlen] at hr
          have hr2 : 0 ≤ leval ((l.drop a).take 8) ∧ leval ((l.drop a).take 8) < 18446744073709551616 := hr
          refine fin1 _ 8 ?_ (by omega) ?_
          · unfold wrap64; omega
          · rw [enc_wrap hr2]
            have := le_leval hB
            rw [hlen] at this
            exact this
      · cases hq : pre 10 (l.drop a) with
        | none =>
          have e : getR l a 2 = (0, 0, 8) := by rw [getR_var (by omega), hq]
          rw [e, if_neg (by decide)]
        | some d =>
          have ht := pre_take hq
          have hg := pre_good (hb.drop a) hq
          have hc := canon hg ht.2.2
          by_cases hok : okd 0 d = true
          · have e : getR l a 2 = (bk (vval d), (a : Int) + d.length, 0) := by rw [getR_var (by omega), hq]; dsimp only; rw [if_pos hok]
            rw [e]
            simp only [if_true]
            have hlt := hc.2 hok
            have h0 := vval_nonneg d
            have hl := ht.2.1
            rw [List.length_drop] at hl
            refine fin1 _ d.length (bk_range ⟨h0, hlt⟩) (by omega) ?_
            rw [enc_bk ⟨h0, hlt⟩, ← ht.1]
            have := hc.1.2 hok
            rw [show vval d % 18446744073709551616 = vval d by omega] at this
            exact this
          · have e : getR l a 2 = (0, 0, 8) := by rw [getR_var (by omega), hq]; dsimp only; rw [if_neg hok]
            rw [e, if_neg (by decide)]
end Go.Proofs.Ytmmofckknopaaaa.Pure
