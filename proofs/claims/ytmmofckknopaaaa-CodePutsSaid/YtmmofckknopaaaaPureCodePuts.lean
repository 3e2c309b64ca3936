/- What is put is got: any number in either format has the bytes that the document says, and is got from them, whatever stands ahead and behind. -/
import Derived.Test.YtmmofckknopaaaaQ24
import Derived.Test.YtmmofckknopaaaaPureCodeGets
namespace Go.Proofs.Ytmmofckknopaaaa.Pure
open Go.RowKit Go.Proofs.Ytmmofckknopaaaa.Q Go.Proofs.Ytmmofckknopaaaa.Bits Go.Proofs.YtmmofckknopaaaaW.PrintWords Go.Proofs.YtmmofckknopaaaaW.PrintLast

theorem le_bytes (k : Nat) : ∀ u, Bytes (le k u) := by
  induction k with
  | zero => intro u x hx; simp [le] at hx
  | succ k ih =>
    intro u x hx
    rcases List.mem_cons.1 hx with e | hx
    · omega
    · exact ih _ x hx
theorem enc_bytes (format n : Int) : Bytes (enc format n) := by
  unfold enc
  split
  · exact le_bytes _ _
  · split
    · exact good_bytes (good_vb _)
    · intro x hx; simp at hx
theorem pre_vb (c : Nat) : ∀ (n : Nat) (b : List Int), n < 128 ^ (c + 1) → pre (c + 1) (vb n ++ b) = some (vb n) := by
  induction c with
  | zero =>
    intro n b h
    rw [vb_small (by omega)]
    simp only [List.cons_append, pre]
    rw [if_neg (by omega)]
  | succ c ih =>
    intro n b h
    by_cases hn : n < 128
    · rw [vb_small hn]
      simp only [List.cons_append, pre]
      rw [if_neg (by omega)]
    · rw [vb_big hn]
      simp only [List.cons_append]
      rw [pre, if_pos (by omega), ih (n / 128) b (by rw [Nat.pow_succ] at h; omega)]
      rfl
theorem get_put (ahead behind : List Int) (n format : Int) (h : -9223372036854775808 ≤ n ∧ n ≤ 9223372036854775807) (hf : format = 1 ∨ format = 2) :
    getR (ahead ++ enc format n ++ behind) ahead.length format = (n, (ahead.length : Int) + (enc format n).length, 0) := by
  have hlen : ahead.length ≤ (ahead ++ enc format n ++ behind).length := by simp
  have hdrop : (ahead ++ enc format n ++ behind).drop ahead.length = enc format n ++ behind := by simp [List.append_assoc]
  rcases hf with rfl | rfl
  · rw [getR_fix hlen, hdrop]
    have e : enc 1 n = le 8 (n % 18446744073709551616) := by unfold enc; rw [if_pos rfl]
    have hl := le_length 8 (n % 18446744073709551616)
    rw [if_neg (by rw [e]; simp [hl]; omega), e, List.take_left' hl, hl, leval_le 8 _ (by omega) (by show _ < 18446744073709551616; omega)]
    have hw : wrap64 (n % 18446744073709551616) = n := by unfold wrap64; omega
    rw [hw]; rfl
  · rw [getR_var hlen, hdrop]
    have ht := tn_range h
    have e : enc 2 n = vb (tn n).toNat := by unfold enc; rw [if_neg (by decide), if_pos rfl]
    rw [e, pre_vb 9 _ behind (by show _ < 1180591620717411303424; omega)]
    have hv := vval_vb (tn n).toNat
    have hc := canon (good_vb (tn n).toNat) (vb_len 9 _ (by show _ < 1180591620717411303424; omega)).2
    have hok : okd 0 (vb (tn n).toNat) = true := hc.1.1 (by rw [hv]; congr 1; omega)
    dsimp only
    rw [if_pos hok, hv, show (((tn n).toNat : Nat) : Int) = tn n by omega, bk_tn]

theorem CodePuts : punnetlaw04_CodePuts.Pure := by
  intro n format ahead behind hn _ _ _ hwa _ _ hwb
  have hn := i64_wf hn
  have hba : Bytes ahead := fun x hx => u8_wf (hwa x hx)
  have hbb : Bytes behind := fun x hx => u8_wf (hwb x hx)
  have hel := enc_len (format := format) hn
  refine ⟨100, ?_⟩
  unfold punnetlaw04_CodePuts.f
  rw [awake04_more 80]
  simp only [Option.bind_some, if_true]
  by_cases h5 : (ahead.length : Int) > 500
  · rw [if_pos h5]; simp [punnetlaw04_CodePuts.j0]
  · rw [if_neg h5]
    by_cases h6 : (behind.length : Int) > 500
    · have e : decide ((behind.length : Int) > 500) = true := decide_eq_true h6
      rw [e]; simp [punnetlaw04_CodePuts.j0]
    · have e : decide ((behind.length : Int) > 500) = false := decide_eq_false h6
      rw [e]
      simp only [punnetlaw04_CodePuts.j0, Bool.false_eq_true, if_false]
      rw [ref_Put_is hn (by omega)]
      simp only [Option.bind_some, List.length_nil, List.nil_append]
      rw [if_pos (by omega), code_Put_is hn (by omega) (by omega)]
      simp only [Option.bind_some]
      rw [if_pos (by rw [strOfNums_size, strOfNums_size]; omega), if_pos (by rw [strOfNums_append])]
      unfold code_Size.f
      rw [code_Put_is hn (by omega) (by simp)]
      simp only [Option.bind_some, List.nil_append, if_true]
      have hR : code_Right.f format = some (format == 1 || format == 2) := by
        unfold code_Right.f
        by_cases h : format = 1
        · rw [if_pos h]; simp [h]
        · rw [if_neg h]; simp [h]
      have hB : Bytes (ahead ++ enc format n ++ behind) := by
        intro x hx
        rcases List.mem_append.1 hx with hx | hx
        · rcases List.mem_append.1 hx with hx | hx
          · exact hba x hx
          · exact enc_bytes _ _ x hx
        · exact hbb x hx
      have hG := code_Get_is _ hB (by simp; omega) (ahead.length : Int) format 98 (by omega)
      have hlast : punnetlaw04_CodePuts.j1 99 n format ahead behind (enc format n) (ahead ++ enc format n) false = some true := by
        simp only [punnetlaw04_CodePuts.j1, Bool.false_eq_true, if_false]
        rw [if_pos (by simp; omega), hG]
        simp only [Option.bind_some]
        have hw : wrap64 ((ahead.length : Int) + ((enc format n).length : Int)) = (ahead.length : Int) + (enc format n).length := wrap64_id (by omega) (by omega)
        by_cases h1 : format = 1
        · rw [if_pos h1, get_put ahead behind n format hn (Or.inl h1), hw]; simp
        · rw [if_neg h1]
          by_cases h2 : format = 2
          · rw [if_pos h2, get_put ahead behind n format hn (Or.inr h2), hw]; simp
          · rw [if_neg h2, getR_arg (Or.inl ⟨h1, h2⟩)]; simp
      rw [hR]
      simp only [Option.bind_some]
      by_cases h1 : format = 1
      · rw [if_pos h1]
        have e : ((format == 1 || format == 2) != true) = false := by simp [h1]
        rw [e]; exact hlast
      · rw [if_neg h1]
        have e : ((format == 1 || format == 2) != (format == 2)) = false := by simp [h1]
        rw [e]; exact hlast
end Go.Proofs.Ytmmofckknopaaaa.Pure
