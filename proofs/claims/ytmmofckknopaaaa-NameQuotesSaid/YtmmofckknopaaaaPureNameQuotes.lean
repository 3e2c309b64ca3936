/- What is quoted is read: any text's quote is the document's, and it is read from it, alone and wherever it stands; and who is a name is a name in the document. -/
import Derived.Test.YtmmofckknopaaaaQuot
import Derived.Test.YtmmofckknopaaaaQ61
namespace Go.Proofs.Ytmmofckknopaaaa.Pure
open Go.RowKit Go.Proofs.Ytmmofckknopaaaa.Q Go.Proofs.Ytmmofckknopaaaa.Txt Go.Proofs.Ytmmofckknopaaaa.Str Go.Proofs.Ytmmofckknopaaaa.Quo Go.Proofs.YtmmofckknopaaaaW.PrintWords Go.Proofs.YtmmofckknopaaaaW.PrintLast

theorem awakeU : punnetlaw05_awake.f 30 = some true := by kernel_rfl
def lt (c : Int) : Bool := decide (97 ≤ c ∧ c ≤ 122)
def okc (c : Int) : Bool := decide ((97 ≤ c ∧ c ≤ 122) ∨ (48 ≤ c ∧ c ≤ 57))
theorem letter_is (c : Int) : name_letter.f c = some (lt c) := by
  unfold name_letter.f lt
  by_cases h : c ≥ 97
  · have h' : 97 ≤ c := h
    rw [if_pos h]; simp [h']
  · have h' : ¬ 97 ≤ c := h
    rw [if_neg h]; simp [h']
theorem nameName_l0 (s : ByteArray) (hs : s.size ≤ 2000) : ∀ (d k i : Nat), i + d = s.size → d < k → name_Name.l0 k s (s.size : Int) (i : Int) = some (((L s).drop i).all okc)
  | 0, k, i, hd, hk => by
    obtain ⟨k, rfl⟩ : ∃ m, k = m + 1 := ⟨k - 1, by omega⟩
    simp only [name_Name.l0]
    rw [if_neg (by omega), L_drop_end (by omega)]
    rfl
  | d + 1, k, i, hd, hk => by
    obtain ⟨k, rfl⟩ : ∃ m, k = m + 1 := ⟨k - 1, by omega⟩
    simp only [name_Name.l0]
    rw [if_pos (by omega), if_pos (by omega), if_pos (by omega), letter_is, Option.bind_some, w64 (x := (i : Int) + 1) (by omega) (by omega), show (i : Int) + 1 = ((i + 1 : Nat) : Int) by omega, nameName_l0 s hs d k (i + 1) (by omega) (by omega), L_drop (s := s) (i := i) (by omega), List.all_cons]
    unfold lt okc
    by_cases h1 : 97 ≤ bt s (i : Int) ∧ bt s (i : Int) ≤ 122
    · rw [if_pos (decide_eq_true h1), decide_eq_true (Or.inl h1)]; rfl
    · rw [if_neg (by rw [decide_eq_false h1]; simp)]
      by_cases h2 : bt s (i : Int) < 48
      · rw [if_pos h2, decide_eq_false (by omega)]; rfl
      · rw [if_neg h2]
        by_cases h3 : bt s (i : Int) > 57
        · rw [if_pos h3, decide_eq_false (by omega)]; rfl
        · rw [if_neg h3, decide_eq_true (by omega)]; rfl
theorem refName_l1 (s : ByteArray) (hs : s.size ≤ 2000) : ∀ (d k i : Nat), i + d = s.size → d < k → punnetref05_Name.l0 k s (i : Int) = some (((L s).drop i).all okc && (decide (i ≠ 0) || decide (s.size = 0) || lt (bt s 0)))
  | 0, k, i, hd, hk => by
    obtain ⟨k, rfl⟩ : ∃ m, k = m + 1 := ⟨k - 1, by omega⟩
    simp only [punnetref05_Name.l0]
    rw [if_neg (by omega), L_drop_end (by omega)]
    by_cases h : i = 0
    · have : s.size = 0 := by omega
      simp [this]
    · simp [h]
  | d + 1, k, i, hd, hk => by
    obtain ⟨k, rfl⟩ : ∃ m, k = m + 1 := ⟨k - 1, by omega⟩
    have ih := refName_l1 s hs d k (i + 1) (by omega) (by omega)
    rw [show (decide (i + 1 ≠ 0)) = true by simp, Bool.true_or, Bool.true_or, Bool.and_true] at ih
    have hz : (s.size = 0) = False := eq_false (by omega)
    simp only [punnetref05_Name.l0]
    rw [if_pos (by omega), if_pos (by omega), w64 (x := (i : Int) + 1) (by omega) (by omega), show (i : Int) + 1 = ((i + 1 : Nat) : Int) by omega, ih, L_drop (s := s) (i := i) (by omega), List.all_cons]
    have h0 : (i : Int) = 0 → bt s 0 = bt s (i : Int) := fun h => by rw [h]
    generalize hc : bt s (i : Int) = c at *
    unfold okc lt
    by_cases h1 : 97 ≤ c ∧ c ≤ 122
    · rw [if_pos (show c ≥ 97 from h1.1), if_pos (show c ≥ 48 by omega), if_pos h1.2, decide_eq_true (Or.inl h1)]
      by_cases hi : (i : Int) = 0
      · rw [h0 hi, decide_eq_true h1]; simp
      · have : i ≠ 0 := by omega
        simp [this]
    · by_cases h2 : 48 ≤ c ∧ c ≤ 57
      · rw [if_neg (show ¬ c ≥ 97 by omega), if_pos (show c ≥ 48 from h2.1), if_pos h2.2, decide_eq_true (Or.inr h2)]
        by_cases hi : (i : Int) = 0
        · rw [if_pos hi, h0 hi, decide_eq_false h1]
          have : i = 0 := by omega
          simp [this, hz]
        · rw [if_neg hi]
          have : i ≠ 0 := by omega
          simp [this]
      · rw [decide_eq_false (show ¬ ((97 ≤ c ∧ c ≤ 122) ∨ (48 ≤ c ∧ c ≤ 57)) by omega)]
        simp only [Bool.false_and]
        by_cases h3 : c ≥ 97
        · rw [if_pos h3, if_pos (show c ≥ 48 by omega), if_neg (by omega), if_neg (by omega)]
        · rw [if_neg h3]
          by_cases h4 : c ≥ 48
          · rw [if_pos h4, if_neg (by omega)]
          · rw [if_neg h4]
theorem names_same (s : ByteArray) (hs : s.size ≤ 500) (k : Nat) (hk : 3000 < k) : ∃ b, name_Name.f k s = some b ∧ punnetref05_Name.f k s = some b := by
  obtain ⟨k, rfl⟩ : ∃ m, k = m + 1 := ⟨k - 1, by omega⟩
  unfold name_Name.f punnetref05_Name.f
  simp only [name_Name.j0, punnetref05_Name.j0]
  have e0 : s.toList = ([] : List UInt8) ↔ s.size = 0 := by
    have := toList_iff s (⟨#[]⟩ : ByteArray)
    have e1 : (⟨#[]⟩ : ByteArray).toList = ([] : List UInt8) := by kernel_rfl
    rw [e1] at this
    rw [this]
    constructor
    · rintro rfl; rfl
    · intro h
      apply L_inj
      have : (L s).length = 0 := by rw [L_len]; exact h
      rw [List.length_eq_zero_iff.1 this]
      rfl
  by_cases h1 : s.size = 0
  · rw [if_pos (e0.2 h1), if_pos (show (s.size : Int) < 1 by omega)]
    exact ⟨false, rfl, rfl⟩
  · rw [if_neg (fun h => h1 (e0.1 h)), if_neg (show ¬ (s.size : Int) < 1 by omega)]
    by_cases h2 : (s.size : Int) > 12
    · rw [if_pos h2, if_pos (decide_eq_true h2)]
      exact ⟨false, rfl, rfl⟩
    · rw [if_neg h2, if_pos (show 0 < (s.size : Int) by omega), letter_is, Option.bind_some, decide_eq_false h2]
      simp only [Bool.false_eq_true, if_false]
      have hN := nameName_l0 s (by omega) s.size k 0 (by omega) (by omega)
      have hR := refName_l1 s (by omega) s.size k 0 (by omega) (by omega)
      rw [show ((0 : Nat) : Int) = 0 from rfl] at hN hR
      rw [hN, hR]
      cases h3 : lt (bt s 0) with
      | true => exact ⟨_, rfl, by simp⟩
      | false => exact ⟨false, rfl, by simp [h1]⟩
theorem quo_qtd {l t r : List Int} {i : Nat} (ht : Bytes t) (h : l.drop i = qtd t ++ r) : quo l i = (t, ((i + (qtd t).length : Nat) : Int), true) := by
  have e1 : qtd t ++ r = 34 :: (Quo.encs t ++ 34 :: r) := by unfold qtd; simp
  unfold quo
  rw [h, e1]
  simp only [if_true]
  rw [qs_encs ht]
  simp only
  congr 2
  unfold qtd
  simp
  omega
theorem NameQuotes : punnetlaw05_NameQuotes.Pure := by
  intro s a b _ _ _
  refine ⟨200000, ?_⟩
  unfold punnetlaw05_NameQuotes.f
  rw [at_rounds punnetlaw05_awake.mono (k := 30) (by omega) awakeU, Option.bind_some, if_pos rfl]
  by_cases h1 : (s.size : Int) > 500
  · rw [if_pos h1]; simp only [punnetlaw05_NameQuotes.j0, if_true]
  · rw [if_neg h1]
    by_cases h2 : (a.size : Int) > 500
    · rw [if_pos h2]; simp only [punnetlaw05_NameQuotes.j0, if_true]
    · rw [if_neg h2]
      by_cases h3 : (b.size : Int) > 500
      · rw [decide_eq_true h3]; simp only [punnetlaw05_NameQuotes.j0, if_true]
      · rw [decide_eq_false h3]
        simp only [punnetlaw05_NameQuotes.j0, Bool.false_eq_true, if_false]
        obtain ⟨nb, hn1, hn2⟩ := names_same s (by omega) 199999 (by omega)
        have hT : name_Text.f s = some (decide ((s.size : Int) ≤ 40)) := rfl
        rw [Quote_is, Option.bind_some, hn1, Option.bind_some, hn2, Option.bind_some, bne_self_eq_false, if_neg (by simp), hT, Option.bind_some, bne_self_eq_false]
        simp only [punnetlaw05_NameQuotes.j1, Bool.false_eq_true, if_false]
        by_cases h4 : s.size ≤ 40
        · rw [if_neg (by omega), if_pos h4]
          simp only
          have hb := L_bytes s
          have hq := qtd_bytes hb
          have hl := qtd_len (L s)
          rw [L_len] at hl
          have hLq := L_strOfNums hq
          have hz : (strOfNums (qtd (L s))).size = (qtd (L s)).length := strOfNums_size _
          have hU : unqQ (qtd (L s)) = (L s, 0) := by
            have hquo := quo_qtd (l := qtd (L s)) (r := []) (i := 0) hb (by simp)
            have hsc : scanQ (qtd (L s)) 0 = (L s, ((qtd (L s)).length : Int), 0) := by
              unfold scanQ
              rw [if_neg (by omega), show (0 : Int).toNat = 0 from rfl, hquo]
              simp only [if_true]
              rw [if_neg (by rw [L_len]; omega)]
              simp
            unfold unqQ
            rw [hsc]
            simp
          have hS : scanQ (L ((a ++ strOfNums (qtd (L s))) ++ b)) (a.size : Int) = (L s, ((a.size + (qtd (L s)).length : Nat) : Int), 0) := by
            have hd : (L ((a ++ strOfNums (qtd (L s))) ++ b)).drop a.size = qtd (L s) ++ L b := by
              rw [L_append, L_append, hLq, List.append_assoc, ← L_len a, List.drop_left]
            have hquo := quo_qtd hb hd
            unfold scanQ
            rw [if_neg (by rw [L_len, ByteArray.size_append, ByteArray.size_append]; omega), Int.toNat_natCast, hquo]
            simp only [if_true]
            rw [if_neg (by rw [L_len]; omega)]
          rw [Unquote_is _ (by omega) _ (by omega), Option.bind_some, hLq, hU, if_pos (by omega), if_pos (by rw [ByteArray.size_append]; omega), Scan_is _ (by rw [ByteArray.size_append, ByteArray.size_append]; omega) _ _ (by omega), Option.bind_some, hS, refQuote_qtd s (by omega) _ (by omega), Option.bind_some]
          simp only [strOfNums_L, if_true]
          rw [hz, w64 (by omega) (by omega), if_pos (by omega)]
          rfl
        · rw [if_pos (by omega), if_neg h4, if_pos (by kernel_rfl)]
          rfl
end Go.Proofs.Ytmmofckknopaaaa.Pure
