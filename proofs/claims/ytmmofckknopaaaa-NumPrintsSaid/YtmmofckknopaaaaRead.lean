/- What the document's and the program's ways to read a number come to, for texts of at most 2000 bytes: the same. -/
import Derived.Test.YtmmofckknopaaaaScan
import Derived.Test.YtmmofckknopaaaaQ31
namespace Go.Proofs.Ytmmofckknopaaaa.Pure
open Go.RowKit Go.Proofs.Ytmmofckknopaaaa.Q Go.Proofs.Ytmmofckknopaaaa.Bits Go.Proofs.Ytmmofckknopaaaa.Str Go.Proofs.Ytmmofckknopaaaa.Dig Go.Proofs.YtmmofckknopaaaaW.PrintWords Go.Proofs.YtmmofckknopaaaaW.PrintLast

/-- Behind a sign, if one stands there. -/
def rest (l : List Int) : List Int := if neg l = true then l.drop 1 else l
theorem ds_rest (l : List Int) : ds l = run (rest l) := rfl
theorem run_all {l : List Int} (h : l.all isd = true) : run l = l := by
  induction l with
  | nil => rfl
  | cons x r ih =>
    simp only [List.all_cons, Bool.and_eq_true] at h
    rw [run_cons_pos h.1, ih h.2]
theorem l48 : (⟨#[48]⟩ : ByteArray).toList = [48] := by rw [Lib.toList_data]
theorem run_not_all {l : List Int} (h : ¬ l.all isd = true) : (run l).length < l.length := by
  rcases Nat.lt_or_ge (run l).length l.length with h1 | h1
  · exact h1
  · exfalso
    apply h
    have h2 : run l = l := List.IsPrefix.eq_of_length_le (List.takeWhile_prefix isd) h1
    have := List.all_takeWhile (p := isd) (l := l)
    unfold run at h2
    rw [h2] at this; exact this
theorem rest_bytes (s : ByteArray) : L (if neg (L s) = true then s.extract 1 s.size else s) = rest (L s) := by
  unfold rest
  split
  · rw [L_extract, ← L_len, List.take_length]
  · rfl

/-! ### A text is a word -/
theorem word_l0 (s : ByteArray) (hs : s.size ≤ 2000) (d : Nat) : ∀ (k i : Nat), i + d = s.size → d < k → punnetref03_Word.l0 k s i = some (((L s).drop i).all isd) := by
  induction d with
  | zero =>
    intro k i hi hk
    obtain ⟨k, rfl⟩ : ∃ m, k = m + 1 := ⟨k - 1, by omega⟩
    simp only [punnetref03_Word.l0]
    rw [if_neg (by omega), L_drop_end (by omega)]; rfl
  | succ d ih =>
    intro k i hi hk
    obtain ⟨k, rfl⟩ : ∃ m, k = m + 1 := ⟨k - 1, by omega⟩
    simp only [punnetref03_Word.l0]
    rw [if_pos (by omega), if_pos (by omega), L_drop (by omega), w64 (by omega) (by omega), show (i : Int) + 1 = ((i + 1 : Nat) : Int) by omega, ih k (i + 1) (by omega) (by omega)]
    rw [List.all_cons]
    by_cases h1 : bt s (i : Int) < 48
    · rw [if_pos h1]
      have e : isd (bt s i) = false := by unfold isd; simp; omega
      rw [e]; rfl
    · rw [if_neg h1]
      by_cases h2 : bt s (i : Int) > 57
      · rw [if_pos h2]
        have e : isd (bt s i) = false := by unfold isd; simp; omega
        rw [e]; rfl
      · rw [if_neg h2]
        have e : isd (bt s i) = true := by unfold isd; simp; omega
        rw [e, Bool.true_and]

/-- What makes a text none. -/
def Bad (n : Bool) (d : List Int) : Prop := d = [] ∨ (d.getD 0 0 = 48 ∧ (1 < d.length ∨ n = true))
instance (n : Bool) (d : List Int) : Decidable (Bad n d) := inferInstanceAs (Decidable (_ ∨ _))
theorem word_j1 (s t : ByteArray) (hs : t.size ≤ 2000) (k : Nat) (hk : 2010 < k) (n : Bool) (hn : t = s ∧ n = false ∨ (s.toList ≠ [48]) ∧ n = true) : punnetref03_Word.j1 k s t = some (decide (¬ Bad n (L t)) && (L t).all isd) := by
  obtain ⟨k, rfl⟩ : ∃ m, k = m + 1 + 1 := ⟨k - 2, by omega⟩
  simp only [punnetref03_Word.j1, punnetref03_Word.j2]
  have hl0 := word_l0 t hs t.size k 0 (by omega) (by omega)
  have h00 : ((0 : Nat) : Int) = 0 := rfl
  rw [h00, List.drop_zero] at hl0
  by_cases h0 : t.size = 0
  · rw [if_pos (by omega)]
    have e : L t = [] := List.eq_nil_of_length_eq_zero (by rw [L_len]; exact h0)
    simp [Bad, e]
  · rw [if_neg (by omega), if_pos (by omega)]
    have hne : L t ≠ [] := by intro h; apply h0; rw [← L_len, h]; rfl
    have hb : bt t 0 = (L t).getD 0 0 := bt_L t 0
    rw [hb]
    by_cases h48 : (L t).getD 0 0 = 48
    · rw [if_pos h48]
      have key : (s.toList != ([48] : List UInt8)) = decide (Bad n (L t)) := by
        rw [Bool.eq_iff_iff, bne_iff_ne, decide_eq_true_eq]
        rcases hn with ⟨rfl, rfl⟩ | ⟨h1, rfl⟩
        · unfold Bad
          constructor
          · intro h
            refine Or.inr ⟨h48, Or.inl ?_⟩
            rcases Nat.lt_or_ge 1 (L t).length with h2 | h2
            · exact h2
            · exfalso; apply h
              have h3 : L t = [48] := by
                match hq : L t, h2 with
                | [], _ => exact absurd hq hne
                | [c], _ => rw [hq] at h48; simp only [List.getD_cons_zero] at h48; rw [h48]
              have h4 : t = (⟨#[48]⟩ : ByteArray) := L_inj (by rw [h3]; rfl)
              rw [h4, l48]
          · rintro (h | ⟨_, h | h⟩) he
            · exact hne h
            · have h4 : t = (⟨#[48]⟩ : ByteArray) := (toList_iff _ _).1 (by rw [he, l48])
              rw [h4] at h
              exact absurd h (by decide)
            · cases h
        · exact ⟨fun _ => Or.inr ⟨h48, Or.inr rfl⟩, fun _ => h1⟩
      rw [key]
      by_cases hB : Bad n (L t)
      · simp [hB]
      · simp only [hB, decide_false, Bool.false_eq_true, if_false]
        rw [hl0]; simp
    · rw [if_neg h48]
      have hB : ¬ Bad n (L t) := by rintro (h | ⟨h, _⟩); exact hne h; exact h48 h
      simp only [Bool.false_eq_true, if_false]
      rw [hl0]; simp [hB]
theorem word_is (s : ByteArray) (hs : s.size ≤ 2000) (k : Nat) (hk : 2020 < k) : punnetref03_Word.f k s = some (decide (¬ Bad (neg (L s)) (rest (L s))) && (rest (L s)).all isd) := by
  obtain ⟨k, rfl⟩ : ∃ m, k = m + 1 := ⟨k - 1, by omega⟩
  unfold punnetref03_Word.f
  have hb : bt s 0 = (L s).getD 0 0 := bt_L s 0
  have hn : (bt s 0 == 45) = neg (L s) := by rw [hb]; rfl
  have hr := rest_bytes s
  by_cases h0 : (s.size : Int) > 0
  · rw [if_pos h0, if_pos (by omega), hn]
    simp only [punnetref03_Word.j0]
    cases hneg : neg (L s) with
    | true =>
      rw [hneg] at hr
      simp only [if_true] at hr ⊢
      rw [if_pos (by omega), word_j1 s (s.extract 1 s.size) (by rw [← L_len, hr]; unfold rest; rw [hneg]; simp [L_len]; omega) k (by omega) true (Or.inr ⟨by
        intro h
        have h4 : s = (⟨#[48]⟩ : ByteArray) := (toList_iff _ _).1 (by rw [h, l48])
        rw [h4] at hneg
        exact absurd hneg (by decide), rfl⟩), hr]
    | false =>
      rw [hneg] at hr
      simp only [Bool.false_eq_true, if_false] at hr ⊢
      rw [word_j1 s s hs k (by omega) false (Or.inl ⟨rfl, rfl⟩), ← hr]
  · rw [if_neg h0]
    have e : L s = [] := List.eq_nil_of_length_eq_zero (by rw [L_len]; omega)
    have hneg : neg (L s) = false := by rw [e]; rfl
    rw [hneg] at hr ⊢
    simp only [punnetref03_Word.j0, Bool.false_eq_true, if_false] at hr ⊢
    rw [word_j1 s s hs k (by omega) false (Or.inl ⟨rfl, rfl⟩), ← hr]

/-! ### Read -/
theorem less_is {d B : List Int} (hd : Ds d) (hB : Ds B) (h1 : ¬ Bad false d) (h2 : Lead B) (hBne : B ≠ []) : punnetref03_less.f (strOfNums d) (strOfNums B) = some (decide (dv d ≤ dv B)) := by
  have hne : d ≠ [] := fun h => h1 (Or.inl h)
  have hL : Lead d := by
    by_cases h : d.getD 0 0 = 48
    · right
      have h3 : ¬ 1 < d.length := fun h4 => h1 (Or.inr ⟨h, Or.inl h4⟩)
      have := List.length_pos_iff.2 hne
      omega
    · exact Or.inl h
  unfold punnetref03_less.f
  rw [strOfNums_size, strOfNums_size]
  by_cases hlt : d.length < B.length
  · have := dv_short hd hB h2 hlt hne
    rw [if_pos (by omega), decide_eq_true (by omega)]
  · rw [if_neg (by omega)]
    by_cases heq : d.length = B.length
    · rw [if_pos (by omega), less_digits hB hd heq.symm]
      congr 1
      rw [Bool.eq_iff_iff, Bool.not_eq_true', decide_eq_false_iff_not, decide_eq_true_eq]; omega
    · have := dv_short hB hd hL (by omega) hBne
      rw [if_neg (by omega), decide_eq_false (by omega)]

theorem read_l0 (s : ByteArray) (hs : s.size ≤ 2000) (hpos : 0 < s.size) (hall : (rest (L s)).all isd = true) (hmax : dv (rest (L s)) ≤ 9223372036854775808) (e : Nat) : ∀ (k i p : Nat), i + e = s.size → e < k → (if neg (L s) = true then 1 else 0) ≤ i → dvA p ((L s).drop i) = dv (rest (L s)) →
    punnetref03_Read.l0 k s (-(p : Int)) i = some (if neg (L s) = true then -(dv (rest (L s)) : Int) else wrap64 (dv (rest (L s))), 0) := by
  have hb : bt s 0 = (L s).getD 0 0 := bt_L s 0
  induction e with
  | zero =>
    intro k i p hi hk hn hp
    obtain ⟨k, rfl⟩ : ∃ m, k = m + 1 := ⟨k - 1, by omega⟩
    simp only [punnetref03_Read.l0]
    rw [if_neg (by omega), if_pos (by omega)]
    rw [L_drop_end (by omega)] at hp
    have hp2 : p = dv (rest (L s)) := by rw [← hp]; simp [dvA, dv]
    have hnn : (bt s 0 = 45) ↔ neg (L s) = true := by unfold neg; rw [hb, beq_iff_eq]
    by_cases h45 : bt s 0 = 45
    · rw [if_pos h45, if_pos (hnn.1 h45), hp2]
    · rw [if_neg h45, if_neg (fun h => h45 (hnn.2 h)), hp2, Int.neg_neg]
  | succ e ih =>
    intro k i p hi hk hn hp
    obtain ⟨k, rfl⟩ : ∃ m, k = m + 1 := ⟨k - 1, by omega⟩
    have hd : isd (bt s i) = true := by
      have hmem : bt s (i : Int) ∈ rest (L s) := by
        unfold rest
        split
        · rename_i h; rw [if_pos h] at hn
          have h2 : (L s).drop i = ((L s).drop 1).drop (i - 1) := by rw [List.drop_drop]; congr 1; omega
          exact List.mem_of_mem_drop (i := i - 1) (by rw [← h2, L_drop (by omega)]; simp)
        · exact List.mem_of_mem_drop (i := i) (by rw [L_drop (by omega)]; simp)
      rw [List.all_eq_true] at hall
      exact hall _ hmem
    simp only [isd, Bool.and_eq_true, decide_eq_true_eq] at hd
    rw [L_drop (by omega), ← dvA_cons] at hp
    have hle := dvA_le (p * 10 + (bt s i - 48).toNat) ((L s).drop (i + 1))
    simp only [punnetref03_Read.l0]
    rw [if_pos (by omega), if_pos (by omega), if_neg (by omega)]
    rw [w64 (x := (i : Int) + 1) (by omega) (by omega), show (bt s (i : Int) - 48) % 256 = bt s i - 48 by omega, w64 (x := -(p : Int) * 10) (by omega) (by omega), w64 (by omega) (by omega)]
    rw [show -(p : Int) * 10 - (bt s i - 48) = -((p * 10 + (bt s i - 48).toNat : Nat) : Int) by omega, show (i : Int) + 1 = ((i + 1 : Nat) : Int) by omega]
    exact ih k (i + 1) _ (by omega) (by omega) (by omega) hp

/-- What a whole text is read as. -/
def readR (l : List Int) : Int × Int := if (rest l).all isd = true then rdD (neg l) (rest l) else (0, 4)

theorem dv_of_run {l : List Int} (h : l.all isd = true) : Ds l := by
  have := run_Ds l
  rw [run_all h] at this; exact this
theorem ref_Read_is (s : ByteArray) (hs : s.size ≤ 2000) (k : Nat) (hk : 2030 < k) : punnetref03_Read.f k s = some (readR (L s)) := by
  obtain ⟨k, rfl⟩ : ∃ m, k = m + 1 := ⟨k - 1, by omega⟩
  unfold punnetref03_Read.f readR
  rw [word_is s hs (k + 1) (by omega)]
  simp only [Option.bind_some]
  by_cases hall : (rest (L s)).all isd = true
  · rw [if_pos hall, hall, Bool.and_true]
    by_cases hB : Bad (neg (L s)) (rest (L s))
    · rw [decide_eq_false (fun h => h hB), rdD_word hB]; simp
    · rw [decide_eq_true hB]
      simp only [if_true]
      have hD := dv_of_run hall
      have hr := rest_bytes s
      have hne : rest (L s) ≠ [] := fun h => hB (Or.inl h)
      have hpos : 0 < s.size := by
        rcases Nat.eq_zero_or_pos s.size with h | h
        · exfalso; apply hne
          have e : L s = [] := List.eq_nil_of_length_eq_zero (by rw [L_len]; exact h)
          rw [e]; rfl
        · exact h
      have hb : bt s 0 = (L s).getD 0 0 := bt_L s 0
      have hnn : (bt s 0 = 45) ↔ neg (L s) = true := by unfold neg; rw [hb, beq_iff_eq]
      have hBf : ¬ Bad false (rest (L s)) := by
        rintro (h | ⟨h, h2 | h2⟩)
        · exact hne h
        · exact hB (Or.inr ⟨h, Or.inl h2⟩)
        · cases h2
      rw [if_pos (by omega)]
      have hstart : ∀ m, dv (rest (L s)) ≤ m → m ≤ 9223372036854775808 → punnetref03_Read.l0 k s 0 0 = some (if neg (L s) = true then -(dv (rest (L s)) : Int) else wrap64 (dv (rest (L s))), 0) := by
        intro m h1 h2
        have h00 : -((0 : Nat) : Int) = 0 := rfl
        cases hneg : neg (L s) with
        | false =>
          have h := read_l0 s hs hpos hall (by omega) s.size k 0 0 (by omega) (by omega) (by rw [hneg]; simp) (by unfold rest; rw [hneg]; simp [dvA])
          rw [h00, hneg] at h
          exact h
        | true =>
          have h := read_l0 s hs hpos hall (by omega) (s.size - 1) (k - 1) 1 0 (by omega) (by omega) (by rw [hneg]; simp) (by unfold rest; rw [hneg]; simp [dvA])
          rw [h00, hneg] at h
          obtain ⟨k, rfl⟩ : ∃ m, k = m + 1 := ⟨k - 1, by omega⟩
          simp only [punnetref03_Read.l0]
          rw [if_pos (by omega), if_pos (by omega), if_pos (hnn.2 hneg), w64 (by omega) (by omega)]
          exact h
      by_cases hneg : neg (L s) = true
      · rw [if_pos (hnn.2 hneg), if_pos (by omega)]
        rw [hneg] at hr
        simp only [if_true] at hr
        have e1 : s.extract 1 s.size = strOfNums (rest (L s)) := L_inj (by rw [hr, L_strOfNums hD.bytes])
        have e2 : (⟨#[57, 50, 50, 51, 51, 55, 50, 48, 51, 54, 56, 53, 52, 55, 55, 53, 56, 48, 56]⟩ : ByteArray) = strOfNums [57, 50, 50, 51, 51, 55, 50, 48, 51, 54, 56, 53, 52, 55, 55, 53, 56, 48, 56] := rfl
        have e3 : dv [57, 50, 50, 51, 51, 55, 50, 48, 51, 54, 56, 53, 52, 55, 55, 53, 56, 48, 56] = 9223372036854775808 := by decide
        rw [e1, e2, less_is hD (by intro x hx; simp at hx; omega) hBf (Or.inl (by decide)) (by simp), e3]
        simp only [Option.bind_some]
        by_cases hle : dv (rest (L s)) ≤ 9223372036854775808
        · rw [decide_eq_true hle, rdD_fine hB (by rw [hneg]; simp; omega), hneg]
          simp only [if_true, punnetref03_Read.j0, Bool.false_eq_true, if_false]
          obtain ⟨k, rfl⟩ : ∃ m, k = m + 1 := ⟨k - 1, by omega⟩
          have := hstart _ hle (by omega)
          rw [hneg] at this
          exact this
        · rw [decide_eq_false hle, rdD_over hB (by rw [hneg]; simp; omega)]
          simp [punnetref03_Read.j0]
      · rw [if_neg (fun h => hneg (hnn.1 h))]
        have hneg : neg (L s) = false := by simpa using hneg
        rw [hneg] at hr
        simp only [Bool.false_eq_true, if_false] at hr
        have e1 : s = strOfNums (rest (L s)) := L_inj (by rw [L_strOfNums hD.bytes]; exact hr)
        have e2 : (⟨#[57, 50, 50, 51, 51, 55, 50, 48, 51, 54, 56, 53, 52, 55, 55, 53, 56, 48, 55]⟩ : ByteArray) = strOfNums [57, 50, 50, 51, 51, 55, 50, 48, 51, 54, 56, 53, 52, 55, 55, 53, 56, 48, 55] := rfl
        have e3 : dv [57, 50, 50, 51, 51, 55, 50, 48, 51, 54, 56, 53, 52, 55, 55, 53, 56, 48, 55] = 9223372036854775807 := by decide
        have hless : punnetref03_less.f s (⟨#[57, 50, 50, 51, 51, 55, 50, 48, 51, 54, 56, 53, 52, 55, 55, 53, 56, 48, 55]⟩ : ByteArray) = some (decide (dv (rest (L s)) ≤ 9223372036854775807)) := by
          conv => lhs; rw [e1, e2]
          rw [less_is hD (by intro x hx; simp at hx; omega) hBf (Or.inl (by decide)) (by simp), e3]
        rw [hless]
        simp only [Option.bind_some]
        by_cases hle : dv (rest (L s)) ≤ 9223372036854775807
        · rw [decide_eq_true hle, rdD_fine hB (by rw [hneg]; simp; omega), hneg]
          simp only [punnetref03_Read.j0, Bool.not_true, Bool.false_eq_true, if_false]
          have := hstart _ hle (by omega)
          rw [hneg] at this
          simp only [Bool.false_eq_true, if_false] at this
          rw [w64 (by omega) (by omega)] at this
          exact this
        · rw [decide_eq_false hle, rdD_over hB (by rw [hneg]; simp; omega)]
          simp [punnetref03_Read.j0]
  · have e : (rest (L s)).all isd = false := by simpa using hall
    rw [if_neg hall, e, Bool.and_false]; simp
end Go.Proofs.Ytmmofckknopaaaa.Pure
