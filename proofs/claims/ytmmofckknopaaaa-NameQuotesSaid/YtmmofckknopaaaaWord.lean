/- A line's words, over lists of numbers; the quote and the words of the document's answer and of the program are these. No condition beyond those typed. -/
import Derived.Test.YtmmofckknopaaaaQuo
import Derived.Test.YtmmofckknopaaaaQ40
import Derived.Test.YtmmofckknopaaaaQ48
namespace Go.Proofs.Ytmmofckknopaaaa.Quo
open Go.RowKit Go.Proofs.Ytmmofckknopaaaa.Q Go.Proofs.Ytmmofckknopaaaa.Str Go.Proofs.YtmmofckknopaaaaW.PrintWords Go.Proofs.YtmmofckknopaaaaW.PrintLast
open Go.Proofs.Ytmmofckknopaaaa.Txt

theorem enc_bytes {c : Int} (h : 0 ≤ c ∧ c < 256) : Bytes (enc c) := by
  unfold enc hd
  split
  · intro x hx; simp at hx; omega
  · intro x hx
    simp at hx
    rcases hx with rfl | rfl | rfl
    · omega
    · split <;> omega
    · split <;> omega
theorem enc_len (c : Int) : 1 ≤ (enc c).length ∧ (enc c).length ≤ 3 := by
  unfold enc
  split <;> simp
theorem hex_is {n : Int} (h : 0 ≤ n ∧ n < 16) : punnetref05_hex.f n = some (strOfNums [hd n]) := by
  unfold punnetref05_hex.f hd
  split
  · rw [Int.emod_eq_of_lt (by omega) (by omega)]
  · rw [Int.emod_eq_of_lt (by omega) (by omega)]
theorem Byte_is {c : Int} (h : 0 ≤ c ∧ c < 256) (k : Nat) (hk : 0 < k) : punnetref05_Byte.f k c = some (strOfNums (enc c)) := by
  obtain ⟨k, rfl⟩ : ∃ m, k = m + 1 := ⟨k - 1, by omega⟩
  have e1 : Int.tdiv c 16 = c / 16 := Int.tdiv_eq_ediv_of_nonneg h.1
  have e2 : Int.tmod c 16 = c % 16 := Int.tmod_eq_emod_of_nonneg h.1
  have hT : pl c = false → punnetref05_Byte.j0 (k + 1) c true = some (strOfNums (enc c)) := by
    intro hp
    simp only [punnetref05_Byte.j0, if_true]
    rw [e1, e2, Int.emod_eq_of_lt (a := c / 16) (by omega) (by omega), hex_is (by omega), hex_is (by omega)]
    simp only [Option.bind_some]
    have e3 : (⟨#[92]⟩ : ByteArray) = strOfNums [92] := rfl
    rw [e3, ← strOfNums_append]
    rw [strOfNums_size, strOfNums_size, strOfNums_size, if_pos (by simp), if_pos (by simp), ← strOfNums_append]
    unfold enc
    rw [hp]
    rfl
  unfold punnetref05_Byte.f
  by_cases h1 : c < 32
  · rw [if_pos h1]; exact hT ((pl_not c).2 (by omega))
  · rw [if_neg h1]
    by_cases h2 : c > 126
    · rw [if_pos h2]; exact hT ((pl_not c).2 (by omega))
    · rw [if_neg h2]
      by_cases h3 : c = 34
      · rw [if_pos h3]; exact hT ((pl_not c).2 (by omega))
      · rw [if_neg h3]
        by_cases h4 : c = 92
        · have : (c == 92) = true := by simpa using h4
          rw [this]; exact hT ((pl_not c).2 (by omega))
        · have : (c == 92) = false := by simpa using h4
          rw [this]
          simp only [punnetref05_Byte.j0, Bool.false_eq_true, if_false]
          unfold enc
          rw [(pl_iff c).2 (by omega)]
          rfl
theorem cut_enc (s : ByteArray) (i : Nat) {c : Int} (h : 0 ≤ c ∧ c < 256) : (s.extract i (i + (enc c).length)).toList = (strOfNums (enc c)).toList ↔ dec ((L s).drop i) = some (c, (enc c).length) := by
  rw [toList_iff, ← prefix_iff h]
  constructor
  · intro h1
    have h2 := congrArg L h1
    rw [L_extract, L_strOfNums (enc_bytes h), List.drop_take] at h2
    rw [← h2]
    simp
  · intro h1
    apply L_inj
    rw [L_extract, L_strOfNums (enc_bytes h), List.drop_take, Nat.add_sub_cancel_left, h1]
theorem begins_j3 (s : ByteArray) (hs : s.size ≤ 100000) (k i : Nat) (hi : i ≤ s.size) (acc : ByteArray) (c : Nat) (hc : c < 256) (ha : acc.size ≤ 200000) :
    punnetref05_Begins.j3 (k + 2) s (i : Int) acc false (c : Int) true = if dec ((L s).drop i) = some ((c : Int), (enc (c : Int)).length) then punnetref05_Begins.l1 (k + 1) s ((i + (enc (c : Int)).length : Nat) : Int) (acc ++ strOfNums [(c : Int)]) true ((c + 1 : Nat) : Int) else punnetref05_Begins.l1 (k + 1) s (i : Int) acc false ((c + 1 : Nat) : Int) := by
  simp only [punnetref05_Begins.j3, if_true]
  have hl := enc_len (c : Int)
  rw [Int.emod_eq_of_lt (by omega) (by omega), Byte_is (by omega) _ (by omega)]
  rw [Option.bind_some, strOfNums_size, w64 (x := (i : Int) + _) (by omega) (by omega), w64 (x := (c : Int) + 1) (by omega) (by omega)]
  rw [Option.bind_some, strOfNums_size]
  have e1 : (i : Int) + ((enc (c : Int)).length : Int) = ((i + (enc (c : Int)).length : Nat) : Int) := by omega
  have e2 : (c : Int) + 1 = ((c + 1 : Nat) : Int) := by omega
  rw [e1, e2]
  by_cases h1 : ((i + (enc (c : Int)).length : Nat) : Int) ≤ s.size
  · rw [if_pos h1, if_pos (by omega), if_pos (by omega), Int.toNat_natCast, Int.toNat_natCast]
    by_cases h2 : dec ((L s).drop i) = some ((c : Int), (enc (c : Int)).length)
    · rw [if_pos ((cut_enc s i (by omega)).2 h2), if_pos h2, if_pos (by simp only [List.length_cons, List.length_nil]; omega)]
    · rw [if_neg (fun h => h2 ((cut_enc s i (by omega)).1 h)), if_neg h2]
  · rw [if_neg h1, if_neg]
    intro h2
    have := dec_range h2
    rw [List.length_drop, L_len] at this
    simp only at this
    omega
theorem begins_none (s : ByteArray) (hs : s.size ≤ 100000) (k i : Nat) (hi : i ≤ s.size) (acc : ByteArray) (ha : acc.size ≤ 200000) (h : dec ((L s).drop i) = none) :
    ∀ (j c : Nat), c + j = 256 → punnetref05_Begins.l1 (k + 2 * j + 2) s (i : Int) acc false (c : Int) = some (strOfNums [], 0, false)
  | 0, c, hc => by
    simp only [punnetref05_Begins.l1]
    rw [if_neg (by omega)]
    simp only [punnetref05_Begins.j3, Bool.false_eq_true, if_false]
    rfl
  | j + 1, c, hc => by
    rw [show k + 2 * (j + 1) + 2 = (k + 2 * j + 1 + 2) + 1 by omega]
    simp only [punnetref05_Begins.l1]
    rw [if_pos (by omega), show (!false) = true from rfl, begins_j3 s hs _ i hi acc c (by omega) ha, if_neg (by rw [h]; simp)]
    exact begins_none s hs k i hi acc ha h j (c + 1) (by omega)
theorem begins_some (s : ByteArray) (hs : s.size ≤ 100000) (k i : Nat) (hi : i ≤ s.size) (acc : ByteArray) (ha : acc.size ≤ 200000) (v : Nat) (n : Nat) (h : dec ((L s).drop i) = some ((v : Int), n)) :
    ∀ (j c : Nat), c + j = v → punnetref05_Begins.l1 (k + 2 * j + 4) s (i : Int) acc false (c : Int) = punnetref05_Begins.l0 k s ((i + n : Nat) : Int) (acc ++ strOfNums [(v : Int)])
  | 0, c, hc => by
    have hr := dec_range h
    have hn := (enc_dec h).2
    simp only at hr hn
    obtain rfl : c = v := by omega
    rw [show k + 2 * 0 + 4 = (k + 1 + 2) + 1 by omega]
    simp only [punnetref05_Begins.l1]
    rw [if_pos (by omega), show (!false) = true from rfl, begins_j3 s hs _ i hi acc c (by omega) ha, if_pos (by rw [h, hn]), hn]
    simp only [punnetref05_Begins.l1]
    have hj : punnetref05_Begins.j3 (k + 1) s ((i + n : Nat) : Int) (acc ++ strOfNums [(c : Int)]) true ((c + 1 : Nat) : Int) false = punnetref05_Begins.l0 k s ((i + n : Nat) : Int) (acc ++ strOfNums [(c : Int)]) := by
      simp only [punnetref05_Begins.j3, Bool.false_eq_true, if_false, if_true]
    have e : (!true) = false := rfl
    rw [e, hj]
    split <;> rfl
  | j + 1, c, hc => by
    have hr := dec_range h
    simp only at hr
    rw [show k + 2 * (j + 1) + 4 = (k + 2 * j + 3 + 2) + 1 by omega]
    simp only [punnetref05_Begins.l1]
    rw [if_pos (by omega), show (!false) = true from rfl, begins_j3 s hs _ i hi acc c (by omega) ha, if_neg (by rw [h]; intro h2; simp at h2; omega)]
    exact begins_some s hs k i hi acc ha v n h j (c + 1) (by omega)
theorem begins_l0 (s : ByteArray) (hs : s.size ≤ 100000) (d : Nat) : ∀ (i : Nat) (a : List Int), i + d = s.size → a.length ≤ i →
    ∃ k, punnetref05_Begins.l0 k s (i : Int) (strOfNums a) = some (match qs ((L s).drop i) with | some p => (strOfNums (a ++ p.1), ((i + p.2 : Nat) : Int), true) | none => (strOfNums [], 0, false)) := by
  induction d using Nat.strongRecOn with
  | ind d ih =>
    intro i a hd hacc
    by_cases h1 : (i : Int) < s.size
    · have hd0 := L_drop (s := s) (i := i) (by omega)
      by_cases h2 : bt s i = 34
      · refine ⟨1, ?_⟩
        simp only [punnetref05_Begins.l0]
        rw [if_pos h1, if_pos (by omega), if_pos h2, hd0, h2, qs_mark, w64 (by omega) (by omega)]
        simp
      · cases hq : dec ((L s).drop i) with
        | none =>
          refine ⟨(0 + 2 * 256 + 2) + 1, ?_⟩
          simp only [punnetref05_Begins.l0]
          rw [if_pos h1, if_pos (by omega), if_neg h2]
          have h3 := begins_none s hs 0 i (by omega) (strOfNums a) (by rw [strOfNums_size]; omega) hq 256 0 (by omega)
          rw [show ((0 : Nat) : Int) = 0 from rfl] at h3
          rw [h3]
          rw [hd0] at hq ⊢
          rw [qs_step h2, hq]
          rfl
        | some p =>
          have hr := dec_range hq
          rw [List.length_drop, L_len] at hr
          obtain ⟨k, hk⟩ := ih (d - p.2) (by omega) (i + p.2) (a ++ [p.1]) (by omega) (by simp; omega)
          refine ⟨(k + 2 * p.1.toNat + 4) + 1, ?_⟩
          have hp : ((p.1.toNat : Nat) : Int) = p.1 := by omega
          have h3 := begins_some s hs k i (by omega) (strOfNums a) (by rw [strOfNums_size]; omega) p.1.toNat p.2 (by rw [hq, hp]) p.1.toNat 0 (by omega)
          rw [show ((0 : Nat) : Int) = 0 from rfl, hp, ← strOfNums_append, hk] at h3
          simp only [punnetref05_Begins.l0]
          rw [if_pos h1, if_pos (by omega), if_neg h2, h3]
          rw [← List.drop_drop]
          rw [hd0] at hq ⊢
          rw [qs_step h2, hq]
          simp only [Option.bind_some]
          cases qs ((bt s i :: (L s).drop (i + 1)).drop p.2) with
          | none => rfl
          | some q => simp; omega
    · refine ⟨1, ?_⟩
      simp only [punnetref05_Begins.l0]
      rw [if_neg h1, L_drop_end (by omega)]
      rfl
theorem Begins_is (s : ByteArray) (hs : s.size ≤ 100000) (i : Nat) (hi : i ≤ s.size) : ∃ k, punnetref05_Begins.f k s (i : Int) = some (strOfNums (quo (L s) i).1, (quo (L s) i).2.1, (quo (L s) i).2.2) := by
  unfold punnetref05_Begins.f quo
  by_cases h1 : (i : Int) ≥ s.size
  · refine ⟨1, ?_⟩
    rw [if_pos h1, L_drop_end (by omega)]
    simp only [punnetref05_Begins.j0, if_true]
    rfl
  · have hd0 := L_drop (s := s) (i := i) (by omega)
    by_cases h2 : bt s i = 34
    · obtain ⟨k, hk⟩ := begins_l0 s hs (s.size - i - 1) (i + 1) [] (by omega) (by simp)
      refine ⟨k + 1, ?_⟩
      rw [if_neg h1, if_pos (by omega), if_pos (by omega), hd0]
      simp only [punnetref05_Begins.j0]
      rw [if_neg (by simp [h2]), w64 (by omega) (by omega), show (i : Int) + 1 = ((i + 1 : Nat) : Int) by omega]
      have e : (⟨#[]⟩ : ByteArray) = strOfNums [] := rfl
      rw [e, hk]
      simp only [if_pos h2]
      cases hq : qs ((L s).drop (i + 1)) with
      | none => rfl
      | some p => simp
    · refine ⟨1, ?_⟩
      rw [if_neg h1, if_pos (by omega), if_pos (by omega), hd0]
      simp only [punnetref05_Begins.j0]
      rw [if_pos (by simp [h2])]
      simp only [if_neg h2]
      rfl

/-! ### words -/
def bl (l : List Int) : Nat := (l.takeWhile (fun c => decide (c ≠ 32))).length
theorem bl_le (l : List Int) : bl l ≤ l.length := (List.takeWhile_sublist _).length_le
theorem bl_cons (c : Int) (l : List Int) : bl (c :: l) = if c = 32 then 0 else bl l + 1 := by
  unfold bl
  rw [List.takeWhile_cons]
  by_cases h : c = 32 <;> simp [h]
theorem indexByte_bl : ∀ l : List UInt8, Go.Lib.indexByte l 32 = if bl (l.map fun b => (b.toNat : Int)) < l.length then (bl (l.map fun b => (b.toNat : Int)) : Int) else -1
  | [] => rfl
  | b :: l => by
    have ih := indexByte_bl l
    rw [Go.Lib.indexByte, List.map_cons, bl_cons]
    have hb : (b == 32) = decide ((b.toNat : Int) = 32) := by
      rw [Bool.eq_iff_iff, beq_iff_eq, decide_eq_true_eq, ← UInt8.toNat_inj]
      have : (32 : UInt8).toNat = 32 := rfl
      omega
    rw [hb, ih]
    by_cases h1 : (b.toNat : Int) = 32
    · simp [h1]
    · simp only [h1, decide_false, Bool.false_eq_true, if_false, List.length_cons]
      by_cases h2 : bl (l.map fun b => (b.toNat : Int)) < l.length
      · rw [if_pos h2, if_neg (by rw [beq_iff_eq]; omega), if_pos (by omega)]
        rfl
      · rw [if_neg h2, if_pos (by decide), if_neg (by omega)]
/-- Where the word that begins at a place ends. -/
def wordE (l : List Int) (i : Nat) : Nat :=
  let q := quo l i
  if q.2.2 = true ∧ (q.2.1 = l.length ∨ l.getD q.2.1.toNat 0 = 32) then q.2.1.toNat else i + bl (l.drop i)
theorem quo_ok {l : List Int} {i : Nat} (h : (quo l i).2.2 = true) : ∃ n : Nat, (quo l i).2.1 = n ∧ i + 1 < n ∧ n ≤ l.length := by
  unfold quo at h ⊢
  cases hd : l.drop i with
  | nil => rw [hd] at h; cases h
  | cons c r =>
    rw [hd] at h
    simp only at h ⊢
    split at h
    · rename_i hc
      rw [if_pos hc]
      cases hq : qs r with
      | none => rw [hq] at h; cases h
      | some p =>
        refine ⟨_, rfl, ?_⟩
        have h1 := qs_len hq
        have h2 := congrArg List.length hd
        rw [List.length_drop, List.length_cons] at h2
        omega
    · cases h
theorem bl_blank : ∀ (l : List Int), bl l < l.length → l.getD (bl l) 0 = 32
  | [], h => by simp [bl] at h
  | c :: r, h => by
    rw [bl_cons] at h ⊢
    by_cases h1 : c = 32
    · rw [if_pos h1]; exact h1
    · rw [if_neg h1] at h ⊢
      rw [List.getD_cons_succ]
      exact bl_blank r (by simpa using h)
theorem getD_drop (l : List Int) (i j : Nat) : (l.drop i).getD j 0 = l.getD (i + j) 0 := by
  rw [List.getD_eq_getElem?_getD, List.getElem?_drop, ← List.getD_eq_getElem?_getD]
theorem wordE_at {l : List Int} {i : Nat} (hi : i ≤ l.length) : i ≤ wordE l i ∧ wordE l i ≤ l.length ∧ (wordE l i < l.length → l.getD (wordE l i) 0 = 32) := by
  unfold wordE
  simp only
  split
  · rename_i h
    obtain ⟨n, hn, h1, h2⟩ := quo_ok h.1
    rw [hn, Int.toNat_natCast]
    refine ⟨by omega, h2, fun h3 => ?_⟩
    rcases h.2 with h4 | h4
    · omega
    · rw [hn, Int.toNat_natCast] at h4; exact h4
  · have h1 := bl_le (l.drop i)
    rw [List.length_drop] at h1
    refine ⟨by omega, by omega, fun h3 => ?_⟩
    rw [← getD_drop]
    exact bl_blank _ (by rw [List.length_drop]; omega)
theorem word_is (s : ByteArray) (hs : s.size ≤ 100000) (i : Nat) (hi : i ≤ s.size) (k : Nat) (hk : 100002 < k) : name_word.f k s (i : Int) = some (wordE (L s) i : Int) := by
  obtain ⟨k, rfl⟩ : ∃ m, k = m + 1 := ⟨k - 1, by omega⟩
  unfold name_word.f wordE
  rw [quote_is s hs i hi _ hk]
  simp only [Option.bind_some, name_word.j0]
  have hF : (if 0 ≤ (i : Int) then (if (i : Int) ≤ (s.size : Int) then ((strings_IndexByte.f (s.extract (i : Int).toNat s.size) 32).bind fun t273 => (if t273 ≥ 0 then (some (wrap64 ((i : Int) + t273))) else (some (s.size : Int)))) else (none)) else (none)) = some ((i + bl ((L s).drop i) : Nat) : Int) := by
    rw [if_pos (by omega), if_pos (by omega)]
    unfold strings_IndexByte.f stringslite_IndexByte.f
    simp only [Option.bind_some]
    have e1 : (32 : Int).toNat.toUInt8 = 32 := rfl
    have e2 : (s.extract (i : Int).toNat s.size).data.toList.map (fun b => (b.toNat : Int)) = (L s).drop i := by
      have := L_extract s i s.size
      unfold L at this
      rw [Int.toNat_natCast, this]
      have e3 : (s.data.toList.map fun b => (b.toNat : Int)).length = s.size := L_len s
      rw [List.take_of_length_le (by omega)]
      rfl
    rw [e1, indexByte_bl, e2]
    have e4 : (s.extract (i : Int).toNat s.size).data.toList.length = ((L s).drop i).length := by rw [← e2, List.length_map]
    rw [e4]
    have h1 := bl_le ((L s).drop i)
    rw [List.length_drop, L_len] at h1
    by_cases h2 : bl ((L s).drop i) < ((L s).drop i).length
    · rw [if_pos h2, if_pos (by omega), w64 (by omega) (by omega)]
      congr 1
    · rw [if_neg h2, if_neg (by omega)]
      rw [List.length_drop, L_len] at h2
      congr 1
      omega
  by_cases h1 : (quo (L s) i).2.2 = true
  · obtain ⟨n, hn, h2, h3⟩ := quo_ok h1
    rw [L_len] at h3
    rw [if_pos h1, hn]
    simp only [h1, true_and, L_len, Int.toNat_natCast]
    by_cases h4 : (n : Int) = s.size
    · simp only [if_pos h4, if_true]; rw [if_pos (Or.inl h4)]
    · rw [if_neg h4, if_pos (by omega), if_pos (by omega), bt_L]
      by_cases h5 : (L s).getD n 0 = 32
      · simp only [h5, beq_self_eq_true, if_true, or_true]
      · rw [if_neg (by simpa using h5)]
        refine hF.trans ?_
        rw [if_neg (fun h => h.elim h4 h5)]
  · rw [if_neg h1, if_neg (by simp)]
    refine hF.trans ?_
    rw [if_neg (fun h => h1 h.1)]
end Go.Proofs.Ytmmofckknopaaaa.Quo
