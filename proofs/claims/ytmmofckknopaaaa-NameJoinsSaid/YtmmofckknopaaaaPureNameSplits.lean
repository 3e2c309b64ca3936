/- Any line's words are those that the document says, and joined by blanks they are the line. -/
import Derived.Test.YtmmofckknopaaaaWord
import Derived.Test.YtmmofckknopaaaaQ49
namespace Go.Proofs.Ytmmofckknopaaaa.Pure
open Go.RowKit Go.Proofs.Ytmmofckknopaaaa.Q Go.Proofs.Ytmmofckknopaaaa.Txt Go.Proofs.Ytmmofckknopaaaa.Str Go.Proofs.Ytmmofckknopaaaa.Quo Go.Proofs.YtmmofckknopaaaaW.PrintWords Go.Proofs.YtmmofckknopaaaaW.PrintLast

theorem awake05 : punnetlaw05_awake.f 30 = some true := by kernel_rfl
theorem awake05_more {k : Nat} (hk : 30 ≤ k) : punnetlaw05_awake.f k = some true := at_rounds punnetlaw05_awake.mono hk awake05
/-- A line's words from a place on. -/
def splitW (s : ByteArray) : Nat → Nat → List ByteArray
  | 0, i => [s.extract i (wordE (L s) i)]
  | n + 1, i => s.extract i (wordE (L s) i) :: (if wordE (L s) i < s.size then splitW s n (wordE (L s) i + 1) else [])
theorem split_l0 (s : ByteArray) (hs : s.size ≤ 100000) : ∀ (d k i : Nat) (acc : List ByteArray), i ≤ s.size → s.size ≤ i + d → 100003 + d < k → acc.length + d ≤ 200000 → name_Split.l0 k s acc (i : Int) = some (acc ++ splitW s d i) := by
  intro d
  induction d with
  | zero =>
    intro k i acc hi hd hk ha
    obtain ⟨k, rfl⟩ : ∃ m, k = m + 1 := ⟨k - 1, by omega⟩
    have hw := wordE_at (l := L s) (i := i) (by rw [L_len]; exact hi)
    rw [L_len] at hw
    simp only [name_Split.l0]
    rw [word_is s hs i hi k (by omega), Option.bind_some, if_pos (by omega), if_pos (by omega), if_pos (by omega), if_pos (by omega), Option.bind_some, if_neg (by omega), Int.toNat_natCast, Int.toNat_natCast]
    rfl
  | succ d ih =>
    intro k i acc hi hd hk ha
    obtain ⟨k, rfl⟩ : ∃ m, k = m + 1 := ⟨k - 1, by omega⟩
    have hw := wordE_at (l := L s) (i := i) (by rw [L_len]; exact hi)
    rw [L_len] at hw
    simp only [name_Split.l0]
    rw [word_is s hs i hi k (by omega), Option.bind_some, if_pos (by omega), if_pos (by omega), if_pos (by omega), if_pos (by omega), Option.bind_some, Int.toNat_natCast, Int.toNat_natCast]
    by_cases h1 : wordE (L s) i < s.size
    · rw [if_pos (by omega), w64 (by omega) (by omega), show ((wordE (L s) i : Nat) : Int) + 1 = ((wordE (L s) i + 1 : Nat) : Int) by omega, ih k _ _ (by omega) (by omega) (by omega) (by simp; omega)]
      rw [splitW, if_pos h1]
      simp
    · rw [if_neg (by omega), splitW, if_neg h1]
theorem Split_is (s : ByteArray) (hs : s.size ≤ 100000) (k : Nat) (hk : 300000 < k) : name_Split.f k s = some (splitW s s.size 0) := by
  unfold name_Split.f
  have := split_l0 s hs s.size k 0 [] (by omega) (by omega) (by omega) (by simp; omega)
  rw [show ((0 : Nat) : Int) = 0 from rfl] at this
  rw [this]
  rfl
/-- What the document's answer does once a word's end is known. -/
def contR (k : Nat) (s : ByteArray) (y : List ByteArray) (e : Nat) : Option (List ByteArray) := if (e : Int) = (s.size : Int) then some y else punnetref05_Split.l0 k s y ((e + 1 : Nat) : Int)
theorem ref_l1 (s : ByteArray) (hs : s.size ≤ 100000) (acc : List ByteArray) (ha : acc.length ≤ 200000) (i e : Nat) (hi : i ≤ e) (he : e ≤ s.size) (hb : e < s.size → (L s).getD e 0 = 32) (k : Nat) :
    ∀ (j p : Nat), p + j = e → i ≤ p → (∀ q, p ≤ q → q < e → (L s).getD q 0 ≠ 32) → punnetref05_Split.l1 (k + j + 1) s acc (i : Int) (p : Int) = contR k s (acc ++ [s.extract i e]) e
  | 0, p, hp, hip, hq => by
    obtain rfl : p = e := by omega
    have hT : (if 0 ≤ (i : Int) then (if (i : Int) ≤ (p : Int) then (if (p : Int) ≤ (s.size : Int) then (if acc.length < 8796093022208 then ((some (acc ++ [s.extract (i : Int).toNat (p : Int).toNat] : List ByteArray)).bind fun y309 => (if (p : Int) = (s.size : Int) then (some y309) else (punnetref05_Split.l0 k s y309 (wrap64 ((p : Int) + 1))))) else (none)) else (none)) else (none)) else (none)) = contR k s (acc ++ [s.extract i p]) p := by
      rw [if_pos (by omega), if_pos (by omega), if_pos (by omega), if_pos (by omega), Option.bind_some, Int.toNat_natCast, Int.toNat_natCast, w64 (by omega) (by omega), show (p : Int) + 1 = ((p + 1 : Nat) : Int) by omega]
      rfl
    simp only [punnetref05_Split.l1]
    by_cases h1 : (p : Int) < s.size
    · rw [if_pos h1, if_pos (by omega), if_pos (by rw [bt_L]; exact hb (by omega))]
      exact hT
    · rw [if_neg h1]
      exact hT
  | j + 1, p, hp, hip, hq => by
    rw [show k + (j + 1) + 1 = (k + j + 1) + 1 by omega]
    simp only [punnetref05_Split.l1]
    rw [if_pos (by omega), if_pos (by omega), if_neg (by rw [bt_L]; exact hq p (by omega) (by omega)), w64 (x := (p : Int) + 1) (by omega) (by omega), show (p : Int) + 1 = ((p + 1 : Nat) : Int) by omega]
    exact ref_l1 s hs acc ha i e hi he hb k j (p + 1) (by omega) (by omega) (fun q h1 h2 => hq q (by omega) h2)
theorem bl_before : ∀ (l : List Int) (q : Nat), q < bl l → l.getD q 0 ≠ 32
  | [], q, h => by simp [bl] at h
  | c :: r, q, h => by
    rw [bl_cons] at h
    by_cases h1 : c = 32
    · rw [if_pos h1] at h; omega
    · rw [if_neg h1] at h
      cases q with
      | zero => exact h1
      | succ q => rw [List.getD_cons_succ]; exact bl_before r q (by omega)
theorem l0_more {s : ByteArray} {y : List ByteArray} {z : Int} {k k' : Nat} (hk : k ≤ k') {r : List ByteArray} (h : punnetref05_Split.l0 k s y z = some r) : punnetref05_Split.l0 k' s y z = some r :=
  at_rounds (g := fun k => punnetref05_Split.l0 k s y z) (fun k => (punnetref05_Split.mono_l k).1 _ _ _) hk h
theorem contR_more {s : ByteArray} {y : List ByteArray} {e : Nat} {k k' : Nat} (hk : k ≤ k') {r : List ByteArray} (h : contR k s y e = some r) : contR k' s y e = some r := by
  unfold contR at h ⊢
  split
  · rename_i h1; rw [if_pos h1] at h; exact h
  · rename_i h1; rw [if_neg h1] at h; exact l0_more hk h
theorem wordE_quo {l : List Int} {i n : Nat} (h1 : (quo l i).2.2 = true) (hn : (quo l i).2.1 = n) (h : n = l.length ∨ l.getD n 0 = 32) : wordE l i = n := by
  unfold wordE
  simp only
  have e : (quo l i).2.1.toNat = n := by omega
  rw [e, if_pos ⟨h1, h.elim (fun h => Or.inl (by omega)) Or.inr⟩]
theorem wordE_far {l : List Int} {i n : Nat} (hn : (quo l i).2.1 = n) (h3 : n ≠ l.length) (h4 : l.getD n 0 ≠ 32) : wordE l i = i + bl (l.drop i) := by
  unfold wordE
  simp only
  have e : (quo l i).2.1.toNat = n := by omega
  rw [e, if_neg (fun h => h.2.elim (fun h => h3 (by omega)) h4)]
theorem ref_step (s : ByteArray) (hs : s.size ≤ 100000) (acc : List ByteArray) (ha : acc.length ≤ 200000) (i : Nat) (hi : i ≤ s.size) (r : List ByteArray)
    (h : ∃ k, contR k s (acc ++ [s.extract i (wordE (L s) i)]) (wordE (L s) i) = some r) : ∃ k, punnetref05_Split.l0 k s acc (i : Int) = some r := by
  obtain ⟨k0, h⟩ := h
  obtain ⟨k1, hB⟩ := Begins_is s hs i hi
  have hw := wordE_at (l := L s) (i := i) (by rw [L_len]; exact hi)
  rw [L_len] at hw
  let K := k0 + k1 + s.size + 5
  have hB := at_rounds (g := fun k => punnetref05_Begins.f k s (i : Int)) (fun k => punnetref05_Begins.mono _ _ k) (k := k1) (k' := K + (wordE (L s) i - i) + 2) (by omega) hB
  have hK := contR_more (k' := K) (by omega) h
  have hK2 := contR_more (k' := K + (wordE (L s) i - i) + 1) (by omega) h
  refine ⟨K + (wordE (L s) i - i) + 3, ?_⟩
  simp only [punnetref05_Split.l0]
  rw [hB, Option.bind_some]
  simp only
  -- the end as a scan for a blank
  have hscan : wordE (L s) i = i + bl ((L s).drop i) → punnetref05_Split.j1 (K + (wordE (L s) i - i) + 2) s acc (i : Int) (quo (L s) i).2.1 true = some r := by
    intro e
    simp only [punnetref05_Split.j1, if_true]
    rw [ref_l1 s hs acc ha i (wordE (L s) i) hw.1 hw.2.1 hw.2.2 K (wordE (L s) i - i) i (by omega) (by omega) ?_]
    · exact hK
    · intro q h1 h2
      have := bl_before ((L s).drop i) (q - i) (by omega)
      rw [getD_drop, show i + (q - i) = q by omega] at this
      exact this
  have hquot : (quo (L s) i).2.1 = (wordE (L s) i : Int) → punnetref05_Split.j1 (K + (wordE (L s) i - i) + 2) s acc (i : Int) (quo (L s) i).2.1 false = some r := by
    intro e
    rw [e]
    simp only [punnetref05_Split.j1, Bool.false_eq_true, if_false]
    rw [if_pos (by omega), if_pos (by omega), if_pos (by omega), if_pos (by omega), Option.bind_some, Int.toNat_natCast, Int.toNat_natCast, w64 (by omega) (by omega), show ((wordE (L s) i : Nat) : Int) + 1 = ((wordE (L s) i + 1 : Nat) : Int) by omega]
    exact hK2
  by_cases h1 : (quo (L s) i).2.2 = true
  · obtain ⟨n, hn, h2, h3⟩ := quo_ok h1
    rw [L_len] at h3
    rw [if_pos h1]
    by_cases h4 : (n : Int) < s.size
    · rw [hn, if_pos h4, if_pos (by omega), bt_L]
      by_cases h5 : (L s).getD n 0 = 32
      · have e : wordE (L s) i = n := wordE_quo h1 hn (Or.inr h5)
        rw [show ((L s).getD n 0 != 32) = false from bne_eq_false_iff_eq.2 h5, ← hn]
        exact hquot (by rw [hn, e])
      · have e : wordE (L s) i = i + bl ((L s).drop i) := wordE_far hn (by rw [L_len]; omega) h5
        rw [show ((L s).getD n 0 != 32) = true from bne_iff_ne.2 h5, ← hn]
        exact hscan e
    · have e : wordE (L s) i = n := wordE_quo h1 hn (Or.inl (by rw [L_len]; omega))
      rw [hn, if_neg h4, ← hn]
      exact hquot (by rw [hn, e])
  · rw [if_neg h1]
    have e : wordE (L s) i = i + bl ((L s).drop i) := by unfold wordE; simp only; rw [if_neg (fun h => h1 h.1)]
    exact hscan e
theorem ref_l0 (s : ByteArray) (hs : s.size ≤ 100000) : ∀ (d i : Nat) (acc : List ByteArray), i ≤ s.size → s.size ≤ i + d → acc.length + d ≤ 200000 → ∃ k, punnetref05_Split.l0 k s acc (i : Int) = some (acc ++ splitW s d i) := by
  intro d
  induction d with
  | zero =>
    intro i acc hi hd ha
    have hw := wordE_at (l := L s) (i := i) (by rw [L_len]; exact hi)
    rw [L_len] at hw
    apply ref_step s hs acc (by omega) i hi
    refine ⟨0, ?_⟩
    unfold contR
    rw [if_pos (by omega)]
    rfl
  | succ d ih =>
    intro i acc hi hd ha
    have hw := wordE_at (l := L s) (i := i) (by rw [L_len]; exact hi)
    rw [L_len] at hw
    apply ref_step s hs acc (by omega) i hi
    by_cases h1 : wordE (L s) i < s.size
    · obtain ⟨k, hk⟩ := ih (wordE (L s) i + 1) (acc ++ [s.extract i (wordE (L s) i)]) (by omega) (by omega) (by simp; omega)
      refine ⟨k, ?_⟩
      unfold contR
      rw [if_neg (by omega), hk, splitW, if_pos h1]
      simp
    · refine ⟨0, ?_⟩
      unfold contR
      rw [if_pos (by omega), splitW, if_neg h1]
theorem refSplit_is (s : ByteArray) (hs : s.size ≤ 100000) : ∃ k, punnetref05_Split.f k s = some (splitW s s.size 0) := by
  obtain ⟨k, hk⟩ := ref_l0 s hs s.size 0 [] (by omega) (by omega) (by simp; omega)
  refine ⟨k, ?_⟩
  unfold punnetref05_Split.f
  rw [show ((0 : Nat) : Int) = 0 from rfl] at hk
  rw [hk]
  rfl
theorem splitW_join (s : ByteArray) : ∀ (d i : Nat), i ≤ s.size → s.size ≤ i + d → ∃ w ws, splitW s d i = w :: ws ∧ L w ++ ws.flatMap (fun x => 32 :: L x) = (L s).drop i ∧ ws.length ≤ d := by
  intro d
  induction d with
  | zero =>
    intro i hi hd
    have hw := wordE_at (l := L s) (i := i) (by rw [L_len]; exact hi)
    rw [L_len] at hw
    refine ⟨_, [], rfl, ?_, by simp⟩
    rw [L_extract, List.take_of_length_le (by rw [L_len]; omega)]
    simp
  | succ d ih =>
    intro i hi hd
    have hw := wordE_at (l := L s) (i := i) (by rw [L_len]; exact hi)
    rw [L_len] at hw
    have hc : ((L s).take (wordE (L s) i)).drop i ++ (L s).drop (wordE (L s) i) = (L s).drop i := by
      have h1 : (L s).drop i = ((L s).take (wordE (L s) i) ++ (L s).drop (wordE (L s) i)).drop i := by rw [List.take_append_drop]
      rw [h1, List.drop_append_of_le_length (by rw [List.length_take, L_len]; omega)]
    by_cases h1 : wordE (L s) i < s.size
    · obtain ⟨w, ws, e, hj, hl⟩ := ih (wordE (L s) i + 1) (by omega) (by omega)
      refine ⟨_, w :: ws, by rw [splitW, if_pos h1, e], ?_, by simp; omega⟩
      rw [L_extract, List.flatMap_cons, List.cons_append, hj, ← hc]
      have h2 := L_drop h1
      rw [bt_L, hw.2.2 h1] at h2
      rw [h2]
    · refine ⟨_, [], by rw [splitW, if_neg h1], ?_, by simp⟩
      have hn : (L s).drop (wordE (L s) i) = [] := List.drop_eq_nil_of_le (by rw [L_len]; omega)
      rw [L_extract, ← hc, hn]
      simp
theorem same_l0 (l : List ByteArray) (hl : l.length ≤ 200000) : ∀ (d k i : Nat), i + d = l.length → d < k → punnetref05_Same.l0 k l l (i : Int) = some true
  | 0, k, i, hd, hk => by
    obtain ⟨k, rfl⟩ : ∃ m, k = m + 1 := ⟨k - 1, by omega⟩
    simp only [punnetref05_Same.l0]
    rw [if_neg (by omega)]
  | d + 1, k, i, hd, hk => by
    obtain ⟨k, rfl⟩ : ∃ m, k = m + 1 := ⟨k - 1, by omega⟩
    simp only [punnetref05_Same.l0]
    rw [if_pos (by omega), if_pos (by omega), if_pos (by omega)]
    simp only [if_true]
    rw [w64 (by omega) (by omega), show (i : Int) + 1 = ((i + 1 : Nat) : Int) by omega]
    exact same_l0 l hl d k (i + 1) (by omega) (by omega)
theorem Same_refl (l : List ByteArray) (hl : l.length ≤ 200000) (k : Nat) (hk : 300000 < k) : punnetref05_Same.f k l l = some true := by
  unfold punnetref05_Same.f
  rw [if_pos rfl]
  exact same_l0 l hl l.length k 0 (by omega) (by omega)
theorem joins_l0 (s : ByteArray) (hs : s.size ≤ 100000) (l : List ByteArray) (hl : l.length ≤ 200000) : ∀ (d k i : Nat) (t : ByteArray), i + d = l.length → d < k → L t ++ (l.drop i).flatMap (fun x => 32 :: L x) = L s →
    punnetlaw05_NameSplits.l0 k s l t (i : Int) = some true
  | 0, k, i, t, hd, hk, h => by
    obtain ⟨k, rfl⟩ : ∃ m, k = m + 1 := ⟨k - 1, by omega⟩
    simp only [punnetlaw05_NameSplits.l0]
    rw [if_neg (by omega)]
    rw [List.drop_eq_nil_of_le (by omega)] at h
    have : t = s := L_inj (by simpa using h)
    rw [this]
    simp
  | d + 1, k, i, t, hd, hk, h => by
    obtain ⟨k, rfl⟩ : ∃ m, k = m + 1 := ⟨k - 1, by omega⟩
    simp only [punnetlaw05_NameSplits.l0]
    have hx : l.drop i = l[i]'(by omega) :: l.drop (i + 1) := List.drop_eq_getElem_cons (by omega)
    have hr : rdOf ByteArray.empty l (i : Int) = l[i]'(by omega) := by unfold rdOf; rw [Int.toNat_natCast, List.getD_eq_getElem?_getD, List.getElem?_eq_getElem (by omega)]; rfl
    rw [hr]
    have e3 : L ((t ++ (⟨#[32]⟩ : ByteArray)) ++ l[i]'(by omega)) = L t ++ (32 :: L (l[i]'(by omega))) := by rw [L_append, L_append, List.append_assoc]; rfl
    rw [hx, List.flatMap_cons, ← List.append_assoc, ← e3] at h
    have hz := congrArg List.length h
    rw [List.length_append, L_len, L_len] at hz
    have hz2 := congrArg List.length e3
    rw [L_len, List.length_append, L_len, List.length_cons, L_len] at hz2
    have hz3 : (t ++ (⟨#[32]⟩ : ByteArray)).size = t.size + 1 := by rw [ByteArray.size_append]; rfl
    rw [if_pos (by omega), if_pos (by omega), if_pos (by omega), if_pos (by omega), w64 (by omega) (by omega), show (i : Int) + 1 = ((i + 1 : Nat) : Int) by omega]
    exact joins_l0 s hs l hl d k (i + 1) _ (by omega) (by omega) h
theorem NameSplits : punnetlaw05_NameSplits.Pure := by
  intro s _
  by_cases h5 : (s.size : Int) > 500
  · refine ⟨30, ?_⟩
    unfold punnetlaw05_NameSplits.f
    rw [awake05, Option.bind_some, if_pos rfl, if_pos h5]
  · obtain ⟨k1, hR⟩ := refSplit_is s (by omega)
    obtain ⟨w, ws, e, hj, hl⟩ := splitW_join s s.size 0 (by omega) (by omega)
    have hR := at_rounds (g := fun k => punnetref05_Split.f k s) (fun k => punnetref05_Split.mono _ k) (k := k1) (k' := k1 + 400002) (by omega) hR
    refine ⟨k1 + 400002, ?_⟩
    unfold punnetlaw05_NameSplits.f
    rw [awake05_more (by omega), Option.bind_some, if_pos rfl, if_neg h5, Split_is s (by omega) _ (by omega), Option.bind_some, hR, Option.bind_some, e, Same_refl _ (by simp; omega) _ (by omega), Option.bind_some, if_pos rfl]
    simp only [punnetlaw05_NameSplits.j0]
    rw [if_neg (by simp; omega), if_pos (by simp)]
    have e0 : rdOf ByteArray.empty (w :: ws) 0 = w := rfl
    rw [e0]
    exact joins_l0 s (by omega) (w :: ws) (by simp; omega) ws.length _ 1 w (by simp; omega) (by omega) hj
end Go.Proofs.Ytmmofckknopaaaa.Pure
