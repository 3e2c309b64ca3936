/- Words, each as it is where it is a name and quoted where it is none, joined by blanks, are split as they were. -/
import Derived.Test.YtmmofckknopaaaaPureNameSplits
import Derived.Test.YtmmofckknopaaaaQ52
namespace Go.Proofs.Ytmmofckknopaaaa.Pure
open Go.RowKit Go.Proofs.Ytmmofckknopaaaa.Q Go.Proofs.Ytmmofckknopaaaa.Txt Go.Proofs.Ytmmofckknopaaaa.Str Go.Proofs.Ytmmofckknopaaaa.Quo Go.Proofs.YtmmofckknopaaaaW.PrintWords Go.Proofs.YtmmofckknopaaaaW.PrintLast

theorem refName_l0 (x : ByteArray) (hx : x.size ≤ 100000) : ∀ (d k i : Nat), i + d = x.size → d < k → ∃ b, punnetref05_Name.l0 k x (i : Int) = some b ∧ (b = true → ∀ q, i ≤ q → q < x.size → 48 ≤ (L x).getD q 0)
  | 0, k, i, hd, hk => by
    obtain ⟨k, rfl⟩ : ∃ m, k = m + 1 := ⟨k - 1, by omega⟩
    simp only [punnetref05_Name.l0]
    rw [if_neg (by omega)]
    exact ⟨_, rfl, fun _ q h1 h2 => by omega⟩
  | d + 1, k, i, hd, hk => by
    obtain ⟨k, rfl⟩ : ∃ m, k = m + 1 := ⟨k - 1, by omega⟩
    simp only [punnetref05_Name.l0]
    rw [if_pos (by omega), if_pos (by omega), bt_L, w64 (x := (i : Int) + 1) (by omega) (by omega), show (i : Int) + 1 = ((i + 1 : Nat) : Int) by omega]
    obtain ⟨b, hb, hq⟩ := refName_l0 x hx d k (i + 1) (by omega) (by omega)
    have hR : 48 ≤ (L x).getD i 0 → ∃ b, punnetref05_Name.l0 k x ((i + 1 : Nat) : Int) = some b ∧ (b = true → ∀ q, i ≤ q → q < x.size → 48 ≤ (L x).getD q 0) := by
      intro hc
      refine ⟨b, hb, fun h q h1 h2 => ?_⟩
      by_cases h3 : q = i
      · rw [h3]; exact hc
      · exact hq h q (by omega) h2
    have hF : ∃ b, some false = some b ∧ (b = true → ∀ q, i ≤ q → q < x.size → 48 ≤ (L x).getD q 0) := ⟨false, rfl, fun h => by cases h⟩
    have e1 : ((L x).getD i 0 ≥ 48) = (48 ≤ (L x).getD i 0) := rfl
    split
    · rw [if_pos (by omega)]
      split
      · exact hR (by omega)
      · rw [if_neg (by omega)]; exact hF
    · split
      · split
        · split
          · exact hF
          · exact hR (by omega)
        · exact hF
      · exact hF
theorem refName_is (x : ByteArray) (hx : x.size ≤ 100000) (k : Nat) (hk : 100002 < k) : ∃ b, punnetref05_Name.f k x = some b ∧ (b = true → L x ≠ [] ∧ ∀ c ∈ L x, c ≠ 34 ∧ c ≠ 32) := by
  obtain ⟨k, rfl⟩ : ∃ m, k = m + 1 := ⟨k - 1, by omega⟩
  unfold punnetref05_Name.f
  simp only [punnetref05_Name.j0]
  by_cases h1 : (x.size : Int) < 1
  · rw [if_pos h1]
    exact ⟨false, rfl, fun h => by cases h⟩
  · rw [if_neg h1]
    by_cases h2 : decide ((x.size : Int) > 12) = true
    · rw [if_pos h2]
      exact ⟨_, rfl, fun h => by cases h⟩
    · rw [if_neg h2]
      obtain ⟨b, hb, hq⟩ := refName_l0 x hx x.size k 0 (by omega) (by omega)
      refine ⟨b, hb, fun h => ⟨?_, ?_⟩⟩
      · intro h3
        have := congrArg List.length h3
        rw [L_len, List.length_nil] at this
        omega
      · intro c hc
        obtain ⟨q, hq1, hq2⟩ := List.getElem_of_mem hc
        have h4 := hq h q (by omega) (by rw [← L_len]; exact hq1)
        rw [List.getD_eq_getElem?_getD, List.getElem?_eq_getElem hq1, hq2] at h4
        simp at h4
        omega
theorem refQuote_l0 (x : ByteArray) (hx : x.size ≤ 500) : ∀ (d k i : Nat) (a : List Int), i + d = x.size → d + 1 < k → a.length ≤ 3 * i + 1 → punnetref05_Quote.l0 k x (strOfNums a) (i : Int) = some (strOfNums (a ++ (encs ((L x).drop i) ++ [34])))
  | 0, k, i, a, hd, hk, ha => by
    obtain ⟨k, rfl⟩ : ∃ m, k = m + 1 := ⟨k - 1, by omega⟩
    simp only [punnetref05_Quote.l0]
    rw [if_neg (by omega), if_pos (by rw [strOfNums_size]; omega), L_drop_end (by omega), show (⟨#[34]⟩ : ByteArray) = strOfNums [34] from rfl, ← strOfNums_append]
    rfl
  | d + 1, k, i, a, hd, hk, ha => by
    obtain ⟨k, rfl⟩ : ∃ m, k = m + 1 := ⟨k - 1, by omega⟩
    simp only [punnetref05_Quote.l0]
    have hr := bt_range x (i : Int)
    have hl := enc_len (bt x (i : Int))
    rw [if_pos (by omega), if_pos (by omega), Byte_is (by omega) _ (by omega), Option.bind_some, if_pos (by rw [strOfNums_size, strOfNums_size]; omega), w64 (by omega) (by omega), show (i : Int) + 1 = ((i + 1 : Nat) : Int) by omega, ← strOfNums_append, refQuote_l0 x hx d k (i + 1) _ (by omega) (by omega) (by rw [List.length_append]; omega), L_drop (s := x) (i := i) (by omega)]
    have e : encs (bt x (i : Int) :: (L x).drop (i + 1)) = enc (bt x (i : Int)) ++ encs ((L x).drop (i + 1)) := by simp [Quo.encs]
    rw [e]
    simp
/-- A whole text quoted. -/
def quot (l : List Int) : List Int := 34 :: (encs l ++ [34])
theorem encs_bytes : ∀ {l : List Int}, Bytes l → Bytes (encs l)
  | [], _, x, hx => by simp [Quo.encs] at hx
  | c :: t, h, x, hx => by
    have e : encs (c :: t) = enc c ++ encs t := by simp [Quo.encs]
    rw [e] at hx
    rcases List.mem_append.1 hx with hx | hx
    · exact enc_bytes (h c (by simp)) x hx
    · exact encs_bytes (fun y hy => h y (by simp [hy])) x hx
theorem quot_bytes {l : List Int} (h : Bytes l) : Bytes (quot l) := by
  intro x hx
  unfold quot at hx
  rcases List.mem_cons.1 hx with rfl | hx
  · omega
  · rcases List.mem_append.1 hx with hx | hx
    · exact encs_bytes h x hx
    · simp at hx; omega
theorem encs_len : ∀ (l : List Int), (encs l).length ≤ 3 * l.length
  | [] => by simp [Quo.encs]
  | c :: t => by
    have e : encs (c :: t) = enc c ++ encs t := by simp [Quo.encs]
    have h1 := encs_len t
    have h2 := enc_len c
    rw [e, List.length_append, List.length_cons]
    omega
theorem quot_len (l : List Int) : (quot l).length ≤ 3 * l.length + 2 := by
  have := encs_len l
  unfold quot
  rw [List.length_cons, List.length_append, List.length_cons, List.length_nil]
  omega
theorem refQuote_is (x : ByteArray) (hx : x.size ≤ 500) (k : Nat) (hk : 600 < k) : punnetref05_Quote.f k x = some (strOfNums (quot (L x))) := by
  have h := refQuote_l0 x hx x.size k 0 [34] (by omega) (by omega) (by simp)
  unfold punnetref05_Quote.f
  exact h

def GoodW (w : List Int) : Prop := w ≠ [] ∧ ((∃ l, Bytes l ∧ w = quot l) ∨ ∀ c ∈ w, c ≠ 34 ∧ c ≠ 32)
theorem bl_words : ∀ {w : List Int} {r : List Int}, (∀ c ∈ w, c ≠ 34 ∧ c ≠ 32) → (r = [] ∨ r.getD 0 0 = 32) → bl (w ++ r) = w.length
  | [], [], _, _ => rfl
  | [], y :: t, _, h => by
    rcases h with h | h
    · cases h
    · rw [List.getD_cons_zero] at h
      rw [List.nil_append, bl_cons, if_pos h]; rfl
  | c :: w, r, h, hr => by
    rw [List.cons_append, bl_cons, if_neg (h c (by simp)).2, bl_words (fun y hy => h y (by simp [hy])) hr]
    rfl
theorem wordE_good {l w r : List Int} {i : Nat} (hw : GoodW w) (hd : l.drop i = w ++ r) (hr : r = [] ∨ r.getD 0 0 = 32) : wordE l i = i + w.length := by
  have hlen := congrArg List.length hd
  rw [List.length_drop, List.length_append] at hlen
  rcases hw.2 with ⟨t, ht, rfl⟩ | hc
  · have e1 : quot t ++ r = 34 :: (encs t ++ 34 :: r) := by unfold quot; simp
    have hq : quo l i = (t, ((i + 1 + ((encs t).length + 1) : Nat) : Int), true) := by
      unfold quo
      rw [hd, e1]
      simp only [if_true]
      rw [qs_encs ht]
    have hl : (quot t).length = (encs t).length + 2 := by unfold quot; simp
    have e2 : i + (quot t).length = i + 1 + ((encs t).length + 1) := by omega
    rw [e2]
    refine wordE_quo (by rw [hq]) (by rw [hq]) ?_
    rw [← e2]
    rcases hr with hr | hr
    · left
      rw [hr] at hlen
      simp at hlen
      omega
    · right
      rw [← getD_drop, hd, List.getD_eq_getElem?_getD, List.getElem?_append_right (Nat.le_refl _), Nat.sub_self, ← List.getD_eq_getElem?_getD]
      exact hr
  · have hq : (quo l i).2.2 = false := by
      unfold quo
      rw [hd]
      cases hw0 : w with
      | nil => exact absurd hw0 hw.1
      | cons c t =>
        have := (hc c (by rw [hw0]; simp)).1
        simp only [List.cons_append, if_neg this]
    unfold wordE
    simp only
    rw [if_neg (by rw [hq]; simp), hd, bl_words hc hr]
def joinW : List (List Int) → List Int
  | [] => []
  | w :: ws => w ++ ws.flatMap (fun x => 32 :: x)
theorem splitW_good (s : ByteArray) : ∀ (ws : List ByteArray) (d i : Nat), ws ≠ [] → (∀ w ∈ ws, GoodW (L w)) → i ≤ s.size → s.size ≤ i + d → (L s).drop i = joinW (ws.map L) → splitW s d i = ws
  | [], _, _, h, _, _, _, _ => absurd rfl h
  | w :: ws, d, i, _, hg, hi, hd, h => by
    have h' : (L s).drop i = L w ++ (ws.map L).flatMap (fun x => 32 :: x) := h
    have hlen := congrArg List.length h'
    rw [List.length_drop, List.length_append, L_len, L_len] at hlen
    have he : wordE (L s) i = i + w.size := by
      rw [← L_len w]
      refine wordE_good (hg w (by simp)) h' ?_
      cases ws with
      | nil => exact Or.inl rfl
      | cons _ _ => exact Or.inr rfl
    have hx : s.extract i (i + w.size) = w := by
      apply L_inj
      rw [L_extract, List.drop_take, h', Nat.add_sub_cancel_left, ← L_len w, List.take_left]
    cases ws with
    | nil =>
      simp at hlen
      cases d with
      | zero => rw [splitW, he, hx]
      | succ d => rw [splitW, he, hx, if_neg (by omega)]
    | cons w2 ws =>
      simp only [List.map_cons, List.flatMap_cons, List.length_append, List.length_cons] at hlen
      obtain ⟨d, rfl⟩ : ∃ m, d = m + 1 := ⟨d - 1, by omega⟩
      have h2 : (L s).drop (i + w.size + 1) = joinW ((w2 :: ws).map L) := by
        have e : (L s).drop (i + w.size + 1) = ((L s).drop i).drop (w.size + 1) := by rw [List.drop_drop]; rfl
        rw [e, h', ← L_len w, List.drop_append, List.drop_eq_nil_of_le (Nat.le_succ _), Nat.add_sub_cancel_left]
        rfl
      rw [splitW, he, hx, if_pos (by omega), splitW_good s (w2 :: ws) d (i + w.size + 1) (by simp) (fun x hx => hg x (by simp [List.mem_cons.1 hx])) (by omega) (by omega) h2]
theorem joinW_snoc {l : List (List Int)} (h : l ≠ []) (w : List Int) : joinW (l ++ [w]) = joinW l ++ 32 :: w := by
  cases l with
  | nil => exact absurd rfl h
  | cons a t => simp [joinW]
theorem njoins_l0 (l : List ByteArray) (hl : l.length ≤ 50) (hne : l ≠ []) : ∀ (d k i : Nat) (ws : List ByteArray) (t : ByteArray), i + d = l.length → 400000 + d < k → ws.length = i → (∀ w ∈ ws, GoodW (L w)) → L t = joinW (ws.map L) → t.size ≤ 700 * i →
    punnetlaw05_NameJoins.l0 k l ws t (i : Int) = some true
  | 0, k, i, ws, t, hd, hk, hw, hg, hj, ht => by
    obtain ⟨k, rfl⟩ : ∃ m, k = m + 1 := ⟨k - 1, by omega⟩
    simp only [punnetlaw05_NameJoins.l0]
    have hws : ws ≠ [] := by
      rintro rfl
      have : l.length = 0 := by simp at hw; omega
      exact hne (List.length_eq_zero_iff.1 this)
    rw [if_neg (by omega), Split_is t (by omega) _ (by omega), Option.bind_some, splitW_good t ws t.size 0 hws hg (by omega) (by omega) (by rw [List.drop_zero]; exact hj), Same_refl _ (by omega) _ (by omega), Option.bind_some]
  | d + 1, k, i, ws, t, hd, hk, hw, hg, hj, ht => by
    obtain ⟨k, rfl⟩ : ∃ m, k = m + 1 := ⟨k - 1, by omega⟩
    have ih : ∀ (W : ByteArray), GoodW (L W) → W.size ≤ 690 →
        (if (i : Int) > 0 then (if t.size + 1 ≤ 9223372036854775807 then (if (t ++ (⟨#[32]⟩ : ByteArray)).size + W.size ≤ 9223372036854775807 then (punnetlaw05_NameJoins.l0 k l (ws ++ [W]) ((t ++ (⟨#[32]⟩ : ByteArray)) ++ W) (wrap64 ((i : Int) + 1))) else (none)) else (none)) else (if t.size + W.size ≤ 9223372036854775807 then (punnetlaw05_NameJoins.l0 k l (ws ++ [W]) (t ++ W) (wrap64 ((i : Int) + 1))) else (none))) = some true := by
      intro W hW hWs
      have hgood : ∀ w ∈ ws ++ [W], GoodW (L w) := by
        intro w hw
        rcases List.mem_append.1 hw with h | h
        · exact hg w h
        · rw [List.mem_singleton.1 h]; exact hW
      have hz3 : (t ++ (⟨#[32]⟩ : ByteArray)).size = t.size + 1 := by rw [ByteArray.size_append]; rfl
      rw [w64 (by omega) (by omega), show (i : Int) + 1 = ((i + 1 : Nat) : Int) by omega]
      by_cases h0 : (i : Int) > 0
      · have hws : ws.map L ≠ [] := by
          intro h
          have := congrArg List.length h
          rw [List.length_map] at this
          simp at this
          rw [this] at hw
          simp at hw
          omega
        rw [if_pos h0, if_pos (by omega), if_pos (by omega)]
        refine njoins_l0 l hl hne d k (i + 1) _ _ (by omega) (by omega) (by simp; omega) hgood ?_ (by rw [ByteArray.size_append]; omega)
        rw [L_append, L_append, hj, List.map_append, List.map_cons, List.map_nil, joinW_snoc hws, List.append_assoc]
        rfl
      · have hws : ws = [] := List.length_eq_zero_iff.1 (by omega)
        subst hws
        have ht0 : L t = [] := hj
        rw [if_neg h0, if_pos (by omega)]
        refine njoins_l0 l hl hne d k (i + 1) _ _ (by omega) (by omega) (by simp; omega) hgood ?_ (by rw [ByteArray.size_append]; omega)
        rw [L_append, ht0]
        simp [joinW]
    simp only [punnetlaw05_NameJoins.l0]
    rw [if_pos (by omega), if_pos (by omega)]
    by_cases hbig : ((rdOf ByteArray.empty l (i : Int)).size : Int) > 200
    · rw [if_pos hbig]
    · rw [if_neg hbig]
      obtain ⟨b, hb, hbq⟩ := refName_is (rdOf ByteArray.empty l (i : Int)) (by omega) k (by omega)
      rw [hb, Option.bind_some]
      by_cases hbt : b = true
      · rw [if_pos hbt, if_pos (by omega), Option.bind_some]
        have hq := hbq hbt
        exact ih _ ⟨hq.1, Or.inr hq.2⟩ (by omega)
      · rw [if_neg hbt, refQuote_is _ (by omega) k (by omega), Option.bind_some, if_pos (by omega), Option.bind_some]
        have hlq := quot_len (L (rdOf ByteArray.empty l (i : Int)))
        rw [L_len] at hlq
        refine ih _ ?_ (by rw [strOfNums_size]; omega)
        rw [L_strOfNums (quot_bytes (L_bytes _))]
        exact ⟨by unfold quot; simp, Or.inl ⟨_, L_bytes _, rfl⟩⟩
theorem NameJoins (l : List ByteArray) : ∃ k, punnetlaw05_NameJoins.f k l = some true := by
  refine ⟨500000, ?_⟩
  unfold punnetlaw05_NameJoins.f
  rw [awake05_more (by omega), Option.bind_some, if_pos rfl]
  by_cases h0 : (l.length : Int) = 0
  · rw [if_pos h0]
    simp only [punnetlaw05_NameJoins.j0, if_true]
  · rw [if_neg h0]
    simp only [punnetlaw05_NameJoins.j0]
    by_cases h1 : (l.length : Int) > 50
    · rw [if_pos (decide_eq_true h1)]
    · rw [if_neg (by rw [decide_eq_false h1]; simp)]
      have hne : l ≠ [] := by rintro rfl; exact h0 rfl
      exact njoins_l0 l (by omega) hne l.length _ 0 [] _ (by omega) (by omega) rfl (by intro w hw; simp at hw) rfl (by decide)
end Go.Proofs.Ytmmofckknopaaaa.Pure
