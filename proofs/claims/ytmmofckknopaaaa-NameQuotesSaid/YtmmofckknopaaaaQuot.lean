/- A whole text quoted, and a quote read at a place: the program's words and the document's are these. No condition beyond those typed. -/
import Derived.Test.YtmmofckknopaaaaWord
import Derived.Test.YtmmofckknopaaaaQ51
import Derived.Test.YtmmofckknopaaaaQ58
import Derived.Test.YtmmofckknopaaaaQ60
namespace Go.Proofs.Ytmmofckknopaaaa.Quo
open Go.RowKit Go.Proofs.Ytmmofckknopaaaa.Q Go.Proofs.Ytmmofckknopaaaa.Txt Go.Proofs.Ytmmofckknopaaaa.Str Go.Proofs.YtmmofckknopaaaaW.PrintWords Go.Proofs.YtmmofckknopaaaaW.PrintLast

/-- A whole text quoted. -/
def qtd (l : List Int) : List Int := 34 :: (Quo.encs l ++ [34])
theorem encs_snoc (l : List Int) (c : Int) : Quo.encs (l ++ [c]) = Quo.encs l ++ enc c := by simp [Quo.encs]
theorem encs_b : ∀ {l : List Int}, Bytes l → Bytes (Quo.encs l)
  | [], _, x, hx => by simp [Quo.encs] at hx
  | c :: t, h, x, hx => by
    have e : Quo.encs (c :: t) = enc c ++ Quo.encs t := by simp [Quo.encs]
    rw [e] at hx
    rcases List.mem_append.1 hx with hx | hx
    · exact enc_bytes (h c (by simp)) x hx
    · exact encs_b (fun y hy => h y (by simp [hy])) x hx
theorem encs_l : ∀ (l : List Int), (Quo.encs l).length ≤ 3 * l.length
  | [] => by simp [Quo.encs]
  | c :: t => by
    have e : Quo.encs (c :: t) = enc c ++ Quo.encs t := by simp [Quo.encs]
    have h1 := encs_l t
    have h2 := enc_len c
    rw [e, List.length_append, List.length_cons]
    omega
theorem qtd_bytes {l : List Int} (h : Bytes l) : Bytes (qtd l) := by
  intro x hx
  unfold qtd at hx
  rcases List.mem_cons.1 hx with rfl | hx
  · omega
  · rcases List.mem_append.1 hx with hx | hx
    · exact encs_b h x hx
    · simp at hx; omega
theorem qtd_len (l : List Int) : (qtd l).length ≤ 3 * l.length + 2 := by
  have := encs_l l
  unfold qtd
  rw [List.length_cons, List.length_append, List.length_cons, List.length_nil]
  omega
theorem qd_hd : ∀ n : Fin 16, qd (n.val : Int) = hd (n.val : Int) := by decide +kernel
theorem qenc_enc {c : Int} (h : 0 ≤ c ∧ c < 256) : qenc c = enc c := by
  have h1 := qd_hd ⟨(c / 16).toNat, by omega⟩
  have h2 := qd_hd ⟨(c % 16).toNat, by omega⟩
  simp only at h1 h2
  rw [show (((c / 16).toNat : Nat) : Int) = c / 16 by omega] at h1
  rw [show (((c % 16).toNat : Nat) : Int) = c % 16 by omega] at h2
  unfold qenc enc
  by_cases hp : pl c = true
  · rw [if_pos hp, if_pos ((pl_iff c).1 hp)]
  · rw [if_neg hp, if_neg (fun h => hp ((pl_iff c).2 h)), h1, h2]
theorem qout_is (s : ByteArray) : ∀ i, i ≤ s.size → qout s i = 34 :: Quo.encs ((L s).take i)
  | 0, _ => rfl
  | i + 1, h => by
    have hr := bt_range s (i : Int)
    have e : (L s).take (i + 1) = (L s).take i ++ [bt s (i : Int)] := by
      rw [List.take_add_one, bt_L, List.getD_eq_getElem?_getD, List.getElem?_eq_getElem (by rw [L_len]; omega)]
      rfl
    rw [qout, qout_is s i (by omega), qenc_enc (by omega), e, encs_snoc]
    rfl
theorem Quote_is (s : ByteArray) : name_Quote.f s = some (if s.size ≤ 40 then (strOfNums (qtd (L s)), 0) else ((⟨#[]⟩ : ByteArray), 14)) := by
  unfold name_Quote.f qtd
  rw [qout_is s s.size (Nat.le_refl _), List.take_of_length_le (by rw [L_len]; exact Nat.le_refl _)]
  rfl
theorem refQuote_l (x : ByteArray) (hx : x.size ≤ 500) : ∀ (d k i : Nat) (a : List Int), i + d = x.size → d + 1 < k → a.length ≤ 3 * i + 1 → punnetref05_Quote.l0 k x (strOfNums a) (i : Int) = some (strOfNums (a ++ (Quo.encs ((L x).drop i) ++ [34])))
  | 0, k, i, a, hd, hk, ha => by
    obtain ⟨k, rfl⟩ : ∃ m, k = m + 1 := ⟨k - 1, by omega⟩
    simp only [punnetref05_Quote.l0]
    rw [if_neg (by omega), if_pos (by rw [strOfNums_size]; omega), L_drop_end (by omega), show (⟨#[34]⟩ : ByteArray) = strOfNums [34] from rfl, ← strOfNums_append]
    rfl
  | d + 1, k, i, a, hd, hk, ha => by
    obtain ⟨k, rfl⟩ : ∃ m, k = m + 1 := ⟨k - 1, by omega⟩
    simp only [punnetref05_Quote.l0]
    have hr := bt_range x (i : Int)
    have hl := enc_len (bt x (i : Int))
    rw [if_pos (by omega), if_pos (by omega), Byte_is (by omega) _ (by omega), Option.bind_some, if_pos (by rw [strOfNums_size, strOfNums_size]; omega), w64 (by omega) (by omega), show (i : Int) + 1 = ((i + 1 : Nat) : Int) by omega, ← strOfNums_append, refQuote_l x hx d k (i + 1) _ (by omega) (by omega) (by rw [List.length_append]; omega), L_drop (s := x) (i := i) (by omega)]
    have e : Quo.encs (bt x (i : Int) :: (L x).drop (i + 1)) = enc (bt x (i : Int)) ++ Quo.encs ((L x).drop (i + 1)) := by simp [Quo.encs]
    rw [e]
    simp
theorem refQuote_qtd (x : ByteArray) (hx : x.size ≤ 500) (k : Nat) (hk : 600 < k) : punnetref05_Quote.f k x = some (strOfNums (qtd (L x))) := by
  have h := refQuote_l x hx x.size k 0 [34] (by omega) (by omega) (by simp)
  unfold punnetref05_Quote.f
  exact h
/-- What Scan tells. -/
def scanQ (l : List Int) (at_ : Int) : List Int × Int × Int :=
  if at_ < 0 ∨ at_ > l.length then ([], 0, 2) else if (quo l at_.toNat).2.2 = true then (if ((quo l at_.toNat).1.length : Int) > 40 then ([], 0, 14) else ((quo l at_.toNat).1, (quo l at_.toNat).2.1, 0)) else ([], 0, 4)
theorem Scan_is (s : ByteArray) (hs : s.size ≤ 100000) (at_ : Int) (k : Nat) (hk : 100004 < k) : name_Scan.f k s at_ = some (strOfNums (scanQ (L s) at_).1, (scanQ (L s) at_).2.1, (scanQ (L s) at_).2.2) := by
  obtain ⟨k, rfl⟩ : ∃ m, k = m + 1 := ⟨k - 1, by omega⟩
  have e0 : (⟨#[]⟩ : ByteArray) = strOfNums [] := rfl
  unfold name_Scan.f scanQ
  simp only [name_Scan.j0, L_len, e0]
  by_cases h1 : at_ < 0
  · rw [if_pos h1, if_pos (Or.inl h1)]; rfl
  · rw [if_neg h1]
    by_cases h2 : at_ > s.size
    · rw [if_pos (decide_eq_true h2), if_pos (Or.inr h2)]
    · rw [if_neg (by rw [decide_eq_false h2]; simp), if_neg (fun h => h.elim h1 h2)]
      obtain ⟨i, rfl⟩ : ∃ i : Nat, at_ = i := ⟨at_.toNat, by omega⟩
      rw [quote_is s hs i (by omega) k (by omega), Option.bind_some, Int.toNat_natCast]
      split
      · split <;> rfl
      · rfl
/-- What Unquote tells. -/
def unqQ (l : List Int) : List Int × Int := if (scanQ l 0).2.2 = 0 then (if (scanQ l 0).2.1 = l.length then ((scanQ l 0).1, 0) else ([], 4)) else ([], (scanQ l 0).2.2)
theorem Unquote_is (s : ByteArray) (hs : s.size ≤ 100000) (k : Nat) (hk : 100004 < k) : name_Unquote.f k s = some (strOfNums (unqQ (L s)).1, (unqQ (L s)).2) := by
  have e0 : (⟨#[]⟩ : ByteArray) = strOfNums [] := rfl
  unfold name_Unquote.f unqQ
  rw [Scan_is s hs 0 k hk, Option.bind_some, L_len, e0]
  simp only
  split
  · split <;> rfl
  · rfl
end Go.Proofs.Ytmmofckknopaaaa.Quo
