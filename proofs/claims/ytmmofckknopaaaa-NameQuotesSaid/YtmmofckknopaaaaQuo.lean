/- What is quoted and what a quote is read as, over lists of numbers: one letter's print, one letter read, a whole quote read. No condition beyond those typed. -/
import Derived.Test.YtmmofckknopaaaaStr
import Derived.Test.YtmmofckknopaaaaTxt
import Derived.Test.YtmmofckknopaaaaQ38
namespace Go.Proofs.Ytmmofckknopaaaa.Quo
open Go.RowKit Go.Proofs.Ytmmofckknopaaaa.Q Go.Proofs.Ytmmofckknopaaaa.Str Go.Proofs.YtmmofckknopaaaaW.PrintWords Go.Proofs.YtmmofckknopaaaaW.PrintLast

def pl (c : Int) : Bool := decide (32 ≤ c) && decide (c ≤ 126) && decide (c ≠ 34) && decide (c ≠ 92)
theorem pl_iff (c : Int) : pl c = true ↔ 32 ≤ c ∧ c ≤ 126 ∧ c ≠ 34 ∧ c ≠ 92 := by unfold pl; simp [and_assoc]
theorem pl_not (c : Int) : pl c = false ↔ ¬ (32 ≤ c ∧ c ≤ 126 ∧ c ≠ 34 ∧ c ≠ 92) := by rw [← pl_iff]; simp
def hd (n : Int) : Int := if n < 10 then 48 + n else 87 + n
def hx (c : Int) : Option Int := if 48 ≤ c ∧ c ≤ 57 then some (c - 48) else if 97 ≤ c ∧ c ≤ 102 then some (c - 87) else none
theorem hx_hd {n : Int} (h : 0 ≤ n ∧ n < 16) : hx (hd n) = some n := by
  unfold hx hd
  split
  · rw [if_pos (by omega)]; congr 1; omega
  · rw [if_neg (by omega), if_pos (by omega)]; congr 1; omega
theorem hd_hx {c n : Int} (h : hx c = some n) : c = hd n ∧ 0 ≤ n ∧ n < 16 := by
  unfold hx at h
  unfold hd
  split at h
  · injection h with h; subst h; rw [if_pos (by omega)]; omega
  · split at h
    · injection h with h; subst h; rw [if_neg (by omega)]; omega
    · cases h
/-- One letter's print. -/
def enc (c : Int) : List Int := if pl c = true then [c] else [92, hd (c / 16), hd (c % 16)]
/-- What stands behind an escape. -/
def esc : List Int → Option Int
  | h :: l :: _ => (hx h).bind fun a => (hx l).bind fun b => if pl (16 * a + b) = true then none else some (16 * a + b)
  | _ => none
/-- One letter read, and how much of the line it took. -/
def dec : List Int → Option (Int × Nat)
  | [] => none
  | c :: r => if c = 92 then (esc r).map (fun v => (v, 3)) else if pl c = true then some (c, 1) else none
/-- A quote read behind its mark: the letters, and how much of the line they and the closing mark took. -/
def qs : List Int → Option (List Int × Nat)
  | [] => none
  | c :: r => if c = 34 then some ([], 1) else if c = 92 then (match r with
      | h :: l :: t => (hx h).bind fun a => (hx l).bind fun b => if pl (16 * a + b) = true then none else (qs t).map fun q => ((16 * a + b) :: q.1, 3 + q.2)
      | _ => none) else if pl c = true then (qs r).map fun q => (c :: q.1, 1 + q.2) else none
theorem dec_cons (c : Int) (r : List Int) : dec (c :: r) = if c = 92 then (esc r).map (fun v => (v, 3)) else if pl c = true then some (c, 1) else none := rfl
theorem qs_cons (c : Int) (r : List Int) : qs (c :: r) = if c = 34 then some ([], 1) else if c = 92 then (match r with
      | h :: l :: t => (hx h).bind fun a => (hx l).bind fun b => if pl (16 * a + b) = true then none else (qs t).map fun q => ((16 * a + b) :: q.1, 3 + q.2)
      | _ => none) else if pl c = true then (qs r).map fun q => (c :: q.1, 1 + q.2) else none := by
  match r with
  | [] => rfl
  | [_] => rfl
  | _ :: _ :: _ => rfl
theorem qs_mark (r : List Int) : qs (34 :: r) = some ([], 1) := by rw [qs_cons, if_pos rfl]
theorem qs_step {c : Int} {r : List Int} (h : c ≠ 34) : qs (c :: r) = (dec (c :: r)).bind fun p => (qs ((c :: r).drop p.2)).map fun q => (p.1 :: q.1, p.2 + q.2) := by
  rw [qs_cons, if_neg h, dec_cons]
  by_cases h2 : c = 92
  · rw [if_pos h2, if_pos h2]
    match r with
    | [] => rfl
    | [_] => rfl
    | x :: y :: t =>
      simp only [esc]
      cases hx x with
      | none => rfl
      | some a =>
        cases hx y with
        | none => rfl
        | some b =>
          simp only [Option.bind_some]
          by_cases h3 : pl (16 * a + b) = true
          · rw [if_pos h3, if_pos h3]; rfl
          · rw [if_neg h3, if_neg h3]; rfl
  · rw [if_neg h2, if_neg h2]
    by_cases h3 : pl c = true
    · rw [if_pos h3, if_pos h3]; rfl
    · rw [if_neg h3, if_neg h3]; rfl
theorem esc_range {l : List Int} {v : Int} (h : esc l = some v) : 0 ≤ v ∧ v < 256 ∧ pl v = false := by
  match l with
  | [] => cases h
  | [_] => cases h
  | x :: y :: t =>
    simp only [esc] at h
    obtain ⟨a, ha, h⟩ := Option.bind_eq_some_iff.1 h
    obtain ⟨b, hb, h⟩ := Option.bind_eq_some_iff.1 h
    have ha := hd_hx ha
    have hb := hd_hx hb
    split at h
    · cases h
    · rename_i hp
      injection h with h
      subst h
      refine ⟨by omega, by omega, by simpa using hp⟩
theorem dec_range {l : List Int} {p : Int × Nat} (h : dec l = some p) : 0 ≤ p.1 ∧ p.1 < 256 ∧ 1 ≤ p.2 ∧ p.2 ≤ l.length ∧ p.2 ≤ 3 := by
  match l with
  | [] => cases h
  | c :: r =>
    simp only [dec] at h
    split at h
    · obtain ⟨v, hv, rfl⟩ := Option.map_eq_some_iff.1 h
      have := esc_range hv
      refine ⟨this.1, this.2.1, by simp, ?_, by simp⟩
      match r with
      | [] => cases hv
      | [_] => cases hv
      | _ :: _ :: _ => simp
    · split at h
      · rename_i h3
        rw [pl_iff] at h3
        injection h with h
        subst h
        simp
        omega
      · cases h
/-- One letter's print read. -/
theorem dec_enc {c : Int} (h : 0 ≤ c ∧ c < 256) (r : List Int) : dec (enc c ++ r) = some (c, (enc c).length) := by
  unfold enc
  by_cases h1 : pl c = true
  · rw [if_pos h1]
    have h2 := (pl_iff c).1 h1
    simp only [List.cons_append, List.nil_append, dec]
    rw [if_neg h2.2.2.2, if_pos h1]
    rfl
  · rw [if_neg h1]
    rw [List.cons_append, List.cons_append, List.cons_append, List.nil_append, dec_cons, if_pos rfl]
    simp only [esc]
    rw [hx_hd (by omega), hx_hd (by omega)]
    simp only [Option.bind_some]
    have e : 16 * (c / 16) + c % 16 = c := by omega
    rw [e, if_neg h1]
    rfl
/-- What is read was printed so. -/
theorem enc_dec {l : List Int} {p : Int × Nat} (h : dec l = some p) : l = enc p.1 ++ l.drop p.2 ∧ (enc p.1).length = p.2 := by
  match l with
  | [] => cases h
  | c :: r =>
    simp only [dec] at h
    split at h
    · rename_i hc
      obtain ⟨v, hv, rfl⟩ := Option.map_eq_some_iff.1 h
      match r with
      | [] => cases hv
      | [_] => cases hv
      | x :: y :: t =>
        have h5 := esc_range hv
        simp only [esc] at hv
        obtain ⟨a, ha, hv⟩ := Option.bind_eq_some_iff.1 hv
        obtain ⟨b, hb, hv⟩ := Option.bind_eq_some_iff.1 hv
        have ha := hd_hx ha
        have hb := hd_hx hb
        split at hv
        · cases hv
        · injection hv with hv
          unfold enc
          simp only [h5.2.2, Bool.false_eq_true, if_false]
          have e1 : v / 16 = a := by omega
          have e2 : v % 16 = b := by omega
          rw [e1, e2, ← ha.1, ← hb.1, hc]
          exact ⟨rfl, rfl⟩
    · split at h
      · rename_i h3
        injection h with h
        subst h
        unfold enc
        simp [h3]
      · cases h
/-- The letter whose print stands ahead is the one that is read. -/
theorem prefix_iff {c : Int} (h : 0 ≤ c ∧ c < 256) (l : List Int) : l.take (enc c).length = enc c ↔ dec l = some (c, (enc c).length) := by
  constructor
  · intro h1
    have h2 : l = enc c ++ l.drop (enc c).length := by
      conv => lhs; rw [← List.take_append_drop (enc c).length l, h1]
    rw [h2]
    exact dec_enc h _
  · intro h1
    have := enc_dec h1
    conv => lhs; rw [this.1]
    rw [List.take_left]
/-- A whole text's print, without marks. -/
def encs (l : List Int) : List Int := l.flatMap enc
theorem dec_ne {l : List Int} {p : Int × Nat} (h : dec l = some p) : l.getD 0 0 ≠ 34 := by
  match l with
  | [] => cases h
  | c :: r =>
    simp only [dec] at h
    rw [List.getD_cons_zero]
    intro hc
    subst hc
    rw [if_neg (by decide), if_neg (by decide)] at h
    cases h
theorem enc_cons (c : Int) : ∃ x t, enc c = x :: t ∧ x ≠ 34 := by
  unfold enc
  split
  · rename_i h
    exact ⟨_, _, rfl, ((pl_iff c).1 h).2.2.1⟩
  · exact ⟨_, _, rfl, by decide⟩
/-- What is quoted is read. -/
theorem qs_encs : ∀ {l : List Int}, Bytes l → ∀ (r : List Int), qs (encs l ++ 34 :: r) = some (l, (encs l).length + 1)
  | [], _, r => by rw [show encs [] = [] from rfl, List.nil_append, qs_mark]; rfl
  | c :: t, h, r => by
    have hc := h c (by simp)
    have ih := qs_encs (l := t) (fun x hx => h x (by simp [hx])) r
    have e1 : encs (c :: t) = enc c ++ encs t := by simp [encs]
    rw [e1, List.append_assoc]
    obtain ⟨x, u, hu, hx⟩ := enc_cons c
    have hd := dec_enc hc (encs t ++ 34 :: r)
    rw [hu] at hd ⊢
    rw [List.cons_append, qs_step hx]
    rw [List.cons_append] at hd
    rw [hd]
    simp only [Option.bind_some]
    have e2 : (x :: (u ++ (encs t ++ 34 :: r))).drop (x :: u).length = encs t ++ 34 :: r := by
      have : x :: (u ++ (encs t ++ 34 :: r)) = (x :: u) ++ (encs t ++ 34 :: r) := rfl
      rw [this, List.drop_left]
    rw [e2, ih]
    simp
    omega
/-- What is read was quoted so. -/
theorem encs_qs : ∀ (n : Nat) {l : List Int} {p : List Int × Nat}, l.length ≤ n → qs l = some p → l = encs p.1 ++ 34 :: l.drop p.2 ∧ p.2 = (encs p.1).length + 1 ∧ Bytes p.1
  | 0, [], p, _, h => by cases h
  | n + 1, [], p, _, h => by cases h
  | 0, _ :: _, p, hl, h => by simp at hl
  | n + 1, c :: r, p, hl, h => by
    by_cases hc : c = 34
    · subst hc
      rw [qs_mark] at h
      injection h with h
      subst h
      exact ⟨rfl, rfl, by intro x hx; simp at hx⟩
    · rw [qs_step hc] at h
      obtain ⟨d, hd, h⟩ := Option.bind_eq_some_iff.1 h
      obtain ⟨q, hq, rfl⟩ := Option.map_eq_some_iff.1 h
      have hr := dec_range hd
      have he := enc_dec hd
      obtain ⟨h1, h2, h3⟩ := encs_qs n (by rw [List.length_drop]; omega) hq
      have e1 : encs (d.1 :: q.1) = enc d.1 ++ encs q.1 := by simp [encs]
      refine ⟨?_, ?_, ?_⟩
      · rw [e1, List.append_assoc, ← List.drop_drop, ← h1]
        exact he.1
      · show d.2 + q.2 = _
        rw [e1, List.length_append]; omega
      · intro x hx
        rcases List.mem_cons.1 hx with e | hx
        · rw [e]; exact ⟨hr.1, hr.2.1⟩
        · exact h3 x hx
theorem qs_len {l : List Int} {p : List Int × Nat} (h : qs l = some p) : 1 ≤ p.2 ∧ p.2 ≤ l.length ∧ p.1.length < p.2 := by
  have h1 := encs_qs _ (Nat.le_refl _) h
  have h2 := congrArg List.length h1.1
  rw [List.length_append, List.length_cons, List.length_drop] at h2
  have h3 : ∀ t : List Int, t.length ≤ (encs t).length := by
    intro t
    induction t with
    | nil => simp
    | cons c t ih =>
      have e1 : encs (c :: t) = enc c ++ encs t := by simp [encs]
      obtain ⟨x, u, hu, _⟩ := enc_cons c
      rw [e1, List.length_append, hu]
      simp
      omega
  have := h3 p.1
  omega
/-- A quote at a place, as Scan's inner function tells it. -/
def quo (l : List Int) (i : Nat) : List Int × Int × Bool :=
  match l.drop i with
  | [] => ([], 0, false)
  | c :: r => if c = 34 then (match qs r with | some p => (p.1, ((i + 1 + p.2 : Nat) : Int), true) | none => ([], 0, false)) else ([], 0, false)

/-! ### the program's words -/
theorem hexI : ∀ n : Fin 256, Go.Lib.indexByte [48, 49, 50, 51, 52, 53, 54, 55, 56, 57, 97, 98, 99, 100, 101, 102] (UInt8.ofNat n.val) = (hx (n.val : Int)).getD (-1) := by decide +kernel
theorem IndexByte_hex {c : Int} (h : 0 ≤ c ∧ c < 256) : strings_IndexByte.f (⟨#[48, 49, 50, 51, 52, 53, 54, 55, 56, 57, 97, 98, 99, 100, 101, 102]⟩ : ByteArray) c = some ((hx c).getD (-1)) := by
  have h1 := hexI ⟨c.toNat, by omega⟩
  simp only at h1
  unfold strings_IndexByte.f stringslite_IndexByte.f
  simp only [Option.bind_some]
  have e : ((c.toNat : Nat) : Int) = c := by omega
  rw [e] at h1
  rw [← h1]
theorem hexB : ∀ a b : Fin 16, (Go.bits .or .i64 (wrap64 ((a.val : Int) * 16)) (Go.bits .and .i64 (b.val : Int) 15)) % 256 = 16 * (a.val : Int) + (b.val : Int) := by decide +kernel
theorem hexB' {a b : Int} (ha : 0 ≤ a ∧ a < 16) (hb : 0 ≤ b ∧ b < 16) : (Go.bits .or .i64 (wrap64 (a * 16)) (Go.bits .and .i64 b 15)) % 256 = 16 * a + b := by
  have h := hexB ⟨a.toNat, by omega⟩ ⟨b.toNat, by omega⟩
  simp only at h
  rw [show ((a.toNat : Nat) : Int) = a by omega, show ((b.toNat : Nat) : Int) = b by omega] at h
  exact h
theorem plain_is (c : Int) : name_plain.f c = some (pl c) := by
  unfold name_plain.f pl
  by_cases h1 : c ≥ 32
  · rw [if_pos h1]
    by_cases h2 : c ≤ 126
    · rw [if_pos h2]
      by_cases h3 : c = 34
      · rw [if_pos h3, h3]; rfl
      · rw [if_neg h3]
        have : (32 ≤ c) := h1
        by_cases h4 : c = 92 <;> simp [*]
    · rw [if_neg h2]; simp [h2]
  · rw [if_neg h1]; have : ¬ (32 ≤ c) := h1; simp [this]
theorem escaped_is (s : ByteArray) (hs : s.size ≤ 100000) (i : Nat) (hi : i ≤ s.size) : ∃ v b, name_escaped.f s (i : Int) = some (v, b) ∧ (if b = true then some v else none) = esc ((L s).drop i) := by
  unfold name_escaped.f
  rw [Txt.w64 (by omega) (by omega)]
  by_cases h1 : (s.size : Int) - i < 2
  · rw [if_pos h1]
    refine ⟨_, _, rfl, ?_⟩
    have : ((L s).drop i).length < 2 := by rw [List.length_drop, L_len]; omega
    match (L s).drop i, this with
    | [], _ => rfl
    | [_], _ => rfl
  · rw [if_neg h1, if_pos (by omega), if_pos (by omega), Txt.w64 (x := (i : Int) + 1) (by omega) (by omega)]
    have e1 : (i : Int) + 1 = ((i + 1 : Nat) : Int) := by omega
    rw [Txt.L_drop (by omega), Txt.L_drop (by omega), e1, IndexByte_hex (by have := bt_range s i; omega)]
    simp only [Option.bind_some]
    rw [if_pos (by omega), if_pos (by omega), IndexByte_hex (by have := bt_range s ((i + 1 : Nat) : Int); omega)]
    simp only [Option.bind_some, esc]
    cases ha : hx (bt s (i : Int)) with
    | none =>
      rw [if_neg (by simp)]
      exact ⟨_, _, rfl, rfl⟩
    | some a =>
      have ha := hd_hx ha
      rw [if_pos (by simp; omega)]
      cases hb : hx (bt s ((i + 1 : Nat) : Int)) with
      | none =>
        rw [if_neg (by simp)]
        exact ⟨_, _, rfl, rfl⟩
      | some b =>
        have hb := hd_hx hb
        rw [if_pos (by simp; omega)]
        simp only [Option.getD_some, hexB' ha.2 hb.2, plain_is, Option.bind_some]
        refine ⟨_, _, rfl, ?_⟩
        cases pl (16 * a + b) <;> rfl
theorem quote_l0 (s : ByteArray) (hs : s.size ≤ 100000) (d : Nat) : ∀ (k i : Nat) (acc : List Int), i + d = s.size → d < k → acc.length ≤ i →
    name_quote.l0 k s (i : Int) acc = some (match qs ((L s).drop i) with | some p => (acc ++ p.1, ((i + p.2 : Nat) : Int), true) | none => ([], 0, false)) := by
  induction d using Nat.strongRecOn with
  | ind d ih =>
    intro k i acc hd hk hacc
    obtain ⟨k, rfl⟩ : ∃ m, k = m + 1 := ⟨k - 1, by omega⟩
    simp only [name_quote.l0]
    by_cases h1 : (i : Int) ≥ s.size
    · rw [if_pos h1, Txt.L_drop_end (by omega)]
      rfl
    · have hd0 := Txt.L_drop (s := s) (i := i) (by omega)
      have e1 : (i : Int) + 1 = ((i + 1 : Nat) : Int) := by omega
      rw [if_neg h1, if_pos (by omega), if_pos (by omega), Txt.w64 (x := (i : Int) + 1) (by omega) (by omega), e1]
      by_cases h2 : bt s i = 34
      · rw [if_pos h2, hd0, h2, qs_mark]
        simp
      · rw [if_neg h2, hd0, qs_step h2]
        by_cases h3 : bt s i = 92
        · obtain ⟨v, b, he, hv⟩ := escaped_is s hs (i + 1) (by omega)
          rw [if_pos h3, he]
          simp only [Option.bind_some, dec]
          rw [if_pos h3, ← hv]
          by_cases hb : b = true
          · rw [if_pos hb, if_pos hb, if_pos (by omega)]
            rw [if_pos hb] at hv
            have h4 : i + 3 ≤ s.size := by
              have h5 := dec_range (l := (L s).drop i) (p := (v, 3)) (by rw [hd0]; simp only [dec]; rw [if_pos h3, ← hv]; rfl)
              rw [List.length_drop, L_len] at h5
              omega
            rw [Txt.w64 (by omega) (by omega), show ((i + 1 : Nat) : Int) + 2 = ((i + 3 : Nat) : Int) by omega, ih (d - 3) (by omega) k (i + 3) (acc ++ [v]) (by omega) (by omega) (by simp; omega)]
            simp only [Option.map_some, Option.bind_some]
            rw [← hd0, List.drop_drop]
            cases hq : qs ((L s).drop (i + 3)) with
            | none => rfl
            | some p => simp; omega
          · rw [if_neg hb, if_neg hb]
            rfl
        · rw [if_neg h3, plain_is]
          simp only [Option.bind_some, dec]
          rw [if_neg h3]
          by_cases h4 : pl (bt s i) = true
          · rw [if_pos h4, if_pos h4, if_pos (by omega), ih (d - 1) (by omega) k (i + 1) _ (by omega) (by omega) (by simp; omega)]
            simp only [Option.bind_some]
            rw [← hd0, List.drop_drop]
            cases hq : qs ((L s).drop (i + 1)) with
            | none => rfl
            | some p => simp; omega
          · rw [if_neg h4, if_neg h4]
            rfl
theorem quote_is (s : ByteArray) (hs : s.size ≤ 100000) (i : Nat) (hi : i ≤ s.size) (k : Nat) (hk : 100002 < k) : name_quote.f k s (i : Int) = some (quo (L s) i) := by
  obtain ⟨k, rfl⟩ : ∃ m, k = m + 1 := ⟨k - 1, by omega⟩
  unfold name_quote.f quo
  by_cases h1 : (i : Int) ≥ s.size
  · rw [if_pos h1, Txt.L_drop_end (by omega)]
    simp [name_quote.j0]
  · rw [if_neg h1, if_pos (by omega), if_pos (by omega), Txt.L_drop (s := s) (i := i) (by omega)]
    simp only [name_quote.j0]
    by_cases h2 : bt s i = 34
    · rw [if_neg (by simp [h2]), Txt.w64 (by omega) (by omega), show (i : Int) + 1 = ((i + 1 : Nat) : Int) by omega, quote_l0 s hs (s.size - i - 1) k (i + 1) [] (by omega) (by omega) (by simp)]
      simp only [if_pos h2]
      cases hq : qs ((L s).drop (i + 1)) with
      | none => rfl
      | some p => simp
    · rw [if_pos (by simp [h2])]
      simp only [if_neg h2]
end Go.Proofs.Ytmmofckknopaaaa.Quo
