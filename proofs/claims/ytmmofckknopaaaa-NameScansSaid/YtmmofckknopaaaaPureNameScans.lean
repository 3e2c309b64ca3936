/- The quote that begins at any place, or why none does: the program tells what the document says, and what it reads was quoted so. -/
import Derived.Test.YtmmofckknopaaaaQuot
import Derived.Test.YtmmofckknopaaaaQ63
namespace Go.Proofs.Ytmmofckknopaaaa.Pure
open Go.RowKit Go.Proofs.Ytmmofckknopaaaa.Q Go.Proofs.Ytmmofckknopaaaa.Txt Go.Proofs.Ytmmofckknopaaaa.Str Go.Proofs.Ytmmofckknopaaaa.Quo Go.Proofs.YtmmofckknopaaaaW.PrintWords Go.Proofs.YtmmofckknopaaaaW.PrintLast

theorem awakeS : punnetlaw05_awake.f 30 = some true := by kernel_rfl
theorem refScan_is (s : ByteArray) (hs : s.size ≤ 100000) (at_ : Int) : ∃ k, punnetref05_Scan.f k s at_ = some (strOfNums (scanQ (L s) at_).1, (scanQ (L s) at_).2.1, (scanQ (L s) at_).2.2) := by
  have e0 : (⟨#[]⟩ : ByteArray) = strOfNums [] := rfl
  unfold punnetref05_Scan.f scanQ
  rw [L_len]
  by_cases h1 : at_ < 0
  · refine ⟨1, ?_⟩
    simp only [punnetref05_Scan.j0, e0]
    rw [if_pos h1, if_pos (Or.inl h1)]; rfl
  · by_cases h2 : at_ > s.size
    · refine ⟨1, ?_⟩
      simp only [punnetref05_Scan.j0, e0]
      rw [if_neg h1, if_pos (decide_eq_true h2), if_pos (Or.inr h2)]
    · obtain ⟨i, rfl⟩ : ∃ i : Nat, at_ = i := ⟨at_.toNat, by omega⟩
      obtain ⟨k, hk⟩ := Begins_is s hs i (by omega)
      refine ⟨k + 1, ?_⟩
      simp only [punnetref05_Scan.j0, e0]
      rw [if_neg h1, if_neg (by rw [decide_eq_false h2]; simp), if_neg (fun h => h.elim h1 h2), hk, Option.bind_some, Int.toNat_natCast]
      simp only [strOfNums_size]
      split
      · split <;> rfl
      · rfl
theorem scanQ_bad {l : List Int} {a : Int} (h : (scanQ l a).2.2 ≠ 0) : (scanQ l a).1 = [] := by
  unfold scanQ at h ⊢
  split
  · rfl
  · rename_i h1
    rw [if_neg h1] at h
    split
    · rename_i h2
      rw [if_pos h2] at h
      split
      · rfl
      · rename_i h3
        rw [if_neg h3] at h
        exact absurd rfl h
    · rfl
theorem scanQ_good {l : List Int} {a : Int} (h : (scanQ l a).2.2 = 0) : ∃ (i n : Nat), a = i ∧ i ≤ l.length ∧ (scanQ l a).1.length ≤ 40 ∧ Bytes (scanQ l a).1 ∧ (scanQ l a).2.1 = n ∧ i ≤ n ∧ n ≤ l.length ∧ (l.take n).drop i = qtd (scanQ l a).1 := by
  unfold scanQ at h ⊢
  by_cases h1 : a < 0 ∨ a > l.length
  · rw [if_pos h1] at h; cases h
  · rw [if_neg h1] at h ⊢
    obtain ⟨i, rfl⟩ : ∃ i : Nat, a = i := ⟨a.toNat, by omega⟩
    rw [Int.toNat_natCast] at h ⊢
    by_cases h2 : (quo l i).2.2 = true
    · rw [if_pos h2] at h ⊢
      by_cases h3 : ((quo l i).1.length : Int) > 40
      · rw [if_pos h3] at h; cases h
      · rw [if_neg h3] at h ⊢
        obtain ⟨n, hn, hn1, hn2⟩ := quo_ok h2
        refine ⟨i, n, rfl, by omega, by show (quo l i).1.length ≤ 40; omega, ?_⟩
        show Bytes (quo l i).1 ∧ (quo l i).2.1 = n ∧ i ≤ n ∧ n ≤ l.length ∧ (l.take n).drop i = qtd (quo l i).1
        cases hd : l.drop i with
        | nil => unfold quo at h2; rw [hd] at h2; cases h2
        | cons c r =>
          have h2' := h2
          unfold quo at h2'
          rw [hd] at h2'
          simp only at h2'
          by_cases hc : c = 34
          · rw [if_pos hc] at h2'
            cases hq : qs r with
            | none => rw [hq] at h2'; cases h2'
            | some p =>
              have hqq : quo l i = (p.1, ((i + 1 + p.2 : Nat) : Int), true) := by
                unfold quo
                rw [hd]
                simp only
                rw [if_pos hc, hq]
              obtain ⟨g1, g2, g3⟩ := encs_qs _ (Nat.le_refl _) hq
              rw [hqq] at hn ⊢
              refine ⟨g3, hn, by omega, hn2, ?_⟩
              have hnn : n = i + 1 + p.2 := by
                have : ((i + 1 + p.2 : Nat) : Int) = n := hn
                omega
              rw [List.drop_take, hd, hnn, show i + 1 + p.2 - i = p.2 + 1 by omega, List.take_succ_cons, hc]
              unfold qtd
              rw [g1, g2]
              rw [List.take_append, List.take_of_length_le (by omega), Nat.add_sub_cancel_left]
              rfl
          · rw [if_neg hc] at h2'; cases h2'
    · rw [if_neg h2] at h; cases h
theorem NameScans : punnetlaw05_NameScans.Pure := by
  intro s a _ _
  by_cases h5 : (s.size : Int) > 500
  · refine ⟨30, ?_⟩
    unfold punnetlaw05_NameScans.f
    rw [awakeS, Option.bind_some, if_pos rfl, if_pos h5]
  · obtain ⟨k1, hA⟩ := refScan_is s (by omega) a
    obtain ⟨k2, hB⟩ := refScan_is s (by omega) 0
    have hA := at_rounds (g := fun k => punnetref05_Scan.f k s a) (fun k => punnetref05_Scan.mono _ _ k) (k := k1) (k' := k1 + k2 + 200003) (by omega) hA
    have hB := at_rounds (g := fun k => punnetref05_Scan.f k s 0) (fun k => punnetref05_Scan.mono _ _ k) (k := k2) (k' := k1 + k2 + 200003) (by omega) hB
    refine ⟨k1 + k2 + 200003, ?_⟩
    unfold punnetlaw05_NameScans.f
    rw [at_rounds punnetlaw05_awake.mono (k := 30) (by omega) awakeS, Option.bind_some, if_pos rfl, if_neg h5, Scan_is s (by omega) a _ (by omega), Option.bind_some, hA, Option.bind_some, Unquote_is s (by omega) _ (by omega), Option.bind_some, hB, Option.bind_some]
    simp only
    have hJ : ∀ (x : ByteArray) (g : Int), punnetlaw05_NameScans.j1 (k1 + k2 + 200002) s a (strOfNums (scanQ (L s) a).1) (scanQ (L s) a).2.1 (scanQ (L s) a).2.2 (strOfNums (scanQ (L s) a).1) (scanQ (L s) a).2.1 (scanQ (L s) a).2.2 x g x g = some true := by
      intro x g
      simp only [punnetlaw05_NameScans.j1, if_true, bne_self_eq_false, punnetlaw05_NameScans.j2, Bool.false_eq_true, if_false]
      by_cases he : (scanQ (L s) a).2.2 = 0
      · rw [if_pos he]
        obtain ⟨i, n, rfl, hi, h40, hb, hn, hin, hnl, hx⟩ := scanQ_good he
        rw [L_len] at hi hnl
        rw [Quote_is, Option.bind_some, hn, if_pos (by omega), if_pos (by omega), if_pos (by omega), Int.toNat_natCast, Int.toNat_natCast, strOfNums_size, if_pos h40, L_strOfNums hb]
        have e : s.extract i n = strOfNums (qtd (scanQ (L s) (i : Int)).1) := by
          apply L_inj
          rw [L_extract, hx, L_strOfNums (qtd_bytes hb)]
        rw [e]
        simp
      · rw [if_neg he]
    have e0 : (⟨#[]⟩ : ByteArray) = strOfNums [] := rfl
    by_cases h0 : (scanQ (L s) 0).2.2 = 0
    · rw [if_pos h0]
      by_cases h1 : (scanQ (L s) 0).2.1 = s.size
      · have hu : unqQ (L s) = ((scanQ (L s) 0).1, 0) := by unfold unqQ; rw [if_pos h0, L_len, if_pos h1]
        simp only [punnetlaw05_NameScans.j0]
        rw [if_neg (by rw [h1]; simp), hu, h0]
        exact hJ _ _
      · have hu : unqQ (L s) = ([], 4) := by unfold unqQ; rw [if_pos h0, L_len, if_neg h1]
        simp only [punnetlaw05_NameScans.j0]
        rw [if_pos (bne_iff_ne.2 h1), hu, e0]
        exact hJ _ _
    · rw [if_neg h0]
      have hu : unqQ (L s) = ([], (scanQ (L s) 0).2.2) := by unfold unqQ; rw [if_neg h0]
      simp only [punnetlaw05_NameScans.j0, Bool.false_eq_true, if_false]
      rw [hu, scanQ_bad h0]
      exact hJ _ _
end Go.Proofs.Ytmmofckknopaaaa.Pure
