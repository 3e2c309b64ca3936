/- Any text is a number's print, or it is told why not; so is what stands at any place: the program and the document tell the same, and what is read has this print. -/
import Derived.Test.YtmmofckknopaaaaRead
import Derived.Test.YtmmofckknopaaaaQ32
namespace Go.Proofs.Ytmmofckknopaaaa.Pure
open Go.RowKit Go.Proofs.Ytmmofckknopaaaa.Q Go.Proofs.Ytmmofckknopaaaa.Bits Go.Proofs.Ytmmofckknopaaaa.Str Go.Proofs.Ytmmofckknopaaaa.Dig Go.Proofs.YtmmofckknopaaaaW.PrintWords Go.Proofs.YtmmofckknopaaaaW.PrintLast

theorem all_run (l : List Int) : (run l).all isd = true := List.all_takeWhile
theorem scan_l0 (s : ByteArray) (hs : s.size ≤ 2000) (a : Nat) (d : Nat) : ∀ (k i : Nat), i + d = s.size → d + 2040 < k → a ≤ i →
    punnetref03_Scan.l0 k s a i = (let j := i + (run ((L s).drop i)).length; let r := readR (((L s).take j).drop a); some (if r.2 = 0 then (r.1, (j : Int), 0) else (0, 0, r.2))) := by
  have fin : ∀ (k i : Nat), 2040 ≤ k → a ≤ i → i ≤ s.size → ((punnetref03_Read.f k (s.extract (a : Int).toNat (i : Int).toNat)).bind fun b => (if b.2 = 0 then (some (b.1, (i : Int), 0)) else (some (0, 0, b.2)))) = (let r := readR (((L s).take i).drop a); some (if r.2 = 0 then (r.1, (i : Int), 0) else (0, 0, r.2))) := by
    intro k i hk ha hi
    rw [Int.toNat_natCast, Int.toNat_natCast, ref_Read_is _ (by rw [← L_len, L_extract]; simp [L_len]; omega) k (by omega), L_extract]
    simp only [Option.bind_some]
    split
    · rename_i h; simp
    · rename_i h; simp
  induction d with
  | zero =>
    intro k i hi hk ha
    obtain ⟨k, rfl⟩ : ∃ m, k = m + 1 := ⟨k - 1, by omega⟩
    simp only [punnetref03_Scan.l0]
    rw [if_neg (by omega), if_pos (by omega), if_pos (by omega), if_pos (by omega), fin k i (by omega) ha (by omega), L_drop_end (by omega)]
    simp [run]
    rfl
  | succ d ih =>
    intro k i hi hk ha
    obtain ⟨k, rfl⟩ : ∃ m, k = m + 1 := ⟨k - 1, by omega⟩
    simp only [punnetref03_Scan.l0]
    rw [if_pos (by omega), if_pos (by omega), L_drop (by omega)]
    by_cases h1 : bt s (i : Int) ≥ 48
    · rw [if_pos h1]
      by_cases h2 : bt s (i : Int) ≤ 57
      · have e : isd (bt s i) = true := by unfold isd; simp; omega
        rw [if_pos h2, run_cons_pos e, w64 (by omega) (by omega), show (i : Int) + 1 = ((i + 1 : Nat) : Int) by omega, ih k (i + 1) (by omega) (by omega) (by omega)]
        simp only [List.length_cons]
        rw [show i + 1 + (run ((L s).drop (i + 1))).length = i + ((run ((L s).drop (i + 1))).length + 1) by omega]
      · have e : isd (bt s i) = false := by unfold isd; simp; omega
        rw [if_neg h2, run_cons_neg e, if_pos (by omega), if_pos (by omega), if_pos (by omega), fin k i (by omega) ha (by omega)]
        rfl
    · have e : isd (bt s i) = false := by unfold isd; simp; omega
      rw [if_neg h1, run_cons_neg e, if_pos (by omega), if_pos (by omega), if_pos (by omega), fin k i (by omega) ha (by omega)]
      rfl
theorem take_run (l : List Int) : l.take (run l).length = run l := by
  have := List.takeWhile_prefix isd (l := l)
  exact (List.prefix_iff_eq_take.1 this).symm
theorem readR_piece (w : List Int) : readR (w.take ((if neg w = true then 1 else 0) + (ds w).length)) = rdD (neg w) (ds w) := by
  unfold ds
  cases hn : neg w with
  | true =>
    cases w with
    | nil => simp [neg] at hn
    | cons x r =>
      simp only [if_true, List.drop_succ_cons, List.drop_zero]
      rw [Nat.add_comm, List.take_succ_cons, take_run]
      have h1 : neg (x :: run r) = true := hn
      unfold readR rest
      rw [h1]
      simp only [if_true, List.drop_succ_cons, List.drop_zero, all_run]
  | false =>
    simp only [Bool.false_eq_true, if_false, Nat.zero_add, take_run]
    have h1 : neg (run w) = false := by
      cases w with
      | nil => rfl
      | cons x r =>
        cases hd : isd x with
        | true => rw [run_cons_pos hd]; exact hn
        | false => rw [run_cons_neg hd]; rfl
    unfold readR rest
    rw [h1]
    simp [all_run]
theorem ref_Scan_is (s : ByteArray) (hs : s.size ≤ 2000) (at_ : Int) (k : Nat) (hk : 4100 < k) : punnetref03_Scan.f k s at_ = some (scanR (L s) at_) := by
  obtain ⟨k, rfl⟩ : ∃ m, k = m + 1 + 1 + 1 := ⟨k - 3, by omega⟩
  unfold punnetref03_Scan.f scanR
  rw [L_len]
  by_cases h0 : at_ < 0
  · rw [if_pos h0, if_pos (Or.inl h0)]; simp [punnetref03_Scan.j0]
  · rw [if_neg h0]
    by_cases h1 : (s.size : Int) < at_
    · rw [if_pos (Or.inr h1), decide_eq_true h1]; simp [punnetref03_Scan.j0]
    · have e : decide (at_ > (s.size : Int)) = false := decide_eq_false h1
      rw [if_neg (by omega), e]
      obtain ⟨a, rfl⟩ := Int.eq_ofNat_of_zero_le (show 0 ≤ at_ by omega)
      have main : ∀ z : Nat, z = (if neg ((L s).drop a) = true then 1 else 0) → a + z ≤ s.size → punnetref03_Scan.j2 (k + 1) s a ((a + z : Nat) : Int) = some (if (rdD (neg ((L s).drop a)) (ds ((L s).drop a))).2 = 0 then ((rdD (neg ((L s).drop a)) (ds ((L s).drop a))).1, (a : Int) + (z : Int) + (ds ((L s).drop a)).length, 0) else (0, 0, (rdD (neg ((L s).drop a)) (ds ((L s).drop a))).2)) := by
        intro z hz hle
        simp only [punnetref03_Scan.j2]
        rw [scan_l0 s hs a (s.size - (a + z)) k (a + z) (by omega) (by omega) (by omega)]
        have e1 : (L s).drop (a + z) = rest ((L s).drop a) := by
          unfold rest
          split
          · rename_i h; rw [if_pos h] at hz; rw [hz, List.drop_drop]
          · rename_i h; rw [if_neg h] at hz; rw [hz]; rfl
        rw [e1]
        have e2 := readR_piece ((L s).drop a)
        rw [← hz, ds_rest] at e2
        have e3 : ((L s).take (a + z + (run (rest ((L s).drop a))).length)).drop a = ((L s).drop a).take (z + (run (rest ((L s).drop a))).length) := by
          rw [List.drop_take]; congr 1; omega
        simp only [e3, e2, ds_rest]
        have e4 : ((a + z + (run (rest ((L s).drop a))).length : Nat) : Int) = (a : Int) + (z : Int) + (run (rest ((L s).drop a))).length := by omega
        rw [e4]
        rfl
      simp only [punnetref03_Scan.j0, Bool.false_eq_true, if_false, Int.toNat_natCast]
      by_cases hlt : a < s.size
      · rw [if_pos (by omega), if_pos (by omega)]
        have hn : neg ((L s).drop a) = (bt s (a : Int) == 45) := by unfold neg; rw [L_drop hlt]; rfl
        simp only [punnetref03_Scan.j1]
        cases hb : (bt s (a : Int) == 45) with
        | true =>
          rw [hb] at hn
          have h := main 1 (by rw [hn]; rfl) (by omega)
          simp only [if_true]
          rw [w64 (by omega) (by omega), show (a : Int) + 1 = ((a + 1 : Nat) : Int) by omega, h]
          simp [hn]
        | false =>
          rw [hb] at hn
          have h : punnetref03_Scan.j2 (k + 1) s (a : Int) (a : Int) = _ := main 0 (by rw [hn]; rfl) (by omega)
          simp only [Bool.false_eq_true, if_false]
          rw [h]
          simp [hn]
      · rw [if_neg (by omega)]
        have hw : (L s).drop a = [] := L_drop_end (by omega)
        have hn : neg ((L s).drop a) = false := by rw [hw]; rfl
        have h : punnetref03_Scan.j2 (k + 1) s (a : Int) (a : Int) = _ := main 0 (by rw [hn]; rfl) (by omega)
        simp only [punnetref03_Scan.j1, Bool.false_eq_true, if_false]
        rw [h]
        simp [hn]

/-! ### The whole text -/
theorem badFrom_iff (s : ByteArray) (d : Nat) : ∀ i, badFrom s d i = true ↔ ∃ j, i ≤ j ∧ j < i + d ∧ bad s j = true := by
  induction d with
  | zero => intro i; simp [badFrom]; omega
  | succ d ih =>
    intro i
    simp only [badFrom, Bool.or_eq_true, ih]
    constructor
    · rintro (h | ⟨j, h1, h2, h3⟩)
      · exact ⟨i, by omega, by omega, h⟩
      · exact ⟨j, by omega, by omega, h3⟩
    · rintro ⟨j, h1, h2, h3⟩
      by_cases e : j = i
      · subst e; exact Or.inl h3
      · exact Or.inr ⟨j, by omega, by omega, h3⟩
theorem getD_mem {l : List Int} {i : Nat} (h : i < l.length) : l.getD i 0 ∈ l := by
  rw [List.getD_eq_getElem?_getD, List.getElem?_eq_getElem h]; exact List.getElem_mem h
theorem bad_rest (s : ByteArray) : badFrom s s.size 0 = !((rest (L s)).all isd) := by
  have hb : bt s 0 = (L s).getD 0 0 := bt_L s 0
  rw [Bool.eq_iff_iff, badFrom_iff, Bool.not_eq_true', Bool.eq_false_iff, ne_eq, List.all_eq_true]
  have hbad : ∀ j, j < s.size → (bad s j = true ↔ ¬ isd ((L s).getD j 0) = true ∧ (0 < j ∨ neg (L s) = false)) := by
    intro j hj
    unfold bad neg
    rw [dig_isd hj, bt_L, hb]
    simp
  constructor
  · rintro ⟨j, _, h2, h3⟩ hall
    obtain ⟨h4, h5⟩ := (hbad j (by omega)).1 h3
    apply h4
    apply hall
    unfold rest
    split
    · rename_i hn
      have hj : 0 < j := by rcases h5 with h | h; exact h; rw [hn] at h; cases h
      have e : (L s).getD j 0 = ((L s).drop 1).getD (j - 1) 0 := by
        rw [List.getD_eq_getElem?_getD, List.getD_eq_getElem?_getD, List.getElem?_drop]; congr 2; omega
      rw [e]
      exact getD_mem (by simp [L_len]; omega)
    · exact getD_mem (by rw [L_len]; omega)
  · intro h
    obtain ⟨x, hx⟩ := Classical.not_forall.1 h
    obtain ⟨hm, hx⟩ := Classical.not_imp.1 hx
    obtain ⟨i, hi, rfl⟩ := List.mem_iff_getElem.1 hm
    unfold rest at hi hx
    cases hn : neg (L s) with
    | true =>
      simp only [hn, if_true] at hi hx
      simp only [List.length_drop, L_len] at hi
      refine ⟨i + 1, by omega, by omega, (hbad (i + 1) (by omega)).2 ⟨?_, Or.inl (by omega)⟩⟩
      rw [List.getElem_drop] at hx
      have e : (L s).getD (i + 1) 0 = (L s)[1 + i]'(by rw [L_len]; omega) := by
        rw [List.getD_eq_getElem?_getD, Nat.add_comm i 1, List.getElem?_eq_getElem (by rw [L_len]; omega)]; rfl
      rw [e]; exact hx
    | false =>
      simp only [hn, Bool.false_eq_true, if_false] at hi hx
      rw [L_len] at hi
      refine ⟨i, by omega, by omega, (hbad i (by omega)).2 ⟨?_, Or.inr hn⟩⟩
      rw [List.getD_eq_getElem?_getD, List.getElem?_eq_getElem (by rw [L_len]; omega)]
      exact hx
theorem num_Read_is (s : ByteArray) (hs : s.size ≤ 2000) (k : Nat) (hk : 2020 < k) : num_Read.f k s = some (readR (L s)) := by
  unfold num_Read.f
  rw [num_Scan_is s hs 0 k hk]
  have hS : scanR (L s) 0 = (if (rdD (neg (L s)) (ds (L s))).2 = 0 then ((rdD (neg (L s)) (ds (L s))).1, 0 + (if neg (L s) = true then 1 else 0) + ((ds (L s)).length : Int), 0) else (0, 0, (rdD (neg (L s)) (ds (L s))).2)) := by
    unfold scanR
    rw [if_neg (by omega)]
    rfl
  simp only [Option.bind_some]
  rw [bad_rest]
  have hrl : (rest (L s)).length + (if neg (L s) = true then 1 else 0) = s.size := by
    unfold rest
    cases hn : neg (L s) with
    | true =>
      have : 0 < s.size := by
        rcases Nat.eq_zero_or_pos s.size with h | h
        · have e : L s = [] := List.eq_nil_of_length_eq_zero (by rw [L_len]; exact h)
          rw [e] at hn; simp [neg] at hn
        · exact h
      simp [L_len]; omega
    | false => simp [L_len]
  unfold readR
  have hcode : (rdD (neg (L s)) (ds (L s))).2 = 0 ∨ (rdD (neg (L s)) (ds (L s))) = (0, 3) ∨ (rdD (neg (L s)) (ds (L s))) = (0, 4) := by
    unfold rdD
    split
    · exact Or.inr (Or.inr rfl)
    · split
      · exact Or.inr (Or.inl rfl)
      · exact Or.inl rfl
  have hds : (rest (L s)).all isd = true → ds (L s) = rest (L s) := fun h => by rw [ds_rest, run_all h]
  have hnot : ¬ (rest (L s)).all isd = true → (ds (L s)).length < (rest (L s)).length := fun h => run_not_all h
  rcases hcode with h | h | h
  · have e : scanR (L s) 0 = ((rdD (neg (L s)) (ds (L s))).1, 0 + (if neg (L s) = true then 1 else 0) + ((ds (L s)).length : Int), 0) := by rw [hS, if_pos h]
    rw [e]
    dsimp only
    rw [if_neg (by decide), if_pos rfl]
    by_cases hall : (rest (L s)).all isd = true
    · rw [hds hall] at h ⊢
      rw [if_pos hall, if_pos (by cases hn : neg (L s) <;> (rw [hn] at hrl; simp at hrl ⊢; omega))]
      exact congrArg some (Prod.ext rfl h.symm)
    · have := hnot hall
      rw [if_neg hall, if_neg (by cases hn : neg (L s) <;> (rw [hn] at hrl; simp at hrl ⊢; omega))]
  · have e : scanR (L s) 0 = (0, 0, 3) := by rw [hS, h]; rfl
    rw [e]
    dsimp only
    rw [if_pos rfl]
    by_cases hall : (rest (L s)).all isd = true
    · rw [hds hall] at h
      rw [if_pos hall, hall, h]; rfl
    · have e2 : (rest (L s)).all isd = false := by simpa using hall
      rw [if_neg hall, e2]; rfl
  · have e : scanR (L s) 0 = (0, 0, 4) := by rw [hS, h]; rfl
    rw [e]
    dsimp only
    rw [if_neg (by decide), if_neg (by decide)]
    by_cases hall : (rest (L s)).all isd = true
    · rw [hds hall] at h
      rw [if_pos hall, h]
    · rw [if_neg hall]
theorem rdD_val {b : Bool} {d : List Int} (h : (rdD b d).2 = 0) : ¬ Bad b d ∧ ¬ ((b = true ∧ 9223372036854775808 < dv d) ∨ (b = false ∧ 9223372036854775807 < dv d)) ∧ (rdD b d).1 = if b = true then -(dv d : Int) else dv d := by
  by_cases h1 : Bad b d
  · rw [rdD_word h1] at h; exact absurd h (by decide)
  · by_cases h2 : (b = true ∧ 9223372036854775808 < dv d) ∨ (b = false ∧ 9223372036854775807 < dv d)
    · rw [rdD_over h1 h2] at h; exact absurd h (by decide)
    · exact ⟨h1, h2, by rw [rdD_fine h1 h2]⟩
theorem bad_lead {b : Bool} {d : List Int} (h : ¬ Bad b d) : d ≠ [] ∧ Lead d := by
  have hne : d ≠ [] := fun h1 => h (Or.inl h1)
  refine ⟨hne, ?_⟩
  by_cases h2 : d.getD 0 0 = 48
  · right
    have h3 : ¬ 1 < d.length := fun h4 => h (Or.inr ⟨h2, Or.inl h4⟩)
    have := List.length_pos_iff.2 hne
    omega
  · exact Or.inl h2
theorem rest_neg {l : List Int} (h : neg l = true) : l = 45 :: rest l := by
  cases l with
  | nil => simp [neg] at h
  | cons x r =>
    have hx : x = 45 := by simpa [neg] using h
    unfold rest
    rw [if_pos h, hx]; rfl
theorem NumReads : punnetlaw03_NumReads.Pure := by
  intro s at_ _ _
  refine ⟨4200, ?_⟩
  unfold punnetlaw03_NumReads.f
  rw [awake03_more 4170]
  simp only [Option.bind_some, if_true]
  by_cases h5 : (s.size : Int) > 500
  · rw [if_pos h5]
  · rw [if_neg h5, num_Read_is s (by omega) 4200 (by omega), ref_Read_is s (by omega) 4200 (by omega), num_Scan_is s (by omega) at_ 4200 (by omega), ref_Scan_is s (by omega) at_ 4200 (by omega)]
    simp only [Option.bind_some, if_true]
    by_cases h0 : (readR (L s)).2 = 0
    · rw [if_pos h0]
      unfold readR at h0 ⊢
      by_cases hall : (rest (L s)).all isd = true
      · rw [if_pos hall] at h0 ⊢
        obtain ⟨hB, hO, hv⟩ := rdD_val h0
        obtain ⟨hne, hlead⟩ := bad_lead hB
        have hD := dv_of_run hall
        have hg := dg_of hD hne hlead
        rw [hv]
        cases hn : neg (L s) with
        | true =>
          rw [hn] at hB hO
          have hp : 1 ≤ dv (rest (L s)) := by
            rcases Nat.eq_zero_or_pos (dv (rest (L s))) with h | h
            · exfalso
              rw [h, dg_small (by omega)] at hg
              exact hB (Or.inr ⟨by rw [← hg]; rfl, Or.inr rfl⟩)
            · exact h
          have hO : dv (rest (L s)) ≤ 9223372036854775808 := by simp at hO; omega
          simp only [if_true]
          rw [print_neg (by omega) (by omega), show (-(dv (rest (L s)) : Int)).natAbs = dv (rest (L s)) by omega, hg]
          have e : (⟨#[45]⟩ : ByteArray) ++ strOfNums (rest (L s)) = s := L_inj (by rw [L_append, L_minus, L_strOfNums hD.bytes]; exact (rest_neg hn).symm)
          rw [e]; simp
        | false =>
          rw [hn] at hO
          have hO : dv (rest (L s)) ≤ 9223372036854775807 := by simp at hO; omega
          simp only [Bool.false_eq_true, if_false]
          rw [print_pos (by omega) (by omega), show ((dv (rest (L s)) : Nat) : Int).natAbs = dv (rest (L s)) by omega, hg]
          have e : strOfNums (rest (L s)) = s := L_inj (by rw [L_strOfNums hD.bytes]; unfold rest; rw [hn]; rfl)
          rw [e]; simp
      · rw [if_neg hall] at h0; exact absurd h0 (by decide)
    · rw [if_neg h0]
end Go.Proofs.Ytmmofckknopaaaa.Pure
