/- What the program's way to read a number out of a text comes to, for texts of at most 2000 bytes. -/
import Derived.Test.YtmmofckknopaaaaQ12
import Derived.Test.YtmmofckknopaaaaQ25
import Derived.Test.YtmmofckknopaaaaPureNumOrders
namespace Go.Proofs.Ytmmofckknopaaaa.Pure
open Go.RowKit Go.Proofs.Ytmmofckknopaaaa.Q Go.Proofs.Ytmmofckknopaaaa.Bits Go.Proofs.Ytmmofckknopaaaa.Str Go.Proofs.Ytmmofckknopaaaa.Dig Go.Proofs.YtmmofckknopaaaaW.PrintWords Go.Proofs.YtmmofckknopaaaaW.PrintLast

theorem w64 {x : Int} (h0 : -9223372036854775808 ≤ x) (h1 : x ≤ 9223372036854775807) : wrap64 x = x := by unfold wrap64; omega
theorem wu64 {x : Int} (h0 : 0 ≤ x) (h1 : x < 18446744073709551616) : IntKind.u64.wrap x = x := by rw [wrap_u64]; omega
def isd (x : Int) : Bool := decide (48 ≤ x) && decide (x ≤ 57)
/-- The digits ahead. -/
def run (l : List Int) : List Int := l.takeWhile isd
theorem run_Ds (l : List Int) : Ds (run l) := by
  intro x hx
  have := List.all_takeWhile (p := isd) (l := l)
  rw [List.all_eq_true] at this
  have h := this x hx
  simp only [isd, Bool.and_eq_true, decide_eq_true_eq] at h
  exact h
theorem run_len (l : List Int) : (run l).length ≤ l.length := by
  have := (List.takeWhile_prefix isd (l := l)).length_le
  exact this
theorem run_cons_pos {x : Int} {r : List Int} (h : isd x = true) : run (x :: r) = x :: run r := by simp [run, h]
theorem run_cons_neg {x : Int} {r : List Int} (h : isd x = false) : run (x :: r) = [] := by simp [run, h]
theorem L_drop {s : ByteArray} {i : Nat} (h : i < s.size) : (L s).drop i = bt s (i : Int) :: (L s).drop (i + 1) := by
  rw [List.drop_eq_getElem_cons (by rw [L_len]; exact h), bt_L, List.getD_eq_getElem?_getD, List.getElem?_eq_getElem (by rw [L_len]; exact h)]
  rfl
theorem L_drop_end {s : ByteArray} {i : Nat} (h : s.size ≤ i) : (L s).drop i = [] := List.drop_eq_nil_of_le (by rw [L_len]; exact h)
theorem dig_isd {s : ByteArray} {i : Nat} (h : i < s.size) : dig s i = isd (bt s i) := by unfold dig isd; simp [h]

/-- What digits behind a number come to. -/
def dvA (n : Nat) (d : List Int) : Nat := n * 10 ^ d.length + dv d
theorem dvA_cons (n : Nat) (c : Int) (d : List Int) : dvA (n * 10 + (c - 48).toNat) d = dvA n (c :: d) := by
  unfold dvA
  simp only [dv, List.length_cons, Nat.pow_succ]
  rw [Nat.add_mul, Nat.mul_assoc, Nat.mul_comm 10]; omega
theorem dvA_le (n : Nat) (d : List Int) : n ≤ dvA n d := by
  unfold dvA
  have h1 : 1 ≤ 10 ^ d.length := Nat.one_le_pow _ _ (by decide)
  have h2 : n * 1 ≤ n * 10 ^ d.length := Nat.mul_le_mul_left _ h1
  omega

theorem size_false (s : ByteArray) (hs : s.size ≤ 2000) (d : Nat) : ∀ (k i : Nat) (x : Int), i + d = s.size → d < k → ∃ m, num_size.l0 k s i x false = some (m, ((i + (run ((L s).drop i)).length : Nat) : Int), false) := by
  induction d with
  | zero =>
    intro k i x hi hk
    obtain ⟨k, rfl⟩ : ∃ m, k = m + 1 := ⟨k - 1, by omega⟩
    have hd : dig s i = false := by unfold dig; simp; omega
    refine ⟨x, ?_⟩
    simp only [num_size.l0, num_digit_is, hd, Option.bind_some]
    rw [L_drop_end (by omega)]; simp [run]
  | succ d ih =>
    intro k i x hi hk
    obtain ⟨k, rfl⟩ : ∃ m, k = m + 1 := ⟨k - 1, by omega⟩
    have hlt : i < s.size := by omega
    simp only [num_size.l0, num_digit_is, Option.bind_some]
    rw [dig_isd hlt, L_drop hlt]
    cases hd : isd (bt s i) with
    | true =>
      rw [run_cons_pos hd]
      simp only [if_true, Bool.false_eq_true, if_false]
      rw [if_pos (by omega), if_pos (by omega), w64 (by omega) (by omega), show (i : Int) + 1 = ((i + 1 : Nat) : Int) by omega]
      obtain ⟨m, hm⟩ := ih k (i + 1) (IntKind.u64.wrap (IntKind.u64.wrap (x * 10) + (bt s i - 48) % 256)) (by omega) (by omega)
      refine ⟨m, ?_⟩
      rw [hm]
      simp only [List.length_cons]
      congr 4; omega
    | false =>
      rw [run_cons_neg hd]
      exact ⟨x, by simp⟩
theorem size_true (s : ByteArray) (hs : s.size ≤ 2000) (d : Nat) : ∀ (k i n : Nat), i + d = s.size → d < k → n < 18446744073709551616 →
    ∃ m : Int, num_size.l0 k s i n true = some (m, ((i + (run ((L s).drop i)).length : Nat) : Int), decide (dvA n (run ((L s).drop i)) < 18446744073709551616)) ∧ (dvA n (run ((L s).drop i)) < 18446744073709551616 → m = dvA n (run ((L s).drop i))) := by
  induction d with
  | zero =>
    intro k i n hi hk hn
    obtain ⟨k, rfl⟩ : ∃ m, k = m + 1 := ⟨k - 1, by omega⟩
    have hd : dig s i = false := by unfold dig; simp; omega
    refine ⟨n, ?_⟩
    simp only [num_size.l0, num_digit_is, hd, Option.bind_some]
    rw [L_drop_end (by omega)]; simp [run, dvA, dv, hn]
  | succ d ih =>
    intro k i n hi hk hn
    obtain ⟨k, rfl⟩ : ∃ m, k = m + 1 := ⟨k - 1, by omega⟩
    have hlt : i < s.size := by omega
    simp only [num_size.l0, num_digit_is, Option.bind_some]
    rw [dig_isd hlt, L_drop hlt]
    cases hd : isd (bt s i) with
    | true =>
      rw [run_cons_pos hd]
      simp only [isd, Bool.and_eq_true, decide_eq_true_eq] at hd
      simp only [if_true]
      rw [if_pos (by omega), if_pos (by omega), w64 (by omega) (by omega), show (i : Int) + 1 = ((i + 1 : Nat) : Int) by omega]
      rw [show (bt s (i : Int) - 48) % 256 = bt s i - 48 by omega]
      generalize hc : bt s (i : Int) = c at hd
      by_cases hf : n * 10 + (c - 48).toNat < 18446744073709551616
      · have e1 : decide ((n : Int) ≤ (18446744073709551615 - (c - 48)) / 10) = true := decide_eq_true (by omega)
        obtain ⟨m, h1, h2⟩ := ih k (i + 1) (n * 10 + (c - 48).toNat) (by omega) (by omega) hf
        have e2 : IntKind.u64.wrap (IntKind.u64.wrap ((n : Int) * 10) + (c - 48)) = ((n * 10 + (c - 48).toNat : Nat) : Int) := by
          rw [wu64 (x := (n : Int) * 10) (by omega) (by omega), wu64 (by omega) (by omega)]; omega
        refine ⟨m, ?_, ?_⟩
        · rw [e1, e2, h1, dvA_cons]
          simp only [List.length_cons]
          congr 4; omega
        · rw [← dvA_cons]; exact h2
      · have e1 : decide ((n : Int) ≤ (18446744073709551615 - (c - 48)) / 10) = false := decide_eq_false (by omega)
        obtain ⟨m, h1⟩ := size_false s hs d k (i + 1) (IntKind.u64.wrap (IntKind.u64.wrap ((n : Int) * 10) + (c - 48))) (by omega) (by omega)
        have hbig : ¬ dvA n (c :: run ((L s).drop (i + 1))) < 18446744073709551616 := by
          rw [← dvA_cons]
          have := dvA_le (n * 10 + (c - 48).toNat) (run ((L s).drop (i + 1)))
          omega
        refine ⟨m, ?_, fun h => absurd h hbig⟩
        rw [e1, h1, decide_eq_false hbig]
        simp only [List.length_cons]
        congr 4; omega
    | false =>
      rw [run_cons_neg hd]
      exact ⟨n, by simp [dvA, dv, hn]⟩

/-- What a sign and digits are read as, and the code. -/
def rdD (neg : Bool) (d : List Int) : Int × Int :=
  if d = [] ∨ (d.getD 0 0 = 48 ∧ (1 < d.length ∨ neg = true)) then (0, 4)
  else if (neg = true ∧ 9223372036854775808 < dv d) ∨ (neg = false ∧ 9223372036854775807 < dv d) then (0, 3)
  else (if neg = true then -(dv d : Int) else dv d, 0)
/-- What stands at a place of a text that is there: whether a sign does, and the digits. -/
def neg (l : List Int) : Bool := l.getD 0 0 == 45
def ds (l : List Int) : List Int := run (if neg l = true then l.drop 1 else l)

theorem value_is (n : Nat) (b : Bool) : num_value.f (n : Int) b = some (if b = true then (wrap64 (IntKind.u64.wrap (-(n : Int))), decide (n ≤ 9223372036854775808)) else (wrap64 n, decide (n ≤ 9223372036854775807))) := by
  unfold num_value.f
  cases b
  · simp only [Bool.false_eq_true, if_false]
    have e : decide ((n : Int) ≤ 9223372036854775807) = decide (n ≤ 9223372036854775807) := by rw [decide_eq_decide]; omega
    rw [e]
  · simp only [if_true]
    have e : decide ((n : Int) ≤ 9223372036854775808) = decide (n ≤ 9223372036854775808) := by rw [decide_eq_decide]; omega
    rw [e]

theorem rdD_word {b : Bool} {d : List Int} (h : d = [] ∨ (d.getD 0 0 = 48 ∧ (1 < d.length ∨ b = true))) : rdD b d = (0, 4) := by unfold rdD; rw [if_pos h]
theorem rdD_over {b : Bool} {d : List Int} (h : ¬ (d = [] ∨ (d.getD 0 0 = 48 ∧ (1 < d.length ∨ b = true)))) (h2 : (b = true ∧ 9223372036854775808 < dv d) ∨ (b = false ∧ 9223372036854775807 < dv d)) : rdD b d = (0, 3) := by unfold rdD; rw [if_neg h, if_pos h2]
theorem rdD_fine {b : Bool} {d : List Int} (h : ¬ (d = [] ∨ (d.getD 0 0 = 48 ∧ (1 < d.length ∨ b = true)))) (h2 : ¬ ((b = true ∧ 9223372036854775808 < dv d) ∨ (b = false ∧ 9223372036854775807 < dv d))) : rdD b d = (if b = true then -(dv d : Int) else dv d, 0) := by unfold rdD; rw [if_neg h, if_neg h2]
theorem scan_j2 (s : ByteArray) (hs : s.size ≤ 2000) (k f : Nat) (hk : 2010 < k) (hf : f ≤ s.size) (b : Bool) :
    num_Scan.j2 k s f b = (let d := run ((L s).drop f); let r := rdD b d; some (if r.2 = 0 then (r.1, ((f + d.length : Nat) : Int), 0) else (0, 0, r.2))) := by
  obtain ⟨k, rfl⟩ : ∃ m, k = m + 1 + 1 := ⟨k - 2, by omega⟩
  obtain ⟨m, h1, h2⟩ := size_true s hs (s.size - f) (k + 1) f 0 (by omega) (by omega) (by omega)
  have hA : ∀ d, dvA 0 d = dv d := fun d => by simp [dvA]
  rw [hA] at h1 h2
  simp only [num_Scan.j2, num_size.f]
  have h0 : ((0 : Nat) : Int) = 0 := rfl
  rw [h0] at h1
  rw [h1]
  simp only [Option.bind_some]
  have hlen := run_len ((L s).drop f)
  rw [List.length_drop, L_len] at hlen
  have hhead : ∀ x r, run ((L s).drop f) = x :: r → f < s.size ∧ bt s (f : Int) = x := by
    intro x r hq
    by_cases hlt : f < s.size
    · refine ⟨hlt, ?_⟩
      rw [L_drop hlt] at hq
      cases hd : isd (bt s f) with
      | true => rw [run_cons_pos hd] at hq; injection hq
      | false => rw [run_cons_neg hd] at hq; cases hq
    · rw [L_drop_end (by omega)] at hq; cases hq
  generalize run ((L s).drop f) = d at *
  -- what the last step tells
  have hj3 : ∀ bad : Bool, num_Scan.j3 (k + 1) b m ((f + d.length : Nat) : Int) (decide (dv d < 18446744073709551616)) bad = some (if bad = true then (0, 0, 4) else if (b = true ∧ 9223372036854775808 < dv d) ∨ (b = false ∧ 9223372036854775807 < dv d) then (0, 0, 3) else (if b = true then -(dv d : Int) else dv d, ((f + d.length : Nat) : Int), 0)) := by
    intro bad
    simp only [num_Scan.j3]
    cases bad with
    | true => simp
    | false =>
      simp only [Bool.false_eq_true, if_false]
      by_cases hfit : dv d < 18446744073709551616
      · rw [h2 hfit, value_is, decide_eq_true hfit]
        simp only [Option.bind_some, if_true]
        cases b with
        | true =>
          simp only [if_true, decide_eq_true_eq]
          by_cases hle : dv d ≤ 9223372036854775808
          · rw [if_pos hle, if_neg (by simp; omega), wrap_u64]
            congr 2
            unfold wrap64; omega
          · rw [if_neg hle, if_pos (by simp; omega)]
        | false =>
          simp only [Bool.false_eq_true, if_false, decide_eq_true_eq]
          by_cases hle : dv d ≤ 9223372036854775807
          · rw [if_pos hle, if_neg (by simp; omega)]
            congr 2
            unfold wrap64; omega
          · rw [if_neg hle, if_pos (by simp; omega)]
      · rw [decide_eq_false hfit]
        unfold num_value.f
        cases b <;> simp <;> omega
  have hbad : (d = [] ∨ (d.getD 0 0 = 48 ∧ (1 < d.length ∨ b = true))) → num_Scan.j3 (k + 1) b m ((f + d.length : Nat) : Int) (decide (dv d < 18446744073709551616)) true = some (if (rdD b d).2 = 0 then ((rdD b d).1, ((f + d.length : Nat) : Int), 0) else (0, 0, (rdD b d).2)) := by
    intro h
    rw [hj3 true, rdD_word h]; rfl
  have hgood : ¬ (d = [] ∨ (d.getD 0 0 = 48 ∧ (1 < d.length ∨ b = true))) → num_Scan.j3 (k + 1) b m ((f + d.length : Nat) : Int) (decide (dv d < 18446744073709551616)) false = some (if (rdD b d).2 = 0 then ((rdD b d).1, ((f + d.length : Nat) : Int), 0) else (0, 0, (rdD b d).2)) := by
    intro h
    rw [hj3 false]
    simp only [Bool.false_eq_true, if_false]
    by_cases h2 : (b = true ∧ 9223372036854775808 < dv d) ∨ (b = false ∧ 9223372036854775807 < dv d)
    · rw [rdD_over h h2, if_pos h2]; rfl
    · rw [rdD_fine h h2, if_neg h2]; rfl
  show _ = some (if (rdD b d).2 = 0 then ((rdD b d).1, ((f + d.length : Nat) : Int), 0) else (0, 0, (rdD b d).2))
  cases hq : d with
  | nil =>
    rw [← hq]
    rw [if_pos (by rw [hq]; simp)]
    exact hbad (Or.inl hq)
  | cons x r =>
    obtain ⟨hlt, hb⟩ := hhead x r hq
    rw [← hq]
    have hlen2 : d.length = r.length + 1 := by rw [hq]; rfl
    have hx : d.getD 0 0 = x := by rw [hq]; rfl
    have hne : d ≠ [] := by rw [hq]; simp
    rw [if_neg (by omega), if_pos (by omega), if_pos (by omega), hb, w64 (by omega) (by omega)]
    by_cases h48 : x = 48
    · rw [if_pos h48]
      by_cases hl1 : ((f + d.length : Nat) : Int) > (f : Int) + 1
      · rw [if_pos hl1]
        exact hbad (Or.inr ⟨by omega, Or.inl (by omega)⟩)
      · rw [if_neg hl1]
        cases b with
        | true => exact hbad (Or.inr ⟨by omega, Or.inr rfl⟩)
        | false => exact hgood (by rintro (h | ⟨_, h | h⟩); exact hne h; omega; cases h)
    · rw [if_neg h48]
      exact hgood (by rintro (h | ⟨h, _⟩); exact hne h; omega)

/-- What the program reads at a place. -/
def scanR (l : List Int) (at_ : Int) : Int × Int × Int :=
  if at_ < 0 ∨ (l.length : Int) < at_ then (0, 0, 2)
  else
    let w := l.drop at_.toNat
    let r := rdD (neg w) (ds w)
    if r.2 = 0 then (r.1, at_ + (if neg w = true then 1 else 0) + (ds w).length, 0) else (0, 0, r.2)

theorem num_Scan_is (s : ByteArray) (hs : s.size ≤ 2000) (at_ : Int) (k : Nat) (hk : 2020 < k) : num_Scan.f k s at_ = some (scanR (L s) at_) := by
  obtain ⟨k, rfl⟩ : ∃ m, k = m + 1 + 1 := ⟨k - 2, by omega⟩
  unfold num_Scan.f scanR
  rw [L_len]
  by_cases h0 : at_ < 0
  · rw [if_pos h0, if_pos (Or.inl h0)]; simp [num_Scan.j0]
  · rw [if_neg h0]
    by_cases h1 : (s.size : Int) < at_
    · rw [if_pos (Or.inr h1), decide_eq_true h1]; simp [num_Scan.j0]
    · have e : decide (at_ > (s.size : Int)) = false := decide_eq_false h1
      rw [if_neg (by omega), e]
      obtain ⟨a, rfl⟩ := Int.eq_ofNat_of_zero_le (show 0 ≤ at_ by omega)
      simp only [num_Scan.j0, Bool.false_eq_true, if_false, Int.toNat_natCast]
      by_cases hlt : a < s.size
      · rw [if_pos (by omega), if_pos (by omega)]
        have hn : neg ((L s).drop a) = (bt s (a : Int) == 45) := by unfold neg; rw [L_drop hlt]; rfl
        simp only [num_Scan.j1, ds, hn]
        cases hb : (bt s (a : Int) == 45) with
        | true =>
          simp only [if_true]
          rw [w64 (by omega) (by omega), show (a : Int) + 1 = ((a + 1 : Nat) : Int) by omega, scan_j2 s hs (k) (a + 1) (by omega) (by omega) true]
          rw [List.drop_drop]
          simp
        | false =>
          simp only [Bool.false_eq_true, if_false]
          rw [scan_j2 s hs (k) a (by omega) (by omega) false]
          simp
      · rw [if_neg (by omega)]
        have hw : (L s).drop a = [] := L_drop_end (by omega)
        simp only [num_Scan.j1, Bool.false_eq_true, if_false]
        rw [scan_j2 s hs (k) a (by omega) (by omega) false]
        simp [hw, neg, ds, run, rdD]
end Go.Proofs.Ytmmofckknopaaaa.Pure
