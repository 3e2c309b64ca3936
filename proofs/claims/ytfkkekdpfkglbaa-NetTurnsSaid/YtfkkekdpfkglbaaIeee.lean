/- Floats that are whole numbers of up to 2^53: their sums, products, comparisons and turns into integers are exact. Conditions: as typed. -/
import Derived.Test.YtfkkekdpfkglbaaQ9
set_option linter.unusedSimpArgs false
namespace Go.Proofs.Ytfkkekdpfkglbaa.Ieee
open Go
open _root_.Ieee
open Go.Proofs.Ytfkkekdpfkglbaa.Q

/-- A magnitude and a place come to N. -/
def Mag (m : Nat) (e : Int) (N : Nat) : Prop := ∃ K : Nat, 0 ≤ e + K ∧ m * 2 ^ (e + K).toNat = N * 2 ^ K
theorem Mag.at {m : Nat} {e : Int} {N : Nat} (h : Mag m e N) (K : Nat) (hK : 0 ≤ e + K) : m * 2 ^ (e + K).toNat = N * 2 ^ K := by
  obtain ⟨J, hJ, h⟩ := h
  rcases Nat.le_total J K with hle | hle
  · obtain ⟨d, rfl⟩ : ∃ d, K = J + d := ⟨K - J, by omega⟩
    rw [show (e + ((J + d : Nat) : Int)).toNat = (e + J).toNat + d by omega, Nat.pow_add, Nat.pow_add, ← Nat.mul_assoc, h, Nat.mul_assoc]
  · obtain ⟨d, rfl⟩ : ∃ d, J = K + d := ⟨J - K, by omega⟩
    rw [show (e + ((K + d : Nat) : Int)).toNat = (e + K).toNat + d by omega, Nat.pow_add, Nat.pow_add, ← Nat.mul_assoc, ← Nat.mul_assoc] at h
    exact Nat.eq_of_mul_eq_mul_right (Nat.two_pow_pos d) h
theorem Mag.whole (N : Nat) : Mag N 0 N := ⟨0, by omega, by simp⟩
theorem Mag.zero (e : Int) : Mag 0 e 0 := ⟨(-e).toNat, by omega, by rw [Nat.zero_mul, Nat.zero_mul]⟩
theorem Mag.mul {m n : Nat} {i j : Int} {M N : Nat} (h : Mag m i M) (h' : Mag n j N) : Mag (m * n) (i + j) (M * N) := by
  obtain ⟨J, hJ, h⟩ := h
  obtain ⟨K, hK, h'⟩ := h'
  refine ⟨J + K, by omega, ?_⟩
  rw [show (i + j + ((J + K : Nat) : Int)).toNat = (i + J).toNat + (j + K).toNat by omega, Nat.pow_add, Nat.pow_add, Nat.mul_mul_mul_comm, h, h', Nat.mul_mul_mul_comm]
/-- What a word stands for. -/
def IsD (d : Datum) (n : Int) : Prop := ∃ s m e N, d = .number s m e ∧ Mag m e N ∧ n = if s then -(N : Int) else N
def Is (x : Nat) (n : Int) : Prop := x < 18446744073709551616 ∧ IsD (double.read x) n
theorem log2_bounds {m : Nat} (h : m ≠ 0) : 2 ^ m.log2 ≤ m ∧ m < 2 ^ (m.log2 + 1) := ⟨Nat.log2_self_le h, Nat.lt_log2_self⟩
theorem cut_none (way : Toward) (s : Bool) (n : Nat) : way.cut s n 0 = n := by
  cases way <;> simp [Toward.cut, Nat.mod_one]
theorem cut_exact (way : Toward) (s : Bool) (q d : Nat) (h : d ≤ (q * 2 ^ d).log2 + 2) : way.cut s (q * 2 ^ d) d = q := by
  have hp := Nat.two_pow_pos d
  have e1 : min d ((q * 2 ^ d).log2 + 2) = d := by omega
  have e2 : q * 2 ^ d % 2 ^ d = 0 := Nat.mul_mod_left ..
  have e3 : q * 2 ^ d / 2 ^ d = q := Nat.mul_div_cancel _ hp
  unfold Toward.cut
  simp only [e1, Nat.one_shiftLeft, e2, e3]
  cases way
  · have : ¬ (2 ^ d = 0) := by omega
    simp [this]
  · simp
  · simp
  · simp
theorem read_word (s : Bool) (c f : Nat) (hc : c < 2000) (hf : f < 4503599627370496) : double.read (double.word s ((c + 1) * 4503599627370496 + f)) = .number s (4503599627370496 + f) (-1074 + (c : Int)) := by
  have hw : double.signWeight = 9223372036854775808 := by decide
  have hb : double.binade = 4503599627370496 := by decide
  have hi : double.infRung = 9218868437227405312 := by decide
  have hl : double.leastPlace = -1074 := by decide
  unfold Format.read Format.word
  rw [hw, hb, hi, hl]
  have key : ∀ w : Nat, w % 9223372036854775808 = (c + 1) * 4503599627370496 + f → (w / 9223372036854775808 % 2 == 1) = s →
      (let neg := w / 9223372036854775808 % 2 == 1
       let rung := w % 9223372036854775808
       if rung < 4503599627370496 then Datum.number neg rung (-1074)
       else if rung < 9218868437227405312 then .number neg (4503599627370496 + rung % 4503599627370496) (-1074 + (rung / 4503599627370496 - 1 : Nat))
       else if rung = 9218868437227405312 then .infinity neg else .nan neg (rung - 9218868437227405312)) = .number s (4503599627370496 + f) (-1074 + (c : Int)) := by
    intro w h1 h2
    dsimp only
    rw [h1, h2, if_neg (by omega), if_pos (by omega), show ((c + 1) * 4503599627370496 + f) % 4503599627370496 = f by omega, show ((c + 1) * 4503599627370496 + f) / 4503599627370496 - 1 = c by omega]
  cases s
  · exact key _ (by rw [if_neg (by simp)]; omega) (by rw [if_neg (by simp)]; rw [beq_eq_false_iff_ne]; omega)
  · exact key _ (by rw [if_pos rfl]; omega) (by rw [if_pos rfl]; rw [beq_iff_eq]; omega)
theorem read_zero (s : Bool) : double.read (double.word s 0) = .number s 0 (-1074) := by cases s <;> decide
theorem rung_eq {B : Nat} (hB : B ≤ 53) {f : Nat} (hf : f < 4503599627370496) : min ((((B : Int) - 52) - (-1074)).toNat * 4503599627370496 + (4503599627370496 + f)) 9218868437227405312 = ((B + 1022) + 1) * 4503599627370496 + f := by
  have h : (((B : Int) - 52) - (-1074)).toNat = B + 1022 := by omega
  rw [h]
  omega
theorem place_eq (B : Nat) : (-1074 + ((B + 1022 : Nat) : Int) + ((2000 : Nat) : Int)).toNat = (((B : Int) - 52) + ((2000 : Nat) : Int)).toNat := by omega
/-- Written and read again, it is the same number. -/
theorem read_nearest (s : Bool) {m : Nat} {e : Int} {N : Nat} (h : Mag m e N) (hN : N ≤ 9007199254740992) : ∃ m' e', double.read (double.nearest s m e) = .number s m' e' ∧ Mag m' e' N := by
  by_cases hm : m = 0
  · subst hm
    have hN0 : N = 0 := by
      obtain ⟨K, _, h⟩ := h
      rw [Nat.zero_mul] at h
      rcases Nat.mul_eq_zero.1 h.symm with h | h
      · exact h
      · exact absurd h (Nat.ne_of_gt (Nat.two_pow_pos K))
    subst hN0
    refine ⟨0, -1074, ?_, Mag.zero _⟩
    unfold Format.nearest
    rw [if_pos rfl]
    exact read_zero s
  · have hN0 : N ≠ 0 := by
      rintro rfl
      obtain ⟨K, _, h⟩ := h
      rw [Nat.zero_mul] at h
      rcases Nat.mul_eq_zero.1 h with h | h
      · exact hm h
      · exact absurd h (Nat.ne_of_gt (Nat.two_pow_pos _))
    obtain ⟨hL1, hL2⟩ := log2_bounds hm
    obtain ⟨hB1, hB2⟩ := log2_bounds hN0
    generalize hLd : m.log2 = L at hL1 hL2
    generalize hBd : N.log2 = B at hB1 hB2
    have hB53 : B ≤ 53 := by
      rcases Nat.lt_or_ge 53 B with hh | hh
      · have := Nat.pow_le_pow_right (n := 2) (by decide) (show 54 ≤ B from hh)
        omega
      · exact hh
    -- the place of the highest digit
    have hLB : e + L = B := by
      have hK := h.at (2000 + (-e).toNat) (by omega)
      generalize hJ : (e + ((2000 + (-e).toNat : Nat) : Int)).toNat = J at hK
      have h1 : 2 ^ (L + J) < 2 ^ (B + 1 + (2000 + (-e).toNat)) := by
        rw [Nat.pow_add, Nat.pow_add 2 (B + 1)]
        calc 2 ^ L * 2 ^ J ≤ m * 2 ^ J := Nat.mul_le_mul_right _ hL1
          _ = N * 2 ^ (2000 + (-e).toNat) := hK
          _ < 2 ^ (B + 1) * 2 ^ (2000 + (-e).toNat) := Nat.mul_lt_mul_of_pos_right hB2 (Nat.two_pow_pos _)
      have h2 : 2 ^ (B + (2000 + (-e).toNat)) < 2 ^ (L + 1 + J) := by
        rw [Nat.pow_add, Nat.pow_add 2 (L + 1)]
        calc 2 ^ B * 2 ^ (2000 + (-e).toNat) ≤ N * 2 ^ (2000 + (-e).toNat) := Nat.mul_le_mul_right _ hB1
          _ = m * 2 ^ J := hK.symm
          _ < 2 ^ (L + 1) * 2 ^ J := Nat.mul_lt_mul_of_pos_right hL2 (Nat.two_pow_pos _)
      have h3 := (Nat.pow_lt_pow_iff_right (by decide)).1 h1
      have h4 := (Nat.pow_lt_pow_iff_right (by decide)).1 h2
      omega
    have hlast : max (e + (L : Int) - 52) (-1074) = (B : Int) - 52 := by omega
    -- the digits that are kept
    obtain ⟨Q, hQ, hQ1, hQ2⟩ : ∃ Q : Nat, (∀ K : Nat, 0 ≤ ((B : Int) - 52) + K → Q * 2 ^ (((B : Int) - 52) + K).toNat = N * 2 ^ K) ∧ 4503599627370496 ≤ Q ∧ Q < 9007199254740992 := by
      by_cases h53 : B = 53
      · subst h53
        refine ⟨4503599627370496, ?_, by omega, by omega⟩
        intro K hK
        have : N = 9007199254740992 := by omega
        rw [this, show (((53 : Nat) : Int) - 52 + K).toNat = 1 + K by omega, Nat.pow_add]
        omega
      · refine ⟨N * 2 ^ (52 - B), ?_, ?_, ?_⟩
        · intro K hK
          rw [Nat.mul_assoc, ← Nat.pow_add]
          congr 2
          omega
        · calc 4503599627370496 = 2 ^ B * 2 ^ (52 - B) := by rw [← Nat.pow_add, show B + (52 - B) = 52 by omega]
            _ ≤ N * 2 ^ (52 - B) := Nat.mul_le_mul_right _ hB1
        · calc N * 2 ^ (52 - B) < 2 ^ (B + 1) * 2 ^ (52 - B) := Nat.mul_lt_mul_of_pos_right hB2 (Nat.two_pow_pos _)
            _ = 9007199254740992 := by rw [← Nat.pow_add, show B + 1 + (52 - B) = 53 by omega]
    have hkept : Toward.even.cut s (m <<< (e - ((B : Int) - 52)).toNat) (((B : Int) - 52) - e).toNat = Q := by
      have hK1 := h.at (3000 + (-e).toNat) (by omega)
      have hK2 := hQ (3000 + (-e).toNat) (by omega)
      by_cases hle : (B : Int) - 52 ≤ e
      · rw [show (((B : Int) - 52) - e).toNat = 0 by omega, cut_none, Nat.shiftLeft_eq]
        have : m * 2 ^ (e - ((B : Int) - 52)).toNat * 2 ^ (((B : Int) - 52) + ((3000 + (-e).toNat : Nat) : Int)).toNat = Q * 2 ^ (((B : Int) - 52) + ((3000 + (-e).toNat : Nat) : Int)).toNat := by
          rw [hK2, ← hK1, Nat.mul_assoc, ← Nat.pow_add]
          congr 2
          omega
        exact Nat.eq_of_mul_eq_mul_right (Nat.two_pow_pos _) this
      · rw [show (e - ((B : Int) - 52)).toNat = 0 by omega, Nat.shiftLeft_zero]
        have hmq : m = Q * 2 ^ (((B : Int) - 52) - e).toNat := by
          have : m * 2 ^ (e + ((3000 + (-e).toNat : Nat) : Int)).toNat = Q * 2 ^ (((B : Int) - 52) - e).toNat * 2 ^ (e + ((3000 + (-e).toNat : Nat) : Int)).toNat := by
            rw [hK1, ← hK2, Nat.mul_assoc, ← Nat.pow_add]
            congr 2
            omega
          exact Nat.eq_of_mul_eq_mul_right (Nat.two_pow_pos _) this
        rw [hmq]
        exact cut_exact _ _ _ _ (by rw [← hmq, hLd]; omega)
    obtain ⟨f, rfl⟩ : ∃ f, Q = 4503599627370496 + f := ⟨Q - 4503599627370496, by omega⟩
    refine ⟨4503599627370496 + f, -1074 + ((B + 1022 : Nat) : Int), ?_, ⟨2000, by omega, ?_⟩⟩
    · unfold Format.nearest
      rw [if_neg hm, hLd, show double.leastPlace = -1074 by decide, show double.binade = 4503599627370496 by decide, show double.infRung = 9218868437227405312 by decide, show ((double.fractionBits : Nat) : Int) = 52 by decide]
      dsimp only
      rw [hlast, hkept]
      have hf : f < 4503599627370496 := by clear hQ hkept hB1 hB2 hL1 hL2; omega
      have hr := rung_eq hB53 hf
      rw [hr]
      exact read_word s (B + 1022) f (by clear hQ hkept hB1 hB2 hL1 hL2 hr; omega) hf
    · have := hQ 2000 (by omega)
      rw [place_eq]
      exact this
theorem word_fits (s : Bool) (m : Nat) (e : Int) : double.nearest s m e < 18446744073709551616 := double.nearest_lt s m e
theorem write_is (s : Bool) {m : Nat} {e : Int} {N : Nat} (h : Mag m e N) (hN : N ≤ 9007199254740992) : Is (double.nearest s m e) (if s then -(N : Int) else N) := by
  obtain ⟨m', e', h1, h2⟩ := read_nearest s h hN
  exact ⟨word_fits s m e, s, m', e', N, h1, h2, rfl⟩
theorem is_int {n : Int} (h0 : -9007199254740992 ≤ n) (h1 : n ≤ 9007199254740992) : Is (floatOfInt .f64 n) n := by
  have h := write_is (decide (n < 0)) (Mag.whole n.natAbs) (by omega)
  have e : (if decide (n < 0) = true then -((n.natAbs : Nat) : Int) else ((n.natAbs : Nat) : Int)) = n := by
    by_cases c : n < 0
    · rw [if_pos (by simpa using c)]; omega
    · rw [if_neg (by simpa using c)]; omega
  rw [e] at h
  exact h
theorem signed_scale (s : Bool) (m a b : Nat) : signed s m (a + b) = signed s m a * ((2 ^ b : Nat) : Int) := by
  unfold signed
  rw [Nat.shiftLeft_eq, Nat.shiftLeft_eq, Nat.pow_add, ← Nat.mul_assoc]
  cases s
  · simp
  · simp [Int.neg_mul]
theorem compare_scale {a b c : Int} (hc : 0 < c) : compare (a * c) (b * c) = compare a b := by
  have h1 : (a * c < b * c) = (a < b) := by
    apply propext
    exact ⟨fun h => Int.lt_of_mul_lt_mul_right h (Int.le_of_lt hc), fun h => Int.mul_lt_mul_of_pos_right h hc⟩
  have h2 : (a * c = b * c) = (a = b) := by
    apply propext
    exact ⟨fun h => Int.eq_of_mul_eq_mul_right (by omega) h, fun h => by rw [h]⟩
  show compareOfLessAndEq (a * c) (b * c) = compareOfLessAndEq a b
  unfold compareOfLessAndEq
  simp only [h1, h2]
theorem order_num {x y : Nat} {s t : Bool} {m n : Nat} {i j : Int} (hx : double.read x = .number s m i) (hy : double.read y = .number t n j) (K : Nat) (h1 : 0 ≤ i + K) (h2 : 0 ≤ j + K) :
    double.order x y = some (compare (signed s m (i + K).toNat) (signed t n (j + K).toNat)) := by
  unfold Format.order
  rw [hx, hy]
  show some (compare (signed s m (i - min i j).toNat) (signed t n (j - min i j).toNat)) = _
  have e1 : (i + K).toNat = (i - min i j).toNat + (min i j + K).toNat := by omega
  have e2 : (j + K).toNat = (j - min i j).toNat + (min i j + K).toNat := by omega
  rw [e1, e2, signed_scale, signed_scale, compare_scale (by have := Nat.two_pow_pos (min i j + K).toNat; omega)]
theorem signed_mag {m : Nat} {e : Int} {N : Nat} (h : Mag m e N) (s : Bool) (K : Nat) (hK : 0 ≤ e + K) : signed s m (e + K).toNat = (if s then -(N : Int) else N) * ((2 ^ K : Nat) : Int) := by
  have := h.at K hK
  unfold signed
  rw [Nat.shiftLeft_eq, this]
  cases s
  · simp
  · simp [Int.neg_mul]
theorem is_order {x y : Nat} {a b : Int} (hx : Is x a) (hy : Is y b) : double.order x y = some (compare a b) := by
  obtain ⟨_, s, m, i, M, rx, mx, rfl⟩ := hx
  obtain ⟨_, t, n, j, N, ry, my, rfl⟩ := hy
  have h1 : 0 ≤ i + (((-i).toNat + (-j).toNat : Nat) : Int) := by omega
  have h2 : 0 ≤ j + (((-i).toNat + (-j).toNat : Nat) : Int) := by omega
  rw [order_num rx ry _ h1 h2, signed_mag mx s _ h1, signed_mag my t _ h2, compare_scale (by have := Nat.two_pow_pos ((-i).toNat + (-j).toNat); omega)]
theorem beq_cmp (a b : Int) : ((some (compare a b) : Option Ordering) == some .eq) = decide (a = b) := by
  show ((some (compareOfLessAndEq a b) : Option Ordering) == some .eq) = _
  unfold compareOfLessAndEq
  by_cases h : a < b
  · have : ¬ a = b := by omega
    simp [h, this]
  · by_cases h2 : a = b
    · simp [h2]
    · simp [h, h2]
theorem leq_cmp (a b : Int) : ((some (compare a b) : Option Ordering) == some .lt || (some (compare a b) : Option Ordering) == some .eq) = decide (a ≤ b) := by
  show ((some (compareOfLessAndEq a b) : Option Ordering) == some .lt || (some (compareOfLessAndEq a b) : Option Ordering) == some .eq) = _
  unfold compareOfLessAndEq
  by_cases h : a < b
  · have : a ≤ b := by omega
    simp [h, this]
  · by_cases h2 : a = b
    · simp [h2]
    · have : ¬ a ≤ b := by omega
      simp [h, h2, this]
theorem geq_cmp (a b : Int) : ((some (compare a b) : Option Ordering) == some .gt || (some (compare a b) : Option Ordering) == some .eq) = decide (b ≤ a) := by
  show ((some (compareOfLessAndEq a b) : Option Ordering) == some .gt || (some (compareOfLessAndEq a b) : Option Ordering) == some .eq) = _
  unfold compareOfLessAndEq
  by_cases h : a < b
  · have : ¬ b ≤ a := by omega
    simp [h, this]
  · by_cases h2 : a = b
    · simp [h2]
    · have : b ≤ a := by omega
      simp [h, h2, this]
theorem is_eq {x y : Nat} {a b : Int} (hx : Is x a) (hy : Is y b) : (FloatKind.f64.format.order x y == some Ordering.eq) = decide (a = b) := by
  show (double.order x y == some Ordering.eq) = _
  rw [is_order hx hy, beq_cmp]
theorem sum_total {s t : Bool} {m n : Nat} {i j : Int} {M N : Nat} (mx : Mag m i M) (my : Mag n j N) :
    Mag (signed s m (i - min i j).toNat + signed t n (j - min i j).toNat).natAbs (min i j) ((if s then -(M : Int) else M) + (if t then -(N : Int) else N)).natAbs ∧
    ((signed s m (i - min i j).toNat + signed t n (j - min i j).toNat < 0) ↔ ((if s then -(M : Int) else M) + (if t then -(N : Int) else N) < 0)) ∧
    ((signed s m (i - min i j).toNat + signed t n (j - min i j).toNat = 0) ↔ ((if s then -(M : Int) else M) + (if t then -(N : Int) else N) = 0)) := by
  have h1 : 0 ≤ i + (((-i).toNat + (-j).toNat : Nat) : Int) := by omega
  have h2 : 0 ≤ j + (((-i).toNat + (-j).toNat : Nat) : Int) := by omega
  have e1 := signed_mag mx s _ h1
  have e2 := signed_mag my t _ h2
  have hb : 0 ≤ min i j + (((-i).toNat + (-j).toNat : Nat) : Int) := by omega
  generalize (-i).toNat + (-j).toNat = K at *
  rw [show (i + K).toNat = (i - min i j).toNat + (min i j + K).toNat by omega, signed_scale] at e1
  rw [show (j + K).toNat = (j - min i j).toNat + (min i j + K).toNat by omega, signed_scale] at e2
  generalize signed s m (i - min i j).toNat = P at *
  generalize signed t n (j - min i j).toNat = R at *
  generalize (if s then -(M : Int) else M) = a at *
  generalize (if t then -(N : Int) else N) = b at *
  have hsum : (P + R) * ((2 ^ (min i j + K).toNat : Nat) : Int) = (a + b) * ((2 ^ K : Nat) : Int) := by rw [Int.add_mul, Int.add_mul, e1, e2]
  have p1 : (0 : Int) < ((2 ^ (min i j + K).toNat : Nat) : Int) := by have := Nat.two_pow_pos (min i j + K).toNat; omega
  have p2 : (0 : Int) < ((2 ^ K : Nat) : Int) := by have := Nat.two_pow_pos K; omega
  refine ⟨⟨K, hb, ?_⟩, ?_, ?_⟩
  · have := congrArg Int.natAbs hsum
    rw [Int.natAbs_mul, Int.natAbs_mul, Int.natAbs_natCast, Int.natAbs_natCast] at this
    exact this
  · constructor
    · intro h
      have : (a + b) * ((2 ^ K : Nat) : Int) < 0 := by rw [← hsum]; exact Int.mul_neg_of_neg_of_pos h p1
      rcases Int.lt_or_le (a + b) 0 with h3 | h3
      · exact h3
      · exact absurd this (Int.not_lt.2 (Int.mul_nonneg h3 (Int.le_of_lt p2)))
    · intro h
      have : (P + R) * ((2 ^ (min i j + K).toNat : Nat) : Int) < 0 := by rw [hsum]; exact Int.mul_neg_of_neg_of_pos h p2
      rcases Int.lt_or_le (P + R) 0 with h3 | h3
      · exact h3
      · exact absurd this (Int.not_lt.2 (Int.mul_nonneg h3 (Int.le_of_lt p1)))
  · constructor
    · intro h
      rw [h, Int.zero_mul] at hsum
      rcases Int.mul_eq_zero.1 hsum.symm with h3 | h3
      · exact h3
      · omega
    · intro h
      rw [h, Int.zero_mul] at hsum
      rcases Int.mul_eq_zero.1 hsum with h3 | h3
      · exact h3
      · omega
theorem sum_is {d1 d2 : Datum} {a b : Int} (hx : IsD d1 a) (hy : IsD d2 b) (h0 : -9007199254740992 ≤ a + b) (h1 : a + b ≤ 9007199254740992) : ∃ r, (d1.sum d2).map double.write = some r ∧ Is r (a + b) := by
  obtain ⟨s, m, i, M, rfl, mx, rfl⟩ := hx
  obtain ⟨t, n, j, N, rfl, my, rfl⟩ := hy
  obtain ⟨q1, q2, q3⟩ := sum_total (s := s) (t := t) mx my
  refine ⟨_, rfl, ?_⟩
  show Is (double.nearest _ _ _) _
  generalize signed s m (i - min i j).toNat + signed t n (j - min i j).toNat = T at *
  generalize (if s then -(M : Int) else M) + (if t then -(N : Int) else N) = c at *
  have h := write_is (if T = 0 then s && t else decide (T < 0)) q1 (by omega)
  have e : (if (if T = 0 then s && t else decide (T < 0)) = true then -((c.natAbs : Nat) : Int) else ((c.natAbs : Nat) : Int)) = c := by
    by_cases h0 : T = 0
    · have := q3.1 h0
      subst this
      simp
    · rw [if_neg h0]
      by_cases h2 : T < 0
      · have := q2.1 h2
        rw [if_pos (by simpa using h2)]; omega
      · have : ¬ c < 0 := fun hc => h2 (q2.2 hc)
        rw [if_neg (by simpa using h2)]; omega
  rw [e] at h
  exact h
theorem opp_is {d : Datum} {a : Int} (h : IsD d a) : IsD d.opposite (-a) := by
  obtain ⟨s, m, i, M, rfl, mx, rfl⟩ := h
  refine ⟨!s, m, i, M, rfl, mx, ?_⟩
  cases s <;> simp
theorem is_add {x y : Nat} {a b : Int} (hx : Is x a) (hy : Is y b) (h0 : -9007199254740992 ≤ a + b) (h1 : a + b ≤ 9007199254740992) : ∃ r, floatBits .add .f64 x y = some r ∧ Is r (a + b) := sum_is hx.2 hy.2 h0 h1
theorem is_sub {x y : Nat} {a b : Int} (hx : Is x a) (hy : Is y b) (h0 : -9007199254740992 ≤ a - b) (h1 : a - b ≤ 9007199254740992) : ∃ r, floatBits .sub .f64 x y = some r ∧ Is r (a - b) := by
  have := sum_is hx.2 (opp_is hy.2) (by omega) (by omega)
  rwa [← Int.sub_eq_add_neg] at this
theorem is_mul {x y : Nat} {a b : Int} (hx : Is x a) (hy : Is y b) (h0 : -9007199254740992 ≤ a * b) (h1 : a * b ≤ 9007199254740992) : ∃ r, floatBits .mul .f64 x y = some r ∧ Is r (a * b) := by
  obtain ⟨_, s, m, i, M, rx, mx, rfl⟩ := hx
  obtain ⟨_, t, n, j, N, ry, my, rfl⟩ := hy
  refine ⟨double.nearest (s ^^ t) (m * n) (i + j), ?_, ?_⟩
  · show double.mul x y = _
    unfold Format.mul
    rw [rx, ry]
    rfl
  · have e : ((if s then -(M : Int) else M) * (if t then -(N : Int) else N)) = (if (s ^^ t) = true then -((M * N : Nat) : Int) else ((M * N : Nat) : Int)) := by
      cases s <;> cases t <;> simp [Int.neg_mul, Int.mul_neg]
    rw [e] at h0 h1 ⊢
    exact write_is (s ^^ t) (mx.mul my) (by cases s <;> cases t <;> simp at h0 h1 <;> omega)
theorem xor_top {x : Nat} (h : x < 9223372036854775808) : x ^^^ 9223372036854775808 = 9223372036854775808 + x := by
  have h1 := Nat.two_pow_add_eq_or_of_lt (i := 63) (b := x) h 1
  rw [Nat.mul_one] at h1
  show x ^^^ 2 ^ 63 = 2 ^ 63 + x
  rw [h1]
  apply Nat.eq_of_testBit_eq; intro i
  rw [Nat.testBit_or, Nat.testBit_xor]
  by_cases hi : i = 63
  · subst hi
    have : x.testBit 63 = false := Nat.testBit_lt_two_pow h
    simp [this]
  · have : (2 ^ 63).testBit i = false := by rw [Nat.testBit_two_pow]; simp; omega
    simp only [this, Bool.xor_false, Bool.false_or]
theorem neg_word {x : Nat} (h : x < 18446744073709551616) : (x < 9223372036854775808 ∧ Go.Op.negFloat .f64 x = 9223372036854775808 + x) ∨ (9223372036854775808 ≤ x ∧ Go.Op.negFloat .f64 x = x - 9223372036854775808) := by
  have e : Go.Op.negFloat .f64 x = x ^^^ 9223372036854775808 := rfl
  rw [e]
  by_cases hx : x < 9223372036854775808
  · exact .inl ⟨hx, xor_top hx⟩
  · right
    refine ⟨by omega, ?_⟩
    obtain ⟨y, rfl⟩ : ∃ y, x = 9223372036854775808 + y := ⟨x - 9223372036854775808, by omega⟩
    rw [← xor_top (show y < 9223372036854775808 by omega), Nat.xor_assoc, Nat.xor_self, Nat.xor_zero, xor_top (by omega)]
    omega
theorem read_neg {x : Nat} (h : x < 18446744073709551616) : double.read (Go.Op.negFloat .f64 x) = (double.read x).opposite := by
  have hw : double.signWeight = 9223372036854775808 := by decide
  unfold Format.read
  rw [hw]
  have key : ∀ (a b : Nat), a % 9223372036854775808 = b % 9223372036854775808 → (a / 9223372036854775808 % 2 == 1) = !(b / 9223372036854775808 % 2 == 1) →
      (let neg := a / 9223372036854775808 % 2 == 1
       let rung := a % 9223372036854775808
       if rung < double.binade then Datum.number neg rung double.leastPlace
       else if rung < double.infRung then .number neg (double.binade + rung % double.binade) (double.leastPlace + (rung / double.binade - 1 : Nat))
       else if rung = double.infRung then .infinity neg else .nan neg (rung - double.infRung)) =
      (let neg := b / 9223372036854775808 % 2 == 1
       let rung := b % 9223372036854775808
       if rung < double.binade then Datum.number neg rung double.leastPlace
       else if rung < double.infRung then .number neg (double.binade + rung % double.binade) (double.leastPlace + (rung / double.binade - 1 : Nat))
       else if rung = double.infRung then .infinity neg else .nan neg (rung - double.infRung)).opposite := by
    intro a b h1 h2
    dsimp only
    rw [h1, h2]
    generalize b % 9223372036854775808 = r
    generalize (b / 9223372036854775808 % 2 == 1) = z
    by_cases c1 : r < double.binade
    · rw [if_pos c1, if_pos c1]; rfl
    · rw [if_neg c1, if_neg c1]
      by_cases c2 : r < double.infRung
      · rw [if_pos c2, if_pos c2]; rfl
      · rw [if_neg c2, if_neg c2]
        by_cases c3 : r = double.infRung
        · rw [if_pos c3, if_pos c3]; rfl
        · rw [if_neg c3, if_neg c3]; rfl
  rcases neg_word h with ⟨h1, h2⟩ | ⟨h1, h2⟩
  · rw [h2]
    exact key _ _ (by omega) (by rw [show (9223372036854775808 + x) / 9223372036854775808 % 2 = 1 by omega, show x / 9223372036854775808 % 2 = 0 by omega]; rfl)
  · rw [h2]
    exact key _ _ (by omega) (by rw [show (x - 9223372036854775808) / 9223372036854775808 % 2 = 0 by omega, show x / 9223372036854775808 % 2 = 1 by omega]; rfl)
theorem is_neg {x : Nat} {a : Int} (h : Is x a) : Is (Go.Op.negFloat .f64 x) (-a) := by
  refine ⟨?_, ?_⟩
  · rcases neg_word h.1 with ⟨_, h2⟩ | ⟨_, h2⟩
    · rw [h2]; omega
    · rw [h2]; have := h.1; omega
  · rw [read_neg h.1]
    exact opp_is h.2
/-- What is left of a magnitude, cut towards zero. -/
def cutZ (m : Nat) (e : Int) : Nat := Toward.zero.cut false (m <<< e.toNat) (-e).toNat
theorem cut_zero (s : Bool) (m : Nat) (e : Int) : Toward.zero.cut s (m <<< e.toNat) (-e).toNat = cutZ m e := by
  unfold cutZ Toward.cut
  rfl
theorem cutZ_mag {m : Nat} {e : Int} {N : Nat} (h : Mag m e N) : cutZ m e = N := by
  have hK := h.at (-e).toNat (by omega)
  unfold cutZ
  by_cases he : 0 ≤ e
  · rw [show (-e).toNat = 0 by omega] at hK ⊢
    rw [cut_none, Nat.shiftLeft_eq]
    simpa using hK
  · rw [show (e + (((-e).toNat : Nat) : Int)).toNat = 0 by omega, Nat.pow_zero, Nat.mul_one] at hK
    rw [show e.toNat = 0 by omega, Nat.shiftLeft_zero, hK]
    by_cases hN : N = 0
    · subst hN
      simp [Toward.cut]
    · refine cut_exact _ _ _ _ ?_
      have h1 : 2 ^ (-e).toNat ≤ N * 2 ^ (-e).toNat := Nat.le_mul_of_pos_left _ (by omega)
      have h2 : (-e).toNat ≤ (N * 2 ^ (-e).toNat).log2 := (Nat.le_log2 (by have := Nat.two_pow_pos (-e).toNat; omega)).2 h1
      omega
theorem cutZ_le (m : Nat) (e : Int) (K : Nat) (hK : 0 ≤ e + K) : cutZ m e * 2 ^ K ≤ m * 2 ^ (e + K).toNat := by
  unfold cutZ
  by_cases he : 0 ≤ e
  · rw [show (-e).toNat = 0 by omega, cut_none, Nat.shiftLeft_eq, Nat.mul_assoc, ← Nat.pow_add, show e.toNat + K = (e + K).toNat by omega]
    exact Nat.le_refl _
  · rw [show e.toNat = 0 by omega, Nat.shiftLeft_zero]
    unfold Toward.cut
    simp only [Nat.one_shiftLeft, Bool.toNat_false, Nat.add_zero]
    obtain ⟨d, hd⟩ : ∃ d, (-e).toNat = d := ⟨_, rfl⟩
    rw [hd]
    have hKd : K = d + (e + K).toNat := by omega
    by_cases hm : d ≤ m.log2 + 2
    · rw [show min d (m.log2 + 2) = d by omega]
      conv => lhs; rw [hKd, Nat.pow_add, ← Nat.mul_assoc]
      exact Nat.mul_le_mul_right _ (Nat.div_mul_le_self m (2 ^ d))
    · rw [show min d (m.log2 + 2) = m.log2 + 2 by omega]
      have : m / 2 ^ (m.log2 + 2) = 0 := by
        apply Nat.div_eq_of_lt
        have h1 : m < 2 ^ (m.log2 + 1) := Nat.lt_log2_self
        have h2 : 2 ^ (m.log2 + 1) ≤ 2 ^ (m.log2 + 2) := Nat.pow_le_pow_right (by decide) (by omega)
        omega
      rw [this, Nat.zero_mul]
      exact Nat.zero_le _
theorem toInt_num (s : Bool) (m : Nat) (e : Int) : (Datum.number s m e).toInt .zero = some (if s then -(cutZ m e : Int) else cutZ m e) := by
  show some (signed s (Toward.zero.cut s (m <<< e.toNat) (-e).toNat) 0) = _
  rw [cut_zero]
  unfold signed
  rw [Nat.shiftLeft_zero]
theorem f2i_num {x : Nat} {s : Bool} {m : Nat} {e : Int} (h : double.read x = .number s m e) (hc : cutZ m e ≤ 9007199254740992) : f2iOk x = true ∧ f2i x = if s then -(cutZ m e : Int) else cutZ m e := by
  have hd : (FloatKind.f64.decode x).toInt .zero = some (if s then -(cutZ m e : Int) else cutZ m e) := by
    show (double.read x).toInt .zero = _
    rw [h, toInt_num]
  have hv : floatToIntVal .f64 x .i64 = some (if s then -(cutZ m e : Int) else cutZ m e) := by
    unfold floatToIntVal
    rw [hd]
    dsimp only
    have e0 : IntKind.min .i64 = -9223372036854775808 := by decide
    have e1 : IntKind.max .i64 = 9223372036854775807 := by decide
    rw [e0, e1, if_pos]
    cases s
    · simp; omega
    · simp; omega
  unfold f2iOk f2i
  rw [hv]
  exact ⟨rfl, rfl⟩
theorem is_f2i {x : Nat} {n : Int} (h : Is x n) (h0 : -9007199254740992 ≤ n) (h1 : n ≤ 9007199254740992) : f2iOk x = true ∧ f2i x = n := by
  obtain ⟨_, s, m, e, N, rx, mx, rfl⟩ := h
  have hc := cutZ_mag mx
  have := f2i_num rx (by rw [hc]; cases s <;> simp at h0 h1 <;> omega)
  rw [hc] at this
  exact this
end Go.Proofs.Ytfkkekdpfkglbaa.Ieee
