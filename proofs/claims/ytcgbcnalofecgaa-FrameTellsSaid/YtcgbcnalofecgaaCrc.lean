/- The remainder of bits, as numbers: one turn is linear over xor, so the sum of bytes is that of one great number turned so often; a few turned bits never vanish. No condition. -/
import Derived.Laws.BitsLemmas
set_option linter.unusedSimpArgs false
namespace Go.Proofs.Ytcgbcnalofecgaa.Crc

def poly : Nat := 3988292384
def step (n : Nat) : Nat := if n % 2 = 1 then n / 2 ^^^ poly else n / 2
def steps : Nat → Nat → Nat
  | 0, n => n
  | k + 1, n => steps k (step n)

theorem xor_div2 (a b : Nat) : (a ^^^ b) / 2 = a / 2 ^^^ b / 2 := by
  apply Nat.eq_of_testBit_eq; intro i
  simp [Nat.testBit_div_two]
theorem xor_mod2 (a b : Nat) : (a ^^^ b) % 2 = (a % 2 + b % 2) % 2 := by
  have h : ∀ n : Nat, n % 2 = if n.testBit 0 then 1 else 0 := by
    intro n; rw [Nat.testBit_zero]; rcases Nat.mod_two_eq_zero_or_one n with e | e <;> simp [e]
  rw [h (a ^^^ b), h a, h b, Nat.testBit_xor]
  cases a.testBit 0 <;> cases b.testBit 0 <;> rfl

theorem xor_swap (a b c d : Nat) : (a ^^^ b) ^^^ (c ^^^ d) = (a ^^^ c) ^^^ (b ^^^ d) := by
  apply Nat.eq_of_testBit_eq; intro i
  simp only [Nat.testBit_xor]
  cases a.testBit i <;> cases b.testBit i <;> cases c.testBit i <;> cases d.testBit i <;> rfl

theorem step_xor (a b : Nat) : step (a ^^^ b) = step a ^^^ step b := by
  unfold step
  have h := xor_mod2 a b
  rw [xor_div2]
  rcases Nat.mod_two_eq_zero_or_one a with ha | ha <;> rcases Nat.mod_two_eq_zero_or_one b with hb | hb <;> rw [ha, hb] at h <;> simp only [ha, hb, h]
  · rfl
  · simp only [Nat.zero_add, Nat.reduceMod, if_true, Nat.zero_ne_one, if_false]
    exact Nat.xor_assoc ..
  · simp only [Nat.add_zero, Nat.reduceMod, if_true, Nat.zero_ne_one, if_false]
    have := xor_swap (a / 2) (b / 2) poly 0
    rw [Nat.xor_zero, Nat.xor_zero] at this
    exact this
  · simp only [Nat.reduceAdd, Nat.reduceMod, if_true, Nat.zero_ne_one, if_false]
    rw [xor_swap, Nat.xor_self, Nat.xor_zero]
theorem steps_xor (k a b : Nat) : steps k (a ^^^ b) = steps k a ^^^ steps k b := by
  induction k generalizing a b with
  | zero => rfl
  | succ k ih => simp only [steps]; rw [step_xor, ih]
theorem steps_add (j k n : Nat) : steps (j + k) n = steps k (steps j n) := by
  induction j generalizing n with
  | zero => simp [steps]
  | succ j ih => rw [show j + 1 + k = (j + k) + 1 by omega]; simp only [steps]; exact ih _
theorem step_two (m : Nat) : step (2 * m) = m := by
  unfold step; rw [if_neg (by omega)]; omega
theorem steps_shift (k m : Nat) : steps k (2 ^ k * m) = m := by
  induction k generalizing m with
  | zero => simp [steps]
  | succ k ih =>
    simp only [steps]
    rw [show 2 ^ (k + 1) * m = 2 * (2 ^ k * m) by rw [Nat.pow_succ, Nat.mul_comm (2 ^ k) 2, Nat.mul_assoc], step_two, ih]
theorem steps_zero (k : Nat) : steps k 0 = 0 := by
  have := steps_shift k 0; simpa using this
theorem step_lt {n : Nat} (h : n < 4294967296) : step n < 4294967296 := by
  unfold step
  split
  · exact Nat.xor_lt_two_pow (n := 32) (by omega) (by decide)
  · omega
theorem steps_lt (k : Nat) {n : Nat} (h : n < 4294967296) : steps k n < 4294967296 := by
  induction k generalizing n with
  | zero => exact h
  | succ k ih => exact ih (step_lt h)
theorem step_eq_zero {n : Nat} (h : n < 4294967296) (e : step n = 0) : n = 0 := by
  unfold step at e
  split at e
  · have h1 : n / 2 = poly := by
      have := congrArg (· ^^^ poly) e
      simp only [Nat.xor_assoc, Nat.xor_self, Nat.xor_zero, Nat.zero_xor] at this
      exact this
    unfold poly at h1; omega
  · omega
theorem steps_eq_zero (k : Nat) {n : Nat} (h : n < 4294967296) (e : steps k n = 0) : n = 0 := by
  induction k generalizing n with
  | zero => exact e
  | succ k ih => exact step_eq_zero h (ih (step_lt h) e)

/-- Bytes as one number, the first the lowest. -/
def num : List Nat → Nat
  | [] => 0
  | b :: l => b + 256 * num l
theorem add_xor {b m : Nat} (h : b < 256) : b + 256 * m = b ^^^ (2 ^ 8 * m) := by
  have h1 := Nat.two_pow_add_eq_or_of_lt (i := 8) (b := b) h m
  rw [Nat.add_comm, show 256 = 2 ^ 8 from rfl, h1]
  apply Nat.eq_of_testBit_eq; intro i
  rw [Nat.testBit_or, Nat.testBit_xor, Nat.testBit_two_pow_mul]
  by_cases hi : i < 8
  · have : ¬ i ≥ 8 := by omega
    simp [this]
  · have hb : b.testBit i = false := Nat.testBit_lt_two_pow (Nat.lt_of_lt_of_le h (Nat.pow_le_pow_right (n := 2) (by decide) (by omega : 8 ≤ i)))
    simp [hb]

def more (T : Nat → Nat) : Nat → List Nat → Nat
  | s, [] => s
  | s, b :: l => more T (T ((s % 256) ^^^ b) ^^^ (s / 256)) l
theorem byte_in (s b : Nat) : steps 8 ((s % 256) ^^^ b) ^^^ (s / 256) = steps 8 (s ^^^ b) := by
  have h : s = (s % 256) ^^^ (2 ^ 8 * (s / 256)) := by
    have := add_xor (b := s % 256) (m := s / 256) (by omega)
    omega
  conv => rhs; rw [h]
  rw [Nat.xor_assoc, Nat.xor_comm (2 ^ 8 * (s / 256)) b, ← Nat.xor_assoc, steps_xor 8 _ (2 ^ 8 * _), steps_shift]
theorem more_steps (T : Nat → Nat) (hT : ∀ i, i < 256 → T i = steps 8 i) (l : List Nat) (hl : ∀ b ∈ l, b < 256) (s : Nat) : more T s l = steps (8 * l.length) (s ^^^ num l) := by
  induction l generalizing s with
  | nil => simp [more, num, steps]
  | cons b l ih =>
    have hb : b < 256 := hl b (by simp)
    have hx : (s % 256) ^^^ b < 256 := Nat.xor_lt_two_pow (n := 8) (by omega) hb
    simp only [more]
    rw [hT _ hx, byte_in, ih (fun c hc => hl c (by simp [hc]))]
    simp only [num, List.length_cons]
    rw [show 8 * (l.length + 1) = 8 + 8 * l.length by omega, steps_add, add_xor hb, ← Nat.xor_assoc, steps_xor 8 (s ^^^ b), steps_shift]

/-- A byte in bit by bit: as the document does it. -/
def bitIn : Nat → Nat → Nat → Nat
  | 0, s, _ => s
  | k + 1, s, c => bitIn k (if (s + c) % 2 = 1 then s / 2 ^^^ poly else s / 2) (c / 2)
theorem bitIn_step (s c : Nat) : (if (s + c) % 2 = 1 then s / 2 ^^^ poly else s / 2) ^^^ (c / 2) = step (s ^^^ c) := by
  unfold step
  have h : ((s + c) % 2 = 1) = ((s ^^^ c) % 2 = 1) := by rw [xor_mod2]; congr 1; omega
  rw [xor_div2]
  simp only [h]
  split
  · rw [Nat.xor_assoc, Nat.xor_comm poly, ← Nat.xor_assoc]
  · rfl
theorem bitIn_steps (k s c : Nat) : bitIn k s c ^^^ (c / 2 ^ k) = steps k (s ^^^ c) := by
  induction k generalizing s c with
  | zero => simp [bitIn, steps]
  | succ k ih =>
    simp only [bitIn, steps]
    rw [← bitIn_step, ← ih, Nat.div_div_eq_div_mul, Nat.pow_succ, Nat.mul_comm]
theorem bitIn_byte (s c : Nat) (hc : c < 256) : bitIn 8 s c = steps 8 (s ^^^ c) := by
  have := bitIn_steps 8 s c
  rw [show c / 2 ^ 8 = 0 by omega, Nat.xor_zero] at this
  exact this

/-- Two sums are alike just where the difference of the texts vanishes. -/
theorem more_eq_iff (T : Nat → Nat) (hT : ∀ i, i < 256 → T i = steps 8 i) (l m : List Nat) (hl : ∀ b ∈ l, b < 256) (hm : ∀ b ∈ m, b < 256) (hlen : l.length = m.length) (s at_ w : Nat)
    (hw : w < 4294967296) (hat : at_ ≤ 8 * l.length) (hd : num m = num l ^^^ (2 ^ at_ * w)) : (more T s m = more T s l) ↔ w = 0 := by
  rw [more_steps T hT l hl, more_steps T hT m hm, ← hlen, hd, ← Nat.xor_assoc, steps_xor _ (s ^^^ num l)]
  have h : steps (8 * l.length) (2 ^ at_ * w) = steps (8 * l.length - at_) w := by
    conv => lhs; rw [show 8 * l.length = at_ + (8 * l.length - at_) by omega, steps_add, steps_shift]
  rw [h]
  constructor
  · intro e
    have h0 : steps (8 * l.length - at_) w = 0 := by
      have := congrArg (steps (8 * l.length) (s ^^^ num l) ^^^ ·) e
      simp only [← Nat.xor_assoc, Nat.xor_self, Nat.zero_xor] at this
      exact this
    exact steps_eq_zero _ hw h0
  · rintro rfl
    rw [steps_zero, Nat.xor_zero]

/-- One bit turned in a text is that bit turned in its number. -/
theorem num_set (l : List Nat) (i k : Nat) (hi : i < l.length) (hk : k < 8) (hl : ∀ b ∈ l, b < 256) :
    num (l.set i (l.getD i 0 ^^^ 2 ^ k)) = num l ^^^ 2 ^ (8 * i + k) := by
  induction l generalizing i with
  | nil => simp at hi
  | cons b l ih =>
    have hb : b < 256 := hl b (by simp)
    have hk2 : 2 ^ k < 256 := by
      have := Nat.pow_le_pow_right (n := 2) (by decide) (by omega : k ≤ 7)
      omega
    cases i with
    | zero =>
      have hx : b ^^^ 2 ^ k < 256 := Nat.xor_lt_two_pow (n := 8) hb hk2
      simp only [List.set_cons_zero, List.getD_cons_zero, num, Nat.mul_zero, Nat.zero_add]
      rw [add_xor hx, add_xor hb, Nat.xor_assoc, Nat.xor_assoc, Nat.xor_comm (2 ^ k)]
    | succ i =>
      simp only [List.set_cons_succ, List.getD_cons_succ, num]
      rw [ih i (by simpa using hi) (fun c hc => hl c (by simp [hc])), add_xor hb, add_xor hb, Nat.xor_assoc]
      congr 1
      have : 2 ^ 8 * (num l ^^^ 2 ^ (8 * i + k)) = 2 ^ 8 * num l ^^^ 2 ^ 8 * 2 ^ (8 * i + k) := by
        apply Nat.eq_of_testBit_eq; intro j
        simp only [Nat.testBit_two_pow_mul, Nat.testBit_xor]
        by_cases hj : j ≥ 8 <;> simp [hj]
      rw [this, ← Nat.pow_add, show 8 + (8 * i + k) = 8 * (i + 1) + k by omega]

/-- The turned bits up to k, within a text of n bits: as a number. -/
def part (turned k room : Nat) : Nat := turned % 2 ^ (min k room)
theorem part_succ (turned k room : Nat) : part turned (k + 1) room = if turned / 2 ^ k % 2 = 1 ∧ k < room then part turned k room ^^^ 2 ^ k else part turned k room := by
  unfold part
  by_cases hk : k < room
  · rw [show min (k + 1) room = k + 1 by omega, show min k room = k by omega]
    have hb : (turned / 2 ^ k % 2 = 1) ↔ turned.testBit k = true := by
      rw [Nat.testBit_eq_decide_div_mod_eq]; simp
    by_cases h : turned.testBit k
    · rw [if_pos ⟨hb.2 h, hk⟩]
      apply Nat.eq_of_testBit_eq; intro i
      rw [Nat.testBit_mod_two_pow, Nat.testBit_xor, Nat.testBit_mod_two_pow, Nat.testBit_two_pow]
      by_cases hi : i = k
      · subst hi; simp [h]
      · have : decide (i < k + 1) = decide (i < k) := by congr 1; apply propext; omega
        rw [this, show decide (k = i) = false by simp; omega]; simp
    · rw [if_neg (fun c => h (hb.1 c.1))]
      apply Nat.eq_of_testBit_eq; intro i
      rw [Nat.testBit_mod_two_pow, Nat.testBit_mod_two_pow]
      by_cases hi : i = k
      · subst hi; simp [h]
      · have : decide (i < k + 1) = decide (i < k) := by congr 1; apply propext; omega
        rw [this]
  · rw [if_neg (fun c => hk c.2), show min (k + 1) room = min k room by omega]
theorem shift_xor (a b c : Nat) : 2 ^ a * (b ^^^ c) = 2 ^ a * b ^^^ 2 ^ a * c := by
  apply Nat.eq_of_testBit_eq; intro j
  simp only [Nat.testBit_two_pow_mul, Nat.testBit_xor]
  by_cases hj : j ≥ a <;> simp [hj]
end Go.Proofs.Ytcgbcnalofecgaa.Crc
