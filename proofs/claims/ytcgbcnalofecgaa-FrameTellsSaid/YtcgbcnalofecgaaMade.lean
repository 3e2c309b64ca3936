/- Sums by the made table, as remainders of one great number; bits that are turned within 32 in a row. Conditions: bytes lie within their kind, places in the text. -/
import Derived.Test.YtcgbcnalofecgaaQ5
import Derived.Test.YtcgbcnalofecgaaSum
import Derived.Test.YtcgbcnalofecgaaCrc
namespace Go.Proofs.Ytcgbcnalofecgaa.Made
open Go.RowKit Go.Proofs.Ytcgbcnalofecgaa.Q Go.Proofs.Ytcgbcnalofecgaa.Sum Go.Proofs.YtcgbcnalofecgaaW.PrintWords Go.Proofs.YtcgbcnalofecgaaW.PrintLast Go.Proofs.YtcgbcnalofecgaaW.PrintMore

theorem rsteps_is (k : Nat) : ∀ n, rsteps k n = Crc.steps k n := by
  induction k with
  | zero => intro n; rfl
  | succ k ih => intro n; exact ih _
def nats (l : List Int) : List Nat := l.map Int.toNat
theorem nats_len (l : List Int) : (nats l).length = l.length := by simp [nats]
theorem nats_lt {l : List Int} (h : Bytes l) : ∀ b ∈ nats l, b < 256 := by
  intro b hb
  obtain ⟨x, hx, rfl⟩ := List.mem_map.1 hb
  have := h x hx
  omega
theorem made_rd {m : Nat} (h : m < 256) : rd madeTab.l (m : Int) = ((Crc.steps 8 m : Nat) : Int) := by
  unfold Go.Proofs.YtcgbcnalofecgaaW.PrintWords.rd
  rw [show ((m : Nat) : Int).toNat = m by omega, List.getD_eq_getElem?_getD]
  simp only [madeTab, List.getElem?_map, List.getElem?_range h, Option.map_some, Option.getD_some]
  unfold tval
  rw [rsteps_is]
theorem one_nat (s b : Nat) (hb : b < 256) : one madeTab (s : Int) (b : Int) = ((Crc.steps 8 ((s % 256) ^^^ b) ^^^ (s / 256) : Nat) : Int) := by
  have hx : (s % 256) ^^^ b < 256 := Nat.xor_lt_two_pow (n := 8) (by omega) hb
  have e1 : xr ((s : Int) % 256) (b : Int) = (((s % 256) ^^^ b : Nat) : Int) := by
    unfold xr
    rw [show ((s : Int) % 256).toNat = s % 256 by omega, show ((b : Nat) : Int).toNat = b by omega]
  unfold one
  rw [e1, made_rd hx]
  unfold xr
  rw [show ((Crc.steps 8 ((s % 256) ^^^ b) : Nat) : Int).toNat = Crc.steps 8 ((s % 256) ^^^ b) by omega, show ((s : Int) / 256).toNat = s / 256 by omega]
theorem mo_nat (l : List Int) : ∀ s : Nat, Bytes l → mo madeTab (s : Int) l = ((Crc.more (Crc.steps 8) s (nats l) : Nat) : Int) := by
  induction l with
  | nil => intro s _; rfl
  | cons b l ih =>
    intro s h
    have hb := h b (by simp)
    have e : b = ((b.toNat : Nat) : Int) := by omega
    show mo madeTab (one madeTab (s : Int) b) l = _
    rw [e, one_nat s b.toNat (by omega), ih _ (fun x hx => h x (by simp [hx]))]
    rfl
theorem su_made {l : List Int} (h : Bytes l) : su madeTab l = 4294967295 - ((Crc.more (Crc.steps 8) 4294967295 (nats l) : Nat) : Int) := by
  unfold su
  have := mo_nat l 4294967295 h
  rw [show (4294967295 : Int) = ((4294967295 : Nat) : Int) by omega, this]
theorem su_eq_iff {l m : List Int} (hl : Bytes l) (hm : Bytes m) (hlen : l.length = m.length) (at_ w : Nat) (hw : w < 4294967296) (hat : at_ ≤ 8 * l.length) (hd : Crc.num (nats m) = Crc.num (nats l) ^^^ (2 ^ at_ * w)) :
    (su madeTab m = su madeTab l) ↔ w = 0 := by
  rw [su_made hl, su_made hm, ← Crc.more_eq_iff (Crc.steps 8) (fun _ _ => rfl) (nats l) (nats m) (nats_lt hl) (nats_lt hm) (by rw [nats_len, nats_len, hlen]) 4294967295 at_ w hw (by rw [nats_len]; exact hat) hd]
  omega
/-- One bit turned. -/
def turn (x : List Int) (i : Nat) : List Int := x.set (i / 8) (xr (rd x ((i / 8 : Nat) : Int)) ((2 ^ (i % 8) : Nat) : Int))
theorem turn_len (x : List Int) (i : Nat) : (turn x i).length = x.length := by simp [turn]
theorem turn_bytes {x : List Int} (h : Bytes x) (i : Nat) : Bytes (turn x i) := by
  intro y hy
  rcases List.mem_or_eq_of_mem_set hy with hy | rfl
  · exact h y hy
  · have h2 : 2 ^ (i % 8) ≤ 2 ^ 7 := Nat.pow_le_pow_right (by decide) (by omega)
    exact xr_lt 8 (h.rd _).2 (by omega)
theorem turn_num {x : List Int} (h : Bytes x) (i : Nat) (hi : i < 8 * x.length) : Crc.num (nats (turn x i)) = Crc.num (nats x) ^^^ 2 ^ i := by
  have e : nats (turn x i) = (nats x).set (i / 8) ((nats x).getD (i / 8) 0 ^^^ 2 ^ (i % 8)) := by
    unfold nats turn
    rw [List.map_set]
    congr 1
    unfold xr Go.Proofs.YtcgbcnalofecgaaW.PrintWords.rd
    rw [show (((i / 8 : Nat)) : Int).toNat = i / 8 by omega]
    have hj : i / 8 < x.length := by omega
    generalize 2 ^ (i % 8) = p
    simp [List.getD_eq_getElem?_getD, List.getElem?_eq_getElem hj]
  rw [e, Crc.num_set (nats x) (i / 8) (i % 8) (by rw [nats_len]; omega) (by omega) (nats_lt h), show 8 * (i / 8) + i % 8 = i by omega]
/-- A text of which the bits of a number, up to its kth, are turned from a place on, as far as there is room. -/
structure Turned (b x : List Int) (base room tn k : Nat) (same : Bool) : Prop where
  len : x.length = b.length
  bytes : Bytes x
  num : Crc.num (nats x) = Crc.num (nats b) ^^^ 2 ^ base * Crc.part tn k room
  same : same = decide (Crc.part tn k room = 0)
theorem Turned.begin {b : List Int} (h : Bytes b) (base room tn : Nat) : Turned b b base room tn 0 true :=
  ⟨rfl, h, by simp [Crc.part, Nat.mod_one], by simp [Crc.part, Nat.mod_one]⟩
theorem part_lt (tn k room : Nat) : Crc.part tn k room < 2 ^ k := by
  unfold Crc.part
  exact Nat.lt_of_lt_of_le (Nat.mod_lt _ (Nat.two_pow_pos _)) (Nat.pow_le_pow_right (by decide) (by omega))
theorem Turned.turn {b x : List Int} {base room tn k : Nat} {same : Bool} (h : Turned b x base room tn k same) (ht : tn / 2 ^ k % 2 = 1) (hk : k < room) (hr : base + room ≤ 8 * b.length) :
    Turned b (turn x (base + k)) base room tn (k + 1) false := by
  have hp := Crc.part_succ tn k room
  rw [if_pos ⟨ht, hk⟩] at hp
  refine ⟨by rw [turn_len, h.len], turn_bytes h.bytes _, ?_, ?_⟩
  · rw [turn_num h.bytes _ (by rw [h.len]; omega), h.num, hp, Crc.shift_xor, Nat.xor_assoc, ← Nat.pow_add]
  · rw [hp]
    symm
    rw [decide_eq_false_iff_not]
    intro e
    have h1 : Crc.part tn k room = 2 ^ k := by
      have := congrArg (· ^^^ 2 ^ k) e
      simpa [Nat.xor_assoc] using this
    have := part_lt tn k room
    omega
theorem Turned.skip {b x : List Int} {base room tn k : Nat} {same : Bool} (h : Turned b x base room tn k same) (ht : ¬ (tn / 2 ^ k % 2 = 1 ∧ k < room)) : Turned b x base room tn (k + 1) same := by
  have hp := Crc.part_succ tn k room
  rw [if_neg ht] at hp
  exact ⟨h.len, h.bytes, by rw [hp]; exact h.num, by rw [hp]; exact h.same⟩
theorem Turned.tells {b x : List Int} {base room tn : Nat} {same : Bool} (h : Turned b x base room tn 32 same) (hb : Bytes b) (hr : base + room ≤ 8 * b.length) : ((su madeTab x == su madeTab b) == same) = true := by
  have hw : Crc.part tn 32 room < 4294967296 := part_lt tn 32 room
  have := su_eq_iff hb h.bytes h.len.symm base _ hw (by omega) h.num
  rw [h.same, beq_iff_eq, Bool.eq_iff_iff, beq_iff_eq, decide_eq_true_iff]
  exact this
/-- What the loop writes: the place and the byte. -/
theorem turn_place {a : Int} {i : Nat} (h : wrap64 a = (i : Int)) : (wrap64 (Int.tdiv (wrap64 a) 8)).toNat = i / 8 ∧ wrap64 (Int.tdiv (wrap64 a) 8) = ((i / 8 : Nat) : Int) ∧ IntKind.u64.wrap (Int.tmod (wrap64 a) 8) = ((i % 8 : Nat) : Int) := by
  have hi : (i : Int) < 9223372036854775808 := by rw [← h]; unfold wrap64; omega
  have e1 : wrap64 (Int.tdiv (wrap64 a) 8) = ((i / 8 : Nat) : Int) := by
    rw [h, Int.tdiv_eq_ediv_of_nonneg (by omega)]
    unfold wrap64
    omega
  refine ⟨by rw [e1]; omega, e1, ?_⟩
  rw [h, Int.tmod_eq_emod_of_nonneg (by omega), show IntKind.u64.wrap ((i : Int) % 8) = (i : Int) % 8 % 18446744073709551616 by simp [IntKind.wrap, IntKind.bits, IntKind.signed]]
  omega
theorem turn_byte (x : List Int) (h : Bytes x) (i : Nat) : Go.bits .xor .u8 (rd x ((i / 8 : Nat) : Int)) (shl .u8 1 ((i % 8 : Nat) : Int)) = xr (rd x ((i / 8 : Nat) : Int)) ((2 ^ (i % 8) : Nat) : Int) := by
  have h2 : 2 ^ (i % 8) ≤ 2 ^ 7 := Nat.pow_le_pow_right (by decide) (by omega)
  have e : shl .u8 1 ((i % 8 : Nat) : Int) = ((2 ^ (i % 8) : Nat) : Int) := by
    unfold shl
    rw [show min ((i % 8 : Nat) : Int).toNat IntKind.u8.bits = i % 8 by simp only [IntKind.bits]; omega, IntKind.wrap_u8, Int.one_mul, show (2 : Int) ^ (i % 8) = ((2 ^ (i % 8) : Nat) : Int) by simp]
    generalize 2 ^ (i % 8) = p at h2 ⊢
    omega
  rw [e]
  generalize 2 ^ (i % 8) = p at h2 ⊢
  exact xr8 (h.rd _) (by omega)
theorem turn_set (x : List Int) (h : Bytes x) (i : Nat) : x.set (i / 8) (Go.bits .xor .u8 (rd x ((i / 8 : Nat) : Int)) (shl .u8 1 ((i % 8 : Nat) : Int))) = turn x i := by
  rw [turn_byte x h]
  rfl
theorem turn_bit {a2 : Int} (h0 : 0 ≤ a2) {k : Nat} (hk : k < 32) : (Int.tmod (shr .u32 a2 (IntKind.u64.wrap (k : Int))) 2 = 1) = (a2.toNat / 2 ^ k % 2 = 1) := by
  have e : IntKind.u64.wrap (k : Int) = (k : Int) := by
    rw [show IntKind.u64.wrap (k : Int) = (k : Int) % 18446744073709551616 by simp [IntKind.wrap, IntKind.bits, IntKind.signed]]
    omega
  have e2 : a2 / 2 ^ k = ((a2.toNat / 2 ^ k : Nat) : Int) := by
    rw [Int.natCast_ediv, show ((a2.toNat : Nat) : Int) = a2 by omega]
    simp
  rw [e]
  unfold shr
  rw [show min ((k : Nat) : Int).toNat IntKind.u32.bits = k by simp only [IntKind.bits]; omega, e2, Int.tmod_eq_emod_of_nonneg (Int.natCast_nonneg _)]
  apply propext
  omega
end Go.Proofs.Ytcgbcnalofecgaa.Made
