/- The made table is the document's, and by it the sum of any bytes is what their bits come to, one by one; for texts of up to 3000 bytes, and true beyond. No further condition. -/
import Derived.Test.YtcgbcnalofecgaaQ13
import Derived.Test.YtcgbcnalofecgaaMade
namespace Go.Proofs.Ytcgbcnalofecgaa.Pure
open Go.RowKit Go.Proofs.Ytcgbcnalofecgaa.Q Go.Proofs.Ytcgbcnalofecgaa.Sum Go.Proofs.Ytcgbcnalofecgaa.Made Go.Proofs.YtcgbcnalofecgaaW.PrintWords Go.Proofs.YtcgbcnalofecgaaW.PrintLast Go.Proofs.YtcgbcnalofecgaaW.PrintMore

theorem bits_in (x0 : List Int) (i : Int) (h0 : 0 ≤ i) (h1 : i < 3000) : ∀ (d j : Nat) (s c k : Nat), j + d = 8 → s < 4294967296 → c < 256 → punnetref06_Bits.l1 (k + d + 1) x0 s i c j = punnetref06_Bits.l0 k x0 (Crc.bitIn d s c : Nat) (i + 1) := by
  intro d
  induction d with
  | zero =>
    intro j s c k hj hs hc
    have : j = 8 := by omega
    subst this
    simp only [punnetref06_Bits.l1]
    rw [if_neg (by omega), show wrap64 (i + 1) = i + 1 by unfold wrap64; omega]
    rfl
  | succ d ih =>
    intro j s c k hj hs hc
    have hw : wrap64 ((j : Int) + 1) = ((j + 1 : Nat) : Int) := by unfold wrap64; omega
    have e2 : Int.tdiv (c : Int) 2 % 256 = ((c / 2 : Nat) : Int) := by rw [Int.tdiv_eq_ediv_of_nonneg (by omega)]; omega
    have e1 : Int.tdiv (s : Int) 2 % 4294967296 = ((s / 2 : Nat) : Int) := by rw [Int.tdiv_eq_ediv_of_nonneg (by omega)]; omega
    rw [show k + (d + 1) + 1 = (k + d + 1) + 1 by omega]
    simp only [punnetref06_Bits.l1, Crc.bitIn]
    rw [if_pos (by omega), hw, e1, e2]
    by_cases ho : (s + c) % 2 = 1
    · have hx : s / 2 ^^^ Crc.poly < 4294967296 := Nat.xor_lt_two_pow (n := 32) (by omega) (by decide)
      rw [if_pos (by omega), if_pos ho, xr32 (by omega) (by omega), show xr ((s / 2 : Nat) : Int) 3988292384 = ((s / 2 ^^^ Crc.poly : Nat) : Int) by unfold xr; rw [show ((s / 2 : Nat) : Int).toNat = s / 2 by omega]; rfl]
      exact ih (j + 1) _ _ k (by omega) hx (by omega)
    · rw [if_neg (by omega), if_neg ho]
      exact ih (j + 1) _ _ k (by omega) (by omega) (by omega)
theorem bits_loop (x0 : List Int) (hb : Bytes x0) (h3 : x0.length ≤ 3000) : ∀ (d i : Nat) (s k : Nat), i + d = x0.length → 12 * d < k → s < 4294967296 →
    punnetref06_Bits.l0 k x0 s i = some (4294967295 - ((Crc.more (Crc.steps 8) s (nats (x0.drop i)) : Nat) : Int)) := by
  intro d
  induction d with
  | zero =>
    intro i s k hi hk hs
    obtain ⟨k, rfl⟩ : ∃ m, k = m + 1 := ⟨k - 1, by omega⟩
    simp only [punnetref06_Bits.l0]
    rw [if_neg (by omega), List.drop_eq_nil_of_le (by omega)]
    simp only [nats, List.map_nil, Crc.more]
    congr 1
    omega
  | succ d ih =>
    intro i s k hi hk hs
    obtain ⟨k, rfl⟩ : ∃ m, k = (m + 8 + 1) + 1 := ⟨k - 10, by omega⟩
    have hr := hb.rd (i : Int)
    have hd := drop_rd (l := x0) (i := (i : Int)) (by omega) (by omega)
    rw [show ((i : Nat) : Int).toNat = i by omega, show ((i : Int) + 1).toNat = i + 1 by omega] at hd
    have hlt : Crc.bitIn 8 s (rd x0 i).toNat < 4294967296 := by
      rw [Crc.bitIn_byte s _ (by omega)]
      exact Crc.steps_lt 8 (Nat.xor_lt_two_pow (n := 32) (by omega) (by omega))
    simp only [punnetref06_Bits.l0]
    rw [if_pos (by omega), if_pos (by omega)]
    have hin := bits_in x0 i (by omega) (by omega) 8 0 s (rd x0 i).toNat k (by omega) hs (by omega)
    rw [show (((rd x0 i).toNat : Nat) : Int) = rd x0 i by omega] at hin
    rw [show ((0 : Nat) : Int) = 0 from rfl] at hin
    rw [hin, show ((i : Int) + 1) = ((i + 1 : Nat) : Int) by omega, ih (i + 1) _ k (by omega) (by omega) hlt, hd]
    show _ = some (4294967295 - ((Crc.more (Crc.steps 8) s ((rd x0 i).toNat :: nats (x0.drop (i + 1))) : Nat) : Int))
    simp only [Crc.more]
    rw [Crc.byte_in, Crc.bitIn_byte s _ (by omega)]
theorem SumMade : punnetlaw06_SumMade.Pure := by
  intro b hml hlen hl
  have hb := bytes_wf hl
  refine ⟨12 * b.length + 5, ?_⟩
  unfold punnetlaw06_SumMade.f
  rw [show punnetlaw06_awake.f = some true from rfl, Option.bind_some, if_pos rfl]
  by_cases h3 : (b.length : Int) > 3000
  · rw [if_pos h3]
  · rw [if_neg h3, show sum_Make.f = some madeTab from rfl, Option.bind_some, show punnetref06_Made.f = some madeTab from rfl, Option.bind_some, if_pos rfl]
    have h := bits_loop b hb (by omega) b.length 0 4294967295 (12 * b.length + 5) (by omega) (by omega) (by omega)
    have hB : punnetref06_Bits.f (12 * b.length + 5) b = some (4294967295 - ((Crc.more (Crc.steps 8) 4294967295 (nats b) : Nat) : Int)) := h
    rw [Of_is madeTab hb (by omega) (by omega), Option.bind_some, hB, Option.bind_some, su_made hb]
    simp
end Go.Proofs.Ytcgbcnalofecgaa.Pure
