/- A few turned bits are told: a frame by the made table of which bits within 32 in a row, of the sum's or of the bytes', are turned isn't read; for texts of up to 3000 bytes, and true beyond. No further condition. -/
import Derived.Test.YtcgbcnalofecgaaQ30
import Derived.Test.YtcgbcnalofecgaaFrameRef
import Derived.Test.YtcgbcnalofecgaaTold
namespace Go.Proofs.Ytcgbcnalofecgaa.Pure
open Go.RowKit Go.Proofs.Ytcgbcnalofecgaa.Q Go.Proofs.Ytcgbcnalofecgaa.Sum Go.Proofs.Ytcgbcnalofecgaa.Made Go.Proofs.Ytcgbcnalofecgaa.Frame Go.Proofs.Ytcgbcnalofecgaa.Told Go.Proofs.YtcgbcnalofecgaaW.PrintWords Go.Proofs.YtcgbcnalofecgaaW.PrintLast Go.Proofs.YtcgbcnalofecgaaW.PrintMore

theorem ftells_step (x : List Int) (base ends n k : Nat) (a2 : Int) (h2 : 0 ≤ a2) (same : Bool) (hx : Bytes x) (hends : ends ≤ 8 * x.length) (hn : n < 32) (t : Tab) (hbase : base ≤ 32000) :
    punnetlaw07_FrameTells.l0 (k + 1) a2 x ends base same n t = if a2.toNat / 2 ^ n % 2 = 1 ∧ n < ends - base then punnetlaw07_FrameTells.l0 k a2 (turn x (base + n)) ends base false (n + 1 : Nat) t else punnetlaw07_FrameTells.l0 k a2 x ends base same (n + 1 : Nat) t := by
  have hi0 : (0 : Int) ≤ (((base + n) / 8 : Nat) : Int) := Int.natCast_nonneg _
  have hi2 : (0 : Int) ≤ (((base + n) % 8 : Nat) : Int) := Int.natCast_nonneg _
  have hn32 : (n : Int) < 32 := by omega
  have hu : (0 : Int) ≤ IntKind.u64.wrap (n : Int) := by
    rw [show IntKind.u64.wrap (n : Int) = (n : Int) % 18446744073709551616 by simp [IntKind.wrap, IntKind.bits, IntKind.signed]]
    omega
  have htb := turn_bit h2 (k := n) hn
  have hi1 : base + n < ends → (((base + n) / 8 : Nat) : Int) < (x.length : Int) := by omega
  have hlt : base + n < ends → ((base + n : Nat) : Int) < ((ends : Nat) : Int) := by omega
  have hge : ¬ base + n < ends → ¬ ((base + n : Nat) : Int) < ((ends : Nat) : Int) := by omega
  have hk : n < ends - base ↔ base + n < ends := by omega
  have hw : wrap64 ((n : Int) + 1) = ((n + 1 : Nat) : Int) := by unfold wrap64; omega
  have e : wrap64 ((base : Int) + (n : Int)) = ((base + n : Nat) : Int) := by clear hw; unfold wrap64; omega
  obtain ⟨p1, p2, p3⟩ := turn_place e
  rw [e] at p1 p2 p3
  rw [punnetlaw07_FrameTells.l0, if_pos hn32, if_pos hu, hw, e, p1, p2, p3]
  by_cases ht : a2.toNat / 2 ^ n % 2 = 1
  · rw [if_pos (htb.mpr ht)]
    by_cases hr : base + n < ends
    · rw [if_pos (hlt hr), if_pos hi0, if_pos (hi1 hr), if_pos hi2, turn_set x hx, if_pos ⟨ht, hk.2 hr⟩]
    · rw [if_neg (hge hr), if_neg (fun c => hr (hk.1 c.2))]
  · rw [if_neg (fun c => ht (htb.mp c)), if_neg (fun c => ht c.1)]
theorem ftells_loop (b : List Int) (hb : Bytes b) (h3 : b.length ≤ 3000) (base ends : Nat) (hbase : base ≤ ends) (hends : ends ≤ 8 * (8 + b.length)) (hp : 64 ≤ base ∨ (32 ≤ base ∧ ends ≤ 64)) (a2 : Int) (h2 : 0 ≤ a2) :
    ∀ (d n : Nat) (x : List Int) (same : Bool) (k : Nat), n + d = 32 → d + 70000 < k →
    Turned (fr madeTab b) x base (ends - base) a2.toNat n same → punnetlaw07_FrameTells.l0 k a2 x ends base same n madeTab = some true := by
  intro d
  induction d with
  | zero =>
    intro n x same k hn hk h
    obtain ⟨k, rfl⟩ : ∃ m, k = m + 1 := ⟨k - 1, by omega⟩
    have hn32 : n = 32 := by omega
    subst hn32
    have hxl := h.len
    rw [fr_len] at hxl
    have ht := told hb (by omega) base (ends - base) a2.toNat same h (by omega) (by omega)
    have hG := Get_is madeTab h.bytes (by omega) (a := 0) (by omega) (by omega) (k := k) (by omega)
    rw [show ((0 : Int)).toNat = 0 from rfl, List.drop_zero, ht] at hG
    rw [punnetlaw07_FrameTells.l0, if_neg (by omega), hG, Option.bind_some]
    cases same <;> rfl
  | succ d ih =>
    intro n x same k hn hk h
    obtain ⟨k, rfl⟩ : ∃ m, k = m + 1 := ⟨k - 1, by omega⟩
    have hxl := h.len
    have hfl := fr_len madeTab b
    have h1 : n + 1 + d = 32 := by omega
    have h5 : d + 70000 < k := by omega
    have hroom : base + (ends - base) ≤ 8 * (fr madeTab b).length := by omega
    rw [ftells_step x base ends n k a2 h2 same h.bytes (by omega) (by omega) madeTab (by omega)]
    by_cases ht : a2.toNat / 2 ^ n % 2 = 1 ∧ n < ends - base
    · rw [if_pos ht]
      exact ih (n + 1) _ false k h1 h5 (h.turn ht.1 ht.2 hroom)
    · rw [if_neg ht]
      exact ih (n + 1) x same k h1 h5 (h.skip ht)
theorem ftells_main (b : List Int) (hb : Bytes b) (h3 : b.length ≤ 3000) (a1 a2 : Int) (h1 : 0 ≤ a1) (h2 : 0 ≤ a2) (start ends : Nat) (hs : start < ends) (hends : ends ≤ 8 * (8 + b.length)) (hp : 64 ≤ start ∨ (32 ≤ start ∧ ends ≤ 64)) {k : Nat} (hk : 80000 < k) :
    punnetlaw07_FrameTells.j2 (k + 1) b a1 a2 (fr madeTab b) start ends false madeTab = some true := by
  have hd : (0 : Int) < (ends : Int) - start := by omega
  have hm := Int.emod_nonneg a1 (show (ends : Int) - start ≠ 0 by omega)
  have hl := Int.emod_lt_of_pos a1 hd
  obtain ⟨q, hq⟩ := Int.eq_ofNat_of_zero_le hm
  have c0 : ¬ (ends : Int) - start = 0 := by omega
  have cb : start + q ≤ ends := by omega
  have cp : 64 ≤ start + q ∨ (32 ≤ start + q ∧ ends ≤ 64) := by omega
  have ck : 32 + 70000 < k := by omega
  have e1 : wrap64 ((ends : Int) - start) = (ends : Int) - start := by unfold wrap64; omega
  have e2 : wrap64 ((start : Int) + (q : Int)) = ((start + q : Nat) : Int) := by clear e1; unfold wrap64; omega
  rw [punnetlaw07_FrameTells.j2, if_neg (by simp), e1, if_neg c0, Int.tmod_eq_emod_of_nonneg h1, hq, e2]
  exact ftells_loop b hb h3 (start + q) ends cb hends cp a2 h2 32 0 (fr madeTab b) true k rfl ck (Turned.begin (fr_bytes madeTab hb) _ _ _)
theorem FrameTells : punnetlaw07_FrameTells.Pure := by
  intro b a1 a2 _ hlen hl hw1 hw2
  have hb := bytes_wf hl
  have h1 := i64_wf hw1
  have h2 := u32_wf hw2
  refine ⟨80010, ?_⟩
  have out : ∀ k x1 x2, punnetlaw07_FrameTells.j0 (k + 1) b x1 x2 true = some true := by intro k x1 x2; rw [punnetlaw07_FrameTells.j0, if_pos rfl]
  unfold punnetlaw07_FrameTells.f
  rw [awake07 (by omega), Option.bind_some, if_pos rfl]
  by_cases c1 : (b.length : Int) > 3000
  · rw [if_pos c1]; exact out 80009 _ _
  · rw [if_neg c1]
    by_cases c2 : a1 < 0
    · rw [if_pos c2]; exact out 80009 _ _
    · rw [if_neg c2]
      by_cases c3 : a2 = 0
      · rw [show (a2 == 0) = true by simp [c3]]; exact out 80009 _ _
      · rw [show (a2 == 0) = false by simp [c3]]
        have hfl := fr_len madeTab b
        rw [punnetlaw07_FrameTells.j0, if_neg (by simp), show punnetref06_Made.f = some madeTab from rfl, Option.bind_some, Put_is madeTab [] b hb (by omega) (by simp) (by omega), Option.bind_some, List.nil_append]
        have e8 : wrap64 ((b.length : Int) + 8) = ((fr madeTab b).length : Int) := by rw [hfl]; unfold wrap64; omega
        by_cases c4 : Int.tmod a1 2 = 0
        · rw [if_pos c4, punnetlaw07_FrameTells.j1, if_neg (by omega), e8]
          rw [show (((fr madeTab b).length : Int) != ((fr madeTab b).length : Int)) = false by simp]
          exact ftells_main b hb (by omega) a1 a2 (by omega) h2.1 32 64 (by omega) (by omega) (by omega) (by omega)
        · rw [if_neg c4, punnetlaw07_FrameTells.j1, show wrap64 (8 * ((fr madeTab b).length : Int)) = ((8 * (8 + b.length) : Nat) : Int) by rw [hfl]; unfold wrap64; omega]
          by_cases c5 : ((8 * (8 + b.length) : Nat) : Int) ≤ 64
          · rw [if_pos c5, punnetlaw07_FrameTells.j2, if_pos rfl, e8]
            simp
          · rw [if_neg c5, e8]
            rw [show (((fr madeTab b).length : Int) != ((fr madeTab b).length : Int)) = false by simp]
            exact ftells_main b hb (by omega) a1 a2 (by omega) h2.1 64 (8 * (8 + b.length)) (by omega) (by omega) (by omega) (by omega)
end Go.Proofs.Ytcgbcnalofecgaa.Pure
