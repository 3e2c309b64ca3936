/- A float is a whole number of at most 2^52, or neither the program nor the document takes it for one. Conditions: as typed. -/
import Derived.Test.YtjaefcinaackeaaIeee
import Derived.Test.YtjaefcinaackeaaQ15
set_option linter.unusedSimpArgs false
namespace Go.Proofs.Ytjaefcinaackeaa.Ieee
open Go Go.RowKit
open _root_.Ieee
open Go.Proofs.Ytjaefcinaackeaa.Q Go.Proofs.YtjaefcinaackeaaW.PrintWords Go.Proofs.YtjaefcinaackeaaW.PrintLast

theorem float_wf {x : Nat} (h : (Lit.float .f64 x).wf = true) : x < 18446744073709551616 := by
  simpa [Lit.wf] using h
theorem abs_is {x : Nat} (hx : x < 18446744073709551616) : absF x = x % 9223372036854775808 := by
  unfold absF Go.bits
  show (IntKind.wrap .u64 ((BitVec.ofInt 64 (x : Int) &&& ~~~BitVec.ofInt 64 9223372036854775808).toNat : Int)).toNat = _
  rw [show ~~~BitVec.ofInt 64 9223372036854775808 = BitVec.ofNat 64 9223372036854775807 by decide, BitVec.toNat_and, BitVec.ofInt_natCast, BitVec.toNat_ofNat, BitVec.toNat_ofNat, Nat.mod_eq_of_lt (by omega), Nat.mod_eq_of_lt (by omega), show 9223372036854775807 = 2 ^ 63 - 1 by decide, Nat.and_two_pow_sub_one_eq_mod, IntKind.wrap_u64]
  omega
def unsign : Datum → Datum
  | .nan _ t => .nan false t
  | .infinity _ => .infinity false
  | .number _ m e => .number false m e
theorem read_abs {x : Nat} (hx : x < 18446744073709551616) : double.read (absF x) = unsign (double.read x) := by
  rw [abs_is hx]
  have hw : double.signWeight = 9223372036854775808 := by decide
  unfold Format.read
  rw [hw]
  have e1 : x % 9223372036854775808 / 9223372036854775808 % 2 = 0 := by omega
  rw [e1, Nat.mod_mod]
  dsimp only
  generalize x % 9223372036854775808 = r
  generalize (x / 9223372036854775808 % 2 == 1) = z
  by_cases c1 : r < double.binade
  · rw [if_pos c1, if_pos c1]; rfl
  · rw [if_neg c1, if_neg c1]
    by_cases c2 : r < double.infRung
    · rw [if_pos c2, if_pos c2]; rfl
    · rw [if_neg c2, if_neg c2]
      by_cases c3 : r = double.infRung
      · rw [if_pos c3, if_pos c3]; rfl
      · rw [if_neg c3, if_neg c3]; rfl

def nearI (n : Int) : Prop := -4503599627370496 ≤ n ∧ n ≤ 4503599627370496
def bigI (n : Int) : Prop := -9007199254740992 ≤ n ∧ n ≤ 9007199254740992
theorem nearI.big {n : Int} (h : nearI n) : bigI n := by unfold nearI at h; unfold bigI; omega
/-- Neither the program nor the document takes it for a whole number. -/
def Far (x : Nat) : Prop := (∀ (M : Int) (m : Nat), Is m M → 0 ≤ M → M ≤ 4503599627370496 → wthn x m = false) ∧ (∀ most : Int, ∃ n, punnetref01_part.f x most = some (n, false))
theorem neg52 : Is 14064741636278059008 (-4503599627370496) := by
  have := is_int (n := -4503599627370496) (by omega) (by omega)
  rwa [show floatOfInt .f64 (-4503599627370496) = 14064741636278059008 by decide +kernel] at this
theorem pos52 : Is 4841369599423283200 4503599627370496 := by
  have := is_int (n := 4503599627370496) (by omega) (by omega)
  rwa [show floatOfInt .f64 4503599627370496 = 4841369599423283200 by decide +kernel] at this
theorem pos25 : Is 4719772409484279808 33554432 := by
  have := is_int (n := 33554432) (by omega) (by omega)
  rwa [show floatOfInt .f64 33554432 = 4719772409484279808 by decide +kernel] at this

theorem ord_none {x y : Nat} {s : Bool} {t : Nat} (h : double.read x = .nan s t) : FloatKind.f64.format.order x y = none := by
  show double.order x y = none
  unfold Format.order
  rw [h]; rfl
theorem ord_inf {x y : Nat} {s t : Bool} {m : Nat} {e : Int} (h : double.read x = .infinity s) (hy : double.read y = .number t m e) : FloatKind.f64.format.order x y = some (if s then .lt else .gt) := by
  show double.order x y = _
  unfold Format.order
  rw [h, hy]; rfl
theorem far_nan {x : Nat} {s : Bool} {t : Nat} (h : double.read x = .nan s t) : Far x := by
  refine ⟨?_, ?_⟩
  · intro M m _ _ _
    unfold wthn
    rw [order_nan h]
    rfl
  · intro most
    unfold punnetref01_part.f
    rw [ord_none h]
    exact ⟨0, rfl⟩
theorem far_inf {x : Nat} {s : Bool} (hx : x < 18446744073709551616) (h : double.read x = .infinity s) : Far x := by
  refine ⟨?_, ?_⟩
  · intro M m hm _ _
    obtain ⟨_, t, n, e, N, rm, _, _⟩ := hm
    unfold wthn
    have : double.read (absF x) = .infinity false := by rw [read_abs hx, h]; rfl
    rw [ord_inf this rm]
    simp
  · intro most
    obtain ⟨_, t, n, e, N, rm, _, _⟩ := neg52
    obtain ⟨_, t', n', e', N', rm', _, _⟩ := pos52
    unfold punnetref01_part.f
    rw [ord_inf h rm, ord_inf h rm']
    cases s
    · exact ⟨0, rfl⟩
    · exact ⟨0, rfl⟩
/-- A float that isn't beyond a whole one is at most that many when it is cut. -/
theorem cut_most {m : Nat} {e : Int} {N : Nat} (K : Nat) (hK : 0 ≤ e + K) (h : m * 2 ^ (e + K).toNat ≤ N * 2 ^ K) : cutZ m e ≤ N := by
  have := cutZ_le m e K hK
  exact Nat.le_of_mul_le_mul_right (Nat.le_trans this h) (Nat.two_pow_pos K)
theorem signed_eq (s : Bool) (m k : Nat) : signed s m k = if s then -((m * 2 ^ k : Nat) : Int) else ((m * 2 ^ k : Nat) : Int) := by
  unfold signed
  rw [Nat.shiftLeft_eq]
theorem cmp_eq_ge {a b : Int} (h : ((some (compare a b) : Option Ordering) == some .gt || (some (compare a b) : Option Ordering) == some .eq) = true) : b ≤ a := by
  rw [geq_cmp] at h; exact of_decide_eq_true h
/-- Which of both a number is. -/
theorem num_cases {x : Nat} {s : Bool} {m : Nat} {e : Int} (hx : x < 18446744073709551616) (h : double.read x = .number s m e) : (∃ n, Is x n ∧ nearI n) ∨ Far x := by
  have hA : double.read (absF x) = .number false m e := by rw [read_abs hx, h]; rfl
  by_cases hM : Mag m e (cutZ m e) ∧ cutZ m e ≤ 4503599627370496
  · left
    refine ⟨if s then -(cutZ m e : Int) else cutZ m e, ⟨hx, s, m, e, cutZ m e, h, hM.1, rfl⟩, ?_⟩
    unfold nearI
    have := hM.2
    cases s
    · simp; omega
    · simp; omega
  · right
    refine ⟨?_, ?_⟩
    · intro M w hw h0 h1
      by_cases hc : cutZ m e ≤ 4503599627370496
      · -- it is not whole
        have hnm : ¬ Mag m e (cutZ m e) := fun c => hM ⟨c, hc⟩
        have ht : trF x = double.nearest s (cutZ m e) 0 := by
          have hd : FloatKind.f64.decode x = .number s m e := h
          unfold trF
          rw [hd]
          show double.nearest s (Toward.zero.cut s (m <<< e.toNat) (-e).toNat) 0 = _
          rw [cut_zero]
        obtain ⟨m', e', r', g'⟩ := read_nearest s (Mag.whole (cutZ m e)) (by omega)
        rw [← ht] at r'
        unfold wthn
        have hK1 : 0 ≤ e + (((-e).toNat + (-e').toNat : Nat) : Int) := by omega
        have hK2 : 0 ≤ e' + (((-e).toNat + (-e').toNat : Nat) : Int) := by omega
        have ho : (FloatKind.f64.format.order (trF x) x == some Ordering.eq) = false := by
          show (double.order (trF x) x == some Ordering.eq) = false
          rw [order_num r' h _ hK2 hK1, beq_cmp]
          apply decide_eq_false
          intro hc
          apply hnm
          refine ⟨_, hK1, ?_⟩
          rw [← g'.at _ hK2]
          rw [signed_eq, signed_eq] at hc
          cases s
          · simp only [Bool.false_eq_true, if_false] at hc
            exact (Int.ofNat.inj hc).symm
          · simp only [if_true] at hc
            exact (Int.ofNat.inj (Int.neg_inj.1 hc)).symm
        rw [ho, Bool.false_and]
      · obtain ⟨_, t, n, j, N, rn, gn, rfl⟩ := hw
        have hK1 : 0 ≤ e + (((-e).toNat + (-j).toNat : Nat) : Int) := by omega
        have hK2 : 0 ≤ j + (((-e).toNat + (-j).toNat : Nat) : Int) := by omega
        have ho : (FloatKind.f64.format.order (absF x) w == some Ordering.lt || FloatKind.f64.format.order (absF x) w == some Ordering.eq) = false := by
          show (double.order (absF x) w == some Ordering.lt || double.order (absF x) w == some Ordering.eq) = false
          rw [order_num hA rn _ hK1 hK2, leq_cmp]
          apply decide_eq_false
          intro hle
          apply hc
          rw [signed_mag gn t _ hK2, signed_eq] at hle
          simp only [Bool.false_eq_true, if_false] at hle
          apply cut_most _ hK1
          have hp := Nat.two_pow_pos ((-e).toNat + (-j).toNat)
          generalize 2 ^ ((-e).toNat + (-j).toNat) = P at *
          generalize (m * 2 ^ (e + (((-e).toNat + (-j).toNat : Nat) : Int)).toNat) = R at *
          have := Int.mul_le_mul_of_nonneg_right h1 (show (0 : Int) ≤ (P : Int) by omega)
          omega
        unfold wthn
        rw [ho, Bool.and_false]
    · intro most
      unfold punnetref01_part.f
      by_cases c1 : (FloatKind.f64.format.order x 14064741636278059008 == some Ordering.gt || FloatKind.f64.format.order x 14064741636278059008 == some Ordering.eq) = true
      · rw [if_pos c1]
        by_cases c2 : (FloatKind.f64.format.order x 4841369599423283200 == some Ordering.lt || FloatKind.f64.format.order x 4841369599423283200 == some Ordering.eq) = true
        · rw [if_pos c2]
          have hc : cutZ m e ≤ 4503599627370496 := by
            obtain ⟨_, t, n, j, N, rn, gn, en⟩ := neg52
            obtain ⟨_, t', n', j', N', rn', gn', en'⟩ := pos52
            have hK1 : 0 ≤ e + (((-e).toNat + (-j).toNat + (-j').toNat : Nat) : Int) := by omega
            have hK2 : 0 ≤ j + (((-e).toNat + (-j).toNat + (-j').toNat : Nat) : Int) := by omega
            have hK3 : 0 ≤ j' + (((-e).toNat + (-j).toNat + (-j').toNat : Nat) : Int) := by omega
            have d1 : (double.order x 14064741636278059008 == some Ordering.gt || double.order x 14064741636278059008 == some Ordering.eq) = true := c1
            have d2 : (double.order x 4841369599423283200 == some Ordering.lt || double.order x 4841369599423283200 == some Ordering.eq) = true := c2
            rw [order_num h rn _ hK1 hK2, geq_cmp, signed_mag gn t _ hK2, ← en, signed_eq] at d1
            rw [order_num h rn' _ hK1 hK3, leq_cmp, signed_mag gn' t' _ hK3, ← en', signed_eq] at d2
            have d1 := of_decide_eq_true d1
            have d2 := of_decide_eq_true d2
            apply cut_most _ hK1
            clear en en' gn gn' rn rn' c1 c2
            have hp := Nat.two_pow_pos ((-e).toNat + (-j).toNat + (-j').toNat)
            generalize 2 ^ ((-e).toNat + (-j).toNat + (-j').toNat) = P at *
            generalize (m * 2 ^ (e + (((-e).toNat + (-j).toNat + (-j').toNat : Nat) : Int)).toNat) = R at *
            cases s
            · simp only [Bool.false_eq_true, if_false] at d1 d2
              omega
            · simp only [if_true] at d1 d2
              omega
          obtain ⟨f1, f2⟩ := f2i_num h (by omega)
          rw [if_pos f1, f2]
          have hnm : ¬ Mag m e (cutZ m e) := fun c => hM ⟨c, hc⟩
          rw [if_neg]
          · exact ⟨_, rfl⟩
          · intro ho
            apply hnm
            have hi : Is (floatOfInt .f64 (if s then -(cutZ m e : Int) else cutZ m e)) (if s then -(cutZ m e : Int) else cutZ m e) := by
              apply is_int <;> cases s <;> simp <;> omega
            obtain ⟨_, t, n, j, N, rn, gn, en⟩ := hi
            have hK1 : 0 ≤ e + (((-e).toNat + (-j).toNat : Nat) : Int) := by omega
            have hK2 : 0 ≤ j + (((-e).toNat + (-j).toNat : Nat) : Int) := by omega
            have d1 : (double.order (floatOfInt .f64 (if s then -(cutZ m e : Int) else cutZ m e)) x == some Ordering.eq) = true := ho
            rw [order_num rn h _ hK2 hK1, beq_cmp, signed_mag gn t _ hK2, ← en, signed_eq] at d1
            have d1 := of_decide_eq_true d1
            refine ⟨_, hK1, ?_⟩
            clear en gn rn ho
            generalize 2 ^ ((-e).toNat + (-j).toNat) = P at *
            generalize (m * 2 ^ (e + (((-e).toNat + (-j).toNat : Nat) : Int)).toNat) = R at *
            generalize cutZ m e = C at *
            cases s
            · simp only [Bool.false_eq_true, if_false] at d1
              omega
            · simp only [if_true, Int.neg_mul] at d1
              omega
        · rw [if_neg c2]; exact ⟨_, rfl⟩
      · rw [if_neg c1]; exact ⟨_, rfl⟩
theorem float_cases {x : Nat} (hx : x < 18446744073709551616) : (∃ n, Is x n ∧ nearI n) ∨ Far x := by
  cases h : double.read x with
  | nan s t => exact .inr (far_nan h)
  | infinity s => exact .inr (far_inf hx h)
  | number s m e => exact num_cases hx h
/-- A whole number is within as many as it isn't beyond. -/
theorem wthn_is {x m : Nat} {n M : Int} (h : Is x n) (hm : Is m M) (hn : bigI n) : wthn x m = decide (-M ≤ n ∧ n ≤ M) := by
  obtain ⟨hx, s, c, e, N, r, g, rfl⟩ := h
  unfold bigI at hn
  have hN : N ≤ 9007199254740992 := by cases s <;> simp at hn <;> omega
  have ht : trF x = double.nearest s N 0 := by
    have hd : FloatKind.f64.decode x = .number s c e := r
    unfold trF
    rw [hd]
    show double.nearest s (Toward.zero.cut s (c <<< e.toNat) (-e).toNat) 0 = _
    rw [cut_zero, cutZ_mag g]
  have hT : Is (trF x) (if s then -(N : Int) else N) := by rw [ht]; exact write_is s (Mag.whole N) (by omega)
  have hA : Is (absF x) (N : Int) := ⟨by rw [abs_is hx]; omega, false, c, e, N, by rw [read_abs hx, r]; rfl, g, rfl⟩
  unfold wthn
  rw [is_eq hT ⟨hx, s, c, e, N, r, g, rfl⟩, decide_eq_true rfl, Bool.true_and]
  show (double.order (absF x) m == some Ordering.lt || double.order (absF x) m == some Ordering.eq) = _
  rw [is_order hA hm, leq_cmp]
  apply decide_eq_decide.2
  cases s <;> simp <;> omega
theorem part_is {x : Nat} {n : Int} (h : Is x n) (hn : nearI n) {most : Int} (h0 : 0 ≤ most) (h1 : most ≤ 4503599627370496) : punnetref01_part.f x most = some (n, decide (-most ≤ n ∧ n ≤ most)) := by
  unfold nearI at hn
  unfold punnetref01_part.f
  have e1 : (FloatKind.f64.format.order x 14064741636278059008 == some Ordering.gt || FloatKind.f64.format.order x 14064741636278059008 == some Ordering.eq) = true := by
    show (double.order x 14064741636278059008 == some Ordering.gt || double.order x 14064741636278059008 == some Ordering.eq) = true
    rw [is_order h neg52, geq_cmp]
    exact decide_eq_true hn.1
  have e2 : (FloatKind.f64.format.order x 4841369599423283200 == some Ordering.lt || FloatKind.f64.format.order x 4841369599423283200 == some Ordering.eq) = true := by
    show (double.order x 4841369599423283200 == some Ordering.lt || double.order x 4841369599423283200 == some Ordering.eq) = true
    rw [is_order h pos52, leq_cmp]
    exact decide_eq_true hn.2
  obtain ⟨f1, f2⟩ := is_f2i h (by omega) (by omega)
  have hw : wrap64 (-most) = -most := by unfold wrap64; omega
  rw [if_pos e1, if_pos e2, if_pos f1, f2, is_eq (is_int (by omega) (by omega)) h, decide_eq_true rfl, if_pos rfl, hw]
  by_cases c : n ≥ -most
  · rw [if_pos c]
    congr 2
    apply decide_eq_decide.2
    exact ⟨fun c2 => ⟨c, c2⟩, fun c2 => c2.2⟩
  · rw [if_neg c, decide_eq_false (fun c2 => c c2.1)]
end Go.Proofs.Ytjaefcinaackeaa.Ieee
