/- Whole points of the plane that the net holds: which are small, and on which side of a line they lie. Conditions: as typed. -/
import Derived.Test.YtfkkekdpfkglbaaIeee
import Derived.Test.YtfkkekdpfkglbaaNetNew
set_option linter.unusedSimpArgs false
namespace Go.Proofs.Ytfkkekdpfkglbaa.Ieee
open Go Go.RowKit
open _root_.Ieee
open Go.Proofs.Ytfkkekdpfkglbaa.Q Go.Proofs.YtfkkekdpfkglbaaW.PrintWords Go.Proofs.YtfkkekdpfkglbaaW.PrintLast
theorem abs_is {x : Nat} (hx : x < 18446744073709551616) : absF x = x % 9223372036854775808 := by
  unfold absF Go.bits
  show (IntKind.wrap .u64 ((BitVec.ofInt 64 (x : Int) &&& ~~~BitVec.ofInt 64 9223372036854775808).toNat : Int)).toNat = _
  rw [show ~~~BitVec.ofInt 64 9223372036854775808 = BitVec.ofNat 64 9223372036854775807 by decide, BitVec.toNat_and, BitVec.ofInt_natCast, BitVec.toNat_ofNat, BitVec.toNat_ofNat, Nat.mod_eq_of_lt (by omega), Nat.mod_eq_of_lt (by omega), show 9223372036854775807 = 2 ^ 63 - 1 by decide, Nat.and_two_pow_sub_one_eq_mod, IntKind.wrap_u64]
  omega
def unsign : Datum → Datum
  | .nan _ t => .nan false t
  | .infinity _ => .infinity false
  | .number _ m e => .number false m e
theorem read_abs {x : Nat} (hx : x < 18446744073709551616) : double.read (absF x) = unsign (double.read x) := by
  rw [abs_is hx]
  have hw : double.signWeight = 9223372036854775808 := by decide
  unfold Format.read
  rw [hw]
  have e1 : x % 9223372036854775808 / 9223372036854775808 % 2 = 0 := by omega
  rw [e1, Nat.mod_mod]
  dsimp only
  generalize x % 9223372036854775808 = r
  generalize (x / 9223372036854775808 % 2 == 1) = z
  by_cases c1 : r < double.binade
  · rw [if_pos c1, if_pos c1]; rfl
  · rw [if_neg c1, if_neg c1]
    by_cases c2 : r < double.infRung
    · rw [if_pos c2, if_pos c2]; rfl
    · rw [if_neg c2, if_neg c2]
      by_cases c3 : r = double.infRung
      · rw [if_pos c3, if_pos c3]; rfl
      · rw [if_neg c3, if_neg c3]; rfl

def nearI (n : Int) : Prop := -4503599627370496 ≤ n ∧ n ≤ 4503599627370496
def bigI (n : Int) : Prop := -9007199254740992 ≤ n ∧ n ≤ 9007199254740992
theorem nearI.big {n : Int} (h : nearI n) : bigI n := by unfold nearI at h; unfold bigI; omega
theorem pos25 : Is 4719772409484279808 33554432 := by
  have := is_int (n := 33554432) (by omega) (by omega)
  rwa [show floatOfInt .f64 33554432 = 4719772409484279808 by decide +kernel] at this

theorem wthn_is {x m : Nat} {n M : Int} (h : Is x n) (hm : Is m M) (hn : bigI n) : wthn x m = decide (-M ≤ n ∧ n ≤ M) := by
  obtain ⟨hx, s, c, e, N, r, g, rfl⟩ := h
  unfold bigI at hn
  have hN : N ≤ 9007199254740992 := by cases s <;> simp at hn <;> omega
  have ht : trF x = double.nearest s N 0 := by
    have hd : FloatKind.f64.decode x = .number s c e := r
    unfold trF
    rw [hd]
    show double.nearest s (Toward.zero.cut s (c <<< e.toNat) (-e).toNat) 0 = _
    rw [cut_zero, cutZ_mag g]
  have hT : Is (trF x) (if s then -(N : Int) else N) := by rw [ht]; exact write_is s (Mag.whole N) (by omega)
  have hA : Is (absF x) (N : Int) := ⟨by rw [abs_is hx]; omega, false, c, e, N, by rw [read_abs hx, r]; rfl, g, rfl⟩
  unfold wthn
  rw [is_eq hT ⟨hx, s, c, e, N, r, g, rfl⟩, decide_eq_true rfl, Bool.true_and]
  show (double.order (absF x) m == some Ordering.lt || double.order (absF x) m == some Ordering.eq) = _
  rw [is_order hA hm, leq_cmp]
  apply decide_eq_decide.2
  cases s <;> simp <;> omega
def IsC (z : Nat × Nat) (a b : Int) : Prop := Is z.1 a ∧ Is z.2 b ∧ nearI a ∧ nearI b
def inB (M a b : Int) : Bool := decide ((-M ≤ a ∧ a ≤ M) ∧ (-M ≤ b ∧ b ≤ M))
theorem both_big {z : Nat × Nat} {a b : Int} (h1 : Is z.1 a) (h2 : Is z.2 b) (n1 : bigI a) (n2 : bigI b) {m : Nat} {M : Int} (hm : Is m M) : plane_both.f z m = some (inB M a b) := by
  unfold plane_both.f plane_within.f inB
  rw [Option.bind_some, wthn_is h1 hm n1, wthn_is h2 hm n2]
  by_cases c : -M ≤ a ∧ a ≤ M
  · rw [decide_eq_true c, if_pos rfl, Option.bind_some]
    congr 1
    exact decide_eq_decide.2 ⟨fun c2 => ⟨c, c2⟩, fun c2 => c2.2⟩
  · rw [decide_eq_false c, if_neg (by simp), decide_eq_false (fun c2 => c c2.1)]
theorem both_is {z : Nat × Nat} {a b : Int} (h : IsC z a b) {m : Nat} {M : Int} (hm : Is m M) : plane_both.f z m = some (inB M a b) := both_big h.1 h.2.1 h.2.2.1.big h.2.2.2.big hm
theorem small_is {z : Nat × Nat} {a b : Int} (h : IsC z a b) : plane_Small.f z = some (inB 33554432 a b) := by
  unfold plane_Small.f
  rw [both_is h pos25, Option.bind_some]
theorem of_is {a b : Int} (ha : nearI a) (hb : nearI b) : IsC (floatOfInt .f64 a, floatOfInt .f64 b) a b := by
  have ha' := ha
  have hb' := hb
  unfold nearI at ha' hb'
  exact ⟨is_int (by omega) (by omega), is_int (by omega) (by omega), ha, hb⟩
theorem cmul_is {x y u v : Nat} {a b c d : Int} (h1 : Is x a) (h2 : Is y b) (h3 : Is u c) (h4 : Is v d) (g1 : bigI (a * c)) (g2 : bigI (b * d)) (g3 : bigI (a * c - b * d)) (g4 : bigI (a * d)) (g5 : bigI (b * c)) (g6 : bigI (a * d + b * c)) :
    cmulOk x y u v = true ∧ Is (cmulR x y u v) (a * c - b * d) ∧ Is (cmulI x y u v) (a * d + b * c) := by
  obtain ⟨r1, e1, i1⟩ := is_mul h1 h3 g1.1 g1.2
  obtain ⟨r2, e2, i2⟩ := is_mul h2 h4 g2.1 g2.2
  obtain ⟨r3, e3, i3⟩ := is_sub i1 i2 g3.1 g3.2
  obtain ⟨r4, e4, i4⟩ := is_mul h1 h4 g4.1 g4.2
  obtain ⟨r5, e5, i5⟩ := is_mul h2 h3 g5.1 g5.2
  obtain ⟨r6, e6, i6⟩ := is_add i4 i5 g6.1 g6.2
  have e : cMulBits x y u v = some (r3, r6) := by
    unfold cMulBits
    simp only [e1, e2, e3, e4, e5, e6, Option.bind_some]
  unfold cmulOk cmulR cmulI
  rw [e]
  exact ⟨rfl, i3, i6⟩
theorem mul_small {M a b : Int} (h0 : -M ≤ a) (h1 : a ≤ M) (h2 : -M ≤ b) (h3 : b ≤ M) : -(M * M) ≤ a * b ∧ a * b ≤ M * M := by
  have p1 : 0 ≤ (M - a) * (M + b) := Int.mul_nonneg (by omega) (by omega)
  have p2 : 0 ≤ (M + a) * (M - b) := Int.mul_nonneg (by omega) (by omega)
  have p3 : 0 ≤ (M - a) * (M - b) := Int.mul_nonneg (by omega) (by omega)
  have p4 : 0 ≤ (M + a) * (M + b) := Int.mul_nonneg (by omega) (by omega)
  rw [Int.sub_mul, Int.mul_add, Int.mul_add] at p1
  rw [Int.add_mul, Int.mul_sub, Int.mul_sub] at p2
  rw [Int.sub_mul, Int.mul_sub, Int.mul_sub] at p3
  rw [Int.add_mul, Int.mul_add, Int.mul_add] at p4
  constructor <;> omega
theorem inB_iff {M a b : Int} : inB M a b = true ↔ (-M ≤ a ∧ a ≤ M) ∧ (-M ≤ b ∧ b ≤ M) := decide_eq_true_iff
theorem is_zero : Is 0 0 := by
  have := is_int (n := 0) (by omega) (by omega)
  rwa [show floatOfInt .f64 0 = 0 by decide +kernel] at this
theorem nearI.neg {a : Int} (h : nearI a) : nearI (-a) := by unfold nearI at h ⊢; omega
def sideI (n t : Int) : Int := if n > t then 1 else if n < t then -1 else 0
theorem side_is {z z' : Nat × Nat} {a b c d : Int} (h : IsC z a b) (h' : IsC z' c d) (s : inB 33554432 a b = true) (s' : inB 33554432 c d = true) (k : Nat) (t : Int) :
    plane_Side.f (k + 1) z t z' = some (sideI (a * c + b * d) t, 0) := by
  have s0 := inB_iff.1 s
  have s1 := inB_iff.1 s'
  have p1 := mul_small (M := 33554432) s0.1.1 s0.1.2 s1.1.1 s1.1.2
  have p2 := mul_small (M := 33554432) s0.2.1 s0.2.2 s1.2.1 s1.2.2
  have p3 := mul_small (M := 33554432) s0.1.1 s0.1.2 s1.2.1 s1.2.2
  have p4 := mul_small (M := 33554432) s0.2.1 s0.2.2 s1.1.1 s1.1.2
  obtain ⟨k1, k2, _⟩ := cmul_is h.1 (is_neg h.2.1) h'.1 h'.2.1 (by unfold bigI; omega) (by unfold bigI; rw [Int.neg_mul]; omega) (by unfold bigI; rw [Int.neg_mul]; omega) (by unfold bigI; omega) (by unfold bigI; rw [Int.neg_mul]; omega) (by unfold bigI; rw [Int.neg_mul]; omega)
  have e : a * c - -b * d = a * c + b * d := by rw [Int.neg_mul]; omega
  rw [e] at k2
  obtain ⟨f1, f2⟩ := is_f2i k2 (by omega) (by omega)
  unfold plane_Side.f
  rw [small_is h, s, Option.bind_some, if_pos rfl, small_is h', s', Option.bind_some, plane_Side.j0, if_neg (by simp)]
  unfold plane_mirrored.f sideI
  rw [Option.bind_some, if_pos k1, if_pos f1, f2]
  by_cases c1 : a * c + b * d > t
  · rw [if_pos c1, if_pos c1]
  · rw [if_neg c1, if_neg c1]
    by_cases c2 : a * c + b * d < t
    · rw [if_pos c2, if_pos c2]
    · rw [if_neg c2, if_neg c2]
end Go.Proofs.Ytfkkekdpfkglbaa.Ieee
