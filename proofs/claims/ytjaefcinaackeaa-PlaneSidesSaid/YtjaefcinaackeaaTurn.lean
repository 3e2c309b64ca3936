/- A whole point turned by quarters, and its norm. Conditions: as typed. -/
import Derived.Test.YtjaefcinaackeaaQ13
import Derived.Test.YtjaefcinaackeaaQ22
import Derived.Test.YtjaefcinaackeaaPair
set_option linter.unusedSimpArgs false
namespace Go.Proofs.Ytjaefcinaackeaa.Ieee
open Go Go.RowKit
open Go.Proofs.Ytjaefcinaackeaa.Q Go.Proofs.YtjaefcinaackeaaW.PrintWords Go.Proofs.YtjaefcinaackeaaW.PrintLast
theorem and3 (n : Int) : bits .and .i64 n 3 = n % 4 := by
  unfold bits
  show IntKind.i64.wrap ((BitVec.ofInt 64 n &&& BitVec.ofInt 64 3).toNat : Int) = _
  rw [show BitVec.ofInt 64 3 = BitVec.ofNat 64 3 by decide, BitVec.toNat_and, BitVec.toNat_ofInt, BitVec.toNat_ofNat, show 3 % 2 ^ 64 = 2 ^ 2 - 1 by decide, Nat.and_two_pow_sub_one_eq_mod, IntKind.wrap_i64]
  omega
def rot (k a b : Int) : Int × Int := if k = 1 then (-b, a) else if k = 2 then (-a, -b) else if k = 3 then (b, -a) else (a, b)
theorem nearI.neg {a : Int} (h : nearI a) : nearI (-a) := by unfold nearI at h ⊢; omega
theorem turn_is {z : Nat × Nat} {a b : Int} (h : IsC z a b) (t : Int) : ∃ v, plane_Turn.f z t = some v ∧ v.2 = 0 ∧ IsC v.1 (rot (t % 4) a b).1 (rot (t % 4) a b).2 := by
  unfold plane_Turn.f rot
  rw [whole_is h, Option.bind_some, if_pos rfl, and3]
  by_cases c1 : t % 4 = 1
  · rw [if_pos c1, if_pos c1]
    exact ⟨_, rfl, rfl, is_neg h.2.1, h.1, h.2.2.2.neg, h.2.2.1⟩
  · rw [if_neg c1, if_neg c1]
    by_cases c2 : t % 4 = 2
    · rw [if_pos c2, if_pos c2]
      exact ⟨_, rfl, rfl, is_neg h.1, is_neg h.2.1, h.2.2.1.neg, h.2.2.2.neg⟩
    · rw [if_neg c2, if_neg c2]
      by_cases c3 : t % 4 = 3
      · rw [if_pos c3, if_pos c3]
        exact ⟨_, rfl, rfl, h.2.1, is_neg h.1, h.2.2.2, h.2.2.1.neg⟩
      · rw [if_neg c3, if_neg c3]
        exact ⟨_, rfl, rfl, h⟩
theorem turn_far {z : Nat × Nat} (h : FarC z) (t : Int) : plane_Turn.f z t = some ((0, 0), 5) := by
  unfold plane_Turn.f
  rw [whole_far h, Option.bind_some, if_neg (by simp)]
theorem rot_inB {M a b : Int} (k : Int) (h : inB M a b = true) : inB M (rot k a b).1 (rot k a b).2 = true := by
  have h := inB_iff.1 h
  apply inB_iff.2
  unfold rot
  by_cases c1 : k = 1
  · rw [if_pos c1]; simp only; omega
  · rw [if_neg c1]
    by_cases c2 : k = 2
    · rw [if_pos c2]; simp only; omega
    · rw [if_neg c2]
      by_cases c3 : k = 3
      · rw [if_pos c3]; simp only; omega
      · rw [if_neg c3]; simp only; omega
/-- Products of both parts are the same when both points are turned alike. -/
theorem rot_dot (k a b c d : Int) : (rot k a b).1 * (rot k c d).1 + (rot k a b).2 * (rot k c d).2 = a * c + b * d := by
  unfold rot
  by_cases c1 : k = 1
  · rw [if_pos c1, if_pos c1]; simp only [Int.neg_mul_neg]; omega
  · rw [if_neg c1, if_neg c1]
    by_cases c2 : k = 2
    · rw [if_pos c2, if_pos c2]; simp only [Int.neg_mul_neg]
    · rw [if_neg c2, if_neg c2]
      by_cases c3 : k = 3
      · rw [if_pos c3, if_pos c3]; simp only [Int.neg_mul_neg]; omega
      · rw [if_neg c3, if_neg c3]
theorem norm_is {z : Nat × Nat} {a b : Int} (h : IsC z a b) (s : inB 33554432 a b = true) : plane_Norm.f z = some (a * a + b * b, 0) := by
  have s0 := inB_iff.1 s
  have p1 := mul_small (M := 33554432) s0.1.1 s0.1.2 s0.1.1 s0.1.2
  have p2 := mul_small (M := 33554432) s0.2.1 s0.2.2 s0.2.1 s0.2.2
  have p3 := mul_small (M := 33554432) s0.1.1 s0.1.2 s0.2.1 s0.2.2
  have e3 : b * a = a * b := Int.mul_comm _ _
  obtain ⟨k1, k2, _⟩ := cmul_is h.1 h.2.1 h.1 (is_neg h.2.1) (by unfold bigI; omega) (by unfold bigI; rw [Int.mul_neg]; omega) (by unfold bigI; rw [Int.mul_neg]; omega) (by unfold bigI; rw [Int.mul_neg]; omega) (by unfold bigI; omega) (by unfold bigI; rw [Int.mul_neg]; omega)
  have e : a * a - b * -b = a * a + b * b := by rw [Int.mul_neg]; omega
  rw [e] at k2
  obtain ⟨f1, f2⟩ := is_f2i k2 (by omega) (by omega)
  unfold plane_Norm.f
  rw [small_is h, s, Option.bind_some, if_pos rfl]
  unfold plane_mirrored.f
  rw [Option.bind_some, if_pos k1, if_pos f1, f2]
theorem norm_not {z : Nat × Nat} (h : plane_Small.f z = some false) : plane_Norm.f z = some (0, 5) := by
  unfold plane_Norm.f
  rw [h, Option.bind_some, if_neg (by simp)]
end Go.Proofs.Ytjaefcinaackeaa.Ieee
