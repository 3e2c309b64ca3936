/- Any four floats, any line's constant and any number of quarters: on which side of a line a point lies is told alike, and is the same when the plane is turned. No condition. -/
import Derived.Test.YtjaefcinaackeaaQ35
import Derived.Test.YtjaefcinaackeaaTurn
namespace Go.Proofs.Ytjaefcinaackeaa.Pure
open Go Go.RowKit Go.Proofs.Ytjaefcinaackeaa.Q Go.Proofs.YtjaefcinaackeaaW.PrintWords Go.Proofs.YtjaefcinaackeaaW.PrintLast
open Go.Proofs.Ytjaefcinaackeaa.Ieee
theorem awake01 : punnetlaw01_awake.f = some true := by decide +kernel
theorem w64 {x : Int} (h0 : -9223372036854775808 ≤ x) (h1 : x < 9223372036854775808) : wrap64 x = x := by unfold wrap64; omega
theorem i64_wf {a : Int} (h : (Lit.int .i64 a).wf = true) : -9223372036854775808 ≤ a ∧ a ≤ 9223372036854775807 := by
  simp [Lit.wf, IntKind.min, IntKind.max, IntKind.bits, IntKind.signed] at h; omega
def sideI (n t : Int) : Int := if n > t then 1 else if n < t then -1 else 0
theorem side_is {z z' : Nat × Nat} {a b c d : Int} (h : IsC z a b) (h' : IsC z' c d) (s : inB 33554432 a b = true) (s' : inB 33554432 c d = true) (k : Nat) (t : Int) :
    plane_Side.f (k + 1) z t z' = some (sideI (a * c + b * d) t, 0) := by
  have s0 := inB_iff.1 s
  have s1 := inB_iff.1 s'
  have p1 := mul_small (M := 33554432) s0.1.1 s0.1.2 s1.1.1 s1.1.2
  have p2 := mul_small (M := 33554432) s0.2.1 s0.2.2 s1.2.1 s1.2.2
  have p3 := mul_small (M := 33554432) s0.1.1 s0.1.2 s1.2.1 s1.2.2
  have p4 := mul_small (M := 33554432) s0.2.1 s0.2.2 s1.1.1 s1.1.2
  obtain ⟨k1, k2, _⟩ := cmul_is h.1 (is_neg h.2.1) h'.1 h'.2.1 (by unfold bigI; omega) (by unfold bigI; rw [Int.neg_mul]; omega) (by unfold bigI; rw [Int.neg_mul]; omega) (by unfold bigI; omega) (by unfold bigI; rw [Int.neg_mul]; omega) (by unfold bigI; rw [Int.neg_mul]; omega)
  have e : a * c - -b * d = a * c + b * d := by rw [Int.neg_mul]; omega
  rw [e] at k2
  obtain ⟨f1, f2⟩ := is_f2i k2 (by omega) (by omega)
  unfold plane_Side.f
  rw [small_is h, s, Option.bind_some, if_pos rfl, small_is h', s', Option.bind_some, plane_Side.j0, if_neg (by simp)]
  unfold plane_mirrored.f sideI
  rw [Option.bind_some, if_pos k1, if_pos f1, f2]
  by_cases c1 : a * c + b * d > t
  · rw [if_pos c1, if_pos c1]
  · rw [if_neg c1, if_neg c1]
    by_cases c2 : a * c + b * d < t
    · rw [if_pos c2, if_pos c2]
    · rw [if_neg c2, if_neg c2]
theorem refSide_is {z z' : Nat × Nat} {a b c d : Int} (h : IsC z a b) (h' : IsC z' c d) (s : inB 33554432 a b = true) (s' : inB 33554432 c d = true) (k : Nat) (t : Int) :
    punnetref01_Side.f (k + 1) z t z' = some (sideI (a * c + b * d) t, 0) := by
  have s0 := inB_iff.1 s
  have s1 := inB_iff.1 s'
  have p1 := mul_small (M := 33554432) s0.1.1 s0.1.2 s1.1.1 s1.1.2
  have p2 := mul_small (M := 33554432) s0.2.1 s0.2.2 s1.2.1 s1.2.2
  have e : wrap64 (wrap64 (a * c) + wrap64 (b * d)) = a * c + b * d := by
    rw [w64 (x := a * c) (by omega) (by omega), w64 (x := b * d) (by omega) (by omega), w64 (by omega) (by omega)]
  unfold punnetref01_Side.f sideI
  rw [refParts_is h (by omega) (by omega), Option.bind_some, refParts_is h' (by omega) (by omega), Option.bind_some, s, s', if_pos rfl, if_pos rfl, if_pos rfl, punnetref01_Side.j0, if_neg (by simp)]
  simp only [e]
  by_cases c1 : a * c + b * d > t
  · rw [if_pos c1, if_pos c1]
  · rw [if_neg c1, if_neg c1]
    by_cases c2 : a * c + b * d < t
    · rw [if_pos c2, if_pos c2]
    · rw [if_neg c2, if_neg c2]
theorem sideI_neg (n t : Int) : sideI (-n) (-t) = -sideI n t := by
  unfold sideI
  by_cases c1 : n > t
  · rw [if_neg (by omega), if_pos (by omega), if_pos c1]
  · by_cases c2 : n < t
    · rw [if_pos (by omega), if_neg c1, if_pos c2]; rfl
    · rw [if_neg (by omega), if_neg (by omega), if_neg c1, if_neg c2]; rfl
theorem sideI_wrap (n t : Int) : wrap64 (-sideI n t) = -sideI n t := by
  apply w64 <;> unfold sideI <;> split <;> omega
theorem small_cases {x y : Nat} (hx : (Lit.float .f64 x).wf = true) (hy : (Lit.float .f64 y).wf = true) : (∃ a b, IsC (x, y) a b ∧ inB 33554432 a b = true) ∨ (plane_Small.f (x, y) = some false ∧ punnetref01_Parts.f (x, y) 33554432 = some (0, 0, false)) := by
  rcases point_cases hx hy with ⟨a, b, h⟩ | h
  · by_cases c : inB 33554432 a b = true
    · exact .inl ⟨a, b, h, c⟩
    · refine .inr ⟨?_, ?_⟩
      · rw [small_is h, eq_false_of_ne_true c]
      · rw [refParts_is h (by omega) (by omega), if_neg c]
  · exact .inr ⟨small_far h, refParts_far h (by omega) (by omega)⟩
theorem out (k : Nat) (t s : Int) (z z' : Nat × Nat) : punnetlaw01_PlaneSides.j0 (k + 2) t s z z' 0 5 false = some true := by
  rw [punnetlaw01_PlaneSides.j0, if_neg (by simp), if_neg (by decide), punnetlaw01_PlaneSides.j1, if_pos rfl, if_neg (by decide)]
  rfl
theorem PlaneSides : punnetlaw01_PlaneSides.Pure := by
  intro x y t u v n hx hy ht hu hv _
  refine ⟨3, ?_⟩
  unfold punnetlaw01_PlaneSides.f
  rw [awake01, Option.bind_some, if_pos rfl]
  rcases small_cases hx hy with ⟨a, b, h, s⟩ | ⟨s, r⟩
  · rcases small_cases hu hv with ⟨c, d, h', s'⟩ | ⟨s', r'⟩
    · rw [side_is h h' s s', Option.bind_some, refSide_is h h' s s', Option.bind_some, if_pos rfl, show (((sideI (a * c + b * d) t, (0 : Int)).2) != ((sideI (a * c + b * d) t, (0 : Int)).2)) = false by simp]
      rw [punnetlaw01_PlaneSides.j0, if_neg (by simp), if_pos rfl, punnetlaw01_PlaneSides.j1]
      by_cases c1 : t < -1152921504606846976
      · rw [decide_eq_true c1, if_pos rfl, if_pos rfl]
      · rw [decide_eq_false c1, if_neg (by simp)]
        have ht := i64_wf ht
        obtain ⟨w, e, c0, hw⟩ := turn_is h n
        obtain ⟨w', e', c0', hw'⟩ := turn_is h' n
        have hn : IsC (Go.Op.negFloat .f64 x, Go.Op.negFloat .f64 y) (-a) (-b) := ⟨is_neg h.1, is_neg h.2.1, h.2.2.1.neg, h.2.2.2.neg⟩
        have sn : inB 33554432 (-a) (-b) = true := by
          have := inB_iff.1 s
          exact inB_iff.2 ⟨⟨by omega, by omega⟩, ⟨by omega, by omega⟩⟩
        rw [e, Option.bind_some, e', Option.bind_some, side_is hw hw' (rot_inB _ s) (rot_inB _ s'), Option.bind_some, side_is hn h' sn s', Option.bind_some, if_pos c0, if_pos c0', if_pos rfl, if_pos rfl, rot_dot, if_pos rfl]
        rw [w64 (x := -t) (by omega) (by omega), show -a * c + -b * d = -(a * c + b * d) by rw [Int.neg_mul, Int.neg_mul]; omega, sideI_neg, sideI_wrap]
        simp
    · have e1 : plane_Side.f 3 (x, y) t (u, v) = some (0, 5) := by
        unfold plane_Side.f
        rw [small_is h, s, Option.bind_some, if_pos rfl, s', Option.bind_some, plane_Side.j0, if_pos (by rfl)]
      have e2 : punnetref01_Side.f 3 (x, y) t (u, v) = some (0, 5) := by
        unfold punnetref01_Side.f
        rw [refParts_is h (by omega) (by omega), Option.bind_some, r', Option.bind_some, s, if_pos rfl, if_pos rfl, punnetref01_Side.j0, if_pos (by rfl)]
      rw [e1, Option.bind_some, e2, Option.bind_some, if_pos rfl]
      exact out 1 t n _ _
  · have e1 : plane_Side.f 3 (x, y) t (u, v) = some (0, 5) := by
      unfold plane_Side.f
      rw [s, Option.bind_some, if_neg (by simp), plane_Side.j0, if_pos rfl]
    have e2 : punnetref01_Side.f 3 (x, y) t (u, v) = some (0, 5) := by
      unfold punnetref01_Side.f
      rw [r, Option.bind_some]
      rcases point_cases hu hv with ⟨c, d, h'⟩ | h'
      · rw [refParts_is h' (by omega) (by omega), Option.bind_some, if_neg (by simp), punnetref01_Side.j0, if_pos rfl]
      · rw [refParts_far h' (by omega) (by omega), Option.bind_some, if_neg (by simp), punnetref01_Side.j0, if_pos rfl]
    rw [e1, Option.bind_some, e2, Option.bind_some, if_pos rfl]
    exact out 1 t n _ _
end Go.Proofs.Ytjaefcinaackeaa.Pure
