/- Any four floats and any number of quarters: the norm of a point, of the point turned and of a product is told alike. No condition. -/
import Derived.Test.YtjaefcinaackeaaQ26
import Derived.Test.YtjaefcinaackeaaTurn
namespace Go.Proofs.Ytjaefcinaackeaa.Pure
open Go Go.RowKit Go.Proofs.Ytjaefcinaackeaa.Q Go.Proofs.YtjaefcinaackeaaW.PrintWords Go.Proofs.YtjaefcinaackeaaW.PrintLast
open Go.Proofs.Ytjaefcinaackeaa.Ieee
theorem awake01 : punnetlaw01_awake.f = some true := by decide +kernel
theorem w64 {x : Int} (h0 : -9223372036854775808 ≤ x) (h1 : x < 9223372036854775808) : wrap64 x = x := by unfold wrap64; omega
theorem square_sum {M a b : Int} (h : inB M a b = true) (hM : M * M ≤ 1125899906842624) : wrap64 (wrap64 (a * a) + wrap64 (b * b)) = a * a + b * b := by
  have h := inB_iff.1 h
  have p1 := mul_small h.1.1 h.1.2 h.1.1 h.1.2
  have p2 := mul_small h.2.1 h.2.2 h.2.1 h.2.2
  rw [w64 (x := a * a) (by omega) (by omega), w64 (x := b * b) (by omega) (by omega), w64 (by omega) (by omega)]
theorem norm_product (a b c d : Int) : (a * c - b * d) * (a * c - b * d) + (a * d + b * c) * (a * d + b * c) = (a * a + b * b) * (c * c + d * d) := by grind
theorem PlaneNorms : punnetlaw01_PlaneNorms.Pure := by
  intro x y u v t hx hy hu hv _
  refine ⟨3, ?_⟩
  unfold punnetlaw01_PlaneNorms.f
  rw [awake01, Option.bind_some, if_pos rfl]
  have hs : (∃ a b, IsC (x, y) a b ∧ inB 33554432 a b = true) ∨ (plane_Small.f (x, y) = some false ∧ punnetref01_Parts.f (x, y) 33554432 = some (0, 0, false)) := by
    rcases point_cases hx hy with ⟨a, b, h⟩ | h
    · by_cases c : inB 33554432 a b = true
      · exact .inl ⟨a, b, h, c⟩
      · refine .inr ⟨?_, ?_⟩
        · rw [small_is h, eq_false_of_ne_true c]
        · rw [refParts_is h (by omega) (by omega), if_neg c]
    · exact .inr ⟨small_far h, refParts_far h (by omega) (by omega)⟩
  rcases hs with ⟨a, b, h, s⟩ | ⟨s, r⟩
  · rw [norm_is h s, Option.bind_some, refParts_is h (by omega) (by omega), Option.bind_some, s, if_pos rfl, if_pos rfl, square_sum s (by omega), if_pos rfl]
    rw [punnetlaw01_PlaneNorms.j0, if_neg (by simp)]
    obtain ⟨w, e, c0, hw⟩ := turn_is h t
    have sw := rot_inB (t % 4) s
    rw [e, Option.bind_some, norm_is hw sw, Option.bind_some, if_pos c0, if_pos rfl, rot_dot, show ((a * a + b * b, (0 : Int)).1 != a * a + b * b) = false by simp]
    rw [punnetlaw01_PlaneNorms.j1, if_neg (by simp)]
    have out : ∀ (z z' : Nat × Nat) (n p q : Int), punnetlaw01_PlaneNorms.j2 1 z z' n p q true = some true := by
      intro z z' n p q
      rw [punnetlaw01_PlaneNorms.j2, if_pos rfl]
    rcases point_cases hu hv with ⟨c, d, h'⟩ | h'
    · rw [refParts_is h' (by omega) (by omega), Option.bind_some]
      by_cases s' : inB 1024 c d = true
      · rw [if_pos s', if_pos rfl]
        by_cases c1 : a > 1024
        · rw [if_pos c1, out]
        · by_cases c2 : a < -1024
          · rw [if_neg c1, if_pos c2, out]
          · by_cases c3 : b > 1024
            · rw [if_neg c1, if_neg c2, if_pos c3, out]
            · by_cases c4 : b < -1024
              · rw [if_neg c1, if_neg c2, if_neg c3, decide_eq_true c4, out]
              · rw [if_neg c1, if_neg c2, if_neg c3, decide_eq_false c4, punnetlaw01_PlaneNorms.j2, if_neg (by simp)]
                have s2 : inB 1024 a b = true := inB_iff.2 ⟨⟨by omega, by omega⟩, ⟨by omega, by omega⟩⟩
                have s0 := inB_iff.1 s2
                have s1 := inB_iff.1 s'
                have p1 := mul_small (M := 1024) s0.1.1 s0.1.2 s1.1.1 s1.1.2
                have p2 := mul_small (M := 1024) s0.2.1 s0.2.2 s1.2.1 s1.2.2
                have p3 := mul_small (M := 1024) s0.1.1 s0.1.2 s1.2.1 s1.2.2
                have p4 := mul_small (M := 1024) s0.2.1 s0.2.2 s1.1.1 s1.1.2
                obtain ⟨r, e1, k0, k1, k2⟩ := times_tells h h' s (inB_iff.2 ⟨⟨by omega, by omega⟩, ⟨by omega, by omega⟩⟩)
                have hr : IsC r.1 (a * c - b * d) (a * d + b * c) := ⟨k1, k2, by unfold nearI; omega, by unfold nearI; omega⟩
                rw [e1, Option.bind_some, norm_is hr (inB_iff.2 ⟨⟨by omega, by omega⟩, ⟨by omega, by omega⟩⟩), Option.bind_some, if_pos k0, if_pos rfl]
                rw [show wrap64 (wrap64 ((c, d, true).1 * (c, d, true).1) + wrap64 ((c, d, true).2.1 * (c, d, true).2.1)) = c * c + d * d from square_sum s' (by omega)]
                have q1 := mul_small (M := 1024) s0.1.1 s0.1.2 s0.1.1 s0.1.2
                have q2 := mul_small (M := 1024) s0.2.1 s0.2.2 s0.2.1 s0.2.2
                have q3 := mul_small (M := 1024) s1.1.1 s1.1.2 s1.1.1 s1.1.2
                have q4 := mul_small (M := 1024) s1.2.1 s1.2.2 s1.2.1 s1.2.2
                have q5 := mul_small (M := 2097152) (a := a * a + b * b) (b := c * c + d * d) (by omega) (by omega) (by omega) (by omega)
                have w := w64 (x := (a * a + b * b) * (c * c + d * d)) (by omega) (by omega)
                rw [norm_product]
                simp only [w]
                simp
      · rw [if_neg s', if_neg (by simp), out]
    · rw [refParts_far h' (by omega) (by omega), Option.bind_some, if_neg (by simp), out]
  · rw [norm_not s, Option.bind_some, r, Option.bind_some, if_neg (by simp), if_pos rfl]
    rfl
end Go.Proofs.Ytjaefcinaackeaa.Pure
