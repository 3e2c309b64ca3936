/- Any four floats and any factor: two points together come to what both come to, where all of it is told. No condition. -/
import Derived.Test.YtjaefcinaackeaaQ40
import Derived.Test.YtjaefcinaackeaaQ51
import Derived.Test.YtjaefcinaackeaaJoin
import Derived.Test.YtjaefcinaackeaaFits
namespace Go.Proofs.Ytjaefcinaackeaa.Pure
open Go Go.RowKit Go.Proofs.Ytjaefcinaackeaa.Q Go.Proofs.YtjaefcinaackeaaW.PrintWords Go.Proofs.YtjaefcinaackeaaW.PrintLast
open Go.Proofs.Ytjaefcinaackeaa.Ieee
theorem awake02 : punnetlaw02_awake.f = some true := by decide +kernel
theorem join_some {x y : Nat} (hx : (Lit.float .f64 x).wf = true) (hy : (Lit.float .f64 y).wf = true) (g : Int) : ∃ n c, pack_Join.f (x, y) g = some (n, c) ∧ (c = 0 → ∃ a b, IsC (x, y) a b ∧ factB g = true ∧ n = a + b * g ∧ nearI (a + b * g) ∧ nearI (b * g)) := by
  rcases point_cases hx hy with ⟨a, b, h⟩ | h
  · by_cases c : factB g = true
    · have j := join_is h g
      rw [if_pos c] at j
      have jc := joinI_code a b g
      generalize joinI a b g = J at *
      obtain ⟨n, k⟩ := J
      refine ⟨n, k, j, fun c0 => ⟨a, b, h, c, ?_⟩⟩
      rcases jc with ⟨_, cn, c2, c3⟩ | ⟨cj, _⟩
      · exact ⟨cn, c3, c2⟩
      · rw [c0] at cj; exact absurd (congrArg Prod.snd cj) (show ¬ (0 : Int) = 3 by decide)
    · have j := join_is h g
      rw [if_neg c] at j
      exact ⟨_, _, j, fun c0 => absurd c0 (by decide)⟩
  · by_cases c : factB g = true
    · have j := join_far h g
      rw [if_pos c] at j
      exact ⟨_, _, j, fun c0 => absurd c0 (by decide)⟩
    · have j := join_far h g
      rw [if_neg c] at j
      exact ⟨_, _, j, fun c0 => absurd c0 (by decide)⟩
theorem plus_some {x y u v : Nat} (hx : (Lit.float .f64 x).wf = true) (hy : (Lit.float .f64 y).wf = true) (hu : (Lit.float .f64 u).wf = true) (hv : (Lit.float .f64 v).wf = true) : ∃ c p q, Tells (plane_Plus.f (x, y) (u, v)) c p q := by
  rcases point_cases hx hy with ⟨a, b, h⟩ | h
  · rcases point_cases hu hv with ⟨c, d, h'⟩ | h'
    · exact ⟨_, _, _, plus_is h h'⟩
    · refine ⟨5, 0, 0, ?_⟩
      unfold plane_Plus.f
      rw [whole_is h, Option.bind_some, if_pos rfl, whole_far h', Option.bind_some, if_neg (by simp)]
      exact tells_none
  · refine ⟨5, 0, 0, ?_⟩
    unfold plane_Plus.f
    rw [whole_far h, Option.bind_some, if_neg (by simp)]
    exact tells_none
theorem PackAdds : punnetlaw02_PackAdds.Pure := by
  intro x y u v g hx hy hu hv _
  unfold punnetlaw02_PackAdds.f
  rw [awake02, Option.bind_some, if_pos rfl]
  obtain ⟨n, c, j, hj⟩ := join_some hx hy g
  obtain ⟨n', c', j', hj'⟩ := join_some hu hv g
  rw [j, Option.bind_some, j', Option.bind_some]
  by_cases c0 : c = 0
  · by_cases c0' : c' = 0
    · obtain ⟨a, b, h, hf, rfl, hn, hb⟩ := hj c0
      obtain ⟨a', b', h', _, rfl, hn', hb'⟩ := hj' c0'
      obtain ⟨w, e, hw⟩ := plus_is h h'
      rw [e, Option.bind_some, if_pos c0, if_pos c0']
      by_cases s : inB 4503599627370496 (a + a') (b + b') = true
      · rw [if_pos s, if_pos s, if_pos s] at hw
        have s' := inB_iff.1 s
        have hz : IsC w.1 (a + a') (b + b') := ⟨hw.2.1, hw.2.2, s'.1, s'.2⟩
        have j2 := join_is hz g
        rw [if_pos hf] at j2
        rw [if_pos hw.1, j2, Option.bind_some]
        rcases joinI_code (a + a') (b + b') g with ⟨k0, k1, _, _⟩ | ⟨k, _⟩
        · have e2 : wrap64 (a + b * g + (a' + b' * g)) = a + b * g + (a' + b' * g) := by
            unfold nearI at hn hn'
            exact w64 (by omega) (by omega)
          rw [if_pos k0, if_pos]
          simp only [e2]
          rw [k1, Int.add_mul]
          omega
        · rw [k, if_neg (by decide), if_pos rfl]
          rfl
      · rw [if_neg s, if_neg s, if_neg s] at hw
        rw [if_neg (by rw [hw.1]; decide)]
    · obtain ⟨_, _, _, w, e, hw⟩ := plus_some hx hy hu hv
      rw [e, Option.bind_some, if_pos c0, if_neg c0']
  · obtain ⟨_, _, _, w, e, hw⟩ := plus_some hx hy hu hv
    rw [e, Option.bind_some, if_neg c0]
end Go.Proofs.Ytjaefcinaackeaa.Pure
