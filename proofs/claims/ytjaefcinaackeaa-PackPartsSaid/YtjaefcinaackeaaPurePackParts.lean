/- Any number and any factor: its parts are told alike, and come to what it was. No condition. -/
import Derived.Test.YtjaefcinaackeaaQ47
import Derived.Test.YtjaefcinaackeaaSplit
namespace Go.Proofs.Ytjaefcinaackeaa.Pure
open Go Go.RowKit Go.Proofs.Ytjaefcinaackeaa.Q Go.Proofs.YtjaefcinaackeaaW.PrintWords Go.Proofs.YtjaefcinaackeaaW.PrintLast
open Go.Proofs.Ytjaefcinaackeaa.Ieee
theorem awake02 : punnetlaw02_awake.f = some true := by decide +kernel
theorem PackParts : punnetlaw02_PackParts.Pure := by
  intro n g _ _
  refine ⟨4, ?_⟩
  unfold punnetlaw02_PackParts.f
  rw [awake02, Option.bind_some, if_pos rfl]
  obtain ⟨v, e, hv⟩ := part_tells n g
  rw [e, Option.bind_some, refPart_is, Option.bind_some]
  by_cases c : factB g = true
  · rw [if_pos c, if_pos c, if_pos c] at hv
    rw [if_pos c]
    by_cases c1 : nearB n = true
    · rw [if_pos c1, if_pos c1, if_pos c1] at hv
      rw [if_pos c1, if_pos hv.1]
      have hg : 2 ≤ g ∧ g ≤ 1000 := of_decide_eq_true c
      have hn := nearB_iff.1 c1
      obtain ⟨p1, p2, p3, p4, _, _⟩ := parted hn hg
      have nm : nearI (n % g) := by unfold nearI; omega
      have hz : IsC v.1 (n % g) (n / g) := ⟨hv.2.1, hv.2.2, nm, p4⟩
      have ho := of_is nm p4
      unfold punnetref01_Of.f
      rw [Option.bind_some, pair_eq (z' := (floatOfInt .f64 (n % g), floatOfInt .f64 (n / g))) hv.2.1 hv.2.2 ho.1 ho.2.1, decide_eq_true ⟨rfl, rfl⟩, punnetlaw02_PackParts.j0, if_neg (by simp), if_pos hv.1]
      have hj := join_is hz g
      rw [if_pos c] at hj
      have hnn := hn
      unfold nearI at hnn
      have m1 : n / g * g = n - n % g := by rw [Int.mul_comm]; omega
      rw [hj, Option.bind_some]
      rcases joinI_code (n % g) (n / g) g with ⟨c0, cn, _, cb⟩ | ⟨cj, cc⟩
      · rw [if_neg (by omega)]
        have cn' : (joinI (n % g) (n / g) g).1 = n := by rw [cn, m1]; omega
        obtain ⟨w, ew, hw⟩ := order_tells (n := (joinI (n % g) (n / g) g).1) (c := (joinI (n % g) (n / g) g).2) hj c (fun _ => by rw [cn']; exact hn)
        rw [if_pos c0, if_pos c0, cn', c0] at hw
        rw [ew, Option.bind_some, if_pos cn', if_pos c0, pair_eq hw.2.1 hw.2.2 hv.2.1 hv.2.2, decide_eq_true ⟨rfl, rfl⟩, if_pos rfl, if_pos hw.1, if_pos p2]
        rw [decide_eq_true p3]
      · rw [cj, if_pos rfl]
        have hlow : n < 0 ∧ ¬ nearI (n - n % g) := by
          rw [m1] at cc
          have : nearI (n % g + (n - n % g)) := by rw [show n % g + (n - n % g) = n by omega]; exact hn
          have h2 : ¬ nearI (n - n % g) := fun h => cc ⟨h, this⟩
          refine ⟨?_, h2⟩
          unfold nearI at h2
          omega
        rw [if_pos hlow.1]
        rw [m1, w64j (x := n - n % g) (by omega) (by omega), refNear_is, Option.bind_some]
        have : nearB (n - n % g) = false := by
          cases h : nearB (n - n % g)
          · rfl
          · exact absurd (nearB_iff.1 h) hlow.2
        rw [this]
        rfl
    · rw [if_neg c1, if_neg c1, if_neg c1] at hv
      rw [if_neg c1, if_pos hv.1]
      unfold punnetref01_Of.f
      have hz : floatOfInt .f64 0 = 0 := by decide +kernel
      rw [Option.bind_some, hz, pair_eq (z' := (0, 0)) hv.2.1 hv.2.2 is_zero is_zero, decide_eq_true ⟨rfl, rfl⟩, punnetlaw02_PackParts.j0, if_neg (by simp), if_neg (by rw [hv.1]; decide)]
      rw [is_eq hv.2.1 is_zero, is_eq hv.2.2 is_zero]
      rfl
  · rw [if_neg c, if_neg c, if_neg c] at hv
    rw [if_neg c, if_pos hv.1]
    unfold punnetref01_Of.f
    have hz : floatOfInt .f64 0 = 0 := by decide +kernel
    rw [Option.bind_some, hz, pair_eq (z' := (0, 0)) hv.2.1 hv.2.2 is_zero is_zero, decide_eq_true ⟨rfl, rfl⟩, punnetlaw02_PackParts.j0, if_neg (by simp), if_neg (by rw [hv.1]; decide)]
    rw [is_eq hv.2.1 is_zero, is_eq hv.2.2 is_zero]
    rfl
end Go.Proofs.Ytjaefcinaackeaa.Pure
