/- Which side of any line the places that New takes lie on; the law's walk for any places. Conditions: as typed. -/
import Derived.Test.YtfkkekdpfkglbaaNetSide
import Derived.Test.YtfkkekdpfkglbaaNetSides
set_option linter.unusedSimpArgs false
set_option linter.unusedVariables false
namespace Go.Proofs.Ytfkkekdpfkglbaa.Ieee
open Go Go.RowKit
open _root_.Ieee
open Go.Proofs.Ytfkkekdpfkglbaa.Q Go.Proofs.YtfkkekdpfkglbaaW.PrintWords Go.Proofs.YtfkkekdpfkglbaaW.PrintLast
theorem zero_is : IsC (0, 0) 0 0 := ⟨is_zero, is_zero, by unfold nearI; omega, by unfold nearI; omega⟩
theorem ok_small {a b : Int} (h : okP a b = true) : IsC (zOf a b) a b ∧ inB 33554432 a b = true := by
  unfold okP cutOk at h
  have h2 := Bool.and_eq_true_iff.1 h
  have hc : cOf a b = 0 := of_decide_eq_true h2.1
  have hp : inP a ∧ inP b := by
    apply Classical.byContradiction
    intro hn
    unfold cOf at hc
    rw [if_neg hn] at hc
    omega
  have hz : zOf a b = (Go.floatOfInt .f64 a, Go.floatOfInt .f64 b) := by unfold zOf; rw [if_pos hp]
  have hi : IsC (zOf a b) a b := by
    rw [hz]
    exact of_is ⟨hp.1.2, hp.1.1⟩ ⟨hp.2.2, hp.2.1⟩
  refine ⟨hi, ?_⟩
  have := small_is hi
  rw [small_eq] at this
  rw [← Option.some.inj this]
  exact h2.2
theorem small_ok {a b : Int} (h : inB 33554432 a b = true) : okP a b = true := by
  have s := inB_iff.1 h
  have hp : inP a ∧ inP b := by unfold inP; omega
  have hz : zOf a b = (Go.floatOfInt .f64 a, Go.floatOfInt .f64 b) := by unfold zOf; rw [if_pos hp]
  have hi : IsC (zOf a b) a b := by
    rw [hz]
    exact of_is ⟨hp.1.2, hp.1.1⟩ ⟨hp.2.2, hp.2.1⟩
  have := small_is hi
  rw [small_eq] at this
  unfold okP cutOk cOf
  rw [if_pos hp, Option.some.inj this, h]
  rfl
theorem side_ok {a b x y : Int} (h : okP a b = true) (h' : okP x y = true) (t : Int) : plane_Side.f 2 (zOf x y) t (zOf a b) = some (sideI (x * a + y * b) t, 0) := by
  obtain ⟨i1, s1⟩ := ok_small h
  obtain ⟨i2, s2⟩ := ok_small h'
  exact side_is i2 i1 s2 s1 1 t
theorem side_way0 {a b : Int} (h : okP a b = true) (t : Int) : plane_Side.f 2 (0, 0) t (zOf a b) = some (sideI 0 t, 0) := by
  obtain ⟨i1, s1⟩ := ok_small h
  have := side_is zero_is i1 (by decide) s1 1 t
  rw [this]
  simp
theorem sdF_ok {a b x y : Int} (h : okP a b = true) (h' : okP x y = true) (t : Int) : sdF (zOf x y) t (zOf a b) = sideI (x * a + y * b) t := by
  unfold sdF
  rw [side_ok h h' t]
  rfl
theorem pts_mem {re im : List Int} {n : Nat} (hk : ∀ i : Nat, i < n → okP (rd re (i : Int)) (rd im (i : Int)) = true) {z : Nat × Nat} (hz : z ∈ pts re im n) : ∃ a b, z = zOf a b ∧ okP a b = true := by
  unfold pts at hz
  obtain ⟨i, hi, rfl⟩ := List.mem_map.1 hz
  exact ⟨_, _, rfl, hk i (List.mem_range.1 hi)⟩
end Go.Proofs.Ytfkkekdpfkglbaa.Ieee
namespace Go.Proofs.Ytfkkekdpfkglbaa.Q
open Go.RowKit Go.Proofs.YtfkkekdpfkglbaaW.PrintWords Go.Proofs.YtfkkekdpfkglbaaW.PrintLast Go.Proofs.YtfkkekdpfkglbaaW.PrintMore
open Go.Proofs.Ytfkkekdpfkglbaa.Ieee
theorem netSides_calls (A0 A1 : Option Addr) (c0 c1 : Nat) (re im : List Int) (x y off a b c : Int) (w : World) (h0 : Kd.C (Kd.int .i64) w A0 re.length re) (h1 : Kd.C (Kd.int .i64) w A1 im.length im) (hc0 : re.length ≤ c0) (hc1 : im.length ≤ c1) :
    Calls Try.prog 4 #[.slice A0 re.length c0, .slice A1 im.length c1, .int .i64 x, .int .i64 y, .int .i64 off, .int .i64 a, .int .i64 b, .int .i64 c] w fun e w' => e = .returned (.bool true) ∧ Below w.heap.size w w' := by
  by_cases hbad : (re.length = im.length ∧ 1 ≤ re.length ∧ re.length ≤ 6) ∧ ∀ i : Nat, i < re.length → okP (rd re (i : Int)) (rd im (i : Int)) = true
  · obtain ⟨hl, hk⟩ := hbad
    refine netSides_ok A0 A1 c0 c1 re im x y off a b c w h0 h1 hc0 hc1 hl hk _ rfl ?_ ?_ ?_ ?_ ?_
    · intro z hz
      obtain ⟨a, b, rfl, hab⟩ := pts_mem hk hz
      exact ⟨0, by rw [side_way0 hab]; unfold sdF; rw [side_way0 hab]; rfl⟩
    · refine ⟨sideI 0 0, fun z hz => ?_⟩
      obtain ⟨a, b, rfl, hab⟩ := pts_mem hk hz
      unfold sdF; rw [side_way0 hab]; rfl
    · intro hxy z hz
      obtain ⟨a, b, rfl, hab⟩ := pts_mem hk hz
      exact ⟨0, by rw [side_ok hab hxy, sdF_ok hab hxy]⟩
    · intro z hz
      obtain ⟨a, b, rfl, hab⟩ := pts_mem hk hz
      exact ⟨0, by rw [side_ok hab day_zero, sdF_ok hab day_zero]⟩
    · refine ⟨sideI 0 off, fun z hz => ?_⟩
      obtain ⟨a, b, rfl, hab⟩ := pts_mem hk hz
      rw [sdF_ok hab day_zero]
      simp
  · exact netSides_new A0 A1 c0 c1 re im x y off a b c w h0 h1 hc0 hc1 hbad
end Go.Proofs.Ytfkkekdpfkglbaa.Q
