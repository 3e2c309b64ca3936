/- A function of the program or a law's row comes to what the Lean function beside it says; no condition beyond those typed. Written by a program of this workplace; Lean checks it. -/
import Derived.Test.YtcgbcnalofecgaaQ0
namespace Go.Proofs.Ytcgbcnalofecgaa.Q
open Go.RowKit Go.Proofs.YtcgbcnalofecgaaW.PrintWords Go.Proofs.YtcgbcnalofecgaaW.PrintLast Go.Proofs.YtcgbcnalofecgaaW.PrintMore
attribute [local go_sem] max2_int min2_int max_two min_two max_three min_three max_four min_four   -- for this text's walks alone
set_option linter.unusedVariables false
set_option linter.unusedSimpArgs false

/-! ### punnetref06_Byte: function 29 -/
def punnetref06_Byte.l0 : Nat → Int → Int → Option (Int)
  | 0, _, _ => none
  | k + 1, x3, x4 => if x4 < 8 then (if (Int.tmod x3 2) = 1 then (punnetref06_Byte.l0 k (Go.bits .xor .u32 ((Int.tdiv x3 2) % 4294967296) 3988292384) (wrap64 (x4 + 1))) else (punnetref06_Byte.l0 k ((Int.tdiv x3 2) % 4294967296) (wrap64 (x4 + 1)))) else (some x3)
def punnetref06_Byte.f (k : Nat) (a0 : Int) : Option (Int) := punnetref06_Byte.l0 k ((a0) % 4294967296) 0
theorem punnetref06_Byte.mono_l : ∀ k, (∀ y0 y1, LeO (punnetref06_Byte.l0 k y0 y1) (punnetref06_Byte.l0 (k + 1) y0 y1))
  | 0 => fun _ _ r h => by simp [punnetref06_Byte.l0] at h
  | k + 1 => by
    have ih0 := punnetref06_Byte.mono_l k
    · intro y0 y1
      unfold punnetref06_Byte.l0
      repeat' first
      | (with_reducible exact ih0 _ _)
      | (with_reducible exact LeO.refl _)
      | (with_reducible exact LeO.none _)
      | (with_reducible refine LeO.ite ?_ ?_)
      | (with_reducible refine LeO.bind ?_ (fun _ => ?_))
      | exact ih0 _ _
      | exact LeO.none _
      | refine LeO.ite ?_ ?_
      | refine LeO.bind ?_ (fun _ => ?_)
theorem punnetref06_Byte.mono : ∀ a0 k, LeO (punnetref06_Byte.f k a0) (punnetref06_Byte.f (k + 1) a0) := by
  intro a0 k
  have ih0 := punnetref06_Byte.mono_l k
  unfold punnetref06_Byte.f
  repeat' first
      | (with_reducible exact ih0 _ _)
      | (with_reducible exact LeO.refl _)
      | (with_reducible exact LeO.none _)
      | (with_reducible refine LeO.ite ?_ ?_)
      | (with_reducible refine LeO.bind ?_ (fun _ => ?_))
      | exact ih0 _ _
      | exact LeO.none _
      | refine LeO.ite ?_ ?_
      | refine LeO.bind ?_ (fun _ => ?_)
set_option maxHeartbeats 8000000 in
set_option maxRecDepth 100000 in
theorem punnetref06_Byte.calls (k : Nat) (a0 : Int) (r : Int) (w : World) (h : punnetref06_Byte.f k a0 = some r) :
    Calls Try.prog 29 #[.int .u8 a0] w fun e w' => e = .returned (.int .u32 r) ∧ Drawn0 w w' := by
  have H : (punnetref06_Byte.l0 k ((a0) % 4294967296) 0) = some r := h
  clear h
  have H' := Aside0.mk H
  clear H
  go_enter Try.func29, Try.ntmps29
  go_wp2
  go_loopg [3, 4] k (fun kq v3 v4 w' => ∃ (x3_1 : Int) (x4_1 : Int), v3 = .int .u32 x3_1 ∧ v4 = .int .i64 x4_1 ∧ Aside0 (punnetref06_Byte.l0 kq x3_1 x4_1 = some r) ∧ Aside0 (kq ≤ k) ∧ Drawn0 w w')
  case atStart => exact ⟨((a0) % 4294967296), (0), (by first | rfl | (simp; done) | (simp [*]; done)), (by first | rfl | (simp; done) | (simp [*]; done)), H', ⟨Nat.le_refl _⟩, by repeat (first | exact Drawn0.refl _ | apply Drawn0.step)⟩
  case round =>
    clear H'
    obtain ⟨x3_1, x4_1, rfl, rfl, HA, HK1, ⟨m1, rfl⟩⟩ := hrel
    cases gk with
    | zero => exact absurd HA.out (by simp [punnetref06_Byte.l0])
    | succ k1 =>
      have H := HA.out
      clear HA
      simp only [punnetref06_Byte.l0] at H
      by_cases c2 : x4_1 < 8
      · rw [if_pos c2] at H
        have c2b0 : decide (x4_1 < 8) = true := decide_eq_true c2
        clear c2
        by_cases c3 : (Int.tmod x3_1 2) = 1
        · rw [if_pos c3] at H
          have c3b0 : ((Int.tmod x3_1 2) == 1) = true := beq_iff_eq.mpr c3
          have c3b1 : ((Int.tmod x3_1 2) != 1) = false := bne_eq_false_iff_eq.mpr c3
          clear c3
          have H' := Aside0.mk H
          clear H
          go_wp2
          go_roundg k1
          case measure => have := HK1.out; omega
          case rel => exact ⟨(Go.bits .xor .u32 ((Int.tdiv x3_1 2) % 4294967296) 3988292384), (wrap64 (x4_1 + 1)), (by first | rfl | (simp; done) | (simp [*]; done)), (by first | rfl | (simp; done) | (simp [*]; done)), H', ⟨by have := HK1.out; omega⟩, by repeat (first | exact Drawn0.refl _ | apply Drawn0.step)⟩
        · rw [if_neg c3] at H
          have c3b0 : ((Int.tmod x3_1 2) == 1) = false := beq_eq_false_iff_ne.mpr c3
          have c3b1 : ((Int.tmod x3_1 2) != 1) = true := bne_iff_ne.mpr c3
          have H' := Aside0.mk H
          clear H
          go_wp2
          go_roundg k1
          case measure => have := HK1.out; omega
          case rel => exact ⟨((Int.tdiv x3_1 2) % 4294967296), (wrap64 (x4_1 + 1)), (by first | rfl | (simp; done) | (simp [*]; done)), (by first | rfl | (simp; done) | (simp [*]; done)), H', ⟨by have := HK1.out; omega⟩, by repeat (first | exact Drawn0.refl _ | apply Drawn0.step)⟩
      · rw [if_neg c2] at H
        have c2b0 : decide (x4_1 < 8) = false := decide_eq_false c2
        clear c2
        obtain rfl := Option.some.inj H
        go_wp2
        go_ret
        exact ⟨by first | rfl | (simp; done) | (simp [*]; done), by repeat (first | exact Drawn0.refl _ | apply Drawn0.step)⟩

end Go.Proofs.Ytcgbcnalofecgaa.Q
