/- A function of the program or a law's row comes to what the Lean function beside it says; no condition beyond those typed. Written by a program of this workplace; Lean checks it. -/
import Derived.Test.YtfkkekdpfkglbaaQ0
namespace Go.Proofs.Ytfkkekdpfkglbaa.Q
open Go.RowKit Go.Proofs.YtfkkekdpfkglbaaW.PrintWords Go.Proofs.YtfkkekdpfkglbaaW.PrintLast Go.Proofs.YtfkkekdpfkglbaaW.PrintMore
attribute [local go_sem] max2_int min2_int max_two min_two max_three min_three max_four min_four   -- for this text's walks alone
set_option linter.unusedVariables false
set_option linter.unusedSimpArgs false

/-! ### plane_Of: function 57 -/
def inP (n : Int) : Prop := n ≤ 4503599627370496 ∧ -4503599627370496 ≤ n
instance (n : Int) : Decidable (inP n) := by unfold inP; infer_instance
def plane_Of.f (a0 a1 : Int) : Option ((Nat × Nat) × Int) := some (if inP a0 ∧ inP a1 then ((Go.floatOfInt .f64 a0, Go.floatOfInt .f64 a1), 0) else ((0, 0), 3))
theorem built_two (a0 a1 : Int) : Try.prog.built 129 [(0, .int .i64 a0), (1, .int .i64 a1)] = some #[.int .i64 a0, .int .i64 a1] := by kernel_rfl
theorem two_event {ops : Array Oper} {rest : List Oper} {o : Oper} {a : Act} {Q : Exit → Act → World → Prop} {W : World} {a0 a1 : Int} {x y : Operand} (hog : o.guard = none) (ho : o.op = .build 129 #[(0, x), (1, y)]) (hx : a.eval x = .int .i64 a0) (hy : a.eval y = .int .i64 a1)
    (h : wpList Try.prog ops Q rest (a.put o.dst (.agg #[.int .i64 a0, .int .i64 a1])) W) : wpList Try.prog ops Q (o :: rest) a W := by
  refine wpList_build hog 129 #[(0, x), (1, y)] ho ?_ ?_
  · simp [hx, hy, built_two]
  · simpa [hx, hy, built_two] using h
theorem index_two (W : World) (a0 a1 i x : Int) (h : (i = 0 ∧ x = a0) ∨ (i = 1 ∧ x = a1)) : (Instr.index 129 (.agg #[.int .i64 a0, .int .i64 a1]) (.int .i64 i)).run Try.prog W = .ok (.int .i64 x) W := by
  rcases h with ⟨rfl, rfl⟩ | ⟨rfl, rfl⟩
  · kernel_rfl
  · kernel_rfl
set_option maxHeartbeats 2000000 in
set_option maxRecDepth 100000 in
theorem plane_Of.calls (a0 a1 : Int) (r1 : Nat × Nat) (r2 : Int) (w : World) (h : plane_Of.f a0 a1 = some (r1, r2)) :
    Calls Try.prog 57 #[.int .i64 a0, .int .i64 a1] w fun e w' => e = .returned (.tuple #[.complex .f64 r1.1 r1.2, .int .i64 r2]) ∧ Drawn0 w w' := by
  have h := (Option.some.inj h)
  have hif := fun (q_ : IntKind) (n_ : Int) (W_ : World) => run_convert_int_float (P := Try.prog) W_ 2 77 q_ .f64 n_ (by kernel_rfl) Try.underlying77
  have hix0 : ∀ W : World, (Instr.index 129 (.agg #[.int .i64 a0, .int .i64 a1]) (.int .i64 0)).run Try.prog W = .ok (.int .i64 a0) W := fun W => index_two W a0 a1 0 _ (.inl ⟨rfl, rfl⟩)
  have hix1 : ∀ W : World, (Instr.index 129 (.agg #[.int .i64 a0, .int .i64 a1]) (.int .i64 1)).run Try.prog W = .ok (.int .i64 a1) W := fun W => index_two W a0 a1 1 _ (.inr ⟨rfl, rfl⟩)
  go_enter Try.func57, Try.ntmps57
  go_wp2_with ((with_reducible refine gate_dst (N := 10) rfl ?_); refine two_event rfl rfl rfl rfl ?_)
  go_loopg [11] 2 (fun kq v11 w' => ∃ i : Int, v11 = .int .i64 i ∧ Aside0 (0 ≤ i ∧ i + kq = 2 ∧ (1 ≤ i → inP a0) ∧ (2 ≤ i → inP a1)) ∧ Aside0 (w' = w))
  case atStart => exact ⟨0, rfl, ⟨by omega, by omega, fun h => by omega, fun h => by omega⟩, ⟨rfl⟩⟩
  case round =>
    obtain ⟨i, rfl, HK, HW⟩ := hrel
    obtain rfl := HW.out
    have hk := HK.out
    rcases (show i = 0 ∨ i = 1 ∨ i = 2 by omega) with rfl | rfl | rfl
    · obtain ⟨k1, rfl⟩ : ∃ k1, gk = k1 + 1 := ⟨gk - 1, by omega⟩
      by_cases hc : inP a0
      · have c1 : decide (4503599627370496 < a0) = false := decide_eq_false (by unfold inP at hc; omega)
        have c2 : decide (a0 < -4503599627370496) = false := decide_eq_false (by unfold inP at hc; omega)
        go_wp2
        go_roundg k1
        case measure => omega
        case rel => exact ⟨1, by first | rfl | (simp; done) | decide, ⟨by omega, by omega, fun _ => hc, fun h => by omega⟩, ⟨rfl⟩⟩
      · rw [if_neg (fun c => hc c.1)] at h
        obtain ⟨rfl, rfl⟩ := Prod.mk.inj h
        by_cases hg : 4503599627370496 < a0
        · have c1 : decide (4503599627370496 < a0) = true := decide_eq_true hg
          go_wp2
          go_ret2
          exact ⟨rfl, Drawn0.refl _⟩
        · have c1 : decide (4503599627370496 < a0) = false := decide_eq_false hg
          have hl : a0 < -4503599627370496 := by unfold inP at hc; omega
          have c2 : decide (a0 < -4503599627370496) = true := decide_eq_true hl
          go_wp2
          go_ret2
          exact ⟨rfl, Drawn0.refl _⟩
    · obtain ⟨k1, rfl⟩ : ∃ k1, gk = k1 + 1 := ⟨gk - 1, by omega⟩
      by_cases hc : inP a1
      · have c1 : decide (4503599627370496 < a1) = false := decide_eq_false (by unfold inP at hc; omega)
        have c2 : decide (a1 < -4503599627370496) = false := decide_eq_false (by unfold inP at hc; omega)
        go_wp2
        go_roundg k1
        case measure => omega
        case rel => exact ⟨2, by first | rfl | (simp; done) | decide, ⟨by omega, by omega, fun _ => hk.2.2.1 (by omega), fun _ => hc⟩, ⟨rfl⟩⟩
      · rw [if_neg (fun c => hc c.2)] at h
        obtain ⟨rfl, rfl⟩ := Prod.mk.inj h
        by_cases hg : 4503599627370496 < a1
        · have c1 : decide (4503599627370496 < a1) = true := decide_eq_true hg
          go_wp2
          go_ret2
          exact ⟨rfl, Drawn0.refl _⟩
        · have c1 : decide (4503599627370496 < a1) = false := decide_eq_false hg
          have hl : a1 < -4503599627370496 := by unfold inP at hc; omega
          have c2 : decide (a1 < -4503599627370496) = true := decide_eq_true hl
          go_wp2
          go_ret2
          exact ⟨rfl, Drawn0.refl _⟩
    · rw [if_pos ⟨hk.2.2.1 (by omega), hk.2.2.2 (by omega)⟩] at h
      obtain ⟨rfl, rfl⟩ := Prod.mk.inj h
      go_wp2
      go_ret2
      exact ⟨rfl, Drawn0.refl _⟩

end Go.Proofs.Ytfkkekdpfkglbaa.Q
