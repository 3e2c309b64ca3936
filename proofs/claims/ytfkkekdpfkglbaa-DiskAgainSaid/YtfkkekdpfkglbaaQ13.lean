/- A function of the program or a law's row comes to what the Lean function beside it says; no condition beyond those typed. Written by a program of this workplace; Lean checks it. -/
import Derived.Test.YtfkkekdpfkglbaaQ0
import Derived.Test.YtfkkekdpfkglbaaQ11
import Derived.Test.YtfkkekdpfkglbaaQ12
namespace Go.Proofs.Ytfkkekdpfkglbaa.Q
open Go.RowKit Go.Proofs.YtfkkekdpfkglbaaW.PrintWords Go.Proofs.YtfkkekdpfkglbaaW.PrintLast Go.Proofs.YtfkkekdpfkglbaaW.PrintMore
attribute [local go_sem] max2_int min2_int max_two min_two max_three min_three max_four min_four   -- for this text's walks alone
set_option linter.unusedVariables false
set_option linter.unusedSimpArgs false

/-! ### plane_Side: function 60 -/
def plane_Side.j0 : Nat → (Nat × Nat) → Int → (Nat × Nat) → Bool → Option (Int × Int)
  | 0, _, _, _, _ => none
  | k + 1, x0, x1, x2, x16 => if x16 = true then (some (0, 5)) else ((plane_mirrored.f x0).bind fun t106 => (if cmulOk t106.1 t106.2 x2.1 x2.2 = true then (if f2iOk (cmulR t106.1 t106.2 x2.1 x2.2) = true then (if (f2i (cmulR t106.1 t106.2 x2.1 x2.2)) > x1 then (some (1, 0)) else (if (f2i (cmulR t106.1 t106.2 x2.1 x2.2)) < x1 then (some ((-1), 0)) else (some (0, 0)))) else (none)) else (none)))
def plane_Side.f (k : Nat) (a0 : (Nat × Nat)) (a1 : Int) (a2 : (Nat × Nat)) : Option (Int × Int) := (plane_Small.f a0).bind fun t104 => (if t104 = true then ((plane_Small.f a2).bind fun t105 => (plane_Side.j0 k a0 a1 a2 (!t105))) else (plane_Side.j0 k a0 a1 a2 true))
theorem plane_Side.mono_l : ∀ k, (∀ y0 y1 y2 y3, LeO (plane_Side.j0 k y0 y1 y2 y3) (plane_Side.j0 (k + 1) y0 y1 y2 y3))
  | 0 => fun _ _ _ _ r h => by simp [plane_Side.j0] at h
  | k + 1 => by
    have ih0 := plane_Side.mono_l k
    · intro y0 y1 y2 y3
      unfold plane_Side.j0
      repeat' first
      | (with_reducible exact ih0 _ _ _ _)
      | (with_reducible exact LeO.refl _)
      | (with_reducible exact LeO.none _)
      | (with_reducible refine LeO.ite ?_ ?_)
      | (with_reducible refine LeO.bind ?_ (fun _ => ?_))
      | exact ih0 _ _ _ _
      | exact LeO.none _
      | refine LeO.ite ?_ ?_
      | refine LeO.bind ?_ (fun _ => ?_)
theorem plane_Side.mono : ∀ a0 a1 a2 k, LeO (plane_Side.f k a0 a1 a2) (plane_Side.f (k + 1) a0 a1 a2) := by
  intro a0 a1 a2 k
  have ih0 := plane_Side.mono_l k
  unfold plane_Side.f
  repeat' first
      | (with_reducible exact ih0 _ _ _ _)
      | (with_reducible exact LeO.refl _)
      | (with_reducible exact LeO.none _)
      | (with_reducible refine LeO.ite ?_ ?_)
      | (with_reducible refine LeO.bind ?_ (fun _ => ?_))
      | exact ih0 _ _ _ _
      | exact LeO.none _
      | refine LeO.ite ?_ ?_
      | refine LeO.bind ?_ (fun _ => ?_)
set_option maxHeartbeats 8000000 in
set_option maxRecDepth 100000 in
theorem plane_Side.calls (k : Nat) (a0 : (Nat × Nat)) (a1 : Int) (a2 : (Nat × Nat)) (r1 : Int) (r2 : Int) (w : World) (h : plane_Side.f k a0 a1 a2 = some (r1, r2)) :
    Calls Try.prog 60 #[.complex .f64 a0.1 a0.2, .int .i64 a1, .complex .f64 a2.1 a2.2] w fun e w' => e = .returned (.tuple #[.int .i64 r1, .int .i64 r2]) ∧ Drawn0 w w' := by
  have hcmul78 := fun (a_ b_ c_ d_ : Nat) (W_ : World) => run_cmul (P := Try.prog) W_ 78 a_ b_ c_ d_
  have hfi2 := fun (b_ : Nat) (W_ : World) => run_f2i (P := Try.prog) W_ 77 2 b_ (by kernel_rfl) Try.underlying2
  have H : ((plane_Small.f a0).bind fun t104 => (if t104 = true then ((plane_Small.f a2).bind fun t105 => (plane_Side.j0 k a0 a1 a2 (!t105))) else (plane_Side.j0 k a0 a1 a2 true))) = some (r1, r2) := h
  clear h
  have HC4 := Aside0.mk H
  clear H
  go_enter Try.func60, Try.ntmps60
  go_upto_region 1 with (fail)
  go_cut [16] (fun v16 wc => ∃ (kq : Nat) (x16_3 : Bool), v16 = .bool x16_3 ∧ Aside0 (plane_Side.j0 kq a0 a1 a2 x16_3 = some (r1, r2)) ∧ Aside0 (kq ≤ k) ∧ Drawn0 w wc)
  case first =>
    have H := HC4.out
    clear HC4
    replace H := Option.bind_eq_some_iff.mp H
    obtain ⟨t104, A50, H⟩ := H
    replace H : (if t104 = true then ((plane_Small.f a2).bind fun t105 => (plane_Side.j0 k a0 a1 a2 (!t105))) else (plane_Side.j0 k a0 a1 a2 true)) = some (r1, r2) := H
    have A5 := Aside0.mk A50
    clear A50
    by_cases c6 : t104 = true
    · subst c6
      have H1 : ((plane_Small.f a2).bind fun t105 => (plane_Side.j0 k a0 a1 a2 (!t105))) = some (r1, r2) := by rw [if_pos rfl] at H; exact H
      clear H
      have H := H1
      clear H1
      replace H := Option.bind_eq_some_iff.mp H
      obtain ⟨t105, A70, H⟩ := H
      replace H : (plane_Side.j0 k a0 a1 a2 (!t105)) = some (r1, r2) := H
      have A7 := Aside0.mk A70
      clear A70
      have H' := Aside0.mk H
      clear H
      go_wp2_with (first | ((with_reducible refine gate_callee (f := 58) rfl ?_); refine goesL_ (some 10) rfl rfl Try.func58 (by kernel_rfl) rfl #[.complex .f64 a0.1 a0.2] rfl (by (try simp only [List.map_toArray, List.map_cons, List.map_nil]); first | done | rfl | (simp only [List.length_drop, List.length_take]; rfl)) ?_; (with_reducible refine (plane_Small.calls a0 true _ A5.out).mono ?_); rintro e w' ⟨rfl, ⟨nd, rfl⟩⟩; refine ⟨_, rfl, ?_⟩) | (go_at_call 58; (with_reducible refine (plane_Small.calls a2 t105 _ A7.out).mono ?_); rintro e w' ⟨rfl, ⟨nd, rfl⟩⟩))
      go_meet
      case rel => exact ⟨_, (!t105), (by first | rfl | (simp; done) | (simp [*]; done)), H', ⟨by first | omega | exact Nat.le_refl _⟩, by repeat (first | exact Drawn0.refl _ | apply Drawn0.step)⟩
    · replace c6 := Bool.eq_false_iff.mpr c6
      subst c6
      have H1 : (plane_Side.j0 k a0 a1 a2 true) = some (r1, r2) := by rw [if_neg (show ¬ (false = true) by decide)] at H; exact H
      clear H
      have H := H1
      clear H1
      have H' := Aside0.mk H
      clear H
      go_wp2_with (first | ((with_reducible refine gate_callee (f := 58) rfl ?_); refine goesL_ (some 10) rfl rfl Try.func58 (by kernel_rfl) rfl #[.complex .f64 a0.1 a0.2] rfl (by (try simp only [List.map_toArray, List.map_cons, List.map_nil]); first | done | rfl | (simp only [List.length_drop, List.length_take]; rfl)) ?_; (with_reducible refine (plane_Small.calls a0 false _ A5.out).mono ?_); rintro e w' ⟨rfl, ⟨nd, rfl⟩⟩; refine ⟨_, rfl, ?_⟩))
      go_meet
      case rel => exact ⟨_, (true), (by first | rfl | (simp; done) | (simp [*]; done)), H', ⟨by first | omega | exact Nat.le_refl _⟩, by repeat (first | exact Drawn0.refl _ | apply Drawn0.step)⟩
  case rest =>
    clear HC4
    try clear p2
    try clear c5
    try clear c6
    obtain ⟨kq, x16_3, rfl, HA, HJ3, ⟨mc3, rfl⟩⟩ := hcut
    cases kq with
    | zero => exact absurd HA.out (by simp [plane_Side.j0])
    | succ kj3 =>
      have H := HA.out
      clear HA
      simp only [plane_Side.j0] at H
      by_cases c8 : x16_3 = true
      · subst c8
        have H1 : (some (0, 5)) = some (r1, r2) := by rw [if_pos rfl] at H; exact H
        clear H
        have H := H1
        clear H1
        simp only [Option.some.injEq, Prod.mk.injEq] at H
        obtain ⟨rfl, rfl⟩ := H
        go_wp2
        go_ret2
        exact ⟨by first | rfl | (simp; done) | (simp [*]; done), by repeat (first | exact Drawn0.refl _ | apply Drawn0.step)⟩
      · replace c8 := Bool.eq_false_iff.mpr c8
        subst c8
        have H1 : ((plane_mirrored.f a0).bind fun t106 => (if cmulOk t106.1 t106.2 a2.1 a2.2 = true then (if f2iOk (cmulR t106.1 t106.2 a2.1 a2.2) = true then (if (f2i (cmulR t106.1 t106.2 a2.1 a2.2)) > a1 then (some (1, 0)) else (if (f2i (cmulR t106.1 t106.2 a2.1 a2.2)) < a1 then (some ((-1), 0)) else (some (0, 0)))) else (none)) else (none))) = some (r1, r2) := by rw [if_neg (show ¬ (false = true) by decide)] at H; exact H
        clear H
        have H := H1
        clear H1
        replace H := Option.bind_eq_some_iff.mp H
        obtain ⟨t106, A90, H⟩ := H
        replace H : (if cmulOk t106.1 t106.2 a2.1 a2.2 = true then (if f2iOk (cmulR t106.1 t106.2 a2.1 a2.2) = true then (if (f2i (cmulR t106.1 t106.2 a2.1 a2.2)) > a1 then (some (1, 0)) else (if (f2i (cmulR t106.1 t106.2 a2.1 a2.2)) < a1 then (some ((-1), 0)) else (some (0, 0)))) else (none)) else (none)) = some (r1, r2) := H
        have A9 := Aside0.mk A90
        clear A90
        by_cases c10 : cmulOk t106.1 t106.2 a2.1 a2.2 = true
        · rw [if_pos c10] at H
          have c10b0 : cmulOk t106.1 t106.2 a2.1 a2.2 = true := c10
          clear c10
          by_cases c11 : f2iOk (cmulR t106.1 t106.2 a2.1 a2.2) = true
          · rw [if_pos c11] at H
            have c11b0 : f2iOk (cmulR t106.1 t106.2 a2.1 a2.2) = true := c11
            clear c11
            by_cases c12 : (f2i (cmulR t106.1 t106.2 a2.1 a2.2)) > a1
            · rw [if_pos c12] at H
              have c12b0 : decide (a1 < (f2i (cmulR t106.1 t106.2 a2.1 a2.2))) = true := decide_eq_true c12
              clear c12
              simp only [Option.some.injEq, Prod.mk.injEq] at H
              obtain ⟨rfl, rfl⟩ := H
              go_wp2_with (first | ((with_reducible refine gate_callee (f := 88) rfl ?_); refine goesL_ (some 18) rfl rfl Try.func88 (by kernel_rfl) rfl #[.complex .f64 a0.1 a0.2] rfl (by (try simp only [List.map_toArray, List.map_cons, List.map_nil]); first | done | rfl | (simp only [List.length_drop, List.length_take]; rfl)) ?_; (with_reducible refine (plane_mirrored.calls a0 t106 _ A9.out).mono ?_); rintro e w' ⟨rfl, ⟨nd, rfl⟩⟩; refine ⟨_, rfl, ?_⟩))
              go_ret2
              exact ⟨by first | rfl | (simp; done) | (simp [*]; done), by repeat (first | exact Drawn0.refl _ | apply Drawn0.step)⟩
            · rw [if_neg c12] at H
              have c12b0 : decide (a1 < (f2i (cmulR t106.1 t106.2 a2.1 a2.2))) = false := decide_eq_false c12
              clear c12
              by_cases c13 : (f2i (cmulR t106.1 t106.2 a2.1 a2.2)) < a1
              · rw [if_pos c13] at H
                have c13b0 : decide ((f2i (cmulR t106.1 t106.2 a2.1 a2.2)) < a1) = true := decide_eq_true c13
                clear c13
                simp only [Option.some.injEq, Prod.mk.injEq] at H
                obtain ⟨rfl, rfl⟩ := H
                go_wp2_with (first | ((with_reducible refine gate_callee (f := 88) rfl ?_); refine goesL_ (some 18) rfl rfl Try.func88 (by kernel_rfl) rfl #[.complex .f64 a0.1 a0.2] rfl (by (try simp only [List.map_toArray, List.map_cons, List.map_nil]); first | done | rfl | (simp only [List.length_drop, List.length_take]; rfl)) ?_; (with_reducible refine (plane_mirrored.calls a0 t106 _ A9.out).mono ?_); rintro e w' ⟨rfl, ⟨nd, rfl⟩⟩; refine ⟨_, rfl, ?_⟩))
                go_ret2
                exact ⟨by first | rfl | (simp; done) | (simp [*]; done), by repeat (first | exact Drawn0.refl _ | apply Drawn0.step)⟩
              · rw [if_neg c13] at H
                have c13b0 : decide ((f2i (cmulR t106.1 t106.2 a2.1 a2.2)) < a1) = false := decide_eq_false c13
                clear c13
                simp only [Option.some.injEq, Prod.mk.injEq] at H
                obtain ⟨rfl, rfl⟩ := H
                go_wp2_with (first | ((with_reducible refine gate_callee (f := 88) rfl ?_); refine goesL_ (some 18) rfl rfl Try.func88 (by kernel_rfl) rfl #[.complex .f64 a0.1 a0.2] rfl (by (try simp only [List.map_toArray, List.map_cons, List.map_nil]); first | done | rfl | (simp only [List.length_drop, List.length_take]; rfl)) ?_; (with_reducible refine (plane_mirrored.calls a0 t106 _ A9.out).mono ?_); rintro e w' ⟨rfl, ⟨nd, rfl⟩⟩; refine ⟨_, rfl, ?_⟩))
                go_ret2
                exact ⟨by first | rfl | (simp; done) | (simp [*]; done), by repeat (first | exact Drawn0.refl _ | apply Drawn0.step)⟩
          · rw [if_neg c11] at H
            exact absurd H (by simp)
        · rw [if_neg c10] at H
          exact absurd H (by simp)

end Go.Proofs.Ytfkkekdpfkglbaa.Q
