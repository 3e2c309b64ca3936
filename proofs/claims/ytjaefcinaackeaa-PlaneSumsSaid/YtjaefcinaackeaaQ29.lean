/- A function of the program or a law's row comes to what the Lean function beside it says; no condition beyond those typed. Written by a program of this workplace; Lean checks it. -/
import Derived.Test.YtjaefcinaackeaaQ0
import Derived.Test.YtjaefcinaackeaaQ16
import Derived.Test.YtjaefcinaackeaaQ20
import Derived.Test.YtjaefcinaackeaaQ23
namespace Go.Proofs.Ytjaefcinaackeaa.Q
open Go.RowKit Go.Proofs.YtjaefcinaackeaaW.PrintWords Go.Proofs.YtjaefcinaackeaaW.PrintLast Go.Proofs.YtjaefcinaackeaaW.PrintMore
attribute [local go_sem] max2_int min2_int max_two min_two max_three min_three max_four min_four   -- for this text's walks alone
set_option linter.unusedVariables false
set_option linter.unusedSimpArgs false

/-! ### punnetref01_Sum: function 24 -/
def punnetref01_Sum.j0 : Nat → Int → Int → Int → Int → Int → Bool → Option ((Nat × Nat) × Int)
  | 0, _, _, _, _, _, _ => none
  | k + 1, x2, x8, x9, x11, x12, x33 => if x33 = true then (some ((0, 0), 5)) else ((punnetref01_Fits.f (wrap64 (x8 + (wrap64 (x2 * x11)))) (wrap64 (x9 + (wrap64 (x2 * x12))))).bind fun t183 => (if t183 = true then ((punnetref01_Of.f (wrap64 (x8 + (wrap64 (x2 * x11)))) (wrap64 (x9 + (wrap64 (x2 * x12))))).bind fun t184 => (some (t184, 0))) else (some ((0, 0), 3))))
def punnetref01_Sum.f (k : Nat) (a0 : (Nat × Nat)) (a1 : (Nat × Nat)) (a2 : Int) : Option ((Nat × Nat) × Int) := (punnetref01_Parts.f a0 4503599627370496).bind fun bt177 => ((punnetref01_Parts.f a1 4503599627370496).bind fun bt180 => (if bt177.2.2 = true then (punnetref01_Sum.j0 k a2 bt177.1 bt177.2.1 bt180.1 bt180.2.1 (!bt180.2.2)) else (punnetref01_Sum.j0 k a2 bt177.1 bt177.2.1 bt180.1 bt180.2.1 true)))
theorem punnetref01_Sum.mono_l : ∀ k, (∀ y0 y1 y2 y3 y4 y5, LeO (punnetref01_Sum.j0 k y0 y1 y2 y3 y4 y5) (punnetref01_Sum.j0 (k + 1) y0 y1 y2 y3 y4 y5))
  | 0 => fun _ _ _ _ _ _ r h => by simp [punnetref01_Sum.j0] at h
  | k + 1 => by
    have ih0 := punnetref01_Sum.mono_l k
    · intro y0 y1 y2 y3 y4 y5
      unfold punnetref01_Sum.j0
      repeat' first
      | (with_reducible exact ih0 _ _ _ _ _ _)
      | (with_reducible exact LeO.refl _)
      | (with_reducible exact LeO.none _)
      | (with_reducible refine LeO.ite ?_ ?_)
      | (with_reducible refine LeO.bind ?_ (fun _ => ?_))
      | exact ih0 _ _ _ _ _ _
      | exact LeO.none _
      | refine LeO.ite ?_ ?_
      | refine LeO.bind ?_ (fun _ => ?_)
theorem punnetref01_Sum.mono : ∀ a0 a1 a2 k, LeO (punnetref01_Sum.f k a0 a1 a2) (punnetref01_Sum.f (k + 1) a0 a1 a2) := by
  intro a0 a1 a2 k
  have ih0 := punnetref01_Sum.mono_l k
  unfold punnetref01_Sum.f
  repeat' first
      | (with_reducible exact ih0 _ _ _ _ _ _)
      | (with_reducible exact LeO.refl _)
      | (with_reducible exact LeO.none _)
      | (with_reducible refine LeO.ite ?_ ?_)
      | (with_reducible refine LeO.bind ?_ (fun _ => ?_))
      | exact ih0 _ _ _ _ _ _
      | exact LeO.none _
      | refine LeO.ite ?_ ?_
      | refine LeO.bind ?_ (fun _ => ?_)
set_option maxHeartbeats 8000000 in
set_option maxRecDepth 100000 in
theorem punnetref01_Sum.calls (k : Nat) (a0 : (Nat × Nat)) (a1 : (Nat × Nat)) (a2 : Int) (r1 : (Nat × Nat)) (r2 : Int) (w : World) (h : punnetref01_Sum.f k a0 a1 a2 = some (r1, r2)) :
    Calls Try.prog 24 #[.complex .f64 a0.1 a0.2, .complex .f64 a1.1 a1.2, .int .i64 a2] w fun e w' => e = .returned (.tuple #[.complex .f64 r1.1 r1.2, .int .i64 r2]) ∧ Below w.heap.size w w' := by
  have HB := Aside0.mk (Below.refl w.heap.size w)
  have H : ((punnetref01_Parts.f a0 4503599627370496).bind fun bt177 => ((punnetref01_Parts.f a1 4503599627370496).bind fun bt180 => (if bt177.2.2 = true then (punnetref01_Sum.j0 k a2 bt177.1 bt177.2.1 bt180.1 bt180.2.1 (!bt180.2.2)) else (punnetref01_Sum.j0 k a2 bt177.1 bt177.2.1 bt180.1 bt180.2.1 true)))) = some (r1, r2) := h
  clear h
  replace H := Option.bind_eq_some_iff.mp H
  obtain ⟨⟨t177, t178, t179⟩, A40, H⟩ := H
  replace H : ((punnetref01_Parts.f a1 4503599627370496).bind fun bt180 => (if t179 = true then (punnetref01_Sum.j0 k a2 t177 t178 bt180.1 bt180.2.1 (!bt180.2.2)) else (punnetref01_Sum.j0 k a2 t177 t178 bt180.1 bt180.2.1 true))) = some (r1, r2) := H
  have A4 := Aside0.mk A40
  clear A40
  replace H := Option.bind_eq_some_iff.mp H
  obtain ⟨⟨t180, t181, t182⟩, A50, H⟩ := H
  replace H : (if t179 = true then (punnetref01_Sum.j0 k a2 t177 t178 t180 t181 (!t182)) else (punnetref01_Sum.j0 k a2 t177 t178 t180 t181 true)) = some (r1, r2) := H
  have A5 := Aside0.mk A50
  clear A50
  have HC6 := Aside0.mk H
  clear H
  go_enter Try.func24, Try.ntmps24
  go_upto_region 3 with (first | ((with_reducible refine gate_callee (f := 13) rfl ?_); refine goesL_ (some 18) rfl rfl Try.func13 (by kernel_rfl) rfl #[.complex .f64 a0.1 a0.2, .int .i64 4503599627370496] rfl (by (try simp only [List.map_toArray, List.map_cons, List.map_nil]); first | done | rfl | (simp only [List.length_drop, List.length_take]; rfl)) ?_; (with_reducible refine (punnetref01_Parts.calls a0 4503599627370496 t177 t178 t179 _ A4.out).mono ?_); rintro e w7 ⟨rfl, hb⟩; refine ⟨_, rfl, ?_⟩; have n0_ := Aside0.mk (below_step (by repeat (first | (with_reducible first | exact HB.out | apply below_alloc | apply pw_below_drewN | apply below_drew1) | exact HB.out)) hb); clear HB; have HB := n0_; clear n0_; (try clear hb); (try clear hb2); (try clear hk); (try clear hi)) | ((with_reducible refine gate_callee (f := 13) rfl ?_); refine goesL_ (some 24) rfl rfl Try.func13 (by kernel_rfl) rfl #[.complex .f64 a1.1 a1.2, .int .i64 4503599627370496] rfl (by (try simp only [List.map_toArray, List.map_cons, List.map_nil]); first | done | rfl | (simp only [List.length_drop, List.length_take]; rfl)) ?_; (with_reducible refine (punnetref01_Parts.calls a1 4503599627370496 t180 t181 t182 _ A5.out).mono ?_); rintro e w8 ⟨rfl, hb⟩; refine ⟨_, rfl, ?_⟩; have n0_ := Aside0.mk (below_step (by repeat (first | (with_reducible first | exact HB.out | apply below_alloc | apply pw_below_drewN | apply below_drew1) | exact HB.out)) hb); clear HB; have HB := n0_; clear n0_; (try clear hb); (try clear hb2); (try clear hk); (try clear hi)))
  (try simp only [Act.put, List.setIfInBounds_toArray, List.set_cons_zero, List.set_cons_succ])
  go_cut [33] (fun v33 wc => ∃ (kq : Nat) (x33_5 : Bool), v33 = .bool x33_5 ∧ Aside0 (punnetref01_Sum.j0 kq a2 t177 t178 t180 t181 x33_5 = some (r1, r2)) ∧ Aside0 (kq ≤ k) ∧ Aside0 (Below w.heap.size w wc))
  case first =>
    have H := HC6.out
    clear HC6
    by_cases c9 : t179 = true
    · subst c9
      have H1 : (punnetref01_Sum.j0 k a2 t177 t178 t180 t181 (!t182)) = some (r1, r2) := by rw [if_pos rfl] at H; exact H
      clear H
      have H := H1
      clear H1
      have H' := Aside0.mk H
      clear H
      go_wp2
      go_meet
      case rel => exact ⟨_, (!t182), (by first | rfl | (simp; done) | (simp [*]; done)), H', ⟨by first | omega | exact Nat.le_refl _⟩, ⟨by repeat (first | (with_reducible first | exact HB.out | apply below_alloc | apply pw_below_drewN | apply below_drew1) | exact HB.out)⟩⟩
    · replace c9 := Bool.eq_false_iff.mpr c9
      subst c9
      have H1 : (punnetref01_Sum.j0 k a2 t177 t178 t180 t181 true) = some (r1, r2) := by rw [if_neg (show ¬ (false = true) by decide)] at H; exact H
      clear H
      have H := H1
      clear H1
      have H' := Aside0.mk H
      clear H
      go_wp2
      go_meet
      case rel => exact ⟨_, (true), (by first | rfl | (simp; done) | (simp [*]; done)), H', ⟨by first | omega | exact Nat.le_refl _⟩, ⟨by repeat (first | (with_reducible first | exact HB.out | apply below_alloc | apply pw_below_drewN | apply below_drew1) | exact HB.out)⟩⟩
  case rest =>
    clear HC6
    try clear c1
    try clear c2
    try clear p2
    try clear c9
    obtain ⟨kq, x33_5, rfl, HA, HJ5, HB⟩ := hcut
    cases kq with
    | zero => exact absurd HA.out (by simp [punnetref01_Sum.j0])
    | succ kj5 =>
      have H := HA.out
      clear HA
      simp only [punnetref01_Sum.j0] at H
      by_cases c10 : x33_5 = true
      · subst c10
        have H1 : (some ((0, 0), 5)) = some (r1, r2) := by rw [if_pos rfl] at H; exact H
        clear H
        have H := H1
        clear H1
        simp only [Option.some.injEq, Prod.mk.injEq] at H
        obtain ⟨rfl, rfl⟩ := H
        go_wp2
        go_ret2
        exact ⟨by first | rfl | (simp [errW_none, errW_some] <;> rfl) | (simp [*, errW_none, errW_some] <;> rfl), by repeat (first | (with_reducible first | exact HB.out | apply below_alloc | apply pw_below_drewN | apply below_drew1) | exact HB.out)⟩
      · replace c10 := Bool.eq_false_iff.mpr c10
        subst c10
        have H1 : ((punnetref01_Fits.f (wrap64 (t177 + (wrap64 (a2 * t180)))) (wrap64 (t178 + (wrap64 (a2 * t181))))).bind fun t183 => (if t183 = true then ((punnetref01_Of.f (wrap64 (t177 + (wrap64 (a2 * t180)))) (wrap64 (t178 + (wrap64 (a2 * t181))))).bind fun t184 => (some (t184, 0))) else (some ((0, 0), 3)))) = some (r1, r2) := by rw [if_neg (show ¬ (false = true) by decide)] at H; exact H
        clear H
        have H := H1
        clear H1
        replace H := Option.bind_eq_some_iff.mp H
        obtain ⟨t183, A110, H⟩ := H
        replace H : (if t183 = true then ((punnetref01_Of.f (wrap64 (t177 + (wrap64 (a2 * t180)))) (wrap64 (t178 + (wrap64 (a2 * t181))))).bind fun t184 => (some (t184, 0))) else (some ((0, 0), 3))) = some (r1, r2) := H
        have A11 := Aside0.mk A110
        clear A110
        by_cases c12 : t183 = true
        · subst c12
          have H1 : ((punnetref01_Of.f (wrap64 (t177 + (wrap64 (a2 * t180)))) (wrap64 (t178 + (wrap64 (a2 * t181))))).bind fun t184 => (some (t184, 0))) = some (r1, r2) := by rw [if_pos rfl] at H; exact H
          clear H
          have H := H1
          clear H1
          replace H := Option.bind_eq_some_iff.mp H
          obtain ⟨t184, A130, H⟩ := H
          replace H : (some (t184, 0)) = some (r1, r2) := H
          have A13 := Aside0.mk A130
          clear A130
          simp only [Option.some.injEq, Prod.mk.injEq] at H
          obtain ⟨rfl, rfl⟩ := H
          go_wp2_with (first | ((with_reducible refine gate_callee (f := 18) rfl ?_); refine goesL_ (some 46) rfl rfl Try.func18 (by kernel_rfl) rfl #[.int .i64 (wrap64 (t177 + (wrap64 (a2 * t180)))), .int .i64 (wrap64 (t178 + (wrap64 (a2 * t181))))] rfl (by (try simp only [List.map_toArray, List.map_cons, List.map_nil]); first | done | rfl | (simp only [List.length_drop, List.length_take]; rfl)) ?_; (with_reducible refine (punnetref01_Fits.calls (wrap64 (t177 + (wrap64 (a2 * t180)))) (wrap64 (t178 + (wrap64 (a2 * t181)))) true _ A11.out).mono ?_); rintro e w' ⟨rfl, ⟨nd, rfl⟩⟩; refine ⟨_, rfl, ?_⟩) | ((with_reducible refine gate_callee (f := 36) rfl ?_); refine goesL_ (some 50) rfl rfl Try.func36 (by kernel_rfl) rfl #[.int .i64 (wrap64 (t177 + (wrap64 (a2 * t180)))), .int .i64 (wrap64 (t178 + (wrap64 (a2 * t181))))] rfl (by (try simp only [List.map_toArray, List.map_cons, List.map_nil]); first | done | rfl | (simp only [List.length_drop, List.length_take]; rfl)) ?_; (with_reducible refine (punnetref01_Of.calls (wrap64 (t177 + (wrap64 (a2 * t180)))) (wrap64 (t178 + (wrap64 (a2 * t181)))) t184 _ A13.out).mono ?_); rintro e w14 ⟨rfl, hb⟩; refine ⟨_, rfl, ?_⟩; have n0_ := Aside0.mk (below_step (by repeat (first | (with_reducible first | exact HB.out | apply below_alloc | apply pw_below_drewN | apply below_drew1) | exact HB.out)) hb); clear HB; have HB := n0_; clear n0_; (try clear hb); (try clear hb2); (try clear hk); (try clear hi)))
          go_ret2
          exact ⟨by first | rfl | (simp [errW_none, errW_some] <;> rfl) | (simp [*, errW_none, errW_some] <;> rfl), by repeat (first | (with_reducible first | exact HB.out | apply below_alloc | apply pw_below_drewN | apply below_drew1) | exact HB.out)⟩
        · replace c12 := Bool.eq_false_iff.mpr c12
          subst c12
          have H1 : (some ((0, 0), 3)) = some (r1, r2) := by rw [if_neg (show ¬ (false = true) by decide)] at H; exact H
          clear H
          have H := H1
          clear H1
          simp only [Option.some.injEq, Prod.mk.injEq] at H
          obtain ⟨rfl, rfl⟩ := H
          go_wp2_with (first | ((with_reducible refine gate_callee (f := 18) rfl ?_); refine goesL_ (some 46) rfl rfl Try.func18 (by kernel_rfl) rfl #[.int .i64 (wrap64 (t177 + (wrap64 (a2 * t180)))), .int .i64 (wrap64 (t178 + (wrap64 (a2 * t181))))] rfl (by (try simp only [List.map_toArray, List.map_cons, List.map_nil]); first | done | rfl | (simp only [List.length_drop, List.length_take]; rfl)) ?_; (with_reducible refine (punnetref01_Fits.calls (wrap64 (t177 + (wrap64 (a2 * t180)))) (wrap64 (t178 + (wrap64 (a2 * t181)))) false _ A11.out).mono ?_); rintro e w' ⟨rfl, ⟨nd, rfl⟩⟩; refine ⟨_, rfl, ?_⟩))
          go_ret2
          exact ⟨by first | rfl | (simp [errW_none, errW_some] <;> rfl) | (simp [*, errW_none, errW_some] <;> rfl), by repeat (first | (with_reducible first | exact HB.out | apply below_alloc | apply pw_below_drewN | apply below_drew1) | exact HB.out)⟩

end Go.Proofs.Ytjaefcinaackeaa.Q
