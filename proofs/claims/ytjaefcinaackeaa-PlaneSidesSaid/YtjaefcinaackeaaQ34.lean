/- A function of the program or a law's row comes to what the Lean function beside it says; no condition beyond those typed. Written by a program of this workplace; Lean checks it. -/
import Derived.Test.YtjaefcinaackeaaQ0
import Derived.Test.YtjaefcinaackeaaQ16
namespace Go.Proofs.Ytjaefcinaackeaa.Q
open Go.RowKit Go.Proofs.YtjaefcinaackeaaW.PrintWords Go.Proofs.YtjaefcinaackeaaW.PrintLast Go.Proofs.YtjaefcinaackeaaW.PrintMore
attribute [local go_sem] max2_int min2_int max_two min_two max_three min_three max_four min_four   -- for this text's walks alone
set_option linter.unusedVariables false
set_option linter.unusedSimpArgs false

/-! ### punnetref01_Side: function 28 -/
def punnetref01_Side.j0 : Nat → Int → Int → Int → Int → Int → Bool → Option (Int × Int)
  | 0, _, _, _, _, _, _ => none
  | k + 1, x1, x8, x9, x11, x12, x32 => if x32 = true then (some (0, 5)) else (if (wrap64 ((wrap64 (x8 * x11)) + (wrap64 (x9 * x12)))) > x1 then (some (1, 0)) else (if (wrap64 ((wrap64 (x8 * x11)) + (wrap64 (x9 * x12)))) < x1 then (some ((-1), 0)) else (some (0, 0))))
def punnetref01_Side.f (k : Nat) (a0 : (Nat × Nat)) (a1 : Int) (a2 : (Nat × Nat)) : Option (Int × Int) := (punnetref01_Parts.f a0 33554432).bind fun bt212 => ((punnetref01_Parts.f a2 33554432).bind fun bt215 => (if bt212.2.2 = true then (punnetref01_Side.j0 k a1 bt212.1 bt212.2.1 bt215.1 bt215.2.1 (!bt215.2.2)) else (punnetref01_Side.j0 k a1 bt212.1 bt212.2.1 bt215.1 bt215.2.1 true)))
theorem punnetref01_Side.mono_l : ∀ k, (∀ y0 y1 y2 y3 y4 y5, LeO (punnetref01_Side.j0 k y0 y1 y2 y3 y4 y5) (punnetref01_Side.j0 (k + 1) y0 y1 y2 y3 y4 y5))
  | 0 => fun _ _ _ _ _ _ r h => by simp [punnetref01_Side.j0] at h
  | k + 1 => by
    have ih0 := punnetref01_Side.mono_l k
    · intro y0 y1 y2 y3 y4 y5
      unfold punnetref01_Side.j0
      repeat' first
      | (with_reducible exact ih0 _ _ _ _ _ _)
      | (with_reducible exact LeO.refl _)
      | (with_reducible exact LeO.none _)
      | (with_reducible refine LeO.ite ?_ ?_)
      | (with_reducible refine LeO.bind ?_ (fun _ => ?_))
      | exact ih0 _ _ _ _ _ _
      | exact LeO.none _
      | refine LeO.ite ?_ ?_
      | refine LeO.bind ?_ (fun _ => ?_)
theorem punnetref01_Side.mono : ∀ a0 a1 a2 k, LeO (punnetref01_Side.f k a0 a1 a2) (punnetref01_Side.f (k + 1) a0 a1 a2) := by
  intro a0 a1 a2 k
  have ih0 := punnetref01_Side.mono_l k
  unfold punnetref01_Side.f
  repeat' first
      | (with_reducible exact ih0 _ _ _ _ _ _)
      | (with_reducible exact LeO.refl _)
      | (with_reducible exact LeO.none _)
      | (with_reducible refine LeO.ite ?_ ?_)
      | (with_reducible refine LeO.bind ?_ (fun _ => ?_))
      | exact ih0 _ _ _ _ _ _
      | exact LeO.none _
      | refine LeO.ite ?_ ?_
      | refine LeO.bind ?_ (fun _ => ?_)
set_option maxHeartbeats 8000000 in
set_option maxRecDepth 100000 in
theorem punnetref01_Side.calls (k : Nat) (a0 : (Nat × Nat)) (a1 : Int) (a2 : (Nat × Nat)) (r1 : Int) (r2 : Int) (w : World) (h : punnetref01_Side.f k a0 a1 a2 = some (r1, r2)) :
    Calls Try.prog 28 #[.complex .f64 a0.1 a0.2, .int .i64 a1, .complex .f64 a2.1 a2.2] w fun e w' => e = .returned (.tuple #[.int .i64 r1, .int .i64 r2]) ∧ Below w.heap.size w w' := by
  have HB := Aside0.mk (Below.refl w.heap.size w)
  have H : ((punnetref01_Parts.f a0 33554432).bind fun bt212 => ((punnetref01_Parts.f a2 33554432).bind fun bt215 => (if bt212.2.2 = true then (punnetref01_Side.j0 k a1 bt212.1 bt212.2.1 bt215.1 bt215.2.1 (!bt215.2.2)) else (punnetref01_Side.j0 k a1 bt212.1 bt212.2.1 bt215.1 bt215.2.1 true)))) = some (r1, r2) := h
  clear h
  replace H := Option.bind_eq_some_iff.mp H
  obtain ⟨⟨t212, t213, t214⟩, A40, H⟩ := H
  replace H : ((punnetref01_Parts.f a2 33554432).bind fun bt215 => (if t214 = true then (punnetref01_Side.j0 k a1 t212 t213 bt215.1 bt215.2.1 (!bt215.2.2)) else (punnetref01_Side.j0 k a1 t212 t213 bt215.1 bt215.2.1 true))) = some (r1, r2) := H
  have A4 := Aside0.mk A40
  clear A40
  replace H := Option.bind_eq_some_iff.mp H
  obtain ⟨⟨t215, t216, t217⟩, A50, H⟩ := H
  replace H : (if t214 = true then (punnetref01_Side.j0 k a1 t212 t213 t215 t216 (!t217)) else (punnetref01_Side.j0 k a1 t212 t213 t215 t216 true)) = some (r1, r2) := H
  have A5 := Aside0.mk A50
  clear A50
  have HC6 := Aside0.mk H
  clear H
  go_enter Try.func28, Try.ntmps28
  go_upto_region 3 with (first | ((with_reducible refine gate_callee (f := 13) rfl ?_); refine goesL_ (some 17) rfl rfl Try.func13 (by kernel_rfl) rfl #[.complex .f64 a0.1 a0.2, .int .i64 33554432] rfl (by (try simp only [List.map_toArray, List.map_cons, List.map_nil]); first | done | rfl | (simp only [List.length_drop, List.length_take]; rfl)) ?_; (with_reducible refine (punnetref01_Parts.calls a0 33554432 t212 t213 t214 _ A4.out).mono ?_); rintro e w7 ⟨rfl, hb⟩; refine ⟨_, rfl, ?_⟩; have n0_ := Aside0.mk (below_step (by repeat (first | (with_reducible first | exact HB.out | apply below_alloc | apply pw_below_drewN | apply below_drew1) | exact HB.out)) hb); clear HB; have HB := n0_; clear n0_; (try clear hb); (try clear hb2); (try clear hk); (try clear hi)) | ((with_reducible refine gate_callee (f := 13) rfl ?_); refine goesL_ (some 23) rfl rfl Try.func13 (by kernel_rfl) rfl #[.complex .f64 a2.1 a2.2, .int .i64 33554432] rfl (by (try simp only [List.map_toArray, List.map_cons, List.map_nil]); first | done | rfl | (simp only [List.length_drop, List.length_take]; rfl)) ?_; (with_reducible refine (punnetref01_Parts.calls a2 33554432 t215 t216 t217 _ A5.out).mono ?_); rintro e w8 ⟨rfl, hb⟩; refine ⟨_, rfl, ?_⟩; have n0_ := Aside0.mk (below_step (by repeat (first | (with_reducible first | exact HB.out | apply below_alloc | apply pw_below_drewN | apply below_drew1) | exact HB.out)) hb); clear HB; have HB := n0_; clear n0_; (try clear hb); (try clear hb2); (try clear hk); (try clear hi)))
  (try simp only [Act.put, List.setIfInBounds_toArray, List.set_cons_zero, List.set_cons_succ])
  go_cut [32] (fun v32 wc => ∃ (kq : Nat) (x32_5 : Bool), v32 = .bool x32_5 ∧ Aside0 (punnetref01_Side.j0 kq a1 t212 t213 t215 t216 x32_5 = some (r1, r2)) ∧ Aside0 (kq ≤ k) ∧ Aside0 (Below w.heap.size w wc))
  case first =>
    have H := HC6.out
    clear HC6
    by_cases c9 : t214 = true
    · subst c9
      have H1 : (punnetref01_Side.j0 k a1 t212 t213 t215 t216 (!t217)) = some (r1, r2) := by rw [if_pos rfl] at H; exact H
      clear H
      have H := H1
      clear H1
      have H' := Aside0.mk H
      clear H
      go_wp2
      go_meet
      case rel => exact ⟨_, (!t217), (by first | rfl | (simp; done) | (simp [*]; done)), H', ⟨by first | omega | exact Nat.le_refl _⟩, ⟨by repeat (first | (with_reducible first | exact HB.out | apply below_alloc | apply pw_below_drewN | apply below_drew1) | exact HB.out)⟩⟩
    · replace c9 := Bool.eq_false_iff.mpr c9
      subst c9
      have H1 : (punnetref01_Side.j0 k a1 t212 t213 t215 t216 true) = some (r1, r2) := by rw [if_neg (show ¬ (false = true) by decide)] at H; exact H
      clear H
      have H := H1
      clear H1
      have H' := Aside0.mk H
      clear H
      go_wp2
      go_meet
      case rel => exact ⟨_, (true), (by first | rfl | (simp; done) | (simp [*]; done)), H', ⟨by first | omega | exact Nat.le_refl _⟩, ⟨by repeat (first | (with_reducible first | exact HB.out | apply below_alloc | apply pw_below_drewN | apply below_drew1) | exact HB.out)⟩⟩
  case rest =>
    clear HC6
    try clear c1
    try clear c2
    try clear p2
    try clear c9
    obtain ⟨kq, x32_5, rfl, HA, HJ5, HB⟩ := hcut
    cases kq with
    | zero => exact absurd HA.out (by simp [punnetref01_Side.j0])
    | succ kj5 =>
      have H := HA.out
      clear HA
      simp only [punnetref01_Side.j0] at H
      by_cases c10 : x32_5 = true
      · subst c10
        have H1 : (some (0, 5)) = some (r1, r2) := by rw [if_pos rfl] at H; exact H
        clear H
        have H := H1
        clear H1
        simp only [Option.some.injEq, Prod.mk.injEq] at H
        obtain ⟨rfl, rfl⟩ := H
        go_wp2
        go_ret2
        exact ⟨by first | rfl | (simp [errW_none, errW_some] <;> rfl) | (simp [*, errW_none, errW_some] <;> rfl), by repeat (first | (with_reducible first | exact HB.out | apply below_alloc | apply pw_below_drewN | apply below_drew1) | exact HB.out)⟩
      · replace c10 := Bool.eq_false_iff.mpr c10
        subst c10
        have H1 : (if (wrap64 ((wrap64 (t212 * t215)) + (wrap64 (t213 * t216)))) > a1 then (some (1, 0)) else (if (wrap64 ((wrap64 (t212 * t215)) + (wrap64 (t213 * t216)))) < a1 then (some ((-1), 0)) else (some (0, 0)))) = some (r1, r2) := by rw [if_neg (show ¬ (false = true) by decide)] at H; exact H
        clear H
        have H := H1
        clear H1
        by_cases c11 : (wrap64 ((wrap64 (t212 * t215)) + (wrap64 (t213 * t216)))) > a1
        · rw [if_pos c11] at H
          have c11b0 : decide (a1 < (wrap64 ((wrap64 (t212 * t215)) + (wrap64 (t213 * t216))))) = true := decide_eq_true c11
          clear c11
          simp only [Option.some.injEq, Prod.mk.injEq] at H
          obtain ⟨rfl, rfl⟩ := H
          go_wp2
          go_ret2
          exact ⟨by first | rfl | (simp [errW_none, errW_some] <;> rfl) | (simp [*, errW_none, errW_some] <;> rfl), by repeat (first | (with_reducible first | exact HB.out | apply below_alloc | apply pw_below_drewN | apply below_drew1) | exact HB.out)⟩
        · rw [if_neg c11] at H
          have c11b0 : decide (a1 < (wrap64 ((wrap64 (t212 * t215)) + (wrap64 (t213 * t216))))) = false := decide_eq_false c11
          clear c11
          by_cases c12 : (wrap64 ((wrap64 (t212 * t215)) + (wrap64 (t213 * t216)))) < a1
          · rw [if_pos c12] at H
            have c12b0 : decide ((wrap64 ((wrap64 (t212 * t215)) + (wrap64 (t213 * t216)))) < a1) = true := decide_eq_true c12
            clear c12
            simp only [Option.some.injEq, Prod.mk.injEq] at H
            obtain ⟨rfl, rfl⟩ := H
            go_wp2
            go_ret2
            exact ⟨by first | rfl | (simp [errW_none, errW_some] <;> rfl) | (simp [*, errW_none, errW_some] <;> rfl), by repeat (first | (with_reducible first | exact HB.out | apply below_alloc | apply pw_below_drewN | apply below_drew1) | exact HB.out)⟩
          · rw [if_neg c12] at H
            have c12b0 : decide ((wrap64 ((wrap64 (t212 * t215)) + (wrap64 (t213 * t216)))) < a1) = false := decide_eq_false c12
            clear c12
            simp only [Option.some.injEq, Prod.mk.injEq] at H
            obtain ⟨rfl, rfl⟩ := H
            go_wp2
            go_ret2
            exact ⟨by first | rfl | (simp [errW_none, errW_some] <;> rfl) | (simp [*, errW_none, errW_some] <;> rfl), by repeat (first | (with_reducible first | exact HB.out | apply below_alloc | apply pw_below_drewN | apply below_drew1) | exact HB.out)⟩

end Go.Proofs.Ytjaefcinaackeaa.Q
