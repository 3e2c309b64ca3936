/- A function of the program or a law's row comes to what the Lean function beside it says; no condition beyond those typed. Written by a program of this workplace; Lean checks it. -/
import Derived.Test.YtjaefcinaackeaaQ0
import Derived.Test.YtjaefcinaackeaaQ11
import Derived.Test.YtjaefcinaackeaaQ14
import Derived.Test.YtjaefcinaackeaaQ17
import Derived.Test.YtjaefcinaackeaaQ22
import Derived.Test.YtjaefcinaackeaaQ24
namespace Go.Proofs.Ytjaefcinaackeaa.Q
open Go.RowKit Go.Proofs.YtjaefcinaackeaaW.PrintWords Go.Proofs.YtjaefcinaackeaaW.PrintLast Go.Proofs.YtjaefcinaackeaaW.PrintMore
attribute [local go_sem] max2_int min2_int max_two min_two max_three min_three max_four min_four   -- for this text's walks alone
set_option linter.unusedVariables false
set_option linter.unusedSimpArgs false

/-! ### punnetlaw01_PlaneTurns: function 4 -/
def punnetlaw01_PlaneTurns.j0 : Nat → Int → (Nat × Nat) → (Nat × Nat) → Int → Bool → Option (Bool)
  | 0, _, _, _, _, _ => none
  | k + 1, x2, x7, x8, x9, x44 => if x44 = true then (some false) else (if x9 = 0 then ((plane_Turn.f x8 (wrap64 (-x2))).bind fun bt147 => ((plane_Turn.f x7 4).bind fun bt149 => ((plane_Turn.f x7 1).bind fun bt151 => ((plane_Times.f x7 (0, 4607182418800017408)).bind fun bt153 => (if ((FloatKind.f64.format.order bt147.1.1 x7.1 == some Ordering.eq) && (FloatKind.f64.format.order bt147.1.2 x7.2 == some Ordering.eq)) = true then (if bt147.2 = 0 then (if ((FloatKind.f64.format.order bt149.1.1 x7.1 == some Ordering.eq) && (FloatKind.f64.format.order bt149.1.2 x7.2 == some Ordering.eq)) = true then (if bt149.2 = 0 then (if bt151.2 = 0 then (if bt153.2 = 0 then (some ((FloatKind.f64.format.order bt151.1.1 bt153.1.1 == some Ordering.eq) && (FloatKind.f64.format.order bt151.1.2 bt153.1.2 == some Ordering.eq))) else (some true)) else (some false)) else (some false)) else (some false)) else (some false)) else (some false)))))) else ((plane_Whole.f x7).bind fun t146 => (some (!t146))))
def punnetlaw01_PlaneTurns.f (k : Nat) (a0 : Nat) (a1 : Nat) (a2 : Int) : Option (Bool) := (punnetlaw01_awake.f).bind fun t141 => (if t141 = true then ((plane_Turn.f (a0, a1) a2).bind fun bt142 => ((punnetref01_Turn.f k (a0, a1) a2).bind fun bt144 => (if (((FloatKind.f64.format.order bt142.1.1 bt144.1.1 == some Ordering.eq) && (FloatKind.f64.format.order bt142.1.2 bt144.1.2 == some Ordering.eq)) = true) then (punnetlaw01_PlaneTurns.j0 k a2 (a0, a1) bt142.1 bt142.2 (bt142.2 != bt144.2)) else (punnetlaw01_PlaneTurns.j0 k a2 (a0, a1) bt142.1 bt142.2 true)))) else (some false))
theorem punnetlaw01_PlaneTurns.mono_l : ∀ k, (∀ y0 y1 y2 y3 y4, LeO (punnetlaw01_PlaneTurns.j0 k y0 y1 y2 y3 y4) (punnetlaw01_PlaneTurns.j0 (k + 1) y0 y1 y2 y3 y4))
  | 0 => fun _ _ _ _ _ r h => by simp [punnetlaw01_PlaneTurns.j0] at h
  | k + 1 => by
    have ih0 := punnetlaw01_PlaneTurns.mono_l k
    · intro y0 y1 y2 y3 y4
      unfold punnetlaw01_PlaneTurns.j0
      repeat' first
      | (with_reducible exact ih0 _ _ _ _ _)
      | (with_reducible exact punnetref01_Turn.mono _ _ _)
      | (with_reducible exact LeO.refl _)
      | (with_reducible exact LeO.none _)
      | (with_reducible refine LeO.ite ?_ ?_)
      | (with_reducible refine LeO.bind ?_ (fun _ => ?_))
      | exact ih0 _ _ _ _ _
      | exact punnetref01_Turn.mono _ _ _
      | exact LeO.none _
      | refine LeO.ite ?_ ?_
      | refine LeO.bind ?_ (fun _ => ?_)
theorem punnetlaw01_PlaneTurns.mono : ∀ a0 a1 a2 k, LeO (punnetlaw01_PlaneTurns.f k a0 a1 a2) (punnetlaw01_PlaneTurns.f (k + 1) a0 a1 a2) := by
  intro a0 a1 a2 k
  have ih0 := punnetlaw01_PlaneTurns.mono_l k
  unfold punnetlaw01_PlaneTurns.f
  repeat' first
      | (with_reducible exact ih0 _ _ _ _ _)
      | (with_reducible exact punnetref01_Turn.mono _ _ _)
      | (with_reducible exact LeO.refl _)
      | (with_reducible exact LeO.none _)
      | (with_reducible refine LeO.ite ?_ ?_)
      | (with_reducible refine LeO.bind ?_ (fun _ => ?_))
      | exact ih0 _ _ _ _ _
      | exact punnetref01_Turn.mono _ _ _
      | exact LeO.none _
      | refine LeO.ite ?_ ?_
      | refine LeO.bind ?_ (fun _ => ?_)
set_option maxHeartbeats 8000000 in
set_option maxRecDepth 100000 in
theorem punnetlaw01_PlaneTurns.calls (k : Nat) (a0 : Nat) (a1 : Nat) (a2 : Int) (r : Bool) (w : World) (h : punnetlaw01_PlaneTurns.f k a0 a1 a2 = some r) :
    Calls Try.prog 4 #[.float .f64 a0, .float .f64 a1, .int .i64 a2] w fun e w' => e = .returned (.bool r) ∧ Below w.heap.size w w' := by
  have HB := Aside0.mk (Below.refl w.heap.size w)
  have H : ((punnetlaw01_awake.f).bind fun t141 => (if t141 = true then ((plane_Turn.f (a0, a1) a2).bind fun bt142 => ((punnetref01_Turn.f k (a0, a1) a2).bind fun bt144 => (if (((FloatKind.f64.format.order bt142.1.1 bt144.1.1 == some Ordering.eq) && (FloatKind.f64.format.order bt142.1.2 bt144.1.2 == some Ordering.eq)) = true) then (punnetlaw01_PlaneTurns.j0 k a2 (a0, a1) bt142.1 bt142.2 (bt142.2 != bt144.2)) else (punnetlaw01_PlaneTurns.j0 k a2 (a0, a1) bt142.1 bt142.2 true)))) else (some false))) = some r := h
  clear h
  replace H := Option.bind_eq_some_iff.mp H
  obtain ⟨t141, A40, H⟩ := H
  replace H : (if t141 = true then ((plane_Turn.f (a0, a1) a2).bind fun bt142 => ((punnetref01_Turn.f k (a0, a1) a2).bind fun bt144 => (if (((FloatKind.f64.format.order bt142.1.1 bt144.1.1 == some Ordering.eq) && (FloatKind.f64.format.order bt142.1.2 bt144.1.2 == some Ordering.eq)) = true) then (punnetlaw01_PlaneTurns.j0 k a2 (a0, a1) bt142.1 bt142.2 (bt142.2 != bt144.2)) else (punnetlaw01_PlaneTurns.j0 k a2 (a0, a1) bt142.1 bt142.2 true)))) else (some false)) = some r := H
  have A4 := Aside0.mk A40
  clear A40
  by_cases c5 : t141 = true
  · subst c5
    have H1 : ((plane_Turn.f (a0, a1) a2).bind fun bt142 => ((punnetref01_Turn.f k (a0, a1) a2).bind fun bt144 => (if (((FloatKind.f64.format.order bt142.1.1 bt144.1.1 == some Ordering.eq) && (FloatKind.f64.format.order bt142.1.2 bt144.1.2 == some Ordering.eq)) = true) then (punnetlaw01_PlaneTurns.j0 k a2 (a0, a1) bt142.1 bt142.2 (bt142.2 != bt144.2)) else (punnetlaw01_PlaneTurns.j0 k a2 (a0, a1) bt142.1 bt142.2 true)))) = some r := by rw [if_pos rfl] at H; exact H
    clear H
    have H := H1
    clear H1
    replace H := Option.bind_eq_some_iff.mp H
    obtain ⟨⟨t142, t143⟩, A60, H⟩ := H
    replace H : ((punnetref01_Turn.f k (a0, a1) a2).bind fun bt144 => (if (((FloatKind.f64.format.order t142.1 bt144.1.1 == some Ordering.eq) && (FloatKind.f64.format.order t142.2 bt144.1.2 == some Ordering.eq)) = true) then (punnetlaw01_PlaneTurns.j0 k a2 (a0, a1) t142 t143 (t143 != bt144.2)) else (punnetlaw01_PlaneTurns.j0 k a2 (a0, a1) t142 t143 true))) = some r := H
    have A6 := Aside0.mk A60
    clear A60
    replace H := Option.bind_eq_some_iff.mp H
    obtain ⟨⟨t144, t145⟩, A70, H⟩ := H
    replace H : (if (((FloatKind.f64.format.order t142.1 t144.1 == some Ordering.eq) && (FloatKind.f64.format.order t142.2 t144.2 == some Ordering.eq)) = true) then (punnetlaw01_PlaneTurns.j0 k a2 (a0, a1) t142 t143 (t143 != t145)) else (punnetlaw01_PlaneTurns.j0 k a2 (a0, a1) t142 t143 true)) = some r := H
    have A7 := Aside0.mk A70
    clear A70
    have HC8 := Aside0.mk H
    clear H
    go_enter Try.func4, Try.ntmps4
    go_upto_region 6 with (first | ((with_reducible refine gate_callee (f := 12) rfl ?_); refine goesL_ (some 23) rfl rfl Try.func12 (by kernel_rfl) rfl #[] rfl (by (try simp only [List.map_toArray, List.map_cons, List.map_nil]); first | done | rfl | (simp only [List.length_drop, List.length_take]; rfl)) ?_; (with_reducible refine (punnetlaw01_awake.calls  true _ A4.out).mono ?_); rintro e w9 ⟨rfl, hb⟩; refine ⟨_, rfl, ?_⟩; have n0_ := Aside0.mk (below_step (by repeat (first | (with_reducible first | exact HB.out | apply below_alloc | apply pw_below_drewN | apply below_drew1) | exact HB.out)) hb); clear HB; have HB := n0_; clear n0_; (try clear hb); (try clear hb2); (try clear hk); (try clear hi)) | ((with_reducible refine gate_callee (f := 19) rfl ?_); refine goesL_ (some 28) rfl rfl Try.func19 (by kernel_rfl) rfl #[.complex .f64 a0 a1, .int .i64 a2] rfl (by (try simp only [List.map_toArray, List.map_cons, List.map_nil]); first | done | rfl | (simp only [List.length_drop, List.length_take]; rfl)) ?_; (with_reducible refine (plane_Turn.calls (a0, a1) a2 t142 t143 _ A6.out).mono ?_); rintro e w10 ⟨rfl, hb⟩; refine ⟨_, rfl, ?_⟩; have n0_ := Aside0.mk (below_step (by repeat (first | (with_reducible first | exact HB.out | apply below_alloc | apply pw_below_drewN | apply below_drew1) | exact HB.out)) hb); clear HB; have HB := n0_; clear n0_; (try clear hb); (try clear hb2); (try clear hk); (try clear hi)) | ((with_reducible refine gate_callee (f := 20) rfl ?_); refine goesL_ (some 34) rfl rfl Try.func20 (by kernel_rfl) rfl #[.complex .f64 a0 a1, .int .i64 a2] rfl (by (try simp only [List.map_toArray, List.map_cons, List.map_nil]); first | done | rfl | (simp only [List.length_drop, List.length_take]; rfl)) ?_; (with_reducible refine (punnetref01_Turn.calls k (a0, a1) a2 t144 t145 _ A7.out).mono ?_); rintro e w11 ⟨rfl, hb⟩; refine ⟨_, rfl, ?_⟩; have n0_ := Aside0.mk (below_step (by repeat (first | (with_reducible first | exact HB.out | apply below_alloc | apply pw_below_drewN | apply below_drew1) | exact HB.out)) hb); clear HB; have HB := n0_; clear n0_; (try clear hb); (try clear hb2); (try clear hk); (try clear hi)))
    (try simp only [Act.put, List.setIfInBounds_toArray, List.set_cons_zero, List.set_cons_succ])
    go_cut [44] (fun v44 wc => ∃ (kq : Nat) (x44_7 : Bool), v44 = .bool x44_7 ∧ Aside0 (punnetlaw01_PlaneTurns.j0 kq a2 (a0, a1) t142 t143 x44_7 = some r) ∧ Aside0 (kq ≤ k) ∧ Aside0 (Below w.heap.size w wc))
    case first =>
      have H := HC8.out
      clear HC8
      by_cases c12 : (((FloatKind.f64.format.order t142.1 t144.1 == some Ordering.eq) && (FloatKind.f64.format.order t142.2 t144.2 == some Ordering.eq)) = true)
      · rw [if_pos c12] at H
        have c12b0 : ((FloatKind.f64.format.order t142.1 t144.1 == some Ordering.eq) && (FloatKind.f64.format.order t142.2 t144.2 == some Ordering.eq)) = true := c12
        clear c12
        (first | rw [c12b0] | (simp only [i64_w, i32_w]; rw [c12b0]) | skip)
        have H' := Aside0.mk H
        clear H
        go_wp2
        go_meet
        case rel => exact ⟨_, ((t143 != t145)), (by first | rfl | (simp; done) | (simp [*]; done)), H', ⟨by first | omega | exact Nat.le_refl _⟩, ⟨by repeat (first | (with_reducible first | exact HB.out | apply below_alloc | apply pw_below_drewN | apply below_drew1) | exact HB.out)⟩⟩
      · rw [if_neg c12] at H
        have c12b0 : ((FloatKind.f64.format.order t142.1 t144.1 == some Ordering.eq) && (FloatKind.f64.format.order t142.2 t144.2 == some Ordering.eq)) = false := by simpa using c12
        clear c12
        (first | rw [c12b0] | (simp only [i64_w, i32_w]; rw [c12b0]) | skip)
        have H' := Aside0.mk H
        clear H
        go_wp2
        go_meet
        case rel => exact ⟨_, (true), (by first | rfl | (simp; done) | (simp [*]; done)), H', ⟨by first | omega | exact Nat.le_refl _⟩, ⟨by repeat (first | (with_reducible first | exact HB.out | apply below_alloc | apply pw_below_drewN | apply below_drew1) | exact HB.out)⟩⟩
    case rest =>
      clear HC8
      try clear c1
      try clear c2
      try clear p2
      try clear c4
      try clear c5
      try clear c12
      try clear c12b0
      obtain ⟨kq, x44_7, rfl, HA, HJ7, HB⟩ := hcut
      cases kq with
      | zero => exact absurd HA.out (by simp [punnetlaw01_PlaneTurns.j0])
      | succ kj7 =>
        have H := HA.out
        clear HA
        simp only [punnetlaw01_PlaneTurns.j0] at H
        by_cases c13 : x44_7 = true
        · subst c13
          have H1 : (some false) = some r := by rw [if_pos rfl] at H; exact H
          clear H
          have H := H1
          clear H1
          obtain rfl := Option.some.inj H
          go_wp2
          go_ret
          exact ⟨by first | rfl | (simp [errW_none, errW_some] <;> rfl) | (simp [*, errW_none, errW_some] <;> rfl), by repeat (first | (with_reducible first | exact HB.out | apply below_alloc | apply pw_below_drewN | apply below_drew1) | exact HB.out)⟩
        · replace c13 := Bool.eq_false_iff.mpr c13
          subst c13
          have H1 : (if t143 = 0 then ((plane_Turn.f t142 (wrap64 (-a2))).bind fun bt147 => ((plane_Turn.f (a0, a1) 4).bind fun bt149 => ((plane_Turn.f (a0, a1) 1).bind fun bt151 => ((plane_Times.f (a0, a1) (0, 4607182418800017408)).bind fun bt153 => (if ((FloatKind.f64.format.order bt147.1.1 (a0, a1).1 == some Ordering.eq) && (FloatKind.f64.format.order bt147.1.2 (a0, a1).2 == some Ordering.eq)) = true then (if bt147.2 = 0 then (if ((FloatKind.f64.format.order bt149.1.1 (a0, a1).1 == some Ordering.eq) && (FloatKind.f64.format.order bt149.1.2 (a0, a1).2 == some Ordering.eq)) = true then (if bt149.2 = 0 then (if bt151.2 = 0 then (if bt153.2 = 0 then (some ((FloatKind.f64.format.order bt151.1.1 bt153.1.1 == some Ordering.eq) && (FloatKind.f64.format.order bt151.1.2 bt153.1.2 == some Ordering.eq))) else (some true)) else (some false)) else (some false)) else (some false)) else (some false)) else (some false)))))) else ((plane_Whole.f (a0, a1)).bind fun t146 => (some (!t146)))) = some r := by rw [if_neg (show ¬ (false = true) by decide)] at H; exact H
          clear H
          have H := H1
          clear H1
          by_cases c14 : t143 = 0
          · rw [if_pos c14] at H
            have c14b0 : (t143 == 0) = true := beq_iff_eq.mpr c14
            have c14b1 : (t143 != 0) = false := bne_eq_false_iff_eq.mpr c14
            clear c14
            replace H := Option.bind_eq_some_iff.mp H
            obtain ⟨⟨t147, t148⟩, A150, H⟩ := H
            replace H : ((plane_Turn.f (a0, a1) 4).bind fun bt149 => ((plane_Turn.f (a0, a1) 1).bind fun bt151 => ((plane_Times.f (a0, a1) (0, 4607182418800017408)).bind fun bt153 => (if ((FloatKind.f64.format.order t147.1 (a0, a1).1 == some Ordering.eq) && (FloatKind.f64.format.order t147.2 (a0, a1).2 == some Ordering.eq)) = true then (if t148 = 0 then (if ((FloatKind.f64.format.order bt149.1.1 (a0, a1).1 == some Ordering.eq) && (FloatKind.f64.format.order bt149.1.2 (a0, a1).2 == some Ordering.eq)) = true then (if bt149.2 = 0 then (if bt151.2 = 0 then (if bt153.2 = 0 then (some ((FloatKind.f64.format.order bt151.1.1 bt153.1.1 == some Ordering.eq) && (FloatKind.f64.format.order bt151.1.2 bt153.1.2 == some Ordering.eq))) else (some true)) else (some false)) else (some false)) else (some false)) else (some false)) else (some false))))) = some r := H
            have A15 := Aside0.mk A150
            clear A150
            replace H := Option.bind_eq_some_iff.mp H
            obtain ⟨⟨t149, t150⟩, A160, H⟩ := H
            replace H : ((plane_Turn.f (a0, a1) 1).bind fun bt151 => ((plane_Times.f (a0, a1) (0, 4607182418800017408)).bind fun bt153 => (if ((FloatKind.f64.format.order t147.1 (a0, a1).1 == some Ordering.eq) && (FloatKind.f64.format.order t147.2 (a0, a1).2 == some Ordering.eq)) = true then (if t148 = 0 then (if ((FloatKind.f64.format.order t149.1 (a0, a1).1 == some Ordering.eq) && (FloatKind.f64.format.order t149.2 (a0, a1).2 == some Ordering.eq)) = true then (if t150 = 0 then (if bt151.2 = 0 then (if bt153.2 = 0 then (some ((FloatKind.f64.format.order bt151.1.1 bt153.1.1 == some Ordering.eq) && (FloatKind.f64.format.order bt151.1.2 bt153.1.2 == some Ordering.eq))) else (some true)) else (some false)) else (some false)) else (some false)) else (some false)) else (some false)))) = some r := H
            have A16 := Aside0.mk A160
            clear A160
            replace H := Option.bind_eq_some_iff.mp H
            obtain ⟨⟨t151, t152⟩, A170, H⟩ := H
            replace H : ((plane_Times.f (a0, a1) (0, 4607182418800017408)).bind fun bt153 => (if ((FloatKind.f64.format.order t147.1 (a0, a1).1 == some Ordering.eq) && (FloatKind.f64.format.order t147.2 (a0, a1).2 == some Ordering.eq)) = true then (if t148 = 0 then (if ((FloatKind.f64.format.order t149.1 (a0, a1).1 == some Ordering.eq) && (FloatKind.f64.format.order t149.2 (a0, a1).2 == some Ordering.eq)) = true then (if t150 = 0 then (if t152 = 0 then (if bt153.2 = 0 then (some ((FloatKind.f64.format.order t151.1 bt153.1.1 == some Ordering.eq) && (FloatKind.f64.format.order t151.2 bt153.1.2 == some Ordering.eq))) else (some true)) else (some false)) else (some false)) else (some false)) else (some false)) else (some false))) = some r := H
            have A17 := Aside0.mk A170
            clear A170
            replace H := Option.bind_eq_some_iff.mp H
            obtain ⟨⟨t153, t154⟩, A180, H⟩ := H
            replace H : (if ((FloatKind.f64.format.order t147.1 (a0, a1).1 == some Ordering.eq) && (FloatKind.f64.format.order t147.2 (a0, a1).2 == some Ordering.eq)) = true then (if t148 = 0 then (if ((FloatKind.f64.format.order t149.1 (a0, a1).1 == some Ordering.eq) && (FloatKind.f64.format.order t149.2 (a0, a1).2 == some Ordering.eq)) = true then (if t150 = 0 then (if t152 = 0 then (if t154 = 0 then (some ((FloatKind.f64.format.order t151.1 t153.1 == some Ordering.eq) && (FloatKind.f64.format.order t151.2 t153.2 == some Ordering.eq))) else (some true)) else (some false)) else (some false)) else (some false)) else (some false)) else (some false)) = some r := H
            have A18 := Aside0.mk A180
            clear A180
            by_cases c19 : ((FloatKind.f64.format.order t147.1 (a0, a1).1 == some Ordering.eq) && (FloatKind.f64.format.order t147.2 (a0, a1).2 == some Ordering.eq)) = true
            · rw [if_pos c19] at H
              have c19b0 : ((FloatKind.f64.format.order t147.1 (a0, a1).1 == some Ordering.eq) && (FloatKind.f64.format.order t147.2 (a0, a1).2 == some Ordering.eq)) = true := c19
              clear c19
              by_cases c20 : t148 = 0
              · rw [if_pos c20] at H
                have c20b0 : (t148 == 0) = true := beq_iff_eq.mpr c20
                have c20b1 : (t148 != 0) = false := bne_eq_false_iff_eq.mpr c20
                clear c20
                by_cases c21 : ((FloatKind.f64.format.order t149.1 (a0, a1).1 == some Ordering.eq) && (FloatKind.f64.format.order t149.2 (a0, a1).2 == some Ordering.eq)) = true
                · rw [if_pos c21] at H
                  have c21b0 : ((FloatKind.f64.format.order t149.1 (a0, a1).1 == some Ordering.eq) && (FloatKind.f64.format.order t149.2 (a0, a1).2 == some Ordering.eq)) = true := c21
                  clear c21
                  by_cases c22 : t150 = 0
                  · rw [if_pos c22] at H
                    have c22b0 : (t150 == 0) = true := beq_iff_eq.mpr c22
                    have c22b1 : (t150 != 0) = false := bne_eq_false_iff_eq.mpr c22
                    clear c22
                    by_cases c23 : t152 = 0
                    · rw [if_pos c23] at H
                      have c23b0 : (t152 == 0) = true := beq_iff_eq.mpr c23
                      have c23b1 : (t152 != 0) = false := bne_eq_false_iff_eq.mpr c23
                      clear c23
                      by_cases c24 : t154 = 0
                      · rw [if_pos c24] at H
                        have c24b0 : (t154 == 0) = true := beq_iff_eq.mpr c24
                        have c24b1 : (t154 != 0) = false := bne_eq_false_iff_eq.mpr c24
                        clear c24
                        obtain rfl := Option.some.inj H
                        go_wp2_with (first | ((with_reducible refine gate_callee (f := 19) rfl ?_); refine goesL_ (some 54) rfl rfl Try.func19 (by kernel_rfl) rfl #[.complex .f64 t142.1 t142.2, .int .i64 (wrap64 (-a2))] rfl (by (try simp only [List.map_toArray, List.map_cons, List.map_nil]); first | done | rfl | (simp only [List.length_drop, List.length_take]; rfl)) ?_; (with_reducible refine (plane_Turn.calls t142 (wrap64 (-a2)) t147 t148 _ A15.out).mono ?_); rintro e w25 ⟨rfl, hb⟩; refine ⟨_, rfl, ?_⟩; have n0_ := Aside0.mk (below_step (by repeat (first | (with_reducible first | exact HB.out | apply below_alloc | apply pw_below_drewN | apply below_drew1) | exact HB.out)) hb); clear HB; have HB := n0_; clear n0_; (try clear hb); (try clear hb2); (try clear hk); (try clear hi)) | ((with_reducible refine gate_callee (f := 19) rfl ?_); refine goesL_ (some 59) rfl rfl Try.func19 (by kernel_rfl) rfl #[.complex .f64 a0 a1, .int .i64 4] rfl (by (try simp only [List.map_toArray, List.map_cons, List.map_nil]); first | done | rfl | (simp only [List.length_drop, List.length_take]; rfl)) ?_; (with_reducible refine (plane_Turn.calls (a0, a1) 4 t149 t150 _ A16.out).mono ?_); rintro e w26 ⟨rfl, hb⟩; refine ⟨_, rfl, ?_⟩; have n0_ := Aside0.mk (below_step (by repeat (first | (with_reducible first | exact HB.out | apply below_alloc | apply pw_below_drewN | apply below_drew1) | exact HB.out)) hb); clear HB; have HB := n0_; clear n0_; (try clear hb); (try clear hb2); (try clear hk); (try clear hi)) | ((with_reducible refine gate_callee (f := 19) rfl ?_); refine goesL_ (some 64) rfl rfl Try.func19 (by kernel_rfl) rfl #[.complex .f64 a0 a1, .int .i64 1] rfl (by (try simp only [List.map_toArray, List.map_cons, List.map_nil]); first | done | rfl | (simp only [List.length_drop, List.length_take]; rfl)) ?_; (with_reducible refine (plane_Turn.calls (a0, a1) 1 t151 t152 _ A17.out).mono ?_); rintro e w27 ⟨rfl, hb⟩; refine ⟨_, rfl, ?_⟩; have n0_ := Aside0.mk (below_step (by repeat (first | (with_reducible first | exact HB.out | apply below_alloc | apply pw_below_drewN | apply below_drew1) | exact HB.out)) hb); clear HB; have HB := n0_; clear n0_; (try clear hb); (try clear hb2); (try clear hk); (try clear hi)) | ((with_reducible refine gate_callee (f := 21) rfl ?_); refine goesL_ (some 69) rfl rfl Try.func21 (by kernel_rfl) rfl #[.complex .f64 a0 a1, .complex .f64 0 4607182418800017408] rfl (by (try simp only [List.map_toArray, List.map_cons, List.map_nil]); first | done | rfl | (simp only [List.length_drop, List.length_take]; rfl)) ?_; (with_reducible refine (plane_Times.calls (a0, a1) (0, 4607182418800017408) t153 t154 _ A18.out).mono ?_); rintro e w28 ⟨rfl, hb⟩; refine ⟨_, rfl, ?_⟩; have n0_ := Aside0.mk (below_step (by repeat (first | (with_reducible first | exact HB.out | apply below_alloc | apply pw_below_drewN | apply below_drew1) | exact HB.out)) hb); clear HB; have HB := n0_; clear n0_; (try clear hb); (try clear hb2); (try clear hk); (try clear hi)))
                        go_ret
                        exact ⟨by first | rfl | (simp [errW_none, errW_some] <;> rfl) | (simp [*, errW_none, errW_some] <;> rfl), by repeat (first | (with_reducible first | exact HB.out | apply below_alloc | apply pw_below_drewN | apply below_drew1) | exact HB.out)⟩
                      · rw [if_neg c24] at H
                        have c24b0 : (t154 == 0) = false := beq_eq_false_iff_ne.mpr c24
                        have c24b1 : (t154 != 0) = true := bne_iff_ne.mpr c24
                        obtain rfl := Option.some.inj H
                        go_wp2_with (first | ((with_reducible refine gate_callee (f := 19) rfl ?_); refine goesL_ (some 54) rfl rfl Try.func19 (by kernel_rfl) rfl #[.complex .f64 t142.1 t142.2, .int .i64 (wrap64 (-a2))] rfl (by (try simp only [List.map_toArray, List.map_cons, List.map_nil]); first | done | rfl | (simp only [List.length_drop, List.length_take]; rfl)) ?_; (with_reducible refine (plane_Turn.calls t142 (wrap64 (-a2)) t147 t148 _ A15.out).mono ?_); rintro e w29 ⟨rfl, hb⟩; refine ⟨_, rfl, ?_⟩; have n0_ := Aside0.mk (below_step (by repeat (first | (with_reducible first | exact HB.out | apply below_alloc | apply pw_below_drewN | apply below_drew1) | exact HB.out)) hb); clear HB; have HB := n0_; clear n0_; (try clear hb); (try clear hb2); (try clear hk); (try clear hi)) | ((with_reducible refine gate_callee (f := 19) rfl ?_); refine goesL_ (some 59) rfl rfl Try.func19 (by kernel_rfl) rfl #[.complex .f64 a0 a1, .int .i64 4] rfl (by (try simp only [List.map_toArray, List.map_cons, List.map_nil]); first | done | rfl | (simp only [List.length_drop, List.length_take]; rfl)) ?_; (with_reducible refine (plane_Turn.calls (a0, a1) 4 t149 t150 _ A16.out).mono ?_); rintro e w30 ⟨rfl, hb⟩; refine ⟨_, rfl, ?_⟩; have n0_ := Aside0.mk (below_step (by repeat (first | (with_reducible first | exact HB.out | apply below_alloc | apply pw_below_drewN | apply below_drew1) | exact HB.out)) hb); clear HB; have HB := n0_; clear n0_; (try clear hb); (try clear hb2); (try clear hk); (try clear hi)) | ((with_reducible refine gate_callee (f := 19) rfl ?_); refine goesL_ (some 64) rfl rfl Try.func19 (by kernel_rfl) rfl #[.complex .f64 a0 a1, .int .i64 1] rfl (by (try simp only [List.map_toArray, List.map_cons, List.map_nil]); first | done | rfl | (simp only [List.length_drop, List.length_take]; rfl)) ?_; (with_reducible refine (plane_Turn.calls (a0, a1) 1 t151 t152 _ A17.out).mono ?_); rintro e w31 ⟨rfl, hb⟩; refine ⟨_, rfl, ?_⟩; have n0_ := Aside0.mk (below_step (by repeat (first | (with_reducible first | exact HB.out | apply below_alloc | apply pw_below_drewN | apply below_drew1) | exact HB.out)) hb); clear HB; have HB := n0_; clear n0_; (try clear hb); (try clear hb2); (try clear hk); (try clear hi)) | ((with_reducible refine gate_callee (f := 21) rfl ?_); refine goesL_ (some 69) rfl rfl Try.func21 (by kernel_rfl) rfl #[.complex .f64 a0 a1, .complex .f64 0 4607182418800017408] rfl (by (try simp only [List.map_toArray, List.map_cons, List.map_nil]); first | done | rfl | (simp only [List.length_drop, List.length_take]; rfl)) ?_; (with_reducible refine (plane_Times.calls (a0, a1) (0, 4607182418800017408) t153 t154 _ A18.out).mono ?_); rintro e w32 ⟨rfl, hb⟩; refine ⟨_, rfl, ?_⟩; have n0_ := Aside0.mk (below_step (by repeat (first | (with_reducible first | exact HB.out | apply below_alloc | apply pw_below_drewN | apply below_drew1) | exact HB.out)) hb); clear HB; have HB := n0_; clear n0_; (try clear hb); (try clear hb2); (try clear hk); (try clear hi)))
                        go_ret
                        exact ⟨by first | rfl | (simp [errW_none, errW_some] <;> rfl) | (simp [*, errW_none, errW_some] <;> rfl), by repeat (first | (with_reducible first | exact HB.out | apply below_alloc | apply pw_below_drewN | apply below_drew1) | exact HB.out)⟩
                    · rw [if_neg c23] at H
                      have c23b0 : (t152 == 0) = false := beq_eq_false_iff_ne.mpr c23
                      have c23b1 : (t152 != 0) = true := bne_iff_ne.mpr c23
                      obtain rfl := Option.some.inj H
                      go_wp2_with (first | ((with_reducible refine gate_callee (f := 19) rfl ?_); refine goesL_ (some 54) rfl rfl Try.func19 (by kernel_rfl) rfl #[.complex .f64 t142.1 t142.2, .int .i64 (wrap64 (-a2))] rfl (by (try simp only [List.map_toArray, List.map_cons, List.map_nil]); first | done | rfl | (simp only [List.length_drop, List.length_take]; rfl)) ?_; (with_reducible refine (plane_Turn.calls t142 (wrap64 (-a2)) t147 t148 _ A15.out).mono ?_); rintro e w33 ⟨rfl, hb⟩; refine ⟨_, rfl, ?_⟩; have n0_ := Aside0.mk (below_step (by repeat (first | (with_reducible first | exact HB.out | apply below_alloc | apply pw_below_drewN | apply below_drew1) | exact HB.out)) hb); clear HB; have HB := n0_; clear n0_; (try clear hb); (try clear hb2); (try clear hk); (try clear hi)) | ((with_reducible refine gate_callee (f := 19) rfl ?_); refine goesL_ (some 59) rfl rfl Try.func19 (by kernel_rfl) rfl #[.complex .f64 a0 a1, .int .i64 4] rfl (by (try simp only [List.map_toArray, List.map_cons, List.map_nil]); first | done | rfl | (simp only [List.length_drop, List.length_take]; rfl)) ?_; (with_reducible refine (plane_Turn.calls (a0, a1) 4 t149 t150 _ A16.out).mono ?_); rintro e w34 ⟨rfl, hb⟩; refine ⟨_, rfl, ?_⟩; have n0_ := Aside0.mk (below_step (by repeat (first | (with_reducible first | exact HB.out | apply below_alloc | apply pw_below_drewN | apply below_drew1) | exact HB.out)) hb); clear HB; have HB := n0_; clear n0_; (try clear hb); (try clear hb2); (try clear hk); (try clear hi)) | ((with_reducible refine gate_callee (f := 19) rfl ?_); refine goesL_ (some 64) rfl rfl Try.func19 (by kernel_rfl) rfl #[.complex .f64 a0 a1, .int .i64 1] rfl (by (try simp only [List.map_toArray, List.map_cons, List.map_nil]); first | done | rfl | (simp only [List.length_drop, List.length_take]; rfl)) ?_; (with_reducible refine (plane_Turn.calls (a0, a1) 1 t151 t152 _ A17.out).mono ?_); rintro e w35 ⟨rfl, hb⟩; refine ⟨_, rfl, ?_⟩; have n0_ := Aside0.mk (below_step (by repeat (first | (with_reducible first | exact HB.out | apply below_alloc | apply pw_below_drewN | apply below_drew1) | exact HB.out)) hb); clear HB; have HB := n0_; clear n0_; (try clear hb); (try clear hb2); (try clear hk); (try clear hi)) | ((with_reducible refine gate_callee (f := 21) rfl ?_); refine goesL_ (some 69) rfl rfl Try.func21 (by kernel_rfl) rfl #[.complex .f64 a0 a1, .complex .f64 0 4607182418800017408] rfl (by (try simp only [List.map_toArray, List.map_cons, List.map_nil]); first | done | rfl | (simp only [List.length_drop, List.length_take]; rfl)) ?_; (with_reducible refine (plane_Times.calls (a0, a1) (0, 4607182418800017408) t153 t154 _ A18.out).mono ?_); rintro e w36 ⟨rfl, hb⟩; refine ⟨_, rfl, ?_⟩; have n0_ := Aside0.mk (below_step (by repeat (first | (with_reducible first | exact HB.out | apply below_alloc | apply pw_below_drewN | apply below_drew1) | exact HB.out)) hb); clear HB; have HB := n0_; clear n0_; (try clear hb); (try clear hb2); (try clear hk); (try clear hi)))
                      go_ret
                      exact ⟨by first | rfl | (simp [errW_none, errW_some] <;> rfl) | (simp [*, errW_none, errW_some] <;> rfl), by repeat (first | (with_reducible first | exact HB.out | apply below_alloc | apply pw_below_drewN | apply below_drew1) | exact HB.out)⟩
                  · rw [if_neg c22] at H
                    have c22b0 : (t150 == 0) = false := beq_eq_false_iff_ne.mpr c22
                    have c22b1 : (t150 != 0) = true := bne_iff_ne.mpr c22
                    obtain rfl := Option.some.inj H
                    go_wp2_with (first | ((with_reducible refine gate_callee (f := 19) rfl ?_); refine goesL_ (some 54) rfl rfl Try.func19 (by kernel_rfl) rfl #[.complex .f64 t142.1 t142.2, .int .i64 (wrap64 (-a2))] rfl (by (try simp only [List.map_toArray, List.map_cons, List.map_nil]); first | done | rfl | (simp only [List.length_drop, List.length_take]; rfl)) ?_; (with_reducible refine (plane_Turn.calls t142 (wrap64 (-a2)) t147 t148 _ A15.out).mono ?_); rintro e w37 ⟨rfl, hb⟩; refine ⟨_, rfl, ?_⟩; have n0_ := Aside0.mk (below_step (by repeat (first | (with_reducible first | exact HB.out | apply below_alloc | apply pw_below_drewN | apply below_drew1) | exact HB.out)) hb); clear HB; have HB := n0_; clear n0_; (try clear hb); (try clear hb2); (try clear hk); (try clear hi)) | ((with_reducible refine gate_callee (f := 19) rfl ?_); refine goesL_ (some 59) rfl rfl Try.func19 (by kernel_rfl) rfl #[.complex .f64 a0 a1, .int .i64 4] rfl (by (try simp only [List.map_toArray, List.map_cons, List.map_nil]); first | done | rfl | (simp only [List.length_drop, List.length_take]; rfl)) ?_; (with_reducible refine (plane_Turn.calls (a0, a1) 4 t149 t150 _ A16.out).mono ?_); rintro e w38 ⟨rfl, hb⟩; refine ⟨_, rfl, ?_⟩; have n0_ := Aside0.mk (below_step (by repeat (first | (with_reducible first | exact HB.out | apply below_alloc | apply pw_below_drewN | apply below_drew1) | exact HB.out)) hb); clear HB; have HB := n0_; clear n0_; (try clear hb); (try clear hb2); (try clear hk); (try clear hi)) | ((with_reducible refine gate_callee (f := 19) rfl ?_); refine goesL_ (some 64) rfl rfl Try.func19 (by kernel_rfl) rfl #[.complex .f64 a0 a1, .int .i64 1] rfl (by (try simp only [List.map_toArray, List.map_cons, List.map_nil]); first | done | rfl | (simp only [List.length_drop, List.length_take]; rfl)) ?_; (with_reducible refine (plane_Turn.calls (a0, a1) 1 t151 t152 _ A17.out).mono ?_); rintro e w39 ⟨rfl, hb⟩; refine ⟨_, rfl, ?_⟩; have n0_ := Aside0.mk (below_step (by repeat (first | (with_reducible first | exact HB.out | apply below_alloc | apply pw_below_drewN | apply below_drew1) | exact HB.out)) hb); clear HB; have HB := n0_; clear n0_; (try clear hb); (try clear hb2); (try clear hk); (try clear hi)) | ((with_reducible refine gate_callee (f := 21) rfl ?_); refine goesL_ (some 69) rfl rfl Try.func21 (by kernel_rfl) rfl #[.complex .f64 a0 a1, .complex .f64 0 4607182418800017408] rfl (by (try simp only [List.map_toArray, List.map_cons, List.map_nil]); first | done | rfl | (simp only [List.length_drop, List.length_take]; rfl)) ?_; (with_reducible refine (plane_Times.calls (a0, a1) (0, 4607182418800017408) t153 t154 _ A18.out).mono ?_); rintro e w40 ⟨rfl, hb⟩; refine ⟨_, rfl, ?_⟩; have n0_ := Aside0.mk (below_step (by repeat (first | (with_reducible first | exact HB.out | apply below_alloc | apply pw_below_drewN | apply below_drew1) | exact HB.out)) hb); clear HB; have HB := n0_; clear n0_; (try clear hb); (try clear hb2); (try clear hk); (try clear hi)))
                    go_ret
                    exact ⟨by first | rfl | (simp [errW_none, errW_some] <;> rfl) | (simp [*, errW_none, errW_some] <;> rfl), by repeat (first | (with_reducible first | exact HB.out | apply below_alloc | apply pw_below_drewN | apply below_drew1) | exact HB.out)⟩
                · rw [if_neg c21] at H
                  have c21b0 : ((FloatKind.f64.format.order t149.1 (a0, a1).1 == some Ordering.eq) && (FloatKind.f64.format.order t149.2 (a0, a1).2 == some Ordering.eq)) = false := by simpa using c21
                  clear c21
                  obtain rfl := Option.some.inj H
                  go_wp2_with (first | ((with_reducible refine gate_callee (f := 19) rfl ?_); refine goesL_ (some 54) rfl rfl Try.func19 (by kernel_rfl) rfl #[.complex .f64 t142.1 t142.2, .int .i64 (wrap64 (-a2))] rfl (by (try simp only [List.map_toArray, List.map_cons, List.map_nil]); first | done | rfl | (simp only [List.length_drop, List.length_take]; rfl)) ?_; (with_reducible refine (plane_Turn.calls t142 (wrap64 (-a2)) t147 t148 _ A15.out).mono ?_); rintro e w41 ⟨rfl, hb⟩; refine ⟨_, rfl, ?_⟩; have n0_ := Aside0.mk (below_step (by repeat (first | (with_reducible first | exact HB.out | apply below_alloc | apply pw_below_drewN | apply below_drew1) | exact HB.out)) hb); clear HB; have HB := n0_; clear n0_; (try clear hb); (try clear hb2); (try clear hk); (try clear hi)) | ((with_reducible refine gate_callee (f := 19) rfl ?_); refine goesL_ (some 59) rfl rfl Try.func19 (by kernel_rfl) rfl #[.complex .f64 a0 a1, .int .i64 4] rfl (by (try simp only [List.map_toArray, List.map_cons, List.map_nil]); first | done | rfl | (simp only [List.length_drop, List.length_take]; rfl)) ?_; (with_reducible refine (plane_Turn.calls (a0, a1) 4 t149 t150 _ A16.out).mono ?_); rintro e w42 ⟨rfl, hb⟩; refine ⟨_, rfl, ?_⟩; have n0_ := Aside0.mk (below_step (by repeat (first | (with_reducible first | exact HB.out | apply below_alloc | apply pw_below_drewN | apply below_drew1) | exact HB.out)) hb); clear HB; have HB := n0_; clear n0_; (try clear hb); (try clear hb2); (try clear hk); (try clear hi)) | ((with_reducible refine gate_callee (f := 19) rfl ?_); refine goesL_ (some 64) rfl rfl Try.func19 (by kernel_rfl) rfl #[.complex .f64 a0 a1, .int .i64 1] rfl (by (try simp only [List.map_toArray, List.map_cons, List.map_nil]); first | done | rfl | (simp only [List.length_drop, List.length_take]; rfl)) ?_; (with_reducible refine (plane_Turn.calls (a0, a1) 1 t151 t152 _ A17.out).mono ?_); rintro e w43 ⟨rfl, hb⟩; refine ⟨_, rfl, ?_⟩; have n0_ := Aside0.mk (below_step (by repeat (first | (with_reducible first | exact HB.out | apply below_alloc | apply pw_below_drewN | apply below_drew1) | exact HB.out)) hb); clear HB; have HB := n0_; clear n0_; (try clear hb); (try clear hb2); (try clear hk); (try clear hi)) | ((with_reducible refine gate_callee (f := 21) rfl ?_); refine goesL_ (some 69) rfl rfl Try.func21 (by kernel_rfl) rfl #[.complex .f64 a0 a1, .complex .f64 0 4607182418800017408] rfl (by (try simp only [List.map_toArray, List.map_cons, List.map_nil]); first | done | rfl | (simp only [List.length_drop, List.length_take]; rfl)) ?_; (with_reducible refine (plane_Times.calls (a0, a1) (0, 4607182418800017408) t153 t154 _ A18.out).mono ?_); rintro e w44 ⟨rfl, hb⟩; refine ⟨_, rfl, ?_⟩; have n0_ := Aside0.mk (below_step (by repeat (first | (with_reducible first | exact HB.out | apply below_alloc | apply pw_below_drewN | apply below_drew1) | exact HB.out)) hb); clear HB; have HB := n0_; clear n0_; (try clear hb); (try clear hb2); (try clear hk); (try clear hi)))
                  go_ret
                  exact ⟨by first | rfl | (simp [errW_none, errW_some] <;> rfl) | (simp [*, errW_none, errW_some] <;> rfl), by repeat (first | (with_reducible first | exact HB.out | apply below_alloc | apply pw_below_drewN | apply below_drew1) | exact HB.out)⟩
              · rw [if_neg c20] at H
                have c20b0 : (t148 == 0) = false := beq_eq_false_iff_ne.mpr c20
                have c20b1 : (t148 != 0) = true := bne_iff_ne.mpr c20
                obtain rfl := Option.some.inj H
                go_wp2_with (first | ((with_reducible refine gate_callee (f := 19) rfl ?_); refine goesL_ (some 54) rfl rfl Try.func19 (by kernel_rfl) rfl #[.complex .f64 t142.1 t142.2, .int .i64 (wrap64 (-a2))] rfl (by (try simp only [List.map_toArray, List.map_cons, List.map_nil]); first | done | rfl | (simp only [List.length_drop, List.length_take]; rfl)) ?_; (with_reducible refine (plane_Turn.calls t142 (wrap64 (-a2)) t147 t148 _ A15.out).mono ?_); rintro e w45 ⟨rfl, hb⟩; refine ⟨_, rfl, ?_⟩; have n0_ := Aside0.mk (below_step (by repeat (first | (with_reducible first | exact HB.out | apply below_alloc | apply pw_below_drewN | apply below_drew1) | exact HB.out)) hb); clear HB; have HB := n0_; clear n0_; (try clear hb); (try clear hb2); (try clear hk); (try clear hi)) | ((with_reducible refine gate_callee (f := 19) rfl ?_); refine goesL_ (some 59) rfl rfl Try.func19 (by kernel_rfl) rfl #[.complex .f64 a0 a1, .int .i64 4] rfl (by (try simp only [List.map_toArray, List.map_cons, List.map_nil]); first | done | rfl | (simp only [List.length_drop, List.length_take]; rfl)) ?_; (with_reducible refine (plane_Turn.calls (a0, a1) 4 t149 t150 _ A16.out).mono ?_); rintro e w46 ⟨rfl, hb⟩; refine ⟨_, rfl, ?_⟩; have n0_ := Aside0.mk (below_step (by repeat (first | (with_reducible first | exact HB.out | apply below_alloc | apply pw_below_drewN | apply below_drew1) | exact HB.out)) hb); clear HB; have HB := n0_; clear n0_; (try clear hb); (try clear hb2); (try clear hk); (try clear hi)) | ((with_reducible refine gate_callee (f := 19) rfl ?_); refine goesL_ (some 64) rfl rfl Try.func19 (by kernel_rfl) rfl #[.complex .f64 a0 a1, .int .i64 1] rfl (by (try simp only [List.map_toArray, List.map_cons, List.map_nil]); first | done | rfl | (simp only [List.length_drop, List.length_take]; rfl)) ?_; (with_reducible refine (plane_Turn.calls (a0, a1) 1 t151 t152 _ A17.out).mono ?_); rintro e w47 ⟨rfl, hb⟩; refine ⟨_, rfl, ?_⟩; have n0_ := Aside0.mk (below_step (by repeat (first | (with_reducible first | exact HB.out | apply below_alloc | apply pw_below_drewN | apply below_drew1) | exact HB.out)) hb); clear HB; have HB := n0_; clear n0_; (try clear hb); (try clear hb2); (try clear hk); (try clear hi)) | ((with_reducible refine gate_callee (f := 21) rfl ?_); refine goesL_ (some 69) rfl rfl Try.func21 (by kernel_rfl) rfl #[.complex .f64 a0 a1, .complex .f64 0 4607182418800017408] rfl (by (try simp only [List.map_toArray, List.map_cons, List.map_nil]); first | done | rfl | (simp only [List.length_drop, List.length_take]; rfl)) ?_; (with_reducible refine (plane_Times.calls (a0, a1) (0, 4607182418800017408) t153 t154 _ A18.out).mono ?_); rintro e w48 ⟨rfl, hb⟩; refine ⟨_, rfl, ?_⟩; have n0_ := Aside0.mk (below_step (by repeat (first | (with_reducible first | exact HB.out | apply below_alloc | apply pw_below_drewN | apply below_drew1) | exact HB.out)) hb); clear HB; have HB := n0_; clear n0_; (try clear hb); (try clear hb2); (try clear hk); (try clear hi)))
                go_ret
                exact ⟨by first | rfl | (simp [errW_none, errW_some] <;> rfl) | (simp [*, errW_none, errW_some] <;> rfl), by repeat (first | (with_reducible first | exact HB.out | apply below_alloc | apply pw_below_drewN | apply below_drew1) | exact HB.out)⟩
            · rw [if_neg c19] at H
              have c19b0 : ((FloatKind.f64.format.order t147.1 (a0, a1).1 == some Ordering.eq) && (FloatKind.f64.format.order t147.2 (a0, a1).2 == some Ordering.eq)) = false := by simpa using c19
              clear c19
              obtain rfl := Option.some.inj H
              go_wp2_with (first | ((with_reducible refine gate_callee (f := 19) rfl ?_); refine goesL_ (some 54) rfl rfl Try.func19 (by kernel_rfl) rfl #[.complex .f64 t142.1 t142.2, .int .i64 (wrap64 (-a2))] rfl (by (try simp only [List.map_toArray, List.map_cons, List.map_nil]); first | done | rfl | (simp only [List.length_drop, List.length_take]; rfl)) ?_; (with_reducible refine (plane_Turn.calls t142 (wrap64 (-a2)) t147 t148 _ A15.out).mono ?_); rintro e w49 ⟨rfl, hb⟩; refine ⟨_, rfl, ?_⟩; have n0_ := Aside0.mk (below_step (by repeat (first | (with_reducible first | exact HB.out | apply below_alloc | apply pw_below_drewN | apply below_drew1) | exact HB.out)) hb); clear HB; have HB := n0_; clear n0_; (try clear hb); (try clear hb2); (try clear hk); (try clear hi)) | ((with_reducible refine gate_callee (f := 19) rfl ?_); refine goesL_ (some 59) rfl rfl Try.func19 (by kernel_rfl) rfl #[.complex .f64 a0 a1, .int .i64 4] rfl (by (try simp only [List.map_toArray, List.map_cons, List.map_nil]); first | done | rfl | (simp only [List.length_drop, List.length_take]; rfl)) ?_; (with_reducible refine (plane_Turn.calls (a0, a1) 4 t149 t150 _ A16.out).mono ?_); rintro e w50 ⟨rfl, hb⟩; refine ⟨_, rfl, ?_⟩; have n0_ := Aside0.mk (below_step (by repeat (first | (with_reducible first | exact HB.out | apply below_alloc | apply pw_below_drewN | apply below_drew1) | exact HB.out)) hb); clear HB; have HB := n0_; clear n0_; (try clear hb); (try clear hb2); (try clear hk); (try clear hi)) | ((with_reducible refine gate_callee (f := 19) rfl ?_); refine goesL_ (some 64) rfl rfl Try.func19 (by kernel_rfl) rfl #[.complex .f64 a0 a1, .int .i64 1] rfl (by (try simp only [List.map_toArray, List.map_cons, List.map_nil]); first | done | rfl | (simp only [List.length_drop, List.length_take]; rfl)) ?_; (with_reducible refine (plane_Turn.calls (a0, a1) 1 t151 t152 _ A17.out).mono ?_); rintro e w51 ⟨rfl, hb⟩; refine ⟨_, rfl, ?_⟩; have n0_ := Aside0.mk (below_step (by repeat (first | (with_reducible first | exact HB.out | apply below_alloc | apply pw_below_drewN | apply below_drew1) | exact HB.out)) hb); clear HB; have HB := n0_; clear n0_; (try clear hb); (try clear hb2); (try clear hk); (try clear hi)) | ((with_reducible refine gate_callee (f := 21) rfl ?_); refine goesL_ (some 69) rfl rfl Try.func21 (by kernel_rfl) rfl #[.complex .f64 a0 a1, .complex .f64 0 4607182418800017408] rfl (by (try simp only [List.map_toArray, List.map_cons, List.map_nil]); first | done | rfl | (simp only [List.length_drop, List.length_take]; rfl)) ?_; (with_reducible refine (plane_Times.calls (a0, a1) (0, 4607182418800017408) t153 t154 _ A18.out).mono ?_); rintro e w52 ⟨rfl, hb⟩; refine ⟨_, rfl, ?_⟩; have n0_ := Aside0.mk (below_step (by repeat (first | (with_reducible first | exact HB.out | apply below_alloc | apply pw_below_drewN | apply below_drew1) | exact HB.out)) hb); clear HB; have HB := n0_; clear n0_; (try clear hb); (try clear hb2); (try clear hk); (try clear hi)))
              go_ret
              exact ⟨by first | rfl | (simp [errW_none, errW_some] <;> rfl) | (simp [*, errW_none, errW_some] <;> rfl), by repeat (first | (with_reducible first | exact HB.out | apply below_alloc | apply pw_below_drewN | apply below_drew1) | exact HB.out)⟩
          · rw [if_neg c14] at H
            have c14b0 : (t143 == 0) = false := beq_eq_false_iff_ne.mpr c14
            have c14b1 : (t143 != 0) = true := bne_iff_ne.mpr c14
            replace H := Option.bind_eq_some_iff.mp H
            obtain ⟨t146, A530, H⟩ := H
            replace H : (some (!t146)) = some r := H
            have A53 := Aside0.mk A530
            clear A530
            obtain rfl := Option.some.inj H
            go_wp2_with (first | ((with_reducible refine gate_callee (f := 15) rfl ?_); refine goesL_ (some 48) rfl rfl Try.func15 (by kernel_rfl) rfl #[.complex .f64 a0 a1] rfl (by (try simp only [List.map_toArray, List.map_cons, List.map_nil]); first | done | rfl | (simp only [List.length_drop, List.length_take]; rfl)) ?_; (with_reducible refine (plane_Whole.calls (a0, a1) t146 _ A53.out).mono ?_); rintro e w54 ⟨rfl, hb⟩; refine ⟨_, rfl, ?_⟩; have n0_ := Aside0.mk (below_step (by repeat (first | (with_reducible first | exact HB.out | apply below_alloc | apply pw_below_drewN | apply below_drew1) | exact HB.out)) hb); clear HB; have HB := n0_; clear n0_; (try clear hb); (try clear hb2); (try clear hk); (try clear hi)))
            go_ret
            exact ⟨by first | rfl | (simp [errW_none, errW_some] <;> rfl) | (simp [*, errW_none, errW_some] <;> rfl), by repeat (first | (with_reducible first | exact HB.out | apply below_alloc | apply pw_below_drewN | apply below_drew1) | exact HB.out)⟩
  · replace c5 := Bool.eq_false_iff.mpr c5
    subst c5
    have H1 : (some false) = some r := by rw [if_neg (show ¬ (false = true) by decide)] at H; exact H
    clear H
    have H := H1
    clear H1
    obtain rfl := Option.some.inj H
    go_enter Try.func4, Try.ntmps4
    go_wp2_with (first | ((with_reducible refine gate_callee (f := 12) rfl ?_); refine goesL_ (some 23) rfl rfl Try.func12 (by kernel_rfl) rfl #[] rfl (by (try simp only [List.map_toArray, List.map_cons, List.map_nil]); first | done | rfl | (simp only [List.length_drop, List.length_take]; rfl)) ?_; (with_reducible refine (punnetlaw01_awake.calls  false _ A4.out).mono ?_); rintro e w55 ⟨rfl, hb⟩; refine ⟨_, rfl, ?_⟩; have n0_ := Aside0.mk (below_step (by repeat (first | (with_reducible first | exact HB.out | apply below_alloc | apply pw_below_drewN | apply below_drew1) | exact HB.out)) hb); clear HB; have HB := n0_; clear n0_; (try clear hb); (try clear hb2); (try clear hk); (try clear hi)))
    go_ret
    exact ⟨by first | rfl | (simp [errW_none, errW_some] <;> rfl) | (simp [*, errW_none, errW_some] <;> rfl), by repeat (first | (with_reducible first | exact HB.out | apply below_alloc | apply pw_below_drewN | apply below_drew1) | exact HB.out)⟩

/-- THE ONE PURE STATEMENT of punnetlaw01_PlaneTurns: yours. -/
def punnetlaw01_PlaneTurns.Pure : Prop := ∀ (a0 : Nat) (a1 : Nat) (a2 : Int), (Lit.float .f64 a0).wf = true → (Lit.float .f64 a1).wf = true → (Lit.int .i64 a2).wf = true → ∃ k, punnetlaw01_PlaneTurns.f k a0 a1 a2 = some true
theorem punnetlaw01_PlaneTurns.walk (P : punnetlaw01_PlaneTurns.Pure) (a0 : Nat) (a1 : Nat) (a2 : Int) (w : World) (w0 : (Lit.float .f64 a0).wf = true) (w1 : (Lit.float .f64 a1).wf = true) (w2 : (Lit.int .i64 a2).wf = true) :
    Calls Try.prog 4 #[.float .f64 a0, .float .f64 a1, .int .i64 a2] w fun e w' => e = .returned (.bool true) ∧ Below w.heap.size w w' := by
  obtain ⟨k, h⟩ := P a0 a1 a2 w0 w1 w2
  refine (punnetlaw01_PlaneTurns.calls k a0 a1 a2 true w h).mono ?_
  rintro e w' ⟨rfl, hd⟩
  exact ⟨rfl, hd⟩

end Go.Proofs.Ytjaefcinaackeaa.Q
