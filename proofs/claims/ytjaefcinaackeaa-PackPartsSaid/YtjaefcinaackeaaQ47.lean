/- A function of the program or a law's row comes to what the Lean function beside it says; no condition beyond those typed. Written by a program of this workplace; Lean checks it. -/
import Derived.Test.YtjaefcinaackeaaQ0
import Derived.Test.YtjaefcinaackeaaQ23
import Derived.Test.YtjaefcinaackeaaQ38
import Derived.Test.YtjaefcinaackeaaQ39
import Derived.Test.YtjaefcinaackeaaQ40
import Derived.Test.YtjaefcinaackeaaQ42
import Derived.Test.YtjaefcinaackeaaQ44
import Derived.Test.YtjaefcinaackeaaQ45
namespace Go.Proofs.Ytjaefcinaackeaa.Q
open Go.RowKit Go.Proofs.YtjaefcinaackeaaW.PrintWords Go.Proofs.YtjaefcinaackeaaW.PrintLast Go.Proofs.YtjaefcinaackeaaW.PrintMore
attribute [local go_sem] max2_int min2_int max_two min_two max_three min_three max_four min_four   -- for this text's walks alone
set_option linter.unusedVariables false
set_option linter.unusedSimpArgs false

/-! ### punnetlaw02_PackParts: function 9 -/
def punnetlaw02_PackParts.j0 : Nat → Int → Int → (Nat × Nat) → Int → Int → Int → Bool → Option (Bool)
  | 0, _, _, _, _, _, _, _ => none
  | k + 1, x0, x1, x5, x6, x7, x8, x38 => if x38 = true then (some false) else (if x6 = 0 then ((pack_Join.f x5 x1).bind fun bt277 => (if bt277.2 = 3 then (if x0 < 0 then ((punnetref02_Near.f (wrap64 (x8 * x1))).bind fun t279 => (some (!t279))) else (some false)) else ((pack_Order.f x5 x1).bind fun bt280 => (if bt277.1 = x0 then (if bt277.2 = 0 then (if ((FloatKind.f64.format.order bt280.1.1 x5.1 == some Ordering.eq) && (FloatKind.f64.format.order bt280.1.2 x5.2 == some Ordering.eq)) = true then (if bt280.2 = 0 then (if x7 ≥ 0 then (some (decide (x7 < x1))) else (some false)) else (some false)) else (some false)) else (some false)) else (some false))))) else (some ((FloatKind.f64.format.order x5.1 0 == some Ordering.eq) && (FloatKind.f64.format.order x5.2 0 == some Ordering.eq))))
def punnetlaw02_PackParts.f (k : Nat) (a0 : Int) (a1 : Int) : Option (Bool) := (punnetlaw02_awake.f).bind fun t270 => (if t270 = true then ((pack_Part.f a0 a1).bind fun bt271 => ((punnetref02_Part.f k a0 a1).bind fun bt273 => (if bt271.2 = bt273.2.2 then ((punnetref01_Of.f bt273.1 bt273.2.1).bind fun t276 => (punnetlaw02_PackParts.j0 k a0 a1 bt271.1 bt271.2 bt273.1 bt273.2.1 (!((FloatKind.f64.format.order bt271.1.1 t276.1 == some Ordering.eq) && (FloatKind.f64.format.order bt271.1.2 t276.2 == some Ordering.eq))))) else (punnetlaw02_PackParts.j0 k a0 a1 bt271.1 bt271.2 bt273.1 bt273.2.1 true)))) else (some false))
theorem punnetlaw02_PackParts.mono_l : ∀ k, (∀ y0 y1 y2 y3 y4 y5 y6, LeO (punnetlaw02_PackParts.j0 k y0 y1 y2 y3 y4 y5 y6) (punnetlaw02_PackParts.j0 (k + 1) y0 y1 y2 y3 y4 y5 y6))
  | 0 => fun _ _ _ _ _ _ _ r h => by simp [punnetlaw02_PackParts.j0] at h
  | k + 1 => by
    have ih0 := punnetlaw02_PackParts.mono_l k
    · intro y0 y1 y2 y3 y4 y5 y6
      unfold punnetlaw02_PackParts.j0
      repeat' first
      | (with_reducible exact ih0 _ _ _ _ _ _ _)
      | (with_reducible exact punnetref02_Part.mono _ _ _)
      | (with_reducible exact LeO.refl _)
      | (with_reducible exact LeO.none _)
      | (with_reducible refine LeO.ite ?_ ?_)
      | (with_reducible refine LeO.bind ?_ (fun _ => ?_))
      | exact ih0 _ _ _ _ _ _ _
      | exact punnetref02_Part.mono _ _ _
      | exact LeO.none _
      | refine LeO.ite ?_ ?_
      | refine LeO.bind ?_ (fun _ => ?_)
theorem punnetlaw02_PackParts.mono : ∀ a0 a1 k, LeO (punnetlaw02_PackParts.f k a0 a1) (punnetlaw02_PackParts.f (k + 1) a0 a1) := by
  intro a0 a1 k
  have ih0 := punnetlaw02_PackParts.mono_l k
  unfold punnetlaw02_PackParts.f
  repeat' first
      | (with_reducible exact ih0 _ _ _ _ _ _ _)
      | (with_reducible exact punnetref02_Part.mono _ _ _)
      | (with_reducible exact LeO.refl _)
      | (with_reducible exact LeO.none _)
      | (with_reducible refine LeO.ite ?_ ?_)
      | (with_reducible refine LeO.bind ?_ (fun _ => ?_))
      | exact ih0 _ _ _ _ _ _ _
      | exact punnetref02_Part.mono _ _ _
      | exact LeO.none _
      | refine LeO.ite ?_ ?_
      | refine LeO.bind ?_ (fun _ => ?_)
set_option maxHeartbeats 8000000 in
set_option maxRecDepth 100000 in
theorem punnetlaw02_PackParts.calls (k : Nat) (a0 : Int) (a1 : Int) (r : Bool) (w : World) (h : punnetlaw02_PackParts.f k a0 a1 = some r) :
    Calls Try.prog 9 #[.int .i64 a0, .int .i64 a1] w fun e w' => e = .returned (.bool r) ∧ Below w.heap.size w w' := by
  have HB := Aside0.mk (Below.refl w.heap.size w)
  have H : ((punnetlaw02_awake.f).bind fun t270 => (if t270 = true then ((pack_Part.f a0 a1).bind fun bt271 => ((punnetref02_Part.f k a0 a1).bind fun bt273 => (if bt271.2 = bt273.2.2 then ((punnetref01_Of.f bt273.1 bt273.2.1).bind fun t276 => (punnetlaw02_PackParts.j0 k a0 a1 bt271.1 bt271.2 bt273.1 bt273.2.1 (!((FloatKind.f64.format.order bt271.1.1 t276.1 == some Ordering.eq) && (FloatKind.f64.format.order bt271.1.2 t276.2 == some Ordering.eq))))) else (punnetlaw02_PackParts.j0 k a0 a1 bt271.1 bt271.2 bt273.1 bt273.2.1 true)))) else (some false))) = some r := h
  clear h
  replace H := Option.bind_eq_some_iff.mp H
  obtain ⟨t270, A30, H⟩ := H
  replace H : (if t270 = true then ((pack_Part.f a0 a1).bind fun bt271 => ((punnetref02_Part.f k a0 a1).bind fun bt273 => (if bt271.2 = bt273.2.2 then ((punnetref01_Of.f bt273.1 bt273.2.1).bind fun t276 => (punnetlaw02_PackParts.j0 k a0 a1 bt271.1 bt271.2 bt273.1 bt273.2.1 (!((FloatKind.f64.format.order bt271.1.1 t276.1 == some Ordering.eq) && (FloatKind.f64.format.order bt271.1.2 t276.2 == some Ordering.eq))))) else (punnetlaw02_PackParts.j0 k a0 a1 bt271.1 bt271.2 bt273.1 bt273.2.1 true)))) else (some false)) = some r := H
  have A3 := Aside0.mk A30
  clear A30
  by_cases c4 : t270 = true
  · subst c4
    have H1 : ((pack_Part.f a0 a1).bind fun bt271 => ((punnetref02_Part.f k a0 a1).bind fun bt273 => (if bt271.2 = bt273.2.2 then ((punnetref01_Of.f bt273.1 bt273.2.1).bind fun t276 => (punnetlaw02_PackParts.j0 k a0 a1 bt271.1 bt271.2 bt273.1 bt273.2.1 (!((FloatKind.f64.format.order bt271.1.1 t276.1 == some Ordering.eq) && (FloatKind.f64.format.order bt271.1.2 t276.2 == some Ordering.eq))))) else (punnetlaw02_PackParts.j0 k a0 a1 bt271.1 bt271.2 bt273.1 bt273.2.1 true)))) = some r := by rw [if_pos rfl] at H; exact H
    clear H
    have H := H1
    clear H1
    replace H := Option.bind_eq_some_iff.mp H
    obtain ⟨⟨t271, t272⟩, A50, H⟩ := H
    replace H : ((punnetref02_Part.f k a0 a1).bind fun bt273 => (if t272 = bt273.2.2 then ((punnetref01_Of.f bt273.1 bt273.2.1).bind fun t276 => (punnetlaw02_PackParts.j0 k a0 a1 t271 t272 bt273.1 bt273.2.1 (!((FloatKind.f64.format.order t271.1 t276.1 == some Ordering.eq) && (FloatKind.f64.format.order t271.2 t276.2 == some Ordering.eq))))) else (punnetlaw02_PackParts.j0 k a0 a1 t271 t272 bt273.1 bt273.2.1 true))) = some r := H
    have A5 := Aside0.mk A50
    clear A50
    replace H := Option.bind_eq_some_iff.mp H
    obtain ⟨⟨t273, t274, t275⟩, A60, H⟩ := H
    replace H : (if t272 = t275 then ((punnetref01_Of.f t273 t274).bind fun t276 => (punnetlaw02_PackParts.j0 k a0 a1 t271 t272 t273 t274 (!((FloatKind.f64.format.order t271.1 t276.1 == some Ordering.eq) && (FloatKind.f64.format.order t271.2 t276.2 == some Ordering.eq))))) else (punnetlaw02_PackParts.j0 k a0 a1 t271 t272 t273 t274 true)) = some r := H
    have A6 := Aside0.mk A60
    clear A60
    have HC7 := Aside0.mk H
    clear H
    go_enter Try.func9, Try.ntmps9
    go_upto_region 5 with (first | ((with_reducible refine gate_callee (f := 29) rfl ?_); refine goesL_ (some 14) rfl rfl Try.func29 (by kernel_rfl) rfl #[] rfl (by (try simp only [List.map_toArray, List.map_cons, List.map_nil]); first | done | rfl | (simp only [List.length_drop, List.length_take]; rfl)) ?_; (with_reducible refine (punnetlaw02_awake.calls  true _ A3.out).mono ?_); rintro e w8 ⟨rfl, hb⟩; refine ⟨_, rfl, ?_⟩; have n0_ := Aside0.mk (below_step (by repeat (first | (with_reducible first | exact HB.out | apply below_alloc | apply pw_below_drewN | apply below_drew1) | exact HB.out)) hb); clear HB; have HB := n0_; clear n0_; (try clear hb); (try clear hb2); (try clear hk); (try clear hi)) | ((with_reducible refine gate_callee (f := 37) rfl ?_); refine goesL_ (some 19) rfl rfl Try.func37 (by kernel_rfl) rfl #[.int .i64 a0, .int .i64 a1] rfl (by (try simp only [List.map_toArray, List.map_cons, List.map_nil]); first | done | rfl | (simp only [List.length_drop, List.length_take]; rfl)) ?_; (with_reducible refine (pack_Part.calls a0 a1 t271 t272 _ A5.out).mono ?_); rintro e w9 ⟨rfl, hb⟩; refine ⟨_, rfl, ?_⟩; have n0_ := Aside0.mk (below_step (by repeat (first | (with_reducible first | exact HB.out | apply below_alloc | apply pw_below_drewN | apply below_drew1) | exact HB.out)) hb); clear HB; have HB := n0_; clear n0_; (try clear hb); (try clear hb2); (try clear hk); (try clear hi)) | ((with_reducible refine gate_callee (f := 35) rfl ?_); refine goesL_ (some 25) rfl rfl Try.func35 (by kernel_rfl) rfl #[.int .i64 a0, .int .i64 a1] rfl (by (try simp only [List.map_toArray, List.map_cons, List.map_nil]); first | done | rfl | (simp only [List.length_drop, List.length_take]; rfl)) ?_; (with_reducible refine (punnetref02_Part.calls k a0 a1 t273 t274 t275 _ A6.out).mono ?_); rintro e w' ⟨rfl, ⟨nd, rfl⟩⟩; refine ⟨_, rfl, ?_⟩))
    (try simp only [Act.put, List.setIfInBounds_toArray, List.set_cons_zero, List.set_cons_succ])
    go_cut [38] (fun v38 wc => ∃ (kq : Nat) (x38_6 : Bool), v38 = .bool x38_6 ∧ Aside0 (punnetlaw02_PackParts.j0 kq a0 a1 t271 t272 t273 t274 x38_6 = some r) ∧ Aside0 (kq ≤ k) ∧ Aside0 (Below w.heap.size w wc))
    case first =>
      have H := HC7.out
      clear HC7
      by_cases c10 : t272 = t275
      · rw [if_pos c10] at H
        have c10b0 : (t272 == t275) = true := beq_iff_eq.mpr c10
        have c10b1 : (t272 != t275) = false := bne_eq_false_iff_eq.mpr c10
        clear c10
        (first | rw [c10b0] | (simp only [i64_w, i32_w]; rw [c10b0]) | skip)
        replace H := Option.bind_eq_some_iff.mp H
        obtain ⟨t276, A110, H⟩ := H
        replace H : (punnetlaw02_PackParts.j0 k a0 a1 t271 t272 t273 t274 (!((FloatKind.f64.format.order t271.1 t276.1 == some Ordering.eq) && (FloatKind.f64.format.order t271.2 t276.2 == some Ordering.eq)))) = some r := H
        have A11 := Aside0.mk A110
        clear A110
        have H' := Aside0.mk H
        clear H
        go_wp2_with (first | (go_at_call 36; (with_reducible refine (punnetref01_Of.calls t273 t274 t276 _ A11.out).mono ?_); rintro e w12 ⟨rfl, hb⟩; have n0_ := Aside0.mk (below_step (by repeat (first | (with_reducible first | exact HB.out | apply below_alloc | apply pw_below_drewN | apply below_drew1) | exact HB.out)) hb); clear HB; have HB := n0_; clear n0_; (try clear hb); (try clear hb2); (try clear hk); (try clear hi)))
        go_meet
        case rel => exact ⟨_, (!((FloatKind.f64.format.order t271.1 t276.1 == some Ordering.eq) && (FloatKind.f64.format.order t271.2 t276.2 == some Ordering.eq))), (by first | rfl | (simp; done) | (simp [*]; done)), H', ⟨by first | omega | exact Nat.le_refl _⟩, ⟨by repeat (first | (with_reducible first | exact HB.out | apply below_alloc | apply pw_below_drewN | apply below_drew1) | exact HB.out)⟩⟩
      · rw [if_neg c10] at H
        have c10b0 : (t272 == t275) = false := beq_eq_false_iff_ne.mpr c10
        have c10b1 : (t272 != t275) = true := bne_iff_ne.mpr c10
        (first | rw [c10b0] | (simp only [i64_w, i32_w]; rw [c10b0]) | skip)
        have H' := Aside0.mk H
        clear H
        go_wp2
        go_meet
        case rel => exact ⟨_, (true), (by first | rfl | (simp; done) | (simp [*]; done)), H', ⟨by first | omega | exact Nat.le_refl _⟩, ⟨by repeat (first | (with_reducible first | exact HB.out | apply below_alloc | apply pw_below_drewN | apply below_drew1) | exact HB.out)⟩⟩
    case rest =>
      clear HC7
      try clear c1
      try clear c2
      try clear p2
      try clear c3
      try clear c4
      try clear c9
      try clear c10
      try clear c10b0
      try clear c10b1
      obtain ⟨kq, x38_6, rfl, HA, HJ6, HB⟩ := hcut
      cases kq with
      | zero => exact absurd HA.out (by simp [punnetlaw02_PackParts.j0])
      | succ kj6 =>
        have H := HA.out
        clear HA
        simp only [punnetlaw02_PackParts.j0] at H
        by_cases c13 : x38_6 = true
        · subst c13
          have H1 : (some false) = some r := by rw [if_pos rfl] at H; exact H
          clear H
          have H := H1
          clear H1
          obtain rfl := Option.some.inj H
          go_wp2
          go_ret
          exact ⟨by first | rfl | (simp [errW_none, errW_some] <;> rfl) | (simp [*, errW_none, errW_some] <;> rfl), by repeat (first | (with_reducible first | exact HB.out | apply below_alloc | apply pw_below_drewN | apply below_drew1) | exact HB.out)⟩
        · replace c13 := Bool.eq_false_iff.mpr c13
          subst c13
          have H1 : (if t272 = 0 then ((pack_Join.f t271 a1).bind fun bt277 => (if bt277.2 = 3 then (if a0 < 0 then ((punnetref02_Near.f (wrap64 (t274 * a1))).bind fun t279 => (some (!t279))) else (some false)) else ((pack_Order.f t271 a1).bind fun bt280 => (if bt277.1 = a0 then (if bt277.2 = 0 then (if ((FloatKind.f64.format.order bt280.1.1 t271.1 == some Ordering.eq) && (FloatKind.f64.format.order bt280.1.2 t271.2 == some Ordering.eq)) = true then (if bt280.2 = 0 then (if t273 ≥ 0 then (some (decide (t273 < a1))) else (some false)) else (some false)) else (some false)) else (some false)) else (some false))))) else (some ((FloatKind.f64.format.order t271.1 0 == some Ordering.eq) && (FloatKind.f64.format.order t271.2 0 == some Ordering.eq)))) = some r := by rw [if_neg (show ¬ (false = true) by decide)] at H; exact H
          clear H
          have H := H1
          clear H1
          by_cases c14 : t272 = 0
          · rw [if_pos c14] at H
            have c14b0 : (t272 == 0) = true := beq_iff_eq.mpr c14
            have c14b1 : (t272 != 0) = false := bne_eq_false_iff_eq.mpr c14
            clear c14
            replace H := Option.bind_eq_some_iff.mp H
            obtain ⟨⟨t277, t278⟩, A150, H⟩ := H
            replace H : (if t278 = 3 then (if a0 < 0 then ((punnetref02_Near.f (wrap64 (t274 * a1))).bind fun t279 => (some (!t279))) else (some false)) else ((pack_Order.f t271 a1).bind fun bt280 => (if t277 = a0 then (if t278 = 0 then (if ((FloatKind.f64.format.order bt280.1.1 t271.1 == some Ordering.eq) && (FloatKind.f64.format.order bt280.1.2 t271.2 == some Ordering.eq)) = true then (if bt280.2 = 0 then (if t273 ≥ 0 then (some (decide (t273 < a1))) else (some false)) else (some false)) else (some false)) else (some false)) else (some false)))) = some r := H
            have A15 := Aside0.mk A150
            clear A150
            by_cases c16 : t278 = 3
            · rw [if_pos c16] at H
              have c16b0 : (t278 == 3) = true := beq_iff_eq.mpr c16
              have c16b1 : (t278 != 3) = false := bne_eq_false_iff_eq.mpr c16
              clear c16
              by_cases c17 : a0 < 0
              · rw [if_pos c17] at H
                have c17b0 : decide (a0 < 0) = true := decide_eq_true c17
                clear c17
                replace H := Option.bind_eq_some_iff.mp H
                obtain ⟨t279, A180, H⟩ := H
                replace H : (some (!t279)) = some r := H
                have A18 := Aside0.mk A180
                clear A180
                obtain rfl := Option.some.inj H
                go_wp2_with (first | ((with_reducible refine gate_callee (f := 30) rfl ?_); refine goesL_ (some 46) rfl rfl Try.func30 (by kernel_rfl) rfl #[.complex .f64 t271.1 t271.2, .int .i64 a1] rfl (by (try simp only [List.map_toArray, List.map_cons, List.map_nil]); first | done | rfl | (simp only [List.length_drop, List.length_take]; rfl)) ?_; (with_reducible refine (pack_Join.calls t271 a1 t277 t278 _ A15.out).mono ?_); rintro e w19 ⟨rfl, hb⟩; refine ⟨_, rfl, ?_⟩; have n0_ := Aside0.mk (below_step (by repeat (first | (with_reducible first | exact HB.out | apply below_alloc | apply pw_below_drewN | apply below_drew1) | exact HB.out)) hb); clear HB; have HB := n0_; clear n0_; (try clear hb); (try clear hb2); (try clear hk); (try clear hi)) | (go_at_call 38; (with_reducible refine (punnetref02_Near.calls (wrap64 (t274 * a1)) t279 _ A18.out).mono ?_); rintro e w' ⟨rfl, ⟨nd, rfl⟩⟩))
                go_ret
                exact ⟨by first | rfl | (simp [errW_none, errW_some] <;> rfl) | (simp [*, errW_none, errW_some] <;> rfl), by repeat (first | (with_reducible first | exact HB.out | apply below_alloc | apply pw_below_drewN | apply below_drew1) | exact HB.out)⟩
              · rw [if_neg c17] at H
                have c17b0 : decide (a0 < 0) = false := decide_eq_false c17
                clear c17
                obtain rfl := Option.some.inj H
                go_wp2_with (first | ((with_reducible refine gate_callee (f := 30) rfl ?_); refine goesL_ (some 46) rfl rfl Try.func30 (by kernel_rfl) rfl #[.complex .f64 t271.1 t271.2, .int .i64 a1] rfl (by (try simp only [List.map_toArray, List.map_cons, List.map_nil]); first | done | rfl | (simp only [List.length_drop, List.length_take]; rfl)) ?_; (with_reducible refine (pack_Join.calls t271 a1 t277 t278 _ A15.out).mono ?_); rintro e w20 ⟨rfl, hb⟩; refine ⟨_, rfl, ?_⟩; have n0_ := Aside0.mk (below_step (by repeat (first | (with_reducible first | exact HB.out | apply below_alloc | apply pw_below_drewN | apply below_drew1) | exact HB.out)) hb); clear HB; have HB := n0_; clear n0_; (try clear hb); (try clear hb2); (try clear hk); (try clear hi)))
                go_ret
                exact ⟨by first | rfl | (simp [errW_none, errW_some] <;> rfl) | (simp [*, errW_none, errW_some] <;> rfl), by repeat (first | (with_reducible first | exact HB.out | apply below_alloc | apply pw_below_drewN | apply below_drew1) | exact HB.out)⟩
            · rw [if_neg c16] at H
              have c16b0 : (t278 == 3) = false := beq_eq_false_iff_ne.mpr c16
              have c16b1 : (t278 != 3) = true := bne_iff_ne.mpr c16
              replace H := Option.bind_eq_some_iff.mp H
              obtain ⟨⟨t280, t281⟩, A210, H⟩ := H
              replace H : (if t277 = a0 then (if t278 = 0 then (if ((FloatKind.f64.format.order t280.1 t271.1 == some Ordering.eq) && (FloatKind.f64.format.order t280.2 t271.2 == some Ordering.eq)) = true then (if t281 = 0 then (if t273 ≥ 0 then (some (decide (t273 < a1))) else (some false)) else (some false)) else (some false)) else (some false)) else (some false)) = some r := H
              have A21 := Aside0.mk A210
              clear A210
              by_cases c22 : t277 = a0
              · rw [if_pos c22] at H
                have c22b0 : (t277 == a0) = true := beq_iff_eq.mpr c22
                have c22b1 : (t277 != a0) = false := bne_eq_false_iff_eq.mpr c22
                clear c22
                by_cases c23 : t278 = 0
                · rw [if_pos c23] at H
                  have c23b0 : (t278 == 0) = true := beq_iff_eq.mpr c23
                  have c23b1 : (t278 != 0) = false := bne_eq_false_iff_eq.mpr c23
                  clear c23
                  by_cases c24 : ((FloatKind.f64.format.order t280.1 t271.1 == some Ordering.eq) && (FloatKind.f64.format.order t280.2 t271.2 == some Ordering.eq)) = true
                  · rw [if_pos c24] at H
                    have c24b0 : ((FloatKind.f64.format.order t280.1 t271.1 == some Ordering.eq) && (FloatKind.f64.format.order t280.2 t271.2 == some Ordering.eq)) = true := c24
                    clear c24
                    by_cases c25 : t281 = 0
                    · rw [if_pos c25] at H
                      have c25b0 : (t281 == 0) = true := beq_iff_eq.mpr c25
                      have c25b1 : (t281 != 0) = false := bne_eq_false_iff_eq.mpr c25
                      clear c25
                      by_cases c26 : t273 ≥ 0
                      · rw [if_pos c26] at H
                        have c26b0 : decide (0 ≤ t273) = true := decide_eq_true c26
                        clear c26
                        obtain rfl := Option.some.inj H
                        go_wp2_with (first | ((with_reducible refine gate_callee (f := 30) rfl ?_); refine goesL_ (some 46) rfl rfl Try.func30 (by kernel_rfl) rfl #[.complex .f64 t271.1 t271.2, .int .i64 a1] rfl (by (try simp only [List.map_toArray, List.map_cons, List.map_nil]); first | done | rfl | (simp only [List.length_drop, List.length_take]; rfl)) ?_; (with_reducible refine (pack_Join.calls t271 a1 t277 t278 _ A15.out).mono ?_); rintro e w27 ⟨rfl, hb⟩; refine ⟨_, rfl, ?_⟩; have n0_ := Aside0.mk (below_step (by repeat (first | (with_reducible first | exact HB.out | apply below_alloc | apply pw_below_drewN | apply below_drew1) | exact HB.out)) hb); clear HB; have HB := n0_; clear n0_; (try clear hb); (try clear hb2); (try clear hk); (try clear hi)) | ((with_reducible refine gate_callee (f := 32) rfl ?_); refine goesL_ (some 63) rfl rfl Try.func32 (by kernel_rfl) rfl #[.complex .f64 t271.1 t271.2, .int .i64 a1] rfl (by (try simp only [List.map_toArray, List.map_cons, List.map_nil]); first | done | rfl | (simp only [List.length_drop, List.length_take]; rfl)) ?_; (with_reducible refine (pack_Order.calls t271 a1 t280 t281 _ A21.out).mono ?_); rintro e w28 ⟨rfl, hb⟩; refine ⟨_, rfl, ?_⟩; have n0_ := Aside0.mk (below_step (by repeat (first | (with_reducible first | exact HB.out | apply below_alloc | apply pw_below_drewN | apply below_drew1) | exact HB.out)) hb); clear HB; have HB := n0_; clear n0_; (try clear hb); (try clear hb2); (try clear hk); (try clear hi)))
                        go_ret
                        exact ⟨by first | rfl | (simp [errW_none, errW_some] <;> rfl) | (simp [*, errW_none, errW_some] <;> rfl), by repeat (first | (with_reducible first | exact HB.out | apply below_alloc | apply pw_below_drewN | apply below_drew1) | exact HB.out)⟩
                      · rw [if_neg c26] at H
                        have c26b0 : decide (0 ≤ t273) = false := decide_eq_false c26
                        clear c26
                        obtain rfl := Option.some.inj H
                        go_wp2_with (first | ((with_reducible refine gate_callee (f := 30) rfl ?_); refine goesL_ (some 46) rfl rfl Try.func30 (by kernel_rfl) rfl #[.complex .f64 t271.1 t271.2, .int .i64 a1] rfl (by (try simp only [List.map_toArray, List.map_cons, List.map_nil]); first | done | rfl | (simp only [List.length_drop, List.length_take]; rfl)) ?_; (with_reducible refine (pack_Join.calls t271 a1 t277 t278 _ A15.out).mono ?_); rintro e w29 ⟨rfl, hb⟩; refine ⟨_, rfl, ?_⟩; have n0_ := Aside0.mk (below_step (by repeat (first | (with_reducible first | exact HB.out | apply below_alloc | apply pw_below_drewN | apply below_drew1) | exact HB.out)) hb); clear HB; have HB := n0_; clear n0_; (try clear hb); (try clear hb2); (try clear hk); (try clear hi)) | ((with_reducible refine gate_callee (f := 32) rfl ?_); refine goesL_ (some 63) rfl rfl Try.func32 (by kernel_rfl) rfl #[.complex .f64 t271.1 t271.2, .int .i64 a1] rfl (by (try simp only [List.map_toArray, List.map_cons, List.map_nil]); first | done | rfl | (simp only [List.length_drop, List.length_take]; rfl)) ?_; (with_reducible refine (pack_Order.calls t271 a1 t280 t281 _ A21.out).mono ?_); rintro e w30 ⟨rfl, hb⟩; refine ⟨_, rfl, ?_⟩; have n0_ := Aside0.mk (below_step (by repeat (first | (with_reducible first | exact HB.out | apply below_alloc | apply pw_below_drewN | apply below_drew1) | exact HB.out)) hb); clear HB; have HB := n0_; clear n0_; (try clear hb); (try clear hb2); (try clear hk); (try clear hi)))
                        go_ret
                        exact ⟨by first | rfl | (simp [errW_none, errW_some] <;> rfl) | (simp [*, errW_none, errW_some] <;> rfl), by repeat (first | (with_reducible first | exact HB.out | apply below_alloc | apply pw_below_drewN | apply below_drew1) | exact HB.out)⟩
                    · rw [if_neg c25] at H
                      have c25b0 : (t281 == 0) = false := beq_eq_false_iff_ne.mpr c25
                      have c25b1 : (t281 != 0) = true := bne_iff_ne.mpr c25
                      obtain rfl := Option.some.inj H
                      go_wp2_with (first | ((with_reducible refine gate_callee (f := 30) rfl ?_); refine goesL_ (some 46) rfl rfl Try.func30 (by kernel_rfl) rfl #[.complex .f64 t271.1 t271.2, .int .i64 a1] rfl (by (try simp only [List.map_toArray, List.map_cons, List.map_nil]); first | done | rfl | (simp only [List.length_drop, List.length_take]; rfl)) ?_; (with_reducible refine (pack_Join.calls t271 a1 t277 t278 _ A15.out).mono ?_); rintro e w31 ⟨rfl, hb⟩; refine ⟨_, rfl, ?_⟩; have n0_ := Aside0.mk (below_step (by repeat (first | (with_reducible first | exact HB.out | apply below_alloc | apply pw_below_drewN | apply below_drew1) | exact HB.out)) hb); clear HB; have HB := n0_; clear n0_; (try clear hb); (try clear hb2); (try clear hk); (try clear hi)) | ((with_reducible refine gate_callee (f := 32) rfl ?_); refine goesL_ (some 63) rfl rfl Try.func32 (by kernel_rfl) rfl #[.complex .f64 t271.1 t271.2, .int .i64 a1] rfl (by (try simp only [List.map_toArray, List.map_cons, List.map_nil]); first | done | rfl | (simp only [List.length_drop, List.length_take]; rfl)) ?_; (with_reducible refine (pack_Order.calls t271 a1 t280 t281 _ A21.out).mono ?_); rintro e w32 ⟨rfl, hb⟩; refine ⟨_, rfl, ?_⟩; have n0_ := Aside0.mk (below_step (by repeat (first | (with_reducible first | exact HB.out | apply below_alloc | apply pw_below_drewN | apply below_drew1) | exact HB.out)) hb); clear HB; have HB := n0_; clear n0_; (try clear hb); (try clear hb2); (try clear hk); (try clear hi)))
                      go_ret
                      exact ⟨by first | rfl | (simp [errW_none, errW_some] <;> rfl) | (simp [*, errW_none, errW_some] <;> rfl), by repeat (first | (with_reducible first | exact HB.out | apply below_alloc | apply pw_below_drewN | apply below_drew1) | exact HB.out)⟩
                  · rw [if_neg c24] at H
                    have c24b0 : ((FloatKind.f64.format.order t280.1 t271.1 == some Ordering.eq) && (FloatKind.f64.format.order t280.2 t271.2 == some Ordering.eq)) = false := by simpa using c24
                    clear c24
                    obtain rfl := Option.some.inj H
                    go_wp2_with (first | ((with_reducible refine gate_callee (f := 30) rfl ?_); refine goesL_ (some 46) rfl rfl Try.func30 (by kernel_rfl) rfl #[.complex .f64 t271.1 t271.2, .int .i64 a1] rfl (by (try simp only [List.map_toArray, List.map_cons, List.map_nil]); first | done | rfl | (simp only [List.length_drop, List.length_take]; rfl)) ?_; (with_reducible refine (pack_Join.calls t271 a1 t277 t278 _ A15.out).mono ?_); rintro e w33 ⟨rfl, hb⟩; refine ⟨_, rfl, ?_⟩; have n0_ := Aside0.mk (below_step (by repeat (first | (with_reducible first | exact HB.out | apply below_alloc | apply pw_below_drewN | apply below_drew1) | exact HB.out)) hb); clear HB; have HB := n0_; clear n0_; (try clear hb); (try clear hb2); (try clear hk); (try clear hi)) | ((with_reducible refine gate_callee (f := 32) rfl ?_); refine goesL_ (some 63) rfl rfl Try.func32 (by kernel_rfl) rfl #[.complex .f64 t271.1 t271.2, .int .i64 a1] rfl (by (try simp only [List.map_toArray, List.map_cons, List.map_nil]); first | done | rfl | (simp only [List.length_drop, List.length_take]; rfl)) ?_; (with_reducible refine (pack_Order.calls t271 a1 t280 t281 _ A21.out).mono ?_); rintro e w34 ⟨rfl, hb⟩; refine ⟨_, rfl, ?_⟩; have n0_ := Aside0.mk (below_step (by repeat (first | (with_reducible first | exact HB.out | apply below_alloc | apply pw_below_drewN | apply below_drew1) | exact HB.out)) hb); clear HB; have HB := n0_; clear n0_; (try clear hb); (try clear hb2); (try clear hk); (try clear hi)))
                    go_ret
                    exact ⟨by first | rfl | (simp [errW_none, errW_some] <;> rfl) | (simp [*, errW_none, errW_some] <;> rfl), by repeat (first | (with_reducible first | exact HB.out | apply below_alloc | apply pw_below_drewN | apply below_drew1) | exact HB.out)⟩
                · rw [if_neg c23] at H
                  have c23b0 : (t278 == 0) = false := beq_eq_false_iff_ne.mpr c23
                  have c23b1 : (t278 != 0) = true := bne_iff_ne.mpr c23
                  obtain rfl := Option.some.inj H
                  go_wp2_with (first | ((with_reducible refine gate_callee (f := 30) rfl ?_); refine goesL_ (some 46) rfl rfl Try.func30 (by kernel_rfl) rfl #[.complex .f64 t271.1 t271.2, .int .i64 a1] rfl (by (try simp only [List.map_toArray, List.map_cons, List.map_nil]); first | done | rfl | (simp only [List.length_drop, List.length_take]; rfl)) ?_; (with_reducible refine (pack_Join.calls t271 a1 t277 t278 _ A15.out).mono ?_); rintro e w35 ⟨rfl, hb⟩; refine ⟨_, rfl, ?_⟩; have n0_ := Aside0.mk (below_step (by repeat (first | (with_reducible first | exact HB.out | apply below_alloc | apply pw_below_drewN | apply below_drew1) | exact HB.out)) hb); clear HB; have HB := n0_; clear n0_; (try clear hb); (try clear hb2); (try clear hk); (try clear hi)) | ((with_reducible refine gate_callee (f := 32) rfl ?_); refine goesL_ (some 63) rfl rfl Try.func32 (by kernel_rfl) rfl #[.complex .f64 t271.1 t271.2, .int .i64 a1] rfl (by (try simp only [List.map_toArray, List.map_cons, List.map_nil]); first | done | rfl | (simp only [List.length_drop, List.length_take]; rfl)) ?_; (with_reducible refine (pack_Order.calls t271 a1 t280 t281 _ A21.out).mono ?_); rintro e w36 ⟨rfl, hb⟩; refine ⟨_, rfl, ?_⟩; have n0_ := Aside0.mk (below_step (by repeat (first | (with_reducible first | exact HB.out | apply below_alloc | apply pw_below_drewN | apply below_drew1) | exact HB.out)) hb); clear HB; have HB := n0_; clear n0_; (try clear hb); (try clear hb2); (try clear hk); (try clear hi)))
                  go_ret
                  exact ⟨by first | rfl | (simp [errW_none, errW_some] <;> rfl) | (simp [*, errW_none, errW_some] <;> rfl), by repeat (first | (with_reducible first | exact HB.out | apply below_alloc | apply pw_below_drewN | apply below_drew1) | exact HB.out)⟩
              · rw [if_neg c22] at H
                have c22b0 : (t277 == a0) = false := beq_eq_false_iff_ne.mpr c22
                have c22b1 : (t277 != a0) = true := bne_iff_ne.mpr c22
                obtain rfl := Option.some.inj H
                go_wp2_with (first | ((with_reducible refine gate_callee (f := 30) rfl ?_); refine goesL_ (some 46) rfl rfl Try.func30 (by kernel_rfl) rfl #[.complex .f64 t271.1 t271.2, .int .i64 a1] rfl (by (try simp only [List.map_toArray, List.map_cons, List.map_nil]); first | done | rfl | (simp only [List.length_drop, List.length_take]; rfl)) ?_; (with_reducible refine (pack_Join.calls t271 a1 t277 t278 _ A15.out).mono ?_); rintro e w37 ⟨rfl, hb⟩; refine ⟨_, rfl, ?_⟩; have n0_ := Aside0.mk (below_step (by repeat (first | (with_reducible first | exact HB.out | apply below_alloc | apply pw_below_drewN | apply below_drew1) | exact HB.out)) hb); clear HB; have HB := n0_; clear n0_; (try clear hb); (try clear hb2); (try clear hk); (try clear hi)) | ((with_reducible refine gate_callee (f := 32) rfl ?_); refine goesL_ (some 63) rfl rfl Try.func32 (by kernel_rfl) rfl #[.complex .f64 t271.1 t271.2, .int .i64 a1] rfl (by (try simp only [List.map_toArray, List.map_cons, List.map_nil]); first | done | rfl | (simp only [List.length_drop, List.length_take]; rfl)) ?_; (with_reducible refine (pack_Order.calls t271 a1 t280 t281 _ A21.out).mono ?_); rintro e w38 ⟨rfl, hb⟩; refine ⟨_, rfl, ?_⟩; have n0_ := Aside0.mk (below_step (by repeat (first | (with_reducible first | exact HB.out | apply below_alloc | apply pw_below_drewN | apply below_drew1) | exact HB.out)) hb); clear HB; have HB := n0_; clear n0_; (try clear hb); (try clear hb2); (try clear hk); (try clear hi)))
                go_ret
                exact ⟨by first | rfl | (simp [errW_none, errW_some] <;> rfl) | (simp [*, errW_none, errW_some] <;> rfl), by repeat (first | (with_reducible first | exact HB.out | apply below_alloc | apply pw_below_drewN | apply below_drew1) | exact HB.out)⟩
          · rw [if_neg c14] at H
            have c14b0 : (t272 == 0) = false := beq_eq_false_iff_ne.mpr c14
            have c14b1 : (t272 != 0) = true := bne_iff_ne.mpr c14
            obtain rfl := Option.some.inj H
            go_wp2
            go_ret
            exact ⟨by first | rfl | (simp [errW_none, errW_some] <;> rfl) | (simp [*, errW_none, errW_some] <;> rfl), by repeat (first | (with_reducible first | exact HB.out | apply below_alloc | apply pw_below_drewN | apply below_drew1) | exact HB.out)⟩
  · replace c4 := Bool.eq_false_iff.mpr c4
    subst c4
    have H1 : (some false) = some r := by rw [if_neg (show ¬ (false = true) by decide)] at H; exact H
    clear H
    have H := H1
    clear H1
    obtain rfl := Option.some.inj H
    go_enter Try.func9, Try.ntmps9
    go_wp2_with (first | ((with_reducible refine gate_callee (f := 29) rfl ?_); refine goesL_ (some 14) rfl rfl Try.func29 (by kernel_rfl) rfl #[] rfl (by (try simp only [List.map_toArray, List.map_cons, List.map_nil]); first | done | rfl | (simp only [List.length_drop, List.length_take]; rfl)) ?_; (with_reducible refine (punnetlaw02_awake.calls  false _ A3.out).mono ?_); rintro e w39 ⟨rfl, hb⟩; refine ⟨_, rfl, ?_⟩; have n0_ := Aside0.mk (below_step (by repeat (first | (with_reducible first | exact HB.out | apply below_alloc | apply pw_below_drewN | apply below_drew1) | exact HB.out)) hb); clear HB; have HB := n0_; clear n0_; (try clear hb); (try clear hb2); (try clear hk); (try clear hi)))
    go_ret
    exact ⟨by first | rfl | (simp [errW_none, errW_some] <;> rfl) | (simp [*, errW_none, errW_some] <;> rfl), by repeat (first | (with_reducible first | exact HB.out | apply below_alloc | apply pw_below_drewN | apply below_drew1) | exact HB.out)⟩

/-- THE ONE PURE STATEMENT of punnetlaw02_PackParts: yours. -/
def punnetlaw02_PackParts.Pure : Prop := ∀ (a0 : Int) (a1 : Int), (Lit.int .i64 a0).wf = true → (Lit.int .i64 a1).wf = true → ∃ k, punnetlaw02_PackParts.f k a0 a1 = some true
theorem punnetlaw02_PackParts.walk (P : punnetlaw02_PackParts.Pure) (a0 : Int) (a1 : Int) (w : World) (w0 : (Lit.int .i64 a0).wf = true) (w1 : (Lit.int .i64 a1).wf = true) :
    Calls Try.prog 9 #[.int .i64 a0, .int .i64 a1] w fun e w' => e = .returned (.bool true) ∧ Below w.heap.size w w' := by
  obtain ⟨k, h⟩ := P a0 a1 w0 w1
  refine (punnetlaw02_PackParts.calls k a0 a1 true w h).mono ?_
  rintro e w' ⟨rfl, hd⟩
  exact ⟨rfl, hd⟩

end Go.Proofs.Ytjaefcinaackeaa.Q
