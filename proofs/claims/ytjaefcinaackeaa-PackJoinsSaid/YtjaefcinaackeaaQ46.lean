/- A function of the program or a law's row comes to what the Lean function beside it says; no condition beyond those typed. Written by a program of this workplace; Lean checks it. -/
import Derived.Test.YtjaefcinaackeaaQ0
import Derived.Test.YtjaefcinaackeaaQ23
import Derived.Test.YtjaefcinaackeaaQ36
import Derived.Test.YtjaefcinaackeaaQ38
import Derived.Test.YtjaefcinaackeaaQ40
import Derived.Test.YtjaefcinaackeaaQ41
import Derived.Test.YtjaefcinaackeaaQ43
import Derived.Test.YtjaefcinaackeaaQ44
import Derived.Test.YtjaefcinaackeaaQ45
namespace Go.Proofs.Ytjaefcinaackeaa.Q
open Go.RowKit Go.Proofs.YtjaefcinaackeaaW.PrintWords Go.Proofs.YtjaefcinaackeaaW.PrintLast Go.Proofs.YtjaefcinaackeaaW.PrintMore
attribute [local go_sem] max2_int min2_int max_two min_two max_three min_three max_four min_four   -- for this text's walks alone
set_option linter.unusedVariables false
set_option linter.unusedSimpArgs false

/-! ### punnetlaw02_PackJoins: function 8 -/
def punnetlaw02_PackJoins.j0 : Nat → Int → Int → Int → (Nat × Nat) → Bool → Option (Bool)
  | 0, _, _, _, _, _ => none
  | k + 1, x2, x10, x11, x12, x59 => if x59 = true then (some false) else (if x11 = 0 then ((punnetref02_Part.f k x10 x2).bind fun bt266 => ((punnetref01_Of.f bt266.1 bt266.2.1).bind fun t269 => (some ((FloatKind.f64.format.order x12.1 t269.1 == some Ordering.eq) && (FloatKind.f64.format.order x12.2 t269.2 == some Ordering.eq))))) else (some ((FloatKind.f64.format.order x12.1 0 == some Ordering.eq) && (FloatKind.f64.format.order x12.2 0 == some Ordering.eq))))
def punnetlaw02_PackJoins.f (k : Nat) (a0 : Nat) (a1 : Nat) (a2 : Int) : Option (Bool) := (punnetlaw02_awake.f).bind fun t257 => (if t257 = true then ((pack_Join.f (a0, a1) a2).bind fun bt258 => ((punnetref02_Join.f (a0, a1) a2).bind fun bt260 => ((pack_Order.f (a0, a1) a2).bind fun bt262 => (if bt258.1 = bt260.1 then (if bt258.2 = bt260.2 then (if bt262.2 = bt260.2 then ((pack_Factor.f a2).bind fun t264 => ((punnetref02_Factor.f a2).bind fun t265 => (punnetlaw02_PackJoins.j0 k a2 bt260.1 bt260.2 bt262.1 (t264 != t265)))) else (punnetlaw02_PackJoins.j0 k a2 bt260.1 bt260.2 bt262.1 true)) else (punnetlaw02_PackJoins.j0 k a2 bt260.1 bt260.2 bt262.1 true)) else (punnetlaw02_PackJoins.j0 k a2 bt260.1 bt260.2 bt262.1 true))))) else (some false))
theorem punnetlaw02_PackJoins.mono_l : ∀ k, (∀ y0 y1 y2 y3 y4, LeO (punnetlaw02_PackJoins.j0 k y0 y1 y2 y3 y4) (punnetlaw02_PackJoins.j0 (k + 1) y0 y1 y2 y3 y4))
  | 0 => fun _ _ _ _ _ r h => by simp [punnetlaw02_PackJoins.j0] at h
  | k + 1 => by
    have ih0 := punnetlaw02_PackJoins.mono_l k
    · intro y0 y1 y2 y3 y4
      unfold punnetlaw02_PackJoins.j0
      repeat' first
      | (with_reducible exact ih0 _ _ _ _ _)
      | (with_reducible exact punnetref02_Part.mono _ _ _)
      | (with_reducible exact LeO.refl _)
      | (with_reducible exact LeO.none _)
      | (with_reducible refine LeO.ite ?_ ?_)
      | (with_reducible refine LeO.bind ?_ (fun _ => ?_))
      | exact ih0 _ _ _ _ _
      | exact punnetref02_Part.mono _ _ _
      | exact LeO.none _
      | refine LeO.ite ?_ ?_
      | refine LeO.bind ?_ (fun _ => ?_)
theorem punnetlaw02_PackJoins.mono : ∀ a0 a1 a2 k, LeO (punnetlaw02_PackJoins.f k a0 a1 a2) (punnetlaw02_PackJoins.f (k + 1) a0 a1 a2) := by
  intro a0 a1 a2 k
  have ih0 := punnetlaw02_PackJoins.mono_l k
  unfold punnetlaw02_PackJoins.f
  repeat' first
      | (with_reducible exact ih0 _ _ _ _ _)
      | (with_reducible exact punnetref02_Part.mono _ _ _)
      | (with_reducible exact LeO.refl _)
      | (with_reducible exact LeO.none _)
      | (with_reducible refine LeO.ite ?_ ?_)
      | (with_reducible refine LeO.bind ?_ (fun _ => ?_))
      | exact ih0 _ _ _ _ _
      | exact punnetref02_Part.mono _ _ _
      | exact LeO.none _
      | refine LeO.ite ?_ ?_
      | refine LeO.bind ?_ (fun _ => ?_)
set_option maxHeartbeats 8000000 in
set_option maxRecDepth 100000 in
theorem punnetlaw02_PackJoins.calls (k : Nat) (a0 : Nat) (a1 : Nat) (a2 : Int) (r : Bool) (w : World) (h : punnetlaw02_PackJoins.f k a0 a1 a2 = some r) :
    Calls Try.prog 8 #[.float .f64 a0, .float .f64 a1, .int .i64 a2] w fun e w' => e = .returned (.bool r) ∧ Below w.heap.size w w' := by
  have HB := Aside0.mk (Below.refl w.heap.size w)
  have H : ((punnetlaw02_awake.f).bind fun t257 => (if t257 = true then ((pack_Join.f (a0, a1) a2).bind fun bt258 => ((punnetref02_Join.f (a0, a1) a2).bind fun bt260 => ((pack_Order.f (a0, a1) a2).bind fun bt262 => (if bt258.1 = bt260.1 then (if bt258.2 = bt260.2 then (if bt262.2 = bt260.2 then ((pack_Factor.f a2).bind fun t264 => ((punnetref02_Factor.f a2).bind fun t265 => (punnetlaw02_PackJoins.j0 k a2 bt260.1 bt260.2 bt262.1 (t264 != t265)))) else (punnetlaw02_PackJoins.j0 k a2 bt260.1 bt260.2 bt262.1 true)) else (punnetlaw02_PackJoins.j0 k a2 bt260.1 bt260.2 bt262.1 true)) else (punnetlaw02_PackJoins.j0 k a2 bt260.1 bt260.2 bt262.1 true))))) else (some false))) = some r := h
  clear h
  replace H := Option.bind_eq_some_iff.mp H
  obtain ⟨t257, A40, H⟩ := H
  replace H : (if t257 = true then ((pack_Join.f (a0, a1) a2).bind fun bt258 => ((punnetref02_Join.f (a0, a1) a2).bind fun bt260 => ((pack_Order.f (a0, a1) a2).bind fun bt262 => (if bt258.1 = bt260.1 then (if bt258.2 = bt260.2 then (if bt262.2 = bt260.2 then ((pack_Factor.f a2).bind fun t264 => ((punnetref02_Factor.f a2).bind fun t265 => (punnetlaw02_PackJoins.j0 k a2 bt260.1 bt260.2 bt262.1 (t264 != t265)))) else (punnetlaw02_PackJoins.j0 k a2 bt260.1 bt260.2 bt262.1 true)) else (punnetlaw02_PackJoins.j0 k a2 bt260.1 bt260.2 bt262.1 true)) else (punnetlaw02_PackJoins.j0 k a2 bt260.1 bt260.2 bt262.1 true))))) else (some false)) = some r := H
  have A4 := Aside0.mk A40
  clear A40
  by_cases c5 : t257 = true
  · subst c5
    have H1 : ((pack_Join.f (a0, a1) a2).bind fun bt258 => ((punnetref02_Join.f (a0, a1) a2).bind fun bt260 => ((pack_Order.f (a0, a1) a2).bind fun bt262 => (if bt258.1 = bt260.1 then (if bt258.2 = bt260.2 then (if bt262.2 = bt260.2 then ((pack_Factor.f a2).bind fun t264 => ((punnetref02_Factor.f a2).bind fun t265 => (punnetlaw02_PackJoins.j0 k a2 bt260.1 bt260.2 bt262.1 (t264 != t265)))) else (punnetlaw02_PackJoins.j0 k a2 bt260.1 bt260.2 bt262.1 true)) else (punnetlaw02_PackJoins.j0 k a2 bt260.1 bt260.2 bt262.1 true)) else (punnetlaw02_PackJoins.j0 k a2 bt260.1 bt260.2 bt262.1 true))))) = some r := by rw [if_pos rfl] at H; exact H
    clear H
    have H := H1
    clear H1
    replace H := Option.bind_eq_some_iff.mp H
    obtain ⟨⟨t258, t259⟩, A60, H⟩ := H
    replace H : ((punnetref02_Join.f (a0, a1) a2).bind fun bt260 => ((pack_Order.f (a0, a1) a2).bind fun bt262 => (if t258 = bt260.1 then (if t259 = bt260.2 then (if bt262.2 = bt260.2 then ((pack_Factor.f a2).bind fun t264 => ((punnetref02_Factor.f a2).bind fun t265 => (punnetlaw02_PackJoins.j0 k a2 bt260.1 bt260.2 bt262.1 (t264 != t265)))) else (punnetlaw02_PackJoins.j0 k a2 bt260.1 bt260.2 bt262.1 true)) else (punnetlaw02_PackJoins.j0 k a2 bt260.1 bt260.2 bt262.1 true)) else (punnetlaw02_PackJoins.j0 k a2 bt260.1 bt260.2 bt262.1 true)))) = some r := H
    have A6 := Aside0.mk A60
    clear A60
    replace H := Option.bind_eq_some_iff.mp H
    obtain ⟨⟨t260, t261⟩, A70, H⟩ := H
    replace H : ((pack_Order.f (a0, a1) a2).bind fun bt262 => (if t258 = t260 then (if t259 = t261 then (if bt262.2 = t261 then ((pack_Factor.f a2).bind fun t264 => ((punnetref02_Factor.f a2).bind fun t265 => (punnetlaw02_PackJoins.j0 k a2 t260 t261 bt262.1 (t264 != t265)))) else (punnetlaw02_PackJoins.j0 k a2 t260 t261 bt262.1 true)) else (punnetlaw02_PackJoins.j0 k a2 t260 t261 bt262.1 true)) else (punnetlaw02_PackJoins.j0 k a2 t260 t261 bt262.1 true))) = some r := H
    have A7 := Aside0.mk A70
    clear A70
    replace H := Option.bind_eq_some_iff.mp H
    obtain ⟨⟨t262, t263⟩, A80, H⟩ := H
    replace H : (if t258 = t260 then (if t259 = t261 then (if t263 = t261 then ((pack_Factor.f a2).bind fun t264 => ((punnetref02_Factor.f a2).bind fun t265 => (punnetlaw02_PackJoins.j0 k a2 t260 t261 t262 (t264 != t265)))) else (punnetlaw02_PackJoins.j0 k a2 t260 t261 t262 true)) else (punnetlaw02_PackJoins.j0 k a2 t260 t261 t262 true)) else (punnetlaw02_PackJoins.j0 k a2 t260 t261 t262 true)) = some r := H
    have A8 := Aside0.mk A80
    clear A80
    have HC9 := Aside0.mk H
    clear H
    go_enter Try.func8, Try.ntmps8
    go_upto_region 7 with (first | ((with_reducible refine gate_callee (f := 29) rfl ?_); refine goesL_ (some 20) rfl rfl Try.func29 (by kernel_rfl) rfl #[] rfl (by (try simp only [List.map_toArray, List.map_cons, List.map_nil]); first | done | rfl | (simp only [List.length_drop, List.length_take]; rfl)) ?_; (with_reducible refine (punnetlaw02_awake.calls  true _ A4.out).mono ?_); rintro e w10 ⟨rfl, hb⟩; refine ⟨_, rfl, ?_⟩; have n0_ := Aside0.mk (below_step (by repeat (first | (with_reducible first | exact HB.out | apply below_alloc | apply pw_below_drewN | apply below_drew1) | exact HB.out)) hb); clear HB; have HB := n0_; clear n0_; (try clear hb); (try clear hb2); (try clear hk); (try clear hi)) | ((with_reducible refine gate_callee (f := 30) rfl ?_); refine goesL_ (some 25) rfl rfl Try.func30 (by kernel_rfl) rfl #[.complex .f64 a0 a1, .int .i64 a2] rfl (by (try simp only [List.map_toArray, List.map_cons, List.map_nil]); first | done | rfl | (simp only [List.length_drop, List.length_take]; rfl)) ?_; (with_reducible refine (pack_Join.calls (a0, a1) a2 t258 t259 _ A6.out).mono ?_); rintro e w11 ⟨rfl, hb⟩; refine ⟨_, rfl, ?_⟩; have n0_ := Aside0.mk (below_step (by repeat (first | (with_reducible first | exact HB.out | apply below_alloc | apply pw_below_drewN | apply below_drew1) | exact HB.out)) hb); clear HB; have HB := n0_; clear n0_; (try clear hb); (try clear hb2); (try clear hk); (try clear hi)) | ((with_reducible refine gate_callee (f := 31) rfl ?_); refine goesL_ (some 31) rfl rfl Try.func31 (by kernel_rfl) rfl #[.complex .f64 a0 a1, .int .i64 a2] rfl (by (try simp only [List.map_toArray, List.map_cons, List.map_nil]); first | done | rfl | (simp only [List.length_drop, List.length_take]; rfl)) ?_; (with_reducible refine (punnetref02_Join.calls (a0, a1) a2 t260 t261 _ A7.out).mono ?_); rintro e w12 ⟨rfl, hb⟩; refine ⟨_, rfl, ?_⟩; have n0_ := Aside0.mk (below_step (by repeat (first | (with_reducible first | exact HB.out | apply below_alloc | apply pw_below_drewN | apply below_drew1) | exact HB.out)) hb); clear HB; have HB := n0_; clear n0_; (try clear hb); (try clear hb2); (try clear hk); (try clear hi)) | ((with_reducible refine gate_callee (f := 32) rfl ?_); refine goesL_ (some 37) rfl rfl Try.func32 (by kernel_rfl) rfl #[.complex .f64 a0 a1, .int .i64 a2] rfl (by (try simp only [List.map_toArray, List.map_cons, List.map_nil]); first | done | rfl | (simp only [List.length_drop, List.length_take]; rfl)) ?_; (with_reducible refine (pack_Order.calls (a0, a1) a2 t262 t263 _ A8.out).mono ?_); rintro e w13 ⟨rfl, hb⟩; refine ⟨_, rfl, ?_⟩; have n0_ := Aside0.mk (below_step (by repeat (first | (with_reducible first | exact HB.out | apply below_alloc | apply pw_below_drewN | apply below_drew1) | exact HB.out)) hb); clear HB; have HB := n0_; clear n0_; (try clear hb); (try clear hb2); (try clear hk); (try clear hi)))
    (try simp only [Act.put, List.setIfInBounds_toArray, List.set_cons_zero, List.set_cons_succ])
    go_cut [59] (fun v59 wc => ∃ (kq : Nat) (x59_8 : Bool), v59 = .bool x59_8 ∧ Aside0 (punnetlaw02_PackJoins.j0 kq a2 t260 t261 t262 x59_8 = some r) ∧ Aside0 (kq ≤ k) ∧ Aside0 (Below w.heap.size w wc))
    case first =>
      have H := HC9.out
      clear HC9
      by_cases c14 : t258 = t260
      · rw [if_pos c14] at H
        have c14b0 : (t258 == t260) = true := beq_iff_eq.mpr c14
        have c14b1 : (t258 != t260) = false := bne_eq_false_iff_eq.mpr c14
        clear c14
        (first | rw [c14b0] | (simp only [i64_w, i32_w]; rw [c14b0]) | skip)
        by_cases c15 : t259 = t261
        · rw [if_pos c15] at H
          have c15b0 : (t259 == t261) = true := beq_iff_eq.mpr c15
          have c15b1 : (t259 != t261) = false := bne_eq_false_iff_eq.mpr c15
          clear c15
          by_cases c16 : t263 = t261
          · rw [if_pos c16] at H
            have c16b0 : (t263 == t261) = true := beq_iff_eq.mpr c16
            have c16b1 : (t263 != t261) = false := bne_eq_false_iff_eq.mpr c16
            clear c16
            replace H := Option.bind_eq_some_iff.mp H
            obtain ⟨t264, A170, H⟩ := H
            replace H : ((punnetref02_Factor.f a2).bind fun t265 => (punnetlaw02_PackJoins.j0 k a2 t260 t261 t262 (t264 != t265))) = some r := H
            have A17 := Aside0.mk A170
            clear A170
            replace H := Option.bind_eq_some_iff.mp H
            obtain ⟨t265, A180, H⟩ := H
            replace H : (punnetlaw02_PackJoins.j0 k a2 t260 t261 t262 (t264 != t265)) = some r := H
            have A18 := Aside0.mk A180
            clear A180
            have H' := Aside0.mk H
            clear H
            go_wp2_with (first | (go_at_call 33; (with_reducible refine (pack_Factor.calls a2 t264 _ A17.out).mono ?_); rintro e w' ⟨rfl, ⟨nd, rfl⟩⟩) | (go_at_call 34; (with_reducible refine (punnetref02_Factor.calls a2 t265 _ A18.out).mono ?_); rintro e w' ⟨rfl, ⟨nd, rfl⟩⟩))
            go_meet
            case rel => exact ⟨_, ((t264 != t265)), (by first | rfl | (simp; done) | (simp [*]; done)), H', ⟨by first | omega | exact Nat.le_refl _⟩, ⟨by repeat (first | (with_reducible first | exact HB.out | apply below_alloc | apply pw_below_drewN | apply below_drew1) | exact HB.out)⟩⟩
          · rw [if_neg c16] at H
            have c16b0 : (t263 == t261) = false := beq_eq_false_iff_ne.mpr c16
            have c16b1 : (t263 != t261) = true := bne_iff_ne.mpr c16
            have H' := Aside0.mk H
            clear H
            go_wp2
            go_meet
            case rel => exact ⟨_, (true), (by first | rfl | (simp; done) | (simp [*]; done)), H', ⟨by first | omega | exact Nat.le_refl _⟩, ⟨by repeat (first | (with_reducible first | exact HB.out | apply below_alloc | apply pw_below_drewN | apply below_drew1) | exact HB.out)⟩⟩
        · rw [if_neg c15] at H
          have c15b0 : (t259 == t261) = false := beq_eq_false_iff_ne.mpr c15
          have c15b1 : (t259 != t261) = true := bne_iff_ne.mpr c15
          have H' := Aside0.mk H
          clear H
          go_wp2
          go_meet
          case rel => exact ⟨_, (true), (by first | rfl | (simp; done) | (simp [*]; done)), H', ⟨by first | omega | exact Nat.le_refl _⟩, ⟨by repeat (first | (with_reducible first | exact HB.out | apply below_alloc | apply pw_below_drewN | apply below_drew1) | exact HB.out)⟩⟩
      · rw [if_neg c14] at H
        have c14b0 : (t258 == t260) = false := beq_eq_false_iff_ne.mpr c14
        have c14b1 : (t258 != t260) = true := bne_iff_ne.mpr c14
        (first | rw [c14b0] | (simp only [i64_w, i32_w]; rw [c14b0]) | skip)
        have H' := Aside0.mk H
        clear H
        go_wp2
        go_meet
        case rel => exact ⟨_, (true), (by first | rfl | (simp; done) | (simp [*]; done)), H', ⟨by first | omega | exact Nat.le_refl _⟩, ⟨by repeat (first | (with_reducible first | exact HB.out | apply below_alloc | apply pw_below_drewN | apply below_drew1) | exact HB.out)⟩⟩
    case rest =>
      clear HC9
      try clear c1
      try clear c2
      try clear p2
      try clear c3
      try clear c5
      try clear c8
      try clear c14
      try clear c14b0
      try clear c14b1
      try clear c15
      try clear c15b0
      try clear c15b1
      try clear c16
      try clear c16b0
      try clear c16b1
      obtain ⟨kq, x59_8, rfl, HA, HJ8, HB⟩ := hcut
      cases kq with
      | zero => exact absurd HA.out (by simp [punnetlaw02_PackJoins.j0])
      | succ kj8 =>
        have H := HA.out
        clear HA
        simp only [punnetlaw02_PackJoins.j0] at H
        by_cases c19 : x59_8 = true
        · subst c19
          have H1 : (some false) = some r := by rw [if_pos rfl] at H; exact H
          clear H
          have H := H1
          clear H1
          obtain rfl := Option.some.inj H
          go_wp2
          go_ret
          exact ⟨by first | rfl | (simp [errW_none, errW_some] <;> rfl) | (simp [*, errW_none, errW_some] <;> rfl), by repeat (first | (with_reducible first | exact HB.out | apply below_alloc | apply pw_below_drewN | apply below_drew1) | exact HB.out)⟩
        · replace c19 := Bool.eq_false_iff.mpr c19
          subst c19
          have H1 : (if t261 = 0 then ((punnetref02_Part.f kj8 t260 a2).bind fun bt266 => ((punnetref01_Of.f bt266.1 bt266.2.1).bind fun t269 => (some ((FloatKind.f64.format.order t262.1 t269.1 == some Ordering.eq) && (FloatKind.f64.format.order t262.2 t269.2 == some Ordering.eq))))) else (some ((FloatKind.f64.format.order t262.1 0 == some Ordering.eq) && (FloatKind.f64.format.order t262.2 0 == some Ordering.eq)))) = some r := by rw [if_neg (show ¬ (false = true) by decide)] at H; exact H
          clear H
          have H := H1
          clear H1
          by_cases c20 : t261 = 0
          · rw [if_pos c20] at H
            have c20b0 : (t261 == 0) = true := beq_iff_eq.mpr c20
            have c20b1 : (t261 != 0) = false := bne_eq_false_iff_eq.mpr c20
            clear c20
            replace H := Option.bind_eq_some_iff.mp H
            obtain ⟨⟨t266, t267, t268⟩, A210, H⟩ := H
            replace H : ((punnetref01_Of.f t266 t267).bind fun t269 => (some ((FloatKind.f64.format.order t262.1 t269.1 == some Ordering.eq) && (FloatKind.f64.format.order t262.2 t269.2 == some Ordering.eq)))) = some r := H
            have A21 := Aside0.mk A210
            clear A210
            replace H := Option.bind_eq_some_iff.mp H
            obtain ⟨t269, A220, H⟩ := H
            replace H : (some ((FloatKind.f64.format.order t262.1 t269.1 == some Ordering.eq) && (FloatKind.f64.format.order t262.2 t269.2 == some Ordering.eq))) = some r := H
            have A22 := Aside0.mk A220
            clear A220
            obtain rfl := Option.some.inj H
            go_wp2_with (first | ((with_reducible refine gate_callee (f := 35) rfl ?_); refine goesL_ (some 67) rfl rfl Try.func35 (by kernel_rfl) rfl #[.int .i64 t260, .int .i64 a2] rfl (by (try simp only [List.map_toArray, List.map_cons, List.map_nil]); first | done | rfl | (simp only [List.length_drop, List.length_take]; rfl)) ?_; (with_reducible refine (punnetref02_Part.calls kj8 t260 a2 t266 t267 t268 _ A21.out).mono ?_); rintro e w' ⟨rfl, ⟨nd, rfl⟩⟩; refine ⟨_, rfl, ?_⟩) | ((with_reducible refine gate_callee (f := 36) rfl ?_); refine goesL_ (some 74) rfl rfl Try.func36 (by kernel_rfl) rfl #[.int .i64 t266, .int .i64 t267] rfl (by (try simp only [List.map_toArray, List.map_cons, List.map_nil]); first | done | rfl | (simp only [List.length_drop, List.length_take]; rfl)) ?_; (with_reducible refine (punnetref01_Of.calls t266 t267 t269 _ A22.out).mono ?_); rintro e w23 ⟨rfl, hb⟩; refine ⟨_, rfl, ?_⟩; have n0_ := Aside0.mk (below_step (by repeat (first | (with_reducible first | exact HB.out | apply below_alloc | apply pw_below_drewN | apply below_drew1) | exact HB.out)) hb); clear HB; have HB := n0_; clear n0_; (try clear hb); (try clear hb2); (try clear hk); (try clear hi)))
            go_ret
            exact ⟨by first | rfl | (simp [errW_none, errW_some] <;> rfl) | (simp [*, errW_none, errW_some] <;> rfl), by repeat (first | (with_reducible first | exact HB.out | apply below_alloc | apply pw_below_drewN | apply below_drew1) | exact HB.out)⟩
          · rw [if_neg c20] at H
            have c20b0 : (t261 == 0) = false := beq_eq_false_iff_ne.mpr c20
            have c20b1 : (t261 != 0) = true := bne_iff_ne.mpr c20
            obtain rfl := Option.some.inj H
            go_wp2
            go_ret
            exact ⟨by first | rfl | (simp [errW_none, errW_some] <;> rfl) | (simp [*, errW_none, errW_some] <;> rfl), by repeat (first | (with_reducible first | exact HB.out | apply below_alloc | apply pw_below_drewN | apply below_drew1) | exact HB.out)⟩
  · replace c5 := Bool.eq_false_iff.mpr c5
    subst c5
    have H1 : (some false) = some r := by rw [if_neg (show ¬ (false = true) by decide)] at H; exact H
    clear H
    have H := H1
    clear H1
    obtain rfl := Option.some.inj H
    go_enter Try.func8, Try.ntmps8
    go_wp2_with (first | ((with_reducible refine gate_callee (f := 29) rfl ?_); refine goesL_ (some 20) rfl rfl Try.func29 (by kernel_rfl) rfl #[] rfl (by (try simp only [List.map_toArray, List.map_cons, List.map_nil]); first | done | rfl | (simp only [List.length_drop, List.length_take]; rfl)) ?_; (with_reducible refine (punnetlaw02_awake.calls  false _ A4.out).mono ?_); rintro e w24 ⟨rfl, hb⟩; refine ⟨_, rfl, ?_⟩; have n0_ := Aside0.mk (below_step (by repeat (first | (with_reducible first | exact HB.out | apply below_alloc | apply pw_below_drewN | apply below_drew1) | exact HB.out)) hb); clear HB; have HB := n0_; clear n0_; (try clear hb); (try clear hb2); (try clear hk); (try clear hi)))
    go_ret
    exact ⟨by first | rfl | (simp [errW_none, errW_some] <;> rfl) | (simp [*, errW_none, errW_some] <;> rfl), by repeat (first | (with_reducible first | exact HB.out | apply below_alloc | apply pw_below_drewN | apply below_drew1) | exact HB.out)⟩

/-- THE ONE PURE STATEMENT of punnetlaw02_PackJoins: yours. -/
def punnetlaw02_PackJoins.Pure : Prop := ∀ (a0 : Nat) (a1 : Nat) (a2 : Int), (Lit.float .f64 a0).wf = true → (Lit.float .f64 a1).wf = true → (Lit.int .i64 a2).wf = true → ∃ k, punnetlaw02_PackJoins.f k a0 a1 a2 = some true
theorem punnetlaw02_PackJoins.walk (P : punnetlaw02_PackJoins.Pure) (a0 : Nat) (a1 : Nat) (a2 : Int) (w : World) (w0 : (Lit.float .f64 a0).wf = true) (w1 : (Lit.float .f64 a1).wf = true) (w2 : (Lit.int .i64 a2).wf = true) :
    Calls Try.prog 8 #[.float .f64 a0, .float .f64 a1, .int .i64 a2] w fun e w' => e = .returned (.bool true) ∧ Below w.heap.size w w' := by
  obtain ⟨k, h⟩ := P a0 a1 a2 w0 w1 w2
  refine (punnetlaw02_PackJoins.calls k a0 a1 a2 true w h).mono ?_
  rintro e w' ⟨rfl, hd⟩
  exact ⟨rfl, hd⟩

end Go.Proofs.Ytjaefcinaackeaa.Q
