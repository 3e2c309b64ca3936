/- A function of the program or a law's row comes to what the Lean function beside it says; no condition beyond those typed. Written by a program of this workplace; Lean checks it. -/
import Derived.Test.YtjaefcinaackeaaQ0
import Derived.Test.YtjaefcinaackeaaQ14
import Derived.Test.YtjaefcinaackeaaQ22
import Derived.Test.YtjaefcinaackeaaQ33
import Derived.Test.YtjaefcinaackeaaQ34
namespace Go.Proofs.Ytjaefcinaackeaa.Q
open Go.RowKit Go.Proofs.YtjaefcinaackeaaW.PrintWords Go.Proofs.YtjaefcinaackeaaW.PrintLast Go.Proofs.YtjaefcinaackeaaW.PrintMore
attribute [local go_sem] max2_int min2_int max_two min_two max_three min_three max_four min_four   -- for this text's walks alone
set_option linter.unusedVariables false
set_option linter.unusedSimpArgs false

/-! ### punnetlaw01_PlaneSides: function 7 -/
mutual
def punnetlaw01_PlaneSides.j0 : Nat → Int → Int → (Nat × Nat) → (Nat × Nat) → Int → Int → Bool → Option (Bool)
  | 0, _, _, _, _, _, _, _ => none
  | k + 1, x2, x5, x13, x14, x15, x16, x56 => if x56 = true then (some false) else (if x16 = 0 then (punnetlaw01_PlaneSides.j1 k x2 x5 x13 x14 x15 x16 (decide (x2 < (-1152921504606846976)))) else (punnetlaw01_PlaneSides.j1 k x2 x5 x13 x14 x15 x16 true))
def punnetlaw01_PlaneSides.j1 : Nat → Int → Int → (Nat × Nat) → (Nat × Nat) → Int → Int → Bool → Option (Bool)
  | 0, _, _, _, _, _, _, _ => none
  | k + 1, x2, x5, x13, x14, x15, x16, x62 => if x62 = true then (if x16 = 0 then (some true) else (some (x15 == 0))) else ((plane_Turn.f x13 x5).bind fun bt223 => ((plane_Turn.f x14 x5).bind fun bt225 => ((plane_Side.f k bt223.1 x2 bt225.1).bind fun bt227 => ((plane_Side.f k (Go.Op.negFloat .f64 x13.1, Go.Op.negFloat .f64 x13.2) (wrap64 (-x2)) x14).bind fun bt229 => (if bt223.2 = 0 then (if bt225.2 = 0 then (if bt227.2 = 0 then (if bt229.2 = 0 then (if bt227.1 = x15 then (some (bt229.1 == (wrap64 (-x15)))) else (some false)) else (some false)) else (some false)) else (some false)) else (some false))))))
end
def punnetlaw01_PlaneSides.f (k : Nat) (a0 : Nat) (a1 : Nat) (a2 : Int) (a3 : Nat) (a4 : Nat) (a5 : Int) : Option (Bool) := (punnetlaw01_awake.f).bind fun t218 => (if t218 = true then ((plane_Side.f k (a0, a1) a2 (a3, a4)).bind fun bt219 => ((punnetref01_Side.f k (a0, a1) a2 (a3, a4)).bind fun bt221 => (if bt219.1 = bt221.1 then (punnetlaw01_PlaneSides.j0 k a2 a5 (a0, a1) (a3, a4) bt219.1 bt219.2 (bt219.2 != bt221.2)) else (punnetlaw01_PlaneSides.j0 k a2 a5 (a0, a1) (a3, a4) bt219.1 bt219.2 true)))) else (some false))
theorem punnetlaw01_PlaneSides.mono_l : ∀ k, (∀ y0 y1 y2 y3 y4 y5 y6, LeO (punnetlaw01_PlaneSides.j0 k y0 y1 y2 y3 y4 y5 y6) (punnetlaw01_PlaneSides.j0 (k + 1) y0 y1 y2 y3 y4 y5 y6)) ∧ (∀ y0 y1 y2 y3 y4 y5 y6, LeO (punnetlaw01_PlaneSides.j1 k y0 y1 y2 y3 y4 y5 y6) (punnetlaw01_PlaneSides.j1 (k + 1) y0 y1 y2 y3 y4 y5 y6))
  | 0 => ⟨fun _ _ _ _ _ _ _ r h => by simp [punnetlaw01_PlaneSides.j0] at h, fun _ _ _ _ _ _ _ r h => by simp [punnetlaw01_PlaneSides.j1] at h⟩
  | k + 1 => by
    obtain ⟨ih0, ih1⟩ := punnetlaw01_PlaneSides.mono_l k
    refine ⟨?_, ?_⟩
    · intro y0 y1 y2 y3 y4 y5 y6
      unfold punnetlaw01_PlaneSides.j0
      repeat' first
      | (with_reducible exact ih0 _ _ _ _ _ _ _)
      | (with_reducible exact ih1 _ _ _ _ _ _ _)
      | (with_reducible exact plane_Side.mono _ _ _ _)
      | (with_reducible exact punnetref01_Side.mono _ _ _ _)
      | (with_reducible exact LeO.refl _)
      | (with_reducible exact LeO.none _)
      | (with_reducible refine LeO.ite ?_ ?_)
      | (with_reducible refine LeO.bind ?_ (fun _ => ?_))
      | exact ih0 _ _ _ _ _ _ _
      | exact ih1 _ _ _ _ _ _ _
      | exact plane_Side.mono _ _ _ _
      | exact punnetref01_Side.mono _ _ _ _
      | exact LeO.none _
      | refine LeO.ite ?_ ?_
      | refine LeO.bind ?_ (fun _ => ?_)
    · intro y0 y1 y2 y3 y4 y5 y6
      unfold punnetlaw01_PlaneSides.j1
      repeat' first
      | (with_reducible exact ih0 _ _ _ _ _ _ _)
      | (with_reducible exact ih1 _ _ _ _ _ _ _)
      | (with_reducible exact plane_Side.mono _ _ _ _)
      | (with_reducible exact punnetref01_Side.mono _ _ _ _)
      | (with_reducible exact LeO.refl _)
      | (with_reducible exact LeO.none _)
      | (with_reducible refine LeO.ite ?_ ?_)
      | (with_reducible refine LeO.bind ?_ (fun _ => ?_))
      | exact ih0 _ _ _ _ _ _ _
      | exact ih1 _ _ _ _ _ _ _
      | exact plane_Side.mono _ _ _ _
      | exact punnetref01_Side.mono _ _ _ _
      | exact LeO.none _
      | refine LeO.ite ?_ ?_
      | refine LeO.bind ?_ (fun _ => ?_)
theorem punnetlaw01_PlaneSides.mono : ∀ a0 a1 a2 a3 a4 a5 k, LeO (punnetlaw01_PlaneSides.f k a0 a1 a2 a3 a4 a5) (punnetlaw01_PlaneSides.f (k + 1) a0 a1 a2 a3 a4 a5) := by
  intro a0 a1 a2 a3 a4 a5 k
  obtain ⟨ih0, ih1⟩ := punnetlaw01_PlaneSides.mono_l k
  unfold punnetlaw01_PlaneSides.f
  repeat' first
      | (with_reducible exact ih0 _ _ _ _ _ _ _)
      | (with_reducible exact ih1 _ _ _ _ _ _ _)
      | (with_reducible exact plane_Side.mono _ _ _ _)
      | (with_reducible exact punnetref01_Side.mono _ _ _ _)
      | (with_reducible exact LeO.refl _)
      | (with_reducible exact LeO.none _)
      | (with_reducible refine LeO.ite ?_ ?_)
      | (with_reducible refine LeO.bind ?_ (fun _ => ?_))
      | exact ih0 _ _ _ _ _ _ _
      | exact ih1 _ _ _ _ _ _ _
      | exact plane_Side.mono _ _ _ _
      | exact punnetref01_Side.mono _ _ _ _
      | exact LeO.none _
      | refine LeO.ite ?_ ?_
      | refine LeO.bind ?_ (fun _ => ?_)
set_option maxHeartbeats 8000000 in
set_option maxRecDepth 100000 in
theorem punnetlaw01_PlaneSides.calls (k : Nat) (a0 : Nat) (a1 : Nat) (a2 : Int) (a3 : Nat) (a4 : Nat) (a5 : Int) (r : Bool) (w : World) (h : punnetlaw01_PlaneSides.f k a0 a1 a2 a3 a4 a5 = some r) :
    Calls Try.prog 7 #[.float .f64 a0, .float .f64 a1, .int .i64 a2, .float .f64 a3, .float .f64 a4, .int .i64 a5] w fun e w' => e = .returned (.bool r) ∧ Below w.heap.size w w' := by
  have hngc : ∀ (a_ b_ : Nat) (W_ : World), (Go.Op.unary UnOp.neg (Value.complex .f64 a_ b_)).run Try.prog W_ = .ok (.complex .f64 (Go.Op.negFloat .f64 a_) (Go.Op.negFloat .f64 b_)) W_ := fun _ _ _ => rfl
  have HB := Aside0.mk (Below.refl w.heap.size w)
  have H : ((punnetlaw01_awake.f).bind fun t218 => (if t218 = true then ((plane_Side.f k (a0, a1) a2 (a3, a4)).bind fun bt219 => ((punnetref01_Side.f k (a0, a1) a2 (a3, a4)).bind fun bt221 => (if bt219.1 = bt221.1 then (punnetlaw01_PlaneSides.j0 k a2 a5 (a0, a1) (a3, a4) bt219.1 bt219.2 (bt219.2 != bt221.2)) else (punnetlaw01_PlaneSides.j0 k a2 a5 (a0, a1) (a3, a4) bt219.1 bt219.2 true)))) else (some false))) = some r := h
  clear h
  replace H := Option.bind_eq_some_iff.mp H
  obtain ⟨t218, A70, H⟩ := H
  replace H : (if t218 = true then ((plane_Side.f k (a0, a1) a2 (a3, a4)).bind fun bt219 => ((punnetref01_Side.f k (a0, a1) a2 (a3, a4)).bind fun bt221 => (if bt219.1 = bt221.1 then (punnetlaw01_PlaneSides.j0 k a2 a5 (a0, a1) (a3, a4) bt219.1 bt219.2 (bt219.2 != bt221.2)) else (punnetlaw01_PlaneSides.j0 k a2 a5 (a0, a1) (a3, a4) bt219.1 bt219.2 true)))) else (some false)) = some r := H
  have A7 := Aside0.mk A70
  clear A70
  by_cases c8 : t218 = true
  · subst c8
    have H1 : ((plane_Side.f k (a0, a1) a2 (a3, a4)).bind fun bt219 => ((punnetref01_Side.f k (a0, a1) a2 (a3, a4)).bind fun bt221 => (if bt219.1 = bt221.1 then (punnetlaw01_PlaneSides.j0 k a2 a5 (a0, a1) (a3, a4) bt219.1 bt219.2 (bt219.2 != bt221.2)) else (punnetlaw01_PlaneSides.j0 k a2 a5 (a0, a1) (a3, a4) bt219.1 bt219.2 true)))) = some r := by rw [if_pos rfl] at H; exact H
    clear H
    have H := H1
    clear H1
    replace H := Option.bind_eq_some_iff.mp H
    obtain ⟨⟨t219, t220⟩, A90, H⟩ := H
    replace H : ((punnetref01_Side.f k (a0, a1) a2 (a3, a4)).bind fun bt221 => (if t219 = bt221.1 then (punnetlaw01_PlaneSides.j0 k a2 a5 (a0, a1) (a3, a4) t219 t220 (t220 != bt221.2)) else (punnetlaw01_PlaneSides.j0 k a2 a5 (a0, a1) (a3, a4) t219 t220 true))) = some r := H
    have A9 := Aside0.mk A90
    clear A90
    replace H := Option.bind_eq_some_iff.mp H
    obtain ⟨⟨t221, t222⟩, A100, H⟩ := H
    replace H : (if t219 = t221 then (punnetlaw01_PlaneSides.j0 k a2 a5 (a0, a1) (a3, a4) t219 t220 (t220 != t222)) else (punnetlaw01_PlaneSides.j0 k a2 a5 (a0, a1) (a3, a4) t219 t220 true)) = some r := H
    have A10 := Aside0.mk A100
    clear A100
    have HC11 := Aside0.mk H
    clear H
    go_enter Try.func7, Try.ntmps7
    go_upto_region 6 with (first | ((with_reducible refine gate_callee (f := 12) rfl ?_); refine goesL_ (some 33) rfl rfl Try.func12 (by kernel_rfl) rfl #[] rfl (by (try simp only [List.map_toArray, List.map_cons, List.map_nil]); first | done | rfl | (simp only [List.length_drop, List.length_take]; rfl)) ?_; (with_reducible refine (punnetlaw01_awake.calls  true _ A7.out).mono ?_); rintro e w12 ⟨rfl, hb⟩; refine ⟨_, rfl, ?_⟩; have n0_ := Aside0.mk (below_step (by repeat (first | (with_reducible first | exact HB.out | apply below_alloc | apply pw_below_drewN | apply below_drew1) | exact HB.out)) hb); clear HB; have HB := n0_; clear n0_; (try clear hb); (try clear hb2); (try clear hk); (try clear hi)) | ((with_reducible refine gate_callee (f := 27) rfl ?_); refine goesL_ (some 39) rfl rfl Try.func27 (by kernel_rfl) rfl #[.complex .f64 a0 a1, .int .i64 a2, .complex .f64 a3 a4] rfl (by (try simp only [List.map_toArray, List.map_cons, List.map_nil]); first | done | rfl | (simp only [List.length_drop, List.length_take]; rfl)) ?_; (with_reducible refine (plane_Side.calls k (a0, a1) a2 (a3, a4) t219 t220 _ A9.out).mono ?_); rintro e w13 ⟨rfl, hb⟩; refine ⟨_, rfl, ?_⟩; have n0_ := Aside0.mk (below_step (by repeat (first | (with_reducible first | exact HB.out | apply below_alloc | apply pw_below_drewN | apply below_drew1) | exact HB.out)) hb); clear HB; have HB := n0_; clear n0_; (try clear hb); (try clear hb2); (try clear hk); (try clear hi)) | ((with_reducible refine gate_callee (f := 28) rfl ?_); refine goesL_ (some 46) rfl rfl Try.func28 (by kernel_rfl) rfl #[.complex .f64 a0 a1, .int .i64 a2, .complex .f64 a3 a4] rfl (by (try simp only [List.map_toArray, List.map_cons, List.map_nil]); first | done | rfl | (simp only [List.length_drop, List.length_take]; rfl)) ?_; (with_reducible refine (punnetref01_Side.calls k (a0, a1) a2 (a3, a4) t221 t222 _ A10.out).mono ?_); rintro e w14 ⟨rfl, hb⟩; refine ⟨_, rfl, ?_⟩; have n0_ := Aside0.mk (below_step (by repeat (first | (with_reducible first | exact HB.out | apply below_alloc | apply pw_below_drewN | apply below_drew1) | exact HB.out)) hb); clear HB; have HB := n0_; clear n0_; (try clear hb); (try clear hb2); (try clear hk); (try clear hi)))
    (try simp only [Act.put, List.setIfInBounds_toArray, List.set_cons_zero, List.set_cons_succ])
    go_cut [56] (fun v56 wc => ∃ (kq : Nat) (x56_10 : Bool), v56 = .bool x56_10 ∧ Aside0 (punnetlaw01_PlaneSides.j0 kq a2 a5 (a0, a1) (a3, a4) t219 t220 x56_10 = some r) ∧ Aside0 (kq ≤ k) ∧ Aside0 (Below w.heap.size w wc))
    case first =>
      have H := HC11.out
      clear HC11
      by_cases c15 : t219 = t221
      · rw [if_pos c15] at H
        have c15b0 : (t219 == t221) = true := beq_iff_eq.mpr c15
        have c15b1 : (t219 != t221) = false := bne_eq_false_iff_eq.mpr c15
        clear c15
        (first | rw [c15b0] | (simp only [i64_w, i32_w]; rw [c15b0]) | skip)
        have H' := Aside0.mk H
        clear H
        go_wp2
        go_meet
        case rel => exact ⟨_, ((t220 != t222)), (by first | rfl | (simp; done) | (simp [*]; done)), H', ⟨by first | omega | exact Nat.le_refl _⟩, ⟨by repeat (first | (with_reducible first | exact HB.out | apply below_alloc | apply pw_below_drewN | apply below_drew1) | exact HB.out)⟩⟩
      · rw [if_neg c15] at H
        have c15b0 : (t219 == t221) = false := beq_eq_false_iff_ne.mpr c15
        have c15b1 : (t219 != t221) = true := bne_iff_ne.mpr c15
        (first | rw [c15b0] | (simp only [i64_w, i32_w]; rw [c15b0]) | skip)
        have H' := Aside0.mk H
        clear H
        go_wp2
        go_meet
        case rel => exact ⟨_, (true), (by first | rfl | (simp; done) | (simp [*]; done)), H', ⟨by first | omega | exact Nat.le_refl _⟩, ⟨by repeat (first | (with_reducible first | exact HB.out | apply below_alloc | apply pw_below_drewN | apply below_drew1) | exact HB.out)⟩⟩
    case rest =>
      clear HC11
      try clear c1
      try clear c2
      try clear p2
      try clear c7
      try clear c8
      try clear c12
      try clear c15
      try clear c15b0
      try clear c15b1
      obtain ⟨kq, x56_10, rfl, HA, HJ10, HB⟩ := hcut
      cases kq with
      | zero => exact absurd HA.out (by simp [punnetlaw01_PlaneSides.j0])
      | succ kj10 =>
        have H := HA.out
        clear HA
        simp only [punnetlaw01_PlaneSides.j0] at H
        by_cases c16 : x56_10 = true
        · subst c16
          have H1 : (some false) = some r := by rw [if_pos rfl] at H; exact H
          clear H
          have H := H1
          clear H1
          obtain rfl := Option.some.inj H
          go_wp2
          go_ret
          exact ⟨by first | rfl | (simp [errW_none, errW_some] <;> rfl) | (simp [*, errW_none, errW_some] <;> rfl), by repeat (first | (with_reducible first | exact HB.out | apply below_alloc | apply pw_below_drewN | apply below_drew1) | exact HB.out)⟩
        · replace c16 := Bool.eq_false_iff.mpr c16
          subst c16
          have H1 : (if t220 = 0 then (punnetlaw01_PlaneSides.j1 kj10 a2 a5 (a0, a1) (a3, a4) t219 t220 (decide (a2 < (-1152921504606846976)))) else (punnetlaw01_PlaneSides.j1 kj10 a2 a5 (a0, a1) (a3, a4) t219 t220 true)) = some r := by rw [if_neg (show ¬ (false = true) by decide)] at H; exact H
          clear H
          have H := H1
          clear H1
          have HC17 := Aside0.mk H
          clear H
          go_upto_region 8 with (fail)
          go_cut [62] (fun v62 wc => ∃ (kq : Nat) (x62_16 : Bool), v62 = .bool x62_16 ∧ Aside0 (punnetlaw01_PlaneSides.j1 kq a2 a5 (a0, a1) (a3, a4) t219 t220 x62_16 = some r) ∧ Aside0 (kq ≤ kj10) ∧ Aside0 (Below w.heap.size w wc))
          case first =>
            have H := HC17.out
            clear HC17
            by_cases c18 : t220 = 0
            · rw [if_pos c18] at H
              have c18b0 : (t220 == 0) = true := beq_iff_eq.mpr c18
              have c18b1 : (t220 != 0) = false := bne_eq_false_iff_eq.mpr c18
              clear c18
              (first | rw [c18b0] | (simp only [i64_w, i32_w]; rw [c18b0]) | skip)
              have H' := Aside0.mk H
              clear H
              go_wp2
              go_meet
              case rel => exact ⟨_, (decide (a2 < (-1152921504606846976))), (by first | rfl | (simp; done) | (simp [*]; done)), H', ⟨by have := HJ10.out; first | omega | exact Nat.le_refl _⟩, ⟨by repeat (first | (with_reducible first | exact HB.out | apply below_alloc | apply pw_below_drewN | apply below_drew1) | exact HB.out)⟩⟩
            · rw [if_neg c18] at H
              have c18b0 : (t220 == 0) = false := beq_eq_false_iff_ne.mpr c18
              have c18b1 : (t220 != 0) = true := bne_iff_ne.mpr c18
              (first | rw [c18b0] | (simp only [i64_w, i32_w]; rw [c18b0]) | skip)
              have H' := Aside0.mk H
              clear H
              go_wp2
              go_meet
              case rel => exact ⟨_, (true), (by first | rfl | (simp; done) | (simp [*]; done)), H', ⟨by have := HJ10.out; first | omega | exact Nat.le_refl _⟩, ⟨by repeat (first | (with_reducible first | exact HB.out | apply below_alloc | apply pw_below_drewN | apply below_drew1) | exact HB.out)⟩⟩
          case rest =>
            clear HC17
            try clear c1
            try clear c2
            try clear p2
            try clear c7
            try clear c8
            try clear c12
            try clear c15
            try clear c15b0
            try clear c15b1
            try clear c16
            try clear c18
            try clear c18b0
            try clear c18b1
            try clear p2
            obtain ⟨kq, x62_16, rfl, HA, HJ16, HB⟩ := hcut
            cases kq with
            | zero => exact absurd HA.out (by simp [punnetlaw01_PlaneSides.j1])
            | succ kj16 =>
              have H := HA.out
              clear HA
              simp only [punnetlaw01_PlaneSides.j1] at H
              by_cases c19 : x62_16 = true
              · subst c19
                have H1 : (if t220 = 0 then (some true) else (some (t219 == 0))) = some r := by rw [if_pos rfl] at H; exact H
                clear H
                have H := H1
                clear H1
                by_cases c20 : t220 = 0
                · rw [if_pos c20] at H
                  have c20b0 : (t220 == 0) = true := beq_iff_eq.mpr c20
                  have c20b1 : (t220 != 0) = false := bne_eq_false_iff_eq.mpr c20
                  clear c20
                  obtain rfl := Option.some.inj H
                  go_wp2
                  go_ret
                  exact ⟨by first | rfl | (simp [errW_none, errW_some] <;> rfl) | (simp [*, errW_none, errW_some] <;> rfl), by repeat (first | (with_reducible first | exact HB.out | apply below_alloc | apply pw_below_drewN | apply below_drew1) | exact HB.out)⟩
                · rw [if_neg c20] at H
                  have c20b0 : (t220 == 0) = false := beq_eq_false_iff_ne.mpr c20
                  have c20b1 : (t220 != 0) = true := bne_iff_ne.mpr c20
                  obtain rfl := Option.some.inj H
                  go_wp2
                  go_ret
                  exact ⟨by first | rfl | (simp [errW_none, errW_some] <;> rfl) | (simp [*, errW_none, errW_some] <;> rfl), by repeat (first | (with_reducible first | exact HB.out | apply below_alloc | apply pw_below_drewN | apply below_drew1) | exact HB.out)⟩
              · replace c19 := Bool.eq_false_iff.mpr c19
                subst c19
                have H1 : ((plane_Turn.f (a0, a1) a5).bind fun bt223 => ((plane_Turn.f (a3, a4) a5).bind fun bt225 => ((plane_Side.f kj16 bt223.1 a2 bt225.1).bind fun bt227 => ((plane_Side.f kj16 (Go.Op.negFloat .f64 (a0, a1).1, Go.Op.negFloat .f64 (a0, a1).2) (wrap64 (-a2)) (a3, a4)).bind fun bt229 => (if bt223.2 = 0 then (if bt225.2 = 0 then (if bt227.2 = 0 then (if bt229.2 = 0 then (if bt227.1 = t219 then (some (bt229.1 == (wrap64 (-t219)))) else (some false)) else (some false)) else (some false)) else (some false)) else (some false)))))) = some r := by rw [if_neg (show ¬ (false = true) by decide)] at H; exact H
                clear H
                have H := H1
                clear H1
                replace H := Option.bind_eq_some_iff.mp H
                obtain ⟨⟨t223, t224⟩, A210, H⟩ := H
                replace H : ((plane_Turn.f (a3, a4) a5).bind fun bt225 => ((plane_Side.f kj16 t223 a2 bt225.1).bind fun bt227 => ((plane_Side.f kj16 (Go.Op.negFloat .f64 (a0, a1).1, Go.Op.negFloat .f64 (a0, a1).2) (wrap64 (-a2)) (a3, a4)).bind fun bt229 => (if t224 = 0 then (if bt225.2 = 0 then (if bt227.2 = 0 then (if bt229.2 = 0 then (if bt227.1 = t219 then (some (bt229.1 == (wrap64 (-t219)))) else (some false)) else (some false)) else (some false)) else (some false)) else (some false))))) = some r := H
                have A21 := Aside0.mk A210
                clear A210
                replace H := Option.bind_eq_some_iff.mp H
                obtain ⟨⟨t225, t226⟩, A220, H⟩ := H
                replace H : ((plane_Side.f kj16 t223 a2 t225).bind fun bt227 => ((plane_Side.f kj16 (Go.Op.negFloat .f64 (a0, a1).1, Go.Op.negFloat .f64 (a0, a1).2) (wrap64 (-a2)) (a3, a4)).bind fun bt229 => (if t224 = 0 then (if t226 = 0 then (if bt227.2 = 0 then (if bt229.2 = 0 then (if bt227.1 = t219 then (some (bt229.1 == (wrap64 (-t219)))) else (some false)) else (some false)) else (some false)) else (some false)) else (some false)))) = some r := H
                have A22 := Aside0.mk A220
                clear A220
                replace H := Option.bind_eq_some_iff.mp H
                obtain ⟨⟨t227, t228⟩, A230, H⟩ := H
                replace H : ((plane_Side.f kj16 (Go.Op.negFloat .f64 (a0, a1).1, Go.Op.negFloat .f64 (a0, a1).2) (wrap64 (-a2)) (a3, a4)).bind fun bt229 => (if t224 = 0 then (if t226 = 0 then (if t228 = 0 then (if bt229.2 = 0 then (if t227 = t219 then (some (bt229.1 == (wrap64 (-t219)))) else (some false)) else (some false)) else (some false)) else (some false)) else (some false))) = some r := H
                have A23 := Aside0.mk A230
                clear A230
                replace H := Option.bind_eq_some_iff.mp H
                obtain ⟨⟨t229, t230⟩, A240, H⟩ := H
                replace H : (if t224 = 0 then (if t226 = 0 then (if t228 = 0 then (if t230 = 0 then (if t227 = t219 then (some (t229 == (wrap64 (-t219)))) else (some false)) else (some false)) else (some false)) else (some false)) else (some false)) = some r := H
                have A24 := Aside0.mk A240
                clear A240
                by_cases c25 : t224 = 0
                · rw [if_pos c25] at H
                  have c25b0 : (t224 == 0) = true := beq_iff_eq.mpr c25
                  have c25b1 : (t224 != 0) = false := bne_eq_false_iff_eq.mpr c25
                  clear c25
                  by_cases c26 : t226 = 0
                  · rw [if_pos c26] at H
                    have c26b0 : (t226 == 0) = true := beq_iff_eq.mpr c26
                    have c26b1 : (t226 != 0) = false := bne_eq_false_iff_eq.mpr c26
                    clear c26
                    by_cases c27 : t228 = 0
                    · rw [if_pos c27] at H
                      have c27b0 : (t228 == 0) = true := beq_iff_eq.mpr c27
                      have c27b1 : (t228 != 0) = false := bne_eq_false_iff_eq.mpr c27
                      clear c27
                      by_cases c28 : t230 = 0
                      · rw [if_pos c28] at H
                        have c28b0 : (t230 == 0) = true := beq_iff_eq.mpr c28
                        have c28b1 : (t230 != 0) = false := bne_eq_false_iff_eq.mpr c28
                        clear c28
                        by_cases c29 : t227 = t219
                        · rw [if_pos c29] at H
                          have c29b0 : (t227 == t219) = true := beq_iff_eq.mpr c29
                          have c29b1 : (t227 != t219) = false := bne_eq_false_iff_eq.mpr c29
                          clear c29
                          obtain rfl := Option.some.inj H
                          go_wp2_with (first | ((with_reducible refine gate_callee (f := 19) rfl ?_); refine goesL_ (some 72) rfl rfl Try.func19 (by kernel_rfl) rfl #[.complex .f64 a0 a1, .int .i64 a5] rfl (by (try simp only [List.map_toArray, List.map_cons, List.map_nil]); first | done | rfl | (simp only [List.length_drop, List.length_take]; rfl)) ?_; (with_reducible refine (plane_Turn.calls (a0, a1) a5 t223 t224 _ A21.out).mono ?_); rintro e w30 ⟨rfl, hb⟩; refine ⟨_, rfl, ?_⟩; have n0_ := Aside0.mk (below_step (by repeat (first | (with_reducible first | exact HB.out | apply below_alloc | apply pw_below_drewN | apply below_drew1) | exact HB.out)) hb); clear HB; have HB := n0_; clear n0_; (try clear hb); (try clear hb2); (try clear hk); (try clear hi)) | ((with_reducible refine gate_callee (f := 19) rfl ?_); refine goesL_ (some 78) rfl rfl Try.func19 (by kernel_rfl) rfl #[.complex .f64 a3 a4, .int .i64 a5] rfl (by (try simp only [List.map_toArray, List.map_cons, List.map_nil]); first | done | rfl | (simp only [List.length_drop, List.length_take]; rfl)) ?_; (with_reducible refine (plane_Turn.calls (a3, a4) a5 t225 t226 _ A22.out).mono ?_); rintro e w31 ⟨rfl, hb⟩; refine ⟨_, rfl, ?_⟩; have n0_ := Aside0.mk (below_step (by repeat (first | (with_reducible first | exact HB.out | apply below_alloc | apply pw_below_drewN | apply below_drew1) | exact HB.out)) hb); clear HB; have HB := n0_; clear n0_; (try clear hb); (try clear hb2); (try clear hk); (try clear hi)) | ((with_reducible refine gate_callee (f := 27) rfl ?_); refine goesL_ (some 85) rfl rfl Try.func27 (by kernel_rfl) rfl #[.complex .f64 t223.1 t223.2, .int .i64 a2, .complex .f64 t225.1 t225.2] rfl (by (try simp only [List.map_toArray, List.map_cons, List.map_nil]); first | done | rfl | (simp only [List.length_drop, List.length_take]; rfl)) ?_; (with_reducible refine (plane_Side.calls kj16 t223 a2 t225 t227 t228 _ A23.out).mono ?_); rintro e w32 ⟨rfl, hb⟩; refine ⟨_, rfl, ?_⟩; have n0_ := Aside0.mk (below_step (by repeat (first | (with_reducible first | exact HB.out | apply below_alloc | apply pw_below_drewN | apply below_drew1) | exact HB.out)) hb); clear HB; have HB := n0_; clear n0_; (try clear hb); (try clear hb2); (try clear hk); (try clear hi)) | ((with_reducible refine gate_callee (f := 27) rfl ?_); refine goesL_ (some 94) rfl rfl Try.func27 (by kernel_rfl) rfl #[.complex .f64 (Go.Op.negFloat .f64 (a0, a1).1) (Go.Op.negFloat .f64 (a0, a1).2), .int .i64 (wrap64 (-a2)), .complex .f64 a3 a4] rfl (by (try simp only [List.map_toArray, List.map_cons, List.map_nil]); first | done | rfl | (simp only [List.length_drop, List.length_take]; rfl)) ?_; (with_reducible refine (plane_Side.calls kj16 (Go.Op.negFloat .f64 (a0, a1).1, Go.Op.negFloat .f64 (a0, a1).2) (wrap64 (-a2)) (a3, a4) t229 t230 _ A24.out).mono ?_); rintro e w33 ⟨rfl, hb⟩; refine ⟨_, rfl, ?_⟩; have n0_ := Aside0.mk (below_step (by repeat (first | (with_reducible first | exact HB.out | apply below_alloc | apply pw_below_drewN | apply below_drew1) | exact HB.out)) hb); clear HB; have HB := n0_; clear n0_; (try clear hb); (try clear hb2); (try clear hk); (try clear hi)))
                          go_ret
                          exact ⟨by first | rfl | (simp [errW_none, errW_some] <;> rfl) | (simp [*, errW_none, errW_some] <;> rfl), by repeat (first | (with_reducible first | exact HB.out | apply below_alloc | apply pw_below_drewN | apply below_drew1) | exact HB.out)⟩
                        · rw [if_neg c29] at H
                          have c29b0 : (t227 == t219) = false := beq_eq_false_iff_ne.mpr c29
                          have c29b1 : (t227 != t219) = true := bne_iff_ne.mpr c29
                          obtain rfl := Option.some.inj H
                          go_wp2_with (first | ((with_reducible refine gate_callee (f := 19) rfl ?_); refine goesL_ (some 72) rfl rfl Try.func19 (by kernel_rfl) rfl #[.complex .f64 a0 a1, .int .i64 a5] rfl (by (try simp only [List.map_toArray, List.map_cons, List.map_nil]); first | done | rfl | (simp only [List.length_drop, List.length_take]; rfl)) ?_; (with_reducible refine (plane_Turn.calls (a0, a1) a5 t223 t224 _ A21.out).mono ?_); rintro e w34 ⟨rfl, hb⟩; refine ⟨_, rfl, ?_⟩; have n0_ := Aside0.mk (below_step (by repeat (first | (with_reducible first | exact HB.out | apply below_alloc | apply pw_below_drewN | apply below_drew1) | exact HB.out)) hb); clear HB; have HB := n0_; clear n0_; (try clear hb); (try clear hb2); (try clear hk); (try clear hi)) | ((with_reducible refine gate_callee (f := 19) rfl ?_); refine goesL_ (some 78) rfl rfl Try.func19 (by kernel_rfl) rfl #[.complex .f64 a3 a4, .int .i64 a5] rfl (by (try simp only [List.map_toArray, List.map_cons, List.map_nil]); first | done | rfl | (simp only [List.length_drop, List.length_take]; rfl)) ?_; (with_reducible refine (plane_Turn.calls (a3, a4) a5 t225 t226 _ A22.out).mono ?_); rintro e w35 ⟨rfl, hb⟩; refine ⟨_, rfl, ?_⟩; have n0_ := Aside0.mk (below_step (by repeat (first | (with_reducible first | exact HB.out | apply below_alloc | apply pw_below_drewN | apply below_drew1) | exact HB.out)) hb); clear HB; have HB := n0_; clear n0_; (try clear hb); (try clear hb2); (try clear hk); (try clear hi)) | ((with_reducible refine gate_callee (f := 27) rfl ?_); refine goesL_ (some 85) rfl rfl Try.func27 (by kernel_rfl) rfl #[.complex .f64 t223.1 t223.2, .int .i64 a2, .complex .f64 t225.1 t225.2] rfl (by (try simp only [List.map_toArray, List.map_cons, List.map_nil]); first | done | rfl | (simp only [List.length_drop, List.length_take]; rfl)) ?_; (with_reducible refine (plane_Side.calls kj16 t223 a2 t225 t227 t228 _ A23.out).mono ?_); rintro e w36 ⟨rfl, hb⟩; refine ⟨_, rfl, ?_⟩; have n0_ := Aside0.mk (below_step (by repeat (first | (with_reducible first | exact HB.out | apply below_alloc | apply pw_below_drewN | apply below_drew1) | exact HB.out)) hb); clear HB; have HB := n0_; clear n0_; (try clear hb); (try clear hb2); (try clear hk); (try clear hi)) | ((with_reducible refine gate_callee (f := 27) rfl ?_); refine goesL_ (some 94) rfl rfl Try.func27 (by kernel_rfl) rfl #[.complex .f64 (Go.Op.negFloat .f64 (a0, a1).1) (Go.Op.negFloat .f64 (a0, a1).2), .int .i64 (wrap64 (-a2)), .complex .f64 a3 a4] rfl (by (try simp only [List.map_toArray, List.map_cons, List.map_nil]); first | done | rfl | (simp only [List.length_drop, List.length_take]; rfl)) ?_; (with_reducible refine (plane_Side.calls kj16 (Go.Op.negFloat .f64 (a0, a1).1, Go.Op.negFloat .f64 (a0, a1).2) (wrap64 (-a2)) (a3, a4) t229 t230 _ A24.out).mono ?_); rintro e w37 ⟨rfl, hb⟩; refine ⟨_, rfl, ?_⟩; have n0_ := Aside0.mk (below_step (by repeat (first | (with_reducible first | exact HB.out | apply below_alloc | apply pw_below_drewN | apply below_drew1) | exact HB.out)) hb); clear HB; have HB := n0_; clear n0_; (try clear hb); (try clear hb2); (try clear hk); (try clear hi)))
                          go_ret
                          exact ⟨by first | rfl | (simp [errW_none, errW_some] <;> rfl) | (simp [*, errW_none, errW_some] <;> rfl), by repeat (first | (with_reducible first | exact HB.out | apply below_alloc | apply pw_below_drewN | apply below_drew1) | exact HB.out)⟩
                      · rw [if_neg c28] at H
                        have c28b0 : (t230 == 0) = false := beq_eq_false_iff_ne.mpr c28
                        have c28b1 : (t230 != 0) = true := bne_iff_ne.mpr c28
                        obtain rfl := Option.some.inj H
                        go_wp2_with (first | ((with_reducible refine gate_callee (f := 19) rfl ?_); refine goesL_ (some 72) rfl rfl Try.func19 (by kernel_rfl) rfl #[.complex .f64 a0 a1, .int .i64 a5] rfl (by (try simp only [List.map_toArray, List.map_cons, List.map_nil]); first | done | rfl | (simp only [List.length_drop, List.length_take]; rfl)) ?_; (with_reducible refine (plane_Turn.calls (a0, a1) a5 t223 t224 _ A21.out).mono ?_); rintro e w38 ⟨rfl, hb⟩; refine ⟨_, rfl, ?_⟩; have n0_ := Aside0.mk (below_step (by repeat (first | (with_reducible first | exact HB.out | apply below_alloc | apply pw_below_drewN | apply below_drew1) | exact HB.out)) hb); clear HB; have HB := n0_; clear n0_; (try clear hb); (try clear hb2); (try clear hk); (try clear hi)) | ((with_reducible refine gate_callee (f := 19) rfl ?_); refine goesL_ (some 78) rfl rfl Try.func19 (by kernel_rfl) rfl #[.complex .f64 a3 a4, .int .i64 a5] rfl (by (try simp only [List.map_toArray, List.map_cons, List.map_nil]); first | done | rfl | (simp only [List.length_drop, List.length_take]; rfl)) ?_; (with_reducible refine (plane_Turn.calls (a3, a4) a5 t225 t226 _ A22.out).mono ?_); rintro e w39 ⟨rfl, hb⟩; refine ⟨_, rfl, ?_⟩; have n0_ := Aside0.mk (below_step (by repeat (first | (with_reducible first | exact HB.out | apply below_alloc | apply pw_below_drewN | apply below_drew1) | exact HB.out)) hb); clear HB; have HB := n0_; clear n0_; (try clear hb); (try clear hb2); (try clear hk); (try clear hi)) | ((with_reducible refine gate_callee (f := 27) rfl ?_); refine goesL_ (some 85) rfl rfl Try.func27 (by kernel_rfl) rfl #[.complex .f64 t223.1 t223.2, .int .i64 a2, .complex .f64 t225.1 t225.2] rfl (by (try simp only [List.map_toArray, List.map_cons, List.map_nil]); first | done | rfl | (simp only [List.length_drop, List.length_take]; rfl)) ?_; (with_reducible refine (plane_Side.calls kj16 t223 a2 t225 t227 t228 _ A23.out).mono ?_); rintro e w40 ⟨rfl, hb⟩; refine ⟨_, rfl, ?_⟩; have n0_ := Aside0.mk (below_step (by repeat (first | (with_reducible first | exact HB.out | apply below_alloc | apply pw_below_drewN | apply below_drew1) | exact HB.out)) hb); clear HB; have HB := n0_; clear n0_; (try clear hb); (try clear hb2); (try clear hk); (try clear hi)) | ((with_reducible refine gate_callee (f := 27) rfl ?_); refine goesL_ (some 94) rfl rfl Try.func27 (by kernel_rfl) rfl #[.complex .f64 (Go.Op.negFloat .f64 (a0, a1).1) (Go.Op.negFloat .f64 (a0, a1).2), .int .i64 (wrap64 (-a2)), .complex .f64 a3 a4] rfl (by (try simp only [List.map_toArray, List.map_cons, List.map_nil]); first | done | rfl | (simp only [List.length_drop, List.length_take]; rfl)) ?_; (with_reducible refine (plane_Side.calls kj16 (Go.Op.negFloat .f64 (a0, a1).1, Go.Op.negFloat .f64 (a0, a1).2) (wrap64 (-a2)) (a3, a4) t229 t230 _ A24.out).mono ?_); rintro e w41 ⟨rfl, hb⟩; refine ⟨_, rfl, ?_⟩; have n0_ := Aside0.mk (below_step (by repeat (first | (with_reducible first | exact HB.out | apply below_alloc | apply pw_below_drewN | apply below_drew1) | exact HB.out)) hb); clear HB; have HB := n0_; clear n0_; (try clear hb); (try clear hb2); (try clear hk); (try clear hi)))
                        go_ret
                        exact ⟨by first | rfl | (simp [errW_none, errW_some] <;> rfl) | (simp [*, errW_none, errW_some] <;> rfl), by repeat (first | (with_reducible first | exact HB.out | apply below_alloc | apply pw_below_drewN | apply below_drew1) | exact HB.out)⟩
                    · rw [if_neg c27] at H
                      have c27b0 : (t228 == 0) = false := beq_eq_false_iff_ne.mpr c27
                      have c27b1 : (t228 != 0) = true := bne_iff_ne.mpr c27
                      obtain rfl := Option.some.inj H
                      go_wp2_with (first | ((with_reducible refine gate_callee (f := 19) rfl ?_); refine goesL_ (some 72) rfl rfl Try.func19 (by kernel_rfl) rfl #[.complex .f64 a0 a1, .int .i64 a5] rfl (by (try simp only [List.map_toArray, List.map_cons, List.map_nil]); first | done | rfl | (simp only [List.length_drop, List.length_take]; rfl)) ?_; (with_reducible refine (plane_Turn.calls (a0, a1) a5 t223 t224 _ A21.out).mono ?_); rintro e w42 ⟨rfl, hb⟩; refine ⟨_, rfl, ?_⟩; have n0_ := Aside0.mk (below_step (by repeat (first | (with_reducible first | exact HB.out | apply below_alloc | apply pw_below_drewN | apply below_drew1) | exact HB.out)) hb); clear HB; have HB := n0_; clear n0_; (try clear hb); (try clear hb2); (try clear hk); (try clear hi)) | ((with_reducible refine gate_callee (f := 19) rfl ?_); refine goesL_ (some 78) rfl rfl Try.func19 (by kernel_rfl) rfl #[.complex .f64 a3 a4, .int .i64 a5] rfl (by (try simp only [List.map_toArray, List.map_cons, List.map_nil]); first | done | rfl | (simp only [List.length_drop, List.length_take]; rfl)) ?_; (with_reducible refine (plane_Turn.calls (a3, a4) a5 t225 t226 _ A22.out).mono ?_); rintro e w43 ⟨rfl, hb⟩; refine ⟨_, rfl, ?_⟩; have n0_ := Aside0.mk (below_step (by repeat (first | (with_reducible first | exact HB.out | apply below_alloc | apply pw_below_drewN | apply below_drew1) | exact HB.out)) hb); clear HB; have HB := n0_; clear n0_; (try clear hb); (try clear hb2); (try clear hk); (try clear hi)) | ((with_reducible refine gate_callee (f := 27) rfl ?_); refine goesL_ (some 85) rfl rfl Try.func27 (by kernel_rfl) rfl #[.complex .f64 t223.1 t223.2, .int .i64 a2, .complex .f64 t225.1 t225.2] rfl (by (try simp only [List.map_toArray, List.map_cons, List.map_nil]); first | done | rfl | (simp only [List.length_drop, List.length_take]; rfl)) ?_; (with_reducible refine (plane_Side.calls kj16 t223 a2 t225 t227 t228 _ A23.out).mono ?_); rintro e w44 ⟨rfl, hb⟩; refine ⟨_, rfl, ?_⟩; have n0_ := Aside0.mk (below_step (by repeat (first | (with_reducible first | exact HB.out | apply below_alloc | apply pw_below_drewN | apply below_drew1) | exact HB.out)) hb); clear HB; have HB := n0_; clear n0_; (try clear hb); (try clear hb2); (try clear hk); (try clear hi)) | ((with_reducible refine gate_callee (f := 27) rfl ?_); refine goesL_ (some 94) rfl rfl Try.func27 (by kernel_rfl) rfl #[.complex .f64 (Go.Op.negFloat .f64 (a0, a1).1) (Go.Op.negFloat .f64 (a0, a1).2), .int .i64 (wrap64 (-a2)), .complex .f64 a3 a4] rfl (by (try simp only [List.map_toArray, List.map_cons, List.map_nil]); first | done | rfl | (simp only [List.length_drop, List.length_take]; rfl)) ?_; (with_reducible refine (plane_Side.calls kj16 (Go.Op.negFloat .f64 (a0, a1).1, Go.Op.negFloat .f64 (a0, a1).2) (wrap64 (-a2)) (a3, a4) t229 t230 _ A24.out).mono ?_); rintro e w45 ⟨rfl, hb⟩; refine ⟨_, rfl, ?_⟩; have n0_ := Aside0.mk (below_step (by repeat (first | (with_reducible first | exact HB.out | apply below_alloc | apply pw_below_drewN | apply below_drew1) | exact HB.out)) hb); clear HB; have HB := n0_; clear n0_; (try clear hb); (try clear hb2); (try clear hk); (try clear hi)))
                      go_ret
                      exact ⟨by first | rfl | (simp [errW_none, errW_some] <;> rfl) | (simp [*, errW_none, errW_some] <;> rfl), by repeat (first | (with_reducible first | exact HB.out | apply below_alloc | apply pw_below_drewN | apply below_drew1) | exact HB.out)⟩
                  · rw [if_neg c26] at H
                    have c26b0 : (t226 == 0) = false := beq_eq_false_iff_ne.mpr c26
                    have c26b1 : (t226 != 0) = true := bne_iff_ne.mpr c26
                    obtain rfl := Option.some.inj H
                    go_wp2_with (first | ((with_reducible refine gate_callee (f := 19) rfl ?_); refine goesL_ (some 72) rfl rfl Try.func19 (by kernel_rfl) rfl #[.complex .f64 a0 a1, .int .i64 a5] rfl (by (try simp only [List.map_toArray, List.map_cons, List.map_nil]); first | done | rfl | (simp only [List.length_drop, List.length_take]; rfl)) ?_; (with_reducible refine (plane_Turn.calls (a0, a1) a5 t223 t224 _ A21.out).mono ?_); rintro e w46 ⟨rfl, hb⟩; refine ⟨_, rfl, ?_⟩; have n0_ := Aside0.mk (below_step (by repeat (first | (with_reducible first | exact HB.out | apply below_alloc | apply pw_below_drewN | apply below_drew1) | exact HB.out)) hb); clear HB; have HB := n0_; clear n0_; (try clear hb); (try clear hb2); (try clear hk); (try clear hi)) | ((with_reducible refine gate_callee (f := 19) rfl ?_); refine goesL_ (some 78) rfl rfl Try.func19 (by kernel_rfl) rfl #[.complex .f64 a3 a4, .int .i64 a5] rfl (by (try simp only [List.map_toArray, List.map_cons, List.map_nil]); first | done | rfl | (simp only [List.length_drop, List.length_take]; rfl)) ?_; (with_reducible refine (plane_Turn.calls (a3, a4) a5 t225 t226 _ A22.out).mono ?_); rintro e w47 ⟨rfl, hb⟩; refine ⟨_, rfl, ?_⟩; have n0_ := Aside0.mk (below_step (by repeat (first | (with_reducible first | exact HB.out | apply below_alloc | apply pw_below_drewN | apply below_drew1) | exact HB.out)) hb); clear HB; have HB := n0_; clear n0_; (try clear hb); (try clear hb2); (try clear hk); (try clear hi)) | ((with_reducible refine gate_callee (f := 27) rfl ?_); refine goesL_ (some 85) rfl rfl Try.func27 (by kernel_rfl) rfl #[.complex .f64 t223.1 t223.2, .int .i64 a2, .complex .f64 t225.1 t225.2] rfl (by (try simp only [List.map_toArray, List.map_cons, List.map_nil]); first | done | rfl | (simp only [List.length_drop, List.length_take]; rfl)) ?_; (with_reducible refine (plane_Side.calls kj16 t223 a2 t225 t227 t228 _ A23.out).mono ?_); rintro e w48 ⟨rfl, hb⟩; refine ⟨_, rfl, ?_⟩; have n0_ := Aside0.mk (below_step (by repeat (first | (with_reducible first | exact HB.out | apply below_alloc | apply pw_below_drewN | apply below_drew1) | exact HB.out)) hb); clear HB; have HB := n0_; clear n0_; (try clear hb); (try clear hb2); (try clear hk); (try clear hi)) | ((with_reducible refine gate_callee (f := 27) rfl ?_); refine goesL_ (some 94) rfl rfl Try.func27 (by kernel_rfl) rfl #[.complex .f64 (Go.Op.negFloat .f64 (a0, a1).1) (Go.Op.negFloat .f64 (a0, a1).2), .int .i64 (wrap64 (-a2)), .complex .f64 a3 a4] rfl (by (try simp only [List.map_toArray, List.map_cons, List.map_nil]); first | done | rfl | (simp only [List.length_drop, List.length_take]; rfl)) ?_; (with_reducible refine (plane_Side.calls kj16 (Go.Op.negFloat .f64 (a0, a1).1, Go.Op.negFloat .f64 (a0, a1).2) (wrap64 (-a2)) (a3, a4) t229 t230 _ A24.out).mono ?_); rintro e w49 ⟨rfl, hb⟩; refine ⟨_, rfl, ?_⟩; have n0_ := Aside0.mk (below_step (by repeat (first | (with_reducible first | exact HB.out | apply below_alloc | apply pw_below_drewN | apply below_drew1) | exact HB.out)) hb); clear HB; have HB := n0_; clear n0_; (try clear hb); (try clear hb2); (try clear hk); (try clear hi)))
                    go_ret
                    exact ⟨by first | rfl | (simp [errW_none, errW_some] <;> rfl) | (simp [*, errW_none, errW_some] <;> rfl), by repeat (first | (with_reducible first | exact HB.out | apply below_alloc | apply pw_below_drewN | apply below_drew1) | exact HB.out)⟩
                · rw [if_neg c25] at H
                  have c25b0 : (t224 == 0) = false := beq_eq_false_iff_ne.mpr c25
                  have c25b1 : (t224 != 0) = true := bne_iff_ne.mpr c25
                  obtain rfl := Option.some.inj H
                  go_wp2_with (first | ((with_reducible refine gate_callee (f := 19) rfl ?_); refine goesL_ (some 72) rfl rfl Try.func19 (by kernel_rfl) rfl #[.complex .f64 a0 a1, .int .i64 a5] rfl (by (try simp only [List.map_toArray, List.map_cons, List.map_nil]); first | done | rfl | (simp only [List.length_drop, List.length_take]; rfl)) ?_; (with_reducible refine (plane_Turn.calls (a0, a1) a5 t223 t224 _ A21.out).mono ?_); rintro e w50 ⟨rfl, hb⟩; refine ⟨_, rfl, ?_⟩; have n0_ := Aside0.mk (below_step (by repeat (first | (with_reducible first | exact HB.out | apply below_alloc | apply pw_below_drewN | apply below_drew1) | exact HB.out)) hb); clear HB; have HB := n0_; clear n0_; (try clear hb); (try clear hb2); (try clear hk); (try clear hi)) | ((with_reducible refine gate_callee (f := 19) rfl ?_); refine goesL_ (some 78) rfl rfl Try.func19 (by kernel_rfl) rfl #[.complex .f64 a3 a4, .int .i64 a5] rfl (by (try simp only [List.map_toArray, List.map_cons, List.map_nil]); first | done | rfl | (simp only [List.length_drop, List.length_take]; rfl)) ?_; (with_reducible refine (plane_Turn.calls (a3, a4) a5 t225 t226 _ A22.out).mono ?_); rintro e w51 ⟨rfl, hb⟩; refine ⟨_, rfl, ?_⟩; have n0_ := Aside0.mk (below_step (by repeat (first | (with_reducible first | exact HB.out | apply below_alloc | apply pw_below_drewN | apply below_drew1) | exact HB.out)) hb); clear HB; have HB := n0_; clear n0_; (try clear hb); (try clear hb2); (try clear hk); (try clear hi)) | ((with_reducible refine gate_callee (f := 27) rfl ?_); refine goesL_ (some 85) rfl rfl Try.func27 (by kernel_rfl) rfl #[.complex .f64 t223.1 t223.2, .int .i64 a2, .complex .f64 t225.1 t225.2] rfl (by (try simp only [List.map_toArray, List.map_cons, List.map_nil]); first | done | rfl | (simp only [List.length_drop, List.length_take]; rfl)) ?_; (with_reducible refine (plane_Side.calls kj16 t223 a2 t225 t227 t228 _ A23.out).mono ?_); rintro e w52 ⟨rfl, hb⟩; refine ⟨_, rfl, ?_⟩; have n0_ := Aside0.mk (below_step (by repeat (first | (with_reducible first | exact HB.out | apply below_alloc | apply pw_below_drewN | apply below_drew1) | exact HB.out)) hb); clear HB; have HB := n0_; clear n0_; (try clear hb); (try clear hb2); (try clear hk); (try clear hi)) | ((with_reducible refine gate_callee (f := 27) rfl ?_); refine goesL_ (some 94) rfl rfl Try.func27 (by kernel_rfl) rfl #[.complex .f64 (Go.Op.negFloat .f64 (a0, a1).1) (Go.Op.negFloat .f64 (a0, a1).2), .int .i64 (wrap64 (-a2)), .complex .f64 a3 a4] rfl (by (try simp only [List.map_toArray, List.map_cons, List.map_nil]); first | done | rfl | (simp only [List.length_drop, List.length_take]; rfl)) ?_; (with_reducible refine (plane_Side.calls kj16 (Go.Op.negFloat .f64 (a0, a1).1, Go.Op.negFloat .f64 (a0, a1).2) (wrap64 (-a2)) (a3, a4) t229 t230 _ A24.out).mono ?_); rintro e w53 ⟨rfl, hb⟩; refine ⟨_, rfl, ?_⟩; have n0_ := Aside0.mk (below_step (by repeat (first | (with_reducible first | exact HB.out | apply below_alloc | apply pw_below_drewN | apply below_drew1) | exact HB.out)) hb); clear HB; have HB := n0_; clear n0_; (try clear hb); (try clear hb2); (try clear hk); (try clear hi)))
                  go_ret
                  exact ⟨by first | rfl | (simp [errW_none, errW_some] <;> rfl) | (simp [*, errW_none, errW_some] <;> rfl), by repeat (first | (with_reducible first | exact HB.out | apply below_alloc | apply pw_below_drewN | apply below_drew1) | exact HB.out)⟩
  · replace c8 := Bool.eq_false_iff.mpr c8
    subst c8
    have H1 : (some false) = some r := by rw [if_neg (show ¬ (false = true) by decide)] at H; exact H
    clear H
    have H := H1
    clear H1
    obtain rfl := Option.some.inj H
    go_enter Try.func7, Try.ntmps7
    go_wp2_with (first | ((with_reducible refine gate_callee (f := 12) rfl ?_); refine goesL_ (some 33) rfl rfl Try.func12 (by kernel_rfl) rfl #[] rfl (by (try simp only [List.map_toArray, List.map_cons, List.map_nil]); first | done | rfl | (simp only [List.length_drop, List.length_take]; rfl)) ?_; (with_reducible refine (punnetlaw01_awake.calls  false _ A7.out).mono ?_); rintro e w54 ⟨rfl, hb⟩; refine ⟨_, rfl, ?_⟩; have n0_ := Aside0.mk (below_step (by repeat (first | (with_reducible first | exact HB.out | apply below_alloc | apply pw_below_drewN | apply below_drew1) | exact HB.out)) hb); clear HB; have HB := n0_; clear n0_; (try clear hb); (try clear hb2); (try clear hk); (try clear hi)))
    go_ret
    exact ⟨by first | rfl | (simp [errW_none, errW_some] <;> rfl) | (simp [*, errW_none, errW_some] <;> rfl), by repeat (first | (with_reducible first | exact HB.out | apply below_alloc | apply pw_below_drewN | apply below_drew1) | exact HB.out)⟩

/-- THE ONE PURE STATEMENT of punnetlaw01_PlaneSides: yours. -/
def punnetlaw01_PlaneSides.Pure : Prop := ∀ (a0 : Nat) (a1 : Nat) (a2 : Int) (a3 : Nat) (a4 : Nat) (a5 : Int), (Lit.float .f64 a0).wf = true → (Lit.float .f64 a1).wf = true → (Lit.int .i64 a2).wf = true → (Lit.float .f64 a3).wf = true → (Lit.float .f64 a4).wf = true → (Lit.int .i64 a5).wf = true → ∃ k, punnetlaw01_PlaneSides.f k a0 a1 a2 a3 a4 a5 = some true
theorem punnetlaw01_PlaneSides.walk (P : punnetlaw01_PlaneSides.Pure) (a0 : Nat) (a1 : Nat) (a2 : Int) (a3 : Nat) (a4 : Nat) (a5 : Int) (w : World) (w0 : (Lit.float .f64 a0).wf = true) (w1 : (Lit.float .f64 a1).wf = true) (w2 : (Lit.int .i64 a2).wf = true) (w3 : (Lit.float .f64 a3).wf = true) (w4 : (Lit.float .f64 a4).wf = true) (w5 : (Lit.int .i64 a5).wf = true) :
    Calls Try.prog 7 #[.float .f64 a0, .float .f64 a1, .int .i64 a2, .float .f64 a3, .float .f64 a4, .int .i64 a5] w fun e w' => e = .returned (.bool true) ∧ Below w.heap.size w w' := by
  obtain ⟨k, h⟩ := P a0 a1 a2 a3 a4 a5 w0 w1 w2 w3 w4 w5
  refine (punnetlaw01_PlaneSides.calls k a0 a1 a2 a3 a4 a5 true w h).mono ?_
  rintro e w' ⟨rfl, hd⟩
  exact ⟨rfl, hd⟩

end Go.Proofs.Ytjaefcinaackeaa.Q
