/- A function of the program or a law's row comes to what the Lean function beside it says; no condition beyond those typed. Written by a program of this workplace; Lean checks it. -/
import Derived.Test.YtjaefcinaackeaaQ0
import Derived.Test.YtjaefcinaackeaaQ11
import Derived.Test.YtjaefcinaackeaaQ13
import Derived.Test.YtjaefcinaackeaaQ14
import Derived.Test.YtjaefcinaackeaaQ16
import Derived.Test.YtjaefcinaackeaaQ22
namespace Go.Proofs.Ytjaefcinaackeaa.Q
open Go.RowKit Go.Proofs.YtjaefcinaackeaaW.PrintWords Go.Proofs.YtjaefcinaackeaaW.PrintLast Go.Proofs.YtjaefcinaackeaaW.PrintMore
attribute [local go_sem] max2_int min2_int max_two min_two max_three min_three max_four min_four   -- for this text's walks alone
set_option linter.unusedVariables false
set_option linter.unusedSimpArgs false

/-! ### punnetlaw01_PlaneNorms: function 5 -/
mutual
def punnetlaw01_PlaneNorms.j0 : Nat → Int → (Nat × Nat) → (Nat × Nat) → Int → Int → Int → Bool → Option (Bool)
  | 0, _, _, _, _, _, _, _ => none
  | k + 1, x4, x11, x12, x13, x15, x16, x68 => if x68 = true then (some false) else ((plane_Turn.f x11 x4).bind fun bt161 => ((plane_Norm.f bt161.1).bind fun bt163 => (if bt161.2 = 0 then (if bt163.2 = 0 then (punnetlaw01_PlaneNorms.j1 k x11 x12 x13 x15 x16 (bt163.1 != x13)) else (punnetlaw01_PlaneNorms.j1 k x11 x12 x13 x15 x16 true)) else (punnetlaw01_PlaneNorms.j1 k x11 x12 x13 x15 x16 true))))
def punnetlaw01_PlaneNorms.j1 : Nat → (Nat × Nat) → (Nat × Nat) → Int → Int → Int → Bool → Option (Bool)
  | 0, _, _, _, _, _, _ => none
  | k + 1, x11, x12, x13, x15, x16, x90 => if x90 = true then (some false) else ((punnetref01_Parts.f x12 1024).bind fun bt165 => (if bt165.2.2 = true then (if x15 > 1024 then (punnetlaw01_PlaneNorms.j2 k x11 x12 x13 bt165.1 bt165.2.1 true) else (if x15 < (-1024) then (punnetlaw01_PlaneNorms.j2 k x11 x12 x13 bt165.1 bt165.2.1 true) else (if x16 > 1024 then (punnetlaw01_PlaneNorms.j2 k x11 x12 x13 bt165.1 bt165.2.1 true) else (punnetlaw01_PlaneNorms.j2 k x11 x12 x13 bt165.1 bt165.2.1 (decide (x16 < (-1024))))))) else (punnetlaw01_PlaneNorms.j2 k x11 x12 x13 bt165.1 bt165.2.1 true)))
def punnetlaw01_PlaneNorms.j2 : Nat → (Nat × Nat) → (Nat × Nat) → Int → Int → Int → Bool → Option (Bool)
  | 0, _, _, _, _, _, _ => none
  | k + 1, x11, x12, x13, x22, x23, x114 => if x114 = true then (some true) else ((plane_Times.f x11 x12).bind fun bt168 => ((plane_Norm.f bt168.1).bind fun bt170 => (if bt168.2 = 0 then (if bt170.2 = 0 then (some (bt170.1 == (wrap64 (x13 * (wrap64 ((wrap64 (x22 * x22)) + (wrap64 (x23 * x23)))))))) else (some false)) else (some false))))
end
def punnetlaw01_PlaneNorms.f (k : Nat) (a0 : Nat) (a1 : Nat) (a2 : Nat) (a3 : Nat) (a4 : Int) : Option (Bool) := (punnetlaw01_awake.f).bind fun t155 => (if t155 = true then ((plane_Norm.f (a0, a1)).bind fun bt156 => ((punnetref01_Parts.f (a0, a1) 33554432).bind fun bt158 => (if bt158.2.2 = true then (if bt156.1 = (wrap64 ((wrap64 (bt158.1 * bt158.1)) + (wrap64 (bt158.2.1 * bt158.2.1)))) then (punnetlaw01_PlaneNorms.j0 k a4 (a0, a1) (a2, a3) bt156.1 bt158.1 bt158.2.1 (bt156.2 != 0)) else (punnetlaw01_PlaneNorms.j0 k a4 (a0, a1) (a2, a3) bt156.1 bt158.1 bt158.2.1 true)) else (if bt156.1 = 0 then (some (bt156.2 == 5)) else (some false))))) else (some false))
theorem punnetlaw01_PlaneNorms.mono_l : ∀ k, (∀ y0 y1 y2 y3 y4 y5 y6, LeO (punnetlaw01_PlaneNorms.j0 k y0 y1 y2 y3 y4 y5 y6) (punnetlaw01_PlaneNorms.j0 (k + 1) y0 y1 y2 y3 y4 y5 y6)) ∧ (∀ y0 y1 y2 y3 y4 y5, LeO (punnetlaw01_PlaneNorms.j1 k y0 y1 y2 y3 y4 y5) (punnetlaw01_PlaneNorms.j1 (k + 1) y0 y1 y2 y3 y4 y5)) ∧ (∀ y0 y1 y2 y3 y4 y5, LeO (punnetlaw01_PlaneNorms.j2 k y0 y1 y2 y3 y4 y5) (punnetlaw01_PlaneNorms.j2 (k + 1) y0 y1 y2 y3 y4 y5))
  | 0 => ⟨fun _ _ _ _ _ _ _ r h => by simp [punnetlaw01_PlaneNorms.j0] at h, fun _ _ _ _ _ _ r h => by simp [punnetlaw01_PlaneNorms.j1] at h, fun _ _ _ _ _ _ r h => by simp [punnetlaw01_PlaneNorms.j2] at h⟩
  | k + 1 => by
    obtain ⟨ih0, ih1, ih2⟩ := punnetlaw01_PlaneNorms.mono_l k
    refine ⟨?_, ?_, ?_⟩
    · intro y0 y1 y2 y3 y4 y5 y6
      unfold punnetlaw01_PlaneNorms.j0
      repeat' first
      | (with_reducible exact ih0 _ _ _ _ _ _ _)
      | (with_reducible exact ih1 _ _ _ _ _ _)
      | (with_reducible exact ih2 _ _ _ _ _ _)
      | (with_reducible exact LeO.refl _)
      | (with_reducible exact LeO.none _)
      | (with_reducible refine LeO.ite ?_ ?_)
      | (with_reducible refine LeO.bind ?_ (fun _ => ?_))
      | exact ih0 _ _ _ _ _ _ _
      | exact ih1 _ _ _ _ _ _
      | exact ih2 _ _ _ _ _ _
      | exact LeO.none _
      | refine LeO.ite ?_ ?_
      | refine LeO.bind ?_ (fun _ => ?_)
    · intro y0 y1 y2 y3 y4 y5
      unfold punnetlaw01_PlaneNorms.j1
      repeat' first
      | (with_reducible exact ih0 _ _ _ _ _ _ _)
      | (with_reducible exact ih1 _ _ _ _ _ _)
      | (with_reducible exact ih2 _ _ _ _ _ _)
      | (with_reducible exact LeO.refl _)
      | (with_reducible exact LeO.none _)
      | (with_reducible refine LeO.ite ?_ ?_)
      | (with_reducible refine LeO.bind ?_ (fun _ => ?_))
      | exact ih0 _ _ _ _ _ _ _
      | exact ih1 _ _ _ _ _ _
      | exact ih2 _ _ _ _ _ _
      | exact LeO.none _
      | refine LeO.ite ?_ ?_
      | refine LeO.bind ?_ (fun _ => ?_)
    · intro y0 y1 y2 y3 y4 y5
      unfold punnetlaw01_PlaneNorms.j2
      repeat' first
      | (with_reducible exact ih0 _ _ _ _ _ _ _)
      | (with_reducible exact ih1 _ _ _ _ _ _)
      | (with_reducible exact ih2 _ _ _ _ _ _)
      | (with_reducible exact LeO.refl _)
      | (with_reducible exact LeO.none _)
      | (with_reducible refine LeO.ite ?_ ?_)
      | (with_reducible refine LeO.bind ?_ (fun _ => ?_))
      | exact ih0 _ _ _ _ _ _ _
      | exact ih1 _ _ _ _ _ _
      | exact ih2 _ _ _ _ _ _
      | exact LeO.none _
      | refine LeO.ite ?_ ?_
      | refine LeO.bind ?_ (fun _ => ?_)
theorem punnetlaw01_PlaneNorms.mono : ∀ a0 a1 a2 a3 a4 k, LeO (punnetlaw01_PlaneNorms.f k a0 a1 a2 a3 a4) (punnetlaw01_PlaneNorms.f (k + 1) a0 a1 a2 a3 a4) := by
  intro a0 a1 a2 a3 a4 k
  obtain ⟨ih0, ih1, ih2⟩ := punnetlaw01_PlaneNorms.mono_l k
  unfold punnetlaw01_PlaneNorms.f
  repeat' first
      | (with_reducible exact ih0 _ _ _ _ _ _ _)
      | (with_reducible exact ih1 _ _ _ _ _ _)
      | (with_reducible exact ih2 _ _ _ _ _ _)
      | (with_reducible exact LeO.refl _)
      | (with_reducible exact LeO.none _)
      | (with_reducible refine LeO.ite ?_ ?_)
      | (with_reducible refine LeO.bind ?_ (fun _ => ?_))
      | exact ih0 _ _ _ _ _ _ _
      | exact ih1 _ _ _ _ _ _
      | exact ih2 _ _ _ _ _ _
      | exact LeO.none _
      | refine LeO.ite ?_ ?_
      | refine LeO.bind ?_ (fun _ => ?_)
set_option maxHeartbeats 8000000 in
set_option maxRecDepth 100000 in
theorem punnetlaw01_PlaneNorms.calls (k : Nat) (a0 : Nat) (a1 : Nat) (a2 : Nat) (a3 : Nat) (a4 : Int) (r : Bool) (w : World) (h : punnetlaw01_PlaneNorms.f k a0 a1 a2 a3 a4 = some r) :
    Calls Try.prog 5 #[.float .f64 a0, .float .f64 a1, .float .f64 a2, .float .f64 a3, .int .i64 a4] w fun e w' => e = .returned (.bool r) ∧ Below w.heap.size w w' := by
  have HB := Aside0.mk (Below.refl w.heap.size w)
  have H : ((punnetlaw01_awake.f).bind fun t155 => (if t155 = true then ((plane_Norm.f (a0, a1)).bind fun bt156 => ((punnetref01_Parts.f (a0, a1) 33554432).bind fun bt158 => (if bt158.2.2 = true then (if bt156.1 = (wrap64 ((wrap64 (bt158.1 * bt158.1)) + (wrap64 (bt158.2.1 * bt158.2.1)))) then (punnetlaw01_PlaneNorms.j0 k a4 (a0, a1) (a2, a3) bt156.1 bt158.1 bt158.2.1 (bt156.2 != 0)) else (punnetlaw01_PlaneNorms.j0 k a4 (a0, a1) (a2, a3) bt156.1 bt158.1 bt158.2.1 true)) else (if bt156.1 = 0 then (some (bt156.2 == 5)) else (some false))))) else (some false))) = some r := h
  clear h
  replace H := Option.bind_eq_some_iff.mp H
  obtain ⟨t155, A60, H⟩ := H
  replace H : (if t155 = true then ((plane_Norm.f (a0, a1)).bind fun bt156 => ((punnetref01_Parts.f (a0, a1) 33554432).bind fun bt158 => (if bt158.2.2 = true then (if bt156.1 = (wrap64 ((wrap64 (bt158.1 * bt158.1)) + (wrap64 (bt158.2.1 * bt158.2.1)))) then (punnetlaw01_PlaneNorms.j0 k a4 (a0, a1) (a2, a3) bt156.1 bt158.1 bt158.2.1 (bt156.2 != 0)) else (punnetlaw01_PlaneNorms.j0 k a4 (a0, a1) (a2, a3) bt156.1 bt158.1 bt158.2.1 true)) else (if bt156.1 = 0 then (some (bt156.2 == 5)) else (some false))))) else (some false)) = some r := H
  have A6 := Aside0.mk A60
  clear A60
  by_cases c7 : t155 = true
  · subst c7
    have H1 : ((plane_Norm.f (a0, a1)).bind fun bt156 => ((punnetref01_Parts.f (a0, a1) 33554432).bind fun bt158 => (if bt158.2.2 = true then (if bt156.1 = (wrap64 ((wrap64 (bt158.1 * bt158.1)) + (wrap64 (bt158.2.1 * bt158.2.1)))) then (punnetlaw01_PlaneNorms.j0 k a4 (a0, a1) (a2, a3) bt156.1 bt158.1 bt158.2.1 (bt156.2 != 0)) else (punnetlaw01_PlaneNorms.j0 k a4 (a0, a1) (a2, a3) bt156.1 bt158.1 bt158.2.1 true)) else (if bt156.1 = 0 then (some (bt156.2 == 5)) else (some false))))) = some r := by rw [if_pos rfl] at H; exact H
    clear H
    have H := H1
    clear H1
    replace H := Option.bind_eq_some_iff.mp H
    obtain ⟨⟨t156, t157⟩, A80, H⟩ := H
    replace H : ((punnetref01_Parts.f (a0, a1) 33554432).bind fun bt158 => (if bt158.2.2 = true then (if t156 = (wrap64 ((wrap64 (bt158.1 * bt158.1)) + (wrap64 (bt158.2.1 * bt158.2.1)))) then (punnetlaw01_PlaneNorms.j0 k a4 (a0, a1) (a2, a3) t156 bt158.1 bt158.2.1 (t157 != 0)) else (punnetlaw01_PlaneNorms.j0 k a4 (a0, a1) (a2, a3) t156 bt158.1 bt158.2.1 true)) else (if t156 = 0 then (some (t157 == 5)) else (some false)))) = some r := H
    have A8 := Aside0.mk A80
    clear A80
    replace H := Option.bind_eq_some_iff.mp H
    obtain ⟨⟨t158, t159, t160⟩, A90, H⟩ := H
    replace H : (if t160 = true then (if t156 = (wrap64 ((wrap64 (t158 * t158)) + (wrap64 (t159 * t159)))) then (punnetlaw01_PlaneNorms.j0 k a4 (a0, a1) (a2, a3) t156 t158 t159 (t157 != 0)) else (punnetlaw01_PlaneNorms.j0 k a4 (a0, a1) (a2, a3) t156 t158 t159 true)) else (if t156 = 0 then (some (t157 == 5)) else (some false))) = some r := H
    have A9 := Aside0.mk A90
    clear A90
    by_cases c10 : t160 = true
    · subst c10
      have H1 : (if t156 = (wrap64 ((wrap64 (t158 * t158)) + (wrap64 (t159 * t159)))) then (punnetlaw01_PlaneNorms.j0 k a4 (a0, a1) (a2, a3) t156 t158 t159 (t157 != 0)) else (punnetlaw01_PlaneNorms.j0 k a4 (a0, a1) (a2, a3) t156 t158 t159 true)) = some r := by rw [if_pos rfl] at H; exact H
      clear H
      have H := H1
      clear H1
      have HC11 := Aside0.mk H
      clear H
      go_enter Try.func5, Try.ntmps5
      go_upto_region 8 with (first | ((with_reducible refine gate_callee (f := 12) rfl ?_); refine goesL_ (some 35) rfl rfl Try.func12 (by kernel_rfl) rfl #[] rfl (by (try simp only [List.map_toArray, List.map_cons, List.map_nil]); first | done | rfl | (simp only [List.length_drop, List.length_take]; rfl)) ?_; (with_reducible refine (punnetlaw01_awake.calls  true _ A6.out).mono ?_); rintro e w12 ⟨rfl, hb⟩; refine ⟨_, rfl, ?_⟩; have n0_ := Aside0.mk (below_step (by repeat (first | (with_reducible first | exact HB.out | apply below_alloc | apply pw_below_drewN | apply below_drew1) | exact HB.out)) hb); clear HB; have HB := n0_; clear n0_; (try clear hb); (try clear hb2); (try clear hk); (try clear hi)) | ((with_reducible refine gate_callee (f := 22) rfl ?_); refine goesL_ (some 39) rfl rfl Try.func22 (by kernel_rfl) rfl #[.complex .f64 a0 a1] rfl (by (try simp only [List.map_toArray, List.map_cons, List.map_nil]); first | done | rfl | (simp only [List.length_drop, List.length_take]; rfl)) ?_; (with_reducible refine (plane_Norm.calls (a0, a1) t156 t157 _ A8.out).mono ?_); rintro e w13 ⟨rfl, hb⟩; refine ⟨_, rfl, ?_⟩; have n0_ := Aside0.mk (below_step (by repeat (first | (with_reducible first | exact HB.out | apply below_alloc | apply pw_below_drewN | apply below_drew1) | exact HB.out)) hb); clear HB; have HB := n0_; clear n0_; (try clear hb); (try clear hb2); (try clear hk); (try clear hi)) | ((with_reducible refine gate_callee (f := 13) rfl ?_); refine goesL_ (some 44) rfl rfl Try.func13 (by kernel_rfl) rfl #[.complex .f64 a0 a1, .int .i64 33554432] rfl (by (try simp only [List.map_toArray, List.map_cons, List.map_nil]); first | done | rfl | (simp only [List.length_drop, List.length_take]; rfl)) ?_; (with_reducible refine (punnetref01_Parts.calls (a0, a1) 33554432 t158 t159 true _ A9.out).mono ?_); rintro e w14 ⟨rfl, hb⟩; refine ⟨_, rfl, ?_⟩; have n0_ := Aside0.mk (below_step (by repeat (first | (with_reducible first | exact HB.out | apply below_alloc | apply pw_below_drewN | apply below_drew1) | exact HB.out)) hb); clear HB; have HB := n0_; clear n0_; (try clear hb); (try clear hb2); (try clear hk); (try clear hi)))
      (try simp only [Act.put, List.setIfInBounds_toArray, List.set_cons_zero, List.set_cons_succ])
      go_cut [68] (fun v68 wc => ∃ (kq : Nat) (x68_10 : Bool), v68 = .bool x68_10 ∧ Aside0 (punnetlaw01_PlaneNorms.j0 kq a4 (a0, a1) (a2, a3) t156 t158 t159 x68_10 = some r) ∧ Aside0 (kq ≤ k) ∧ Aside0 (Below w.heap.size w wc))
      case first =>
        have H := HC11.out
        clear HC11
        by_cases c15 : t156 = (wrap64 ((wrap64 (t158 * t158)) + (wrap64 (t159 * t159))))
        · rw [if_pos c15] at H
          have c15b0 : (t156 == (wrap64 ((wrap64 (t158 * t158)) + (wrap64 (t159 * t159))))) = true := beq_iff_eq.mpr c15
          have c15b1 : (t156 != (wrap64 ((wrap64 (t158 * t158)) + (wrap64 (t159 * t159))))) = false := bne_eq_false_iff_eq.mpr c15
          clear c15
          (first | rw [c15b0] | (simp only [i64_w, i32_w]; rw [c15b0]) | skip)
          have H' := Aside0.mk H
          clear H
          go_wp2
          go_meet
          case rel => exact ⟨_, ((t157 != 0)), (by first | rfl | (simp; done) | (simp [*]; done)), H', ⟨by first | omega | exact Nat.le_refl _⟩, ⟨by repeat (first | (with_reducible first | exact HB.out | apply below_alloc | apply pw_below_drewN | apply below_drew1) | exact HB.out)⟩⟩
        · rw [if_neg c15] at H
          have c15b0 : (t156 == (wrap64 ((wrap64 (t158 * t158)) + (wrap64 (t159 * t159))))) = false := beq_eq_false_iff_ne.mpr c15
          have c15b1 : (t156 != (wrap64 ((wrap64 (t158 * t158)) + (wrap64 (t159 * t159))))) = true := bne_iff_ne.mpr c15
          (first | rw [c15b0] | (simp only [i64_w, i32_w]; rw [c15b0]) | skip)
          have H' := Aside0.mk H
          clear H
          go_wp2
          go_meet
          case rel => exact ⟨_, (true), (by first | rfl | (simp; done) | (simp [*]; done)), H', ⟨by first | omega | exact Nat.le_refl _⟩, ⟨by repeat (first | (with_reducible first | exact HB.out | apply below_alloc | apply pw_below_drewN | apply below_drew1) | exact HB.out)⟩⟩
      case rest =>
        clear HC11
        try clear c1
        try clear c2
        try clear p2
        try clear c5
        try clear p6
        try clear c7
        try clear c10
        try clear c12
        try clear c13
        try clear c15
        try clear c15b0
        try clear c15b1
        obtain ⟨kq, x68_10, rfl, HA, HJ10, HB⟩ := hcut
        cases kq with
        | zero => exact absurd HA.out (by simp [punnetlaw01_PlaneNorms.j0])
        | succ kj10 =>
          have H := HA.out
          clear HA
          simp only [punnetlaw01_PlaneNorms.j0] at H
          by_cases c16 : x68_10 = true
          · subst c16
            have H1 : (some false) = some r := by rw [if_pos rfl] at H; exact H
            clear H
            have H := H1
            clear H1
            obtain rfl := Option.some.inj H
            go_wp2
            go_ret
            exact ⟨by first | rfl | (simp [errW_none, errW_some] <;> rfl) | (simp [*, errW_none, errW_some] <;> rfl), by repeat (first | (with_reducible first | exact HB.out | apply below_alloc | apply pw_below_drewN | apply below_drew1) | exact HB.out)⟩
          · replace c16 := Bool.eq_false_iff.mpr c16
            subst c16
            have H1 : ((plane_Turn.f (a0, a1) a4).bind fun bt161 => ((plane_Norm.f bt161.1).bind fun bt163 => (if bt161.2 = 0 then (if bt163.2 = 0 then (punnetlaw01_PlaneNorms.j1 kj10 (a0, a1) (a2, a3) t156 t158 t159 (bt163.1 != t156)) else (punnetlaw01_PlaneNorms.j1 kj10 (a0, a1) (a2, a3) t156 t158 t159 true)) else (punnetlaw01_PlaneNorms.j1 kj10 (a0, a1) (a2, a3) t156 t158 t159 true)))) = some r := by rw [if_neg (show ¬ (false = true) by decide)] at H; exact H
            clear H
            have H := H1
            clear H1
            replace H := Option.bind_eq_some_iff.mp H
            obtain ⟨⟨t161, t162⟩, A170, H⟩ := H
            replace H : ((plane_Norm.f t161).bind fun bt163 => (if t162 = 0 then (if bt163.2 = 0 then (punnetlaw01_PlaneNorms.j1 kj10 (a0, a1) (a2, a3) t156 t158 t159 (bt163.1 != t156)) else (punnetlaw01_PlaneNorms.j1 kj10 (a0, a1) (a2, a3) t156 t158 t159 true)) else (punnetlaw01_PlaneNorms.j1 kj10 (a0, a1) (a2, a3) t156 t158 t159 true))) = some r := H
            have A17 := Aside0.mk A170
            clear A170
            replace H := Option.bind_eq_some_iff.mp H
            obtain ⟨⟨t163, t164⟩, A180, H⟩ := H
            replace H : (if t162 = 0 then (if t164 = 0 then (punnetlaw01_PlaneNorms.j1 kj10 (a0, a1) (a2, a3) t156 t158 t159 (t163 != t156)) else (punnetlaw01_PlaneNorms.j1 kj10 (a0, a1) (a2, a3) t156 t158 t159 true)) else (punnetlaw01_PlaneNorms.j1 kj10 (a0, a1) (a2, a3) t156 t158 t159 true)) = some r := H
            have A18 := Aside0.mk A180
            clear A180
            have HC19 := Aside0.mk H
            clear H
            go_upto_region 12 with (first | ((with_reducible refine gate_callee (f := 19) rfl ?_); refine goesL_ (some 72) rfl rfl Try.func19 (by kernel_rfl) rfl #[.complex .f64 a0 a1, .int .i64 a4] rfl (by (try simp only [List.map_toArray, List.map_cons, List.map_nil]); first | done | rfl | (simp only [List.length_drop, List.length_take]; rfl)) ?_; (with_reducible refine (plane_Turn.calls (a0, a1) a4 t161 t162 _ A17.out).mono ?_); rintro e w20 ⟨rfl, hb⟩; refine ⟨_, rfl, ?_⟩; have n0_ := Aside0.mk (below_step (by repeat (first | (with_reducible first | exact HB.out | apply below_alloc | apply pw_below_drewN | apply below_drew1) | exact HB.out)) hb); clear HB; have HB := n0_; clear n0_; (try clear hb); (try clear hb2); (try clear hk); (try clear hi)) | ((with_reducible refine gate_callee (f := 22) rfl ?_); refine goesL_ (some 77) rfl rfl Try.func22 (by kernel_rfl) rfl #[.complex .f64 t161.1 t161.2] rfl (by (try simp only [List.map_toArray, List.map_cons, List.map_nil]); first | done | rfl | (simp only [List.length_drop, List.length_take]; rfl)) ?_; (with_reducible refine (plane_Norm.calls t161 t163 t164 _ A18.out).mono ?_); rintro e w21 ⟨rfl, hb⟩; refine ⟨_, rfl, ?_⟩; have n0_ := Aside0.mk (below_step (by repeat (first | (with_reducible first | exact HB.out | apply below_alloc | apply pw_below_drewN | apply below_drew1) | exact HB.out)) hb); clear HB; have HB := n0_; clear n0_; (try clear hb); (try clear hb2); (try clear hk); (try clear hi)))
            (try simp only [Act.put, List.setIfInBounds_toArray, List.set_cons_zero, List.set_cons_succ])
            go_cut [90] (fun v90 wc => ∃ (kq : Nat) (x90_18 : Bool), v90 = .bool x90_18 ∧ Aside0 (punnetlaw01_PlaneNorms.j1 kq (a0, a1) (a2, a3) t156 t158 t159 x90_18 = some r) ∧ Aside0 (kq ≤ kj10) ∧ Aside0 (Below w.heap.size w wc))
            case first =>
              have H := HC19.out
              clear HC19
              by_cases c22 : t162 = 0
              · rw [if_pos c22] at H
                have c22b0 : (t162 == 0) = true := beq_iff_eq.mpr c22
                have c22b1 : (t162 != 0) = false := bne_eq_false_iff_eq.mpr c22
                clear c22
                (first | rw [c22b0] | (simp only [i64_w, i32_w]; rw [c22b0]) | skip)
                by_cases c23 : t164 = 0
                · rw [if_pos c23] at H
                  have c23b0 : (t164 == 0) = true := beq_iff_eq.mpr c23
                  have c23b1 : (t164 != 0) = false := bne_eq_false_iff_eq.mpr c23
                  clear c23
                  have H' := Aside0.mk H
                  clear H
                  go_wp2
                  go_meet
                  case rel => exact ⟨_, ((t163 != t156)), (by first | rfl | (simp; done) | (simp [*]; done)), H', ⟨by have := HJ10.out; first | omega | exact Nat.le_refl _⟩, ⟨by repeat (first | (with_reducible first | exact HB.out | apply below_alloc | apply pw_below_drewN | apply below_drew1) | exact HB.out)⟩⟩
                · rw [if_neg c23] at H
                  have c23b0 : (t164 == 0) = false := beq_eq_false_iff_ne.mpr c23
                  have c23b1 : (t164 != 0) = true := bne_iff_ne.mpr c23
                  have H' := Aside0.mk H
                  clear H
                  go_wp2
                  go_meet
                  case rel => exact ⟨_, (true), (by first | rfl | (simp; done) | (simp [*]; done)), H', ⟨by have := HJ10.out; first | omega | exact Nat.le_refl _⟩, ⟨by repeat (first | (with_reducible first | exact HB.out | apply below_alloc | apply pw_below_drewN | apply below_drew1) | exact HB.out)⟩⟩
              · rw [if_neg c22] at H
                have c22b0 : (t162 == 0) = false := beq_eq_false_iff_ne.mpr c22
                have c22b1 : (t162 != 0) = true := bne_iff_ne.mpr c22
                (first | rw [c22b0] | (simp only [i64_w, i32_w]; rw [c22b0]) | skip)
                have H' := Aside0.mk H
                clear H
                go_wp2
                go_meet
                case rel => exact ⟨_, (true), (by first | rfl | (simp; done) | (simp [*]; done)), H', ⟨by have := HJ10.out; first | omega | exact Nat.le_refl _⟩, ⟨by repeat (first | (with_reducible first | exact HB.out | apply below_alloc | apply pw_below_drewN | apply below_drew1) | exact HB.out)⟩⟩
            case rest =>
              clear HC19
              try clear c1
              try clear c2
              try clear p2
              try clear c5
              try clear p6
              try clear c7
              try clear c10
              try clear c12
              try clear c13
              try clear c15
              try clear c15b0
              try clear c15b1
              try clear c16
              try clear c19
              try clear c22
              try clear c22b0
              try clear c22b1
              try clear c23
              try clear c23b0
              try clear c23b1
              try clear p2
              try clear p6
              obtain ⟨kq, x90_18, rfl, HA, HJ18, HB⟩ := hcut
              cases kq with
              | zero => exact absurd HA.out (by simp [punnetlaw01_PlaneNorms.j1])
              | succ kj18 =>
                have H := HA.out
                clear HA
                simp only [punnetlaw01_PlaneNorms.j1] at H
                by_cases c24 : x90_18 = true
                · subst c24
                  have H1 : (some false) = some r := by rw [if_pos rfl] at H; exact H
                  clear H
                  have H := H1
                  clear H1
                  obtain rfl := Option.some.inj H
                  go_wp2
                  go_ret
                  exact ⟨by first | rfl | (simp [errW_none, errW_some] <;> rfl) | (simp [*, errW_none, errW_some] <;> rfl), by repeat (first | (with_reducible first | exact HB.out | apply below_alloc | apply pw_below_drewN | apply below_drew1) | exact HB.out)⟩
                · replace c24 := Bool.eq_false_iff.mpr c24
                  subst c24
                  have H1 : ((punnetref01_Parts.f (a2, a3) 1024).bind fun bt165 => (if bt165.2.2 = true then (if t158 > 1024 then (punnetlaw01_PlaneNorms.j2 kj18 (a0, a1) (a2, a3) t156 bt165.1 bt165.2.1 true) else (if t158 < (-1024) then (punnetlaw01_PlaneNorms.j2 kj18 (a0, a1) (a2, a3) t156 bt165.1 bt165.2.1 true) else (if t159 > 1024 then (punnetlaw01_PlaneNorms.j2 kj18 (a0, a1) (a2, a3) t156 bt165.1 bt165.2.1 true) else (punnetlaw01_PlaneNorms.j2 kj18 (a0, a1) (a2, a3) t156 bt165.1 bt165.2.1 (decide (t159 < (-1024))))))) else (punnetlaw01_PlaneNorms.j2 kj18 (a0, a1) (a2, a3) t156 bt165.1 bt165.2.1 true))) = some r := by rw [if_neg (show ¬ (false = true) by decide)] at H; exact H
                  clear H
                  have H := H1
                  clear H1
                  replace H := Option.bind_eq_some_iff.mp H
                  obtain ⟨⟨t165, t166, t167⟩, A250, H⟩ := H
                  replace H : (if t167 = true then (if t158 > 1024 then (punnetlaw01_PlaneNorms.j2 kj18 (a0, a1) (a2, a3) t156 t165 t166 true) else (if t158 < (-1024) then (punnetlaw01_PlaneNorms.j2 kj18 (a0, a1) (a2, a3) t156 t165 t166 true) else (if t159 > 1024 then (punnetlaw01_PlaneNorms.j2 kj18 (a0, a1) (a2, a3) t156 t165 t166 true) else (punnetlaw01_PlaneNorms.j2 kj18 (a0, a1) (a2, a3) t156 t165 t166 (decide (t159 < (-1024))))))) else (punnetlaw01_PlaneNorms.j2 kj18 (a0, a1) (a2, a3) t156 t165 t166 true)) = some r := H
                  have A25 := Aside0.mk A250
                  clear A250
                  have HC26 := Aside0.mk H
                  clear H
                  go_upto_region 15 with (first | ((with_reducible refine gate_callee (f := 13) rfl ?_); refine goesL_ (some 93) rfl rfl Try.func13 (by kernel_rfl) rfl #[.complex .f64 a2 a3, .int .i64 1024] rfl (by (try simp only [List.map_toArray, List.map_cons, List.map_nil]); first | done | rfl | (simp only [List.length_drop, List.length_take]; rfl)) ?_; (with_reducible refine (punnetref01_Parts.calls (a2, a3) 1024 t165 t166 t167 _ A25.out).mono ?_); rintro e w27 ⟨rfl, hb⟩; refine ⟨_, rfl, ?_⟩; have n0_ := Aside0.mk (below_step (by repeat (first | (with_reducible first | exact HB.out | apply below_alloc | apply pw_below_drewN | apply below_drew1) | exact HB.out)) hb); clear HB; have HB := n0_; clear n0_; (try clear hb); (try clear hb2); (try clear hk); (try clear hi)))
                  (try simp only [Act.put, List.setIfInBounds_toArray, List.set_cons_zero, List.set_cons_succ])
                  go_cut [114] (fun v114 wc => ∃ (kq : Nat) (x114_25 : Bool), v114 = .bool x114_25 ∧ Aside0 (punnetlaw01_PlaneNorms.j2 kq (a0, a1) (a2, a3) t156 t165 t166 x114_25 = some r) ∧ Aside0 (kq ≤ kj18) ∧ Aside0 (Below w.heap.size w wc))
                  case first =>
                    have H := HC26.out
                    clear HC26
                    by_cases c28 : t167 = true
                    · subst c28
                      have H1 : (if t158 > 1024 then (punnetlaw01_PlaneNorms.j2 kj18 (a0, a1) (a2, a3) t156 t165 t166 true) else (if t158 < (-1024) then (punnetlaw01_PlaneNorms.j2 kj18 (a0, a1) (a2, a3) t156 t165 t166 true) else (if t159 > 1024 then (punnetlaw01_PlaneNorms.j2 kj18 (a0, a1) (a2, a3) t156 t165 t166 true) else (punnetlaw01_PlaneNorms.j2 kj18 (a0, a1) (a2, a3) t156 t165 t166 (decide (t159 < (-1024))))))) = some r := by rw [if_pos rfl] at H; exact H
                      clear H
                      have H := H1
                      clear H1
                      by_cases c29 : t158 > 1024
                      · rw [if_pos c29] at H
                        have c29b0 : decide (1024 < t158) = true := decide_eq_true c29
                        clear c29
                        (first | rw [c29b0] | (simp only [i64_w, i32_w]; rw [c29b0]) | skip)
                        have H' := Aside0.mk H
                        clear H
                        go_wp2
                        go_meet
                        case rel => exact ⟨_, (true), (by first | rfl | (simp; done) | (simp [*]; done)), H', ⟨by have := HJ10.out; have := HJ18.out; first | omega | exact Nat.le_refl _⟩, ⟨by repeat (first | (with_reducible first | exact HB.out | apply below_alloc | apply pw_below_drewN | apply below_drew1) | exact HB.out)⟩⟩
                      · rw [if_neg c29] at H
                        have c29b0 : decide (1024 < t158) = false := decide_eq_false c29
                        clear c29
                        (first | rw [c29b0] | (simp only [i64_w, i32_w]; rw [c29b0]) | skip)
                        by_cases c30 : t158 < (-1024)
                        · rw [if_pos c30] at H
                          have c30b0 : decide (t158 < (-1024)) = true := decide_eq_true c30
                          clear c30
                          have H' := Aside0.mk H
                          clear H
                          go_wp2
                          go_meet
                          case rel => exact ⟨_, (true), (by first | rfl | (simp; done) | (simp [*]; done)), H', ⟨by have := HJ10.out; have := HJ18.out; first | omega | exact Nat.le_refl _⟩, ⟨by repeat (first | (with_reducible first | exact HB.out | apply below_alloc | apply pw_below_drewN | apply below_drew1) | exact HB.out)⟩⟩
                        · rw [if_neg c30] at H
                          have c30b0 : decide (t158 < (-1024)) = false := decide_eq_false c30
                          clear c30
                          by_cases c31 : t159 > 1024
                          · rw [if_pos c31] at H
                            have c31b0 : decide (1024 < t159) = true := decide_eq_true c31
                            clear c31
                            have H' := Aside0.mk H
                            clear H
                            go_wp2
                            go_meet
                            case rel => exact ⟨_, (true), (by first | rfl | (simp; done) | (simp [*]; done)), H', ⟨by have := HJ10.out; have := HJ18.out; first | omega | exact Nat.le_refl _⟩, ⟨by repeat (first | (with_reducible first | exact HB.out | apply below_alloc | apply pw_below_drewN | apply below_drew1) | exact HB.out)⟩⟩
                          · rw [if_neg c31] at H
                            have c31b0 : decide (1024 < t159) = false := decide_eq_false c31
                            clear c31
                            have H' := Aside0.mk H
                            clear H
                            go_wp2
                            go_meet
                            case rel => exact ⟨_, (decide (t159 < (-1024))), (by first | rfl | (simp; done) | (simp [*]; done)), H', ⟨by have := HJ10.out; have := HJ18.out; first | omega | exact Nat.le_refl _⟩, ⟨by repeat (first | (with_reducible first | exact HB.out | apply below_alloc | apply pw_below_drewN | apply below_drew1) | exact HB.out)⟩⟩
                    · replace c28 := Bool.eq_false_iff.mpr c28
                      subst c28
                      have H1 : (punnetlaw01_PlaneNorms.j2 kj18 (a0, a1) (a2, a3) t156 t165 t166 true) = some r := by rw [if_neg (show ¬ (false = true) by decide)] at H; exact H
                      clear H
                      have H := H1
                      clear H1
                      have H' := Aside0.mk H
                      clear H
                      go_wp2
                      go_meet
                      case rel => exact ⟨_, (true), (by first | rfl | (simp; done) | (simp [*]; done)), H', ⟨by have := HJ10.out; have := HJ18.out; first | omega | exact Nat.le_refl _⟩, ⟨by repeat (first | (with_reducible first | exact HB.out | apply below_alloc | apply pw_below_drewN | apply below_drew1) | exact HB.out)⟩⟩
                  case rest =>
                    clear HC26
                    try clear c1
                    try clear c2
                    try clear p2
                    try clear c3
                    try clear c5
                    try clear p6
                    try clear c7
                    try clear c10
                    try clear c12
                    try clear c13
                    try clear c15
                    try clear c15b0
                    try clear c15b1
                    try clear c16
                    try clear c19
                    try clear c22
                    try clear c22b0
                    try clear c22b1
                    try clear c23
                    try clear c23b0
                    try clear c23b1
                    try clear c24
                    try clear c28
                    try clear c29
                    try clear c29b0
                    try clear c30
                    try clear c30b0
                    try clear c31
                    try clear c31b0
                    try clear p2
                    try clear p6
                    obtain ⟨kq, x114_25, rfl, HA, HJ25, HB⟩ := hcut
                    cases kq with
                    | zero => exact absurd HA.out (by simp [punnetlaw01_PlaneNorms.j2])
                    | succ kj25 =>
                      have H := HA.out
                      clear HA
                      simp only [punnetlaw01_PlaneNorms.j2] at H
                      by_cases c32 : x114_25 = true
                      · subst c32
                        have H1 : (some true) = some r := by rw [if_pos rfl] at H; exact H
                        clear H
                        have H := H1
                        clear H1
                        obtain rfl := Option.some.inj H
                        go_wp2
                        go_ret
                        exact ⟨by first | rfl | (simp [errW_none, errW_some] <;> rfl) | (simp [*, errW_none, errW_some] <;> rfl), by repeat (first | (with_reducible first | exact HB.out | apply below_alloc | apply pw_below_drewN | apply below_drew1) | exact HB.out)⟩
                      · replace c32 := Bool.eq_false_iff.mpr c32
                        subst c32
                        have H1 : ((plane_Times.f (a0, a1) (a2, a3)).bind fun bt168 => ((plane_Norm.f bt168.1).bind fun bt170 => (if bt168.2 = 0 then (if bt170.2 = 0 then (some (bt170.1 == (wrap64 (t156 * (wrap64 ((wrap64 (t165 * t165)) + (wrap64 (t166 * t166)))))))) else (some false)) else (some false)))) = some r := by rw [if_neg (show ¬ (false = true) by decide)] at H; exact H
                        clear H
                        have H := H1
                        clear H1
                        replace H := Option.bind_eq_some_iff.mp H
                        obtain ⟨⟨t168, t169⟩, A330, H⟩ := H
                        replace H : ((plane_Norm.f t168).bind fun bt170 => (if t169 = 0 then (if bt170.2 = 0 then (some (bt170.1 == (wrap64 (t156 * (wrap64 ((wrap64 (t165 * t165)) + (wrap64 (t166 * t166)))))))) else (some false)) else (some false))) = some r := H
                        have A33 := Aside0.mk A330
                        clear A330
                        replace H := Option.bind_eq_some_iff.mp H
                        obtain ⟨⟨t170, t171⟩, A340, H⟩ := H
                        replace H : (if t169 = 0 then (if t171 = 0 then (some (t170 == (wrap64 (t156 * (wrap64 ((wrap64 (t165 * t165)) + (wrap64 (t166 * t166)))))))) else (some false)) else (some false)) = some r := H
                        have A34 := Aside0.mk A340
                        clear A340
                        by_cases c35 : t169 = 0
                        · rw [if_pos c35] at H
                          have c35b0 : (t169 == 0) = true := beq_iff_eq.mpr c35
                          have c35b1 : (t169 != 0) = false := bne_eq_false_iff_eq.mpr c35
                          clear c35
                          by_cases c36 : t171 = 0
                          · rw [if_pos c36] at H
                            have c36b0 : (t171 == 0) = true := beq_iff_eq.mpr c36
                            have c36b1 : (t171 != 0) = false := bne_eq_false_iff_eq.mpr c36
                            clear c36
                            obtain rfl := Option.some.inj H
                            go_wp2_with (first | ((with_reducible refine gate_callee (f := 21) rfl ?_); refine goesL_ (some 118) rfl rfl Try.func21 (by kernel_rfl) rfl #[.complex .f64 a0 a1, .complex .f64 a2 a3] rfl (by (try simp only [List.map_toArray, List.map_cons, List.map_nil]); first | done | rfl | (simp only [List.length_drop, List.length_take]; rfl)) ?_; (with_reducible refine (plane_Times.calls (a0, a1) (a2, a3) t168 t169 _ A33.out).mono ?_); rintro e w37 ⟨rfl, hb⟩; refine ⟨_, rfl, ?_⟩; have n0_ := Aside0.mk (below_step (by repeat (first | (with_reducible first | exact HB.out | apply below_alloc | apply pw_below_drewN | apply below_drew1) | exact HB.out)) hb); clear HB; have HB := n0_; clear n0_; (try clear hb); (try clear hb2); (try clear hk); (try clear hi)) | ((with_reducible refine gate_callee (f := 22) rfl ?_); refine goesL_ (some 123) rfl rfl Try.func22 (by kernel_rfl) rfl #[.complex .f64 t168.1 t168.2] rfl (by (try simp only [List.map_toArray, List.map_cons, List.map_nil]); first | done | rfl | (simp only [List.length_drop, List.length_take]; rfl)) ?_; (with_reducible refine (plane_Norm.calls t168 t170 t171 _ A34.out).mono ?_); rintro e w38 ⟨rfl, hb⟩; refine ⟨_, rfl, ?_⟩; have n0_ := Aside0.mk (below_step (by repeat (first | (with_reducible first | exact HB.out | apply below_alloc | apply pw_below_drewN | apply below_drew1) | exact HB.out)) hb); clear HB; have HB := n0_; clear n0_; (try clear hb); (try clear hb2); (try clear hk); (try clear hi)))
                            go_ret
                            exact ⟨by first | rfl | (simp [errW_none, errW_some] <;> rfl) | (simp [*, errW_none, errW_some] <;> rfl), by repeat (first | (with_reducible first | exact HB.out | apply below_alloc | apply pw_below_drewN | apply below_drew1) | exact HB.out)⟩
                          · rw [if_neg c36] at H
                            have c36b0 : (t171 == 0) = false := beq_eq_false_iff_ne.mpr c36
                            have c36b1 : (t171 != 0) = true := bne_iff_ne.mpr c36
                            obtain rfl := Option.some.inj H
                            go_wp2_with (first | ((with_reducible refine gate_callee (f := 21) rfl ?_); refine goesL_ (some 118) rfl rfl Try.func21 (by kernel_rfl) rfl #[.complex .f64 a0 a1, .complex .f64 a2 a3] rfl (by (try simp only [List.map_toArray, List.map_cons, List.map_nil]); first | done | rfl | (simp only [List.length_drop, List.length_take]; rfl)) ?_; (with_reducible refine (plane_Times.calls (a0, a1) (a2, a3) t168 t169 _ A33.out).mono ?_); rintro e w39 ⟨rfl, hb⟩; refine ⟨_, rfl, ?_⟩; have n0_ := Aside0.mk (below_step (by repeat (first | (with_reducible first | exact HB.out | apply below_alloc | apply pw_below_drewN | apply below_drew1) | exact HB.out)) hb); clear HB; have HB := n0_; clear n0_; (try clear hb); (try clear hb2); (try clear hk); (try clear hi)) | ((with_reducible refine gate_callee (f := 22) rfl ?_); refine goesL_ (some 123) rfl rfl Try.func22 (by kernel_rfl) rfl #[.complex .f64 t168.1 t168.2] rfl (by (try simp only [List.map_toArray, List.map_cons, List.map_nil]); first | done | rfl | (simp only [List.length_drop, List.length_take]; rfl)) ?_; (with_reducible refine (plane_Norm.calls t168 t170 t171 _ A34.out).mono ?_); rintro e w40 ⟨rfl, hb⟩; refine ⟨_, rfl, ?_⟩; have n0_ := Aside0.mk (below_step (by repeat (first | (with_reducible first | exact HB.out | apply below_alloc | apply pw_below_drewN | apply below_drew1) | exact HB.out)) hb); clear HB; have HB := n0_; clear n0_; (try clear hb); (try clear hb2); (try clear hk); (try clear hi)))
                            go_ret
                            exact ⟨by first | rfl | (simp [errW_none, errW_some] <;> rfl) | (simp [*, errW_none, errW_some] <;> rfl), by repeat (first | (with_reducible first | exact HB.out | apply below_alloc | apply pw_below_drewN | apply below_drew1) | exact HB.out)⟩
                        · rw [if_neg c35] at H
                          have c35b0 : (t169 == 0) = false := beq_eq_false_iff_ne.mpr c35
                          have c35b1 : (t169 != 0) = true := bne_iff_ne.mpr c35
                          obtain rfl := Option.some.inj H
                          go_wp2_with (first | ((with_reducible refine gate_callee (f := 21) rfl ?_); refine goesL_ (some 118) rfl rfl Try.func21 (by kernel_rfl) rfl #[.complex .f64 a0 a1, .complex .f64 a2 a3] rfl (by (try simp only [List.map_toArray, List.map_cons, List.map_nil]); first | done | rfl | (simp only [List.length_drop, List.length_take]; rfl)) ?_; (with_reducible refine (plane_Times.calls (a0, a1) (a2, a3) t168 t169 _ A33.out).mono ?_); rintro e w41 ⟨rfl, hb⟩; refine ⟨_, rfl, ?_⟩; have n0_ := Aside0.mk (below_step (by repeat (first | (with_reducible first | exact HB.out | apply below_alloc | apply pw_below_drewN | apply below_drew1) | exact HB.out)) hb); clear HB; have HB := n0_; clear n0_; (try clear hb); (try clear hb2); (try clear hk); (try clear hi)) | ((with_reducible refine gate_callee (f := 22) rfl ?_); refine goesL_ (some 123) rfl rfl Try.func22 (by kernel_rfl) rfl #[.complex .f64 t168.1 t168.2] rfl (by (try simp only [List.map_toArray, List.map_cons, List.map_nil]); first | done | rfl | (simp only [List.length_drop, List.length_take]; rfl)) ?_; (with_reducible refine (plane_Norm.calls t168 t170 t171 _ A34.out).mono ?_); rintro e w42 ⟨rfl, hb⟩; refine ⟨_, rfl, ?_⟩; have n0_ := Aside0.mk (below_step (by repeat (first | (with_reducible first | exact HB.out | apply below_alloc | apply pw_below_drewN | apply below_drew1) | exact HB.out)) hb); clear HB; have HB := n0_; clear n0_; (try clear hb); (try clear hb2); (try clear hk); (try clear hi)))
                          go_ret
                          exact ⟨by first | rfl | (simp [errW_none, errW_some] <;> rfl) | (simp [*, errW_none, errW_some] <;> rfl), by repeat (first | (with_reducible first | exact HB.out | apply below_alloc | apply pw_below_drewN | apply below_drew1) | exact HB.out)⟩
    · replace c10 := Bool.eq_false_iff.mpr c10
      subst c10
      have H1 : (if t156 = 0 then (some (t157 == 5)) else (some false)) = some r := by rw [if_neg (show ¬ (false = true) by decide)] at H; exact H
      clear H
      have H := H1
      clear H1
      by_cases c43 : t156 = 0
      · rw [if_pos c43] at H
        have c43b0 : (t156 == 0) = true := beq_iff_eq.mpr c43
        have c43b1 : (t156 != 0) = false := bne_eq_false_iff_eq.mpr c43
        clear c43
        obtain rfl := Option.some.inj H
        go_enter Try.func5, Try.ntmps5
        go_wp2_with (first | ((with_reducible refine gate_callee (f := 12) rfl ?_); refine goesL_ (some 35) rfl rfl Try.func12 (by kernel_rfl) rfl #[] rfl (by (try simp only [List.map_toArray, List.map_cons, List.map_nil]); first | done | rfl | (simp only [List.length_drop, List.length_take]; rfl)) ?_; (with_reducible refine (punnetlaw01_awake.calls  true _ A6.out).mono ?_); rintro e w44 ⟨rfl, hb⟩; refine ⟨_, rfl, ?_⟩; have n0_ := Aside0.mk (below_step (by repeat (first | (with_reducible first | exact HB.out | apply below_alloc | apply pw_below_drewN | apply below_drew1) | exact HB.out)) hb); clear HB; have HB := n0_; clear n0_; (try clear hb); (try clear hb2); (try clear hk); (try clear hi)) | ((with_reducible refine gate_callee (f := 22) rfl ?_); refine goesL_ (some 39) rfl rfl Try.func22 (by kernel_rfl) rfl #[.complex .f64 a0 a1] rfl (by (try simp only [List.map_toArray, List.map_cons, List.map_nil]); first | done | rfl | (simp only [List.length_drop, List.length_take]; rfl)) ?_; (with_reducible refine (plane_Norm.calls (a0, a1) t156 t157 _ A8.out).mono ?_); rintro e w45 ⟨rfl, hb⟩; refine ⟨_, rfl, ?_⟩; have n0_ := Aside0.mk (below_step (by repeat (first | (with_reducible first | exact HB.out | apply below_alloc | apply pw_below_drewN | apply below_drew1) | exact HB.out)) hb); clear HB; have HB := n0_; clear n0_; (try clear hb); (try clear hb2); (try clear hk); (try clear hi)) | ((with_reducible refine gate_callee (f := 13) rfl ?_); refine goesL_ (some 44) rfl rfl Try.func13 (by kernel_rfl) rfl #[.complex .f64 a0 a1, .int .i64 33554432] rfl (by (try simp only [List.map_toArray, List.map_cons, List.map_nil]); first | done | rfl | (simp only [List.length_drop, List.length_take]; rfl)) ?_; (with_reducible refine (punnetref01_Parts.calls (a0, a1) 33554432 t158 t159 false _ A9.out).mono ?_); rintro e w46 ⟨rfl, hb⟩; refine ⟨_, rfl, ?_⟩; have n0_ := Aside0.mk (below_step (by repeat (first | (with_reducible first | exact HB.out | apply below_alloc | apply pw_below_drewN | apply below_drew1) | exact HB.out)) hb); clear HB; have HB := n0_; clear n0_; (try clear hb); (try clear hb2); (try clear hk); (try clear hi)))
        go_ret
        exact ⟨by first | rfl | (simp [errW_none, errW_some] <;> rfl) | (simp [*, errW_none, errW_some] <;> rfl), by repeat (first | (with_reducible first | exact HB.out | apply below_alloc | apply pw_below_drewN | apply below_drew1) | exact HB.out)⟩
      · rw [if_neg c43] at H
        have c43b0 : (t156 == 0) = false := beq_eq_false_iff_ne.mpr c43
        have c43b1 : (t156 != 0) = true := bne_iff_ne.mpr c43
        obtain rfl := Option.some.inj H
        go_enter Try.func5, Try.ntmps5
        go_wp2_with (first | ((with_reducible refine gate_callee (f := 12) rfl ?_); refine goesL_ (some 35) rfl rfl Try.func12 (by kernel_rfl) rfl #[] rfl (by (try simp only [List.map_toArray, List.map_cons, List.map_nil]); first | done | rfl | (simp only [List.length_drop, List.length_take]; rfl)) ?_; (with_reducible refine (punnetlaw01_awake.calls  true _ A6.out).mono ?_); rintro e w47 ⟨rfl, hb⟩; refine ⟨_, rfl, ?_⟩; have n0_ := Aside0.mk (below_step (by repeat (first | (with_reducible first | exact HB.out | apply below_alloc | apply pw_below_drewN | apply below_drew1) | exact HB.out)) hb); clear HB; have HB := n0_; clear n0_; (try clear hb); (try clear hb2); (try clear hk); (try clear hi)) | ((with_reducible refine gate_callee (f := 22) rfl ?_); refine goesL_ (some 39) rfl rfl Try.func22 (by kernel_rfl) rfl #[.complex .f64 a0 a1] rfl (by (try simp only [List.map_toArray, List.map_cons, List.map_nil]); first | done | rfl | (simp only [List.length_drop, List.length_take]; rfl)) ?_; (with_reducible refine (plane_Norm.calls (a0, a1) t156 t157 _ A8.out).mono ?_); rintro e w48 ⟨rfl, hb⟩; refine ⟨_, rfl, ?_⟩; have n0_ := Aside0.mk (below_step (by repeat (first | (with_reducible first | exact HB.out | apply below_alloc | apply pw_below_drewN | apply below_drew1) | exact HB.out)) hb); clear HB; have HB := n0_; clear n0_; (try clear hb); (try clear hb2); (try clear hk); (try clear hi)) | ((with_reducible refine gate_callee (f := 13) rfl ?_); refine goesL_ (some 44) rfl rfl Try.func13 (by kernel_rfl) rfl #[.complex .f64 a0 a1, .int .i64 33554432] rfl (by (try simp only [List.map_toArray, List.map_cons, List.map_nil]); first | done | rfl | (simp only [List.length_drop, List.length_take]; rfl)) ?_; (with_reducible refine (punnetref01_Parts.calls (a0, a1) 33554432 t158 t159 false _ A9.out).mono ?_); rintro e w49 ⟨rfl, hb⟩; refine ⟨_, rfl, ?_⟩; have n0_ := Aside0.mk (below_step (by repeat (first | (with_reducible first | exact HB.out | apply below_alloc | apply pw_below_drewN | apply below_drew1) | exact HB.out)) hb); clear HB; have HB := n0_; clear n0_; (try clear hb); (try clear hb2); (try clear hk); (try clear hi)))
        go_ret
        exact ⟨by first | rfl | (simp [errW_none, errW_some] <;> rfl) | (simp [*, errW_none, errW_some] <;> rfl), by repeat (first | (with_reducible first | exact HB.out | apply below_alloc | apply pw_below_drewN | apply below_drew1) | exact HB.out)⟩
  · replace c7 := Bool.eq_false_iff.mpr c7
    subst c7
    have H1 : (some false) = some r := by rw [if_neg (show ¬ (false = true) by decide)] at H; exact H
    clear H
    have H := H1
    clear H1
    obtain rfl := Option.some.inj H
    go_enter Try.func5, Try.ntmps5
    go_wp2_with (first | ((with_reducible refine gate_callee (f := 12) rfl ?_); refine goesL_ (some 35) rfl rfl Try.func12 (by kernel_rfl) rfl #[] rfl (by (try simp only [List.map_toArray, List.map_cons, List.map_nil]); first | done | rfl | (simp only [List.length_drop, List.length_take]; rfl)) ?_; (with_reducible refine (punnetlaw01_awake.calls  false _ A6.out).mono ?_); rintro e w50 ⟨rfl, hb⟩; refine ⟨_, rfl, ?_⟩; have n0_ := Aside0.mk (below_step (by repeat (first | (with_reducible first | exact HB.out | apply below_alloc | apply pw_below_drewN | apply below_drew1) | exact HB.out)) hb); clear HB; have HB := n0_; clear n0_; (try clear hb); (try clear hb2); (try clear hk); (try clear hi)))
    go_ret
    exact ⟨by first | rfl | (simp [errW_none, errW_some] <;> rfl) | (simp [*, errW_none, errW_some] <;> rfl), by repeat (first | (with_reducible first | exact HB.out | apply below_alloc | apply pw_below_drewN | apply below_drew1) | exact HB.out)⟩

/-- THE ONE PURE STATEMENT of punnetlaw01_PlaneNorms: yours. -/
def punnetlaw01_PlaneNorms.Pure : Prop := ∀ (a0 : Nat) (a1 : Nat) (a2 : Nat) (a3 : Nat) (a4 : Int), (Lit.float .f64 a0).wf = true → (Lit.float .f64 a1).wf = true → (Lit.float .f64 a2).wf = true → (Lit.float .f64 a3).wf = true → (Lit.int .i64 a4).wf = true → ∃ k, punnetlaw01_PlaneNorms.f k a0 a1 a2 a3 a4 = some true
theorem punnetlaw01_PlaneNorms.walk (P : punnetlaw01_PlaneNorms.Pure) (a0 : Nat) (a1 : Nat) (a2 : Nat) (a3 : Nat) (a4 : Int) (w : World) (w0 : (Lit.float .f64 a0).wf = true) (w1 : (Lit.float .f64 a1).wf = true) (w2 : (Lit.float .f64 a2).wf = true) (w3 : (Lit.float .f64 a3).wf = true) (w4 : (Lit.int .i64 a4).wf = true) :
    Calls Try.prog 5 #[.float .f64 a0, .float .f64 a1, .float .f64 a2, .float .f64 a3, .int .i64 a4] w fun e w' => e = .returned (.bool true) ∧ Below w.heap.size w w' := by
  obtain ⟨k, h⟩ := P a0 a1 a2 a3 a4 w0 w1 w2 w3 w4
  refine (punnetlaw01_PlaneNorms.calls k a0 a1 a2 a3 a4 true w h).mono ?_
  rintro e w' ⟨rfl, hd⟩
  exact ⟨rfl, hd⟩

end Go.Proofs.Ytjaefcinaackeaa.Q
