/- A function of the program or a law's row comes to what the Lean function beside it says; no condition beyond those typed. Written by a program of this workplace; Lean checks it. -/
import Derived.Test.YtmmofckknopaaaaQ0
import Derived.Test.YtmmofckknopaaaaQ12
import Derived.Test.YtmmofckknopaaaaQ13
import Derived.Test.YtmmofckknopaaaaQ14
import Derived.Test.YtmmofckknopaaaaQ25
import Derived.Test.YtmmofckknopaaaaQ26
namespace Go.Proofs.Ytmmofckknopaaaa.Q
open Go.RowKit Go.Proofs.YtmmofckknopaaaaW.PrintWords Go.Proofs.YtmmofckknopaaaaW.PrintLast Go.Proofs.YtmmofckknopaaaaW.PrintMore
attribute [local go_sem] max2_int min2_int max_two min_two max_three min_three max_four min_four   -- for this text's walks alone
set_option linter.unusedVariables false
set_option linter.unusedSimpArgs false

/-! ### punnetlaw03_NumPrints: function 7 -/
mutual
def punnetlaw03_NumPrints.j0 : Nat → Int → ByteArray → ByteArray → Bool → Option (Bool)
  | 0, _, _, _, _ => none
  | k + 1, x0, x1, x2, x22 => if x22 = true then (some true) else ((num_Print.f x0).bind fun t221 => ((num_Read.f k t221).bind fun bt222 => ((punnetref03_Print.f k x0).bind fun t224 => (if t221.toList = t224.toList then (if bt222.1 = x0 then (punnetlaw03_NumPrints.j1 k x0 x1 x2 t221 (bt222.2 != 0)) else (punnetlaw03_NumPrints.j1 k x0 x1 x2 t221 true)) else (punnetlaw03_NumPrints.j1 k x0 x1 x2 t221 true)))))
def punnetlaw03_NumPrints.j1 : Nat → Int → ByteArray → ByteArray → ByteArray → Bool → Option (Bool)
  | 0, _, _, _, _, _ => none
  | k + 1, x0, x1, x2, x7, x42 => if x42 = true then (some false) else (if (x2.size : Int) > 0 then (if 0 < (x2.size : Int) then (if (bt x2 0) ≥ 48 then (if (bt x2 0) ≤ 57 then (some true) else (if x1.size + x7.size ≤ 9223372036854775807 then (if (x1 ++ x7).size + x2.size ≤ 9223372036854775807 then ((num_Scan.f k ((x1 ++ x7) ++ x2) (x1.size : Int)).bind fun bt225 => (if bt225.1 = x0 then (if bt225.2.1 = (wrap64 ((x1.size : Int) + (x7.size : Int))) then (some (bt225.2.2 == 0)) else (some false)) else (some false))) else (none)) else (none))) else (if x1.size + x7.size ≤ 9223372036854775807 then (if (x1 ++ x7).size + x2.size ≤ 9223372036854775807 then ((num_Scan.f k ((x1 ++ x7) ++ x2) (x1.size : Int)).bind fun bt228 => (if bt228.1 = x0 then (if bt228.2.1 = (wrap64 ((x1.size : Int) + (x7.size : Int))) then (some (bt228.2.2 == 0)) else (some false)) else (some false))) else (none)) else (none))) else (none)) else (if x1.size + x7.size ≤ 9223372036854775807 then (if (x1 ++ x7).size + x2.size ≤ 9223372036854775807 then ((num_Scan.f k ((x1 ++ x7) ++ x2) (x1.size : Int)).bind fun bt231 => (if bt231.1 = x0 then (if bt231.2.1 = (wrap64 ((x1.size : Int) + (x7.size : Int))) then (some (bt231.2.2 == 0)) else (some false)) else (some false))) else (none)) else (none)))
end
def punnetlaw03_NumPrints.f (k : Nat) (a0 : Int) (a1 : ByteArray) (a2 : ByteArray) : Option (Bool) := (punnetlaw03_awake.f k).bind fun t220 => (if t220 = true then (if (a1.size : Int) > 500 then (punnetlaw03_NumPrints.j0 k a0 a1 a2 true) else (punnetlaw03_NumPrints.j0 k a0 a1 a2 (decide ((a2.size : Int) > 500)))) else (some false))
theorem punnetlaw03_NumPrints.mono_l : ∀ k, (∀ y0 y1 y2 y3, LeO (punnetlaw03_NumPrints.j0 k y0 y1 y2 y3) (punnetlaw03_NumPrints.j0 (k + 1) y0 y1 y2 y3)) ∧ (∀ y0 y1 y2 y3 y4, LeO (punnetlaw03_NumPrints.j1 k y0 y1 y2 y3 y4) (punnetlaw03_NumPrints.j1 (k + 1) y0 y1 y2 y3 y4))
  | 0 => ⟨fun _ _ _ _ r h => by simp [punnetlaw03_NumPrints.j0] at h, fun _ _ _ _ _ r h => by simp [punnetlaw03_NumPrints.j1] at h⟩
  | k + 1 => by
    obtain ⟨ih0, ih1⟩ := punnetlaw03_NumPrints.mono_l k
    refine ⟨?_, ?_⟩
    · intro y0 y1 y2 y3
      unfold punnetlaw03_NumPrints.j0
      repeat' first
      | (with_reducible exact ih0 _ _ _ _)
      | (with_reducible exact ih1 _ _ _ _ _)
      | (with_reducible exact num_Read.mono _ _)
      | (with_reducible exact num_Scan.mono _ _ _)
      | (with_reducible exact punnetlaw03_awake.mono _)
      | (with_reducible exact punnetref03_Print.mono _ _)
      | (with_reducible exact LeO.refl _)
      | (with_reducible exact LeO.none _)
      | (with_reducible refine LeO.ite ?_ ?_)
      | (with_reducible refine LeO.bind ?_ (fun _ => ?_))
      | exact ih0 _ _ _ _
      | exact ih1 _ _ _ _ _
      | exact num_Read.mono _ _
      | exact num_Scan.mono _ _ _
      | exact punnetlaw03_awake.mono _
      | exact punnetref03_Print.mono _ _
      | exact LeO.none _
      | refine LeO.ite ?_ ?_
      | refine LeO.bind ?_ (fun _ => ?_)
    · intro y0 y1 y2 y3 y4
      unfold punnetlaw03_NumPrints.j1
      repeat' first
      | (with_reducible exact ih0 _ _ _ _)
      | (with_reducible exact ih1 _ _ _ _ _)
      | (with_reducible exact num_Read.mono _ _)
      | (with_reducible exact num_Scan.mono _ _ _)
      | (with_reducible exact punnetlaw03_awake.mono _)
      | (with_reducible exact punnetref03_Print.mono _ _)
      | (with_reducible exact LeO.refl _)
      | (with_reducible exact LeO.none _)
      | (with_reducible refine LeO.ite ?_ ?_)
      | (with_reducible refine LeO.bind ?_ (fun _ => ?_))
      | exact ih0 _ _ _ _
      | exact ih1 _ _ _ _ _
      | exact num_Read.mono _ _
      | exact num_Scan.mono _ _ _
      | exact punnetlaw03_awake.mono _
      | exact punnetref03_Print.mono _ _
      | exact LeO.none _
      | refine LeO.ite ?_ ?_
      | refine LeO.bind ?_ (fun _ => ?_)
theorem punnetlaw03_NumPrints.mono : ∀ a0 a1 a2 k, LeO (punnetlaw03_NumPrints.f k a0 a1 a2) (punnetlaw03_NumPrints.f (k + 1) a0 a1 a2) := by
  intro a0 a1 a2 k
  obtain ⟨ih0, ih1⟩ := punnetlaw03_NumPrints.mono_l k
  unfold punnetlaw03_NumPrints.f
  repeat' first
      | (with_reducible exact ih0 _ _ _ _)
      | (with_reducible exact ih1 _ _ _ _ _)
      | (with_reducible exact num_Read.mono _ _)
      | (with_reducible exact num_Scan.mono _ _ _)
      | (with_reducible exact punnetlaw03_awake.mono _)
      | (with_reducible exact punnetref03_Print.mono _ _)
      | (with_reducible exact LeO.refl _)
      | (with_reducible exact LeO.none _)
      | (with_reducible refine LeO.ite ?_ ?_)
      | (with_reducible refine LeO.bind ?_ (fun _ => ?_))
      | exact ih0 _ _ _ _
      | exact ih1 _ _ _ _ _
      | exact num_Read.mono _ _
      | exact num_Scan.mono _ _ _
      | exact punnetlaw03_awake.mono _
      | exact punnetref03_Print.mono _ _
      | exact LeO.none _
      | refine LeO.ite ?_ ?_
      | refine LeO.bind ?_ (fun _ => ?_)
set_option maxHeartbeats 8000000 in
set_option maxRecDepth 100000 in
theorem punnetlaw03_NumPrints.calls (k : Nat) (a0 : Int) (a1 : ByteArray) (a2 : ByteArray) (r : Bool) (w : World) (h : punnetlaw03_NumPrints.f k a0 a1 a2 = some r) :
    Calls Try.prog 7 #[.int .i64 a0, .string a1, .string a2] w fun e w' => e = .returned (.bool r) ∧ Below w.heap.size w w' := by
  have HB := Aside0.mk (Below.refl w.heap.size w)
  have H : ((punnetlaw03_awake.f k).bind fun t220 => (if t220 = true then (if (a1.size : Int) > 500 then (punnetlaw03_NumPrints.j0 k a0 a1 a2 true) else (punnetlaw03_NumPrints.j0 k a0 a1 a2 (decide ((a2.size : Int) > 500)))) else (some false))) = some r := h
  clear h
  replace H := Option.bind_eq_some_iff.mp H
  obtain ⟨t220, A40, H⟩ := H
  replace H : (if t220 = true then (if (a1.size : Int) > 500 then (punnetlaw03_NumPrints.j0 k a0 a1 a2 true) else (punnetlaw03_NumPrints.j0 k a0 a1 a2 (decide ((a2.size : Int) > 500)))) else (some false)) = some r := H
  have A4 := Aside0.mk A40
  clear A40
  by_cases c5 : t220 = true
  · subst c5
    have H1 : (if (a1.size : Int) > 500 then (punnetlaw03_NumPrints.j0 k a0 a1 a2 true) else (punnetlaw03_NumPrints.j0 k a0 a1 a2 (decide ((a2.size : Int) > 500)))) = some r := by rw [if_pos rfl] at H; exact H
    clear H
    have H := H1
    clear H1
    have HC6 := Aside0.mk H
    clear H
    go_enter Try.func7, Try.ntmps7
    go_upto_region 3 with (first | ((with_reducible refine gate_callee (f := 18) rfl ?_); refine goesL_ (some 13) rfl rfl Try.func18 (by kernel_rfl) rfl #[] rfl (by (try simp only [List.map_toArray, List.map_cons, List.map_nil]); first | done | rfl | (simp only [List.length_drop, List.length_take]; rfl)) ?_; (with_reducible refine (punnetlaw03_awake.calls k  true _ A4.out).mono ?_); rintro e w' ⟨rfl, ⟨nd, rfl⟩⟩; refine ⟨_, rfl, ?_⟩))
    (try simp only [Act.put, List.setIfInBounds_toArray, List.set_cons_zero, List.set_cons_succ])
    go_cut [22] (fun v22 wc => ∃ (kq : Nat) (x22_5 : Bool), v22 = .bool x22_5 ∧ Aside0 (punnetlaw03_NumPrints.j0 kq a0 a1 a2 x22_5 = some r) ∧ Aside0 (kq ≤ k) ∧ Aside0 (Below w.heap.size w wc))
    case first =>
      have H := HC6.out
      clear HC6
      by_cases c7 : (a1.size : Int) > 500
      · rw [if_pos c7] at H
        have c7b0 : decide (500 < (a1.size : Int)) = true := decide_eq_true c7
        have c7b1 : decide (500 < a1.size) = true := decide_eq_true (by omega)
        clear c7
        (first | rw [c7b0] | (simp only [i64_w, i32_w]; rw [c7b0]) | skip)
        have H' := Aside0.mk H
        clear H
        go_wp2
        go_meet
        case rel => exact ⟨_, (true), (by first | rfl | (simp; done) | (simp [*]; done)), H', ⟨by first | omega | exact Nat.le_refl _⟩, ⟨by repeat (first | (with_reducible first | exact HB.out | apply below_alloc | apply pw_below_drewN | apply below_drew1) | exact HB.out)⟩⟩
      · rw [if_neg c7] at H
        have c7b0 : decide (500 < (a1.size : Int)) = false := decide_eq_false c7
        have c7b1 : decide (500 < a1.size) = false := decide_eq_false (by omega)
        clear c7
        (first | rw [c7b0] | (simp only [i64_w, i32_w]; rw [c7b0]) | skip)
        have H' := Aside0.mk H
        clear H
        go_wp2
        go_meet
        case rel => exact ⟨_, (decide ((a2.size : Int) > 500)), (by first | rfl | (simp; done) | (simp [*]; done)), H', ⟨by first | omega | exact Nat.le_refl _⟩, ⟨by repeat (first | (with_reducible first | exact HB.out | apply below_alloc | apply pw_below_drewN | apply below_drew1) | exact HB.out)⟩⟩
    case rest =>
      clear HC6
      try clear c1
      try clear p2
      try clear c5
      try clear c7
      try clear c7b0
      try clear c7b1
      obtain ⟨kq, x22_5, rfl, HA, HJ5, HB⟩ := hcut
      cases kq with
      | zero => exact absurd HA.out (by simp [punnetlaw03_NumPrints.j0])
      | succ kj5 =>
        have H := HA.out
        clear HA
        simp only [punnetlaw03_NumPrints.j0] at H
        by_cases c8 : x22_5 = true
        · subst c8
          have H1 : (some true) = some r := by rw [if_pos rfl] at H; exact H
          clear H
          have H := H1
          clear H1
          obtain rfl := Option.some.inj H
          go_wp2
          go_ret
          exact ⟨by first | rfl | (simp [errW_none, errW_some] <;> rfl) | (simp [*, errW_none, errW_some] <;> rfl), by repeat (first | (with_reducible first | exact HB.out | apply below_alloc | apply pw_below_drewN | apply below_drew1) | exact HB.out)⟩
        · replace c8 := Bool.eq_false_iff.mpr c8
          subst c8
          have H1 : ((num_Print.f a0).bind fun t221 => ((num_Read.f kj5 t221).bind fun bt222 => ((punnetref03_Print.f kj5 a0).bind fun t224 => (if t221.toList = t224.toList then (if bt222.1 = a0 then (punnetlaw03_NumPrints.j1 kj5 a0 a1 a2 t221 (bt222.2 != 0)) else (punnetlaw03_NumPrints.j1 kj5 a0 a1 a2 t221 true)) else (punnetlaw03_NumPrints.j1 kj5 a0 a1 a2 t221 true))))) = some r := by rw [if_neg (show ¬ (false = true) by decide)] at H; exact H
          clear H
          have H := H1
          clear H1
          replace H := Option.bind_eq_some_iff.mp H
          obtain ⟨t221, A90, H⟩ := H
          replace H : ((num_Read.f kj5 t221).bind fun bt222 => ((punnetref03_Print.f kj5 a0).bind fun t224 => (if t221.toList = t224.toList then (if bt222.1 = a0 then (punnetlaw03_NumPrints.j1 kj5 a0 a1 a2 t221 (bt222.2 != 0)) else (punnetlaw03_NumPrints.j1 kj5 a0 a1 a2 t221 true)) else (punnetlaw03_NumPrints.j1 kj5 a0 a1 a2 t221 true)))) = some r := H
          have A9 := Aside0.mk A90
          clear A90
          replace H := Option.bind_eq_some_iff.mp H
          obtain ⟨⟨t222, t223⟩, A100, H⟩ := H
          replace H : ((punnetref03_Print.f kj5 a0).bind fun t224 => (if t221.toList = t224.toList then (if t222 = a0 then (punnetlaw03_NumPrints.j1 kj5 a0 a1 a2 t221 (t223 != 0)) else (punnetlaw03_NumPrints.j1 kj5 a0 a1 a2 t221 true)) else (punnetlaw03_NumPrints.j1 kj5 a0 a1 a2 t221 true))) = some r := H
          have A10 := Aside0.mk A100
          clear A100
          have HC11 := Aside0.mk H
          clear H
          go_upto_region 7 with (first | ((with_reducible refine gate_callee (f := 19) rfl ?_); refine goesL_ (some 24) rfl rfl Try.func19 (by kernel_rfl) rfl #[.int .i64 a0] rfl (by (try simp only [List.map_toArray, List.map_cons, List.map_nil]); first | done | rfl | (simp only [List.length_drop, List.length_take]; rfl)) ?_; (with_reducible refine (num_Print.calls a0 t221 _ A9.out).mono ?_); rintro e w12 ⟨rfl, hb⟩; refine ⟨_, rfl, ?_⟩; have n0_ := Aside0.mk (below_step (by repeat (first | (with_reducible first | exact HB.out | apply below_alloc | apply pw_below_drewN | apply below_drew1) | exact HB.out)) hb); clear HB; have HB := n0_; clear n0_; (try clear hb); (try clear hb2); (try clear hk); (try clear hi)) | ((with_reducible refine gate_callee (f := 26) rfl ?_); refine goesL_ (some 27) rfl rfl Try.func26 (by kernel_rfl) rfl #[.string t221] rfl (by (try simp only [List.map_toArray, List.map_cons, List.map_nil]); first | done | rfl | (simp only [List.length_drop, List.length_take]; rfl)) ?_; (with_reducible refine (num_Read.calls kj5 t221 t222 t223 _ A10.out).mono ?_); rintro e w13 ⟨rfl, hb⟩; refine ⟨_, rfl, ?_⟩; have n0_ := Aside0.mk (below_step (by repeat (first | (with_reducible first | exact HB.out | apply below_alloc | apply pw_below_drewN | apply below_drew1) | exact HB.out)) hb); clear HB; have HB := n0_; clear n0_; (try clear hb); (try clear hb2); (try clear hk); (try clear hi)))
          (try simp only [Act.put, List.setIfInBounds_toArray, List.set_cons_zero, List.set_cons_succ])
          go_cut [42] (fun v42 wc => ∃ (kq : Nat) (x42_10 : Bool), v42 = .bool x42_10 ∧ Aside0 (punnetlaw03_NumPrints.j1 kq a0 a1 a2 t221 x42_10 = some r) ∧ Aside0 (kq ≤ kj5) ∧ Aside0 (Below w.heap.size w wc))
          case first =>
            have H := HC11.out
            clear HC11
            replace H := Option.bind_eq_some_iff.mp H
            obtain ⟨t224, A140, H⟩ := H
            replace H : (if t221.toList = t224.toList then (if t222 = a0 then (punnetlaw03_NumPrints.j1 kj5 a0 a1 a2 t221 (t223 != 0)) else (punnetlaw03_NumPrints.j1 kj5 a0 a1 a2 t221 true)) else (punnetlaw03_NumPrints.j1 kj5 a0 a1 a2 t221 true)) = some r := H
            have A14 := Aside0.mk A140
            clear A140
            by_cases c15 : t221.toList = t224.toList
            · rw [if_pos c15] at H
              have c15b0 : (t221.toList == t224.toList) = true := beq_iff_eq.mpr c15
              have c15b1 : (t221.toList != t224.toList) = false := bne_eq_false_iff_eq.mpr c15
              clear c15
              (first | rw [c15b0] | (simp only [i64_w, i32_w]; rw [c15b0]) | skip)
              by_cases c16 : t222 = a0
              · rw [if_pos c16] at H
                have c16b0 : (t222 == a0) = true := beq_iff_eq.mpr c16
                have c16b1 : (t222 != a0) = false := bne_eq_false_iff_eq.mpr c16
                clear c16
                have H' := Aside0.mk H
                clear H
                go_wp2_with (first | ((with_reducible refine gate_callee (f := 27) rfl ?_); refine goesL_ (some 32) rfl rfl Try.func27 (by kernel_rfl) rfl #[.int .i64 a0] rfl (by (try simp only [List.map_toArray, List.map_cons, List.map_nil]); first | done | rfl | (simp only [List.length_drop, List.length_take]; rfl)) ?_; (with_reducible refine (punnetref03_Print.calls kj5 a0 t224 _ A14.out).mono ?_); rintro e w17 ⟨rfl, hb⟩; refine ⟨_, rfl, ?_⟩; have n0_ := Aside0.mk (below_step (by repeat (first | (with_reducible first | exact HB.out | apply below_alloc | apply pw_below_drewN | apply below_drew1) | exact HB.out)) hb); clear HB; have HB := n0_; clear n0_; (try clear hb); (try clear hb2); (try clear hk); (try clear hi)))
                go_meet
                case rel => exact ⟨_, ((t223 != 0)), (by first | rfl | (simp; done) | (simp [*]; done)), H', ⟨by have := HJ5.out; first | omega | exact Nat.le_refl _⟩, ⟨by repeat (first | (with_reducible first | exact HB.out | apply below_alloc | apply pw_below_drewN | apply below_drew1) | exact HB.out)⟩⟩
              · rw [if_neg c16] at H
                have c16b0 : (t222 == a0) = false := beq_eq_false_iff_ne.mpr c16
                have c16b1 : (t222 != a0) = true := bne_iff_ne.mpr c16
                have H' := Aside0.mk H
                clear H
                go_wp2_with (first | ((with_reducible refine gate_callee (f := 27) rfl ?_); refine goesL_ (some 32) rfl rfl Try.func27 (by kernel_rfl) rfl #[.int .i64 a0] rfl (by (try simp only [List.map_toArray, List.map_cons, List.map_nil]); first | done | rfl | (simp only [List.length_drop, List.length_take]; rfl)) ?_; (with_reducible refine (punnetref03_Print.calls kj5 a0 t224 _ A14.out).mono ?_); rintro e w18 ⟨rfl, hb⟩; refine ⟨_, rfl, ?_⟩; have n0_ := Aside0.mk (below_step (by repeat (first | (with_reducible first | exact HB.out | apply below_alloc | apply pw_below_drewN | apply below_drew1) | exact HB.out)) hb); clear HB; have HB := n0_; clear n0_; (try clear hb); (try clear hb2); (try clear hk); (try clear hi)))
                go_meet
                case rel => exact ⟨_, (true), (by first | rfl | (simp; done) | (simp [*]; done)), H', ⟨by have := HJ5.out; first | omega | exact Nat.le_refl _⟩, ⟨by repeat (first | (with_reducible first | exact HB.out | apply below_alloc | apply pw_below_drewN | apply below_drew1) | exact HB.out)⟩⟩
            · rw [if_neg c15] at H
              have c15b0 : (t221.toList == t224.toList) = false := beq_eq_false_iff_ne.mpr c15
              have c15b1 : (t221.toList != t224.toList) = true := bne_iff_ne.mpr c15
              (first | rw [c15b0] | (simp only [i64_w, i32_w]; rw [c15b0]) | skip)
              have H' := Aside0.mk H
              clear H
              go_wp2_with (first | ((with_reducible refine gate_callee (f := 27) rfl ?_); refine goesL_ (some 32) rfl rfl Try.func27 (by kernel_rfl) rfl #[.int .i64 a0] rfl (by (try simp only [List.map_toArray, List.map_cons, List.map_nil]); first | done | rfl | (simp only [List.length_drop, List.length_take]; rfl)) ?_; (with_reducible refine (punnetref03_Print.calls kj5 a0 t224 _ A14.out).mono ?_); rintro e w19 ⟨rfl, hb⟩; refine ⟨_, rfl, ?_⟩; have n0_ := Aside0.mk (below_step (by repeat (first | (with_reducible first | exact HB.out | apply below_alloc | apply pw_below_drewN | apply below_drew1) | exact HB.out)) hb); clear HB; have HB := n0_; clear n0_; (try clear hb); (try clear hb2); (try clear hk); (try clear hi)))
              go_meet
              case rel => exact ⟨_, (true), (by first | rfl | (simp; done) | (simp [*]; done)), H', ⟨by have := HJ5.out; first | omega | exact Nat.le_refl _⟩, ⟨by repeat (first | (with_reducible first | exact HB.out | apply below_alloc | apply pw_below_drewN | apply below_drew1) | exact HB.out)⟩⟩
          case rest =>
            clear HC11
            try clear c1
            try clear c2
            try clear p2
            try clear c5
            try clear c7
            try clear c7b0
            try clear c7b1
            try clear c8
            try clear c15
            try clear c15b0
            try clear c15b1
            try clear c16
            try clear c16b0
            try clear c16b1
            try clear c18
            try clear c19
            try clear p2
            obtain ⟨kq, x42_10, rfl, HA, HJ10, HB⟩ := hcut
            cases kq with
            | zero => exact absurd HA.out (by simp [punnetlaw03_NumPrints.j1])
            | succ kj10 =>
              have H := HA.out
              clear HA
              simp only [punnetlaw03_NumPrints.j1] at H
              by_cases c20 : x42_10 = true
              · subst c20
                have H1 : (some false) = some r := by rw [if_pos rfl] at H; exact H
                clear H
                have H := H1
                clear H1
                obtain rfl := Option.some.inj H
                go_wp2
                go_ret
                exact ⟨by first | rfl | (simp [errW_none, errW_some] <;> rfl) | (simp [*, errW_none, errW_some] <;> rfl), by repeat (first | (with_reducible first | exact HB.out | apply below_alloc | apply pw_below_drewN | apply below_drew1) | exact HB.out)⟩
              · replace c20 := Bool.eq_false_iff.mpr c20
                subst c20
                have H1 : (if (a2.size : Int) > 0 then (if 0 < (a2.size : Int) then (if (bt a2 0) ≥ 48 then (if (bt a2 0) ≤ 57 then (some true) else (if a1.size + t221.size ≤ 9223372036854775807 then (if (a1 ++ t221).size + a2.size ≤ 9223372036854775807 then ((num_Scan.f kj10 ((a1 ++ t221) ++ a2) (a1.size : Int)).bind fun bt225 => (if bt225.1 = a0 then (if bt225.2.1 = (wrap64 ((a1.size : Int) + (t221.size : Int))) then (some (bt225.2.2 == 0)) else (some false)) else (some false))) else (none)) else (none))) else (if a1.size + t221.size ≤ 9223372036854775807 then (if (a1 ++ t221).size + a2.size ≤ 9223372036854775807 then ((num_Scan.f kj10 ((a1 ++ t221) ++ a2) (a1.size : Int)).bind fun bt228 => (if bt228.1 = a0 then (if bt228.2.1 = (wrap64 ((a1.size : Int) + (t221.size : Int))) then (some (bt228.2.2 == 0)) else (some false)) else (some false))) else (none)) else (none))) else (none)) else (if a1.size + t221.size ≤ 9223372036854775807 then (if (a1 ++ t221).size + a2.size ≤ 9223372036854775807 then ((num_Scan.f kj10 ((a1 ++ t221) ++ a2) (a1.size : Int)).bind fun bt231 => (if bt231.1 = a0 then (if bt231.2.1 = (wrap64 ((a1.size : Int) + (t221.size : Int))) then (some (bt231.2.2 == 0)) else (some false)) else (some false))) else (none)) else (none))) = some r := by rw [if_neg (show ¬ (false = true) by decide)] at H; exact H
                clear H
                have H := H1
                clear H1
                by_cases c21 : (a2.size : Int) > 0
                · rw [if_pos c21] at H
                  have c21b0 : decide (0 < (a2.size : Int)) = true := decide_eq_true c21
                  have c21b1 : decide (0 < a2.size) = true := decide_eq_true (by omega)
                  clear c21
                  by_cases c22 : 0 < (a2.size : Int)
                  · rw [if_pos c22] at H
                    have c22b0 : decide (0 < (a2.size : Int)) = true := decide_eq_true c22
                    have c22b1 : decide (0 < a2.size) = true := decide_eq_true (by omega)
                    clear c22
                    by_cases c24 : (bt a2 0) ≥ 48
                    · rw [if_pos c24] at H
                      have c24b0 : decide (48 ≤ (bt a2 0)) = true := decide_eq_true c24
                      clear c24
                      by_cases c26 : (bt a2 0) ≤ 57
                      · rw [if_pos c26] at H
                        have c26b0 : decide ((bt a2 0) ≤ 57) = true := decide_eq_true c26
                        clear c26
                        obtain rfl := Option.some.inj H
                        have p23 : 0 ≤ (0 : Int) := (by omega)
                        have q23 : 0 < a2.size := (by have : (0 : Int) < (a2.size : Int) := of_decide_eq_true (by first | (with_reducible assumption) | assumption); omega)
                        have hx23 : ∀ h : 0 < a2.size, ((a2[0]'h).toNat : Int) = bt a2 0 := bt_at a2 0
                        clear p23
                        have qi23 : (0 < (a2.size : Int)) = True := eq_true (of_decide_eq_true (by first | (with_reducible assumption) | assumption))
                        replace q23 := eq_true q23
                        have p25 : 0 ≤ (0 : Int) := (by omega)
                        have q25 : 0 < a2.size := (by have : (0 : Int) < (a2.size : Int) := of_decide_eq_true (by first | (with_reducible assumption) | assumption); omega)
                        have hx25 : ∀ h : 0 < a2.size, ((a2[0]'h).toNat : Int) = bt a2 0 := bt_at a2 0
                        clear p25
                        have qi25 : (0 < (a2.size : Int)) = True := eq_true (of_decide_eq_true (by first | (with_reducible assumption) | assumption))
                        replace q25 := eq_true q25
                        go_wp2
                        go_ret
                        exact ⟨by first | rfl | (simp [errW_none, errW_some] <;> rfl) | (simp [*, errW_none, errW_some] <;> rfl), by repeat (first | (with_reducible first | exact HB.out | apply below_alloc | apply pw_below_drewN | apply below_drew1) | exact HB.out)⟩
                      · rw [if_neg c26] at H
                        have c26b0 : decide ((bt a2 0) ≤ 57) = false := decide_eq_false c26
                        clear c26
                        by_cases c27 : a1.size + t221.size ≤ 9223372036854775807
                        · rw [if_pos c27] at H
                          have c27b0 := eq_true c27
                          have c27b1 : decide (a1.size + t221.size ≤ 9223372036854775807) = true := decide_eq_true c27
                          try have c27b2 : (9223372036854775807 < a1.size + t221.size) = False := eq_false (Nat.not_lt.2 c27)
                          by_cases c28 : (a1 ++ t221).size + a2.size ≤ 9223372036854775807
                          · rw [if_pos c28] at H
                            have c28b0 := eq_true c28
                            have c28b1 : decide ((a1 ++ t221).size + a2.size ≤ 9223372036854775807) = true := decide_eq_true c28
                            try have c28b2 : (9223372036854775807 < (a1 ++ t221).size + a2.size) = False := eq_false (Nat.not_lt.2 c28)
                            replace H := Option.bind_eq_some_iff.mp H
                            obtain ⟨⟨t225, t226, t227⟩, A290, H⟩ := H
                            replace H : (if t225 = a0 then (if t226 = (wrap64 ((a1.size : Int) + (t221.size : Int))) then (some (t227 == 0)) else (some false)) else (some false)) = some r := H
                            have A29 := Aside0.mk A290
                            clear A290
                            by_cases c30 : t225 = a0
                            · rw [if_pos c30] at H
                              have c30b0 : (t225 == a0) = true := beq_iff_eq.mpr c30
                              have c30b1 : (t225 != a0) = false := bne_eq_false_iff_eq.mpr c30
                              clear c30
                              by_cases c31 : t226 = (wrap64 ((a1.size : Int) + (t221.size : Int)))
                              · rw [if_pos c31] at H
                                have c31b0 : (t226 == (wrap64 ((a1.size : Int) + (t221.size : Int)))) = true := beq_iff_eq.mpr c31
                                try (have c31b0w : (t226 == (((a1.size : Int) + (t221.size : Int)))) = true := by (rw [show ((a1.size : Int) + (t221.size : Int)) = wrap64 ((a1.size : Int) + (t221.size : Int)) from (by unfold wrap64; omega)]; exact c31b0))
                                have c31b1 : (t226 != (wrap64 ((a1.size : Int) + (t221.size : Int)))) = false := bne_eq_false_iff_eq.mpr c31
                                try (have c31b1w : (t226 != (((a1.size : Int) + (t221.size : Int)))) = false := by (rw [show ((a1.size : Int) + (t221.size : Int)) = wrap64 ((a1.size : Int) + (t221.size : Int)) from (by unfold wrap64; omega)]; exact c31b1))
                                clear c31
                                obtain rfl := Option.some.inj H
                                have p23 : 0 ≤ (0 : Int) := (by omega)
                                have q23 : 0 < a2.size := (by have : (0 : Int) < (a2.size : Int) := of_decide_eq_true (by first | (with_reducible assumption) | assumption); omega)
                                have hx23 : ∀ h : 0 < a2.size, ((a2[0]'h).toNat : Int) = bt a2 0 := bt_at a2 0
                                clear p23
                                have qi23 : (0 < (a2.size : Int)) = True := eq_true (of_decide_eq_true (by first | (with_reducible assumption) | assumption))
                                replace q23 := eq_true q23
                                have p25 : 0 ≤ (0 : Int) := (by omega)
                                have q25 : 0 < a2.size := (by have : (0 : Int) < (a2.size : Int) := of_decide_eq_true (by first | (with_reducible assumption) | assumption); omega)
                                have hx25 : ∀ h : 0 < a2.size, ((a2[0]'h).toNat : Int) = bt a2 0 := bt_at a2 0
                                clear p25
                                have qi25 : (0 < (a2.size : Int)) = True := eq_true (of_decide_eq_true (by first | (with_reducible assumption) | assumption))
                                replace q25 := eq_true q25
                                go_wp2_with (first | ((with_reducible refine gate_callee (f := 28) rfl ?_); refine goesL_ (some 64) rfl rfl Try.func28 (by kernel_rfl) rfl #[.string ((a1 ++ t221) ++ a2), .int .i64 (a1.size : Int)] rfl (by (try simp only [List.map_toArray, List.map_cons, List.map_nil]); first | done | rfl | (simp only [List.length_drop, List.length_take]; rfl)) ?_; (with_reducible refine (num_Scan.calls kj10 ((a1 ++ t221) ++ a2) (a1.size : Int) t225 t226 t227 _ A29.out).mono ?_); rintro e w' ⟨rfl, ⟨nd, rfl⟩⟩; refine ⟨_, rfl, ?_⟩))
                                go_ret
                                exact ⟨by first | rfl | (simp [errW_none, errW_some] <;> rfl) | (simp [*, errW_none, errW_some] <;> rfl), by repeat (first | (with_reducible first | exact HB.out | apply below_alloc | apply pw_below_drewN | apply below_drew1) | exact HB.out)⟩
                              · rw [if_neg c31] at H
                                have c31b0 : (t226 == (wrap64 ((a1.size : Int) + (t221.size : Int)))) = false := beq_eq_false_iff_ne.mpr c31
                                try (have c31b0w : (t226 == (((a1.size : Int) + (t221.size : Int)))) = false := by (rw [show ((a1.size : Int) + (t221.size : Int)) = wrap64 ((a1.size : Int) + (t221.size : Int)) from (by unfold wrap64; omega)]; exact c31b0))
                                have c31b1 : (t226 != (wrap64 ((a1.size : Int) + (t221.size : Int)))) = true := bne_iff_ne.mpr c31
                                try (have c31b1w : (t226 != (((a1.size : Int) + (t221.size : Int)))) = true := by (rw [show ((a1.size : Int) + (t221.size : Int)) = wrap64 ((a1.size : Int) + (t221.size : Int)) from (by unfold wrap64; omega)]; exact c31b1))
                                obtain rfl := Option.some.inj H
                                have p23 : 0 ≤ (0 : Int) := (by omega)
                                have q23 : 0 < a2.size := (by have : (0 : Int) < (a2.size : Int) := of_decide_eq_true (by first | (with_reducible assumption) | assumption); omega)
                                have hx23 : ∀ h : 0 < a2.size, ((a2[0]'h).toNat : Int) = bt a2 0 := bt_at a2 0
                                clear p23
                                have qi23 : (0 < (a2.size : Int)) = True := eq_true (of_decide_eq_true (by first | (with_reducible assumption) | assumption))
                                replace q23 := eq_true q23
                                have p25 : 0 ≤ (0 : Int) := (by omega)
                                have q25 : 0 < a2.size := (by have : (0 : Int) < (a2.size : Int) := of_decide_eq_true (by first | (with_reducible assumption) | assumption); omega)
                                have hx25 : ∀ h : 0 < a2.size, ((a2[0]'h).toNat : Int) = bt a2 0 := bt_at a2 0
                                clear p25
                                have qi25 : (0 < (a2.size : Int)) = True := eq_true (of_decide_eq_true (by first | (with_reducible assumption) | assumption))
                                replace q25 := eq_true q25
                                go_wp2_with (first | ((with_reducible refine gate_callee (f := 28) rfl ?_); refine goesL_ (some 64) rfl rfl Try.func28 (by kernel_rfl) rfl #[.string ((a1 ++ t221) ++ a2), .int .i64 (a1.size : Int)] rfl (by (try simp only [List.map_toArray, List.map_cons, List.map_nil]); first | done | rfl | (simp only [List.length_drop, List.length_take]; rfl)) ?_; (with_reducible refine (num_Scan.calls kj10 ((a1 ++ t221) ++ a2) (a1.size : Int) t225 t226 t227 _ A29.out).mono ?_); rintro e w' ⟨rfl, ⟨nd, rfl⟩⟩; refine ⟨_, rfl, ?_⟩))
                                go_ret
                                exact ⟨by first | rfl | (simp [errW_none, errW_some] <;> rfl) | (simp [*, errW_none, errW_some] <;> rfl), by repeat (first | (with_reducible first | exact HB.out | apply below_alloc | apply pw_below_drewN | apply below_drew1) | exact HB.out)⟩
                            · rw [if_neg c30] at H
                              have c30b0 : (t225 == a0) = false := beq_eq_false_iff_ne.mpr c30
                              have c30b1 : (t225 != a0) = true := bne_iff_ne.mpr c30
                              obtain rfl := Option.some.inj H
                              have p23 : 0 ≤ (0 : Int) := (by omega)
                              have q23 : 0 < a2.size := (by have : (0 : Int) < (a2.size : Int) := of_decide_eq_true (by first | (with_reducible assumption) | assumption); omega)
                              have hx23 : ∀ h : 0 < a2.size, ((a2[0]'h).toNat : Int) = bt a2 0 := bt_at a2 0
                              clear p23
                              have qi23 : (0 < (a2.size : Int)) = True := eq_true (of_decide_eq_true (by first | (with_reducible assumption) | assumption))
                              replace q23 := eq_true q23
                              have p25 : 0 ≤ (0 : Int) := (by omega)
                              have q25 : 0 < a2.size := (by have : (0 : Int) < (a2.size : Int) := of_decide_eq_true (by first | (with_reducible assumption) | assumption); omega)
                              have hx25 : ∀ h : 0 < a2.size, ((a2[0]'h).toNat : Int) = bt a2 0 := bt_at a2 0
                              clear p25
                              have qi25 : (0 < (a2.size : Int)) = True := eq_true (of_decide_eq_true (by first | (with_reducible assumption) | assumption))
                              replace q25 := eq_true q25
                              go_wp2_with (first | ((with_reducible refine gate_callee (f := 28) rfl ?_); refine goesL_ (some 64) rfl rfl Try.func28 (by kernel_rfl) rfl #[.string ((a1 ++ t221) ++ a2), .int .i64 (a1.size : Int)] rfl (by (try simp only [List.map_toArray, List.map_cons, List.map_nil]); first | done | rfl | (simp only [List.length_drop, List.length_take]; rfl)) ?_; (with_reducible refine (num_Scan.calls kj10 ((a1 ++ t221) ++ a2) (a1.size : Int) t225 t226 t227 _ A29.out).mono ?_); rintro e w' ⟨rfl, ⟨nd, rfl⟩⟩; refine ⟨_, rfl, ?_⟩))
                              go_ret
                              exact ⟨by first | rfl | (simp [errW_none, errW_some] <;> rfl) | (simp [*, errW_none, errW_some] <;> rfl), by repeat (first | (with_reducible first | exact HB.out | apply below_alloc | apply pw_below_drewN | apply below_drew1) | exact HB.out)⟩
                          · rw [if_neg c28] at H
                            exact absurd H (by simp)
                        · rw [if_neg c27] at H
                          exact absurd H (by simp)
                    · rw [if_neg c24] at H
                      have c24b0 : decide (48 ≤ (bt a2 0)) = false := decide_eq_false c24
                      clear c24
                      by_cases c32 : a1.size + t221.size ≤ 9223372036854775807
                      · rw [if_pos c32] at H
                        have c32b0 := eq_true c32
                        have c32b1 : decide (a1.size + t221.size ≤ 9223372036854775807) = true := decide_eq_true c32
                        try have c32b2 : (9223372036854775807 < a1.size + t221.size) = False := eq_false (Nat.not_lt.2 c32)
                        by_cases c33 : (a1 ++ t221).size + a2.size ≤ 9223372036854775807
                        · rw [if_pos c33] at H
                          have c33b0 := eq_true c33
                          have c33b1 : decide ((a1 ++ t221).size + a2.size ≤ 9223372036854775807) = true := decide_eq_true c33
                          try have c33b2 : (9223372036854775807 < (a1 ++ t221).size + a2.size) = False := eq_false (Nat.not_lt.2 c33)
                          replace H := Option.bind_eq_some_iff.mp H
                          obtain ⟨⟨t228, t229, t230⟩, A340, H⟩ := H
                          replace H : (if t228 = a0 then (if t229 = (wrap64 ((a1.size : Int) + (t221.size : Int))) then (some (t230 == 0)) else (some false)) else (some false)) = some r := H
                          have A34 := Aside0.mk A340
                          clear A340
                          by_cases c35 : t228 = a0
                          · rw [if_pos c35] at H
                            have c35b0 : (t228 == a0) = true := beq_iff_eq.mpr c35
                            have c35b1 : (t228 != a0) = false := bne_eq_false_iff_eq.mpr c35
                            clear c35
                            by_cases c36 : t229 = (wrap64 ((a1.size : Int) + (t221.size : Int)))
                            · rw [if_pos c36] at H
                              have c36b0 : (t229 == (wrap64 ((a1.size : Int) + (t221.size : Int)))) = true := beq_iff_eq.mpr c36
                              try (have c36b0w : (t229 == (((a1.size : Int) + (t221.size : Int)))) = true := by (rw [show ((a1.size : Int) + (t221.size : Int)) = wrap64 ((a1.size : Int) + (t221.size : Int)) from (by unfold wrap64; omega)]; exact c36b0))
                              have c36b1 : (t229 != (wrap64 ((a1.size : Int) + (t221.size : Int)))) = false := bne_eq_false_iff_eq.mpr c36
                              try (have c36b1w : (t229 != (((a1.size : Int) + (t221.size : Int)))) = false := by (rw [show ((a1.size : Int) + (t221.size : Int)) = wrap64 ((a1.size : Int) + (t221.size : Int)) from (by unfold wrap64; omega)]; exact c36b1))
                              clear c36
                              obtain rfl := Option.some.inj H
                              have p23 : 0 ≤ (0 : Int) := (by omega)
                              have q23 : 0 < a2.size := (by have : (0 : Int) < (a2.size : Int) := of_decide_eq_true (by first | (with_reducible assumption) | assumption); omega)
                              have hx23 : ∀ h : 0 < a2.size, ((a2[0]'h).toNat : Int) = bt a2 0 := bt_at a2 0
                              clear p23
                              have qi23 : (0 < (a2.size : Int)) = True := eq_true (of_decide_eq_true (by first | (with_reducible assumption) | assumption))
                              replace q23 := eq_true q23
                              go_wp2_with (first | ((with_reducible refine gate_callee (f := 28) rfl ?_); refine goesL_ (some 64) rfl rfl Try.func28 (by kernel_rfl) rfl #[.string ((a1 ++ t221) ++ a2), .int .i64 (a1.size : Int)] rfl (by (try simp only [List.map_toArray, List.map_cons, List.map_nil]); first | done | rfl | (simp only [List.length_drop, List.length_take]; rfl)) ?_; (with_reducible refine (num_Scan.calls kj10 ((a1 ++ t221) ++ a2) (a1.size : Int) t228 t229 t230 _ A34.out).mono ?_); rintro e w' ⟨rfl, ⟨nd, rfl⟩⟩; refine ⟨_, rfl, ?_⟩))
                              go_ret
                              exact ⟨by first | rfl | (simp [errW_none, errW_some] <;> rfl) | (simp [*, errW_none, errW_some] <;> rfl), by repeat (first | (with_reducible first | exact HB.out | apply below_alloc | apply pw_below_drewN | apply below_drew1) | exact HB.out)⟩
                            · rw [if_neg c36] at H
                              have c36b0 : (t229 == (wrap64 ((a1.size : Int) + (t221.size : Int)))) = false := beq_eq_false_iff_ne.mpr c36
                              try (have c36b0w : (t229 == (((a1.size : Int) + (t221.size : Int)))) = false := by (rw [show ((a1.size : Int) + (t221.size : Int)) = wrap64 ((a1.size : Int) + (t221.size : Int)) from (by unfold wrap64; omega)]; exact c36b0))
                              have c36b1 : (t229 != (wrap64 ((a1.size : Int) + (t221.size : Int)))) = true := bne_iff_ne.mpr c36
                              try (have c36b1w : (t229 != (((a1.size : Int) + (t221.size : Int)))) = true := by (rw [show ((a1.size : Int) + (t221.size : Int)) = wrap64 ((a1.size : Int) + (t221.size : Int)) from (by unfold wrap64; omega)]; exact c36b1))
                              obtain rfl := Option.some.inj H
                              have p23 : 0 ≤ (0 : Int) := (by omega)
                              have q23 : 0 < a2.size := (by have : (0 : Int) < (a2.size : Int) := of_decide_eq_true (by first | (with_reducible assumption) | assumption); omega)
                              have hx23 : ∀ h : 0 < a2.size, ((a2[0]'h).toNat : Int) = bt a2 0 := bt_at a2 0
                              clear p23
                              have qi23 : (0 < (a2.size : Int)) = True := eq_true (of_decide_eq_true (by first | (with_reducible assumption) | assumption))
                              replace q23 := eq_true q23
                              go_wp2_with (first | ((with_reducible refine gate_callee (f := 28) rfl ?_); refine goesL_ (some 64) rfl rfl Try.func28 (by kernel_rfl) rfl #[.string ((a1 ++ t221) ++ a2), .int .i64 (a1.size : Int)] rfl (by (try simp only [List.map_toArray, List.map_cons, List.map_nil]); first | done | rfl | (simp only [List.length_drop, List.length_take]; rfl)) ?_; (with_reducible refine (num_Scan.calls kj10 ((a1 ++ t221) ++ a2) (a1.size : Int) t228 t229 t230 _ A34.out).mono ?_); rintro e w' ⟨rfl, ⟨nd, rfl⟩⟩; refine ⟨_, rfl, ?_⟩))
                              go_ret
                              exact ⟨by first | rfl | (simp [errW_none, errW_some] <;> rfl) | (simp [*, errW_none, errW_some] <;> rfl), by repeat (first | (with_reducible first | exact HB.out | apply below_alloc | apply pw_below_drewN | apply below_drew1) | exact HB.out)⟩
                          · rw [if_neg c35] at H
                            have c35b0 : (t228 == a0) = false := beq_eq_false_iff_ne.mpr c35
                            have c35b1 : (t228 != a0) = true := bne_iff_ne.mpr c35
                            obtain rfl := Option.some.inj H
                            have p23 : 0 ≤ (0 : Int) := (by omega)
                            have q23 : 0 < a2.size := (by have : (0 : Int) < (a2.size : Int) := of_decide_eq_true (by first | (with_reducible assumption) | assumption); omega)
                            have hx23 : ∀ h : 0 < a2.size, ((a2[0]'h).toNat : Int) = bt a2 0 := bt_at a2 0
                            clear p23
                            have qi23 : (0 < (a2.size : Int)) = True := eq_true (of_decide_eq_true (by first | (with_reducible assumption) | assumption))
                            replace q23 := eq_true q23
                            go_wp2_with (first | ((with_reducible refine gate_callee (f := 28) rfl ?_); refine goesL_ (some 64) rfl rfl Try.func28 (by kernel_rfl) rfl #[.string ((a1 ++ t221) ++ a2), .int .i64 (a1.size : Int)] rfl (by (try simp only [List.map_toArray, List.map_cons, List.map_nil]); first | done | rfl | (simp only [List.length_drop, List.length_take]; rfl)) ?_; (with_reducible refine (num_Scan.calls kj10 ((a1 ++ t221) ++ a2) (a1.size : Int) t228 t229 t230 _ A34.out).mono ?_); rintro e w' ⟨rfl, ⟨nd, rfl⟩⟩; refine ⟨_, rfl, ?_⟩))
                            go_ret
                            exact ⟨by first | rfl | (simp [errW_none, errW_some] <;> rfl) | (simp [*, errW_none, errW_some] <;> rfl), by repeat (first | (with_reducible first | exact HB.out | apply below_alloc | apply pw_below_drewN | apply below_drew1) | exact HB.out)⟩
                        · rw [if_neg c33] at H
                          exact absurd H (by simp)
                      · rw [if_neg c32] at H
                        exact absurd H (by simp)
                  · rw [if_neg c22] at H
                    exact absurd H (by simp)
                · rw [if_neg c21] at H
                  have c21b0 : decide (0 < (a2.size : Int)) = false := decide_eq_false c21
                  have c21b1 : decide (0 < a2.size) = false := decide_eq_false (by omega)
                  clear c21
                  by_cases c37 : a1.size + t221.size ≤ 9223372036854775807
                  · rw [if_pos c37] at H
                    have c37b0 := eq_true c37
                    have c37b1 : decide (a1.size + t221.size ≤ 9223372036854775807) = true := decide_eq_true c37
                    try have c37b2 : (9223372036854775807 < a1.size + t221.size) = False := eq_false (Nat.not_lt.2 c37)
                    by_cases c38 : (a1 ++ t221).size + a2.size ≤ 9223372036854775807
                    · rw [if_pos c38] at H
                      have c38b0 := eq_true c38
                      have c38b1 : decide ((a1 ++ t221).size + a2.size ≤ 9223372036854775807) = true := decide_eq_true c38
                      try have c38b2 : (9223372036854775807 < (a1 ++ t221).size + a2.size) = False := eq_false (Nat.not_lt.2 c38)
                      replace H := Option.bind_eq_some_iff.mp H
                      obtain ⟨⟨t231, t232, t233⟩, A390, H⟩ := H
                      replace H : (if t231 = a0 then (if t232 = (wrap64 ((a1.size : Int) + (t221.size : Int))) then (some (t233 == 0)) else (some false)) else (some false)) = some r := H
                      have A39 := Aside0.mk A390
                      clear A390
                      by_cases c40 : t231 = a0
                      · rw [if_pos c40] at H
                        have c40b0 : (t231 == a0) = true := beq_iff_eq.mpr c40
                        have c40b1 : (t231 != a0) = false := bne_eq_false_iff_eq.mpr c40
                        clear c40
                        by_cases c41 : t232 = (wrap64 ((a1.size : Int) + (t221.size : Int)))
                        · rw [if_pos c41] at H
                          have c41b0 : (t232 == (wrap64 ((a1.size : Int) + (t221.size : Int)))) = true := beq_iff_eq.mpr c41
                          try (have c41b0w : (t232 == (((a1.size : Int) + (t221.size : Int)))) = true := by (rw [show ((a1.size : Int) + (t221.size : Int)) = wrap64 ((a1.size : Int) + (t221.size : Int)) from (by unfold wrap64; omega)]; exact c41b0))
                          have c41b1 : (t232 != (wrap64 ((a1.size : Int) + (t221.size : Int)))) = false := bne_eq_false_iff_eq.mpr c41
                          try (have c41b1w : (t232 != (((a1.size : Int) + (t221.size : Int)))) = false := by (rw [show ((a1.size : Int) + (t221.size : Int)) = wrap64 ((a1.size : Int) + (t221.size : Int)) from (by unfold wrap64; omega)]; exact c41b1))
                          clear c41
                          obtain rfl := Option.some.inj H
                          go_wp2_with (first | ((with_reducible refine gate_callee (f := 28) rfl ?_); refine goesL_ (some 64) rfl rfl Try.func28 (by kernel_rfl) rfl #[.string ((a1 ++ t221) ++ a2), .int .i64 (a1.size : Int)] rfl (by (try simp only [List.map_toArray, List.map_cons, List.map_nil]); first | done | rfl | (simp only [List.length_drop, List.length_take]; rfl)) ?_; (with_reducible refine (num_Scan.calls kj10 ((a1 ++ t221) ++ a2) (a1.size : Int) t231 t232 t233 _ A39.out).mono ?_); rintro e w' ⟨rfl, ⟨nd, rfl⟩⟩; refine ⟨_, rfl, ?_⟩))
                          go_ret
                          exact ⟨by first | rfl | (simp [errW_none, errW_some] <;> rfl) | (simp [*, errW_none, errW_some] <;> rfl), by repeat (first | (with_reducible first | exact HB.out | apply below_alloc | apply pw_below_drewN | apply below_drew1) | exact HB.out)⟩
                        · rw [if_neg c41] at H
                          have c41b0 : (t232 == (wrap64 ((a1.size : Int) + (t221.size : Int)))) = false := beq_eq_false_iff_ne.mpr c41
                          try (have c41b0w : (t232 == (((a1.size : Int) + (t221.size : Int)))) = false := by (rw [show ((a1.size : Int) + (t221.size : Int)) = wrap64 ((a1.size : Int) + (t221.size : Int)) from (by unfold wrap64; omega)]; exact c41b0))
                          have c41b1 : (t232 != (wrap64 ((a1.size : Int) + (t221.size : Int)))) = true := bne_iff_ne.mpr c41
                          try (have c41b1w : (t232 != (((a1.size : Int) + (t221.size : Int)))) = true := by (rw [show ((a1.size : Int) + (t221.size : Int)) = wrap64 ((a1.size : Int) + (t221.size : Int)) from (by unfold wrap64; omega)]; exact c41b1))
                          obtain rfl := Option.some.inj H
                          go_wp2_with (first | ((with_reducible refine gate_callee (f := 28) rfl ?_); refine goesL_ (some 64) rfl rfl Try.func28 (by kernel_rfl) rfl #[.string ((a1 ++ t221) ++ a2), .int .i64 (a1.size : Int)] rfl (by (try simp only [List.map_toArray, List.map_cons, List.map_nil]); first | done | rfl | (simp only [List.length_drop, List.length_take]; rfl)) ?_; (with_reducible refine (num_Scan.calls kj10 ((a1 ++ t221) ++ a2) (a1.size : Int) t231 t232 t233 _ A39.out).mono ?_); rintro e w' ⟨rfl, ⟨nd, rfl⟩⟩; refine ⟨_, rfl, ?_⟩))
                          go_ret
                          exact ⟨by first | rfl | (simp [errW_none, errW_some] <;> rfl) | (simp [*, errW_none, errW_some] <;> rfl), by repeat (first | (with_reducible first | exact HB.out | apply below_alloc | apply pw_below_drewN | apply below_drew1) | exact HB.out)⟩
                      · rw [if_neg c40] at H
                        have c40b0 : (t231 == a0) = false := beq_eq_false_iff_ne.mpr c40
                        have c40b1 : (t231 != a0) = true := bne_iff_ne.mpr c40
                        obtain rfl := Option.some.inj H
                        go_wp2_with (first | ((with_reducible refine gate_callee (f := 28) rfl ?_); refine goesL_ (some 64) rfl rfl Try.func28 (by kernel_rfl) rfl #[.string ((a1 ++ t221) ++ a2), .int .i64 (a1.size : Int)] rfl (by (try simp only [List.map_toArray, List.map_cons, List.map_nil]); first | done | rfl | (simp only [List.length_drop, List.length_take]; rfl)) ?_; (with_reducible refine (num_Scan.calls kj10 ((a1 ++ t221) ++ a2) (a1.size : Int) t231 t232 t233 _ A39.out).mono ?_); rintro e w' ⟨rfl, ⟨nd, rfl⟩⟩; refine ⟨_, rfl, ?_⟩))
                        go_ret
                        exact ⟨by first | rfl | (simp [errW_none, errW_some] <;> rfl) | (simp [*, errW_none, errW_some] <;> rfl), by repeat (first | (with_reducible first | exact HB.out | apply below_alloc | apply pw_below_drewN | apply below_drew1) | exact HB.out)⟩
                    · rw [if_neg c38] at H
                      exact absurd H (by simp)
                  · rw [if_neg c37] at H
                    exact absurd H (by simp)
  · replace c5 := Bool.eq_false_iff.mpr c5
    subst c5
    have H1 : (some false) = some r := by rw [if_neg (show ¬ (false = true) by decide)] at H; exact H
    clear H
    have H := H1
    clear H1
    obtain rfl := Option.some.inj H
    go_enter Try.func7, Try.ntmps7
    go_wp2_with (first | ((with_reducible refine gate_callee (f := 18) rfl ?_); refine goesL_ (some 13) rfl rfl Try.func18 (by kernel_rfl) rfl #[] rfl (by (try simp only [List.map_toArray, List.map_cons, List.map_nil]); first | done | rfl | (simp only [List.length_drop, List.length_take]; rfl)) ?_; (with_reducible refine (punnetlaw03_awake.calls k  false _ A4.out).mono ?_); rintro e w' ⟨rfl, ⟨nd, rfl⟩⟩; refine ⟨_, rfl, ?_⟩))
    go_ret
    exact ⟨by first | rfl | (simp [errW_none, errW_some] <;> rfl) | (simp [*, errW_none, errW_some] <;> rfl), by repeat (first | (with_reducible first | exact HB.out | apply below_alloc | apply pw_below_drewN | apply below_drew1) | exact HB.out)⟩

/-- THE ONE PURE STATEMENT of punnetlaw03_NumPrints: yours. -/
def punnetlaw03_NumPrints.Pure : Prop := ∀ (a0 : Int) (a1 : ByteArray) (a2 : ByteArray), (Lit.int .i64 a0).wf = true → a1.size ≤ 140737488351232 → a2.size ≤ 140737488351232 → ∃ k, punnetlaw03_NumPrints.f k a0 a1 a2 = some true
theorem punnetlaw03_NumPrints.walk (P : punnetlaw03_NumPrints.Pure) (a0 : Int) (a1 : ByteArray) (a2 : ByteArray) (w : World) (w0 : (Lit.int .i64 a0).wf = true) (w1 : a1.size ≤ 140737488351232) (w2 : a2.size ≤ 140737488351232) :
    Calls Try.prog 7 #[.int .i64 a0, .string a1, .string a2] w fun e w' => e = .returned (.bool true) ∧ Below w.heap.size w w' := by
  obtain ⟨k, h⟩ := P a0 a1 a2 w0 w1 w2
  refine (punnetlaw03_NumPrints.calls k a0 a1 a2 true w h).mono ?_
  rintro e w' ⟨rfl, hd⟩
  exact ⟨rfl, hd⟩

end Go.Proofs.Ytmmofckknopaaaa.Q
