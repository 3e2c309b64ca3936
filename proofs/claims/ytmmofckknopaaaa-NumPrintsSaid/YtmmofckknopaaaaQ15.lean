/- A function of the program or a law's row comes to what the Lean function beside it says; no condition beyond those typed. Written by a program of this workplace; Lean checks it. -/
import Derived.Test.YtmmofckknopaaaaQ0
import Derived.Test.YtmmofckknopaaaaQ13
import Derived.Test.YtmmofckknopaaaaQ14
namespace Go.Proofs.Ytmmofckknopaaaa.Q
open Go.RowKit Go.Proofs.YtmmofckknopaaaaW.PrintWords Go.Proofs.YtmmofckknopaaaaW.PrintLast Go.Proofs.YtmmofckknopaaaaW.PrintMore
attribute [local go_sem] max2_int min2_int max_two min_two max_three min_three max_four min_four   -- for this text's walks alone
set_option linter.unusedVariables false
set_option linter.unusedSimpArgs false

/-! ### punnetlaw03_NumOrders: function 4 -/
def punnetlaw03_NumOrders.j0 : Nat → Int → Int → Bool → Option (Bool)
  | 0, _, _, _ => none
  | k + 1, x0, x1, x14 => if x14 = true then ((num_Print.f x0).bind fun t143 => (if (t143.size : Int) > 0 then ((num_Print.f x0).bind fun t144 => (if 0 < (t144.size : Int) then (some (((bt t144 0) == 45) == (decide (x0 < 0)))) else (none))) else (some false))) else ((num_Print.f x0).bind fun t145 => ((num_Print.f x1).bind fun t146 => (if (t145.size : Int) = (t146.size : Int) then (some ((Op.bytesLess t145.toList t146.toList) == (decide (x0 < x1)))) else (some ((decide ((t145.size : Int) < (t146.size : Int))) == (decide (x0 < x1)))))))
def punnetlaw03_NumOrders.f (k : Nat) (a0 : Int) (a1 : Int) : Option (Bool) := (punnetlaw03_awake.f k).bind fun t142 => (if t142 = true then (if a0 < 0 then (punnetlaw03_NumOrders.j0 k a0 a1 true) else (punnetlaw03_NumOrders.j0 k a0 a1 (decide (a1 < 0)))) else (some false))
theorem punnetlaw03_NumOrders.mono_l : ∀ k, (∀ y0 y1 y2, LeO (punnetlaw03_NumOrders.j0 k y0 y1 y2) (punnetlaw03_NumOrders.j0 (k + 1) y0 y1 y2))
  | 0 => fun _ _ _ r h => by simp [punnetlaw03_NumOrders.j0] at h
  | k + 1 => by
    have ih0 := punnetlaw03_NumOrders.mono_l k
    · intro y0 y1 y2
      unfold punnetlaw03_NumOrders.j0
      repeat' first
      | (with_reducible exact ih0 _ _ _)
      | (with_reducible exact punnetlaw03_awake.mono _)
      | (with_reducible exact LeO.refl _)
      | (with_reducible exact LeO.none _)
      | (with_reducible refine LeO.ite ?_ ?_)
      | (with_reducible refine LeO.bind ?_ (fun _ => ?_))
      | exact ih0 _ _ _
      | exact punnetlaw03_awake.mono _
      | exact LeO.none _
      | refine LeO.ite ?_ ?_
      | refine LeO.bind ?_ (fun _ => ?_)
theorem punnetlaw03_NumOrders.mono : ∀ a0 a1 k, LeO (punnetlaw03_NumOrders.f k a0 a1) (punnetlaw03_NumOrders.f (k + 1) a0 a1) := by
  intro a0 a1 k
  have ih0 := punnetlaw03_NumOrders.mono_l k
  unfold punnetlaw03_NumOrders.f
  repeat' first
      | (with_reducible exact ih0 _ _ _)
      | (with_reducible exact punnetlaw03_awake.mono _)
      | (with_reducible exact LeO.refl _)
      | (with_reducible exact LeO.none _)
      | (with_reducible refine LeO.ite ?_ ?_)
      | (with_reducible refine LeO.bind ?_ (fun _ => ?_))
      | exact ih0 _ _ _
      | exact punnetlaw03_awake.mono _
      | exact LeO.none _
      | refine LeO.ite ?_ ?_
      | refine LeO.bind ?_ (fun _ => ?_)
set_option maxHeartbeats 8000000 in
set_option maxRecDepth 100000 in
theorem punnetlaw03_NumOrders.calls (k : Nat) (a0 : Int) (a1 : Int) (r : Bool) (w : World) (h : punnetlaw03_NumOrders.f k a0 a1 = some r) :
    Calls Try.prog 4 #[.int .i64 a0, .int .i64 a1] w fun e w' => e = .returned (.bool r) ∧ Below w.heap.size w w' := by
  have HB := Aside0.mk (Below.refl w.heap.size w)
  have H : ((punnetlaw03_awake.f k).bind fun t142 => (if t142 = true then (if a0 < 0 then (punnetlaw03_NumOrders.j0 k a0 a1 true) else (punnetlaw03_NumOrders.j0 k a0 a1 (decide (a1 < 0)))) else (some false))) = some r := h
  clear h
  replace H := Option.bind_eq_some_iff.mp H
  obtain ⟨t142, A30, H⟩ := H
  replace H : (if t142 = true then (if a0 < 0 then (punnetlaw03_NumOrders.j0 k a0 a1 true) else (punnetlaw03_NumOrders.j0 k a0 a1 (decide (a1 < 0)))) else (some false)) = some r := H
  have A3 := Aside0.mk A30
  clear A30
  by_cases c4 : t142 = true
  · subst c4
    have H1 : (if a0 < 0 then (punnetlaw03_NumOrders.j0 k a0 a1 true) else (punnetlaw03_NumOrders.j0 k a0 a1 (decide (a1 < 0)))) = some r := by rw [if_pos rfl] at H; exact H
    clear H
    have H := H1
    clear H1
    have HC5 := Aside0.mk H
    clear H
    go_enter Try.func4, Try.ntmps4
    go_upto_region 3 with (first | ((with_reducible refine gate_callee (f := 18) rfl ?_); refine goesL_ (some 7) rfl rfl Try.func18 (by kernel_rfl) rfl #[] rfl (by (try simp only [List.map_toArray, List.map_cons, List.map_nil]); first | done | rfl | (simp only [List.length_drop, List.length_take]; rfl)) ?_; (with_reducible refine (punnetlaw03_awake.calls k  true _ A3.out).mono ?_); rintro e w' ⟨rfl, ⟨nd, rfl⟩⟩; refine ⟨_, rfl, ?_⟩))
    (try simp only [Act.put, List.setIfInBounds_toArray, List.set_cons_zero, List.set_cons_succ])
    go_cut [14] (fun v14 wc => ∃ (kq : Nat) (x14_4 : Bool), v14 = .bool x14_4 ∧ Aside0 (punnetlaw03_NumOrders.j0 kq a0 a1 x14_4 = some r) ∧ Aside0 (kq ≤ k) ∧ Aside0 (Below w.heap.size w wc))
    case first =>
      have H := HC5.out
      clear HC5
      by_cases c6 : a0 < 0
      · rw [if_pos c6] at H
        have c6b0 : decide (a0 < 0) = true := decide_eq_true c6
        clear c6
        (first | rw [c6b0] | (simp only [i64_w, i32_w]; rw [c6b0]) | skip)
        have H' := Aside0.mk H
        clear H
        go_wp2
        go_meet
        case rel => exact ⟨_, (true), (by first | rfl | (simp; done) | (simp [*]; done)), H', ⟨by first | omega | exact Nat.le_refl _⟩, ⟨by repeat (first | (with_reducible first | exact HB.out | apply below_alloc | apply pw_below_drewN | apply below_drew1) | exact HB.out)⟩⟩
      · rw [if_neg c6] at H
        have c6b0 : decide (a0 < 0) = false := decide_eq_false c6
        clear c6
        (first | rw [c6b0] | (simp only [i64_w, i32_w]; rw [c6b0]) | skip)
        have H' := Aside0.mk H
        clear H
        go_wp2
        go_meet
        case rel => exact ⟨_, (decide (a1 < 0)), (by first | rfl | (simp; done) | (simp [*]; done)), H', ⟨by first | omega | exact Nat.le_refl _⟩, ⟨by repeat (first | (with_reducible first | exact HB.out | apply below_alloc | apply pw_below_drewN | apply below_drew1) | exact HB.out)⟩⟩
    case rest =>
      clear HC5
      try clear c1
      try clear p2
      try clear c4
      try clear c6
      try clear c6b0
      obtain ⟨kq, x14_4, rfl, HA, HJ4, HB⟩ := hcut
      cases kq with
      | zero => exact absurd HA.out (by simp [punnetlaw03_NumOrders.j0])
      | succ kj4 =>
        have H := HA.out
        clear HA
        simp only [punnetlaw03_NumOrders.j0] at H
        by_cases c7 : x14_4 = true
        · subst c7
          have H1 : ((num_Print.f a0).bind fun t143 => (if (t143.size : Int) > 0 then ((num_Print.f a0).bind fun t144 => (if 0 < (t144.size : Int) then (some (((bt t144 0) == 45) == (decide (a0 < 0)))) else (none))) else (some false))) = some r := by rw [if_pos rfl] at H; exact H
          clear H
          have H := H1
          clear H1
          replace H := Option.bind_eq_some_iff.mp H
          obtain ⟨t143, A80, H⟩ := H
          replace H : (if (t143.size : Int) > 0 then ((num_Print.f a0).bind fun t144 => (if 0 < (t144.size : Int) then (some (((bt t144 0) == 45) == (decide (a0 < 0)))) else (none))) else (some false)) = some r := H
          have A8 := Aside0.mk A80
          clear A80
          by_cases c9 : (t143.size : Int) > 0
          · rw [if_pos c9] at H
            have c9b0 : decide (0 < (t143.size : Int)) = true := decide_eq_true c9
            have c9b1 : decide (0 < t143.size) = true := decide_eq_true (by omega)
            clear c9
            replace H := Option.bind_eq_some_iff.mp H
            obtain ⟨t144, A100, H⟩ := H
            replace H : (if 0 < (t144.size : Int) then (some (((bt t144 0) == 45) == (decide (a0 < 0)))) else (none)) = some r := H
            have A10 := Aside0.mk A100
            clear A100
            by_cases c11 : 0 < (t144.size : Int)
            · rw [if_pos c11] at H
              have c11b0 : decide (0 < (t144.size : Int)) = true := decide_eq_true c11
              have c11b1 : decide (0 < t144.size) = true := decide_eq_true (by omega)
              clear c11
              obtain rfl := Option.some.inj H
              go_wp2_with (first | ((with_reducible refine gate_callee (f := 19) rfl ?_); refine goesL_ (some 16) rfl rfl Try.func19 (by kernel_rfl) rfl #[.int .i64 a0] rfl (by (try simp only [List.map_toArray, List.map_cons, List.map_nil]); first | done | rfl | (simp only [List.length_drop, List.length_take]; rfl)) ?_; (with_reducible refine (num_Print.calls a0 t143 _ A8.out).mono ?_); rintro e w13 ⟨rfl, hb⟩; refine ⟨_, rfl, ?_⟩; have n0_ := Aside0.mk (below_step (by repeat (first | (with_reducible first | exact HB.out | apply below_alloc | apply pw_below_drewN | apply below_drew1) | exact HB.out)) hb); clear HB; have HB := n0_; clear n0_; (try clear hb); (try clear hb2); (try clear hk); (try clear hi)) | (go_at_call 19; (with_reducible refine (num_Print.calls a0 t144 _ A10.out).mono ?_); rintro e w14 ⟨rfl, hb⟩; have n0_ := Aside0.mk (below_step (by repeat (first | (with_reducible first | exact HB.out | apply below_alloc | apply pw_below_drewN | apply below_drew1) | exact HB.out)) hb); clear HB; have HB := n0_; clear n0_; (try clear hb); (try clear hb2); (try clear hk); (try clear hi); have p12 : 0 ≤ (0 : Int) := (by omega); have q12 : 0 < t144.size := (by have : (0 : Int) < (t144.size : Int) := of_decide_eq_true (by first | (with_reducible assumption) | assumption); omega); have hx12 : ∀ h : 0 < t144.size, ((t144[0]'h).toNat : Int) = bt t144 0 := bt_at t144 0; clear p12; have qi12 : (0 < (t144.size : Int)) = True := eq_true (of_decide_eq_true (by first | (with_reducible assumption) | assumption)); replace q12 := eq_true q12))
              go_ret
              exact ⟨by first | rfl | (simp [errW_none, errW_some] <;> rfl) | (simp [*, errW_none, errW_some] <;> rfl), by repeat (first | (with_reducible first | exact HB.out | apply below_alloc | apply pw_below_drewN | apply below_drew1) | exact HB.out)⟩
            · rw [if_neg c11] at H
              exact absurd H (by simp)
          · rw [if_neg c9] at H
            have c9b0 : decide (0 < (t143.size : Int)) = false := decide_eq_false c9
            have c9b1 : decide (0 < t143.size) = false := decide_eq_false (by omega)
            clear c9
            obtain rfl := Option.some.inj H
            go_wp2_with (first | ((with_reducible refine gate_callee (f := 19) rfl ?_); refine goesL_ (some 16) rfl rfl Try.func19 (by kernel_rfl) rfl #[.int .i64 a0] rfl (by (try simp only [List.map_toArray, List.map_cons, List.map_nil]); first | done | rfl | (simp only [List.length_drop, List.length_take]; rfl)) ?_; (with_reducible refine (num_Print.calls a0 t143 _ A8.out).mono ?_); rintro e w15 ⟨rfl, hb⟩; refine ⟨_, rfl, ?_⟩; have n0_ := Aside0.mk (below_step (by repeat (first | (with_reducible first | exact HB.out | apply below_alloc | apply pw_below_drewN | apply below_drew1) | exact HB.out)) hb); clear HB; have HB := n0_; clear n0_; (try clear hb); (try clear hb2); (try clear hk); (try clear hi)))
            go_ret
            exact ⟨by first | rfl | (simp [errW_none, errW_some] <;> rfl) | (simp [*, errW_none, errW_some] <;> rfl), by repeat (first | (with_reducible first | exact HB.out | apply below_alloc | apply pw_below_drewN | apply below_drew1) | exact HB.out)⟩
        · replace c7 := Bool.eq_false_iff.mpr c7
          subst c7
          have H1 : ((num_Print.f a0).bind fun t145 => ((num_Print.f a1).bind fun t146 => (if (t145.size : Int) = (t146.size : Int) then (some ((Op.bytesLess t145.toList t146.toList) == (decide (a0 < a1)))) else (some ((decide ((t145.size : Int) < (t146.size : Int))) == (decide (a0 < a1))))))) = some r := by rw [if_neg (show ¬ (false = true) by decide)] at H; exact H
          clear H
          have H := H1
          clear H1
          replace H := Option.bind_eq_some_iff.mp H
          obtain ⟨t145, A160, H⟩ := H
          replace H : ((num_Print.f a1).bind fun t146 => (if (t145.size : Int) = (t146.size : Int) then (some ((Op.bytesLess t145.toList t146.toList) == (decide (a0 < a1)))) else (some ((decide ((t145.size : Int) < (t146.size : Int))) == (decide (a0 < a1)))))) = some r := H
          have A16 := Aside0.mk A160
          clear A160
          replace H := Option.bind_eq_some_iff.mp H
          obtain ⟨t146, A170, H⟩ := H
          replace H : (if (t145.size : Int) = (t146.size : Int) then (some ((Op.bytesLess t145.toList t146.toList) == (decide (a0 < a1)))) else (some ((decide ((t145.size : Int) < (t146.size : Int))) == (decide (a0 < a1))))) = some r := H
          have A17 := Aside0.mk A170
          clear A170
          by_cases c18 : (t145.size : Int) = (t146.size : Int)
          · rw [if_pos c18] at H
            have c18b0 : ((t145.size : Int) == (t146.size : Int)) = true := beq_iff_eq.mpr c18
            have c18b1 : ((t145.size : Int) != (t146.size : Int)) = false := bne_eq_false_iff_eq.mpr c18
            have c18b2 : (t145.size == t146.size) = true := by first | simpa using c18 | (simp at c18 ⊢; omega)
            clear c18
            obtain rfl := Option.some.inj H
            go_wp2_with (first | ((with_reducible refine gate_callee (f := 19) rfl ?_); refine goesL_ (some 29) rfl rfl Try.func19 (by kernel_rfl) rfl #[.int .i64 a0] rfl (by (try simp only [List.map_toArray, List.map_cons, List.map_nil]); first | done | rfl | (simp only [List.length_drop, List.length_take]; rfl)) ?_; (with_reducible refine (num_Print.calls a0 t145 _ A16.out).mono ?_); rintro e w19 ⟨rfl, hb⟩; refine ⟨_, rfl, ?_⟩; have n0_ := Aside0.mk (below_step (by repeat (first | (with_reducible first | exact HB.out | apply below_alloc | apply pw_below_drewN | apply below_drew1) | exact HB.out)) hb); clear HB; have HB := n0_; clear n0_; (try clear hb); (try clear hb2); (try clear hk); (try clear hi)) | ((with_reducible refine gate_callee (f := 19) rfl ?_); refine goesL_ (some 31) rfl rfl Try.func19 (by kernel_rfl) rfl #[.int .i64 a1] rfl (by (try simp only [List.map_toArray, List.map_cons, List.map_nil]); first | done | rfl | (simp only [List.length_drop, List.length_take]; rfl)) ?_; (with_reducible refine (num_Print.calls a1 t146 _ A17.out).mono ?_); rintro e w20 ⟨rfl, hb⟩; refine ⟨_, rfl, ?_⟩; have n0_ := Aside0.mk (below_step (by repeat (first | (with_reducible first | exact HB.out | apply below_alloc | apply pw_below_drewN | apply below_drew1) | exact HB.out)) hb); clear HB; have HB := n0_; clear n0_; (try clear hb); (try clear hb2); (try clear hk); (try clear hi)))
            go_ret
            exact ⟨by first | rfl | (simp [errW_none, errW_some] <;> rfl) | (simp [*, errW_none, errW_some] <;> rfl), by repeat (first | (with_reducible first | exact HB.out | apply below_alloc | apply pw_below_drewN | apply below_drew1) | exact HB.out)⟩
          · rw [if_neg c18] at H
            have c18b0 : ((t145.size : Int) == (t146.size : Int)) = false := beq_eq_false_iff_ne.mpr c18
            have c18b1 : ((t145.size : Int) != (t146.size : Int)) = true := bne_iff_ne.mpr c18
            have c18b2 : (t145.size == t146.size) = false := by first | simpa using c18 | (simp at c18 ⊢; omega)
            obtain rfl := Option.some.inj H
            go_wp2_with (first | ((with_reducible refine gate_callee (f := 19) rfl ?_); refine goesL_ (some 29) rfl rfl Try.func19 (by kernel_rfl) rfl #[.int .i64 a0] rfl (by (try simp only [List.map_toArray, List.map_cons, List.map_nil]); first | done | rfl | (simp only [List.length_drop, List.length_take]; rfl)) ?_; (with_reducible refine (num_Print.calls a0 t145 _ A16.out).mono ?_); rintro e w21 ⟨rfl, hb⟩; refine ⟨_, rfl, ?_⟩; have n0_ := Aside0.mk (below_step (by repeat (first | (with_reducible first | exact HB.out | apply below_alloc | apply pw_below_drewN | apply below_drew1) | exact HB.out)) hb); clear HB; have HB := n0_; clear n0_; (try clear hb); (try clear hb2); (try clear hk); (try clear hi)) | ((with_reducible refine gate_callee (f := 19) rfl ?_); refine goesL_ (some 31) rfl rfl Try.func19 (by kernel_rfl) rfl #[.int .i64 a1] rfl (by (try simp only [List.map_toArray, List.map_cons, List.map_nil]); first | done | rfl | (simp only [List.length_drop, List.length_take]; rfl)) ?_; (with_reducible refine (num_Print.calls a1 t146 _ A17.out).mono ?_); rintro e w22 ⟨rfl, hb⟩; refine ⟨_, rfl, ?_⟩; have n0_ := Aside0.mk (below_step (by repeat (first | (with_reducible first | exact HB.out | apply below_alloc | apply pw_below_drewN | apply below_drew1) | exact HB.out)) hb); clear HB; have HB := n0_; clear n0_; (try clear hb); (try clear hb2); (try clear hk); (try clear hi)))
            go_ret
            exact ⟨by first | rfl | (simp [errW_none, errW_some] <;> rfl) | (simp [*, errW_none, errW_some] <;> rfl), by repeat (first | (with_reducible first | exact HB.out | apply below_alloc | apply pw_below_drewN | apply below_drew1) | exact HB.out)⟩
  · replace c4 := Bool.eq_false_iff.mpr c4
    subst c4
    have H1 : (some false) = some r := by rw [if_neg (show ¬ (false = true) by decide)] at H; exact H
    clear H
    have H := H1
    clear H1
    obtain rfl := Option.some.inj H
    go_enter Try.func4, Try.ntmps4
    go_wp2_with (first | ((with_reducible refine gate_callee (f := 18) rfl ?_); refine goesL_ (some 7) rfl rfl Try.func18 (by kernel_rfl) rfl #[] rfl (by (try simp only [List.map_toArray, List.map_cons, List.map_nil]); first | done | rfl | (simp only [List.length_drop, List.length_take]; rfl)) ?_; (with_reducible refine (punnetlaw03_awake.calls k  false _ A3.out).mono ?_); rintro e w' ⟨rfl, ⟨nd, rfl⟩⟩; refine ⟨_, rfl, ?_⟩))
    go_ret
    exact ⟨by first | rfl | (simp [errW_none, errW_some] <;> rfl) | (simp [*, errW_none, errW_some] <;> rfl), by repeat (first | (with_reducible first | exact HB.out | apply below_alloc | apply pw_below_drewN | apply below_drew1) | exact HB.out)⟩

/-- THE ONE PURE STATEMENT of punnetlaw03_NumOrders: yours. -/
def punnetlaw03_NumOrders.Pure : Prop := ∀ (a0 : Int) (a1 : Int), (Lit.int .i64 a0).wf = true → (Lit.int .i64 a1).wf = true → ∃ k, punnetlaw03_NumOrders.f k a0 a1 = some true
theorem punnetlaw03_NumOrders.walk (P : punnetlaw03_NumOrders.Pure) (a0 : Int) (a1 : Int) (w : World) (w0 : (Lit.int .i64 a0).wf = true) (w1 : (Lit.int .i64 a1).wf = true) :
    Calls Try.prog 4 #[.int .i64 a0, .int .i64 a1] w fun e w' => e = .returned (.bool true) ∧ Below w.heap.size w w' := by
  obtain ⟨k, h⟩ := P a0 a1 w0 w1
  refine (punnetlaw03_NumOrders.calls k a0 a1 true w h).mono ?_
  rintro e w' ⟨rfl, hd⟩
  exact ⟨rfl, hd⟩

end Go.Proofs.Ytmmofckknopaaaa.Q
