/- A function of the program or a law's row comes to what the Lean function beside it says; no condition beyond those typed. Written by a program of this workplace; Lean checks it. -/
import Derived.Test.YtmmofckknopaaaaQ0
import Derived.Test.YtmmofckknopaaaaQ1
import Derived.Test.YtmmofckknopaaaaQ4
import Derived.Test.YtmmofckknopaaaaQ5
import Derived.Test.YtmmofckknopaaaaQ6
import Derived.Test.YtmmofckknopaaaaQ7
namespace Go.Proofs.Ytmmofckknopaaaa.Q
open Go.RowKit Go.Proofs.YtmmofckknopaaaaW.PrintWords Go.Proofs.YtmmofckknopaaaaW.PrintLast Go.Proofs.YtmmofckknopaaaaW.PrintMore
attribute [local go_sem] max2_int min2_int max_two min_two max_three min_three max_four min_four   -- for this text's walks alone
set_option linter.unusedVariables false
set_option linter.unusedSimpArgs false

/-! ### punnetlaw04_CodeTurns: function 3 -/
def punnetlaw04_CodeTurns.j0 : Nat → Int → Int → Bool → Option (Bool)
  | 0, _, _, _ => none
  | k + 1, x0, x1, x34 => if x34 = true then (some false) else (if x0 < 0 then (some true) else (if x1 < x0 then (some true) else ((code_Turn.f x0).bind fun t131 => ((code_Turn.f x1).bind fun t132 => (some (decide (t131 ≤ t132)))))))
def punnetlaw04_CodeTurns.f (k : Nat) (a0 : Int) (a1 : Int) (a2 : Int) : Option (Bool) := (punnetlaw04_awake.f k).bind fun t123 => (if t123 = true then ((code_Turn.f a0).bind fun t124 => ((punnetref04_Turn.f a0).bind fun t125 => (if t124 = t125 then ((code_Back.f a2).bind fun t126 => ((punnetref04_Back.f a2).bind fun t127 => (if t126 = t127 then ((code_Turn.f a0).bind fun t128 => ((code_Back.f t128).bind fun t129 => (if t129 = a0 then ((code_Turn.f t126).bind fun t130 => (punnetlaw04_CodeTurns.j0 k a0 a1 (t130 != a2))) else (punnetlaw04_CodeTurns.j0 k a0 a1 true)))) else (punnetlaw04_CodeTurns.j0 k a0 a1 true)))) else (punnetlaw04_CodeTurns.j0 k a0 a1 true)))) else (some false))
theorem punnetlaw04_CodeTurns.mono_l : ∀ k, (∀ y0 y1 y2, LeO (punnetlaw04_CodeTurns.j0 k y0 y1 y2) (punnetlaw04_CodeTurns.j0 (k + 1) y0 y1 y2))
  | 0 => fun _ _ _ r h => by simp [punnetlaw04_CodeTurns.j0] at h
  | k + 1 => by
    have ih0 := punnetlaw04_CodeTurns.mono_l k
    · intro y0 y1 y2
      unfold punnetlaw04_CodeTurns.j0
      repeat' first
      | (with_reducible exact ih0 _ _ _)
      | (with_reducible exact punnetlaw04_awake.mono _)
      | (with_reducible exact LeO.refl _)
      | (with_reducible exact LeO.none _)
      | (with_reducible refine LeO.ite ?_ ?_)
      | (with_reducible refine LeO.bind ?_ (fun _ => ?_))
      | exact ih0 _ _ _
      | exact punnetlaw04_awake.mono _
      | exact LeO.none _
      | refine LeO.ite ?_ ?_
      | refine LeO.bind ?_ (fun _ => ?_)
theorem punnetlaw04_CodeTurns.mono : ∀ a0 a1 a2 k, LeO (punnetlaw04_CodeTurns.f k a0 a1 a2) (punnetlaw04_CodeTurns.f (k + 1) a0 a1 a2) := by
  intro a0 a1 a2 k
  have ih0 := punnetlaw04_CodeTurns.mono_l k
  unfold punnetlaw04_CodeTurns.f
  repeat' first
      | (with_reducible exact ih0 _ _ _)
      | (with_reducible exact punnetlaw04_awake.mono _)
      | (with_reducible exact LeO.refl _)
      | (with_reducible exact LeO.none _)
      | (with_reducible refine LeO.ite ?_ ?_)
      | (with_reducible refine LeO.bind ?_ (fun _ => ?_))
      | exact ih0 _ _ _
      | exact punnetlaw04_awake.mono _
      | exact LeO.none _
      | refine LeO.ite ?_ ?_
      | refine LeO.bind ?_ (fun _ => ?_)
set_option maxHeartbeats 8000000 in
set_option maxRecDepth 100000 in
theorem punnetlaw04_CodeTurns.calls (k : Nat) (a0 : Int) (a1 : Int) (a2 : Int) (r : Bool) (w : World) (h : punnetlaw04_CodeTurns.f k a0 a1 a2 = some r) :
    Calls Try.prog 3 #[.int .i64 a0, .int .i64 a1, .int .u64 a2] w fun e w' => e = .returned (.bool r) ∧ Below w.heap.size w w' := by
  have HB := Aside0.mk (Below.refl w.heap.size w)
  have H : ((punnetlaw04_awake.f k).bind fun t123 => (if t123 = true then ((code_Turn.f a0).bind fun t124 => ((punnetref04_Turn.f a0).bind fun t125 => (if t124 = t125 then ((code_Back.f a2).bind fun t126 => ((punnetref04_Back.f a2).bind fun t127 => (if t126 = t127 then ((code_Turn.f a0).bind fun t128 => ((code_Back.f t128).bind fun t129 => (if t129 = a0 then ((code_Turn.f t126).bind fun t130 => (punnetlaw04_CodeTurns.j0 k a0 a1 (t130 != a2))) else (punnetlaw04_CodeTurns.j0 k a0 a1 true)))) else (punnetlaw04_CodeTurns.j0 k a0 a1 true)))) else (punnetlaw04_CodeTurns.j0 k a0 a1 true)))) else (some false))) = some r := h
  clear h
  replace H := Option.bind_eq_some_iff.mp H
  obtain ⟨t123, A40, H⟩ := H
  replace H : (if t123 = true then ((code_Turn.f a0).bind fun t124 => ((punnetref04_Turn.f a0).bind fun t125 => (if t124 = t125 then ((code_Back.f a2).bind fun t126 => ((punnetref04_Back.f a2).bind fun t127 => (if t126 = t127 then ((code_Turn.f a0).bind fun t128 => ((code_Back.f t128).bind fun t129 => (if t129 = a0 then ((code_Turn.f t126).bind fun t130 => (punnetlaw04_CodeTurns.j0 k a0 a1 (t130 != a2))) else (punnetlaw04_CodeTurns.j0 k a0 a1 true)))) else (punnetlaw04_CodeTurns.j0 k a0 a1 true)))) else (punnetlaw04_CodeTurns.j0 k a0 a1 true)))) else (some false)) = some r := H
  have A4 := Aside0.mk A40
  clear A40
  by_cases c5 : t123 = true
  · subst c5
    have H1 : ((code_Turn.f a0).bind fun t124 => ((punnetref04_Turn.f a0).bind fun t125 => (if t124 = t125 then ((code_Back.f a2).bind fun t126 => ((punnetref04_Back.f a2).bind fun t127 => (if t126 = t127 then ((code_Turn.f a0).bind fun t128 => ((code_Back.f t128).bind fun t129 => (if t129 = a0 then ((code_Turn.f t126).bind fun t130 => (punnetlaw04_CodeTurns.j0 k a0 a1 (t130 != a2))) else (punnetlaw04_CodeTurns.j0 k a0 a1 true)))) else (punnetlaw04_CodeTurns.j0 k a0 a1 true)))) else (punnetlaw04_CodeTurns.j0 k a0 a1 true)))) = some r := by rw [if_pos rfl] at H; exact H
    clear H
    have H := H1
    clear H1
    have HC6 := Aside0.mk H
    clear H
    go_enter Try.func3, Try.ntmps3
    go_upto_region 3 with (first | ((with_reducible refine gate_callee (f := 13) rfl ?_); refine goesL_ (some 7) rfl rfl Try.func13 (by kernel_rfl) rfl #[] rfl (by (try simp only [List.map_toArray, List.map_cons, List.map_nil]); first | done | rfl | (simp only [List.length_drop, List.length_take]; rfl)) ?_; (with_reducible refine (punnetlaw04_awake.calls k  true _ A4.out).mono ?_); rintro e w7 ⟨rfl, hb⟩; refine ⟨_, rfl, ?_⟩; have n0_ := Aside0.mk (below_step (by repeat (first | (with_reducible first | exact HB.out | apply below_alloc | apply pw_below_drewN | apply below_drew1) | exact HB.out)) hb); clear HB; have HB := n0_; clear n0_; (try clear hb); (try clear hb2); (try clear hk); (try clear hi)))
    (try simp only [Act.put, List.setIfInBounds_toArray, List.set_cons_zero, List.set_cons_succ])
    go_cut [34] (fun v34 wc => ∃ (kq : Nat) (x34_5 : Bool), v34 = .bool x34_5 ∧ Aside0 (punnetlaw04_CodeTurns.j0 kq a0 a1 x34_5 = some r) ∧ Aside0 (kq ≤ k) ∧ Aside0 (Below w.heap.size w wc))
    case first =>
      have H := HC6.out
      clear HC6
      replace H := Option.bind_eq_some_iff.mp H
      obtain ⟨t124, A80, H⟩ := H
      replace H : ((punnetref04_Turn.f a0).bind fun t125 => (if t124 = t125 then ((code_Back.f a2).bind fun t126 => ((punnetref04_Back.f a2).bind fun t127 => (if t126 = t127 then ((code_Turn.f a0).bind fun t128 => ((code_Back.f t128).bind fun t129 => (if t129 = a0 then ((code_Turn.f t126).bind fun t130 => (punnetlaw04_CodeTurns.j0 k a0 a1 (t130 != a2))) else (punnetlaw04_CodeTurns.j0 k a0 a1 true)))) else (punnetlaw04_CodeTurns.j0 k a0 a1 true)))) else (punnetlaw04_CodeTurns.j0 k a0 a1 true))) = some r := H
      have A8 := Aside0.mk A80
      clear A80
      replace H := Option.bind_eq_some_iff.mp H
      obtain ⟨t125, A90, H⟩ := H
      replace H : (if t124 = t125 then ((code_Back.f a2).bind fun t126 => ((punnetref04_Back.f a2).bind fun t127 => (if t126 = t127 then ((code_Turn.f a0).bind fun t128 => ((code_Back.f t128).bind fun t129 => (if t129 = a0 then ((code_Turn.f t126).bind fun t130 => (punnetlaw04_CodeTurns.j0 k a0 a1 (t130 != a2))) else (punnetlaw04_CodeTurns.j0 k a0 a1 true)))) else (punnetlaw04_CodeTurns.j0 k a0 a1 true)))) else (punnetlaw04_CodeTurns.j0 k a0 a1 true)) = some r := H
      have A9 := Aside0.mk A90
      clear A90
      by_cases c10 : t124 = t125
      · rw [if_pos c10] at H
        have c10b0 : (t124 == t125) = true := beq_iff_eq.mpr c10
        have c10b1 : (t124 != t125) = false := bne_eq_false_iff_eq.mpr c10
        clear c10
        (first | rw [c10b0] | (simp only [i64_w, i32_w]; rw [c10b0]) | skip)
        replace H := Option.bind_eq_some_iff.mp H
        obtain ⟨t126, A110, H⟩ := H
        replace H : ((punnetref04_Back.f a2).bind fun t127 => (if t126 = t127 then ((code_Turn.f a0).bind fun t128 => ((code_Back.f t128).bind fun t129 => (if t129 = a0 then ((code_Turn.f t126).bind fun t130 => (punnetlaw04_CodeTurns.j0 k a0 a1 (t130 != a2))) else (punnetlaw04_CodeTurns.j0 k a0 a1 true)))) else (punnetlaw04_CodeTurns.j0 k a0 a1 true))) = some r := H
        have A11 := Aside0.mk A110
        clear A110
        replace H := Option.bind_eq_some_iff.mp H
        obtain ⟨t127, A120, H⟩ := H
        replace H : (if t126 = t127 then ((code_Turn.f a0).bind fun t128 => ((code_Back.f t128).bind fun t129 => (if t129 = a0 then ((code_Turn.f t126).bind fun t130 => (punnetlaw04_CodeTurns.j0 k a0 a1 (t130 != a2))) else (punnetlaw04_CodeTurns.j0 k a0 a1 true)))) else (punnetlaw04_CodeTurns.j0 k a0 a1 true)) = some r := H
        have A12 := Aside0.mk A120
        clear A120
        by_cases c13 : t126 = t127
        · rw [if_pos c13] at H
          have c13b0 : (t126 == t127) = true := beq_iff_eq.mpr c13
          have c13b1 : (t126 != t127) = false := bne_eq_false_iff_eq.mpr c13
          clear c13
          replace H := Option.bind_eq_some_iff.mp H
          obtain ⟨t128, A140, H⟩ := H
          replace H : ((code_Back.f t128).bind fun t129 => (if t129 = a0 then ((code_Turn.f t126).bind fun t130 => (punnetlaw04_CodeTurns.j0 k a0 a1 (t130 != a2))) else (punnetlaw04_CodeTurns.j0 k a0 a1 true))) = some r := H
          have A14 := Aside0.mk A140
          clear A140
          replace H := Option.bind_eq_some_iff.mp H
          obtain ⟨t129, A150, H⟩ := H
          replace H : (if t129 = a0 then ((code_Turn.f t126).bind fun t130 => (punnetlaw04_CodeTurns.j0 k a0 a1 (t130 != a2))) else (punnetlaw04_CodeTurns.j0 k a0 a1 true)) = some r := H
          have A15 := Aside0.mk A150
          clear A150
          by_cases c16 : t129 = a0
          · rw [if_pos c16] at H
            have c16b0 : (t129 == a0) = true := beq_iff_eq.mpr c16
            have c16b1 : (t129 != a0) = false := bne_eq_false_iff_eq.mpr c16
            clear c16
            replace H := Option.bind_eq_some_iff.mp H
            obtain ⟨t130, A170, H⟩ := H
            replace H : (punnetlaw04_CodeTurns.j0 k a0 a1 (t130 != a2)) = some r := H
            have A17 := Aside0.mk A170
            clear A170
            have H' := Aside0.mk H
            clear H
            go_wp2_with (first | ((with_reducible refine gate_callee (f := 14) rfl ?_); refine goesL_ (some 10) rfl rfl Try.func14 (by kernel_rfl) rfl #[.int .i64 a0] rfl (by (try simp only [List.map_toArray, List.map_cons, List.map_nil]); first | done | rfl | (simp only [List.length_drop, List.length_take]; rfl)) ?_; (with_reducible refine (code_Turn.calls a0 t124 _ A8.out).mono ?_); rintro e w' ⟨rfl, ⟨nd, rfl⟩⟩; refine ⟨_, rfl, ?_⟩) | ((with_reducible refine gate_callee (f := 15) rfl ?_); refine goesL_ (some 12) rfl rfl Try.func15 (by kernel_rfl) rfl #[.int .i64 a0] rfl (by (try simp only [List.map_toArray, List.map_cons, List.map_nil]); first | done | rfl | (simp only [List.length_drop, List.length_take]; rfl)) ?_; (with_reducible refine (punnetref04_Turn.calls a0 t125 _ A9.out).mono ?_); rintro e w' ⟨rfl, ⟨nd, rfl⟩⟩; refine ⟨_, rfl, ?_⟩) | (go_at_call 16; (with_reducible refine (code_Back.calls a2 t126 _ A11.out).mono ?_); rintro e w' ⟨rfl, ⟨nd, rfl⟩⟩) | (go_at_call 17; (with_reducible refine (punnetref04_Back.calls a2 t127 _ A12.out).mono ?_); rintro e w' ⟨rfl, ⟨nd, rfl⟩⟩) | (go_at_call 14; (with_reducible refine (code_Turn.calls a0 t128 _ A14.out).mono ?_); rintro e w' ⟨rfl, ⟨nd, rfl⟩⟩) | (go_at_call 16; (with_reducible refine (code_Back.calls t128 t129 _ A15.out).mono ?_); rintro e w' ⟨rfl, ⟨nd, rfl⟩⟩) | (go_at_call 14; (with_reducible refine (code_Turn.calls t126 t130 _ A17.out).mono ?_); rintro e w' ⟨rfl, ⟨nd, rfl⟩⟩))
            go_meet
            case rel => exact ⟨_, ((t130 != a2)), (by first | rfl | (simp; done) | (simp [*]; done)), H', ⟨by first | omega | exact Nat.le_refl _⟩, ⟨by repeat (first | (with_reducible first | exact HB.out | apply below_alloc | apply pw_below_drewN | apply below_drew1) | exact HB.out)⟩⟩
          · rw [if_neg c16] at H
            have c16b0 : (t129 == a0) = false := beq_eq_false_iff_ne.mpr c16
            have c16b1 : (t129 != a0) = true := bne_iff_ne.mpr c16
            have H' := Aside0.mk H
            clear H
            go_wp2_with (first | ((with_reducible refine gate_callee (f := 14) rfl ?_); refine goesL_ (some 10) rfl rfl Try.func14 (by kernel_rfl) rfl #[.int .i64 a0] rfl (by (try simp only [List.map_toArray, List.map_cons, List.map_nil]); first | done | rfl | (simp only [List.length_drop, List.length_take]; rfl)) ?_; (with_reducible refine (code_Turn.calls a0 t124 _ A8.out).mono ?_); rintro e w' ⟨rfl, ⟨nd, rfl⟩⟩; refine ⟨_, rfl, ?_⟩) | ((with_reducible refine gate_callee (f := 15) rfl ?_); refine goesL_ (some 12) rfl rfl Try.func15 (by kernel_rfl) rfl #[.int .i64 a0] rfl (by (try simp only [List.map_toArray, List.map_cons, List.map_nil]); first | done | rfl | (simp only [List.length_drop, List.length_take]; rfl)) ?_; (with_reducible refine (punnetref04_Turn.calls a0 t125 _ A9.out).mono ?_); rintro e w' ⟨rfl, ⟨nd, rfl⟩⟩; refine ⟨_, rfl, ?_⟩) | (go_at_call 16; (with_reducible refine (code_Back.calls a2 t126 _ A11.out).mono ?_); rintro e w' ⟨rfl, ⟨nd, rfl⟩⟩) | (go_at_call 17; (with_reducible refine (punnetref04_Back.calls a2 t127 _ A12.out).mono ?_); rintro e w' ⟨rfl, ⟨nd, rfl⟩⟩) | (go_at_call 14; (with_reducible refine (code_Turn.calls a0 t128 _ A14.out).mono ?_); rintro e w' ⟨rfl, ⟨nd, rfl⟩⟩) | (go_at_call 16; (with_reducible refine (code_Back.calls t128 t129 _ A15.out).mono ?_); rintro e w' ⟨rfl, ⟨nd, rfl⟩⟩))
            go_meet
            case rel => exact ⟨_, (true), (by first | rfl | (simp; done) | (simp [*]; done)), H', ⟨by first | omega | exact Nat.le_refl _⟩, ⟨by repeat (first | (with_reducible first | exact HB.out | apply below_alloc | apply pw_below_drewN | apply below_drew1) | exact HB.out)⟩⟩
        · rw [if_neg c13] at H
          have c13b0 : (t126 == t127) = false := beq_eq_false_iff_ne.mpr c13
          have c13b1 : (t126 != t127) = true := bne_iff_ne.mpr c13
          have H' := Aside0.mk H
          clear H
          go_wp2_with (first | ((with_reducible refine gate_callee (f := 14) rfl ?_); refine goesL_ (some 10) rfl rfl Try.func14 (by kernel_rfl) rfl #[.int .i64 a0] rfl (by (try simp only [List.map_toArray, List.map_cons, List.map_nil]); first | done | rfl | (simp only [List.length_drop, List.length_take]; rfl)) ?_; (with_reducible refine (code_Turn.calls a0 t124 _ A8.out).mono ?_); rintro e w' ⟨rfl, ⟨nd, rfl⟩⟩; refine ⟨_, rfl, ?_⟩) | ((with_reducible refine gate_callee (f := 15) rfl ?_); refine goesL_ (some 12) rfl rfl Try.func15 (by kernel_rfl) rfl #[.int .i64 a0] rfl (by (try simp only [List.map_toArray, List.map_cons, List.map_nil]); first | done | rfl | (simp only [List.length_drop, List.length_take]; rfl)) ?_; (with_reducible refine (punnetref04_Turn.calls a0 t125 _ A9.out).mono ?_); rintro e w' ⟨rfl, ⟨nd, rfl⟩⟩; refine ⟨_, rfl, ?_⟩) | (go_at_call 16; (with_reducible refine (code_Back.calls a2 t126 _ A11.out).mono ?_); rintro e w' ⟨rfl, ⟨nd, rfl⟩⟩) | (go_at_call 17; (with_reducible refine (punnetref04_Back.calls a2 t127 _ A12.out).mono ?_); rintro e w' ⟨rfl, ⟨nd, rfl⟩⟩))
          go_meet
          case rel => exact ⟨_, (true), (by first | rfl | (simp; done) | (simp [*]; done)), H', ⟨by first | omega | exact Nat.le_refl _⟩, ⟨by repeat (first | (with_reducible first | exact HB.out | apply below_alloc | apply pw_below_drewN | apply below_drew1) | exact HB.out)⟩⟩
      · rw [if_neg c10] at H
        have c10b0 : (t124 == t125) = false := beq_eq_false_iff_ne.mpr c10
        have c10b1 : (t124 != t125) = true := bne_iff_ne.mpr c10
        (first | rw [c10b0] | (simp only [i64_w, i32_w]; rw [c10b0]) | skip)
        have H' := Aside0.mk H
        clear H
        go_wp2_with (first | ((with_reducible refine gate_callee (f := 14) rfl ?_); refine goesL_ (some 10) rfl rfl Try.func14 (by kernel_rfl) rfl #[.int .i64 a0] rfl (by (try simp only [List.map_toArray, List.map_cons, List.map_nil]); first | done | rfl | (simp only [List.length_drop, List.length_take]; rfl)) ?_; (with_reducible refine (code_Turn.calls a0 t124 _ A8.out).mono ?_); rintro e w' ⟨rfl, ⟨nd, rfl⟩⟩; refine ⟨_, rfl, ?_⟩) | ((with_reducible refine gate_callee (f := 15) rfl ?_); refine goesL_ (some 12) rfl rfl Try.func15 (by kernel_rfl) rfl #[.int .i64 a0] rfl (by (try simp only [List.map_toArray, List.map_cons, List.map_nil]); first | done | rfl | (simp only [List.length_drop, List.length_take]; rfl)) ?_; (with_reducible refine (punnetref04_Turn.calls a0 t125 _ A9.out).mono ?_); rintro e w' ⟨rfl, ⟨nd, rfl⟩⟩; refine ⟨_, rfl, ?_⟩))
        go_meet
        case rel => exact ⟨_, (true), (by first | rfl | (simp; done) | (simp [*]; done)), H', ⟨by first | omega | exact Nat.le_refl _⟩, ⟨by repeat (first | (with_reducible first | exact HB.out | apply below_alloc | apply pw_below_drewN | apply below_drew1) | exact HB.out)⟩⟩
    case rest =>
      clear HC6
      try clear c1
      try clear p2
      try clear c3
      try clear c5
      try clear c10
      try clear c10b0
      try clear c10b1
      try clear c13
      try clear c13b0
      try clear c13b1
      try clear c14
      try clear c15
      try clear c16
      try clear c16b0
      try clear c16b1
      obtain ⟨kq, x34_5, rfl, HA, HJ5, HB⟩ := hcut
      cases kq with
      | zero => exact absurd HA.out (by simp [punnetlaw04_CodeTurns.j0])
      | succ kj5 =>
        have H := HA.out
        clear HA
        simp only [punnetlaw04_CodeTurns.j0] at H
        by_cases c18 : x34_5 = true
        · subst c18
          have H1 : (some false) = some r := by rw [if_pos rfl] at H; exact H
          clear H
          have H := H1
          clear H1
          obtain rfl := Option.some.inj H
          go_wp2
          go_ret
          exact ⟨by first | rfl | (simp [errW_none, errW_some] <;> rfl) | (simp [*, errW_none, errW_some] <;> rfl), by repeat (first | (with_reducible first | exact HB.out | apply below_alloc | apply pw_below_drewN | apply below_drew1) | exact HB.out)⟩
        · replace c18 := Bool.eq_false_iff.mpr c18
          subst c18
          have H1 : (if a0 < 0 then (some true) else (if a1 < a0 then (some true) else ((code_Turn.f a0).bind fun t131 => ((code_Turn.f a1).bind fun t132 => (some (decide (t131 ≤ t132))))))) = some r := by rw [if_neg (show ¬ (false = true) by decide)] at H; exact H
          clear H
          have H := H1
          clear H1
          by_cases c19 : a0 < 0
          · rw [if_pos c19] at H
            have c19b0 : decide (a0 < 0) = true := decide_eq_true c19
            clear c19
            obtain rfl := Option.some.inj H
            go_wp2
            go_ret
            exact ⟨by first | rfl | (simp [errW_none, errW_some] <;> rfl) | (simp [*, errW_none, errW_some] <;> rfl), by repeat (first | (with_reducible first | exact HB.out | apply below_alloc | apply pw_below_drewN | apply below_drew1) | exact HB.out)⟩
          · rw [if_neg c19] at H
            have c19b0 : decide (a0 < 0) = false := decide_eq_false c19
            clear c19
            by_cases c20 : a1 < a0
            · rw [if_pos c20] at H
              have c20b0 : decide (a1 < a0) = true := decide_eq_true c20
              clear c20
              obtain rfl := Option.some.inj H
              go_wp2
              go_ret
              exact ⟨by first | rfl | (simp [errW_none, errW_some] <;> rfl) | (simp [*, errW_none, errW_some] <;> rfl), by repeat (first | (with_reducible first | exact HB.out | apply below_alloc | apply pw_below_drewN | apply below_drew1) | exact HB.out)⟩
            · rw [if_neg c20] at H
              have c20b0 : decide (a1 < a0) = false := decide_eq_false c20
              clear c20
              replace H := Option.bind_eq_some_iff.mp H
              obtain ⟨t131, A210, H⟩ := H
              replace H : ((code_Turn.f a1).bind fun t132 => (some (decide (t131 ≤ t132)))) = some r := H
              have A21 := Aside0.mk A210
              clear A210
              replace H := Option.bind_eq_some_iff.mp H
              obtain ⟨t132, A220, H⟩ := H
              replace H : (some (decide (t131 ≤ t132))) = some r := H
              have A22 := Aside0.mk A220
              clear A220
              obtain rfl := Option.some.inj H
              go_wp2_with (first | (go_at_call 14; (with_reducible refine (code_Turn.calls a0 t131 _ A21.out).mono ?_); rintro e w' ⟨rfl, ⟨nd, rfl⟩⟩) | (go_at_call 14; (with_reducible refine (code_Turn.calls a1 t132 _ A22.out).mono ?_); rintro e w' ⟨rfl, ⟨nd, rfl⟩⟩))
              go_ret
              exact ⟨by first | rfl | (simp [errW_none, errW_some] <;> rfl) | (simp [*, errW_none, errW_some] <;> rfl), by repeat (first | (with_reducible first | exact HB.out | apply below_alloc | apply pw_below_drewN | apply below_drew1) | exact HB.out)⟩
  · replace c5 := Bool.eq_false_iff.mpr c5
    subst c5
    have H1 : (some false) = some r := by rw [if_neg (show ¬ (false = true) by decide)] at H; exact H
    clear H
    have H := H1
    clear H1
    obtain rfl := Option.some.inj H
    go_enter Try.func3, Try.ntmps3
    go_wp2_with (first | ((with_reducible refine gate_callee (f := 13) rfl ?_); refine goesL_ (some 7) rfl rfl Try.func13 (by kernel_rfl) rfl #[] rfl (by (try simp only [List.map_toArray, List.map_cons, List.map_nil]); first | done | rfl | (simp only [List.length_drop, List.length_take]; rfl)) ?_; (with_reducible refine (punnetlaw04_awake.calls k  false _ A4.out).mono ?_); rintro e w23 ⟨rfl, hb⟩; refine ⟨_, rfl, ?_⟩; have n0_ := Aside0.mk (below_step (by repeat (first | (with_reducible first | exact HB.out | apply below_alloc | apply pw_below_drewN | apply below_drew1) | exact HB.out)) hb); clear HB; have HB := n0_; clear n0_; (try clear hb); (try clear hb2); (try clear hk); (try clear hi)))
    go_ret
    exact ⟨by first | rfl | (simp [errW_none, errW_some] <;> rfl) | (simp [*, errW_none, errW_some] <;> rfl), by repeat (first | (with_reducible first | exact HB.out | apply below_alloc | apply pw_below_drewN | apply below_drew1) | exact HB.out)⟩

/-- THE ONE PURE STATEMENT of punnetlaw04_CodeTurns: yours. -/
def punnetlaw04_CodeTurns.Pure : Prop := ∀ (a0 : Int) (a1 : Int) (a2 : Int), (Lit.int .i64 a0).wf = true → (Lit.int .i64 a1).wf = true → (Lit.int .u64 a2).wf = true → ∃ k, punnetlaw04_CodeTurns.f k a0 a1 a2 = some true
theorem punnetlaw04_CodeTurns.walk (P : punnetlaw04_CodeTurns.Pure) (a0 : Int) (a1 : Int) (a2 : Int) (w : World) (w0 : (Lit.int .i64 a0).wf = true) (w1 : (Lit.int .i64 a1).wf = true) (w2 : (Lit.int .u64 a2).wf = true) :
    Calls Try.prog 3 #[.int .i64 a0, .int .i64 a1, .int .u64 a2] w fun e w' => e = .returned (.bool true) ∧ Below w.heap.size w w' := by
  obtain ⟨k, h⟩ := P a0 a1 a2 w0 w1 w2
  refine (punnetlaw04_CodeTurns.calls k a0 a1 a2 true w h).mono ?_
  rintro e w' ⟨rfl, hd⟩
  exact ⟨rfl, hd⟩

end Go.Proofs.Ytmmofckknopaaaa.Q
