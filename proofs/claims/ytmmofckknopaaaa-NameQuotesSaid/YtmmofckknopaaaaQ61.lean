/- A function of the program or a law's row comes to what the Lean function beside it says; no condition beyond those typed. Written by a program of this workplace; Lean checks it. -/
import Derived.Test.YtmmofckknopaaaaQ0
import Derived.Test.YtmmofckknopaaaaQ42
import Derived.Test.YtmmofckknopaaaaQ43
import Derived.Test.YtmmofckknopaaaaQ50
import Derived.Test.YtmmofckknopaaaaQ51
import Derived.Test.YtmmofckknopaaaaQ53
import Derived.Test.YtmmofckknopaaaaQ58
import Derived.Test.YtmmofckknopaaaaQ59
import Derived.Test.YtmmofckknopaaaaQ60
namespace Go.Proofs.Ytmmofckknopaaaa.Q
open Go.RowKit Go.Proofs.YtmmofckknopaaaaW.PrintWords Go.Proofs.YtmmofckknopaaaaW.PrintLast Go.Proofs.YtmmofckknopaaaaW.PrintMore
attribute [local go_sem] max2_int min2_int max_two min_two max_three min_three max_four min_four   -- for this text's walks alone
set_option linter.unusedVariables false
set_option linter.unusedSimpArgs false

/-! ### punnetlaw05_NameQuotes: function 11 -/
mutual
def punnetlaw05_NameQuotes.j0 : Nat → ByteArray → ByteArray → ByteArray → Bool → Option (Bool)
  | 0, _, _, _, _ => none
  | k + 1, x0, x1, x2, x28 => if x28 = true then (some true) else ((name_Quote.f x0).bind fun bt356 => ((name_Name.f k x0).bind fun t358 => ((punnetref05_Name.f k x0).bind fun t359 => (if (t358 != t359) = true then (punnetlaw05_NameQuotes.j1 k x0 x1 x2 bt356.1 bt356.2 true) else ((name_Text.f x0).bind fun t360 => (punnetlaw05_NameQuotes.j1 k x0 x1 x2 bt356.1 bt356.2 (t360 != (decide ((x0.size : Int) ≤ 40)))))))))
def punnetlaw05_NameQuotes.j1 : Nat → ByteArray → ByteArray → ByteArray → ByteArray → Int → Bool → Option (Bool)
  | 0, _, _, _, _, _, _ => none
  | k + 1, x0, x1, x2, x7, x8, x46 => if x46 = true then (some false) else (if (x0.size : Int) > 40 then (if x7.toList = ([] : List UInt8) then (some (x8 == 14)) else (some false)) else ((name_Unquote.f k x7).bind fun bt361 => (if x1.size + x7.size ≤ 9223372036854775807 then (if (x1 ++ x7).size + x2.size ≤ 9223372036854775807 then ((name_Scan.f k ((x1 ++ x7) ++ x2) (x1.size : Int)).bind fun bt363 => ((punnetref05_Quote.f k x0).bind fun t366 => (if x7.toList = t366.toList then (if x8 = 0 then (if bt361.1.toList = x0.toList then (if bt361.2 = 0 then (if bt363.1.toList = x0.toList then (if bt363.2.1 = (wrap64 ((x1.size : Int) + (x7.size : Int))) then (some (bt363.2.2 == 0)) else (some false)) else (some false)) else (some false)) else (some false)) else (some false)) else (some false)))) else (none)) else (none))))
end
def punnetlaw05_NameQuotes.f (k : Nat) (a0 : ByteArray) (a1 : ByteArray) (a2 : ByteArray) : Option (Bool) := (punnetlaw05_awake.f k).bind fun t355 => (if t355 = true then (if (a0.size : Int) > 500 then (punnetlaw05_NameQuotes.j0 k a0 a1 a2 true) else (if (a1.size : Int) > 500 then (punnetlaw05_NameQuotes.j0 k a0 a1 a2 true) else (punnetlaw05_NameQuotes.j0 k a0 a1 a2 (decide ((a2.size : Int) > 500))))) else (some false))
theorem punnetlaw05_NameQuotes.mono_l : ∀ k, (∀ y0 y1 y2 y3, LeO (punnetlaw05_NameQuotes.j0 k y0 y1 y2 y3) (punnetlaw05_NameQuotes.j0 (k + 1) y0 y1 y2 y3)) ∧ (∀ y0 y1 y2 y3 y4 y5, LeO (punnetlaw05_NameQuotes.j1 k y0 y1 y2 y3 y4 y5) (punnetlaw05_NameQuotes.j1 (k + 1) y0 y1 y2 y3 y4 y5))
  | 0 => ⟨fun _ _ _ _ r h => by simp [punnetlaw05_NameQuotes.j0] at h, fun _ _ _ _ _ _ r h => by simp [punnetlaw05_NameQuotes.j1] at h⟩
  | k + 1 => by
    obtain ⟨ih0, ih1⟩ := punnetlaw05_NameQuotes.mono_l k
    refine ⟨?_, ?_⟩
    · intro y0 y1 y2 y3
      unfold punnetlaw05_NameQuotes.j0
      repeat' first
      | (with_reducible exact ih0 _ _ _ _)
      | (with_reducible exact ih1 _ _ _ _ _ _)
      | (with_reducible exact name_Name.mono _ _)
      | (with_reducible exact name_Scan.mono _ _ _)
      | (with_reducible exact name_Unquote.mono _ _)
      | (with_reducible exact punnetlaw05_awake.mono _)
      | (with_reducible exact punnetref05_Name.mono _ _)
      | (with_reducible exact punnetref05_Quote.mono _ _)
      | (with_reducible exact LeO.refl _)
      | (with_reducible exact LeO.none _)
      | (with_reducible refine LeO.ite ?_ ?_)
      | (with_reducible refine LeO.bind ?_ (fun _ => ?_))
      | exact ih0 _ _ _ _
      | exact ih1 _ _ _ _ _ _
      | exact name_Name.mono _ _
      | exact name_Scan.mono _ _ _
      | exact name_Unquote.mono _ _
      | exact punnetlaw05_awake.mono _
      | exact punnetref05_Name.mono _ _
      | exact punnetref05_Quote.mono _ _
      | exact LeO.none _
      | refine LeO.ite ?_ ?_
      | refine LeO.bind ?_ (fun _ => ?_)
    · intro y0 y1 y2 y3 y4 y5
      unfold punnetlaw05_NameQuotes.j1
      repeat' first
      | (with_reducible exact ih0 _ _ _ _)
      | (with_reducible exact ih1 _ _ _ _ _ _)
      | (with_reducible exact name_Name.mono _ _)
      | (with_reducible exact name_Scan.mono _ _ _)
      | (with_reducible exact name_Unquote.mono _ _)
      | (with_reducible exact punnetlaw05_awake.mono _)
      | (with_reducible exact punnetref05_Name.mono _ _)
      | (with_reducible exact punnetref05_Quote.mono _ _)
      | (with_reducible exact LeO.refl _)
      | (with_reducible exact LeO.none _)
      | (with_reducible refine LeO.ite ?_ ?_)
      | (with_reducible refine LeO.bind ?_ (fun _ => ?_))
      | exact ih0 _ _ _ _
      | exact ih1 _ _ _ _ _ _
      | exact name_Name.mono _ _
      | exact name_Scan.mono _ _ _
      | exact name_Unquote.mono _ _
      | exact punnetlaw05_awake.mono _
      | exact punnetref05_Name.mono _ _
      | exact punnetref05_Quote.mono _ _
      | exact LeO.none _
      | refine LeO.ite ?_ ?_
      | refine LeO.bind ?_ (fun _ => ?_)
theorem punnetlaw05_NameQuotes.mono : ∀ a0 a1 a2 k, LeO (punnetlaw05_NameQuotes.f k a0 a1 a2) (punnetlaw05_NameQuotes.f (k + 1) a0 a1 a2) := by
  intro a0 a1 a2 k
  obtain ⟨ih0, ih1⟩ := punnetlaw05_NameQuotes.mono_l k
  unfold punnetlaw05_NameQuotes.f
  repeat' first
      | (with_reducible exact ih0 _ _ _ _)
      | (with_reducible exact ih1 _ _ _ _ _ _)
      | (with_reducible exact name_Name.mono _ _)
      | (with_reducible exact name_Scan.mono _ _ _)
      | (with_reducible exact name_Unquote.mono _ _)
      | (with_reducible exact punnetlaw05_awake.mono _)
      | (with_reducible exact punnetref05_Name.mono _ _)
      | (with_reducible exact punnetref05_Quote.mono _ _)
      | (with_reducible exact LeO.refl _)
      | (with_reducible exact LeO.none _)
      | (with_reducible refine LeO.ite ?_ ?_)
      | (with_reducible refine LeO.bind ?_ (fun _ => ?_))
      | exact ih0 _ _ _ _
      | exact ih1 _ _ _ _ _ _
      | exact name_Name.mono _ _
      | exact name_Scan.mono _ _ _
      | exact name_Unquote.mono _ _
      | exact punnetlaw05_awake.mono _
      | exact punnetref05_Name.mono _ _
      | exact punnetref05_Quote.mono _ _
      | exact LeO.none _
      | refine LeO.ite ?_ ?_
      | refine LeO.bind ?_ (fun _ => ?_)
set_option maxHeartbeats 8000000 in
set_option maxRecDepth 100000 in
theorem punnetlaw05_NameQuotes.calls (k : Nat) (a0 : ByteArray) (a1 : ByteArray) (a2 : ByteArray) (r : Bool) (w : World) (h : punnetlaw05_NameQuotes.f k a0 a1 a2 = some r) :
    Calls Try.prog 11 #[.string a0, .string a1, .string a2] w fun e w' => e = .returned (.bool r) ∧ Below w.heap.size w w' := by
  have HB := Aside0.mk (Below.refl w.heap.size w)
  have H : ((punnetlaw05_awake.f k).bind fun t355 => (if t355 = true then (if (a0.size : Int) > 500 then (punnetlaw05_NameQuotes.j0 k a0 a1 a2 true) else (if (a1.size : Int) > 500 then (punnetlaw05_NameQuotes.j0 k a0 a1 a2 true) else (punnetlaw05_NameQuotes.j0 k a0 a1 a2 (decide ((a2.size : Int) > 500))))) else (some false))) = some r := h
  clear h
  replace H := Option.bind_eq_some_iff.mp H
  obtain ⟨t355, A40, H⟩ := H
  replace H : (if t355 = true then (if (a0.size : Int) > 500 then (punnetlaw05_NameQuotes.j0 k a0 a1 a2 true) else (if (a1.size : Int) > 500 then (punnetlaw05_NameQuotes.j0 k a0 a1 a2 true) else (punnetlaw05_NameQuotes.j0 k a0 a1 a2 (decide ((a2.size : Int) > 500))))) else (some false)) = some r := H
  have A4 := Aside0.mk A40
  clear A40
  by_cases c5 : t355 = true
  · subst c5
    have H1 : (if (a0.size : Int) > 500 then (punnetlaw05_NameQuotes.j0 k a0 a1 a2 true) else (if (a1.size : Int) > 500 then (punnetlaw05_NameQuotes.j0 k a0 a1 a2 true) else (punnetlaw05_NameQuotes.j0 k a0 a1 a2 (decide ((a2.size : Int) > 500))))) = some r := by rw [if_pos rfl] at H; exact H
    clear H
    have H := H1
    clear H1
    have HC6 := Aside0.mk H
    clear H
    go_enter Try.func11, Try.ntmps11
    go_upto_region 3 with (first | ((with_reducible refine gate_callee (f := 31) rfl ?_); refine goesL_ (some 14) rfl rfl Try.func31 (by kernel_rfl) rfl #[] rfl (by (try simp only [List.map_toArray, List.map_cons, List.map_nil]); first | done | rfl | (simp only [List.length_drop, List.length_take]; rfl)) ?_; (with_reducible refine (punnetlaw05_awake.calls k  true _ A4.out).mono ?_); rintro e w7 ⟨rfl, hb⟩; refine ⟨_, rfl, ?_⟩; have n0_ := Aside0.mk (below_step (by repeat (first | (with_reducible first | exact HB.out | apply below_alloc | apply pw_below_drewN | apply below_drew1) | exact HB.out)) hb); clear HB; have HB := n0_; clear n0_; (try clear hb); (try clear hb2); (try clear hk); (try clear hi)))
    (try simp only [Act.put, List.setIfInBounds_toArray, List.set_cons_zero, List.set_cons_succ])
    go_cut [28] (fun v28 wc => ∃ (kq : Nat) (x28_5 : Bool), v28 = .bool x28_5 ∧ Aside0 (punnetlaw05_NameQuotes.j0 kq a0 a1 a2 x28_5 = some r) ∧ Aside0 (kq ≤ k) ∧ Aside0 (Below w.heap.size w wc))
    case first =>
      have H := HC6.out
      clear HC6
      by_cases c8 : (a0.size : Int) > 500
      · rw [if_pos c8] at H
        have c8b0 : decide (500 < (a0.size : Int)) = true := decide_eq_true c8
        have c8b1 : decide (500 < a0.size) = true := decide_eq_true (by omega)
        clear c8
        (first | rw [c8b0] | (simp only [i64_w, i32_w]; rw [c8b0]) | skip)
        have H' := Aside0.mk H
        clear H
        go_wp2
        go_meet
        case rel => exact ⟨_, (true), (by first | rfl | (simp; done) | (simp [*]; done)), H', ⟨by first | omega | exact Nat.le_refl _⟩, ⟨by repeat (first | (with_reducible first | exact HB.out | apply below_alloc | apply pw_below_drewN | apply below_drew1) | exact HB.out)⟩⟩
      · rw [if_neg c8] at H
        have c8b0 : decide (500 < (a0.size : Int)) = false := decide_eq_false c8
        have c8b1 : decide (500 < a0.size) = false := decide_eq_false (by omega)
        clear c8
        (first | rw [c8b0] | (simp only [i64_w, i32_w]; rw [c8b0]) | skip)
        by_cases c9 : (a1.size : Int) > 500
        · rw [if_pos c9] at H
          have c9b0 : decide (500 < (a1.size : Int)) = true := decide_eq_true c9
          have c9b1 : decide (500 < a1.size) = true := decide_eq_true (by omega)
          clear c9
          have H' := Aside0.mk H
          clear H
          go_wp2
          go_meet
          case rel => exact ⟨_, (true), (by first | rfl | (simp; done) | (simp [*]; done)), H', ⟨by first | omega | exact Nat.le_refl _⟩, ⟨by repeat (first | (with_reducible first | exact HB.out | apply below_alloc | apply pw_below_drewN | apply below_drew1) | exact HB.out)⟩⟩
        · rw [if_neg c9] at H
          have c9b0 : decide (500 < (a1.size : Int)) = false := decide_eq_false c9
          have c9b1 : decide (500 < a1.size) = false := decide_eq_false (by omega)
          clear c9
          have H' := Aside0.mk H
          clear H
          go_wp2
          go_meet
          case rel => exact ⟨_, (decide ((a2.size : Int) > 500)), (by first | rfl | (simp; done) | (simp [*]; done)), H', ⟨by first | omega | exact Nat.le_refl _⟩, ⟨by repeat (first | (with_reducible first | exact HB.out | apply below_alloc | apply pw_below_drewN | apply below_drew1) | exact HB.out)⟩⟩
    case rest =>
      clear HC6
      try clear c1
      try clear p2
      try clear c3
      try clear c5
      try clear c8
      try clear c8b0
      try clear c8b1
      try clear c9
      try clear c9b0
      try clear c9b1
      obtain ⟨kq, x28_5, rfl, HA, HJ5, HB⟩ := hcut
      cases kq with
      | zero => exact absurd HA.out (by simp [punnetlaw05_NameQuotes.j0])
      | succ kj5 =>
        have H := HA.out
        clear HA
        simp only [punnetlaw05_NameQuotes.j0] at H
        by_cases c10 : x28_5 = true
        · subst c10
          have H1 : (some true) = some r := by rw [if_pos rfl] at H; exact H
          clear H
          have H := H1
          clear H1
          obtain rfl := Option.some.inj H
          go_wp2
          go_ret
          exact ⟨by first | rfl | (simp [errW_none, errW_some] <;> rfl) | (simp [*, errW_none, errW_some] <;> rfl), by repeat (first | (with_reducible first | exact HB.out | apply below_alloc | apply pw_below_drewN | apply below_drew1) | exact HB.out)⟩
        · replace c10 := Bool.eq_false_iff.mpr c10
          subst c10
          have H1 : ((name_Quote.f a0).bind fun bt356 => ((name_Name.f kj5 a0).bind fun t358 => ((punnetref05_Name.f kj5 a0).bind fun t359 => (if (t358 != t359) = true then (punnetlaw05_NameQuotes.j1 kj5 a0 a1 a2 bt356.1 bt356.2 true) else ((name_Text.f a0).bind fun t360 => (punnetlaw05_NameQuotes.j1 kj5 a0 a1 a2 bt356.1 bt356.2 (t360 != (decide ((a0.size : Int) ≤ 40))))))))) = some r := by rw [if_neg (show ¬ (false = true) by decide)] at H; exact H
          clear H
          have H := H1
          clear H1
          replace H := Option.bind_eq_some_iff.mp H
          obtain ⟨⟨t356, t357⟩, A110, H⟩ := H
          replace H : ((name_Name.f kj5 a0).bind fun t358 => ((punnetref05_Name.f kj5 a0).bind fun t359 => (if (t358 != t359) = true then (punnetlaw05_NameQuotes.j1 kj5 a0 a1 a2 t356 t357 true) else ((name_Text.f a0).bind fun t360 => (punnetlaw05_NameQuotes.j1 kj5 a0 a1 a2 t356 t357 (t360 != (decide ((a0.size : Int) ≤ 40)))))))) = some r := H
          have A11 := Aside0.mk A110
          clear A110
          have HC12 := Aside0.mk H
          clear H
          go_upto_region 6 with (first | ((with_reducible refine gate_callee (f := 37) rfl ?_); refine goesL_ (some 31) rfl rfl Try.func37 (by kernel_rfl) rfl #[.string a0] rfl (by (try simp only [List.map_toArray, List.map_cons, List.map_nil]); first | done | rfl | (simp only [List.length_drop, List.length_take]; rfl)) ?_; (with_reducible refine (name_Quote.calls a0 t356 t357 _ A11.out).mono ?_); rintro e w13 ⟨rfl, hb⟩; refine ⟨_, rfl, ?_⟩; have n0_ := Aside0.mk (below_step (by repeat (first | (with_reducible first | exact HB.out | apply below_alloc | apply pw_below_drewN | apply below_drew1) | exact HB.out)) hb); clear HB; have HB := n0_; clear n0_; (try clear hb); (try clear hb2); (try clear hk); (try clear hi)))
          (try simp only [Act.put, List.setIfInBounds_toArray, List.set_cons_zero, List.set_cons_succ])
          go_cut [46] (fun v46 wc => ∃ (kq : Nat) (x46_11 : Bool), v46 = .bool x46_11 ∧ Aside0 (punnetlaw05_NameQuotes.j1 kq a0 a1 a2 t356 t357 x46_11 = some r) ∧ Aside0 (kq ≤ kj5) ∧ Aside0 (Below w.heap.size w wc))
          case first =>
            have H := HC12.out
            clear HC12
            replace H := Option.bind_eq_some_iff.mp H
            obtain ⟨t358, A140, H⟩ := H
            replace H : ((punnetref05_Name.f kj5 a0).bind fun t359 => (if (t358 != t359) = true then (punnetlaw05_NameQuotes.j1 kj5 a0 a1 a2 t356 t357 true) else ((name_Text.f a0).bind fun t360 => (punnetlaw05_NameQuotes.j1 kj5 a0 a1 a2 t356 t357 (t360 != (decide ((a0.size : Int) ≤ 40))))))) = some r := H
            have A14 := Aside0.mk A140
            clear A140
            replace H := Option.bind_eq_some_iff.mp H
            obtain ⟨t359, A150, H⟩ := H
            replace H : (if (t358 != t359) = true then (punnetlaw05_NameQuotes.j1 kj5 a0 a1 a2 t356 t357 true) else ((name_Text.f a0).bind fun t360 => (punnetlaw05_NameQuotes.j1 kj5 a0 a1 a2 t356 t357 (t360 != (decide ((a0.size : Int) ≤ 40)))))) = some r := H
            have A15 := Aside0.mk A150
            clear A150
            by_cases c16 : (t358 != t359) = true
            · rw [if_pos c16] at H
              have c16b0 : (t358 != t359) = true := c16
              (try (have c16b1 : decide (t358 = t359) = false := by simpa using c16))
              (try (have c16b2 : (t358 == t359) = false := by simpa using c16))
              (try (have c16b3 : ¬ (t358 = t359) := by simpa using c16))
              clear c16
              (first | rw [c16b0] | (simp only [i64_w, i32_w]; rw [c16b0]) | skip)
              have H' := Aside0.mk H
              clear H
              go_wp2_with (first | ((with_reducible refine gate_callee (f := 38) rfl ?_); refine goesL_ (some 35) rfl rfl Try.func38 (by kernel_rfl) rfl #[.string a0] rfl (by (try simp only [List.map_toArray, List.map_cons, List.map_nil]); first | done | rfl | (simp only [List.length_drop, List.length_take]; rfl)) ?_; (with_reducible refine (name_Name.calls kj5 a0 t358 _ A14.out).mono ?_); rintro e w' ⟨rfl, ⟨nd, rfl⟩⟩; refine ⟨_, rfl, ?_⟩) | ((with_reducible refine gate_callee (f := 35) rfl ?_); refine goesL_ (some 37) rfl rfl Try.func35 (by kernel_rfl) rfl #[.string a0] rfl (by (try simp only [List.map_toArray, List.map_cons, List.map_nil]); first | done | rfl | (simp only [List.length_drop, List.length_take]; rfl)) ?_; (with_reducible refine (punnetref05_Name.calls kj5 a0 t359 _ A15.out).mono ?_); rintro e w' ⟨rfl, ⟨nd, rfl⟩⟩; refine ⟨_, rfl, ?_⟩))
              go_meet
              case rel => exact ⟨_, (true), (by first | rfl | (simp; done) | (simp [*]; done)), H', ⟨by have := HJ5.out; first | omega | exact Nat.le_refl _⟩, ⟨by repeat (first | (with_reducible first | exact HB.out | apply below_alloc | apply pw_below_drewN | apply below_drew1) | exact HB.out)⟩⟩
            · rw [if_neg c16] at H
              have c16b0 : (t358 != t359) = false := by simpa using c16
              (try (have c16b1 : decide (t358 = t359) = true := by simpa using c16))
              (try (have c16b2 : (t358 == t359) = true := by simpa using c16))
              clear c16
              (first | rw [c16b0] | (simp only [i64_w, i32_w]; rw [c16b0]) | skip)
              replace H := Option.bind_eq_some_iff.mp H
              obtain ⟨t360, A170, H⟩ := H
              replace H : (punnetlaw05_NameQuotes.j1 kj5 a0 a1 a2 t356 t357 (t360 != (decide ((a0.size : Int) ≤ 40)))) = some r := H
              have A17 := Aside0.mk A170
              clear A170
              have H' := Aside0.mk H
              clear H
              go_wp2_with (first | ((with_reducible refine gate_callee (f := 38) rfl ?_); refine goesL_ (some 35) rfl rfl Try.func38 (by kernel_rfl) rfl #[.string a0] rfl (by (try simp only [List.map_toArray, List.map_cons, List.map_nil]); first | done | rfl | (simp only [List.length_drop, List.length_take]; rfl)) ?_; (with_reducible refine (name_Name.calls kj5 a0 t358 _ A14.out).mono ?_); rintro e w' ⟨rfl, ⟨nd, rfl⟩⟩; refine ⟨_, rfl, ?_⟩) | ((with_reducible refine gate_callee (f := 35) rfl ?_); refine goesL_ (some 37) rfl rfl Try.func35 (by kernel_rfl) rfl #[.string a0] rfl (by (try simp only [List.map_toArray, List.map_cons, List.map_nil]); first | done | rfl | (simp only [List.length_drop, List.length_take]; rfl)) ?_; (with_reducible refine (punnetref05_Name.calls kj5 a0 t359 _ A15.out).mono ?_); rintro e w' ⟨rfl, ⟨nd, rfl⟩⟩; refine ⟨_, rfl, ?_⟩) | (go_at_call 39; (with_reducible refine (name_Text.calls a0 t360 _ A17.out).mono ?_); rintro e w' ⟨rfl, ⟨nd, rfl⟩⟩))
              go_meet
              case rel => exact ⟨_, ((t360 != (decide ((a0.size : Int) ≤ 40)))), (by first | rfl | (simp; done) | (simp [*]; done)), H', ⟨by have := HJ5.out; first | omega | exact Nat.le_refl _⟩, ⟨by repeat (first | (with_reducible first | exact HB.out | apply below_alloc | apply pw_below_drewN | apply below_drew1) | exact HB.out)⟩⟩
          case rest =>
            clear HC12
            try clear c1
            try clear p2
            try clear c3
            try clear c5
            try clear c8
            try clear c8b0
            try clear c8b1
            try clear c9
            try clear c9b0
            try clear c9b1
            try clear c10
            try clear c11
            try clear c16
            try clear c16b0
            try clear c16b1
            try clear c16b2
            try clear p2
            obtain ⟨kq, x46_11, rfl, HA, HJ11, HB⟩ := hcut
            cases kq with
            | zero => exact absurd HA.out (by simp [punnetlaw05_NameQuotes.j1])
            | succ kj11 =>
              have H := HA.out
              clear HA
              simp only [punnetlaw05_NameQuotes.j1] at H
              by_cases c18 : x46_11 = true
              · subst c18
                have H1 : (some false) = some r := by rw [if_pos rfl] at H; exact H
                clear H
                have H := H1
                clear H1
                obtain rfl := Option.some.inj H
                go_wp2
                go_ret
                exact ⟨by first | rfl | (simp [errW_none, errW_some] <;> rfl) | (simp [*, errW_none, errW_some] <;> rfl), by repeat (first | (with_reducible first | exact HB.out | apply below_alloc | apply pw_below_drewN | apply below_drew1) | exact HB.out)⟩
              · replace c18 := Bool.eq_false_iff.mpr c18
                subst c18
                have H1 : (if (a0.size : Int) > 40 then (if t356.toList = ([] : List UInt8) then (some (t357 == 14)) else (some false)) else ((name_Unquote.f kj11 t356).bind fun bt361 => (if a1.size + t356.size ≤ 9223372036854775807 then (if (a1 ++ t356).size + a2.size ≤ 9223372036854775807 then ((name_Scan.f kj11 ((a1 ++ t356) ++ a2) (a1.size : Int)).bind fun bt363 => ((punnetref05_Quote.f kj11 a0).bind fun t366 => (if t356.toList = t366.toList then (if t357 = 0 then (if bt361.1.toList = a0.toList then (if bt361.2 = 0 then (if bt363.1.toList = a0.toList then (if bt363.2.1 = (wrap64 ((a1.size : Int) + (t356.size : Int))) then (some (bt363.2.2 == 0)) else (some false)) else (some false)) else (some false)) else (some false)) else (some false)) else (some false)))) else (none)) else (none)))) = some r := by rw [if_neg (show ¬ (false = true) by decide)] at H; exact H
                clear H
                have H := H1
                clear H1
                by_cases c19 : (a0.size : Int) > 40
                · rw [if_pos c19] at H
                  have c19b0 : decide (40 < (a0.size : Int)) = true := decide_eq_true c19
                  have c19b1 : decide (40 < a0.size) = true := decide_eq_true (by omega)
                  clear c19
                  by_cases c20 : t356.toList = ([] : List UInt8)
                  · rw [if_pos c20] at H
                    have c20b0 : (t356.toList == ([] : List UInt8)) = true := beq_iff_eq.mpr c20
                    have c20b1 : (t356.toList != ([] : List UInt8)) = false := bne_eq_false_iff_eq.mpr c20
                    clear c20
                    obtain rfl := Option.some.inj H
                    go_wp2
                    go_ret
                    exact ⟨by first | rfl | (simp [errW_none, errW_some] <;> rfl) | (simp [*, errW_none, errW_some] <;> rfl), by repeat (first | (with_reducible first | exact HB.out | apply below_alloc | apply pw_below_drewN | apply below_drew1) | exact HB.out)⟩
                  · rw [if_neg c20] at H
                    have c20b0 : (t356.toList == ([] : List UInt8)) = false := beq_eq_false_iff_ne.mpr c20
                    have c20b1 : (t356.toList != ([] : List UInt8)) = true := bne_iff_ne.mpr c20
                    obtain rfl := Option.some.inj H
                    go_wp2
                    go_ret
                    exact ⟨by first | rfl | (simp [errW_none, errW_some] <;> rfl) | (simp [*, errW_none, errW_some] <;> rfl), by repeat (first | (with_reducible first | exact HB.out | apply below_alloc | apply pw_below_drewN | apply below_drew1) | exact HB.out)⟩
                · rw [if_neg c19] at H
                  have c19b0 : decide (40 < (a0.size : Int)) = false := decide_eq_false c19
                  have c19b1 : decide (40 < a0.size) = false := decide_eq_false (by omega)
                  clear c19
                  replace H := Option.bind_eq_some_iff.mp H
                  obtain ⟨⟨t361, t362⟩, A210, H⟩ := H
                  replace H : (if a1.size + t356.size ≤ 9223372036854775807 then (if (a1 ++ t356).size + a2.size ≤ 9223372036854775807 then ((name_Scan.f kj11 ((a1 ++ t356) ++ a2) (a1.size : Int)).bind fun bt363 => ((punnetref05_Quote.f kj11 a0).bind fun t366 => (if t356.toList = t366.toList then (if t357 = 0 then (if t361.toList = a0.toList then (if t362 = 0 then (if bt363.1.toList = a0.toList then (if bt363.2.1 = (wrap64 ((a1.size : Int) + (t356.size : Int))) then (some (bt363.2.2 == 0)) else (some false)) else (some false)) else (some false)) else (some false)) else (some false)) else (some false)))) else (none)) else (none)) = some r := H
                  have A21 := Aside0.mk A210
                  clear A210
                  by_cases c22 : a1.size + t356.size ≤ 9223372036854775807
                  · rw [if_pos c22] at H
                    have c22b0 := eq_true c22
                    have c22b1 : decide (a1.size + t356.size ≤ 9223372036854775807) = true := decide_eq_true c22
                    try have c22b2 : (9223372036854775807 < a1.size + t356.size) = False := eq_false (Nat.not_lt.2 c22)
                    by_cases c23 : (a1 ++ t356).size + a2.size ≤ 9223372036854775807
                    · rw [if_pos c23] at H
                      have c23b0 := eq_true c23
                      have c23b1 : decide ((a1 ++ t356).size + a2.size ≤ 9223372036854775807) = true := decide_eq_true c23
                      try have c23b2 : (9223372036854775807 < (a1 ++ t356).size + a2.size) = False := eq_false (Nat.not_lt.2 c23)
                      try (have c23b3 := c23; simp [] at c23b3; have c23b4 := eq_false (Nat.not_lt.2 c23b3))
                      replace H := Option.bind_eq_some_iff.mp H
                      obtain ⟨⟨t363, t364, t365⟩, A240, H⟩ := H
                      replace H : ((punnetref05_Quote.f kj11 a0).bind fun t366 => (if t356.toList = t366.toList then (if t357 = 0 then (if t361.toList = a0.toList then (if t362 = 0 then (if t363.toList = a0.toList then (if t364 = (wrap64 ((a1.size : Int) + (t356.size : Int))) then (some (t365 == 0)) else (some false)) else (some false)) else (some false)) else (some false)) else (some false)) else (some false))) = some r := H
                      have A24 := Aside0.mk A240
                      clear A240
                      replace H := Option.bind_eq_some_iff.mp H
                      obtain ⟨t366, A250, H⟩ := H
                      replace H : (if t356.toList = t366.toList then (if t357 = 0 then (if t361.toList = a0.toList then (if t362 = 0 then (if t363.toList = a0.toList then (if t364 = (wrap64 ((a1.size : Int) + (t356.size : Int))) then (some (t365 == 0)) else (some false)) else (some false)) else (some false)) else (some false)) else (some false)) else (some false)) = some r := H
                      have A25 := Aside0.mk A250
                      clear A250
                      by_cases c26 : t356.toList = t366.toList
                      · rw [if_pos c26] at H
                        have c26b0 : (t356.toList == t366.toList) = true := beq_iff_eq.mpr c26
                        have c26b1 : (t356.toList != t366.toList) = false := bne_eq_false_iff_eq.mpr c26
                        clear c26
                        by_cases c27 : t357 = 0
                        · rw [if_pos c27] at H
                          have c27b0 : (t357 == 0) = true := beq_iff_eq.mpr c27
                          have c27b1 : (t357 != 0) = false := bne_eq_false_iff_eq.mpr c27
                          clear c27
                          by_cases c28 : t361.toList = a0.toList
                          · rw [if_pos c28] at H
                            have c28b0 : (t361.toList == a0.toList) = true := beq_iff_eq.mpr c28
                            have c28b1 : (t361.toList != a0.toList) = false := bne_eq_false_iff_eq.mpr c28
                            clear c28
                            by_cases c29 : t362 = 0
                            · rw [if_pos c29] at H
                              have c29b0 : (t362 == 0) = true := beq_iff_eq.mpr c29
                              have c29b1 : (t362 != 0) = false := bne_eq_false_iff_eq.mpr c29
                              clear c29
                              by_cases c30 : t363.toList = a0.toList
                              · rw [if_pos c30] at H
                                have c30b0 : (t363.toList == a0.toList) = true := beq_iff_eq.mpr c30
                                have c30b1 : (t363.toList != a0.toList) = false := bne_eq_false_iff_eq.mpr c30
                                clear c30
                                by_cases c31 : t364 = (wrap64 ((a1.size : Int) + (t356.size : Int)))
                                · rw [if_pos c31] at H
                                  have c31b0 : (t364 == (wrap64 ((a1.size : Int) + (t356.size : Int)))) = true := beq_iff_eq.mpr c31
                                  try (have c31b0w : (t364 == (((a1.size : Int) + (t356.size : Int)))) = true := by (rw [show ((a1.size : Int) + (t356.size : Int)) = wrap64 ((a1.size : Int) + (t356.size : Int)) from (by unfold wrap64; omega)]; exact c31b0))
                                  have c31b1 : (t364 != (wrap64 ((a1.size : Int) + (t356.size : Int)))) = false := bne_eq_false_iff_eq.mpr c31
                                  try (have c31b1w : (t364 != (((a1.size : Int) + (t356.size : Int)))) = false := by (rw [show ((a1.size : Int) + (t356.size : Int)) = wrap64 ((a1.size : Int) + (t356.size : Int)) from (by unfold wrap64; omega)]; exact c31b1))
                                  clear c31
                                  obtain rfl := Option.some.inj H
                                  go_wp2_with (first | ((with_reducible refine gate_callee (f := 40) rfl ?_); refine goesL_ (some 58) rfl rfl Try.func40 (by kernel_rfl) rfl #[.string t356] rfl (by (try simp only [List.map_toArray, List.map_cons, List.map_nil]); first | done | rfl | (simp only [List.length_drop, List.length_take]; rfl)) ?_; (with_reducible refine (name_Unquote.calls kj11 t356 t361 t362 _ A21.out).mono ?_); rintro e w32 ⟨rfl, hb⟩; refine ⟨_, rfl, ?_⟩; have n0_ := Aside0.mk (below_step (by repeat (first | (with_reducible first | exact HB.out | apply below_alloc | apply pw_below_drewN | apply below_drew1) | exact HB.out)) hb); clear HB; have HB := n0_; clear n0_; (try clear hb); (try clear hb2); (try clear hk); (try clear hi)) | ((with_reducible refine gate_callee (f := 41) rfl ?_); refine goesL_ (some 69) rfl rfl Try.func41 (by kernel_rfl) rfl #[.string ((a1 ++ t356) ++ a2), .int .i64 (a1.size : Int)] rfl (by (try simp only [List.map_toArray, List.map_cons, List.map_nil]); first | done | rfl | (simp only [List.length_drop, List.length_take]; rfl)) ?_; (with_reducible refine (name_Scan.calls kj11 ((a1 ++ t356) ++ a2) (a1.size : Int) t363 t364 t365 _ A24.out).mono ?_); rintro e w33 ⟨rfl, hb⟩; refine ⟨_, rfl, ?_⟩; have n0_ := Aside0.mk (below_step (by repeat (first | (with_reducible first | exact HB.out | apply below_alloc | apply pw_below_drewN | apply below_drew1) | exact HB.out)) hb); clear HB; have HB := n0_; clear n0_; (try clear hb); (try clear hb2); (try clear hk); (try clear hi)) | ((with_reducible refine gate_callee (f := 36) rfl ?_); refine goesL_ (some 75) rfl rfl Try.func36 (by kernel_rfl) rfl #[.string a0] rfl (by (try simp only [List.map_toArray, List.map_cons, List.map_nil]); first | done | rfl | (simp only [List.length_drop, List.length_take]; rfl)) ?_; (with_reducible refine (punnetref05_Quote.calls kj11 a0 t366 _ A25.out).mono ?_); rintro e w34 ⟨rfl, hb⟩; refine ⟨_, rfl, ?_⟩; have n0_ := Aside0.mk (below_step (by repeat (first | (with_reducible first | exact HB.out | apply below_alloc | apply pw_below_drewN | apply below_drew1) | exact HB.out)) hb); clear HB; have HB := n0_; clear n0_; (try clear hb); (try clear hb2); (try clear hk); (try clear hi)))
                                  go_ret
                                  exact ⟨by first | rfl | (simp [errW_none, errW_some] <;> rfl) | (simp [*, errW_none, errW_some] <;> rfl), by repeat (first | (with_reducible first | exact HB.out | apply below_alloc | apply pw_below_drewN | apply below_drew1) | exact HB.out)⟩
                                · rw [if_neg c31] at H
                                  have c31b0 : (t364 == (wrap64 ((a1.size : Int) + (t356.size : Int)))) = false := beq_eq_false_iff_ne.mpr c31
                                  try (have c31b0w : (t364 == (((a1.size : Int) + (t356.size : Int)))) = false := by (rw [show ((a1.size : Int) + (t356.size : Int)) = wrap64 ((a1.size : Int) + (t356.size : Int)) from (by unfold wrap64; omega)]; exact c31b0))
                                  have c31b1 : (t364 != (wrap64 ((a1.size : Int) + (t356.size : Int)))) = true := bne_iff_ne.mpr c31
                                  try (have c31b1w : (t364 != (((a1.size : Int) + (t356.size : Int)))) = true := by (rw [show ((a1.size : Int) + (t356.size : Int)) = wrap64 ((a1.size : Int) + (t356.size : Int)) from (by unfold wrap64; omega)]; exact c31b1))
                                  obtain rfl := Option.some.inj H
                                  go_wp2_with (first | ((with_reducible refine gate_callee (f := 40) rfl ?_); refine goesL_ (some 58) rfl rfl Try.func40 (by kernel_rfl) rfl #[.string t356] rfl (by (try simp only [List.map_toArray, List.map_cons, List.map_nil]); first | done | rfl | (simp only [List.length_drop, List.length_take]; rfl)) ?_; (with_reducible refine (name_Unquote.calls kj11 t356 t361 t362 _ A21.out).mono ?_); rintro e w35 ⟨rfl, hb⟩; refine ⟨_, rfl, ?_⟩; have n0_ := Aside0.mk (below_step (by repeat (first | (with_reducible first | exact HB.out | apply below_alloc | apply pw_below_drewN | apply below_drew1) | exact HB.out)) hb); clear HB; have HB := n0_; clear n0_; (try clear hb); (try clear hb2); (try clear hk); (try clear hi)) | ((with_reducible refine gate_callee (f := 41) rfl ?_); refine goesL_ (some 69) rfl rfl Try.func41 (by kernel_rfl) rfl #[.string ((a1 ++ t356) ++ a2), .int .i64 (a1.size : Int)] rfl (by (try simp only [List.map_toArray, List.map_cons, List.map_nil]); first | done | rfl | (simp only [List.length_drop, List.length_take]; rfl)) ?_; (with_reducible refine (name_Scan.calls kj11 ((a1 ++ t356) ++ a2) (a1.size : Int) t363 t364 t365 _ A24.out).mono ?_); rintro e w36 ⟨rfl, hb⟩; refine ⟨_, rfl, ?_⟩; have n0_ := Aside0.mk (below_step (by repeat (first | (with_reducible first | exact HB.out | apply below_alloc | apply pw_below_drewN | apply below_drew1) | exact HB.out)) hb); clear HB; have HB := n0_; clear n0_; (try clear hb); (try clear hb2); (try clear hk); (try clear hi)) | ((with_reducible refine gate_callee (f := 36) rfl ?_); refine goesL_ (some 75) rfl rfl Try.func36 (by kernel_rfl) rfl #[.string a0] rfl (by (try simp only [List.map_toArray, List.map_cons, List.map_nil]); first | done | rfl | (simp only [List.length_drop, List.length_take]; rfl)) ?_; (with_reducible refine (punnetref05_Quote.calls kj11 a0 t366 _ A25.out).mono ?_); rintro e w37 ⟨rfl, hb⟩; refine ⟨_, rfl, ?_⟩; have n0_ := Aside0.mk (below_step (by repeat (first | (with_reducible first | exact HB.out | apply below_alloc | apply pw_below_drewN | apply below_drew1) | exact HB.out)) hb); clear HB; have HB := n0_; clear n0_; (try clear hb); (try clear hb2); (try clear hk); (try clear hi)))
                                  go_ret
                                  exact ⟨by first | rfl | (simp [errW_none, errW_some] <;> rfl) | (simp [*, errW_none, errW_some] <;> rfl), by repeat (first | (with_reducible first | exact HB.out | apply below_alloc | apply pw_below_drewN | apply below_drew1) | exact HB.out)⟩
                              · rw [if_neg c30] at H
                                have c30b0 : (t363.toList == a0.toList) = false := beq_eq_false_iff_ne.mpr c30
                                have c30b1 : (t363.toList != a0.toList) = true := bne_iff_ne.mpr c30
                                obtain rfl := Option.some.inj H
                                go_wp2_with (first | ((with_reducible refine gate_callee (f := 40) rfl ?_); refine goesL_ (some 58) rfl rfl Try.func40 (by kernel_rfl) rfl #[.string t356] rfl (by (try simp only [List.map_toArray, List.map_cons, List.map_nil]); first | done | rfl | (simp only [List.length_drop, List.length_take]; rfl)) ?_; (with_reducible refine (name_Unquote.calls kj11 t356 t361 t362 _ A21.out).mono ?_); rintro e w38 ⟨rfl, hb⟩; refine ⟨_, rfl, ?_⟩; have n0_ := Aside0.mk (below_step (by repeat (first | (with_reducible first | exact HB.out | apply below_alloc | apply pw_below_drewN | apply below_drew1) | exact HB.out)) hb); clear HB; have HB := n0_; clear n0_; (try clear hb); (try clear hb2); (try clear hk); (try clear hi)) | ((with_reducible refine gate_callee (f := 41) rfl ?_); refine goesL_ (some 69) rfl rfl Try.func41 (by kernel_rfl) rfl #[.string ((a1 ++ t356) ++ a2), .int .i64 (a1.size : Int)] rfl (by (try simp only [List.map_toArray, List.map_cons, List.map_nil]); first | done | rfl | (simp only [List.length_drop, List.length_take]; rfl)) ?_; (with_reducible refine (name_Scan.calls kj11 ((a1 ++ t356) ++ a2) (a1.size : Int) t363 t364 t365 _ A24.out).mono ?_); rintro e w39 ⟨rfl, hb⟩; refine ⟨_, rfl, ?_⟩; have n0_ := Aside0.mk (below_step (by repeat (first | (with_reducible first | exact HB.out | apply below_alloc | apply pw_below_drewN | apply below_drew1) | exact HB.out)) hb); clear HB; have HB := n0_; clear n0_; (try clear hb); (try clear hb2); (try clear hk); (try clear hi)) | ((with_reducible refine gate_callee (f := 36) rfl ?_); refine goesL_ (some 75) rfl rfl Try.func36 (by kernel_rfl) rfl #[.string a0] rfl (by (try simp only [List.map_toArray, List.map_cons, List.map_nil]); first | done | rfl | (simp only [List.length_drop, List.length_take]; rfl)) ?_; (with_reducible refine (punnetref05_Quote.calls kj11 a0 t366 _ A25.out).mono ?_); rintro e w40 ⟨rfl, hb⟩; refine ⟨_, rfl, ?_⟩; have n0_ := Aside0.mk (below_step (by repeat (first | (with_reducible first | exact HB.out | apply below_alloc | apply pw_below_drewN | apply below_drew1) | exact HB.out)) hb); clear HB; have HB := n0_; clear n0_; (try clear hb); (try clear hb2); (try clear hk); (try clear hi)))
                                go_ret
                                exact ⟨by first | rfl | (simp [errW_none, errW_some] <;> rfl) | (simp [*, errW_none, errW_some] <;> rfl), by repeat (first | (with_reducible first | exact HB.out | apply below_alloc | apply pw_below_drewN | apply below_drew1) | exact HB.out)⟩
                            · rw [if_neg c29] at H
                              have c29b0 : (t362 == 0) = false := beq_eq_false_iff_ne.mpr c29
                              have c29b1 : (t362 != 0) = true := bne_iff_ne.mpr c29
                              obtain rfl := Option.some.inj H
                              go_wp2_with (first | ((with_reducible refine gate_callee (f := 40) rfl ?_); refine goesL_ (some 58) rfl rfl Try.func40 (by kernel_rfl) rfl #[.string t356] rfl (by (try simp only [List.map_toArray, List.map_cons, List.map_nil]); first | done | rfl | (simp only [List.length_drop, List.length_take]; rfl)) ?_; (with_reducible refine (name_Unquote.calls kj11 t356 t361 t362 _ A21.out).mono ?_); rintro e w41 ⟨rfl, hb⟩; refine ⟨_, rfl, ?_⟩; have n0_ := Aside0.mk (below_step (by repeat (first | (with_reducible first | exact HB.out | apply below_alloc | apply pw_below_drewN | apply below_drew1) | exact HB.out)) hb); clear HB; have HB := n0_; clear n0_; (try clear hb); (try clear hb2); (try clear hk); (try clear hi)) | ((with_reducible refine gate_callee (f := 41) rfl ?_); refine goesL_ (some 69) rfl rfl Try.func41 (by kernel_rfl) rfl #[.string ((a1 ++ t356) ++ a2), .int .i64 (a1.size : Int)] rfl (by (try simp only [List.map_toArray, List.map_cons, List.map_nil]); first | done | rfl | (simp only [List.length_drop, List.length_take]; rfl)) ?_; (with_reducible refine (name_Scan.calls kj11 ((a1 ++ t356) ++ a2) (a1.size : Int) t363 t364 t365 _ A24.out).mono ?_); rintro e w42 ⟨rfl, hb⟩; refine ⟨_, rfl, ?_⟩; have n0_ := Aside0.mk (below_step (by repeat (first | (with_reducible first | exact HB.out | apply below_alloc | apply pw_below_drewN | apply below_drew1) | exact HB.out)) hb); clear HB; have HB := n0_; clear n0_; (try clear hb); (try clear hb2); (try clear hk); (try clear hi)) | ((with_reducible refine gate_callee (f := 36) rfl ?_); refine goesL_ (some 75) rfl rfl Try.func36 (by kernel_rfl) rfl #[.string a0] rfl (by (try simp only [List.map_toArray, List.map_cons, List.map_nil]); first | done | rfl | (simp only [List.length_drop, List.length_take]; rfl)) ?_; (with_reducible refine (punnetref05_Quote.calls kj11 a0 t366 _ A25.out).mono ?_); rintro e w43 ⟨rfl, hb⟩; refine ⟨_, rfl, ?_⟩; have n0_ := Aside0.mk (below_step (by repeat (first | (with_reducible first | exact HB.out | apply below_alloc | apply pw_below_drewN | apply below_drew1) | exact HB.out)) hb); clear HB; have HB := n0_; clear n0_; (try clear hb); (try clear hb2); (try clear hk); (try clear hi)))
                              go_ret
                              exact ⟨by first | rfl | (simp [errW_none, errW_some] <;> rfl) | (simp [*, errW_none, errW_some] <;> rfl), by repeat (first | (with_reducible first | exact HB.out | apply below_alloc | apply pw_below_drewN | apply below_drew1) | exact HB.out)⟩
                          · rw [if_neg c28] at H
                            have c28b0 : (t361.toList == a0.toList) = false := beq_eq_false_iff_ne.mpr c28
                            have c28b1 : (t361.toList != a0.toList) = true := bne_iff_ne.mpr c28
                            obtain rfl := Option.some.inj H
                            go_wp2_with (first | ((with_reducible refine gate_callee (f := 40) rfl ?_); refine goesL_ (some 58) rfl rfl Try.func40 (by kernel_rfl) rfl #[.string t356] rfl (by (try simp only [List.map_toArray, List.map_cons, List.map_nil]); first | done | rfl | (simp only [List.length_drop, List.length_take]; rfl)) ?_; (with_reducible refine (name_Unquote.calls kj11 t356 t361 t362 _ A21.out).mono ?_); rintro e w44 ⟨rfl, hb⟩; refine ⟨_, rfl, ?_⟩; have n0_ := Aside0.mk (below_step (by repeat (first | (with_reducible first | exact HB.out | apply below_alloc | apply pw_below_drewN | apply below_drew1) | exact HB.out)) hb); clear HB; have HB := n0_; clear n0_; (try clear hb); (try clear hb2); (try clear hk); (try clear hi)) | ((with_reducible refine gate_callee (f := 41) rfl ?_); refine goesL_ (some 69) rfl rfl Try.func41 (by kernel_rfl) rfl #[.string ((a1 ++ t356) ++ a2), .int .i64 (a1.size : Int)] rfl (by (try simp only [List.map_toArray, List.map_cons, List.map_nil]); first | done | rfl | (simp only [List.length_drop, List.length_take]; rfl)) ?_; (with_reducible refine (name_Scan.calls kj11 ((a1 ++ t356) ++ a2) (a1.size : Int) t363 t364 t365 _ A24.out).mono ?_); rintro e w45 ⟨rfl, hb⟩; refine ⟨_, rfl, ?_⟩; have n0_ := Aside0.mk (below_step (by repeat (first | (with_reducible first | exact HB.out | apply below_alloc | apply pw_below_drewN | apply below_drew1) | exact HB.out)) hb); clear HB; have HB := n0_; clear n0_; (try clear hb); (try clear hb2); (try clear hk); (try clear hi)) | ((with_reducible refine gate_callee (f := 36) rfl ?_); refine goesL_ (some 75) rfl rfl Try.func36 (by kernel_rfl) rfl #[.string a0] rfl (by (try simp only [List.map_toArray, List.map_cons, List.map_nil]); first | done | rfl | (simp only [List.length_drop, List.length_take]; rfl)) ?_; (with_reducible refine (punnetref05_Quote.calls kj11 a0 t366 _ A25.out).mono ?_); rintro e w46 ⟨rfl, hb⟩; refine ⟨_, rfl, ?_⟩; have n0_ := Aside0.mk (below_step (by repeat (first | (with_reducible first | exact HB.out | apply below_alloc | apply pw_below_drewN | apply below_drew1) | exact HB.out)) hb); clear HB; have HB := n0_; clear n0_; (try clear hb); (try clear hb2); (try clear hk); (try clear hi)))
                            go_ret
                            exact ⟨by first | rfl | (simp [errW_none, errW_some] <;> rfl) | (simp [*, errW_none, errW_some] <;> rfl), by repeat (first | (with_reducible first | exact HB.out | apply below_alloc | apply pw_below_drewN | apply below_drew1) | exact HB.out)⟩
                        · rw [if_neg c27] at H
                          have c27b0 : (t357 == 0) = false := beq_eq_false_iff_ne.mpr c27
                          have c27b1 : (t357 != 0) = true := bne_iff_ne.mpr c27
                          obtain rfl := Option.some.inj H
                          go_wp2_with (first | ((with_reducible refine gate_callee (f := 40) rfl ?_); refine goesL_ (some 58) rfl rfl Try.func40 (by kernel_rfl) rfl #[.string t356] rfl (by (try simp only [List.map_toArray, List.map_cons, List.map_nil]); first | done | rfl | (simp only [List.length_drop, List.length_take]; rfl)) ?_; (with_reducible refine (name_Unquote.calls kj11 t356 t361 t362 _ A21.out).mono ?_); rintro e w47 ⟨rfl, hb⟩; refine ⟨_, rfl, ?_⟩; have n0_ := Aside0.mk (below_step (by repeat (first | (with_reducible first | exact HB.out | apply below_alloc | apply pw_below_drewN | apply below_drew1) | exact HB.out)) hb); clear HB; have HB := n0_; clear n0_; (try clear hb); (try clear hb2); (try clear hk); (try clear hi)) | ((with_reducible refine gate_callee (f := 41) rfl ?_); refine goesL_ (some 69) rfl rfl Try.func41 (by kernel_rfl) rfl #[.string ((a1 ++ t356) ++ a2), .int .i64 (a1.size : Int)] rfl (by (try simp only [List.map_toArray, List.map_cons, List.map_nil]); first | done | rfl | (simp only [List.length_drop, List.length_take]; rfl)) ?_; (with_reducible refine (name_Scan.calls kj11 ((a1 ++ t356) ++ a2) (a1.size : Int) t363 t364 t365 _ A24.out).mono ?_); rintro e w48 ⟨rfl, hb⟩; refine ⟨_, rfl, ?_⟩; have n0_ := Aside0.mk (below_step (by repeat (first | (with_reducible first | exact HB.out | apply below_alloc | apply pw_below_drewN | apply below_drew1) | exact HB.out)) hb); clear HB; have HB := n0_; clear n0_; (try clear hb); (try clear hb2); (try clear hk); (try clear hi)) | ((with_reducible refine gate_callee (f := 36) rfl ?_); refine goesL_ (some 75) rfl rfl Try.func36 (by kernel_rfl) rfl #[.string a0] rfl (by (try simp only [List.map_toArray, List.map_cons, List.map_nil]); first | done | rfl | (simp only [List.length_drop, List.length_take]; rfl)) ?_; (with_reducible refine (punnetref05_Quote.calls kj11 a0 t366 _ A25.out).mono ?_); rintro e w49 ⟨rfl, hb⟩; refine ⟨_, rfl, ?_⟩; have n0_ := Aside0.mk (below_step (by repeat (first | (with_reducible first | exact HB.out | apply below_alloc | apply pw_below_drewN | apply below_drew1) | exact HB.out)) hb); clear HB; have HB := n0_; clear n0_; (try clear hb); (try clear hb2); (try clear hk); (try clear hi)))
                          go_ret
                          exact ⟨by first | rfl | (simp [errW_none, errW_some] <;> rfl) | (simp [*, errW_none, errW_some] <;> rfl), by repeat (first | (with_reducible first | exact HB.out | apply below_alloc | apply pw_below_drewN | apply below_drew1) | exact HB.out)⟩
                      · rw [if_neg c26] at H
                        have c26b0 : (t356.toList == t366.toList) = false := beq_eq_false_iff_ne.mpr c26
                        have c26b1 : (t356.toList != t366.toList) = true := bne_iff_ne.mpr c26
                        obtain rfl := Option.some.inj H
                        go_wp2_with (first | ((with_reducible refine gate_callee (f := 40) rfl ?_); refine goesL_ (some 58) rfl rfl Try.func40 (by kernel_rfl) rfl #[.string t356] rfl (by (try simp only [List.map_toArray, List.map_cons, List.map_nil]); first | done | rfl | (simp only [List.length_drop, List.length_take]; rfl)) ?_; (with_reducible refine (name_Unquote.calls kj11 t356 t361 t362 _ A21.out).mono ?_); rintro e w50 ⟨rfl, hb⟩; refine ⟨_, rfl, ?_⟩; have n0_ := Aside0.mk (below_step (by repeat (first | (with_reducible first | exact HB.out | apply below_alloc | apply pw_below_drewN | apply below_drew1) | exact HB.out)) hb); clear HB; have HB := n0_; clear n0_; (try clear hb); (try clear hb2); (try clear hk); (try clear hi)) | ((with_reducible refine gate_callee (f := 41) rfl ?_); refine goesL_ (some 69) rfl rfl Try.func41 (by kernel_rfl) rfl #[.string ((a1 ++ t356) ++ a2), .int .i64 (a1.size : Int)] rfl (by (try simp only [List.map_toArray, List.map_cons, List.map_nil]); first | done | rfl | (simp only [List.length_drop, List.length_take]; rfl)) ?_; (with_reducible refine (name_Scan.calls kj11 ((a1 ++ t356) ++ a2) (a1.size : Int) t363 t364 t365 _ A24.out).mono ?_); rintro e w51 ⟨rfl, hb⟩; refine ⟨_, rfl, ?_⟩; have n0_ := Aside0.mk (below_step (by repeat (first | (with_reducible first | exact HB.out | apply below_alloc | apply pw_below_drewN | apply below_drew1) | exact HB.out)) hb); clear HB; have HB := n0_; clear n0_; (try clear hb); (try clear hb2); (try clear hk); (try clear hi)) | ((with_reducible refine gate_callee (f := 36) rfl ?_); refine goesL_ (some 75) rfl rfl Try.func36 (by kernel_rfl) rfl #[.string a0] rfl (by (try simp only [List.map_toArray, List.map_cons, List.map_nil]); first | done | rfl | (simp only [List.length_drop, List.length_take]; rfl)) ?_; (with_reducible refine (punnetref05_Quote.calls kj11 a0 t366 _ A25.out).mono ?_); rintro e w52 ⟨rfl, hb⟩; refine ⟨_, rfl, ?_⟩; have n0_ := Aside0.mk (below_step (by repeat (first | (with_reducible first | exact HB.out | apply below_alloc | apply pw_below_drewN | apply below_drew1) | exact HB.out)) hb); clear HB; have HB := n0_; clear n0_; (try clear hb); (try clear hb2); (try clear hk); (try clear hi)))
                        go_ret
                        exact ⟨by first | rfl | (simp [errW_none, errW_some] <;> rfl) | (simp [*, errW_none, errW_some] <;> rfl), by repeat (first | (with_reducible first | exact HB.out | apply below_alloc | apply pw_below_drewN | apply below_drew1) | exact HB.out)⟩
                    · rw [if_neg c23] at H
                      exact absurd H (by simp)
                  · rw [if_neg c22] at H
                    exact absurd H (by simp)
  · replace c5 := Bool.eq_false_iff.mpr c5
    subst c5
    have H1 : (some false) = some r := by rw [if_neg (show ¬ (false = true) by decide)] at H; exact H
    clear H
    have H := H1
    clear H1
    obtain rfl := Option.some.inj H
    go_enter Try.func11, Try.ntmps11
    go_wp2_with (first | ((with_reducible refine gate_callee (f := 31) rfl ?_); refine goesL_ (some 14) rfl rfl Try.func31 (by kernel_rfl) rfl #[] rfl (by (try simp only [List.map_toArray, List.map_cons, List.map_nil]); first | done | rfl | (simp only [List.length_drop, List.length_take]; rfl)) ?_; (with_reducible refine (punnetlaw05_awake.calls k  false _ A4.out).mono ?_); rintro e w53 ⟨rfl, hb⟩; refine ⟨_, rfl, ?_⟩; have n0_ := Aside0.mk (below_step (by repeat (first | (with_reducible first | exact HB.out | apply below_alloc | apply pw_below_drewN | apply below_drew1) | exact HB.out)) hb); clear HB; have HB := n0_; clear n0_; (try clear hb); (try clear hb2); (try clear hk); (try clear hi)))
    go_ret
    exact ⟨by first | rfl | (simp [errW_none, errW_some] <;> rfl) | (simp [*, errW_none, errW_some] <;> rfl), by repeat (first | (with_reducible first | exact HB.out | apply below_alloc | apply pw_below_drewN | apply below_drew1) | exact HB.out)⟩

/-- THE ONE PURE STATEMENT of punnetlaw05_NameQuotes: yours. -/
def punnetlaw05_NameQuotes.Pure : Prop := ∀ (a0 : ByteArray) (a1 : ByteArray) (a2 : ByteArray), a0.size ≤ 140737488351232 → a1.size ≤ 140737488351232 → a2.size ≤ 140737488351232 → ∃ k, punnetlaw05_NameQuotes.f k a0 a1 a2 = some true
theorem punnetlaw05_NameQuotes.walk (P : punnetlaw05_NameQuotes.Pure) (a0 : ByteArray) (a1 : ByteArray) (a2 : ByteArray) (w : World) (w0 : a0.size ≤ 140737488351232) (w1 : a1.size ≤ 140737488351232) (w2 : a2.size ≤ 140737488351232) :
    Calls Try.prog 11 #[.string a0, .string a1, .string a2] w fun e w' => e = .returned (.bool true) ∧ Below w.heap.size w w' := by
  obtain ⟨k, h⟩ := P a0 a1 a2 w0 w1 w2
  refine (punnetlaw05_NameQuotes.calls k a0 a1 a2 true w h).mono ?_
  rintro e w' ⟨rfl, hd⟩
  exact ⟨rfl, hd⟩

end Go.Proofs.Ytmmofckknopaaaa.Q
