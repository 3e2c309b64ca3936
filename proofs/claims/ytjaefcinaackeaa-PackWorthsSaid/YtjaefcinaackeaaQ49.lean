/- A function of the program or a law's row comes to what the Lean function beside it says; no condition beyond those typed. Written by a program of this workplace; Lean checks it. -/
import Derived.Test.YtjaefcinaackeaaQ0
import Derived.Test.YtjaefcinaackeaaQ42
namespace Go.Proofs.Ytjaefcinaackeaa.Q
open Go.RowKit Go.Proofs.YtjaefcinaackeaaW.PrintWords Go.Proofs.YtjaefcinaackeaaW.PrintLast Go.Proofs.YtjaefcinaackeaaW.PrintMore
attribute [local go_sem] max2_int min2_int max_two min_two max_three min_three max_four min_four   -- for this text's walks alone
set_option linter.unusedVariables false
set_option linter.unusedSimpArgs false

/-! ### punnetref02_Worth: function 40 -/
mutual
def punnetref02_Worth.j0 : Nat → Int → Int → Bool → Option (Int × Int)
  | 0, _, _, _ => none
  | k + 1, x0, x1, x13 => if x13 = true then (some (0, 2)) else ((punnetref02_Near.f x0).bind fun t282 => (if t282 = true then (punnetref02_Worth.l0 k x0 x1 0 1048576) else (some (0, 3))))
def punnetref02_Worth.l0 : Nat → Int → Int → Int → Int → Option (Int × Int)
  | 0, _, _, _, _ => none
  | k + 1, x0, x1, x6, x7 => if x7 > 0 then (if x7 = 0 then (none) else (if (Int.tmod (wrap64 (Int.tdiv x1 x7)) 2) = 1 then ((punnetref02_Near.f (wrap64 ((wrap64 (x6 + x6)) + x0))).bind fun t283 => (if t283 = true then (punnetref02_Worth.l0 k x0 x1 (wrap64 ((wrap64 (x6 + x6)) + x0)) (wrap64 (Int.tdiv x7 2))) else (some (0, 3)))) else ((punnetref02_Near.f (wrap64 (x6 + x6))).bind fun t284 => (if t284 = true then (punnetref02_Worth.l0 k x0 x1 (wrap64 (x6 + x6)) (wrap64 (Int.tdiv x7 2))) else (some (0, 3)))))) else (some (x6, 0))
end
def punnetref02_Worth.f (k : Nat) (a0 : Int) (a1 : Int) : Option (Int × Int) := if a1 < 1 then (punnetref02_Worth.j0 k a0 a1 true) else (punnetref02_Worth.j0 k a0 a1 (decide (a1 > 1048576)))
theorem punnetref02_Worth.mono_l : ∀ k, (∀ y0 y1 y2, LeO (punnetref02_Worth.j0 k y0 y1 y2) (punnetref02_Worth.j0 (k + 1) y0 y1 y2)) ∧ (∀ y0 y1 y2 y3, LeO (punnetref02_Worth.l0 k y0 y1 y2 y3) (punnetref02_Worth.l0 (k + 1) y0 y1 y2 y3))
  | 0 => ⟨fun _ _ _ r h => by simp [punnetref02_Worth.j0] at h, fun _ _ _ _ r h => by simp [punnetref02_Worth.l0] at h⟩
  | k + 1 => by
    obtain ⟨ih0, ih1⟩ := punnetref02_Worth.mono_l k
    refine ⟨?_, ?_⟩
    · intro y0 y1 y2
      unfold punnetref02_Worth.j0
      repeat' first
      | (with_reducible exact ih0 _ _ _)
      | (with_reducible exact ih1 _ _ _ _)
      | (with_reducible exact LeO.refl _)
      | (with_reducible exact LeO.none _)
      | (with_reducible refine LeO.ite ?_ ?_)
      | (with_reducible refine LeO.bind ?_ (fun _ => ?_))
      | exact ih0 _ _ _
      | exact ih1 _ _ _ _
      | exact LeO.none _
      | refine LeO.ite ?_ ?_
      | refine LeO.bind ?_ (fun _ => ?_)
    · intro y0 y1 y2 y3
      unfold punnetref02_Worth.l0
      repeat' first
      | (with_reducible exact ih0 _ _ _)
      | (with_reducible exact ih1 _ _ _ _)
      | (with_reducible exact LeO.refl _)
      | (with_reducible exact LeO.none _)
      | (with_reducible refine LeO.ite ?_ ?_)
      | (with_reducible refine LeO.bind ?_ (fun _ => ?_))
      | exact ih0 _ _ _
      | exact ih1 _ _ _ _
      | exact LeO.none _
      | refine LeO.ite ?_ ?_
      | refine LeO.bind ?_ (fun _ => ?_)
theorem punnetref02_Worth.mono : ∀ a0 a1 k, LeO (punnetref02_Worth.f k a0 a1) (punnetref02_Worth.f (k + 1) a0 a1) := by
  intro a0 a1 k
  obtain ⟨ih0, ih1⟩ := punnetref02_Worth.mono_l k
  unfold punnetref02_Worth.f
  repeat' first
      | (with_reducible exact ih0 _ _ _)
      | (with_reducible exact ih1 _ _ _ _)
      | (with_reducible exact LeO.refl _)
      | (with_reducible exact LeO.none _)
      | (with_reducible refine LeO.ite ?_ ?_)
      | (with_reducible refine LeO.bind ?_ (fun _ => ?_))
      | exact ih0 _ _ _
      | exact ih1 _ _ _ _
      | exact LeO.none _
      | refine LeO.ite ?_ ?_
      | refine LeO.bind ?_ (fun _ => ?_)
set_option maxHeartbeats 8000000 in
set_option maxRecDepth 100000 in
theorem punnetref02_Worth.calls (k : Nat) (a0 : Int) (a1 : Int) (r1 : Int) (r2 : Int) (w : World) (h : punnetref02_Worth.f k a0 a1 = some (r1, r2)) :
    Calls Try.prog 40 #[.int .i64 a0, .int .i64 a1] w fun e w' => e = .returned (.tuple #[.int .i64 r1, .int .i64 r2]) ∧ Drawn0 w w' := by
  have H : (if a1 < 1 then (punnetref02_Worth.j0 k a0 a1 true) else (punnetref02_Worth.j0 k a0 a1 (decide (a1 > 1048576)))) = some (r1, r2) := h
  clear h
  have HC3 := Aside0.mk H
  clear H
  go_enter Try.func40, Try.ntmps40
  go_upto_region 1 with (fail)
  go_cut [13] (fun v13 wc => ∃ (kq : Nat) (x13_2 : Bool), v13 = .bool x13_2 ∧ Aside0 (punnetref02_Worth.j0 kq a0 a1 x13_2 = some (r1, r2)) ∧ Aside0 (kq ≤ k) ∧ Drawn0 w wc)
  case first =>
    have H := HC3.out
    clear HC3
    by_cases c4 : a1 < 1
    · rw [if_pos c4] at H
      have c4b0 : decide (a1 < 1) = true := decide_eq_true c4
      clear c4
      (first | rw [c4b0] | (simp only [i64_w, i32_w]; rw [c4b0]) | skip)
      have H' := Aside0.mk H
      clear H
      go_wp2
      go_meet
      case rel => exact ⟨_, (true), (by first | rfl | (simp; done) | (simp [*]; done)), H', ⟨by first | omega | exact Nat.le_refl _⟩, by repeat (first | exact Drawn0.refl _ | apply Drawn0.step)⟩
    · rw [if_neg c4] at H
      have c4b0 : decide (a1 < 1) = false := decide_eq_false c4
      clear c4
      (first | rw [c4b0] | (simp only [i64_w, i32_w]; rw [c4b0]) | skip)
      have H' := Aside0.mk H
      clear H
      go_wp2
      go_meet
      case rel => exact ⟨_, (decide (a1 > 1048576)), (by first | rfl | (simp; done) | (simp [*]; done)), H', ⟨by first | omega | exact Nat.le_refl _⟩, by repeat (first | exact Drawn0.refl _ | apply Drawn0.step)⟩
  case rest =>
    clear HC3
    try clear p2
    try clear c4
    try clear c4b0
    obtain ⟨kq, x13_2, rfl, HA, HJ2, ⟨mc2, rfl⟩⟩ := hcut
    cases kq with
    | zero => exact absurd HA.out (by simp [punnetref02_Worth.j0])
    | succ kj2 =>
      have H := HA.out
      clear HA
      simp only [punnetref02_Worth.j0] at H
      by_cases c5 : x13_2 = true
      · subst c5
        have H1 : (some (0, 2)) = some (r1, r2) := by rw [if_pos rfl] at H; exact H
        clear H
        have H := H1
        clear H1
        simp only [Option.some.injEq, Prod.mk.injEq] at H
        obtain ⟨rfl, rfl⟩ := H
        go_wp2
        go_ret2
        exact ⟨by first | rfl | (simp; done) | (simp [*]; done), by repeat (first | exact Drawn0.refl _ | apply Drawn0.step)⟩
      · replace c5 := Bool.eq_false_iff.mpr c5
        subst c5
        have H1 : ((punnetref02_Near.f a0).bind fun t282 => (if t282 = true then (punnetref02_Worth.l0 kj2 a0 a1 0 1048576) else (some (0, 3)))) = some (r1, r2) := by rw [if_neg (show ¬ (false = true) by decide)] at H; exact H
        clear H
        have H := H1
        clear H1
        replace H := Option.bind_eq_some_iff.mp H
        obtain ⟨t282, A60, H⟩ := H
        replace H : (if t282 = true then (punnetref02_Worth.l0 kj2 a0 a1 0 1048576) else (some (0, 3))) = some (r1, r2) := H
        have A6 := Aside0.mk A60
        clear A60
        by_cases c7 : t282 = true
        · subst c7
          have H1 : (punnetref02_Worth.l0 kj2 a0 a1 0 1048576) = some (r1, r2) := by rw [if_pos rfl] at H; exact H
          clear H
          have H := H1
          clear H1
          have H' := Aside0.mk H
          clear H
          go_wp2_with (first | ((with_reducible refine gate_callee (f := 38) rfl ?_); refine goesL_ (some 15) rfl rfl Try.func38 (by kernel_rfl) rfl #[.int .i64 a0] rfl (by (try simp only [List.map_toArray, List.map_cons, List.map_nil]); first | done | rfl | (simp only [List.length_drop, List.length_take]; rfl)) ?_; (with_reducible refine (punnetref02_Near.calls a0 true _ A6.out).mono ?_); rintro e w' ⟨rfl, ⟨nd, rfl⟩⟩; refine ⟨_, rfl, ?_⟩))
          go_loopg [6, 7] kj2 (fun kq v6 v7 w' => ∃ (x6_2 : Int) (x7_2 : Int), v6 = .int .i64 x6_2 ∧ v7 = .int .i64 x7_2 ∧ Aside0 (punnetref02_Worth.l0 kq a0 a1 x6_2 x7_2 = some (r1, r2)) ∧ Aside0 (kq ≤ kj2) ∧ Drawn0 w w')
          case atStart => exact ⟨(0), (1048576), (by first | rfl | (simp; done) | (simp [*]; done)), (by first | rfl | (simp; done) | (simp [*]; done)), H', ⟨Nat.le_refl _⟩, by repeat (first | exact Drawn0.refl _ | apply Drawn0.step)⟩
          case round =>
            clear H'
            try clear c2
            try clear p2
            try clear c3
            try clear c4
            try clear c4b0
            try clear c5
            try clear c7
            try clear p2
            obtain ⟨x6_2, x7_2, rfl, rfl, HA, HK2, ⟨m2, rfl⟩⟩ := hrel
            cases gk with
            | zero => exact absurd HA.out (by simp [punnetref02_Worth.l0])
            | succ k2 =>
              have H := HA.out
              clear HA
              simp only [punnetref02_Worth.l0] at H
              by_cases c8 : x7_2 > 0
              · rw [if_pos c8] at H
                have c8b0 : decide (0 < x7_2) = true := decide_eq_true c8
                clear c8
                by_cases c9 : x7_2 = 0
                · rw [if_pos c9] at H
                  exact absurd H (by simp)
                · rw [if_neg c9] at H
                  have c9b0 : (x7_2 == 0) = false := beq_eq_false_iff_ne.mpr c9
                  have c9b1 : (x7_2 != 0) = true := bne_iff_ne.mpr c9
                  by_cases c10 : (Int.tmod (wrap64 (Int.tdiv a1 x7_2)) 2) = 1
                  · rw [if_pos c10] at H
                    have c10b0 : ((Int.tmod (wrap64 (Int.tdiv a1 x7_2)) 2) == 1) = true := beq_iff_eq.mpr c10
                    have c10b1 : ((Int.tmod (wrap64 (Int.tdiv a1 x7_2)) 2) != 1) = false := bne_eq_false_iff_eq.mpr c10
                    clear c10
                    replace H := Option.bind_eq_some_iff.mp H
                    obtain ⟨t283, A110, H⟩ := H
                    replace H : (if t283 = true then (punnetref02_Worth.l0 k2 a0 a1 (wrap64 ((wrap64 (x6_2 + x6_2)) + a0)) (wrap64 (Int.tdiv x7_2 2))) else (some (0, 3))) = some (r1, r2) := H
                    have A11 := Aside0.mk A110
                    clear A110
                    by_cases c12 : t283 = true
                    · subst c12
                      have H1 : (punnetref02_Worth.l0 k2 a0 a1 (wrap64 ((wrap64 (x6_2 + x6_2)) + a0)) (wrap64 (Int.tdiv x7_2 2))) = some (r1, r2) := by rw [if_pos rfl] at H; exact H
                      clear H
                      have H := H1
                      clear H1
                      have H' := Aside0.mk H
                      clear H
                      go_wp2_with (first | ((with_reducible refine gate_callee (f := 38) rfl ?_); refine goesL_ (some 33) rfl rfl Try.func38 (by kernel_rfl) rfl #[.int .i64 (wrap64 ((wrap64 (x6_2 + x6_2)) + a0))] rfl (by (try simp only [List.map_toArray, List.map_cons, List.map_nil]); first | done | rfl | (simp only [List.length_drop, List.length_take]; rfl)) ?_; (with_reducible refine (punnetref02_Near.calls (wrap64 ((wrap64 (x6_2 + x6_2)) + a0)) true _ A11.out).mono ?_); rintro e w' ⟨rfl, ⟨nd, rfl⟩⟩; refine ⟨_, rfl, ?_⟩))
                      go_roundg k2
                      case measure => have := HJ2.out; have := HK2.out; omega
                      case rel => exact ⟨(wrap64 ((wrap64 (x6_2 + x6_2)) + a0)), (wrap64 (Int.tdiv x7_2 2)), (by first | rfl | (simp; done) | (simp [*]; done)), (by first | rfl | (simp; done) | (simp [*]; done)), H', ⟨by have := HJ2.out; have := HK2.out; omega⟩, by repeat (first | exact Drawn0.refl _ | apply Drawn0.step)⟩
                    · replace c12 := Bool.eq_false_iff.mpr c12
                      subst c12
                      have H1 : (some (0, 3)) = some (r1, r2) := by rw [if_neg (show ¬ (false = true) by decide)] at H; exact H
                      clear H
                      have H := H1
                      clear H1
                      simp only [Option.some.injEq, Prod.mk.injEq] at H
                      obtain ⟨rfl, rfl⟩ := H
                      go_wp2_with (first | ((with_reducible refine gate_callee (f := 38) rfl ?_); refine goesL_ (some 33) rfl rfl Try.func38 (by kernel_rfl) rfl #[.int .i64 (wrap64 ((wrap64 (x6_2 + x6_2)) + a0))] rfl (by (try simp only [List.map_toArray, List.map_cons, List.map_nil]); first | done | rfl | (simp only [List.length_drop, List.length_take]; rfl)) ?_; (with_reducible refine (punnetref02_Near.calls (wrap64 ((wrap64 (x6_2 + x6_2)) + a0)) false _ A11.out).mono ?_); rintro e w' ⟨rfl, ⟨nd, rfl⟩⟩; refine ⟨_, rfl, ?_⟩))
                      go_ret2
                      exact ⟨by first | rfl | (simp; done) | (simp [*]; done), by repeat (first | exact Drawn0.refl _ | apply Drawn0.step)⟩
                  · rw [if_neg c10] at H
                    have c10b0 : ((Int.tmod (wrap64 (Int.tdiv a1 x7_2)) 2) == 1) = false := beq_eq_false_iff_ne.mpr c10
                    have c10b1 : ((Int.tmod (wrap64 (Int.tdiv a1 x7_2)) 2) != 1) = true := bne_iff_ne.mpr c10
                    replace H := Option.bind_eq_some_iff.mp H
                    obtain ⟨t284, A130, H⟩ := H
                    replace H : (if t284 = true then (punnetref02_Worth.l0 k2 a0 a1 (wrap64 (x6_2 + x6_2)) (wrap64 (Int.tdiv x7_2 2))) else (some (0, 3))) = some (r1, r2) := H
                    have A13 := Aside0.mk A130
                    clear A130
                    by_cases c14 : t284 = true
                    · subst c14
                      have H1 : (punnetref02_Worth.l0 k2 a0 a1 (wrap64 (x6_2 + x6_2)) (wrap64 (Int.tdiv x7_2 2))) = some (r1, r2) := by rw [if_pos rfl] at H; exact H
                      clear H
                      have H := H1
                      clear H1
                      have H' := Aside0.mk H
                      clear H
                      go_wp2_with (first | ((with_reducible refine gate_callee (f := 38) rfl ?_); refine goesL_ (some 33) rfl rfl Try.func38 (by kernel_rfl) rfl #[.int .i64 (wrap64 (x6_2 + x6_2))] rfl (by (try simp only [List.map_toArray, List.map_cons, List.map_nil]); first | done | rfl | (simp only [List.length_drop, List.length_take]; rfl)) ?_; (with_reducible refine (punnetref02_Near.calls (wrap64 (x6_2 + x6_2)) true _ A13.out).mono ?_); rintro e w' ⟨rfl, ⟨nd, rfl⟩⟩; refine ⟨_, rfl, ?_⟩))
                      go_roundg k2
                      case measure => have := HJ2.out; have := HK2.out; omega
                      case rel => exact ⟨(wrap64 (x6_2 + x6_2)), (wrap64 (Int.tdiv x7_2 2)), (by first | rfl | (simp; done) | (simp [*]; done)), (by first | rfl | (simp; done) | (simp [*]; done)), H', ⟨by have := HJ2.out; have := HK2.out; omega⟩, by repeat (first | exact Drawn0.refl _ | apply Drawn0.step)⟩
                    · replace c14 := Bool.eq_false_iff.mpr c14
                      subst c14
                      have H1 : (some (0, 3)) = some (r1, r2) := by rw [if_neg (show ¬ (false = true) by decide)] at H; exact H
                      clear H
                      have H := H1
                      clear H1
                      simp only [Option.some.injEq, Prod.mk.injEq] at H
                      obtain ⟨rfl, rfl⟩ := H
                      go_wp2_with (first | ((with_reducible refine gate_callee (f := 38) rfl ?_); refine goesL_ (some 33) rfl rfl Try.func38 (by kernel_rfl) rfl #[.int .i64 (wrap64 (x6_2 + x6_2))] rfl (by (try simp only [List.map_toArray, List.map_cons, List.map_nil]); first | done | rfl | (simp only [List.length_drop, List.length_take]; rfl)) ?_; (with_reducible refine (punnetref02_Near.calls (wrap64 (x6_2 + x6_2)) false _ A13.out).mono ?_); rintro e w' ⟨rfl, ⟨nd, rfl⟩⟩; refine ⟨_, rfl, ?_⟩))
                      go_ret2
                      exact ⟨by first | rfl | (simp; done) | (simp [*]; done), by repeat (first | exact Drawn0.refl _ | apply Drawn0.step)⟩
              · rw [if_neg c8] at H
                have c8b0 : decide (0 < x7_2) = false := decide_eq_false c8
                clear c8
                simp only [Option.some.injEq, Prod.mk.injEq] at H
                obtain ⟨rfl, rfl⟩ := H
                go_wp2
                go_ret2
                exact ⟨by first | rfl | (simp; done) | (simp [*]; done), by repeat (first | exact Drawn0.refl _ | apply Drawn0.step)⟩
        · replace c7 := Bool.eq_false_iff.mpr c7
          subst c7
          have H1 : (some (0, 3)) = some (r1, r2) := by rw [if_neg (show ¬ (false = true) by decide)] at H; exact H
          clear H
          have H := H1
          clear H1
          simp only [Option.some.injEq, Prod.mk.injEq] at H
          obtain ⟨rfl, rfl⟩ := H
          go_wp2_with (first | ((with_reducible refine gate_callee (f := 38) rfl ?_); refine goesL_ (some 15) rfl rfl Try.func38 (by kernel_rfl) rfl #[.int .i64 a0] rfl (by (try simp only [List.map_toArray, List.map_cons, List.map_nil]); first | done | rfl | (simp only [List.length_drop, List.length_take]; rfl)) ?_; (with_reducible refine (punnetref02_Near.calls a0 false _ A6.out).mono ?_); rintro e w' ⟨rfl, ⟨nd, rfl⟩⟩; refine ⟨_, rfl, ?_⟩))
          go_ret2
          exact ⟨by first | rfl | (simp; done) | (simp [*]; done), by repeat (first | exact Drawn0.refl _ | apply Drawn0.step)⟩

end Go.Proofs.Ytjaefcinaackeaa.Q
