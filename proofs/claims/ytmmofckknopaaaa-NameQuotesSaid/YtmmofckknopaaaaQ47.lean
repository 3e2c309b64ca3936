/- A function of the program or a law's row comes to what the Lean function beside it says; no condition beyond those typed. Written by a program of this workplace; Lean checks it. -/
import Derived.Test.YtmmofckknopaaaaQ0
import Derived.Test.YtmmofckknopaaaaQ46
namespace Go.Proofs.Ytmmofckknopaaaa.Q
open Go.RowKit Go.Proofs.YtmmofckknopaaaaW.PrintWords Go.Proofs.YtmmofckknopaaaaW.PrintLast Go.Proofs.YtmmofckknopaaaaW.PrintMore
attribute [local go_sem] max2_int min2_int max_two min_two max_three min_three max_four min_four   -- for this text's walks alone
set_option linter.unusedVariables false
set_option linter.unusedSimpArgs false

/-! ### punnetref05_Begins: function 52 -/
mutual
def punnetref05_Begins.j0 : Nat → ByteArray → Int → Bool → Option (ByteArray × Int × Bool)
  | 0, _, _, _ => none
  | k + 1, x0, x1, x20 => if x20 = true then (some ((⟨#[]⟩ : ByteArray), 0, false)) else (punnetref05_Begins.l0 k x0 (wrap64 (x1 + 1)) (⟨#[]⟩ : ByteArray))
def punnetref05_Begins.l0 : Nat → ByteArray → Int → ByteArray → Option (ByteArray × Int × Bool)
  | 0, _, _, _ => none
  | k + 1, x0, x1, x7 => if x1 < (x0.size : Int) then (if 0 ≤ x1 then (if (bt x0 x1) = 34 then (some (x7, wrap64 (x1 + 1), true)) else (punnetref05_Begins.l1 k x0 x1 x7 false 0)) else (none)) else (some ((⟨#[]⟩ : ByteArray), 0, false))
def punnetref05_Begins.l1 : Nat → ByteArray → Int → ByteArray → Bool → Int → Option (ByteArray × Int × Bool)
  | 0, _, _, _, _, _ => none
  | k + 1, x0, x1, x7, x8, x9 => if x9 < 256 then (punnetref05_Begins.j3 k x0 x1 x7 x8 x9 (!x8)) else (punnetref05_Begins.j3 k x0 x1 x7 x8 x9 false)
def punnetref05_Begins.j3 : Nat → ByteArray → Int → ByteArray → Bool → Int → Bool → Option (ByteArray × Int × Bool)
  | 0, _, _, _, _, _, _ => none
  | k + 1, x0, x1, x7, x8, x9, x39 => if x39 = true then ((punnetref05_Byte.f k ((x9) % 256)).bind fun t299 => (if (wrap64 (x1 + (t299.size : Int))) ≤ (x0.size : Int) then (if 0 ≤ x1 then (if x1 ≤ (wrap64 (x1 + (t299.size : Int))) then (if (x0.extract (x1 : Int).toNat ((wrap64 (x1 + (t299.size : Int))) : Int).toNat).toList = t299.toList then ((some (([(x9) % 256] : List Int) : List Int)).bind fun y300 => (if x7.size + (strOfNums y300).size ≤ 9223372036854775807 then (punnetref05_Begins.l1 k x0 (wrap64 (x1 + (t299.size : Int))) (x7 ++ (strOfNums y300)) true (wrap64 (x9 + 1))) else (none))) else (punnetref05_Begins.l1 k x0 x1 x7 x8 (wrap64 (x9 + 1)))) else (none)) else (none)) else (punnetref05_Begins.l1 k x0 x1 x7 x8 (wrap64 (x9 + 1))))) else (if x8 = true then (punnetref05_Begins.l0 k x0 x1 x7) else (some ((⟨#[]⟩ : ByteArray), 0, false)))
end
def punnetref05_Begins.f (k : Nat) (a0 : ByteArray) (a1 : Int) : Option (ByteArray × Int × Bool) := if a1 ≥ (a0.size : Int) then (punnetref05_Begins.j0 k a0 a1 true) else (if 0 ≤ a1 then (if a1 < (a0.size : Int) then (punnetref05_Begins.j0 k a0 a1 ((bt a0 a1) != 34)) else (none)) else (none))
theorem punnetref05_Begins.mono_l : ∀ k, (∀ y0 y1 y2, LeO (punnetref05_Begins.j0 k y0 y1 y2) (punnetref05_Begins.j0 (k + 1) y0 y1 y2)) ∧ (∀ y0 y1 y2, LeO (punnetref05_Begins.l0 k y0 y1 y2) (punnetref05_Begins.l0 (k + 1) y0 y1 y2)) ∧ (∀ y0 y1 y2 y3 y4, LeO (punnetref05_Begins.l1 k y0 y1 y2 y3 y4) (punnetref05_Begins.l1 (k + 1) y0 y1 y2 y3 y4)) ∧ (∀ y0 y1 y2 y3 y4 y5, LeO (punnetref05_Begins.j3 k y0 y1 y2 y3 y4 y5) (punnetref05_Begins.j3 (k + 1) y0 y1 y2 y3 y4 y5))
  | 0 => ⟨fun _ _ _ r h => by simp [punnetref05_Begins.j0] at h, fun _ _ _ r h => by simp [punnetref05_Begins.l0] at h, fun _ _ _ _ _ r h => by simp [punnetref05_Begins.l1] at h, fun _ _ _ _ _ _ r h => by simp [punnetref05_Begins.j3] at h⟩
  | k + 1 => by
    obtain ⟨ih0, ih1, ih2, ih3⟩ := punnetref05_Begins.mono_l k
    refine ⟨?_, ?_, ?_, ?_⟩
    · intro y0 y1 y2
      unfold punnetref05_Begins.j0
      repeat' first
      | (with_reducible exact ih0 _ _ _)
      | (with_reducible exact ih1 _ _ _)
      | (with_reducible exact ih2 _ _ _ _ _)
      | (with_reducible exact ih3 _ _ _ _ _ _)
      | (with_reducible exact punnetref05_Byte.mono _ _)
      | (with_reducible exact LeO.refl _)
      | (with_reducible exact LeO.none _)
      | (with_reducible refine LeO.ite ?_ ?_)
      | (with_reducible refine LeO.bind ?_ (fun _ => ?_))
      | exact ih0 _ _ _
      | exact ih1 _ _ _
      | exact ih2 _ _ _ _ _
      | exact ih3 _ _ _ _ _ _
      | exact punnetref05_Byte.mono _ _
      | exact LeO.none _
      | refine LeO.ite ?_ ?_
      | refine LeO.bind ?_ (fun _ => ?_)
    · intro y0 y1 y2
      unfold punnetref05_Begins.l0
      repeat' first
      | (with_reducible exact ih0 _ _ _)
      | (with_reducible exact ih1 _ _ _)
      | (with_reducible exact ih2 _ _ _ _ _)
      | (with_reducible exact ih3 _ _ _ _ _ _)
      | (with_reducible exact punnetref05_Byte.mono _ _)
      | (with_reducible exact LeO.refl _)
      | (with_reducible exact LeO.none _)
      | (with_reducible refine LeO.ite ?_ ?_)
      | (with_reducible refine LeO.bind ?_ (fun _ => ?_))
      | exact ih0 _ _ _
      | exact ih1 _ _ _
      | exact ih2 _ _ _ _ _
      | exact ih3 _ _ _ _ _ _
      | exact punnetref05_Byte.mono _ _
      | exact LeO.none _
      | refine LeO.ite ?_ ?_
      | refine LeO.bind ?_ (fun _ => ?_)
    · intro y0 y1 y2 y3 y4
      unfold punnetref05_Begins.l1
      repeat' first
      | (with_reducible exact ih0 _ _ _)
      | (with_reducible exact ih1 _ _ _)
      | (with_reducible exact ih2 _ _ _ _ _)
      | (with_reducible exact ih3 _ _ _ _ _ _)
      | (with_reducible exact punnetref05_Byte.mono _ _)
      | (with_reducible exact LeO.refl _)
      | (with_reducible exact LeO.none _)
      | (with_reducible refine LeO.ite ?_ ?_)
      | (with_reducible refine LeO.bind ?_ (fun _ => ?_))
      | exact ih0 _ _ _
      | exact ih1 _ _ _
      | exact ih2 _ _ _ _ _
      | exact ih3 _ _ _ _ _ _
      | exact punnetref05_Byte.mono _ _
      | exact LeO.none _
      | refine LeO.ite ?_ ?_
      | refine LeO.bind ?_ (fun _ => ?_)
    · intro y0 y1 y2 y3 y4 y5
      unfold punnetref05_Begins.j3
      repeat' first
      | (with_reducible exact ih0 _ _ _)
      | (with_reducible exact ih1 _ _ _)
      | (with_reducible exact ih2 _ _ _ _ _)
      | (with_reducible exact ih3 _ _ _ _ _ _)
      | (with_reducible exact punnetref05_Byte.mono _ _)
      | (with_reducible exact LeO.refl _)
      | (with_reducible exact LeO.none _)
      | (with_reducible refine LeO.ite ?_ ?_)
      | (with_reducible refine LeO.bind ?_ (fun _ => ?_))
      | exact ih0 _ _ _
      | exact ih1 _ _ _
      | exact ih2 _ _ _ _ _
      | exact ih3 _ _ _ _ _ _
      | exact punnetref05_Byte.mono _ _
      | exact LeO.none _
      | refine LeO.ite ?_ ?_
      | refine LeO.bind ?_ (fun _ => ?_)
theorem punnetref05_Begins.mono : ∀ a0 a1 k, LeO (punnetref05_Begins.f k a0 a1) (punnetref05_Begins.f (k + 1) a0 a1) := by
  intro a0 a1 k
  obtain ⟨ih0, ih1, ih2, ih3⟩ := punnetref05_Begins.mono_l k
  unfold punnetref05_Begins.f
  repeat' first
      | (with_reducible exact ih0 _ _ _)
      | (with_reducible exact ih1 _ _ _)
      | (with_reducible exact ih2 _ _ _ _ _)
      | (with_reducible exact ih3 _ _ _ _ _ _)
      | (with_reducible exact punnetref05_Byte.mono _ _)
      | (with_reducible exact LeO.refl _)
      | (with_reducible exact LeO.none _)
      | (with_reducible refine LeO.ite ?_ ?_)
      | (with_reducible refine LeO.bind ?_ (fun _ => ?_))
      | exact ih0 _ _ _
      | exact ih1 _ _ _
      | exact ih2 _ _ _ _ _
      | exact ih3 _ _ _ _ _ _
      | exact punnetref05_Byte.mono _ _
      | exact LeO.none _
      | refine LeO.ite ?_ ?_
      | refine LeO.bind ?_ (fun _ => ?_)
set_option maxHeartbeats 8000000 in
set_option maxRecDepth 100000 in
theorem punnetref05_Begins.calls (k : Nat) (a0 : ByteArray) (a1 : Int) (r1 : ByteArray) (r2 : Int) (r3 : Bool) (w : World) (h : punnetref05_Begins.f k a0 a1 = some (r1, r2, r3)) :
    Calls Try.prog 52 #[.string a0, .int .i64 a1] w fun e w' => e = .returned (.tuple #[.string r1, .int .i64 r2, .bool r3]) ∧ Below w.heap.size w w' := by
  have HB := Aside0.mk (Below.refl w.heap.size w)
  have H : (if a1 ≥ (a0.size : Int) then (punnetref05_Begins.j0 k a0 a1 true) else (if 0 ≤ a1 then (if a1 < (a0.size : Int) then (punnetref05_Begins.j0 k a0 a1 ((bt a0 a1) != 34)) else (none)) else (none))) = some (r1, r2, r3) := h
  clear h
  have HC3 := Aside0.mk H
  clear H
  go_enter Try.func52, Try.ntmps52
  go_upto_region 1 with (fail)
  go_cut [20] (fun v20 wc => ∃ (kq : Nat) (x20_2 : Bool), v20 = .bool x20_2 ∧ Aside0 (punnetref05_Begins.j0 kq a0 a1 x20_2 = some (r1, r2, r3)) ∧ Aside0 (kq ≤ k) ∧ Aside0 (Below w.heap.size w wc))
  case first =>
    have H := HC3.out
    clear HC3
    by_cases c4 : a1 ≥ (a0.size : Int)
    · rw [if_pos c4] at H
      have c4b0 : decide ((a0.size : Int) ≤ a1) = true := decide_eq_true c4
      clear c4
      (first | rw [c4b0] | (simp only [i64_w, i32_w]; rw [c4b0]) | skip)
      have H' := Aside0.mk H
      clear H
      go_wp2
      go_meet
      case rel => exact ⟨_, (true), (by first | rfl | (simp; done) | (simp [*]; done)), H', ⟨by first | omega | exact Nat.le_refl _⟩, ⟨by repeat (first | (with_reducible first | exact HB.out | apply below_alloc | apply pw_below_drewN | apply below_drew1) | exact HB.out)⟩⟩
    · rw [if_neg c4] at H
      have c4b0 : decide ((a0.size : Int) ≤ a1) = false := decide_eq_false c4
      clear c4
      (first | rw [c4b0] | (simp only [i64_w, i32_w]; rw [c4b0]) | skip)
      by_cases c5 : 0 ≤ a1
      · rw [if_pos c5] at H
        have c5b0 : decide (0 ≤ a1) = true := decide_eq_true c5
        clear c5
        by_cases c6 : a1 < (a0.size : Int)
        · rw [if_pos c6] at H
          have c6b0 : decide (a1 < (a0.size : Int)) = true := decide_eq_true c6
          clear c6
          have H' := Aside0.mk H
          clear H
          have p7 : 0 ≤ (a1 : Int) := of_decide_eq_true (by first | (with_reducible assumption) | assumption)
          have q7 : a1 < (a0.size : Int) := of_decide_eq_true (by first | (with_reducible assumption) | assumption)
          have hx7 := bt_at a0 a1
          replace p7 := eq_true p7
          replace q7 := eq_true q7
          go_wp2
          go_meet
          case rel => exact ⟨_, (((bt a0 a1) != 34)), (by first | rfl | (simp; done) | (simp [*]; done)), H', ⟨by first | omega | exact Nat.le_refl _⟩, ⟨by repeat (first | (with_reducible first | exact HB.out | apply below_alloc | apply pw_below_drewN | apply below_drew1) | exact HB.out)⟩⟩
        · rw [if_neg c6] at H
          exact absurd H (by simp)
      · rw [if_neg c5] at H
        exact absurd H (by simp)
  case rest =>
    clear HC3
    try clear p2
    try clear c4
    try clear c4b0
    try clear c5
    try clear c5b0
    try clear c6
    try clear c6b0
    try clear p7
    try clear q7
    try clear hx7
    try clear p7
    try clear q7
    obtain ⟨kq, x20_2, rfl, HA, HJ2, HB⟩ := hcut
    cases kq with
    | zero => exact absurd HA.out (by simp [punnetref05_Begins.j0])
    | succ kj2 =>
      have H := HA.out
      clear HA
      simp only [punnetref05_Begins.j0] at H
      by_cases c8 : x20_2 = true
      · subst c8
        have H1 : (some ((⟨#[]⟩ : ByteArray), 0, false)) = some (r1, r2, r3) := by rw [if_pos rfl] at H; exact H
        clear H
        have H := H1
        clear H1
        simp only [Option.some.injEq, Prod.mk.injEq] at H
        obtain ⟨rfl, rfl, rfl⟩ := H
        go_wp2
        go_ret3
        exact ⟨by first | rfl | (simp [errW_none, errW_some] <;> rfl) | (simp [*, errW_none, errW_some] <;> rfl), by repeat (first | (with_reducible first | exact HB.out | apply below_alloc | apply pw_below_drewN | apply below_drew1) | exact HB.out)⟩
      · replace c8 := Bool.eq_false_iff.mpr c8
        subst c8
        have H1 : (punnetref05_Begins.l0 kj2 a0 (wrap64 (a1 + 1)) (⟨#[]⟩ : ByteArray)) = some (r1, r2, r3) := by rw [if_neg (show ¬ (false = true) by decide)] at H; exact H
        clear H
        have H := H1
        clear H1
        have H' := Aside0.mk H
        clear H
        go_wp2
        go_loopg [1, 7] kj2 (fun kq v1 v7 w' => ∃ (x1_2 : Int) (x7_2 : ByteArray), v1 = .int .i64 x1_2 ∧ v7 = .string x7_2 ∧ Aside0 (punnetref05_Begins.l0 kq a0 x1_2 x7_2 = some (r1, r2, r3)) ∧ Aside0 (kq ≤ kj2) ∧ Aside0 (Below w.heap.size w w'))
        case atStart => exact ⟨(wrap64 (a1 + 1)), ((⟨#[]⟩ : ByteArray)), (by first | rfl | (simp; done) | (simp [*]; done)), (by first | rfl | (simp; done) | (simp [*]; done)), H', ⟨Nat.le_refl _⟩, ⟨by repeat (first | (with_reducible first | exact HB.out | apply below_alloc | apply pw_below_drewN | apply below_drew1) | exact HB.out)⟩⟩
        case round =>
          clear H'
          try clear p2
          try clear c4
          try clear c4b0
          try clear c5
          try clear c5b0
          try clear c6
          try clear c6b0
          try clear p6
          try clear p7
          try clear q7
          try clear hx7
          try clear c8
          try clear p2
          try clear p7
          try clear q7
          obtain ⟨x1_2, x7_2, rfl, rfl, HA, HK2, HB⟩ := hrel
          cases gk with
          | zero => exact absurd HA.out (by simp [punnetref05_Begins.l0])
          | succ k2 =>
            have H := HA.out
            clear HA
            simp only [punnetref05_Begins.l0] at H
            by_cases c9 : x1_2 < (a0.size : Int)
            · rw [if_pos c9] at H
              have c9b0 : decide (x1_2 < (a0.size : Int)) = true := decide_eq_true c9
              clear c9
              by_cases c10 : 0 ≤ x1_2
              · rw [if_pos c10] at H
                have c10b0 : decide (0 ≤ x1_2) = true := decide_eq_true c10
                clear c10
                by_cases c12 : (bt a0 x1_2) = 34
                · rw [if_pos c12] at H
                  have c12b0 : ((bt a0 x1_2) == 34) = true := beq_iff_eq.mpr c12
                  have c12b1 : ((bt a0 x1_2) != 34) = false := bne_eq_false_iff_eq.mpr c12
                  clear c12
                  simp only [Option.some.injEq, Prod.mk.injEq] at H
                  obtain ⟨rfl, rfl, rfl⟩ := H
                  have p11 : 0 ≤ (x1_2 : Int) := of_decide_eq_true (by first | (with_reducible assumption) | assumption)
                  have q11 : x1_2 < (a0.size : Int) := of_decide_eq_true (by first | (with_reducible assumption) | assumption)
                  have hx11 := bt_at a0 x1_2
                  replace p11 := eq_true p11
                  replace q11 := eq_true q11
                  go_wp2
                  go_ret3
                  exact ⟨by first | rfl | (simp [errW_none, errW_some] <;> rfl) | (simp [*, errW_none, errW_some] <;> rfl), by repeat (first | (with_reducible first | exact HB.out | apply below_alloc | apply pw_below_drewN | apply below_drew1) | exact HB.out)⟩
                · rw [if_neg c12] at H
                  have c12b0 : ((bt a0 x1_2) == 34) = false := beq_eq_false_iff_ne.mpr c12
                  have c12b1 : ((bt a0 x1_2) != 34) = true := bne_iff_ne.mpr c12
                  have H' := Aside0.mk H
                  clear H
                  have p11 : 0 ≤ (x1_2 : Int) := of_decide_eq_true (by first | (with_reducible assumption) | assumption)
                  have q11 : x1_2 < (a0.size : Int) := of_decide_eq_true (by first | (with_reducible assumption) | assumption)
                  have hx11 := bt_at a0 x1_2
                  replace p11 := eq_true p11
                  replace q11 := eq_true q11
                  go_wp2
                  go_loopg [1, 7, 8, 9] k2 (fun kq v1 v7 v8 v9 w' => ∃ (x1_3 : Int) (x7_3 : ByteArray) (x8_3 : Bool) (x9_3 : Int), v1 = .int .i64 x1_3 ∧ v7 = .string x7_3 ∧ v8 = .bool x8_3 ∧ v9 = .int .i64 x9_3 ∧ Aside0 (punnetref05_Begins.l1 kq a0 x1_3 x7_3 x8_3 x9_3 = some (r1, r2, r3)) ∧ Aside0 (kq ≤ k2) ∧ Aside0 (Below w.heap.size w w'))
                  case atStart => exact ⟨(x1_2), (x7_2), (false), (0), (by first | rfl | (simp; done) | (simp [*]; done)), (by first | rfl | (simp; done) | (simp [*]; done)), (by first | rfl | (simp; done) | (simp [*]; done)), (by first | rfl | (simp; done) | (simp [*]; done)), H', ⟨Nat.le_refl _⟩, ⟨by repeat (first | (with_reducible first | exact HB.out | apply below_alloc | apply pw_below_drewN | apply below_drew1) | exact HB.out)⟩⟩
                  case round =>
                    clear H'
                    try clear c1
                    try clear p1
                    try clear q1
                    try clear hx1
                    try clear p2
                    try clear c4
                    try clear c4b0
                    try clear c5
                    try clear c5b0
                    try clear c6
                    try clear c6b0
                    try clear p6
                    try clear p7
                    try clear q7
                    try clear hx7
                    try clear c8
                    try clear c9
                    try clear c9b0
                    try clear c10
                    try clear c10b0
                    try clear p11
                    try clear q11
                    try clear hx11
                    try clear c12
                    try clear c12b0
                    try clear c12b1
                    try clear p11
                    try clear p2
                    try clear p6
                    try clear p7
                    try clear q11
                    try clear q7
                    obtain ⟨x1_3, x7_3, x8_3, x9_3, rfl, rfl, rfl, rfl, HA, HK3, HB⟩ := hrel
                    cases gk with
                    | zero => exact absurd HA.out (by simp [punnetref05_Begins.l1])
                    | succ k3 =>
                      have H := HA.out
                      clear HA
                      simp only [punnetref05_Begins.l1] at H
                      have HC13 := Aside0.mk H
                      clear H
                      go_upto_region 10 with (fail)
                      go_cut [39] (fun v39 wc => ∃ (kq : Nat) (x39_12 : Bool), v39 = .bool x39_12 ∧ Aside0 (punnetref05_Begins.j3 kq a0 x1_3 x7_3 x8_3 x9_3 x39_12 = some (r1, r2, r3)) ∧ Aside0 (kq ≤ k3) ∧ Aside0 (Below w.heap.size w wc))
                      case first =>
                        have H := HC13.out
                        clear HC13
                        by_cases c14 : x9_3 < 256
                        · rw [if_pos c14] at H
                          have c14b0 : decide (x9_3 < 256) = true := decide_eq_true c14
                          clear c14
                          (first | rw [c14b0] | (simp only [i64_w, i32_w]; rw [c14b0]) | skip)
                          have H' := Aside0.mk H
                          clear H
                          go_wp2
                          go_meet
                          case rel => exact ⟨_, (!x8_3), (by first | rfl | (simp; done) | (simp [*]; done)), H', ⟨by have := HJ2.out; have := HK2.out; have := HK3.out; first | omega | exact Nat.le_refl _⟩, ⟨by repeat (first | (with_reducible first | exact HB.out | apply below_alloc | apply pw_below_drewN | apply below_drew1) | exact HB.out)⟩⟩
                        · rw [if_neg c14] at H
                          have c14b0 : decide (x9_3 < 256) = false := decide_eq_false c14
                          clear c14
                          (first | rw [c14b0] | (simp only [i64_w, i32_w]; rw [c14b0]) | skip)
                          have H' := Aside0.mk H
                          clear H
                          go_wp2
                          go_meet
                          case rel => exact ⟨_, (false), (by first | rfl | (simp; done) | (simp [*]; done)), H', ⟨by have := HJ2.out; have := HK2.out; have := HK3.out; first | omega | exact Nat.le_refl _⟩, ⟨by repeat (first | (with_reducible first | exact HB.out | apply below_alloc | apply pw_below_drewN | apply below_drew1) | exact HB.out)⟩⟩
                      case rest =>
                        clear HC13
                        try clear c1
                        try clear p1
                        try clear q1
                        try clear hx1
                        try clear p2
                        try clear c4
                        try clear c4b0
                        try clear c5
                        try clear c5b0
                        try clear c6
                        try clear c6b0
                        try clear p6
                        try clear p7
                        try clear q7
                        try clear hx7
                        try clear c8
                        try clear c9
                        try clear c9b0
                        try clear c10
                        try clear c10b0
                        try clear p11
                        try clear q11
                        try clear hx11
                        try clear c12
                        try clear c12b0
                        try clear c12b1
                        try clear c14
                        try clear c14b0
                        try clear p1
                        try clear p11
                        try clear p2
                        try clear p6
                        try clear p7
                        try clear q1
                        try clear q11
                        try clear q7
                        obtain ⟨kq, x39_12, rfl, HA, HJ12, HB⟩ := hcut
                        cases kq with
                        | zero => exact absurd HA.out (by simp [punnetref05_Begins.j3])
                        | succ kj12 =>
                          have H := HA.out
                          clear HA
                          simp only [punnetref05_Begins.j3] at H
                          by_cases c15 : x39_12 = true
                          · subst c15
                            have H1 : ((punnetref05_Byte.f kj12 ((x9_3) % 256)).bind fun t299 => (if (wrap64 (x1_3 + (t299.size : Int))) ≤ (a0.size : Int) then (if 0 ≤ x1_3 then (if x1_3 ≤ (wrap64 (x1_3 + (t299.size : Int))) then (if (a0.extract (x1_3 : Int).toNat ((wrap64 (x1_3 + (t299.size : Int))) : Int).toNat).toList = t299.toList then ((some (([(x9_3) % 256] : List Int) : List Int)).bind fun y300 => (if x7_3.size + (strOfNums y300).size ≤ 9223372036854775807 then (punnetref05_Begins.l1 kj12 a0 (wrap64 (x1_3 + (t299.size : Int))) (x7_3 ++ (strOfNums y300)) true (wrap64 (x9_3 + 1))) else (none))) else (punnetref05_Begins.l1 kj12 a0 x1_3 x7_3 x8_3 (wrap64 (x9_3 + 1)))) else (none)) else (none)) else (punnetref05_Begins.l1 kj12 a0 x1_3 x7_3 x8_3 (wrap64 (x9_3 + 1))))) = some (r1, r2, r3) := by rw [if_pos rfl] at H; exact H
                            clear H
                            have H := H1
                            clear H1
                            replace H := Option.bind_eq_some_iff.mp H
                            obtain ⟨t299, A160, H⟩ := H
                            replace H : (if (wrap64 (x1_3 + (t299.size : Int))) ≤ (a0.size : Int) then (if 0 ≤ x1_3 then (if x1_3 ≤ (wrap64 (x1_3 + (t299.size : Int))) then (if (a0.extract (x1_3 : Int).toNat ((wrap64 (x1_3 + (t299.size : Int))) : Int).toNat).toList = t299.toList then ((some (([(x9_3) % 256] : List Int) : List Int)).bind fun y300 => (if x7_3.size + (strOfNums y300).size ≤ 9223372036854775807 then (punnetref05_Begins.l1 kj12 a0 (wrap64 (x1_3 + (t299.size : Int))) (x7_3 ++ (strOfNums y300)) true (wrap64 (x9_3 + 1))) else (none))) else (punnetref05_Begins.l1 kj12 a0 x1_3 x7_3 x8_3 (wrap64 (x9_3 + 1)))) else (none)) else (none)) else (punnetref05_Begins.l1 kj12 a0 x1_3 x7_3 x8_3 (wrap64 (x9_3 + 1)))) = some (r1, r2, r3) := H
                            have A16 := Aside0.mk A160
                            clear A160
                            by_cases c17 : (wrap64 (x1_3 + (t299.size : Int))) ≤ (a0.size : Int)
                            · rw [if_pos c17] at H
                              have c17b0 : decide ((wrap64 (x1_3 + (t299.size : Int))) ≤ (a0.size : Int)) = true := decide_eq_true c17
                              try (have c17b0w : decide (((x1_3 + (t299.size : Int))) ≤ (a0.size : Int)) = true := by (rw [show (x1_3 + (t299.size : Int)) = wrap64 (x1_3 + (t299.size : Int)) from (by unfold wrap64; omega)]; exact c17b0))
                              clear c17
                              by_cases c18 : 0 ≤ x1_3
                              · rw [if_pos c18] at H
                                have c18b0 := eq_true c18
                                have c18b1 : decide (0 ≤ x1_3) = true := decide_eq_true c18
                                clear c18
                                by_cases c19 : x1_3 ≤ (wrap64 (x1_3 + (t299.size : Int)))
                                · rw [if_pos c19] at H
                                  have c19b0 := eq_true c19
                                  have c19b1 : decide (x1_3 ≤ (wrap64 (x1_3 + (t299.size : Int)))) = true := decide_eq_true c19
                                  try (have c19b1w : decide (x1_3 ≤ ((x1_3 + (t299.size : Int)))) = true := by (rw [show (x1_3 + (t299.size : Int)) = wrap64 (x1_3 + (t299.size : Int)) from (by unfold wrap64; omega)]; exact c19b1))
                                  have c20b0 := eq_true (of_decide_eq_true (by first | (with_reducible assumption) | assumption) : (wrap64 (x1_3 + (t299.size : Int))) ≤ (a0.size : Int))
                                  by_cases c21 : (a0.extract (x1_3 : Int).toNat ((wrap64 (x1_3 + (t299.size : Int))) : Int).toNat).toList = t299.toList
                                  · rw [if_pos c21] at H
                                    have c21b0 : ((a0.extract (x1_3 : Int).toNat ((wrap64 (x1_3 + (t299.size : Int))) : Int).toNat).toList == t299.toList) = true := beq_iff_eq.mpr c21
                                    try (have c21b0w : ((a0.extract (x1_3 : Int).toNat (((x1_3 + (t299.size : Int))) : Int).toNat).toList == t299.toList) = true := by (rw [show (x1_3 + (t299.size : Int)) = wrap64 (x1_3 + (t299.size : Int)) from (by unfold wrap64; omega)]; exact c21b0))
                                    have c21b1 : ((a0.extract (x1_3 : Int).toNat ((wrap64 (x1_3 + (t299.size : Int))) : Int).toNat).toList != t299.toList) = false := bne_eq_false_iff_eq.mpr c21
                                    try (have c21b1w : ((a0.extract (x1_3 : Int).toNat (((x1_3 + (t299.size : Int))) : Int).toNat).toList != t299.toList) = false := by (rw [show (x1_3 + (t299.size : Int)) = wrap64 (x1_3 + (t299.size : Int)) from (by unfold wrap64; omega)]; exact c21b1))
                                    clear c21
                                    obtain ⟨y300, hy300⟩ : ∃ y_ : List Int, y_ = (([(x9_3) % 256] : List Int)) := ⟨_, rfl⟩
                                    replace H : (if x7_3.size + (strOfNums y300).size ≤ 9223372036854775807 then (punnetref05_Begins.l1 kj12 a0 (wrap64 (x1_3 + (t299.size : Int))) (x7_3 ++ (strOfNums y300)) true (wrap64 (x9_3 + 1))) else (none)) = some (r1, r2, r3) := by first | (rw [hy300]; with_reducible exact H) | (have H2_ := (Option.bind_some _ _).symm.trans H; rw [hy300]; with_reducible exact H2_) | (have H2_ := (Option.bind_some _ _).symm.trans H; with_reducible exact H2_) | with_reducible exact H | (rw [hy300]; exact H) | exact H
                                    have Ny300 := Aside0.mk hy300
                                    clear hy300
                                    by_cases c22 : x7_3.size + (strOfNums y300).size ≤ 9223372036854775807
                                    · rw [if_pos c22] at H
                                      have c22b0 := eq_true c22
                                      have c22b1 : decide (x7_3.size + (strOfNums y300).size ≤ 9223372036854775807) = true := decide_eq_true c22
                                      try have c22b2 : (9223372036854775807 < x7_3.size + (strOfNums y300).size) = False := eq_false (Nat.not_lt.2 c22)
                                      have H' := Aside0.mk H
                                      clear H
                                      go_wp2_with (first | ((with_reducible refine gate_callee (f := 53) rfl ?_); refine goesL_ (some 44) rfl rfl Try.func53 (by kernel_rfl) rfl #[.int .u8 ((x9_3) % 256)] rfl (by (try simp only [List.map_toArray, List.map_cons, List.map_nil]); first | done | rfl | (simp only [List.length_drop, List.length_take]; rfl)) ?_; (with_reducible refine (punnetref05_Byte.calls kj12 ((x9_3) % 256) t299 _ A16.out).mono ?_); rintro e w23 ⟨rfl, hb⟩; refine ⟨_, rfl, ?_⟩; have n0_ := Aside0.mk (below_step (by repeat (first | (with_reducible first | exact HB.out | apply below_alloc | apply pw_below_drewN | apply below_drew1) | exact HB.out)) hb); clear HB; have HB := n0_; clear n0_; (try clear hb); (try clear hb2); (try clear hk); (try clear hi)) | ((with_reducible refine gate_dst (N := 66) rfl ?_); (try (refine gate_guard (by rfl) ?_; dsimp only)); refine Kd.R_lit (Kd.int .u8) _ 5 ?hg (N := 66) ?hd (xs := ([(x9_3) % 256] : List Int)) (inner := [.int .u8 ((x9_3) % 256)]) (ok := fun _ => True) (okp := fun _ => True) ?hr ?hp (fun _ hk => hk) trivial (Below.refl _ _) (Nat.le_refl _) (by simp) ?_; (case hd => rfl); (case hg => rfl); (case hr => first | (go_simp; done) | (go_simp; rfl)); (case hp => exact (Reps.one (show Kd.M (Kd.int .u8) _ _ _ ((x9_3) % 256) [.int .u8 ((x9_3) % 256)] from rfl) (Reps.none _ _))); intro v301 w24 ho25 hb hg_ hnew_; clear hg_ hnew_; (first | rw [← Ny300.out] at ho25 | (simp only [Int.reduceToNat] at ho25; rw [← Ny300.out] at ho25)); have n0_ := Aside0.mk (Kd.R_lower ho25 (below_size (by repeat (first | (with_reducible first | exact HB.out | apply below_alloc | apply pw_below_drewN | apply below_drew1) | exact HB.out)))); have n1_ := Aside0.mk (below_step (by repeat (first | (with_reducible first | exact HB.out | apply below_alloc | apply pw_below_drewN | apply below_drew1) | exact HB.out)) hb); clear HB; have HO302 := n0_; have HB := n1_; clear n0_ n1_; clear hb ho25; have hcv26 := own_string (P := Try.prog) Try.underlying29 Try.underlying5 Try.underlying9 (Kd.own_of_R HO302.out)))
                                      go_roundg kj12
                                      case measure => have := HJ2.out; have := HK2.out; have := HK3.out; have := HJ12.out; omega
                                      case rel => exact ⟨(wrap64 (x1_3 + (t299.size : Int))), (x7_3 ++ (strOfNums y300)), (true), (wrap64 (x9_3 + 1)), (by first | rfl | (simp; done) | (simp [*]; done)), (by first | rfl | (simp; done) | (simp [*]; done)), (by first | rfl | (simp; done) | (simp [*]; done)), (by first | rfl | (simp; done) | (simp [*]; done)), H', ⟨by have := HJ2.out; have := HK2.out; have := HK3.out; have := HJ12.out; omega⟩, ⟨by repeat (first | (with_reducible first | exact HB.out | apply below_alloc | apply pw_below_drewN | apply below_drew1) | exact HB.out)⟩⟩
                                    · rw [if_neg c22] at H
                                      exact absurd H (by simp)
                                  · rw [if_neg c21] at H
                                    have c21b0 : ((a0.extract (x1_3 : Int).toNat ((wrap64 (x1_3 + (t299.size : Int))) : Int).toNat).toList == t299.toList) = false := beq_eq_false_iff_ne.mpr c21
                                    try (have c21b0w : ((a0.extract (x1_3 : Int).toNat (((x1_3 + (t299.size : Int))) : Int).toNat).toList == t299.toList) = false := by (rw [show (x1_3 + (t299.size : Int)) = wrap64 (x1_3 + (t299.size : Int)) from (by unfold wrap64; omega)]; exact c21b0))
                                    have c21b1 : ((a0.extract (x1_3 : Int).toNat ((wrap64 (x1_3 + (t299.size : Int))) : Int).toNat).toList != t299.toList) = true := bne_iff_ne.mpr c21
                                    try (have c21b1w : ((a0.extract (x1_3 : Int).toNat (((x1_3 + (t299.size : Int))) : Int).toNat).toList != t299.toList) = true := by (rw [show (x1_3 + (t299.size : Int)) = wrap64 (x1_3 + (t299.size : Int)) from (by unfold wrap64; omega)]; exact c21b1))
                                    have H' := Aside0.mk H
                                    clear H
                                    go_wp2_with (first | ((with_reducible refine gate_callee (f := 53) rfl ?_); refine goesL_ (some 44) rfl rfl Try.func53 (by kernel_rfl) rfl #[.int .u8 ((x9_3) % 256)] rfl (by (try simp only [List.map_toArray, List.map_cons, List.map_nil]); first | done | rfl | (simp only [List.length_drop, List.length_take]; rfl)) ?_; (with_reducible refine (punnetref05_Byte.calls kj12 ((x9_3) % 256) t299 _ A16.out).mono ?_); rintro e w27 ⟨rfl, hb⟩; refine ⟨_, rfl, ?_⟩; have n0_ := Aside0.mk (below_step (by repeat (first | (with_reducible first | exact HB.out | apply below_alloc | apply pw_below_drewN | apply below_drew1) | exact HB.out)) hb); clear HB; have HB := n0_; clear n0_; (try clear hb); (try clear hb2); (try clear hk); (try clear hi)))
                                    go_roundg kj12
                                    case measure => have := HJ2.out; have := HK2.out; have := HK3.out; have := HJ12.out; omega
                                    case rel => exact ⟨(x1_3), (x7_3), (x8_3), (wrap64 (x9_3 + 1)), (by first | rfl | (simp; done) | (simp [*]; done)), (by first | rfl | (simp; done) | (simp [*]; done)), (by first | rfl | (simp; done) | (simp [*]; done)), (by first | rfl | (simp; done) | (simp [*]; done)), H', ⟨by have := HJ2.out; have := HK2.out; have := HK3.out; have := HJ12.out; omega⟩, ⟨by repeat (first | (with_reducible first | exact HB.out | apply below_alloc | apply pw_below_drewN | apply below_drew1) | exact HB.out)⟩⟩
                                · rw [if_neg c19] at H
                                  exact absurd H (by simp)
                              · rw [if_neg c18] at H
                                exact absurd H (by simp)
                            · rw [if_neg c17] at H
                              have c17b0 : decide ((wrap64 (x1_3 + (t299.size : Int))) ≤ (a0.size : Int)) = false := decide_eq_false c17
                              try (have c17b0w : decide (((x1_3 + (t299.size : Int))) ≤ (a0.size : Int)) = false := by (rw [show (x1_3 + (t299.size : Int)) = wrap64 (x1_3 + (t299.size : Int)) from (by unfold wrap64; omega)]; exact c17b0))
                              clear c17
                              have H' := Aside0.mk H
                              clear H
                              go_wp2_with (first | ((with_reducible refine gate_callee (f := 53) rfl ?_); refine goesL_ (some 44) rfl rfl Try.func53 (by kernel_rfl) rfl #[.int .u8 ((x9_3) % 256)] rfl (by (try simp only [List.map_toArray, List.map_cons, List.map_nil]); first | done | rfl | (simp only [List.length_drop, List.length_take]; rfl)) ?_; (with_reducible refine (punnetref05_Byte.calls kj12 ((x9_3) % 256) t299 _ A16.out).mono ?_); rintro e w28 ⟨rfl, hb⟩; refine ⟨_, rfl, ?_⟩; have n0_ := Aside0.mk (below_step (by repeat (first | (with_reducible first | exact HB.out | apply below_alloc | apply pw_below_drewN | apply below_drew1) | exact HB.out)) hb); clear HB; have HB := n0_; clear n0_; (try clear hb); (try clear hb2); (try clear hk); (try clear hi)))
                              go_roundg kj12
                              case measure => have := HJ2.out; have := HK2.out; have := HK3.out; have := HJ12.out; omega
                              case rel => exact ⟨(x1_3), (x7_3), (x8_3), (wrap64 (x9_3 + 1)), (by first | rfl | (simp; done) | (simp [*]; done)), (by first | rfl | (simp; done) | (simp [*]; done)), (by first | rfl | (simp; done) | (simp [*]; done)), (by first | rfl | (simp; done) | (simp [*]; done)), H', ⟨by have := HJ2.out; have := HK2.out; have := HK3.out; have := HJ12.out; omega⟩, ⟨by repeat (first | (with_reducible first | exact HB.out | apply below_alloc | apply pw_below_drewN | apply below_drew1) | exact HB.out)⟩⟩
                          · replace c15 := Bool.eq_false_iff.mpr c15
                            subst c15
                            have H1 : (if x8_3 = true then (punnetref05_Begins.l0 kj12 a0 x1_3 x7_3) else (some ((⟨#[]⟩ : ByteArray), 0, false))) = some (r1, r2, r3) := by rw [if_neg (show ¬ (false = true) by decide)] at H; exact H
                            clear H
                            have H := H1
                            clear H1
                            by_cases c29 : x8_3 = true
                            · subst c29
                              have H1 : (punnetref05_Begins.l0 kj12 a0 x1_3 x7_3) = some (r1, r2, r3) := by rw [if_pos rfl] at H; exact H
                              clear H
                              have H := H1
                              clear H1
                              have H' := Aside0.mk H
                              clear H
                              go_wp2
                              go_roundg kj12
                              case measure => have := HJ2.out; have := HK2.out; have := HK3.out; have := HJ12.out; omega
                              case rel => exact ⟨(x1_3), (x7_3), (by first | rfl | (simp; done) | (simp [*]; done)), (by first | rfl | (simp; done) | (simp [*]; done)), H', ⟨by have := HJ2.out; have := HK2.out; have := HK3.out; have := HJ12.out; omega⟩, ⟨by repeat (first | (with_reducible first | exact HB.out | apply below_alloc | apply pw_below_drewN | apply below_drew1) | exact HB.out)⟩⟩
                            · replace c29 := Bool.eq_false_iff.mpr c29
                              subst c29
                              have H1 : (some ((⟨#[]⟩ : ByteArray), 0, false)) = some (r1, r2, r3) := by rw [if_neg (show ¬ (false = true) by decide)] at H; exact H
                              clear H
                              have H := H1
                              clear H1
                              simp only [Option.some.injEq, Prod.mk.injEq] at H
                              obtain ⟨rfl, rfl, rfl⟩ := H
                              go_wp2
                              go_ret3
                              exact ⟨by first | rfl | (simp [errW_none, errW_some] <;> rfl) | (simp [*, errW_none, errW_some] <;> rfl), by repeat (first | (with_reducible first | exact HB.out | apply below_alloc | apply pw_below_drewN | apply below_drew1) | exact HB.out)⟩
              · rw [if_neg c10] at H
                exact absurd H (by simp)
            · rw [if_neg c9] at H
              have c9b0 : decide (x1_2 < (a0.size : Int)) = false := decide_eq_false c9
              clear c9
              simp only [Option.some.injEq, Prod.mk.injEq] at H
              obtain ⟨rfl, rfl, rfl⟩ := H
              go_wp2
              go_ret3
              exact ⟨by first | rfl | (simp [errW_none, errW_some] <;> rfl) | (simp [*, errW_none, errW_some] <;> rfl), by repeat (first | (with_reducible first | exact HB.out | apply below_alloc | apply pw_below_drewN | apply below_drew1) | exact HB.out)⟩

end Go.Proofs.Ytmmofckknopaaaa.Q
