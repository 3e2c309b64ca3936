/- A function of the program or a law's row comes to what the Lean function beside it says; no condition beyond those typed. Written by a program of this workplace; Lean checks it. -/
import Derived.Test.YtmmofckknopaaaaQ0
import Derived.Test.YtmmofckknopaaaaQ7
import Derived.Test.YtmmofckknopaaaaQ20
namespace Go.Proofs.Ytmmofckknopaaaa.Q
open Go.RowKit Go.Proofs.YtmmofckknopaaaaW.PrintWords Go.Proofs.YtmmofckknopaaaaW.PrintLast Go.Proofs.YtmmofckknopaaaaW.PrintMore
attribute [local go_sem] max2_int min2_int max_two min_two max_three min_three max_four min_four   -- for this text's walks alone
set_option linter.unusedVariables false
set_option linter.unusedSimpArgs false

/-! ### punnetref04_Get: function 21 -/
mutual
def punnetref04_Get.j0 : Nat → List Int → Int → Int → Bool → Option (Int × Int × Int)
  | 0, _, _, _, _ => none
  | k + 1, x0, x1, x2, x30 => if x30 = true then (some (0, 0, 2)) else (if x2 = 1 then (if (wrap64 ((x0.length : Int) - x1)) < 8 then (some (0, 0, 8)) else (punnetref04_Get.l0 k x0 x1 0 7)) else (punnetref04_Get.l1 k x0 x1 0 0))
def punnetref04_Get.l0 : Nat → List Int → Int → Int → Int → Option (Int × Int × Int)
  | 0, _, _, _, _ => none
  | k + 1, x0, x1, x9, x11 => if x11 ≥ 0 then (if 0 ≤ (wrap64 (x1 + x11)) then (if (wrap64 (x1 + x11)) < (x0.length : Int) then (punnetref04_Get.l0 k x0 x1 (IntKind.u64.wrap ((IntKind.u64.wrap (x9 * 256)) + (IntKind.u64.wrap (rd x0 (wrap64 (x1 + x11)))))) (wrap64 (x11 - 1))) else (none)) else (none)) else (some (wrap64 (x9), wrap64 (x1 + 8), 0))
def punnetref04_Get.j3 : Nat → List Int → Int → Int → Int → Option (Int × Int × Int)
  | 0, _, _, _, _ => none
  | k + 1, x0, x1, x9, x10 => if (wrap64 (x1 + x10)) ≥ (x0.length : Int) then (punnetref04_Get.j4 k x0 x1 x9 x10 true) else (punnetref04_Get.j4 k x0 x1 x9 x10 (x10 == 10))
def punnetref04_Get.j4 : Nat → List Int → Int → Int → Int → Bool → Option (Int × Int × Int)
  | 0, _, _, _, _, _ => none
  | k + 1, x0, x1, x9, x10, x86 => if x86 = true then (some (0, 0, 8)) else (punnetref04_Get.l2 k x0 x1 x9 x10 x10)
def punnetref04_Get.l2 : Nat → List Int → Int → Int → Int → Int → Option (Int × Int × Int)
  | 0, _, _, _, _, _ => none
  | k + 1, x0, x1, x9, x10, x12 => if x12 ≥ 0 then (if 0 ≤ (wrap64 (x1 + x12)) then (if (wrap64 (x1 + x12)) < (x0.length : Int) then (punnetref04_Get.l2 k x0 x1 (IntKind.u64.wrap ((IntKind.u64.wrap (x9 * 128)) + (IntKind.u64.wrap (Int.tmod (rd x0 (wrap64 (x1 + x12))) 128)))) x10 (wrap64 (x12 - 1))) else (none)) else (none)) else ((punnetref04_Back.f x9).bind fun t170 => ((punnetref04_Put.f k 2 t170).bind fun t171 => (if 0 ≤ x1 then (if x1 ≤ (wrap64 ((wrap64 (x1 + x10)) + 1)) then (if (wrap64 ((wrap64 (x1 + x10)) + 1)) ≤ (x0.length : Int) then (if (strOfNums t171).toList = (strOfNums ((x0.take ((wrap64 ((wrap64 (x1 + x10)) + 1)) : Int).toNat).drop (x1 : Int).toNat)).toList then (some (t170, wrap64 ((wrap64 (x1 + x10)) + 1), 0)) else (some (0, 0, 8))) else (none)) else (none)) else (none))))
def punnetref04_Get.l1 : Nat → List Int → Int → Int → Int → Option (Int × Int × Int)
  | 0, _, _, _, _ => none
  | k + 1, x0, x1, x9, x10 => if (wrap64 (x1 + x10)) < (x0.length : Int) then (if 0 ≤ (wrap64 (x1 + x10)) then (if (rd x0 (wrap64 (x1 + x10))) ≥ 128 then (if x10 < 10 then (punnetref04_Get.l1 k x0 x1 x9 (wrap64 (x10 + 1))) else (punnetref04_Get.j3 k x0 x1 x9 x10)) else (punnetref04_Get.j3 k x0 x1 x9 x10)) else (none)) else (punnetref04_Get.j3 k x0 x1 x9 x10)
end
def punnetref04_Get.f (k : Nat) (l0 : List Int) (a1 : Int) (a2 : Int) : Option (Int × Int × Int) := if a2 = 1 then (if a1 < 0 then (punnetref04_Get.j0 k l0 a1 a2 true) else (punnetref04_Get.j0 k l0 a1 a2 (decide (a1 > (l0.length : Int))))) else (if a2 = 2 then (if a1 < 0 then (punnetref04_Get.j0 k l0 a1 a2 true) else (punnetref04_Get.j0 k l0 a1 a2 (decide (a1 > (l0.length : Int))))) else (punnetref04_Get.j0 k l0 a1 a2 true))
theorem punnetref04_Get.mono_l : ∀ k, (∀ y0 y1 y2 y3, LeO (punnetref04_Get.j0 k y0 y1 y2 y3) (punnetref04_Get.j0 (k + 1) y0 y1 y2 y3)) ∧ (∀ y0 y1 y2 y3, LeO (punnetref04_Get.l0 k y0 y1 y2 y3) (punnetref04_Get.l0 (k + 1) y0 y1 y2 y3)) ∧ (∀ y0 y1 y2 y3, LeO (punnetref04_Get.j3 k y0 y1 y2 y3) (punnetref04_Get.j3 (k + 1) y0 y1 y2 y3)) ∧ (∀ y0 y1 y2 y3 y4, LeO (punnetref04_Get.j4 k y0 y1 y2 y3 y4) (punnetref04_Get.j4 (k + 1) y0 y1 y2 y3 y4)) ∧ (∀ y0 y1 y2 y3 y4, LeO (punnetref04_Get.l2 k y0 y1 y2 y3 y4) (punnetref04_Get.l2 (k + 1) y0 y1 y2 y3 y4)) ∧ (∀ y0 y1 y2 y3, LeO (punnetref04_Get.l1 k y0 y1 y2 y3) (punnetref04_Get.l1 (k + 1) y0 y1 y2 y3))
  | 0 => ⟨fun _ _ _ _ r h => by simp [punnetref04_Get.j0] at h, fun _ _ _ _ r h => by simp [punnetref04_Get.l0] at h, fun _ _ _ _ r h => by simp [punnetref04_Get.j3] at h, fun _ _ _ _ _ r h => by simp [punnetref04_Get.j4] at h, fun _ _ _ _ _ r h => by simp [punnetref04_Get.l2] at h, fun _ _ _ _ r h => by simp [punnetref04_Get.l1] at h⟩
  | k + 1 => by
    obtain ⟨ih0, ih1, ih2, ih3, ih4, ih5⟩ := punnetref04_Get.mono_l k
    refine ⟨?_, ?_, ?_, ?_, ?_, ?_⟩
    · intro y0 y1 y2 y3
      unfold punnetref04_Get.j0
      repeat' first
      | (with_reducible exact ih0 _ _ _ _)
      | (with_reducible exact ih1 _ _ _ _)
      | (with_reducible exact ih2 _ _ _ _)
      | (with_reducible exact ih3 _ _ _ _ _)
      | (with_reducible exact ih4 _ _ _ _ _)
      | (with_reducible exact ih5 _ _ _ _)
      | (with_reducible exact punnetref04_Put.mono _ _ _)
      | (with_reducible exact LeO.refl _)
      | (with_reducible exact LeO.none _)
      | (with_reducible refine LeO.ite ?_ ?_)
      | (with_reducible refine LeO.bind ?_ (fun _ => ?_))
      | exact ih0 _ _ _ _
      | exact ih1 _ _ _ _
      | exact ih2 _ _ _ _
      | exact ih3 _ _ _ _ _
      | exact ih4 _ _ _ _ _
      | exact ih5 _ _ _ _
      | exact punnetref04_Put.mono _ _ _
      | exact LeO.none _
      | refine LeO.ite ?_ ?_
      | refine LeO.bind ?_ (fun _ => ?_)
    · intro y0 y1 y2 y3
      unfold punnetref04_Get.l0
      repeat' first
      | (with_reducible exact ih0 _ _ _ _)
      | (with_reducible exact ih1 _ _ _ _)
      | (with_reducible exact ih2 _ _ _ _)
      | (with_reducible exact ih3 _ _ _ _ _)
      | (with_reducible exact ih4 _ _ _ _ _)
      | (with_reducible exact ih5 _ _ _ _)
      | (with_reducible exact punnetref04_Put.mono _ _ _)
      | (with_reducible exact LeO.refl _)
      | (with_reducible exact LeO.none _)
      | (with_reducible refine LeO.ite ?_ ?_)
      | (with_reducible refine LeO.bind ?_ (fun _ => ?_))
      | exact ih0 _ _ _ _
      | exact ih1 _ _ _ _
      | exact ih2 _ _ _ _
      | exact ih3 _ _ _ _ _
      | exact ih4 _ _ _ _ _
      | exact ih5 _ _ _ _
      | exact punnetref04_Put.mono _ _ _
      | exact LeO.none _
      | refine LeO.ite ?_ ?_
      | refine LeO.bind ?_ (fun _ => ?_)
    · intro y0 y1 y2 y3
      unfold punnetref04_Get.j3
      repeat' first
      | (with_reducible exact ih0 _ _ _ _)
      | (with_reducible exact ih1 _ _ _ _)
      | (with_reducible exact ih2 _ _ _ _)
      | (with_reducible exact ih3 _ _ _ _ _)
      | (with_reducible exact ih4 _ _ _ _ _)
      | (with_reducible exact ih5 _ _ _ _)
      | (with_reducible exact punnetref04_Put.mono _ _ _)
      | (with_reducible exact LeO.refl _)
      | (with_reducible exact LeO.none _)
      | (with_reducible refine LeO.ite ?_ ?_)
      | (with_reducible refine LeO.bind ?_ (fun _ => ?_))
      | exact ih0 _ _ _ _
      | exact ih1 _ _ _ _
      | exact ih2 _ _ _ _
      | exact ih3 _ _ _ _ _
      | exact ih4 _ _ _ _ _
      | exact ih5 _ _ _ _
      | exact punnetref04_Put.mono _ _ _
      | exact LeO.none _
      | refine LeO.ite ?_ ?_
      | refine LeO.bind ?_ (fun _ => ?_)
    · intro y0 y1 y2 y3 y4
      unfold punnetref04_Get.j4
      repeat' first
      | (with_reducible exact ih0 _ _ _ _)
      | (with_reducible exact ih1 _ _ _ _)
      | (with_reducible exact ih2 _ _ _ _)
      | (with_reducible exact ih3 _ _ _ _ _)
      | (with_reducible exact ih4 _ _ _ _ _)
      | (with_reducible exact ih5 _ _ _ _)
      | (with_reducible exact punnetref04_Put.mono _ _ _)
      | (with_reducible exact LeO.refl _)
      | (with_reducible exact LeO.none _)
      | (with_reducible refine LeO.ite ?_ ?_)
      | (with_reducible refine LeO.bind ?_ (fun _ => ?_))
      | exact ih0 _ _ _ _
      | exact ih1 _ _ _ _
      | exact ih2 _ _ _ _
      | exact ih3 _ _ _ _ _
      | exact ih4 _ _ _ _ _
      | exact ih5 _ _ _ _
      | exact punnetref04_Put.mono _ _ _
      | exact LeO.none _
      | refine LeO.ite ?_ ?_
      | refine LeO.bind ?_ (fun _ => ?_)
    · intro y0 y1 y2 y3 y4
      unfold punnetref04_Get.l2
      repeat' first
      | (with_reducible exact ih0 _ _ _ _)
      | (with_reducible exact ih1 _ _ _ _)
      | (with_reducible exact ih2 _ _ _ _)
      | (with_reducible exact ih3 _ _ _ _ _)
      | (with_reducible exact ih4 _ _ _ _ _)
      | (with_reducible exact ih5 _ _ _ _)
      | (with_reducible exact punnetref04_Put.mono _ _ _)
      | (with_reducible exact LeO.refl _)
      | (with_reducible exact LeO.none _)
      | (with_reducible refine LeO.ite ?_ ?_)
      | (with_reducible refine LeO.bind ?_ (fun _ => ?_))
      | exact ih0 _ _ _ _
      | exact ih1 _ _ _ _
      | exact ih2 _ _ _ _
      | exact ih3 _ _ _ _ _
      | exact ih4 _ _ _ _ _
      | exact ih5 _ _ _ _
      | exact punnetref04_Put.mono _ _ _
      | exact LeO.none _
      | refine LeO.ite ?_ ?_
      | refine LeO.bind ?_ (fun _ => ?_)
    · intro y0 y1 y2 y3
      unfold punnetref04_Get.l1
      repeat' first
      | (with_reducible exact ih0 _ _ _ _)
      | (with_reducible exact ih1 _ _ _ _)
      | (with_reducible exact ih2 _ _ _ _)
      | (with_reducible exact ih3 _ _ _ _ _)
      | (with_reducible exact ih4 _ _ _ _ _)
      | (with_reducible exact ih5 _ _ _ _)
      | (with_reducible exact punnetref04_Put.mono _ _ _)
      | (with_reducible exact LeO.refl _)
      | (with_reducible exact LeO.none _)
      | (with_reducible refine LeO.ite ?_ ?_)
      | (with_reducible refine LeO.bind ?_ (fun _ => ?_))
      | exact ih0 _ _ _ _
      | exact ih1 _ _ _ _
      | exact ih2 _ _ _ _
      | exact ih3 _ _ _ _ _
      | exact ih4 _ _ _ _ _
      | exact ih5 _ _ _ _
      | exact punnetref04_Put.mono _ _ _
      | exact LeO.none _
      | refine LeO.ite ?_ ?_
      | refine LeO.bind ?_ (fun _ => ?_)
theorem punnetref04_Get.mono : ∀ a0 a1 a2 k, LeO (punnetref04_Get.f k a0 a1 a2) (punnetref04_Get.f (k + 1) a0 a1 a2) := by
  intro a0 a1 a2 k
  obtain ⟨ih0, ih1, ih2, ih3, ih4, ih5⟩ := punnetref04_Get.mono_l k
  unfold punnetref04_Get.f
  repeat' first
      | (with_reducible exact ih0 _ _ _ _)
      | (with_reducible exact ih1 _ _ _ _)
      | (with_reducible exact ih2 _ _ _ _)
      | (with_reducible exact ih3 _ _ _ _ _)
      | (with_reducible exact ih4 _ _ _ _ _)
      | (with_reducible exact ih5 _ _ _ _)
      | (with_reducible exact punnetref04_Put.mono _ _ _)
      | (with_reducible exact LeO.refl _)
      | (with_reducible exact LeO.none _)
      | (with_reducible refine LeO.ite ?_ ?_)
      | (with_reducible refine LeO.bind ?_ (fun _ => ?_))
      | exact ih0 _ _ _ _
      | exact ih1 _ _ _ _
      | exact ih2 _ _ _ _
      | exact ih3 _ _ _ _ _
      | exact ih4 _ _ _ _ _
      | exact ih5 _ _ _ _
      | exact punnetref04_Put.mono _ _ _
      | exact LeO.none _
      | refine LeO.ite ?_ ?_
      | refine LeO.bind ?_ (fun _ => ?_)
set_option maxHeartbeats 8000000 in
set_option maxRecDepth 100000 in
theorem punnetref04_Get.calls (k : Nat) (A0 : Option Addr) (c0 : Nat) (l0 : List Int) (a1 : Int) (a2 : Int) (r1 : Int) (r2 : Int) (r3 : Int) (w : World) (hr0 : Kd.C (Kd.int .u8) w A0 l0.length l0) (hc0 : l0.length ≤ c0) (h : punnetref04_Get.f k l0 a1 a2 = some (r1, r2, r3)) :
    Calls Try.prog 21 #[.slice A0 l0.length c0, .int .i64 a1, .int .i64 a2] w fun e w' => e = .returned (.tuple #[.int .i64 r1, .int .i64 r2, .int .i64 r3]) ∧ Below w.heap.size w w' := by
  have HR0 := Aside0.mk hr0
  have HC0 := Aside0.mk hc0
  clear hr0 hc0
  have HB := Aside0.mk (Below.refl w.heap.size w)
  have H : (if a2 = 1 then (if a1 < 0 then (punnetref04_Get.j0 k l0 a1 a2 true) else (punnetref04_Get.j0 k l0 a1 a2 (decide (a1 > (l0.length : Int))))) else (if a2 = 2 then (if a1 < 0 then (punnetref04_Get.j0 k l0 a1 a2 true) else (punnetref04_Get.j0 k l0 a1 a2 (decide (a1 > (l0.length : Int))))) else (punnetref04_Get.j0 k l0 a1 a2 true))) = some (r1, r2, r3) := h
  clear h
  have HC4 := Aside0.mk H
  clear H
  go_enter Try.func21, Try.ntmps21
  go_upto_region 1 with (fail)
  repeat (go_quiet (fail); go_upto_region 1 with (fail))
  go_cut [30] (fun v30 wc => ∃ (kq : Nat) (x30_3 : Bool), v30 = .bool x30_3 ∧ Aside0 (punnetref04_Get.j0 kq l0 a1 a2 x30_3 = some (r1, r2, r3)) ∧ Aside0 (kq ≤ k) ∧ Aside0 (Below w.heap.size w wc))
  case first =>
    have H := HC4.out
    clear HC4
    by_cases c5 : a2 = 1
    · rw [if_pos c5] at H
      have c5b0 : (a2 == 1) = true := beq_iff_eq.mpr c5
      have c5b1 : (a2 != 1) = false := bne_eq_false_iff_eq.mpr c5
      clear c5
      (first | rw [c5b0] | (simp only [i64_w, i32_w]; rw [c5b0]) | skip)
      by_cases c6 : a1 < 0
      · rw [if_pos c6] at H
        have c6b0 : decide (a1 < 0) = true := decide_eq_true c6
        clear c6
        have H' := Aside0.mk H
        clear H
        go_wp2
        repeat (go_quiet (fail); try go_wp2)
        go_meet
        case rel => exact ⟨_, (true), (by first | rfl | (simp; done) | (simp [*]; done)), H', ⟨by first | omega | exact Nat.le_refl _⟩, ⟨by repeat (first | (with_reducible first | exact HB.out | apply below_alloc | apply pw_below_drewN | apply below_drew1) | exact HB.out)⟩⟩
      · rw [if_neg c6] at H
        have c6b0 : decide (a1 < 0) = false := decide_eq_false c6
        clear c6
        have H' := Aside0.mk H
        clear H
        go_wp2
        repeat (go_quiet (fail); try go_wp2)
        go_meet
        case rel => exact ⟨_, (decide (a1 > (l0.length : Int))), (by first | rfl | (simp; done) | (simp [*]; done)), H', ⟨by first | omega | exact Nat.le_refl _⟩, ⟨by repeat (first | (with_reducible first | exact HB.out | apply below_alloc | apply pw_below_drewN | apply below_drew1) | exact HB.out)⟩⟩
    · rw [if_neg c5] at H
      have c5b0 : (a2 == 1) = false := beq_eq_false_iff_ne.mpr c5
      have c5b1 : (a2 != 1) = true := bne_iff_ne.mpr c5
      (first | rw [c5b0] | (simp only [i64_w, i32_w]; rw [c5b0]) | skip)
      by_cases c7 : a2 = 2
      · rw [if_pos c7] at H
        have c7b0 : (a2 == 2) = true := beq_iff_eq.mpr c7
        have c7b1 : (a2 != 2) = false := bne_eq_false_iff_eq.mpr c7
        clear c7
        by_cases c8 : a1 < 0
        · rw [if_pos c8] at H
          have c8b0 : decide (a1 < 0) = true := decide_eq_true c8
          clear c8
          have H' := Aside0.mk H
          clear H
          go_wp2
          repeat (go_quiet (fail); try go_wp2)
          go_meet
          case rel => exact ⟨_, (true), (by first | rfl | (simp; done) | (simp [*]; done)), H', ⟨by first | omega | exact Nat.le_refl _⟩, ⟨by repeat (first | (with_reducible first | exact HB.out | apply below_alloc | apply pw_below_drewN | apply below_drew1) | exact HB.out)⟩⟩
        · rw [if_neg c8] at H
          have c8b0 : decide (a1 < 0) = false := decide_eq_false c8
          clear c8
          have H' := Aside0.mk H
          clear H
          go_wp2
          repeat (go_quiet (fail); try go_wp2)
          go_meet
          case rel => exact ⟨_, (decide (a1 > (l0.length : Int))), (by first | rfl | (simp; done) | (simp [*]; done)), H', ⟨by first | omega | exact Nat.le_refl _⟩, ⟨by repeat (first | (with_reducible first | exact HB.out | apply below_alloc | apply pw_below_drewN | apply below_drew1) | exact HB.out)⟩⟩
      · rw [if_neg c7] at H
        have c7b0 : (a2 == 2) = false := beq_eq_false_iff_ne.mpr c7
        have c7b1 : (a2 != 2) = true := bne_iff_ne.mpr c7
        have H' := Aside0.mk H
        clear H
        go_wp2
        repeat (go_quiet (fail); try go_wp2)
        go_meet
        case rel => exact ⟨_, (true), (by first | rfl | (simp; done) | (simp [*]; done)), H', ⟨by first | omega | exact Nat.le_refl _⟩, ⟨by repeat (first | (with_reducible first | exact HB.out | apply below_alloc | apply pw_below_drewN | apply below_drew1) | exact HB.out)⟩⟩
  case rest =>
    clear HC4
    try clear c2
    try clear p2
    try clear c5
    try clear c5b0
    try clear c5b1
    try clear c6
    try clear c6b0
    try clear c7
    try clear c7b0
    try clear c7b1
    try clear c8
    try clear c8b0
    obtain ⟨kq, x30_3, rfl, HA, HJ3, HB⟩ := hcut
    cases kq with
    | zero => exact absurd HA.out (by simp [punnetref04_Get.j0])
    | succ kj3 =>
      have H := HA.out
      clear HA
      simp only [punnetref04_Get.j0] at H
      by_cases c9 : x30_3 = true
      · subst c9
        have H1 : (some (0, 0, 2)) = some (r1, r2, r3) := by rw [if_pos rfl] at H; exact H
        clear H
        have H := H1
        clear H1
        simp only [Option.some.injEq, Prod.mk.injEq] at H
        obtain ⟨rfl, rfl, rfl⟩ := H
        go_wp2
        repeat (go_quiet (fail); try go_wp2)
        go_ret3
        exact ⟨by first | rfl | (simp [errW_none, errW_some] <;> rfl) | (simp [*, errW_none, errW_some] <;> rfl), by repeat (first | (with_reducible first | exact HB.out | apply below_alloc | apply pw_below_drewN | apply below_drew1) | exact HB.out)⟩
      · replace c9 := Bool.eq_false_iff.mpr c9
        subst c9
        have H1 : (if a2 = 1 then (if (wrap64 ((l0.length : Int) - a1)) < 8 then (some (0, 0, 8)) else (punnetref04_Get.l0 kj3 l0 a1 0 7)) else (punnetref04_Get.l1 kj3 l0 a1 0 0)) = some (r1, r2, r3) := by rw [if_neg (show ¬ (false = true) by decide)] at H; exact H
        clear H
        have H := H1
        clear H1
        by_cases c10 : a2 = 1
        · rw [if_pos c10] at H
          have c10b0 : (a2 == 1) = true := beq_iff_eq.mpr c10
          have c10b1 : (a2 != 1) = false := bne_eq_false_iff_eq.mpr c10
          clear c10
          by_cases c11 : (wrap64 ((l0.length : Int) - a1)) < 8
          · rw [if_pos c11] at H
            have c11b0 : decide ((wrap64 ((l0.length : Int) - a1)) < 8) = true := decide_eq_true c11
            clear c11
            simp only [Option.some.injEq, Prod.mk.injEq] at H
            obtain ⟨rfl, rfl, rfl⟩ := H
            go_wp2
            repeat (go_quiet (fail); try go_wp2)
            go_ret3
            exact ⟨by first | rfl | (simp [errW_none, errW_some] <;> rfl) | (simp [*, errW_none, errW_some] <;> rfl), by repeat (first | (with_reducible first | exact HB.out | apply below_alloc | apply pw_below_drewN | apply below_drew1) | exact HB.out)⟩
          · rw [if_neg c11] at H
            have c11b0 : decide ((wrap64 ((l0.length : Int) - a1)) < 8) = false := decide_eq_false c11
            clear c11
            have H' := Aside0.mk H
            clear H
            go_wp2
            repeat (go_quiet (fail); try go_wp2)
            go_loopg [9, 11] kj3 (fun kq v9 v11 w' => ∃ (x9_2 : Int) (x11_2 : Int), v9 = .int .u64 x9_2 ∧ v11 = .int .i64 x11_2 ∧ Aside0 (punnetref04_Get.l0 kq l0 a1 x9_2 x11_2 = some (r1, r2, r3)) ∧ Aside0 (kq ≤ kj3) ∧ Aside0 (Below w.heap.size w w'))
            case atStart => exact ⟨(0), (7), (by first | rfl | (simp; done) | (simp [*]; done)), (by first | rfl | (simp; done) | (simp [*]; done)), H', ⟨Nat.le_refl _⟩, ⟨by repeat (first | (with_reducible first | exact HB.out | apply below_alloc | apply pw_below_drewN | apply below_drew1) | exact HB.out)⟩⟩
            case round =>
              clear H'
              try clear c1
              try clear c2
              try clear p2
              try clear c5
              try clear c5b0
              try clear c5b1
              try clear c6
              try clear c6b0
              try clear p6
              try clear c7
              try clear c7b0
              try clear c7b1
              try clear c8
              try clear c8b0
              try clear c9
              try clear c10
              try clear c10b0
              try clear c10b1
              try clear c11
              try clear c11b0
              try clear p2
              obtain ⟨x9_2, x11_2, rfl, rfl, HA, HK2, HB⟩ := hrel
              cases gk with
              | zero => exact absurd HA.out (by simp [punnetref04_Get.l0])
              | succ k2 =>
                have H := HA.out
                clear HA
                simp only [punnetref04_Get.l0] at H
                by_cases c12 : x11_2 ≥ 0
                · rw [if_pos c12] at H
                  have c12b0 : decide (0 ≤ x11_2) = true := decide_eq_true c12
                  clear c12
                  obtain ⟨ji13, hji13⟩ : ∃ j_ : Int, (wrap64 (a1 + x11_2)) = j_ := ⟨_, rfl⟩
                  replace H : (if 0 ≤ (ji13) then (if (ji13) < (l0.length : Int) then (punnetref04_Get.l0 k2 l0 a1 (IntKind.u64.wrap ((IntKind.u64.wrap (x9_2 * 256)) + (IntKind.u64.wrap (rd l0 (ji13))))) (wrap64 (x11_2 - 1))) else (none)) else (none)) = some (r1, r2, r3) := by first | (rw [hji13] at H; exact H) | (simp only [hji13] at H ⊢; exact H)
                  have hji13w : (IntKind.i64.wrap (a1 + x11_2)) = ji13 := (i64_w _).trans hji13
                  by_cases c14 : 0 ≤ (ji13)
                  · rw [if_pos c14] at H
                    have c14b0 : decide (0 ≤ (ji13)) = true := decide_eq_true c14
                    clear c14
                    by_cases c15 : (ji13) < (l0.length : Int)
                    · rw [if_pos c15] at H
                      have c15b0 : decide ((ji13) < (l0.length : Int)) = true := decide_eq_true c15
                      clear c15
                      have H' := Aside0.mk H
                      clear H
                      have p167 : 0 ≤ ((ji13) : Int) := of_decide_eq_true (by first | (with_reducible assumption) | assumption)
                      have q167 : (ji13) < (l0.length : Int) := of_decide_eq_true (by first | (with_reducible assumption) | assumption)
                      obtain ⟨ad167, e167, hx167_0⟩ := Kd.at_int HR0.out (ji13) p167 q167
                      cases e167
                      replace hx167_0 := (HB.out.cell (World.block_lt_of_cell? w _ hx167_0)).trans hx167_0
                      replace p167 := eq_true p167
                      replace q167 := eq_true q167
                      go_wp2
                      repeat (go_quiet (fail); try go_wp2)
                      go_roundg k2
                      case measure => have := HJ3.out; have := HK2.out; omega
                      case rel => exact ⟨(IntKind.u64.wrap ((IntKind.u64.wrap (x9_2 * 256)) + (IntKind.u64.wrap (rd l0 (ji13))))), (wrap64 (x11_2 - 1)), (by first | rfl | (simp; done) | (simp only [← hji13] <;> (first | rfl | simp)) | (simp [*]; done)), (by first | rfl | (simp; done) | (simp [*]; done)), H', ⟨by have := HJ3.out; have := HK2.out; omega⟩, ⟨by repeat (first | (with_reducible first | exact HB.out | apply below_alloc | apply pw_below_drewN | apply below_drew1) | exact HB.out)⟩⟩
                    · rw [if_neg c15] at H
                      exact absurd H (by simp)
                  · rw [if_neg c14] at H
                    exact absurd H (by simp)
                · rw [if_neg c12] at H
                  have c12b0 : decide (0 ≤ x11_2) = false := decide_eq_false c12
                  clear c12
                  simp only [Option.some.injEq, Prod.mk.injEq] at H
                  obtain ⟨rfl, rfl, rfl⟩ := H
                  go_wp2
                  repeat (go_quiet (fail); try go_wp2)
                  go_ret3
                  exact ⟨by first | rfl | (simp [errW_none, errW_some] <;> rfl) | (simp [*, errW_none, errW_some] <;> rfl), by repeat (first | (with_reducible first | exact HB.out | apply below_alloc | apply pw_below_drewN | apply below_drew1) | exact HB.out)⟩
        · rw [if_neg c10] at H
          have c10b0 : (a2 == 1) = false := beq_eq_false_iff_ne.mpr c10
          have c10b1 : (a2 != 1) = true := bne_iff_ne.mpr c10
          have HC16 := Aside0.mk H
          clear H
          go_upto_block 2 with (fail)
          repeat (go_quiet (fail); go_upto_block 2 with (fail))
          go_cut [10] (fun v10 wc => ∃ (kq : Nat) (x10_15 : Int), v10 = .int .i64 x10_15 ∧ Aside0 (punnetref04_Get.j3 kq l0 a1 0 x10_15 = some (r1, r2, r3)) ∧ Aside0 (kq ≤ kj3) ∧ Aside0 (Below w.heap.size w wc))
          case first =>
            have H := HC16.out
            clear HC16
            have H' := Aside0.mk H
            clear H
            go_wp2
            repeat (go_quiet (fail); try go_wp2)
            go_loopg [10] kj3 (fun kq v10 w' => ∃ (x10_2 : Int), v10 = .int .i64 x10_2 ∧ Aside0 (punnetref04_Get.l1 kq l0 a1 0 x10_2 = some (r1, r2, r3)) ∧ Aside0 (kq ≤ kj3) ∧ Aside0 (Below w.heap.size w w'))
            case atStart => exact ⟨(0), (by first | rfl | (simp; done) | (simp [*]; done)), H', ⟨Nat.le_refl _⟩, ⟨by repeat (first | (with_reducible first | exact HB.out | apply below_alloc | apply pw_below_drewN | apply below_drew1) | exact HB.out)⟩⟩
            case round =>
              clear H'
              try clear c1
              try clear p1
              try clear q1
              try clear hx1
              try clear c2
              try clear p2
              try clear c5
              try clear c5b0
              try clear c5b1
              try clear c6
              try clear c6b0
              try clear p6
              try clear c7
              try clear c7b0
              try clear c7b1
              try clear c8
              try clear c8b0
              try clear c9
              try clear c10
              try clear c10b0
              try clear c10b1
              try clear c11
              try clear c11b0
              try clear c12
              try clear c12b0
              try clear c14
              try clear c14b0
              try clear c15
              try clear c15b0
              try clear p16
              try clear q16
              try clear hx16
              try clear hx167_0
              try clear p167
              try clear p2
              try clear p6
              try clear q167
              obtain ⟨x10_2, rfl, HA, HK2, HB⟩ := hrel
              cases gk with
              | zero => exact absurd HA.out (by simp [punnetref04_Get.l1])
              | succ k2 =>
                have H := HA.out
                clear HA
                simp only [punnetref04_Get.l1] at H
                by_cases c17 : (wrap64 (a1 + x10_2)) < (l0.length : Int)
                · rw [if_pos c17] at H
                  have c17b0 : decide ((wrap64 (a1 + x10_2)) < (l0.length : Int)) = true := decide_eq_true c17
                  clear c17
                  (first | rw [c17b0] | (simp only [i64_w, i32_w]; rw [c17b0]) | skip)
                  obtain ⟨ji18, hji18⟩ : ∃ j_ : Int, (wrap64 (a1 + x10_2)) = j_ := ⟨_, rfl⟩
                  replace H : (if 0 ≤ (ji18) then (if (rd l0 (ji18)) ≥ 128 then (if x10_2 < 10 then (punnetref04_Get.l1 k2 l0 a1 0 (wrap64 (x10_2 + 1))) else (punnetref04_Get.j3 k2 l0 a1 0 x10_2)) else (punnetref04_Get.j3 k2 l0 a1 0 x10_2)) else (none)) = some (r1, r2, r3) := by first | (rw [hji18] at H; exact H) | (simp only [hji18] at H ⊢; exact H)
                  (try rw [hji18] at c17b0)
                  have hji18w : (IntKind.i64.wrap (a1 + x10_2)) = ji18 := (i64_w _).trans hji18
                  by_cases c19 : 0 ≤ (ji18)
                  · rw [if_pos c19] at H
                    have c19b0 : decide (0 ≤ (ji18)) = true := decide_eq_true c19
                    clear c19
                    by_cases c20 : (rd l0 (ji18)) ≥ 128
                    · rw [if_pos c20] at H
                      have c20b0 : decide (128 ≤ (rd l0 (ji18))) = true := decide_eq_true c20
                      clear c20
                      by_cases c21 : x10_2 < 10
                      · rw [if_pos c21] at H
                        have c21b0 : decide (x10_2 < 10) = true := decide_eq_true c21
                        clear c21
                        have H' := Aside0.mk H
                        clear H
                        have p168 : 0 ≤ ((ji18) : Int) := of_decide_eq_true (by first | (with_reducible assumption) | assumption)
                        have q168 : (ji18) < (l0.length : Int) := of_decide_eq_true (by first | (with_reducible assumption) | assumption)
                        obtain ⟨ad168, e168, hx168_0⟩ := Kd.at_int HR0.out (ji18) p168 q168
                        cases e168
                        replace hx168_0 := (HB.out.cell (World.block_lt_of_cell? w _ hx168_0)).trans hx168_0
                        replace p168 := eq_true p168
                        replace q168 := eq_true q168
                        go_wp2
                        repeat (go_quiet (fail); try go_wp2)
                        go_roundg k2
                        case measure => have := HJ3.out; have := HK2.out; omega
                        case rel => exact ⟨(wrap64 (x10_2 + 1)), (by first | rfl | (simp; done) | (simp [*]; done)), H', ⟨by have := HJ3.out; have := HK2.out; omega⟩, ⟨by repeat (first | (with_reducible first | exact HB.out | apply below_alloc | apply pw_below_drewN | apply below_drew1) | exact HB.out)⟩⟩
                      · rw [if_neg c21] at H
                        have c21b0 : decide (x10_2 < 10) = false := decide_eq_false c21
                        clear c21
                        have H' := Aside0.mk H
                        clear H
                        have p168 : 0 ≤ ((ji18) : Int) := of_decide_eq_true (by first | (with_reducible assumption) | assumption)
                        have q168 : (ji18) < (l0.length : Int) := of_decide_eq_true (by first | (with_reducible assumption) | assumption)
                        obtain ⟨ad168, e168, hx168_0⟩ := Kd.at_int HR0.out (ji18) p168 q168
                        cases e168
                        replace hx168_0 := (HB.out.cell (World.block_lt_of_cell? w _ hx168_0)).trans hx168_0
                        replace p168 := eq_true p168
                        replace q168 := eq_true q168
                        go_wp2
                        repeat (go_quiet (fail); try go_wp2)
                        go_meet
                        case rel => exact ⟨_, (x10_2), (by first | rfl | (simp; done) | (simp [*]; done)), H', ⟨by have := HJ3.out; have := HK2.out; first | omega | exact Nat.le_refl _⟩, ⟨by repeat (first | (with_reducible first | exact HB.out | apply below_alloc | apply pw_below_drewN | apply below_drew1) | exact HB.out)⟩⟩
                    · rw [if_neg c20] at H
                      have c20b0 : decide (128 ≤ (rd l0 (ji18))) = false := decide_eq_false c20
                      clear c20
                      have H' := Aside0.mk H
                      clear H
                      have p168 : 0 ≤ ((ji18) : Int) := of_decide_eq_true (by first | (with_reducible assumption) | assumption)
                      have q168 : (ji18) < (l0.length : Int) := of_decide_eq_true (by first | (with_reducible assumption) | assumption)
                      obtain ⟨ad168, e168, hx168_0⟩ := Kd.at_int HR0.out (ji18) p168 q168
                      cases e168
                      replace hx168_0 := (HB.out.cell (World.block_lt_of_cell? w _ hx168_0)).trans hx168_0
                      replace p168 := eq_true p168
                      replace q168 := eq_true q168
                      go_wp2
                      repeat (go_quiet (fail); try go_wp2)
                      go_meet
                      case rel => exact ⟨_, (x10_2), (by first | rfl | (simp; done) | (simp [*]; done)), H', ⟨by have := HJ3.out; have := HK2.out; first | omega | exact Nat.le_refl _⟩, ⟨by repeat (first | (with_reducible first | exact HB.out | apply below_alloc | apply pw_below_drewN | apply below_drew1) | exact HB.out)⟩⟩
                  · rw [if_neg c19] at H
                    exact absurd H (by simp)
                · rw [if_neg c17] at H
                  have c17b0 : decide ((wrap64 (a1 + x10_2)) < (l0.length : Int)) = false := decide_eq_false c17
                  clear c17
                  (first | rw [c17b0] | (simp only [i64_w, i32_w]; rw [c17b0]) | skip)
                  have H' := Aside0.mk H
                  clear H
                  go_wp2
                  repeat (go_quiet (fail); try go_wp2)
                  go_meet
                  case rel => exact ⟨_, (x10_2), (by first | rfl | (simp; done) | (simp [*]; done)), H', ⟨by have := HJ3.out; have := HK2.out; first | omega | exact Nat.le_refl _⟩, ⟨by repeat (first | (with_reducible first | exact HB.out | apply below_alloc | apply pw_below_drewN | apply below_drew1) | exact HB.out)⟩⟩
          case rest =>
            clear HC16
            try clear c1
            try clear p1
            try clear q1
            try clear hx1
            try clear c2
            try clear p2
            try clear c5
            try clear c5b0
            try clear c5b1
            try clear c6
            try clear c6b0
            try clear p6
            try clear c7
            try clear c7b0
            try clear c7b1
            try clear c8
            try clear c8b0
            try clear c9
            try clear c10
            try clear c10b0
            try clear c10b1
            try clear c11
            try clear c11b0
            try clear c12
            try clear c12b0
            try clear c14
            try clear c14b0
            try clear c15
            try clear c15b0
            try clear p16
            try clear q16
            try clear hx16
            try clear c17
            try clear c17b0
            try clear c19
            try clear c19b0
            try clear c20
            try clear c20b0
            try clear c21
            try clear c21b0
            try clear hx167_0
            try clear hx168_0
            try clear p1
            try clear p16
            try clear p167
            try clear p168
            try clear p2
            try clear p6
            try clear q1
            try clear q16
            try clear q167
            try clear q168
            obtain ⟨kq, x10_15, rfl, HA, HJ15, HB⟩ := hcut
            cases kq with
            | zero => exact absurd HA.out (by simp [punnetref04_Get.j3])
            | succ kj15 =>
              have H := HA.out
              clear HA
              simp only [punnetref04_Get.j3] at H
              have HC22 := Aside0.mk H
              clear H
              go_upto_region 15 with (fail)
              repeat (go_quiet (fail); go_upto_region 15 with (fail))
              go_cut [86] (fun v86 wc => ∃ (kq : Nat) (x86_21 : Bool), v86 = .bool x86_21 ∧ Aside0 (punnetref04_Get.j4 kq l0 a1 0 x10_15 x86_21 = some (r1, r2, r3)) ∧ Aside0 (kq ≤ kj15) ∧ Aside0 (Below w.heap.size w wc))
              case first =>
                have H := HC22.out
                clear HC22
                by_cases c23 : (wrap64 (a1 + x10_15)) ≥ (l0.length : Int)
                · rw [if_pos c23] at H
                  have c23b0 : decide ((l0.length : Int) ≤ (wrap64 (a1 + x10_15))) = true := decide_eq_true c23
                  clear c23
                  (first | rw [c23b0] | (simp only [i64_w, i32_w]; rw [c23b0]) | skip)
                  have H' := Aside0.mk H
                  clear H
                  go_wp2
                  repeat (go_quiet (fail); try go_wp2)
                  go_meet
                  case rel => exact ⟨_, (true), (by first | rfl | (simp; done) | (simp [*]; done)), H', ⟨by have := HJ3.out; have := HJ15.out; first | omega | exact Nat.le_refl _⟩, ⟨by repeat (first | (with_reducible first | exact HB.out | apply below_alloc | apply pw_below_drewN | apply below_drew1) | exact HB.out)⟩⟩
                · rw [if_neg c23] at H
                  have c23b0 : decide ((l0.length : Int) ≤ (wrap64 (a1 + x10_15))) = false := decide_eq_false c23
                  clear c23
                  (first | rw [c23b0] | (simp only [i64_w, i32_w]; rw [c23b0]) | skip)
                  have H' := Aside0.mk H
                  clear H
                  go_wp2
                  repeat (go_quiet (fail); try go_wp2)
                  go_meet
                  case rel => exact ⟨_, ((x10_15 == 10)), (by first | rfl | (simp; done) | (simp [*]; done)), H', ⟨by have := HJ3.out; have := HJ15.out; first | omega | exact Nat.le_refl _⟩, ⟨by repeat (first | (with_reducible first | exact HB.out | apply below_alloc | apply pw_below_drewN | apply below_drew1) | exact HB.out)⟩⟩
              case rest =>
                clear HC22
                try clear c1
                try clear p1
                try clear q1
                try clear hx1
                try clear c2
                try clear p2
                try clear c5
                try clear c5b0
                try clear c5b1
                try clear c6
                try clear c6b0
                try clear p6
                try clear c7
                try clear c7b0
                try clear c7b1
                try clear c8
                try clear c8b0
                try clear c9
                try clear c10
                try clear c10b0
                try clear c10b1
                try clear c11
                try clear c11b0
                try clear c12
                try clear c12b0
                try clear c14
                try clear c14b0
                try clear c15
                try clear c15b0
                try clear p16
                try clear q16
                try clear hx16
                try clear c17
                try clear c17b0
                try clear c19
                try clear c19b0
                try clear c20
                try clear c20b0
                try clear c21
                try clear c21b0
                try clear c23
                try clear c23b0
                try clear hx167_0
                try clear hx168_0
                try clear p1
                try clear p16
                try clear p167
                try clear p168
                try clear p2
                try clear p6
                try clear q1
                try clear q16
                try clear q167
                try clear q168
                obtain ⟨kq, x86_21, rfl, HA, HJ21, HB⟩ := hcut
                cases kq with
                | zero => exact absurd HA.out (by simp [punnetref04_Get.j4])
                | succ kj21 =>
                  have H := HA.out
                  clear HA
                  simp only [punnetref04_Get.j4] at H
                  by_cases c24 : x86_21 = true
                  · subst c24
                    have H1 : (some (0, 0, 8)) = some (r1, r2, r3) := by rw [if_pos rfl] at H; exact H
                    clear H
                    have H := H1
                    clear H1
                    simp only [Option.some.injEq, Prod.mk.injEq] at H
                    obtain ⟨rfl, rfl, rfl⟩ := H
                    go_wp2
                    repeat (go_quiet (fail); try go_wp2)
                    go_ret3
                    exact ⟨by first | rfl | (simp [errW_none, errW_some] <;> rfl) | (simp [*, errW_none, errW_some] <;> rfl), by repeat (first | (with_reducible first | exact HB.out | apply below_alloc | apply pw_below_drewN | apply below_drew1) | exact HB.out)⟩
                  · replace c24 := Bool.eq_false_iff.mpr c24
                    subst c24
                    have H1 : (punnetref04_Get.l2 kj21 l0 a1 0 x10_15 x10_15) = some (r1, r2, r3) := by rw [if_neg (show ¬ (false = true) by decide)] at H; exact H
                    clear H
                    have H := H1
                    clear H1
                    have H' := Aside0.mk H
                    clear H
                    go_wp2
                    repeat (go_quiet (fail); try go_wp2)
                    go_loopg [9, 12] kj21 (fun kq v9 v12 w' => ∃ (x9_4 : Int) (x12_4 : Int), v9 = .int .u64 x9_4 ∧ v12 = .int .i64 x12_4 ∧ Aside0 (punnetref04_Get.l2 kq l0 a1 x9_4 x10_15 x12_4 = some (r1, r2, r3)) ∧ Aside0 (kq ≤ kj21) ∧ Aside0 (Below w.heap.size w w'))
                    case atStart => exact ⟨(0), (x10_15), (by first | rfl | (simp; done) | (simp [*]; done)), (by first | rfl | (simp; done) | (simp [*]; done)), H', ⟨Nat.le_refl _⟩, ⟨by repeat (first | (with_reducible first | exact HB.out | apply below_alloc | apply pw_below_drewN | apply below_drew1) | exact HB.out)⟩⟩
                    case round =>
                      clear H'
                      try clear c1
                      try clear p1
                      try clear q1
                      try clear hx1
                      try clear c2
                      try clear p2
                      try clear c5
                      try clear c5b0
                      try clear c5b1
                      try clear c6
                      try clear c6b0
                      try clear p6
                      try clear c7
                      try clear c7b0
                      try clear c7b1
                      try clear c8
                      try clear c8b0
                      try clear c9
                      try clear c10
                      try clear c10b0
                      try clear c10b1
                      try clear c11
                      try clear c11b0
                      try clear c12
                      try clear c12b0
                      try clear c14
                      try clear c14b0
                      try clear c15
                      try clear c15b0
                      try clear p16
                      try clear q16
                      try clear hx16
                      try clear c17
                      try clear c17b0
                      try clear c19
                      try clear c19b0
                      try clear c20
                      try clear c20b0
                      try clear c21
                      try clear c21b0
                      try clear c23
                      try clear c23b0
                      try clear c24
                      try clear hx167_0
                      try clear hx168_0
                      try clear p1
                      try clear p16
                      try clear p167
                      try clear p168
                      try clear p2
                      try clear p6
                      try clear q1
                      try clear q16
                      try clear q167
                      try clear q168
                      obtain ⟨x9_4, x12_4, rfl, rfl, HA, HK4, HB⟩ := hrel
                      cases gk with
                      | zero => exact absurd HA.out (by simp [punnetref04_Get.l2])
                      | succ k4 =>
                        have H := HA.out
                        clear HA
                        simp only [punnetref04_Get.l2] at H
                        by_cases c25 : x12_4 ≥ 0
                        · rw [if_pos c25] at H
                          have c25b0 : decide (0 ≤ x12_4) = true := decide_eq_true c25
                          clear c25
                          obtain ⟨ji26, hji26⟩ : ∃ j_ : Int, (wrap64 (a1 + x12_4)) = j_ := ⟨_, rfl⟩
                          replace H : (if 0 ≤ (ji26) then (if (ji26) < (l0.length : Int) then (punnetref04_Get.l2 k4 l0 a1 (IntKind.u64.wrap ((IntKind.u64.wrap (x9_4 * 128)) + (IntKind.u64.wrap (Int.tmod (rd l0 (ji26)) 128)))) x10_15 (wrap64 (x12_4 - 1))) else (none)) else (none)) = some (r1, r2, r3) := by first | (rw [hji26] at H; exact H) | (simp only [hji26] at H ⊢; exact H)
                          have hji26w : (IntKind.i64.wrap (a1 + x12_4)) = ji26 := (i64_w _).trans hji26
                          by_cases c27 : 0 ≤ (ji26)
                          · rw [if_pos c27] at H
                            have c27b0 : decide (0 ≤ (ji26)) = true := decide_eq_true c27
                            clear c27
                            by_cases c28 : (ji26) < (l0.length : Int)
                            · rw [if_pos c28] at H
                              have c28b0 : decide ((ji26) < (l0.length : Int)) = true := decide_eq_true c28
                              clear c28
                              have H' := Aside0.mk H
                              clear H
                              have p169 : 0 ≤ ((ji26) : Int) := of_decide_eq_true (by first | (with_reducible assumption) | assumption)
                              have q169 : (ji26) < (l0.length : Int) := of_decide_eq_true (by first | (with_reducible assumption) | assumption)
                              obtain ⟨ad169, e169, hx169_0⟩ := Kd.at_int HR0.out (ji26) p169 q169
                              cases e169
                              replace hx169_0 := (HB.out.cell (World.block_lt_of_cell? w _ hx169_0)).trans hx169_0
                              replace p169 := eq_true p169
                              replace q169 := eq_true q169
                              go_wp2
                              repeat (go_quiet (fail); try go_wp2)
                              go_roundg k4
                              case measure => have := HJ3.out; have := HJ15.out; have := HJ21.out; have := HK4.out; omega
                              case rel => exact ⟨(IntKind.u64.wrap ((IntKind.u64.wrap (x9_4 * 128)) + (IntKind.u64.wrap (Int.tmod (rd l0 (ji26)) 128)))), (wrap64 (x12_4 - 1)), (by first | rfl | (simp; done) | (simp only [← hji26] <;> (first | rfl | simp)) | (simp [*]; done)), (by first | rfl | (simp; done) | (simp [*]; done)), H', ⟨by have := HJ3.out; have := HJ15.out; have := HJ21.out; have := HK4.out; omega⟩, ⟨by repeat (first | (with_reducible first | exact HB.out | apply below_alloc | apply pw_below_drewN | apply below_drew1) | exact HB.out)⟩⟩
                            · rw [if_neg c28] at H
                              exact absurd H (by simp)
                          · rw [if_neg c27] at H
                            exact absurd H (by simp)
                        · rw [if_neg c25] at H
                          have c25b0 : decide (0 ≤ x12_4) = false := decide_eq_false c25
                          clear c25
                          replace H := Option.bind_eq_some_iff.mp H
                          obtain ⟨t170, A290, H⟩ := H
                          replace H : ((punnetref04_Put.f k4 2 t170).bind fun t171 => (if 0 ≤ a1 then (if a1 ≤ (wrap64 ((wrap64 (a1 + x10_15)) + 1)) then (if (wrap64 ((wrap64 (a1 + x10_15)) + 1)) ≤ (l0.length : Int) then (if (strOfNums t171).toList = (strOfNums ((l0.take ((wrap64 ((wrap64 (a1 + x10_15)) + 1)) : Int).toNat).drop (a1 : Int).toNat)).toList then (some (t170, wrap64 ((wrap64 (a1 + x10_15)) + 1), 0)) else (some (0, 0, 8))) else (none)) else (none)) else (none))) = some (r1, r2, r3) := H
                          have A29 := Aside0.mk A290
                          clear A290
                          replace H := Option.bind_eq_some_iff.mp H
                          obtain ⟨t171, A300, H⟩ := H
                          replace H : (if 0 ≤ a1 then (if a1 ≤ (wrap64 ((wrap64 (a1 + x10_15)) + 1)) then (if (wrap64 ((wrap64 (a1 + x10_15)) + 1)) ≤ (l0.length : Int) then (if (strOfNums t171).toList = (strOfNums ((l0.take ((wrap64 ((wrap64 (a1 + x10_15)) + 1)) : Int).toNat).drop (a1 : Int).toNat)).toList then (some (t170, wrap64 ((wrap64 (a1 + x10_15)) + 1), 0)) else (some (0, 0, 8))) else (none)) else (none)) else (none)) = some (r1, r2, r3) := H
                          have A30 := Aside0.mk A300
                          clear A300
                          by_cases c31 : 0 ≤ a1
                          · rw [if_pos c31] at H
                            have c31b0 := eq_true c31
                            have c31b1 : decide (0 ≤ a1) = true := decide_eq_true c31
                            clear c31
                            by_cases c32 : a1 ≤ (wrap64 ((wrap64 (a1 + x10_15)) + 1))
                            · rw [if_pos c32] at H
                              have c32b0 := eq_true c32
                              have c32b1 : decide (a1 ≤ (wrap64 ((wrap64 (a1 + x10_15)) + 1))) = true := decide_eq_true c32
                              by_cases c33 : (wrap64 ((wrap64 (a1 + x10_15)) + 1)) ≤ (l0.length : Int)
                              · rw [if_pos c33] at H
                                have c33b0 := eq_true c33
                                have c33b1 : decide ((wrap64 ((wrap64 (a1 + x10_15)) + 1)) ≤ (l0.length : Int)) = true := decide_eq_true c33
                                by_cases c34 : (strOfNums t171).toList = (strOfNums ((l0.take ((wrap64 ((wrap64 (a1 + x10_15)) + 1)) : Int).toNat).drop (a1 : Int).toNat)).toList
                                · rw [if_pos c34] at H
                                  have c34b0 : ((strOfNums t171).toList == (strOfNums ((l0.take ((wrap64 ((wrap64 (a1 + x10_15)) + 1)) : Int).toNat).drop (a1 : Int).toNat)).toList) = true := beq_iff_eq.mpr c34
                                  have c34b1 : ((strOfNums t171).toList != (strOfNums ((l0.take ((wrap64 ((wrap64 (a1 + x10_15)) + 1)) : Int).toNat).drop (a1 : Int).toNat)).toList) = false := bne_eq_false_iff_eq.mpr c34
                                  clear c34
                                  simp only [Option.some.injEq, Prod.mk.injEq] at H
                                  obtain ⟨rfl, rfl, rfl⟩ := H
                                  go_wp2_with (first | (go_at_call 17; (with_reducible refine (punnetref04_Back.calls x9_4 t170 _ A29.out).mono ?_); rintro e w' ⟨rfl, ⟨nd, rfl⟩⟩; (try first | exact ⟨rfl, _, World.drewN_drewN _ _ _⟩ | exact ⟨rfl, _, Eq.trans (World.drewN_drewN _ _ _) (congrArg (World.drewN _) (Nat.add_assoc _ _ _))⟩)) | (go_at_call 23; (with_reducible refine (punnetref04_Put.calls k4 2 t170 t171 _ A30.out).mono ?_); rintro e w35 ⟨v172, rfl, ho0, hb⟩; have n0_ := Aside0.mk (Kd.R_lower ho0 (below_size (by repeat (first | (with_reducible first | exact HB.out | apply below_alloc | apply pw_below_drewN | apply below_drew1) | exact HB.out)))); have n1_ := Aside0.mk (below_step (by repeat (first | (with_reducible first | exact HB.out | apply below_alloc | apply pw_below_drewN | apply below_drew1) | exact HB.out)) hb); clear HB; have HO173 := n0_; have HB := n1_; clear n0_ n1_; (try clear hb); (try clear hb2); (try clear hk); (try clear hi); (try clear ho0); have hcv36 := own_string (P := Try.prog) Try.underlying29 Try.underlying5 Try.underlying9 (Kd.own_of_R HO173.out); have hcv37 := fun n_ : Nat => own_string_q n_ (P := Try.prog) Try.underlying29 Try.underlying5 Try.underlying9 (Kd.own_of_R HO173.out); obtain ⟨i038, hi038, _, hsz38, _⟩ := info_parts info5; obtain ⟨A38, hcut38, hA38, hC38⟩ := print_mid_of (P := Try.prog) (Value.int .u8) 0 29 5 .i64 .i64 Try.underlying29 hi038 hsz38 A0 c0 l0 a1 (wrap64 ((wrap64 (a1 + x10_15)) + 1)) (of_decide_eq_true (by first | (with_reducible assumption) | assumption)) (by first | omega | exact of_decide_eq_true (by first | (with_reducible assumption) | assumption)) (of_decide_eq_true (by first | (with_reducible assumption) | assumption)) HC0.out; have HR174 := Aside0.mk (Kd.C_of_reads (h1 := fun _ => rfl) (hA38 _ (Kd.reads_of_C HR0.out))); have HC174 := Aside0.mk hC38; clear hA38 hC38 hi038 hsz38; have hcv39 := Kd.C_string (P := Try.prog) (A := A38) (c := (c0 - a1.toNat)) Try.underlying29 Try.underlying5 Try.underlying9 (Kd.C_below HR174.out HB.out); have hcv40 := fun n_ : Nat => C_string_q n_ (P := Try.prog) (A := A38) (c := (c0 - a1.toNat)) Try.underlying29 Try.underlying5 Try.underlying9 (Kd.C_below HR174.out HB.out); have hcv41 := fun n_ : Nat => C_string_q_mid n_ (P := Try.prog) (A := A38) (c := (c0 - a1.toNat)) (l := l0) (a := a1) (b := (wrap64 ((wrap64 (a1 + x10_15)) + 1))) Try.underlying29 Try.underlying5 Try.underlying9 (of_decide_eq_true (by first | (with_reducible assumption) | assumption)) (Kd.C_below HR174.out HB.out)))
                                  repeat (go_quiet (first | (go_at_call 17; (with_reducible refine (punnetref04_Back.calls x9_4 t170 _ A29.out).mono ?_); rintro e w' ⟨rfl, ⟨nd, rfl⟩⟩; (try first | exact ⟨rfl, _, World.drewN_drewN _ _ _⟩ | exact ⟨rfl, _, Eq.trans (World.drewN_drewN _ _ _) (congrArg (World.drewN _) (Nat.add_assoc _ _ _))⟩)) | (go_at_call 23; (with_reducible refine (punnetref04_Put.calls k4 2 t170 t171 _ A30.out).mono ?_); rintro e w35 ⟨v172, rfl, ho0, hb⟩; have n0_ := Aside0.mk (Kd.R_lower ho0 (below_size (by repeat (first | (with_reducible first | exact HB.out | apply below_alloc | apply pw_below_drewN | apply below_drew1) | exact HB.out)))); have n1_ := Aside0.mk (below_step (by repeat (first | (with_reducible first | exact HB.out | apply below_alloc | apply pw_below_drewN | apply below_drew1) | exact HB.out)) hb); clear HB; have HO173 := n0_; have HB := n1_; clear n0_ n1_; (try clear hb); (try clear hb2); (try clear hk); (try clear hi); (try clear ho0); have hcv36 := own_string (P := Try.prog) Try.underlying29 Try.underlying5 Try.underlying9 (Kd.own_of_R HO173.out); have hcv37 := fun n_ : Nat => own_string_q n_ (P := Try.prog) Try.underlying29 Try.underlying5 Try.underlying9 (Kd.own_of_R HO173.out); obtain ⟨i038, hi038, _, hsz38, _⟩ := info_parts info5; obtain ⟨A38, hcut38, hA38, hC38⟩ := print_mid_of (P := Try.prog) (Value.int .u8) 0 29 5 .i64 .i64 Try.underlying29 hi038 hsz38 A0 c0 l0 a1 (wrap64 ((wrap64 (a1 + x10_15)) + 1)) (of_decide_eq_true (by first | (with_reducible assumption) | assumption)) (by first | omega | exact of_decide_eq_true (by first | (with_reducible assumption) | assumption)) (of_decide_eq_true (by first | (with_reducible assumption) | assumption)) HC0.out; have HR174 := Aside0.mk (Kd.C_of_reads (h1 := fun _ => rfl) (hA38 _ (Kd.reads_of_C HR0.out))); have HC174 := Aside0.mk hC38; clear hA38 hC38 hi038 hsz38; have hcv39 := Kd.C_string (P := Try.prog) (A := A38) (c := (c0 - a1.toNat)) Try.underlying29 Try.underlying5 Try.underlying9 (Kd.C_below HR174.out HB.out); have hcv40 := fun n_ : Nat => C_string_q n_ (P := Try.prog) (A := A38) (c := (c0 - a1.toNat)) Try.underlying29 Try.underlying5 Try.underlying9 (Kd.C_below HR174.out HB.out); have hcv41 := fun n_ : Nat => C_string_q_mid n_ (P := Try.prog) (A := A38) (c := (c0 - a1.toNat)) (l := l0) (a := a1) (b := (wrap64 ((wrap64 (a1 + x10_15)) + 1))) Try.underlying29 Try.underlying5 Try.underlying9 (of_decide_eq_true (by first | (with_reducible assumption) | assumption)) (Kd.C_below HR174.out HB.out))); try go_wp2_with (first | (go_at_call 17; (with_reducible refine (punnetref04_Back.calls x9_4 t170 _ A29.out).mono ?_); rintro e w' ⟨rfl, ⟨nd, rfl⟩⟩; (try first | exact ⟨rfl, _, World.drewN_drewN _ _ _⟩ | exact ⟨rfl, _, Eq.trans (World.drewN_drewN _ _ _) (congrArg (World.drewN _) (Nat.add_assoc _ _ _))⟩)) | (go_at_call 23; (with_reducible refine (punnetref04_Put.calls k4 2 t170 t171 _ A30.out).mono ?_); rintro e w35 ⟨v172, rfl, ho0, hb⟩; have n0_ := Aside0.mk (Kd.R_lower ho0 (below_size (by repeat (first | (with_reducible first | exact HB.out | apply below_alloc | apply pw_below_drewN | apply below_drew1) | exact HB.out)))); have n1_ := Aside0.mk (below_step (by repeat (first | (with_reducible first | exact HB.out | apply below_alloc | apply pw_below_drewN | apply below_drew1) | exact HB.out)) hb); clear HB; have HO173 := n0_; have HB := n1_; clear n0_ n1_; (try clear hb); (try clear hb2); (try clear hk); (try clear hi); (try clear ho0); have hcv36 := own_string (P := Try.prog) Try.underlying29 Try.underlying5 Try.underlying9 (Kd.own_of_R HO173.out); have hcv37 := fun n_ : Nat => own_string_q n_ (P := Try.prog) Try.underlying29 Try.underlying5 Try.underlying9 (Kd.own_of_R HO173.out); obtain ⟨i038, hi038, _, hsz38, _⟩ := info_parts info5; obtain ⟨A38, hcut38, hA38, hC38⟩ := print_mid_of (P := Try.prog) (Value.int .u8) 0 29 5 .i64 .i64 Try.underlying29 hi038 hsz38 A0 c0 l0 a1 (wrap64 ((wrap64 (a1 + x10_15)) + 1)) (of_decide_eq_true (by first | (with_reducible assumption) | assumption)) (by first | omega | exact of_decide_eq_true (by first | (with_reducible assumption) | assumption)) (of_decide_eq_true (by first | (with_reducible assumption) | assumption)) HC0.out; have HR174 := Aside0.mk (Kd.C_of_reads (h1 := fun _ => rfl) (hA38 _ (Kd.reads_of_C HR0.out))); have HC174 := Aside0.mk hC38; clear hA38 hC38 hi038 hsz38; have hcv39 := Kd.C_string (P := Try.prog) (A := A38) (c := (c0 - a1.toNat)) Try.underlying29 Try.underlying5 Try.underlying9 (Kd.C_below HR174.out HB.out); have hcv40 := fun n_ : Nat => C_string_q n_ (P := Try.prog) (A := A38) (c := (c0 - a1.toNat)) Try.underlying29 Try.underlying5 Try.underlying9 (Kd.C_below HR174.out HB.out); have hcv41 := fun n_ : Nat => C_string_q_mid n_ (P := Try.prog) (A := A38) (c := (c0 - a1.toNat)) (l := l0) (a := a1) (b := (wrap64 ((wrap64 (a1 + x10_15)) + 1))) Try.underlying29 Try.underlying5 Try.underlying9 (of_decide_eq_true (by first | (with_reducible assumption) | assumption)) (Kd.C_below HR174.out HB.out))))
                                  go_ret3
                                  exact ⟨by first | rfl | (simp [errW_none, errW_some] <;> rfl) | (simp [*, errW_none, errW_some] <;> rfl), by repeat (first | (with_reducible first | exact HB.out | apply below_alloc | apply pw_below_drewN | apply below_drew1) | exact HB.out)⟩
                                · rw [if_neg c34] at H
                                  have c34b0 : ((strOfNums t171).toList == (strOfNums ((l0.take ((wrap64 ((wrap64 (a1 + x10_15)) + 1)) : Int).toNat).drop (a1 : Int).toNat)).toList) = false := beq_eq_false_iff_ne.mpr c34
                                  have c34b1 : ((strOfNums t171).toList != (strOfNums ((l0.take ((wrap64 ((wrap64 (a1 + x10_15)) + 1)) : Int).toNat).drop (a1 : Int).toNat)).toList) = true := bne_iff_ne.mpr c34
                                  simp only [Option.some.injEq, Prod.mk.injEq] at H
                                  obtain ⟨rfl, rfl, rfl⟩ := H
                                  go_wp2_with (first | (go_at_call 17; (with_reducible refine (punnetref04_Back.calls x9_4 t170 _ A29.out).mono ?_); rintro e w' ⟨rfl, ⟨nd, rfl⟩⟩; (try first | exact ⟨rfl, _, World.drewN_drewN _ _ _⟩ | exact ⟨rfl, _, Eq.trans (World.drewN_drewN _ _ _) (congrArg (World.drewN _) (Nat.add_assoc _ _ _))⟩)) | (go_at_call 23; (with_reducible refine (punnetref04_Put.calls k4 2 t170 t171 _ A30.out).mono ?_); rintro e w42 ⟨v172, rfl, ho0, hb⟩; have n0_ := Aside0.mk (Kd.R_lower ho0 (below_size (by repeat (first | (with_reducible first | exact HB.out | apply below_alloc | apply pw_below_drewN | apply below_drew1) | exact HB.out)))); have n1_ := Aside0.mk (below_step (by repeat (first | (with_reducible first | exact HB.out | apply below_alloc | apply pw_below_drewN | apply below_drew1) | exact HB.out)) hb); clear HB; have HO173 := n0_; have HB := n1_; clear n0_ n1_; (try clear hb); (try clear hb2); (try clear hk); (try clear hi); (try clear ho0); have hcv43 := own_string (P := Try.prog) Try.underlying29 Try.underlying5 Try.underlying9 (Kd.own_of_R HO173.out); have hcv44 := fun n_ : Nat => own_string_q n_ (P := Try.prog) Try.underlying29 Try.underlying5 Try.underlying9 (Kd.own_of_R HO173.out); obtain ⟨i045, hi045, _, hsz45, _⟩ := info_parts info5; obtain ⟨A45, hcut45, hA45, hC45⟩ := print_mid_of (P := Try.prog) (Value.int .u8) 0 29 5 .i64 .i64 Try.underlying29 hi045 hsz45 A0 c0 l0 a1 (wrap64 ((wrap64 (a1 + x10_15)) + 1)) (of_decide_eq_true (by first | (with_reducible assumption) | assumption)) (by first | omega | exact of_decide_eq_true (by first | (with_reducible assumption) | assumption)) (of_decide_eq_true (by first | (with_reducible assumption) | assumption)) HC0.out; have HR174 := Aside0.mk (Kd.C_of_reads (h1 := fun _ => rfl) (hA45 _ (Kd.reads_of_C HR0.out))); have HC174 := Aside0.mk hC45; clear hA45 hC45 hi045 hsz45; have hcv46 := Kd.C_string (P := Try.prog) (A := A45) (c := (c0 - a1.toNat)) Try.underlying29 Try.underlying5 Try.underlying9 (Kd.C_below HR174.out HB.out); have hcv47 := fun n_ : Nat => C_string_q n_ (P := Try.prog) (A := A45) (c := (c0 - a1.toNat)) Try.underlying29 Try.underlying5 Try.underlying9 (Kd.C_below HR174.out HB.out); have hcv48 := fun n_ : Nat => C_string_q_mid n_ (P := Try.prog) (A := A45) (c := (c0 - a1.toNat)) (l := l0) (a := a1) (b := (wrap64 ((wrap64 (a1 + x10_15)) + 1))) Try.underlying29 Try.underlying5 Try.underlying9 (of_decide_eq_true (by first | (with_reducible assumption) | assumption)) (Kd.C_below HR174.out HB.out)))
                                  repeat (go_quiet (first | (go_at_call 17; (with_reducible refine (punnetref04_Back.calls x9_4 t170 _ A29.out).mono ?_); rintro e w' ⟨rfl, ⟨nd, rfl⟩⟩; (try first | exact ⟨rfl, _, World.drewN_drewN _ _ _⟩ | exact ⟨rfl, _, Eq.trans (World.drewN_drewN _ _ _) (congrArg (World.drewN _) (Nat.add_assoc _ _ _))⟩)) | (go_at_call 23; (with_reducible refine (punnetref04_Put.calls k4 2 t170 t171 _ A30.out).mono ?_); rintro e w42 ⟨v172, rfl, ho0, hb⟩; have n0_ := Aside0.mk (Kd.R_lower ho0 (below_size (by repeat (first | (with_reducible first | exact HB.out | apply below_alloc | apply pw_below_drewN | apply below_drew1) | exact HB.out)))); have n1_ := Aside0.mk (below_step (by repeat (first | (with_reducible first | exact HB.out | apply below_alloc | apply pw_below_drewN | apply below_drew1) | exact HB.out)) hb); clear HB; have HO173 := n0_; have HB := n1_; clear n0_ n1_; (try clear hb); (try clear hb2); (try clear hk); (try clear hi); (try clear ho0); have hcv43 := own_string (P := Try.prog) Try.underlying29 Try.underlying5 Try.underlying9 (Kd.own_of_R HO173.out); have hcv44 := fun n_ : Nat => own_string_q n_ (P := Try.prog) Try.underlying29 Try.underlying5 Try.underlying9 (Kd.own_of_R HO173.out); obtain ⟨i045, hi045, _, hsz45, _⟩ := info_parts info5; obtain ⟨A45, hcut45, hA45, hC45⟩ := print_mid_of (P := Try.prog) (Value.int .u8) 0 29 5 .i64 .i64 Try.underlying29 hi045 hsz45 A0 c0 l0 a1 (wrap64 ((wrap64 (a1 + x10_15)) + 1)) (of_decide_eq_true (by first | (with_reducible assumption) | assumption)) (by first | omega | exact of_decide_eq_true (by first | (with_reducible assumption) | assumption)) (of_decide_eq_true (by first | (with_reducible assumption) | assumption)) HC0.out; have HR174 := Aside0.mk (Kd.C_of_reads (h1 := fun _ => rfl) (hA45 _ (Kd.reads_of_C HR0.out))); have HC174 := Aside0.mk hC45; clear hA45 hC45 hi045 hsz45; have hcv46 := Kd.C_string (P := Try.prog) (A := A45) (c := (c0 - a1.toNat)) Try.underlying29 Try.underlying5 Try.underlying9 (Kd.C_below HR174.out HB.out); have hcv47 := fun n_ : Nat => C_string_q n_ (P := Try.prog) (A := A45) (c := (c0 - a1.toNat)) Try.underlying29 Try.underlying5 Try.underlying9 (Kd.C_below HR174.out HB.out); have hcv48 := fun n_ : Nat => C_string_q_mid n_ (P := Try.prog) (A := A45) (c := (c0 - a1.toNat)) (l := l0) (a := a1) (b := (wrap64 ((wrap64 (a1 + x10_15)) + 1))) Try.underlying29 Try.underlying5 Try.underlying9 (of_decide_eq_true (by first | (with_reducible assumption) | assumption)) (Kd.C_below HR174.out HB.out))); try go_wp2_with (first | (go_at_call 17; (with_reducible refine (punnetref04_Back.calls x9_4 t170 _ A29.out).mono ?_); rintro e w' ⟨rfl, ⟨nd, rfl⟩⟩; (try first | exact ⟨rfl, _, World.drewN_drewN _ _ _⟩ | exact ⟨rfl, _, Eq.trans (World.drewN_drewN _ _ _) (congrArg (World.drewN _) (Nat.add_assoc _ _ _))⟩)) | (go_at_call 23; (with_reducible refine (punnetref04_Put.calls k4 2 t170 t171 _ A30.out).mono ?_); rintro e w42 ⟨v172, rfl, ho0, hb⟩; have n0_ := Aside0.mk (Kd.R_lower ho0 (below_size (by repeat (first | (with_reducible first | exact HB.out | apply below_alloc | apply pw_below_drewN | apply below_drew1) | exact HB.out)))); have n1_ := Aside0.mk (below_step (by repeat (first | (with_reducible first | exact HB.out | apply below_alloc | apply pw_below_drewN | apply below_drew1) | exact HB.out)) hb); clear HB; have HO173 := n0_; have HB := n1_; clear n0_ n1_; (try clear hb); (try clear hb2); (try clear hk); (try clear hi); (try clear ho0); have hcv43 := own_string (P := Try.prog) Try.underlying29 Try.underlying5 Try.underlying9 (Kd.own_of_R HO173.out); have hcv44 := fun n_ : Nat => own_string_q n_ (P := Try.prog) Try.underlying29 Try.underlying5 Try.underlying9 (Kd.own_of_R HO173.out); obtain ⟨i045, hi045, _, hsz45, _⟩ := info_parts info5; obtain ⟨A45, hcut45, hA45, hC45⟩ := print_mid_of (P := Try.prog) (Value.int .u8) 0 29 5 .i64 .i64 Try.underlying29 hi045 hsz45 A0 c0 l0 a1 (wrap64 ((wrap64 (a1 + x10_15)) + 1)) (of_decide_eq_true (by first | (with_reducible assumption) | assumption)) (by first | omega | exact of_decide_eq_true (by first | (with_reducible assumption) | assumption)) (of_decide_eq_true (by first | (with_reducible assumption) | assumption)) HC0.out; have HR174 := Aside0.mk (Kd.C_of_reads (h1 := fun _ => rfl) (hA45 _ (Kd.reads_of_C HR0.out))); have HC174 := Aside0.mk hC45; clear hA45 hC45 hi045 hsz45; have hcv46 := Kd.C_string (P := Try.prog) (A := A45) (c := (c0 - a1.toNat)) Try.underlying29 Try.underlying5 Try.underlying9 (Kd.C_below HR174.out HB.out); have hcv47 := fun n_ : Nat => C_string_q n_ (P := Try.prog) (A := A45) (c := (c0 - a1.toNat)) Try.underlying29 Try.underlying5 Try.underlying9 (Kd.C_below HR174.out HB.out); have hcv48 := fun n_ : Nat => C_string_q_mid n_ (P := Try.prog) (A := A45) (c := (c0 - a1.toNat)) (l := l0) (a := a1) (b := (wrap64 ((wrap64 (a1 + x10_15)) + 1))) Try.underlying29 Try.underlying5 Try.underlying9 (of_decide_eq_true (by first | (with_reducible assumption) | assumption)) (Kd.C_below HR174.out HB.out))))
                                  go_ret3
                                  exact ⟨by first | rfl | (simp [errW_none, errW_some] <;> rfl) | (simp [*, errW_none, errW_some] <;> rfl), by repeat (first | (with_reducible first | exact HB.out | apply below_alloc | apply pw_below_drewN | apply below_drew1) | exact HB.out)⟩
                              · rw [if_neg c33] at H
                                exact absurd H (by simp)
                            · rw [if_neg c32] at H
                              exact absurd H (by simp)
                          · rw [if_neg c31] at H
                            exact absurd H (by simp)

end Go.Proofs.Ytmmofckknopaaaa.Q
