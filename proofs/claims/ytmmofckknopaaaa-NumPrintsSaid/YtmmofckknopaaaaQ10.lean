/- A function of the program or a law's row comes to what the Lean function beside it says; no condition beyond those typed. Written by a program of this workplace; Lean checks it. -/
import Derived.Test.YtmmofckknopaaaaQ0
import Derived.Test.YtmmofckknopaaaaQ9
namespace Go.Proofs.Ytmmofckknopaaaa.Q
open Go.RowKit Go.Proofs.YtmmofckknopaaaaW.PrintWords Go.Proofs.YtmmofckknopaaaaW.PrintLast Go.Proofs.YtmmofckknopaaaaW.PrintMore
attribute [local go_sem] max2_int min2_int max_two min_two max_three min_three max_four min_four   -- for this text's walks alone
set_option linter.unusedVariables false
set_option linter.unusedSimpArgs false

/-! ### num_size: function 47 -/
def num_size.l0 : Nat → ByteArray → Int → Int → Bool → Option (Int × Int × Bool)
  | 0, _, _, _, _ => none
  | k + 1, x0, x1, x4, x6 => (num_digit.f x0 x1).bind fun t133 => (if t133 = true then (if 0 ≤ x1 then (if x1 < (x0.size : Int) then (if x6 = true then (num_size.l0 k x0 (wrap64 (x1 + 1)) (IntKind.u64.wrap ((IntKind.u64.wrap (x4 * 10)) + (((bt x0 x1) - 48) % 256))) (decide (x4 ≤ ((18446744073709551615 - (((bt x0 x1) - 48) % 256)) / 10)))) else (num_size.l0 k x0 (wrap64 (x1 + 1)) (IntKind.u64.wrap ((IntKind.u64.wrap (x4 * 10)) + (((bt x0 x1) - 48) % 256))) false)) else (none)) else (none)) else (some (x4, x1, x6)))
def num_size.f (k : Nat) (a0 : ByteArray) (a1 : Int) : Option (Int × Int × Bool) := num_size.l0 k a0 a1 0 true
theorem num_size.mono_l : ∀ k, (∀ y0 y1 y2 y3, LeO (num_size.l0 k y0 y1 y2 y3) (num_size.l0 (k + 1) y0 y1 y2 y3))
  | 0 => fun _ _ _ _ r h => by simp [num_size.l0] at h
  | k + 1 => by
    have ih0 := num_size.mono_l k
    · intro y0 y1 y2 y3
      unfold num_size.l0
      repeat' first
      | (with_reducible exact ih0 _ _ _ _)
      | (with_reducible exact LeO.refl _)
      | (with_reducible exact LeO.none _)
      | (with_reducible refine LeO.ite ?_ ?_)
      | (with_reducible refine LeO.bind ?_ (fun _ => ?_))
      | exact ih0 _ _ _ _
      | exact LeO.none _
      | refine LeO.ite ?_ ?_
      | refine LeO.bind ?_ (fun _ => ?_)
theorem num_size.mono : ∀ a0 a1 k, LeO (num_size.f k a0 a1) (num_size.f (k + 1) a0 a1) := by
  intro a0 a1 k
  have ih0 := num_size.mono_l k
  unfold num_size.f
  repeat' first
      | (with_reducible exact ih0 _ _ _ _)
      | (with_reducible exact LeO.refl _)
      | (with_reducible exact LeO.none _)
      | (with_reducible refine LeO.ite ?_ ?_)
      | (with_reducible refine LeO.bind ?_ (fun _ => ?_))
      | exact ih0 _ _ _ _
      | exact LeO.none _
      | refine LeO.ite ?_ ?_
      | refine LeO.bind ?_ (fun _ => ?_)
set_option maxHeartbeats 8000000 in
set_option maxRecDepth 100000 in
theorem num_size.calls (k : Nat) (a0 : ByteArray) (a1 : Int) (r1 : Int) (r2 : Int) (r3 : Bool) (w : World) (h : num_size.f k a0 a1 = some (r1, r2, r3)) :
    Calls Try.prog 47 #[.string a0, .int .i64 a1] w fun e w' => e = .returned (.tuple #[.int .u64 r1, .int .i64 r2, .bool r3]) ∧ Drawn0 w w' := by
  have H : (num_size.l0 k a0 a1 0 true) = some (r1, r2, r3) := h
  clear h
  have H' := Aside0.mk H
  clear H
  go_enter Try.func47, Try.ntmps47
  go_wp2
  refine wp_scope_sem 0 rfl ?_
  intro JS hJS
  go_wp2
  go_step3
  rename_i hKS
  refine hKS _ _ ?_
  clear hKS
  refine hJS.out (fun kq a' w' => ∃ (v1 zf2 zf3 v4 zf5 v6 zf7 zf8 zf9 zf10 zf11 zf12 zf13 zf14 zf15 zf16 zf17 zf18 zf19 zf20 zf21 zf22 zf23 zf24 zf25 zf26 zf27 zf28 zf29 zf30 zf31 zf32 zf33 : Value), a' = { tmps := List.toArray ((.string a0) :: v1 :: zf2 :: zf3 :: v4 :: zf5 :: v6 :: zf7 :: zf8 :: zf9 :: zf10 :: zf11 :: zf12 :: zf13 :: zf14 :: zf15 :: zf16 :: zf17 :: zf18 :: zf19 :: zf20 :: zf21 :: zf22 :: zf23 :: zf24 :: zf25 :: zf26 :: zf27 :: zf28 :: zf29 :: zf30 :: zf31 :: zf32 :: zf33 :: []), defers := [] } ∧ (∃ (x1_1 : Int) (x4_1 : Int) (x6_1 : Bool), v1 = .int .i64 x1_1 ∧ v4 = .int .u64 x4_1 ∧ v6 = .bool x6_1 ∧ Aside0 (num_size.l0 kq a0 x1_1 x4_1 x6_1 = some (r1, r2, r3)) ∧ Aside0 (kq ≤ k) ∧ Drawn0 w w')) ?round k _ _ ?atStart
  case atStart => exact ⟨_, _, _, _, _, _, _, _, _, _, _, _, _, _, _, _, _, _, _, _, _, _, _, _, _, _, _, _, _, _, _, _, _, rfl, (a1), (0), (true), (by first | rfl | (simp; done) | (simp [*]; done)), (by first | rfl | (simp; done) | (simp [*]; done)), (by first | rfl | (simp; done) | (simp [*]; done)), H', ⟨Nat.le_refl _⟩, by repeat (first | exact Drawn0.refl _ | apply Drawn0.step)⟩
  case round =>
    clear H'
    try clear p2
    clear hJS
    intro gk a' wr hrel JN KN hIJ hJK
    obtain ⟨v1, zf2, zf3, v4, zf5, v6, zf7, zf8, zf9, zf10, zf11, zf12, zf13, zf14, zf15, zf16, zf17, zf18, zf19, zf20, zf21, zf22, zf23, zf24, zf25, zf26, zf27, zf28, zf29, zf30, zf31, zf32, zf33, rfl, x1_1, x4_1, x6_1, rfl, rfl, rfl, HA, HK1, ⟨m1, rfl⟩⟩ := hrel
    cases gk with
    | zero => exact absurd HA.out (by simp [num_size.l0])
    | succ k1 =>
      have H := HA.out
      clear HA
      simp only [num_size.l0] at H
      replace H := Option.bind_eq_some_iff.mp H
      obtain ⟨t133, A30, H⟩ := H
      replace H : (if t133 = true then (if 0 ≤ x1_1 then (if x1_1 < (a0.size : Int) then (if x6_1 = true then (num_size.l0 k1 a0 (wrap64 (x1_1 + 1)) (IntKind.u64.wrap ((IntKind.u64.wrap (x4_1 * 10)) + (((bt a0 x1_1) - 48) % 256))) (decide (x4_1 ≤ ((18446744073709551615 - (((bt a0 x1_1) - 48) % 256)) / 10)))) else (num_size.l0 k1 a0 (wrap64 (x1_1 + 1)) (IntKind.u64.wrap ((IntKind.u64.wrap (x4_1 * 10)) + (((bt a0 x1_1) - 48) % 256))) false)) else (none)) else (none)) else (some (x4_1, x1_1, x6_1))) = some (r1, r2, r3) := H
      have A3 := Aside0.mk A30
      clear A30
      by_cases c4 : t133 = true
      · subst c4
        have H1 : (if 0 ≤ x1_1 then (if x1_1 < (a0.size : Int) then (if x6_1 = true then (num_size.l0 k1 a0 (wrap64 (x1_1 + 1)) (IntKind.u64.wrap ((IntKind.u64.wrap (x4_1 * 10)) + (((bt a0 x1_1) - 48) % 256))) (decide (x4_1 ≤ ((18446744073709551615 - (((bt a0 x1_1) - 48) % 256)) / 10)))) else (num_size.l0 k1 a0 (wrap64 (x1_1 + 1)) (IntKind.u64.wrap ((IntKind.u64.wrap (x4_1 * 10)) + (((bt a0 x1_1) - 48) % 256))) false)) else (none)) else (none)) = some (r1, r2, r3) := by rw [if_pos rfl] at H; exact H
        clear H
        have H := H1
        clear H1
        by_cases c5 : 0 ≤ x1_1
        · rw [if_pos c5] at H
          have c5b0 : decide (0 ≤ x1_1) = true := decide_eq_true c5
          clear c5
          by_cases c6 : x1_1 < (a0.size : Int)
          · rw [if_pos c6] at H
            have c6b0 : decide (x1_1 < (a0.size : Int)) = true := decide_eq_true c6
            clear c6
            by_cases c8 : x6_1 = true
            · subst c8
              have H1 : (num_size.l0 k1 a0 (wrap64 (x1_1 + 1)) (IntKind.u64.wrap ((IntKind.u64.wrap (x4_1 * 10)) + (((bt a0 x1_1) - 48) % 256))) (decide (x4_1 ≤ ((18446744073709551615 - (((bt a0 x1_1) - 48) % 256)) / 10)))) = some (r1, r2, r3) := by rw [if_pos rfl] at H; exact H
              clear H
              have H := H1
              clear H1
              have H' := Aside0.mk H
              clear H
              go_wp2_with (first | ((with_reducible refine gate_callee (f := 46) rfl ?_); refine goesL_ (some 10) rfl rfl Try.func46 (by kernel_rfl) rfl #[.string a0, .int .i64 x1_1] rfl (by (try simp only [List.map_toArray, List.map_cons, List.map_nil]); first | done | rfl | (simp only [List.length_drop, List.length_take]; rfl)) ?_; (with_reducible refine (num_digit.calls a0 x1_1 true _ A3.out).mono ?_); rintro e w' ⟨rfl, ⟨nd, rfl⟩⟩; refine ⟨_, rfl, ?_⟩; have p7 : 0 ≤ (x1_1 : Int) := of_decide_eq_true (by first | (with_reducible assumption) | assumption); have q7 : x1_1 < (a0.size : Int) := of_decide_eq_true (by first | (with_reducible assumption) | assumption); have hx7 := bt_at a0 x1_1; replace p7 := eq_true p7; replace q7 := eq_true q7))
              go_step3
              refine ⟨rfl, hJK _ _ (Handed.intro k1 (by have := HK1.out; omega) (hIJ _ _ _ ?_))⟩
              exact ⟨_, _, _, _, _, _, _, _, _, _, _, _, _, _, _, _, _, _, _, _, _, _, _, _, _, _, _, _, _, _, _, _, _, rfl, (wrap64 (x1_1 + 1)), (IntKind.u64.wrap ((IntKind.u64.wrap (x4_1 * 10)) + (((bt a0 x1_1) - 48) % 256))), (decide (x4_1 ≤ ((18446744073709551615 - (((bt a0 x1_1) - 48) % 256)) / 10))), (by first | rfl | (simp; done) | (simp [*]; done)), (by first | rfl | (simp; done) | (simp [*]; done)), (by first | rfl | (simp; done) | (simp [*]; done)), H', ⟨by have := HK1.out; omega⟩, by repeat (first | exact Drawn0.refl _ | apply Drawn0.step)⟩
            · replace c8 := Bool.eq_false_iff.mpr c8
              subst c8
              have H1 : (num_size.l0 k1 a0 (wrap64 (x1_1 + 1)) (IntKind.u64.wrap ((IntKind.u64.wrap (x4_1 * 10)) + (((bt a0 x1_1) - 48) % 256))) false) = some (r1, r2, r3) := by rw [if_neg (show ¬ (false = true) by decide)] at H; exact H
              clear H
              have H := H1
              clear H1
              have H' := Aside0.mk H
              clear H
              go_wp2_with (first | ((with_reducible refine gate_callee (f := 46) rfl ?_); refine goesL_ (some 10) rfl rfl Try.func46 (by kernel_rfl) rfl #[.string a0, .int .i64 x1_1] rfl (by (try simp only [List.map_toArray, List.map_cons, List.map_nil]); first | done | rfl | (simp only [List.length_drop, List.length_take]; rfl)) ?_; (with_reducible refine (num_digit.calls a0 x1_1 true _ A3.out).mono ?_); rintro e w' ⟨rfl, ⟨nd, rfl⟩⟩; refine ⟨_, rfl, ?_⟩; have p7 : 0 ≤ (x1_1 : Int) := of_decide_eq_true (by first | (with_reducible assumption) | assumption); have q7 : x1_1 < (a0.size : Int) := of_decide_eq_true (by first | (with_reducible assumption) | assumption); have hx7 := bt_at a0 x1_1; replace p7 := eq_true p7; replace q7 := eq_true q7))
              go_step3
              refine ⟨rfl, hJK _ _ (Handed.intro k1 (by have := HK1.out; omega) (hIJ _ _ _ ?_))⟩
              exact ⟨_, _, _, _, _, _, _, _, _, _, _, _, _, _, _, _, _, _, _, _, _, _, _, _, _, _, _, _, _, _, _, _, _, rfl, (wrap64 (x1_1 + 1)), (IntKind.u64.wrap ((IntKind.u64.wrap (x4_1 * 10)) + (((bt a0 x1_1) - 48) % 256))), (false), (by first | rfl | (simp; done) | (simp [*]; done)), (by first | rfl | (simp; done) | (simp [*]; done)), (by first | rfl | (simp; done) | (simp [*]; done)), H', ⟨by have := HK1.out; omega⟩, by repeat (first | exact Drawn0.refl _ | apply Drawn0.step)⟩
          · rw [if_neg c6] at H
            exact absurd H (by simp)
        · rw [if_neg c5] at H
          exact absurd H (by simp)
      · replace c4 := Bool.eq_false_iff.mpr c4
        subst c4
        have H1 : (some (x4_1, x1_1, x6_1)) = some (r1, r2, r3) := by rw [if_neg (show ¬ (false = true) by decide)] at H; exact H
        clear H
        have H := H1
        clear H1
        simp only [Option.some.injEq, Prod.mk.injEq] at H
        obtain ⟨rfl, rfl, rfl⟩ := H
        go_wp2_with (first | ((with_reducible refine gate_callee (f := 46) rfl ?_); refine goesL_ (some 10) rfl rfl Try.func46 (by kernel_rfl) rfl #[.string a0, .int .i64 x1_1] rfl (by (try simp only [List.map_toArray, List.map_cons, List.map_nil]); first | done | rfl | (simp only [List.length_drop, List.length_take]; rfl)) ?_; (with_reducible refine (num_digit.calls a0 x1_1 false _ A3.out).mono ?_); rintro e w' ⟨rfl, ⟨nd, rfl⟩⟩; refine ⟨_, rfl, ?_⟩))
        try simp only [Exit.jump]
        go_ret3
        exact ⟨by first | rfl | (simp; done) | (simp [*]; done), by repeat (first | exact Drawn0.refl _ | apply Drawn0.step)⟩

end Go.Proofs.Ytmmofckknopaaaa.Q
