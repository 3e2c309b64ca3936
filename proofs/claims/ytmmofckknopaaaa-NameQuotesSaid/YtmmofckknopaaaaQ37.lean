/- A function of the program or a law's row comes to what the Lean function beside it says; no condition beyond those typed. Written by a program of this workplace; Lean checks it. -/
import Derived.Test.YtmmofckknopaaaaQ0
import Derived.Test.YtmmofckknopaaaaQ33
import Derived.Test.YtmmofckknopaaaaQ36
namespace Go.Proofs.Ytmmofckknopaaaa.Q
open Go.RowKit Go.Proofs.YtmmofckknopaaaaW.PrintWords Go.Proofs.YtmmofckknopaaaaW.PrintLast Go.Proofs.YtmmofckknopaaaaW.PrintMore
attribute [local go_sem] max2_int min2_int max_two min_two max_three min_three max_four min_four   -- for this text's walks alone
set_option linter.unusedVariables false
set_option linter.unusedSimpArgs false

/-! ### name_escaped: function 62 -/
def name_escaped.f (a0 : ByteArray) (a1 : Int) : Option (Int × Bool) := if (wrap64 ((a0.size : Int) - a1)) < 2 then (some (0, false)) else (if 0 ≤ a1 then (if a1 < (a0.size : Int) then ((strings_IndexByte.f (⟨#[48, 49, 50, 51, 52, 53, 54, 55, 56, 57, 97, 98, 99, 100, 101, 102]⟩ : ByteArray) (bt a0 a1)).bind fun t256 => (if 0 ≤ (wrap64 (a1 + 1)) then (if (wrap64 (a1 + 1)) < (a0.size : Int) then ((strings_IndexByte.f (⟨#[48, 49, 50, 51, 52, 53, 54, 55, 56, 57, 97, 98, 99, 100, 101, 102]⟩ : ByteArray) (bt a0 (wrap64 (a1 + 1)))).bind fun t257 => (if t256 ≥ 0 then (if t257 ≥ 0 then ((name_plain.f ((Go.bits .or .i64 (wrap64 (t256 * 16)) (Go.bits .and .i64 t257 15)) % 256)).bind fun t258 => (some ((Go.bits .or .i64 (wrap64 (t256 * 16)) (Go.bits .and .i64 t257 15)) % 256, !t258))) else (some ((Go.bits .or .i64 (wrap64 (t256 * 16)) (Go.bits .and .i64 t257 15)) % 256, false))) else (some ((Go.bits .or .i64 (wrap64 (t256 * 16)) (Go.bits .and .i64 t257 15)) % 256, false)))) else (none)) else (none))) else (none)) else (none))
set_option maxHeartbeats 8000000 in
set_option maxRecDepth 100000 in
theorem name_escaped.calls (a0 : ByteArray) (a1 : Int) (r1 : Int) (r2 : Bool) (w : World) (h : name_escaped.f a0 a1 = some (r1, r2)) :
    Calls Try.prog 62 #[.string a0, .int .i64 a1] w fun e w' => e = .returned (.tuple #[.int .u8 r1, .bool r2]) ∧ Drawn0 w w' := by
  have H : (if (wrap64 ((a0.size : Int) - a1)) < 2 then (some (0, false)) else (if 0 ≤ a1 then (if a1 < (a0.size : Int) then ((strings_IndexByte.f (⟨#[48, 49, 50, 51, 52, 53, 54, 55, 56, 57, 97, 98, 99, 100, 101, 102]⟩ : ByteArray) (bt a0 a1)).bind fun t256 => (if 0 ≤ (wrap64 (a1 + 1)) then (if (wrap64 (a1 + 1)) < (a0.size : Int) then ((strings_IndexByte.f (⟨#[48, 49, 50, 51, 52, 53, 54, 55, 56, 57, 97, 98, 99, 100, 101, 102]⟩ : ByteArray) (bt a0 (wrap64 (a1 + 1)))).bind fun t257 => (if t256 ≥ 0 then (if t257 ≥ 0 then ((name_plain.f ((Go.bits .or .i64 (wrap64 (t256 * 16)) (Go.bits .and .i64 t257 15)) % 256)).bind fun t258 => (some ((Go.bits .or .i64 (wrap64 (t256 * 16)) (Go.bits .and .i64 t257 15)) % 256, !t258))) else (some ((Go.bits .or .i64 (wrap64 (t256 * 16)) (Go.bits .and .i64 t257 15)) % 256, false))) else (some ((Go.bits .or .i64 (wrap64 (t256 * 16)) (Go.bits .and .i64 t257 15)) % 256, false)))) else (none)) else (none))) else (none)) else (none))) = some (r1, r2) := h
  clear h
  by_cases c3 : (wrap64 ((a0.size : Int) - a1)) < 2
  · rw [if_pos c3] at H
    have c3b0 : decide ((wrap64 ((a0.size : Int) - a1)) < 2) = true := decide_eq_true c3
    try (have c3b0w : decide ((((a0.size : Int) - a1)) < 2) = true := by (rw [show ((a0.size : Int) - a1) = wrap64 ((a0.size : Int) - a1) from (by unfold wrap64; omega)]; exact c3b0))
    clear c3
    simp only [Option.some.injEq, Prod.mk.injEq] at H
    obtain ⟨rfl, rfl⟩ := H
    go_enter Try.func62, Try.ntmps62
    go_wp2
    repeat (go_quiet (fail); try go_wp2)
    go_ret2
    exact ⟨by first | rfl | (simp; done) | (simp [*]; done), by repeat (first | exact Drawn0.refl _ | apply Drawn0.step)⟩
  · rw [if_neg c3] at H
    have c3b0 : decide ((wrap64 ((a0.size : Int) - a1)) < 2) = false := decide_eq_false c3
    try (have c3b0w : decide ((((a0.size : Int) - a1)) < 2) = false := by (rw [show ((a0.size : Int) - a1) = wrap64 ((a0.size : Int) - a1) from (by unfold wrap64; omega)]; exact c3b0))
    clear c3
    by_cases c4 : 0 ≤ a1
    · rw [if_pos c4] at H
      have c4b0 : decide (0 ≤ a1) = true := decide_eq_true c4
      clear c4
      by_cases c5 : a1 < (a0.size : Int)
      · rw [if_pos c5] at H
        have c5b0 : decide (a1 < (a0.size : Int)) = true := decide_eq_true c5
        clear c5
        replace H := Option.bind_eq_some_iff.mp H
        obtain ⟨t256, A70, H⟩ := H
        replace H : (if 0 ≤ (wrap64 (a1 + 1)) then (if (wrap64 (a1 + 1)) < (a0.size : Int) then ((strings_IndexByte.f (⟨#[48, 49, 50, 51, 52, 53, 54, 55, 56, 57, 97, 98, 99, 100, 101, 102]⟩ : ByteArray) (bt a0 (wrap64 (a1 + 1)))).bind fun t257 => (if t256 ≥ 0 then (if t257 ≥ 0 then ((name_plain.f ((Go.bits .or .i64 (wrap64 (t256 * 16)) (Go.bits .and .i64 t257 15)) % 256)).bind fun t258 => (some ((Go.bits .or .i64 (wrap64 (t256 * 16)) (Go.bits .and .i64 t257 15)) % 256, !t258))) else (some ((Go.bits .or .i64 (wrap64 (t256 * 16)) (Go.bits .and .i64 t257 15)) % 256, false))) else (some ((Go.bits .or .i64 (wrap64 (t256 * 16)) (Go.bits .and .i64 t257 15)) % 256, false)))) else (none)) else (none)) = some (r1, r2) := H
        have A7 := Aside0.mk A70
        clear A70
        obtain ⟨ji8, hji8⟩ : ∃ j_ : Int, (wrap64 (a1 + 1)) = j_ := ⟨_, rfl⟩
        replace H : (if 0 ≤ (ji8) then (if (ji8) < (a0.size : Int) then ((strings_IndexByte.f (⟨#[48, 49, 50, 51, 52, 53, 54, 55, 56, 57, 97, 98, 99, 100, 101, 102]⟩ : ByteArray) (bt a0 (ji8))).bind fun t257 => (if t256 ≥ 0 then (if t257 ≥ 0 then ((name_plain.f ((Go.bits .or .i64 (wrap64 (t256 * 16)) (Go.bits .and .i64 t257 15)) % 256)).bind fun t258 => (some ((Go.bits .or .i64 (wrap64 (t256 * 16)) (Go.bits .and .i64 t257 15)) % 256, !t258))) else (some ((Go.bits .or .i64 (wrap64 (t256 * 16)) (Go.bits .and .i64 t257 15)) % 256, false))) else (some ((Go.bits .or .i64 (wrap64 (t256 * 16)) (Go.bits .and .i64 t257 15)) % 256, false)))) else (none)) else (none)) = some (r1, r2) := by first | (rw [hji8] at H; exact H) | (simp only [hji8] at H ⊢; exact H)
        (try rw [hji8] at A7)
        have hji8w : (IntKind.i64.wrap (a1 + 1)) = ji8 := (i64_w _).trans hji8
        by_cases c9 : 0 ≤ (ji8)
        · rw [if_pos c9] at H
          have c9b0 : decide (0 ≤ (ji8)) = true := decide_eq_true c9
          clear c9
          by_cases c10 : (ji8) < (a0.size : Int)
          · rw [if_pos c10] at H
            have c10b0 : decide ((ji8) < (a0.size : Int)) = true := decide_eq_true c10
            clear c10
            replace H := Option.bind_eq_some_iff.mp H
            obtain ⟨t257, A120, H⟩ := H
            replace H : (if t256 ≥ 0 then (if t257 ≥ 0 then ((name_plain.f ((Go.bits .or .i64 (wrap64 (t256 * 16)) (Go.bits .and .i64 t257 15)) % 256)).bind fun t258 => (some ((Go.bits .or .i64 (wrap64 (t256 * 16)) (Go.bits .and .i64 t257 15)) % 256, !t258))) else (some ((Go.bits .or .i64 (wrap64 (t256 * 16)) (Go.bits .and .i64 t257 15)) % 256, false))) else (some ((Go.bits .or .i64 (wrap64 (t256 * 16)) (Go.bits .and .i64 t257 15)) % 256, false))) = some (r1, r2) := H
            have A12 := Aside0.mk A120
            clear A120
            by_cases c13 : t256 ≥ 0
            · rw [if_pos c13] at H
              have c13b0 : decide (0 ≤ t256) = true := decide_eq_true c13
              clear c13
              by_cases c14 : t257 ≥ 0
              · rw [if_pos c14] at H
                have c14b0 : decide (0 ≤ t257) = true := decide_eq_true c14
                clear c14
                replace H := Option.bind_eq_some_iff.mp H
                obtain ⟨t258, A150, H⟩ := H
                replace H : (some ((Go.bits .or .i64 (wrap64 (t256 * 16)) (Go.bits .and .i64 t257 15)) % 256, !t258)) = some (r1, r2) := H
                have A15 := Aside0.mk A150
                clear A150
                simp only [Option.some.injEq, Prod.mk.injEq] at H
                obtain ⟨rfl, rfl⟩ := H
                have p6 : 0 ≤ (a1 : Int) := of_decide_eq_true (by first | (with_reducible assumption) | assumption)
                have q6 : a1 < (a0.size : Int) := of_decide_eq_true (by first | (with_reducible assumption) | assumption)
                have hx6 := bt_at a0 a1
                replace p6 := eq_true p6
                replace q6 := eq_true q6
                go_enter Try.func62, Try.ntmps62
                go_wp2_with (first | (go_at_call 59; (with_reducible refine (strings_IndexByte.calls (⟨#[48, 49, 50, 51, 52, 53, 54, 55, 56, 57, 97, 98, 99, 100, 101, 102]⟩ : ByteArray) (bt a0 a1) t256 _ A7.out).mono ?_); rintro e w' ⟨rfl, ⟨nd, rfl⟩⟩; (try first | exact ⟨rfl, _, World.drewN_drewN _ _ _⟩ | exact ⟨rfl, _, Eq.trans (World.drewN_drewN _ _ _) (congrArg (World.drewN _) (Nat.add_assoc _ _ _))⟩); have p11 : 0 ≤ ((ji8) : Int) := of_decide_eq_true (by first | (with_reducible assumption) | assumption); have q11 : (ji8) < (a0.size : Int) := of_decide_eq_true (by first | (with_reducible assumption) | assumption); have hx11 := bt_at a0 (ji8); replace p11 := eq_true p11; replace q11 := eq_true q11) | (go_at_call 59; (with_reducible refine (strings_IndexByte.calls (⟨#[48, 49, 50, 51, 52, 53, 54, 55, 56, 57, 97, 98, 99, 100, 101, 102]⟩ : ByteArray) (bt a0 (ji8)) t257 _ A12.out).mono ?_); rintro e w' ⟨rfl, ⟨nd, rfl⟩⟩; (try first | exact ⟨rfl, _, World.drewN_drewN _ _ _⟩ | exact ⟨rfl, _, Eq.trans (World.drewN_drewN _ _ _) (congrArg (World.drewN _) (Nat.add_assoc _ _ _))⟩)) | (go_at_call 55; (with_reducible refine (name_plain.calls ((Go.bits .or .i64 (wrap64 (t256 * 16)) (Go.bits .and .i64 t257 15)) % 256) t258 _ A15.out).mono ?_); rintro e w' ⟨rfl, ⟨nd, rfl⟩⟩; (try first | exact ⟨rfl, _, World.drewN_drewN _ _ _⟩ | exact ⟨rfl, _, Eq.trans (World.drewN_drewN _ _ _) (congrArg (World.drewN _) (Nat.add_assoc _ _ _))⟩)))
                repeat (go_quiet (first | (go_at_call 59; (with_reducible refine (strings_IndexByte.calls (⟨#[48, 49, 50, 51, 52, 53, 54, 55, 56, 57, 97, 98, 99, 100, 101, 102]⟩ : ByteArray) (bt a0 a1) t256 _ A7.out).mono ?_); rintro e w' ⟨rfl, ⟨nd, rfl⟩⟩; (try first | exact ⟨rfl, _, World.drewN_drewN _ _ _⟩ | exact ⟨rfl, _, Eq.trans (World.drewN_drewN _ _ _) (congrArg (World.drewN _) (Nat.add_assoc _ _ _))⟩); have p11 : 0 ≤ ((ji8) : Int) := of_decide_eq_true (by first | (with_reducible assumption) | assumption); have q11 : (ji8) < (a0.size : Int) := of_decide_eq_true (by first | (with_reducible assumption) | assumption); have hx11 := bt_at a0 (ji8); replace p11 := eq_true p11; replace q11 := eq_true q11) | (go_at_call 59; (with_reducible refine (strings_IndexByte.calls (⟨#[48, 49, 50, 51, 52, 53, 54, 55, 56, 57, 97, 98, 99, 100, 101, 102]⟩ : ByteArray) (bt a0 (ji8)) t257 _ A12.out).mono ?_); rintro e w' ⟨rfl, ⟨nd, rfl⟩⟩; (try first | exact ⟨rfl, _, World.drewN_drewN _ _ _⟩ | exact ⟨rfl, _, Eq.trans (World.drewN_drewN _ _ _) (congrArg (World.drewN _) (Nat.add_assoc _ _ _))⟩)) | (go_at_call 55; (with_reducible refine (name_plain.calls ((Go.bits .or .i64 (wrap64 (t256 * 16)) (Go.bits .and .i64 t257 15)) % 256) t258 _ A15.out).mono ?_); rintro e w' ⟨rfl, ⟨nd, rfl⟩⟩; (try first | exact ⟨rfl, _, World.drewN_drewN _ _ _⟩ | exact ⟨rfl, _, Eq.trans (World.drewN_drewN _ _ _) (congrArg (World.drewN _) (Nat.add_assoc _ _ _))⟩))); try go_wp2_with (first | (go_at_call 59; (with_reducible refine (strings_IndexByte.calls (⟨#[48, 49, 50, 51, 52, 53, 54, 55, 56, 57, 97, 98, 99, 100, 101, 102]⟩ : ByteArray) (bt a0 a1) t256 _ A7.out).mono ?_); rintro e w' ⟨rfl, ⟨nd, rfl⟩⟩; (try first | exact ⟨rfl, _, World.drewN_drewN _ _ _⟩ | exact ⟨rfl, _, Eq.trans (World.drewN_drewN _ _ _) (congrArg (World.drewN _) (Nat.add_assoc _ _ _))⟩); have p11 : 0 ≤ ((ji8) : Int) := of_decide_eq_true (by first | (with_reducible assumption) | assumption); have q11 : (ji8) < (a0.size : Int) := of_decide_eq_true (by first | (with_reducible assumption) | assumption); have hx11 := bt_at a0 (ji8); replace p11 := eq_true p11; replace q11 := eq_true q11) | (go_at_call 59; (with_reducible refine (strings_IndexByte.calls (⟨#[48, 49, 50, 51, 52, 53, 54, 55, 56, 57, 97, 98, 99, 100, 101, 102]⟩ : ByteArray) (bt a0 (ji8)) t257 _ A12.out).mono ?_); rintro e w' ⟨rfl, ⟨nd, rfl⟩⟩; (try first | exact ⟨rfl, _, World.drewN_drewN _ _ _⟩ | exact ⟨rfl, _, Eq.trans (World.drewN_drewN _ _ _) (congrArg (World.drewN _) (Nat.add_assoc _ _ _))⟩)) | (go_at_call 55; (with_reducible refine (name_plain.calls ((Go.bits .or .i64 (wrap64 (t256 * 16)) (Go.bits .and .i64 t257 15)) % 256) t258 _ A15.out).mono ?_); rintro e w' ⟨rfl, ⟨nd, rfl⟩⟩; (try first | exact ⟨rfl, _, World.drewN_drewN _ _ _⟩ | exact ⟨rfl, _, Eq.trans (World.drewN_drewN _ _ _) (congrArg (World.drewN _) (Nat.add_assoc _ _ _))⟩))))
                go_ret2
                exact ⟨by first | rfl | (simp; done) | (simp only [← hji8] <;> (first | rfl | simp)) | (simp [*]; done), by repeat (first | exact Drawn0.refl _ | apply Drawn0.step)⟩
              · rw [if_neg c14] at H
                have c14b0 : decide (0 ≤ t257) = false := decide_eq_false c14
                clear c14
                simp only [Option.some.injEq, Prod.mk.injEq] at H
                obtain ⟨rfl, rfl⟩ := H
                have p6 : 0 ≤ (a1 : Int) := of_decide_eq_true (by first | (with_reducible assumption) | assumption)
                have q6 : a1 < (a0.size : Int) := of_decide_eq_true (by first | (with_reducible assumption) | assumption)
                have hx6 := bt_at a0 a1
                replace p6 := eq_true p6
                replace q6 := eq_true q6
                go_enter Try.func62, Try.ntmps62
                go_wp2_with (first | (go_at_call 59; (with_reducible refine (strings_IndexByte.calls (⟨#[48, 49, 50, 51, 52, 53, 54, 55, 56, 57, 97, 98, 99, 100, 101, 102]⟩ : ByteArray) (bt a0 a1) t256 _ A7.out).mono ?_); rintro e w' ⟨rfl, ⟨nd, rfl⟩⟩; (try first | exact ⟨rfl, _, World.drewN_drewN _ _ _⟩ | exact ⟨rfl, _, Eq.trans (World.drewN_drewN _ _ _) (congrArg (World.drewN _) (Nat.add_assoc _ _ _))⟩); have p11 : 0 ≤ ((ji8) : Int) := of_decide_eq_true (by first | (with_reducible assumption) | assumption); have q11 : (ji8) < (a0.size : Int) := of_decide_eq_true (by first | (with_reducible assumption) | assumption); have hx11 := bt_at a0 (ji8); replace p11 := eq_true p11; replace q11 := eq_true q11) | (go_at_call 59; (with_reducible refine (strings_IndexByte.calls (⟨#[48, 49, 50, 51, 52, 53, 54, 55, 56, 57, 97, 98, 99, 100, 101, 102]⟩ : ByteArray) (bt a0 (ji8)) t257 _ A12.out).mono ?_); rintro e w' ⟨rfl, ⟨nd, rfl⟩⟩; (try first | exact ⟨rfl, _, World.drewN_drewN _ _ _⟩ | exact ⟨rfl, _, Eq.trans (World.drewN_drewN _ _ _) (congrArg (World.drewN _) (Nat.add_assoc _ _ _))⟩)))
                repeat (go_quiet (first | (go_at_call 59; (with_reducible refine (strings_IndexByte.calls (⟨#[48, 49, 50, 51, 52, 53, 54, 55, 56, 57, 97, 98, 99, 100, 101, 102]⟩ : ByteArray) (bt a0 a1) t256 _ A7.out).mono ?_); rintro e w' ⟨rfl, ⟨nd, rfl⟩⟩; (try first | exact ⟨rfl, _, World.drewN_drewN _ _ _⟩ | exact ⟨rfl, _, Eq.trans (World.drewN_drewN _ _ _) (congrArg (World.drewN _) (Nat.add_assoc _ _ _))⟩); have p11 : 0 ≤ ((ji8) : Int) := of_decide_eq_true (by first | (with_reducible assumption) | assumption); have q11 : (ji8) < (a0.size : Int) := of_decide_eq_true (by first | (with_reducible assumption) | assumption); have hx11 := bt_at a0 (ji8); replace p11 := eq_true p11; replace q11 := eq_true q11) | (go_at_call 59; (with_reducible refine (strings_IndexByte.calls (⟨#[48, 49, 50, 51, 52, 53, 54, 55, 56, 57, 97, 98, 99, 100, 101, 102]⟩ : ByteArray) (bt a0 (ji8)) t257 _ A12.out).mono ?_); rintro e w' ⟨rfl, ⟨nd, rfl⟩⟩; (try first | exact ⟨rfl, _, World.drewN_drewN _ _ _⟩ | exact ⟨rfl, _, Eq.trans (World.drewN_drewN _ _ _) (congrArg (World.drewN _) (Nat.add_assoc _ _ _))⟩))); try go_wp2_with (first | (go_at_call 59; (with_reducible refine (strings_IndexByte.calls (⟨#[48, 49, 50, 51, 52, 53, 54, 55, 56, 57, 97, 98, 99, 100, 101, 102]⟩ : ByteArray) (bt a0 a1) t256 _ A7.out).mono ?_); rintro e w' ⟨rfl, ⟨nd, rfl⟩⟩; (try first | exact ⟨rfl, _, World.drewN_drewN _ _ _⟩ | exact ⟨rfl, _, Eq.trans (World.drewN_drewN _ _ _) (congrArg (World.drewN _) (Nat.add_assoc _ _ _))⟩); have p11 : 0 ≤ ((ji8) : Int) := of_decide_eq_true (by first | (with_reducible assumption) | assumption); have q11 : (ji8) < (a0.size : Int) := of_decide_eq_true (by first | (with_reducible assumption) | assumption); have hx11 := bt_at a0 (ji8); replace p11 := eq_true p11; replace q11 := eq_true q11) | (go_at_call 59; (with_reducible refine (strings_IndexByte.calls (⟨#[48, 49, 50, 51, 52, 53, 54, 55, 56, 57, 97, 98, 99, 100, 101, 102]⟩ : ByteArray) (bt a0 (ji8)) t257 _ A12.out).mono ?_); rintro e w' ⟨rfl, ⟨nd, rfl⟩⟩; (try first | exact ⟨rfl, _, World.drewN_drewN _ _ _⟩ | exact ⟨rfl, _, Eq.trans (World.drewN_drewN _ _ _) (congrArg (World.drewN _) (Nat.add_assoc _ _ _))⟩))))
                go_ret2
                exact ⟨by first | rfl | (simp; done) | (simp only [← hji8] <;> (first | rfl | simp)) | (simp [*]; done), by repeat (first | exact Drawn0.refl _ | apply Drawn0.step)⟩
            · rw [if_neg c13] at H
              have c13b0 : decide (0 ≤ t256) = false := decide_eq_false c13
              clear c13
              simp only [Option.some.injEq, Prod.mk.injEq] at H
              obtain ⟨rfl, rfl⟩ := H
              have p6 : 0 ≤ (a1 : Int) := of_decide_eq_true (by first | (with_reducible assumption) | assumption)
              have q6 : a1 < (a0.size : Int) := of_decide_eq_true (by first | (with_reducible assumption) | assumption)
              have hx6 := bt_at a0 a1
              replace p6 := eq_true p6
              replace q6 := eq_true q6
              go_enter Try.func62, Try.ntmps62
              go_wp2_with (first | (go_at_call 59; (with_reducible refine (strings_IndexByte.calls (⟨#[48, 49, 50, 51, 52, 53, 54, 55, 56, 57, 97, 98, 99, 100, 101, 102]⟩ : ByteArray) (bt a0 a1) t256 _ A7.out).mono ?_); rintro e w' ⟨rfl, ⟨nd, rfl⟩⟩; (try first | exact ⟨rfl, _, World.drewN_drewN _ _ _⟩ | exact ⟨rfl, _, Eq.trans (World.drewN_drewN _ _ _) (congrArg (World.drewN _) (Nat.add_assoc _ _ _))⟩); have p11 : 0 ≤ ((ji8) : Int) := of_decide_eq_true (by first | (with_reducible assumption) | assumption); have q11 : (ji8) < (a0.size : Int) := of_decide_eq_true (by first | (with_reducible assumption) | assumption); have hx11 := bt_at a0 (ji8); replace p11 := eq_true p11; replace q11 := eq_true q11) | (go_at_call 59; (with_reducible refine (strings_IndexByte.calls (⟨#[48, 49, 50, 51, 52, 53, 54, 55, 56, 57, 97, 98, 99, 100, 101, 102]⟩ : ByteArray) (bt a0 (ji8)) t257 _ A12.out).mono ?_); rintro e w' ⟨rfl, ⟨nd, rfl⟩⟩; (try first | exact ⟨rfl, _, World.drewN_drewN _ _ _⟩ | exact ⟨rfl, _, Eq.trans (World.drewN_drewN _ _ _) (congrArg (World.drewN _) (Nat.add_assoc _ _ _))⟩)))
              repeat (go_quiet (first | (go_at_call 59; (with_reducible refine (strings_IndexByte.calls (⟨#[48, 49, 50, 51, 52, 53, 54, 55, 56, 57, 97, 98, 99, 100, 101, 102]⟩ : ByteArray) (bt a0 a1) t256 _ A7.out).mono ?_); rintro e w' ⟨rfl, ⟨nd, rfl⟩⟩; (try first | exact ⟨rfl, _, World.drewN_drewN _ _ _⟩ | exact ⟨rfl, _, Eq.trans (World.drewN_drewN _ _ _) (congrArg (World.drewN _) (Nat.add_assoc _ _ _))⟩); have p11 : 0 ≤ ((ji8) : Int) := of_decide_eq_true (by first | (with_reducible assumption) | assumption); have q11 : (ji8) < (a0.size : Int) := of_decide_eq_true (by first | (with_reducible assumption) | assumption); have hx11 := bt_at a0 (ji8); replace p11 := eq_true p11; replace q11 := eq_true q11) | (go_at_call 59; (with_reducible refine (strings_IndexByte.calls (⟨#[48, 49, 50, 51, 52, 53, 54, 55, 56, 57, 97, 98, 99, 100, 101, 102]⟩ : ByteArray) (bt a0 (ji8)) t257 _ A12.out).mono ?_); rintro e w' ⟨rfl, ⟨nd, rfl⟩⟩; (try first | exact ⟨rfl, _, World.drewN_drewN _ _ _⟩ | exact ⟨rfl, _, Eq.trans (World.drewN_drewN _ _ _) (congrArg (World.drewN _) (Nat.add_assoc _ _ _))⟩))); try go_wp2_with (first | (go_at_call 59; (with_reducible refine (strings_IndexByte.calls (⟨#[48, 49, 50, 51, 52, 53, 54, 55, 56, 57, 97, 98, 99, 100, 101, 102]⟩ : ByteArray) (bt a0 a1) t256 _ A7.out).mono ?_); rintro e w' ⟨rfl, ⟨nd, rfl⟩⟩; (try first | exact ⟨rfl, _, World.drewN_drewN _ _ _⟩ | exact ⟨rfl, _, Eq.trans (World.drewN_drewN _ _ _) (congrArg (World.drewN _) (Nat.add_assoc _ _ _))⟩); have p11 : 0 ≤ ((ji8) : Int) := of_decide_eq_true (by first | (with_reducible assumption) | assumption); have q11 : (ji8) < (a0.size : Int) := of_decide_eq_true (by first | (with_reducible assumption) | assumption); have hx11 := bt_at a0 (ji8); replace p11 := eq_true p11; replace q11 := eq_true q11) | (go_at_call 59; (with_reducible refine (strings_IndexByte.calls (⟨#[48, 49, 50, 51, 52, 53, 54, 55, 56, 57, 97, 98, 99, 100, 101, 102]⟩ : ByteArray) (bt a0 (ji8)) t257 _ A12.out).mono ?_); rintro e w' ⟨rfl, ⟨nd, rfl⟩⟩; (try first | exact ⟨rfl, _, World.drewN_drewN _ _ _⟩ | exact ⟨rfl, _, Eq.trans (World.drewN_drewN _ _ _) (congrArg (World.drewN _) (Nat.add_assoc _ _ _))⟩))))
              go_ret2
              exact ⟨by first | rfl | (simp; done) | (simp only [← hji8] <;> (first | rfl | simp)) | (simp [*]; done), by repeat (first | exact Drawn0.refl _ | apply Drawn0.step)⟩
          · rw [if_neg c10] at H
            exact absurd H (by simp)
        · rw [if_neg c9] at H
          exact absurd H (by simp)
      · rw [if_neg c5] at H
        exact absurd H (by simp)
    · rw [if_neg c4] at H
      exact absurd H (by simp)

end Go.Proofs.Ytmmofckknopaaaa.Q
