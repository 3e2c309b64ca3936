/- A function of the program or a law's row comes to what the Lean function beside it says; no condition beyond those typed. Written by a program of this workplace; Lean checks it. -/
import Derived.Test.YtcgbcnalofecgaaQ0
namespace Go.Proofs.Ytcgbcnalofecgaa.Q
open Go.RowKit Go.Proofs.YtcgbcnalofecgaaW.PrintWords Go.Proofs.YtcgbcnalofecgaaW.PrintLast Go.Proofs.YtcgbcnalofecgaaW.PrintMore
attribute [local go_sem] max2_int min2_int max_two min_two max_three min_three max_four min_four   -- for this text's walks alone
set_option linter.unusedVariables false
set_option linter.unusedSimpArgs false

/-! ### frame_numberAt: function 32 -/
def frame_numberAt.f (l0 : List Int) (a1 : Int) : Option (Int) := if 0 ≤ a1 then (if a1 < (l0.length : Int) then (if 0 ≤ (wrap64 (a1 + 1)) then (if (wrap64 (a1 + 1)) < (l0.length : Int) then (if 0 ≤ (wrap64 (a1 + 2)) then (if (wrap64 (a1 + 2)) < (l0.length : Int) then (if 0 ≤ (wrap64 (a1 + 3)) then (if (wrap64 (a1 + 3)) < (l0.length : Int) then (some (Go.bits .or .u32 (Go.bits .or .u32 (Go.bits .or .u32 ((rd l0 a1) % 4294967296) ((((rd l0 (wrap64 (a1 + 1))) % 4294967296) * 256) % 4294967296)) ((((rd l0 (wrap64 (a1 + 2))) % 4294967296) * 65536) % 4294967296)) ((((rd l0 (wrap64 (a1 + 3))) % 4294967296) * 16777216) % 4294967296))) else (none)) else (none)) else (none)) else (none)) else (none)) else (none)) else (none)) else (none)
set_option maxHeartbeats 8000000 in
set_option maxRecDepth 100000 in
theorem frame_numberAt.calls (A0 : Option Addr) (c0 : Nat) (l0 : List Int) (a1 : Int) (r : Int) (w : World) (hr0 : Kd.C (Kd.int .u8) w A0 l0.length l0) (hc0 : l0.length ≤ c0) (h : frame_numberAt.f l0 a1 = some r) :
    Calls Try.prog 32 #[.slice A0 l0.length c0, .int .i64 a1] w fun e w' => e = .returned (.int .u32 r) ∧ Drawn0 w w' := by
  have HR0 := Aside0.mk hr0
  have HC0 := Aside0.mk hc0
  clear hr0 hc0
  have H : (if 0 ≤ a1 then (if a1 < (l0.length : Int) then (if 0 ≤ (wrap64 (a1 + 1)) then (if (wrap64 (a1 + 1)) < (l0.length : Int) then (if 0 ≤ (wrap64 (a1 + 2)) then (if (wrap64 (a1 + 2)) < (l0.length : Int) then (if 0 ≤ (wrap64 (a1 + 3)) then (if (wrap64 (a1 + 3)) < (l0.length : Int) then (some (Go.bits .or .u32 (Go.bits .or .u32 (Go.bits .or .u32 ((rd l0 a1) % 4294967296) ((((rd l0 (wrap64 (a1 + 1))) % 4294967296) * 256) % 4294967296)) ((((rd l0 (wrap64 (a1 + 2))) % 4294967296) * 65536) % 4294967296)) ((((rd l0 (wrap64 (a1 + 3))) % 4294967296) * 16777216) % 4294967296))) else (none)) else (none)) else (none)) else (none)) else (none)) else (none)) else (none)) else (none)) = some r := h
  clear h
  by_cases c3 : 0 ≤ a1
  · rw [if_pos c3] at H
    have c3b0 : decide (0 ≤ a1) = true := decide_eq_true c3
    clear c3
    by_cases c4 : a1 < (l0.length : Int)
    · rw [if_pos c4] at H
      have c4b0 : decide (a1 < (l0.length : Int)) = true := decide_eq_true c4
      clear c4
      obtain ⟨ji5, hji5⟩ : ∃ j_ : Int, (wrap64 (a1 + 1)) = j_ := ⟨_, rfl⟩
      replace H : (if 0 ≤ (ji5) then (if (ji5) < (l0.length : Int) then (if 0 ≤ (wrap64 (a1 + 2)) then (if (wrap64 (a1 + 2)) < (l0.length : Int) then (if 0 ≤ (wrap64 (a1 + 3)) then (if (wrap64 (a1 + 3)) < (l0.length : Int) then (some (Go.bits .or .u32 (Go.bits .or .u32 (Go.bits .or .u32 ((rd l0 a1) % 4294967296) ((((rd l0 (ji5)) % 4294967296) * 256) % 4294967296)) ((((rd l0 (wrap64 (a1 + 2))) % 4294967296) * 65536) % 4294967296)) ((((rd l0 (wrap64 (a1 + 3))) % 4294967296) * 16777216) % 4294967296))) else (none)) else (none)) else (none)) else (none)) else (none)) else (none)) = some r := by first | (rw [hji5] at H; exact H) | (simp only [hji5] at H ⊢; exact H)
      have hji5w : (IntKind.i64.wrap (a1 + 1)) = ji5 := (i64_w _).trans hji5
      by_cases c6 : 0 ≤ (ji5)
      · rw [if_pos c6] at H
        have c6b0 : decide (0 ≤ (ji5)) = true := decide_eq_true c6
        clear c6
        by_cases c7 : (ji5) < (l0.length : Int)
        · rw [if_pos c7] at H
          have c7b0 : decide ((ji5) < (l0.length : Int)) = true := decide_eq_true c7
          clear c7
          obtain ⟨ji8, hji8⟩ : ∃ j_ : Int, (wrap64 (a1 + 2)) = j_ := ⟨_, rfl⟩
          replace H : (if 0 ≤ (ji8) then (if (ji8) < (l0.length : Int) then (if 0 ≤ (wrap64 (a1 + 3)) then (if (wrap64 (a1 + 3)) < (l0.length : Int) then (some (Go.bits .or .u32 (Go.bits .or .u32 (Go.bits .or .u32 ((rd l0 a1) % 4294967296) ((((rd l0 (ji5)) % 4294967296) * 256) % 4294967296)) ((((rd l0 (ji8)) % 4294967296) * 65536) % 4294967296)) ((((rd l0 (wrap64 (a1 + 3))) % 4294967296) * 16777216) % 4294967296))) else (none)) else (none)) else (none)) else (none)) = some r := by first | (rw [hji8] at H; exact H) | (simp only [hji8] at H ⊢; exact H)
          have hji8w : (IntKind.i64.wrap (a1 + 2)) = ji8 := (i64_w _).trans hji8
          by_cases c9 : 0 ≤ (ji8)
          · rw [if_pos c9] at H
            have c9b0 : decide (0 ≤ (ji8)) = true := decide_eq_true c9
            clear c9
            by_cases c10 : (ji8) < (l0.length : Int)
            · rw [if_pos c10] at H
              have c10b0 : decide ((ji8) < (l0.length : Int)) = true := decide_eq_true c10
              clear c10
              obtain ⟨ji11, hji11⟩ : ∃ j_ : Int, (wrap64 (a1 + 3)) = j_ := ⟨_, rfl⟩
              replace H : (if 0 ≤ (ji11) then (if (ji11) < (l0.length : Int) then (some (Go.bits .or .u32 (Go.bits .or .u32 (Go.bits .or .u32 ((rd l0 a1) % 4294967296) ((((rd l0 (ji5)) % 4294967296) * 256) % 4294967296)) ((((rd l0 (ji8)) % 4294967296) * 65536) % 4294967296)) ((((rd l0 (ji11)) % 4294967296) * 16777216) % 4294967296))) else (none)) else (none)) = some r := by first | (rw [hji11] at H; exact H) | (simp only [hji11] at H ⊢; exact H)
              have hji11w : (IntKind.i64.wrap (a1 + 3)) = ji11 := (i64_w _).trans hji11
              by_cases c12 : 0 ≤ (ji11)
              · rw [if_pos c12] at H
                have c12b0 : decide (0 ≤ (ji11)) = true := decide_eq_true c12
                clear c12
                by_cases c13 : (ji11) < (l0.length : Int)
                · rw [if_pos c13] at H
                  have c13b0 : decide ((ji11) < (l0.length : Int)) = true := decide_eq_true c13
                  clear c13
                  obtain rfl := Option.some.inj H
                  have p200 : 0 ≤ (a1 : Int) := of_decide_eq_true (by first | (with_reducible assumption) | assumption)
                  have q200 : a1 < (l0.length : Int) := of_decide_eq_true (by first | (with_reducible assumption) | assumption)
                  obtain ⟨ad200, e200, hx200_0⟩ := Kd.at_int HR0.out a1 p200 q200
                  cases e200
                  replace p200 := eq_true p200
                  replace q200 := eq_true q200
                  have p201 : 0 ≤ ((ji5) : Int) := of_decide_eq_true (by first | (with_reducible assumption) | assumption)
                  have q201 : (ji5) < (l0.length : Int) := of_decide_eq_true (by first | (with_reducible assumption) | assumption)
                  obtain ⟨ad201, e201, hx201_0⟩ := Kd.at_int HR0.out (ji5) p201 q201
                  obtain rfl : ad200 = ad201 := (by injection e201)
                  replace p201 := eq_true p201
                  replace q201 := eq_true q201
                  have p202 : 0 ≤ ((ji8) : Int) := of_decide_eq_true (by first | (with_reducible assumption) | assumption)
                  have q202 : (ji8) < (l0.length : Int) := of_decide_eq_true (by first | (with_reducible assumption) | assumption)
                  obtain ⟨ad202, e202, hx202_0⟩ := Kd.at_int HR0.out (ji8) p202 q202
                  obtain rfl : ad200 = ad202 := (by injection e202)
                  replace p202 := eq_true p202
                  replace q202 := eq_true q202
                  have p203 : 0 ≤ ((ji11) : Int) := of_decide_eq_true (by first | (with_reducible assumption) | assumption)
                  have q203 : (ji11) < (l0.length : Int) := of_decide_eq_true (by first | (with_reducible assumption) | assumption)
                  obtain ⟨ad203, e203, hx203_0⟩ := Kd.at_int HR0.out (ji11) p203 q203
                  obtain rfl : ad200 = ad203 := (by injection e203)
                  replace p203 := eq_true p203
                  replace q203 := eq_true q203
                  go_enter Try.func32, Try.ntmps32
                  go_wp2
                  repeat (go_quiet (fail); try go_wp2)
                  go_ret
                  exact ⟨by first | rfl | (simp; done) | (simp only [← hji5, ← hji8, ← hji11] <;> (first | rfl | simp)) | (simp [*]; done), by repeat (first | exact Drawn0.refl _ | apply Drawn0.step)⟩
                · rw [if_neg c13] at H
                  exact absurd H (by simp)
              · rw [if_neg c12] at H
                exact absurd H (by simp)
            · rw [if_neg c10] at H
              exact absurd H (by simp)
          · rw [if_neg c9] at H
            exact absurd H (by simp)
        · rw [if_neg c7] at H
          exact absurd H (by simp)
      · rw [if_neg c6] at H
        exact absurd H (by simp)
    · rw [if_neg c4] at H
      exact absurd H (by simp)
  · rw [if_neg c3] at H
    exact absurd H (by simp)

end Go.Proofs.Ytcgbcnalofecgaa.Q
