/- A function of the program or a law's row comes to what the Lean function beside it says; no condition beyond those typed. Written by a program of this workplace; Lean checks it. -/
import Derived.Test.YtfkkekdpfkglbaaQ0
namespace Go.Proofs.Ytfkkekdpfkglbaa.Q
open Go.RowKit Go.Proofs.YtfkkekdpfkglbaaW.PrintWords Go.Proofs.YtfkkekdpfkglbaaW.PrintLast Go.Proofs.YtfkkekdpfkglbaaW.PrintMore
attribute [local go_sem] max2_int min2_int max_two min_two max_three min_three max_four min_four   -- for this text's walks alone
set_option linter.unusedVariables false
set_option linter.unusedSimpArgs false

/-! ### plane_within: function 93 -/
/-- A float cut towards zero, and without its sign. -/
def trF (x : Nat) : Nat := match FloatKind.f64.decode x with
  | .nan _ _ => x
  | d => FloatKind.f64.encode (d.integral .zero)
def absF (x : Nat) : Nat := (Go.bits .andNot .u64 (x : Int) 9223372036854775808).toNat
theorem order_nan {r x : Nat} {s : Bool} {t : Nat} (h : FloatKind.f64.decode x = .nan s t) : FloatKind.f64.format.order r x = none := by
  have h2 : FloatKind.f64.format.read x = .nan s t := h
  unfold Ieee.Format.order
  rw [h2]
  cases FloatKind.f64.format.read r <;> rfl
theorem trunc_is (x : Nat) : Extern.MathFloor.toIntegral "math.archTrunc" .zero #[.float .f64 x] = (match FloatKind.f64.decode x with
    | .nan s t =>
      if FloatKind.f64.format.quiet t = t then pure (.float .f64 x) else do
      let kept ← choose (.extern "math.Floor,Ceil,Trunc,RoundToEven.signallingNaN kept" 2)
      pure (.float .f64 (if kept == 1 then x else FloatKind.f64.encode (.nan s (FloatKind.f64.format.quiet t))))
    | d => pure (.float .f64 (FloatKind.f64.encode (d.integral .zero)))) := rfl
theorem run_trunc {P : Program} (x : Nat) (w : World) : ∃ r n, (Extern.MathFloor.toIntegral "math.archTrunc" .zero #[.float .f64 x]).run P w = .ok (.float .f64 r) (w.drewN n) ∧ FloatKind.f64.format.order r x = FloatKind.f64.format.order (trF x) x := by
  rw [trunc_is]
  cases h : FloatKind.f64.decode x with
  | number s m e => exact ⟨FloatKind.f64.encode ((Ieee.Datum.number s m e).integral .zero), 0, rfl, by simp only [trF, h]⟩
  | infinity s => exact ⟨FloatKind.f64.encode ((Ieee.Datum.infinity s).integral .zero), 0, rfl, by simp only [trF, h]⟩
  | nan s t =>
    by_cases hq : FloatKind.f64.format.quiet t = t
    · exact ⟨x, 0, by simp only [hq, if_true]; rfl, (order_nan h).trans (order_nan h).symm⟩
    · obtain ⟨v, hv⟩ : ∃ v, (choose (.extern "math.Floor,Ceil,Trunc,RoundToEven.signallingNaN kept" 2)).run P w = .ok v (w.drewN 1) := ⟨_, by rw [run_choose_drew]; rfl⟩
      refine ⟨if v == 1 then x else FloatKind.f64.encode (.nan s (FloatKind.f64.format.quiet t)), 1, ?_, (order_nan h).trans (order_nan h).symm⟩
      simp only [if_neg hq, Sem.run_bind, hv, Result.andThen_ok, Sem.run_pure]
set_option maxHeartbeats 1000000 in
set_option maxRecDepth 100000 in
theorem math_Trunc.calls (x : Nat) (w : World) : Calls Try.prog 96 #[.float .f64 x] w fun e w' => ∃ r, e = .returned (.float .f64 r) ∧ FloatKind.f64.format.order r x = FloatKind.f64.format.order (trF x) x ∧ Drawn0 w w' := by
  obtain ⟨r, n, hr, ho⟩ := run_trunc (P := Try.prog) x w
  go_enter Try.func96, Try.ntmps96
  go_wp2
  rw [run_callFunc_extern Try.func100 (by kernel_rfl) (by kernel_rfl) (by kernel_rfl) (e := Extern.MathFloor.toIntegral "math.archTrunc" .zero) (by kernel_rfl), hr]
  simp only [Result.andThen]
  rw [Oper.upon_value]
  go_wp2
  go_ret
  exact ⟨r, rfl, ho, ⟨⟨n, rfl⟩⟩⟩
set_option maxHeartbeats 1000000 in
set_option maxRecDepth 100000 in
theorem math_Abs.calls (x : Nat) (w : World) : Calls Try.prog 97 #[.float .f64 x] w fun e w' => e = .returned (.float .f64 (absF x)) ∧ w' = w := by
  go_enter Try.func97, Try.ntmps97
  go_wp2
  rw [run_callFunc_extern Try.func103 (by kernel_rfl) (by kernel_rfl) (by kernel_rfl) (e := Extern.MathFloatBits.float64bits) (by kernel_rfl), show (Extern.MathFloatBits.float64bits #[.float .f64 x]).run Try.prog w = .ok (.int .u64 x) w from rfl]
  simp only [Result.andThen]
  rw [Oper.upon_value]
  go_wp2
  rw [run_callFunc_extern Try.func102 (by kernel_rfl) (by kernel_rfl) (by kernel_rfl) (e := Extern.MathFloatBits.float64frombits) (by kernel_rfl), show (Extern.MathFloatBits.float64frombits #[.int .u64 (Go.bits .andNot .u64 (x : Int) 9223372036854775808)]).run Try.prog w = .ok (.float .f64 (absF x)) w from rfl]
  simp only [Result.andThen]
  rw [Oper.upon_value]
  go_wp2
  go_ret
  exact ⟨rfl, rfl⟩
def wthn (x m : Nat) : Bool := (FloatKind.f64.format.order (trF x) x == some .eq) && ((FloatKind.f64.format.order (absF x) m == some .lt) || (FloatKind.f64.format.order (absF x) m == some .eq))
def plane_within.f (a0 a1 : Nat) : Option Bool := some (wthn a0 a1)
set_option maxHeartbeats 1000000 in
set_option maxRecDepth 100000 in
theorem plane_within.calls (a0 a1 : Nat) (r : Bool) (w : World) (h : plane_within.f a0 a1 = some r) : Calls Try.prog 93 #[.float .f64 a0, .float .f64 a1] w fun e w' => e = .returned (.bool r) ∧ Drawn0 w w' := by
  have hr : r = wthn a0 a1 := (Option.some.inj h).symm
  subst hr
  clear h
  unfold wthn
  cases hb : (FloatKind.f64.format.order (trF a0) a0 == some .eq) with
  | false =>
    go_enter Try.func93, Try.ntmps93
    go_wp2_with ((with_reducible refine gate_callee (f := 96) rfl ?_); refine goesL_ (some 6) rfl rfl Try.func96 (by kernel_rfl) rfl #[.float .f64 a0] rfl (by (try simp only [List.map_toArray, List.map_cons, List.map_nil]); first | done | rfl) ?_; (with_reducible refine (math_Trunc.calls a0 _).mono ?_); rintro e w' ⟨r, rfl, ho, ⟨nd, rfl⟩⟩; refine ⟨_, rfl, ?_⟩; have hE : (FloatKind.f64.format.order r a0 == some .eq) = false := by rw [ho]; exact hb)
    go_ret
    exact ⟨rfl, ⟨⟨nd, rfl⟩⟩⟩
  | true =>
    go_enter Try.func93, Try.ntmps93
    go_wp2_with (first | ((with_reducible refine gate_callee (f := 96) rfl ?_); refine goesL_ (some 6) rfl rfl Try.func96 (by kernel_rfl) rfl #[.float .f64 a0] rfl (by (try simp only [List.map_toArray, List.map_cons, List.map_nil]); first | done | rfl) ?_; (with_reducible refine (math_Trunc.calls a0 _).mono ?_); rintro e w' ⟨r, rfl, ho, ⟨nd, rfl⟩⟩; refine ⟨_, rfl, ?_⟩; have hE : (FloatKind.f64.format.order r a0 == some .eq) = true := by rw [ho]; exact hb) | ((with_reducible refine gate_callee (f := 97) rfl ?_); refine goesL_ (some 11) rfl rfl Try.func97 (by kernel_rfl) rfl #[.float .f64 a0] rfl (by (try simp only [List.map_toArray, List.map_cons, List.map_nil]); first | done | rfl) ?_; (with_reducible refine (math_Abs.calls a0 _).mono ?_); rintro e w' ⟨rfl, rfl⟩; refine ⟨_, rfl, ?_⟩))
    refine (math_Abs.calls a0 _).mono ?_
    rintro e w' ⟨rfl, rfl⟩
    dsimp only
    go_wp2
    go_ret
    exact ⟨by first | rfl | simp, ⟨⟨nd, rfl⟩⟩⟩

end Go.Proofs.Ytfkkekdpfkglbaa.Q
