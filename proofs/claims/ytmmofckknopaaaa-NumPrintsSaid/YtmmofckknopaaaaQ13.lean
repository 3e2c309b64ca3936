/- A function of the program or a law's row comes to what the Lean function beside it says; no condition beyond those typed. Written by a program of this workplace; Lean checks it. -/
import Derived.Test.YtmmofckknopaaaaQ0
import Derived.Test.YtmmofckknopaaaaQ12
namespace Go.Proofs.Ytmmofckknopaaaa.Q
open Go.RowKit Go.Proofs.YtmmofckknopaaaaW.PrintWords Go.Proofs.YtmmofckknopaaaaW.PrintLast Go.Proofs.YtmmofckknopaaaaW.PrintMore
attribute [local go_sem] max2_int min2_int max_two min_two max_three min_three max_four min_four   -- for this text's walks alone
set_option linter.unusedVariables false
set_option linter.unusedSimpArgs false

/-! ### punnetlaw03_awake: function 18 -/
def punnetlaw03_awake.f (k : Nat)  : Option (Bool) := (num_Scan.f k (⟨#[97, 45, 49, 50, 98]⟩ : ByteArray) 1).bind fun bt139 => (if bt139.1 = (-12) then (if bt139.2.1 = 4 then (some (bt139.2.2 == 0)) else (some false)) else (some false))
theorem punnetlaw03_awake.mono : ∀ k, LeO (punnetlaw03_awake.f k ) (punnetlaw03_awake.f (k + 1) ) := by
  intro  k
  unfold punnetlaw03_awake.f
  repeat' first
      | (with_reducible exact num_Scan.mono _ _ _)
      | (with_reducible exact LeO.refl _)
      | (with_reducible exact LeO.none _)
      | (with_reducible refine LeO.ite ?_ ?_)
      | (with_reducible refine LeO.bind ?_ (fun _ => ?_))
      | exact num_Scan.mono _ _ _
      | exact LeO.none _
      | refine LeO.ite ?_ ?_
      | refine LeO.bind ?_ (fun _ => ?_)
set_option maxHeartbeats 8000000 in
set_option maxRecDepth 100000 in
theorem punnetlaw03_awake.calls (k : Nat)  (r : Bool) (w : World) (h : punnetlaw03_awake.f k  = some r) :
    Calls Try.prog 18 #[] w fun e w' => e = .returned (.bool r) ∧ Drawn0 w w' := by
  have H : ((num_Scan.f k (⟨#[97, 45, 49, 50, 98]⟩ : ByteArray) 1).bind fun bt139 => (if bt139.1 = (-12) then (if bt139.2.1 = 4 then (some (bt139.2.2 == 0)) else (some false)) else (some false))) = some r := h
  clear h
  replace H := Option.bind_eq_some_iff.mp H
  obtain ⟨⟨t139, t140, t141⟩, A10, H⟩ := H
  replace H : (if t139 = (-12) then (if t140 = 4 then (some (t141 == 0)) else (some false)) else (some false)) = some r := H
  have A1 := Aside0.mk A10
  clear A10
  by_cases c2 : t139 = (-12)
  · rw [if_pos c2] at H
    have c2b0 : (t139 == (-12)) = true := beq_iff_eq.mpr c2
    have c2b1 : (t139 != (-12)) = false := bne_eq_false_iff_eq.mpr c2
    clear c2
    by_cases c3 : t140 = 4
    · rw [if_pos c3] at H
      have c3b0 : (t140 == 4) = true := beq_iff_eq.mpr c3
      have c3b1 : (t140 != 4) = false := bne_eq_false_iff_eq.mpr c3
      clear c3
      obtain rfl := Option.some.inj H
      go_enter Try.func18, Try.ntmps18
      go_wp2_with (first | ((with_reducible refine gate_callee (f := 28) rfl ?_); refine goesL_ (some 5) rfl rfl Try.func28 (by kernel_rfl) rfl #[.string (⟨#[97, 45, 49, 50, 98]⟩ : ByteArray), .int .i64 1] rfl (by (try simp only [List.map_toArray, List.map_cons, List.map_nil]); first | done | rfl | (simp only [List.length_drop, List.length_take]; rfl)) ?_; (with_reducible refine (num_Scan.calls k (⟨#[97, 45, 49, 50, 98]⟩ : ByteArray) 1 t139 t140 t141 _ A1.out).mono ?_); rintro e w' ⟨rfl, ⟨nd, rfl⟩⟩; refine ⟨_, rfl, ?_⟩))
      go_ret
      exact ⟨by first | rfl | (simp; done) | (simp [*]; done), by repeat (first | exact Drawn0.refl _ | apply Drawn0.step)⟩
    · rw [if_neg c3] at H
      have c3b0 : (t140 == 4) = false := beq_eq_false_iff_ne.mpr c3
      have c3b1 : (t140 != 4) = true := bne_iff_ne.mpr c3
      obtain rfl := Option.some.inj H
      go_enter Try.func18, Try.ntmps18
      go_wp2_with (first | ((with_reducible refine gate_callee (f := 28) rfl ?_); refine goesL_ (some 5) rfl rfl Try.func28 (by kernel_rfl) rfl #[.string (⟨#[97, 45, 49, 50, 98]⟩ : ByteArray), .int .i64 1] rfl (by (try simp only [List.map_toArray, List.map_cons, List.map_nil]); first | done | rfl | (simp only [List.length_drop, List.length_take]; rfl)) ?_; (with_reducible refine (num_Scan.calls k (⟨#[97, 45, 49, 50, 98]⟩ : ByteArray) 1 t139 t140 t141 _ A1.out).mono ?_); rintro e w' ⟨rfl, ⟨nd, rfl⟩⟩; refine ⟨_, rfl, ?_⟩))
      go_ret
      exact ⟨by first | rfl | (simp; done) | (simp [*]; done), by repeat (first | exact Drawn0.refl _ | apply Drawn0.step)⟩
  · rw [if_neg c2] at H
    have c2b0 : (t139 == (-12)) = false := beq_eq_false_iff_ne.mpr c2
    have c2b1 : (t139 != (-12)) = true := bne_iff_ne.mpr c2
    obtain rfl := Option.some.inj H
    go_enter Try.func18, Try.ntmps18
    go_wp2_with (first | ((with_reducible refine gate_callee (f := 28) rfl ?_); refine goesL_ (some 5) rfl rfl Try.func28 (by kernel_rfl) rfl #[.string (⟨#[97, 45, 49, 50, 98]⟩ : ByteArray), .int .i64 1] rfl (by (try simp only [List.map_toArray, List.map_cons, List.map_nil]); first | done | rfl | (simp only [List.length_drop, List.length_take]; rfl)) ?_; (with_reducible refine (num_Scan.calls k (⟨#[97, 45, 49, 50, 98]⟩ : ByteArray) 1 t139 t140 t141 _ A1.out).mono ?_); rintro e w' ⟨rfl, ⟨nd, rfl⟩⟩; refine ⟨_, rfl, ?_⟩))
    go_ret
    exact ⟨by first | rfl | (simp; done) | (simp [*]; done), by repeat (first | exact Drawn0.refl _ | apply Drawn0.step)⟩

end Go.Proofs.Ytmmofckknopaaaa.Q
