/- A function of the program or a law's row comes to what the Lean function beside it says; no condition beyond those typed. Written by a program of this workplace; Lean checks it. -/
import Derived.Test.YtcgbcnalofecgaaQ0
import Derived.Test.YtcgbcnalofecgaaQ11
import Derived.Test.YtcgbcnalofecgaaQ17
namespace Go.Proofs.Ytcgbcnalofecgaa.Q
open Go.RowKit Go.Proofs.YtcgbcnalofecgaaW.PrintWords Go.Proofs.YtcgbcnalofecgaaW.PrintLast Go.Proofs.YtcgbcnalofecgaaW.PrintMore
attribute [local go_sem] max2_int min2_int max_two min_two max_three min_three max_four min_four   -- for this text's walks alone
set_option linter.unusedVariables false
set_option linter.unusedSimpArgs false

/-! ### punnetlaw07_awake: function 19 -/
def punnetlaw07_awake.f (k : Nat)  : Option (Bool) := (punnetref06_Made.f).bind fun t166 => ((frame_Put.f k ([] : List Int) t166 ([] : List Int)).bind fun bt167 => (if (strOfNums bt167.1).toList = ([0, 0, 0, 0, 28, 223, 68, 33] : List UInt8) then (some (bt167.2 == 0)) else (some false)))
theorem punnetlaw07_awake.mono : ∀ k, LeO (punnetlaw07_awake.f k ) (punnetlaw07_awake.f (k + 1) ) := by
  intro  k
  unfold punnetlaw07_awake.f
  repeat' first
      | (with_reducible exact frame_Put.mono _ _ _ _)
      | (with_reducible exact LeO.refl _)
      | (with_reducible exact LeO.none _)
      | (with_reducible refine LeO.ite ?_ ?_)
      | (with_reducible refine LeO.bind ?_ (fun _ => ?_))
      | exact frame_Put.mono _ _ _ _
      | exact LeO.none _
      | refine LeO.ite ?_ ?_
      | refine LeO.bind ?_ (fun _ => ?_)
set_option maxHeartbeats 8000000 in
set_option maxRecDepth 100000 in
theorem punnetlaw07_awake.calls (k : Nat)  (r : Bool) (w : World) (h : punnetlaw07_awake.f k  = some r) :
    Calls Try.prog 19 #[] w fun e w' => e = .returned (.bool r) ∧ Below w.heap.size w w' := by
  have HB := Aside0.mk (Below.refl w.heap.size w)
  have H : ((punnetref06_Made.f).bind fun t166 => ((frame_Put.f k ([] : List Int) t166 ([] : List Int)).bind fun bt167 => (if (strOfNums bt167.1).toList = ([0, 0, 0, 0, 28, 223, 68, 33] : List UInt8) then (some (bt167.2 == 0)) else (some false)))) = some r := h
  clear h
  replace H := Option.bind_eq_some_iff.mp H
  obtain ⟨t166, A10, H⟩ := H
  replace H : ((frame_Put.f k ([] : List Int) t166 ([] : List Int)).bind fun bt167 => (if (strOfNums bt167.1).toList = ([0, 0, 0, 0, 28, 223, 68, 33] : List UInt8) then (some (bt167.2 == 0)) else (some false))) = some r := H
  have A1 := Aside0.mk A10
  clear A10
  replace H := Option.bind_eq_some_iff.mp H
  obtain ⟨⟨t167, t170⟩, A20, H⟩ := H
  replace H : (if (strOfNums t167).toList = ([0, 0, 0, 0, 28, 223, 68, 33] : List UInt8) then (some (t170 == 0)) else (some false)) = some r := H
  have A2 := Aside0.mk A20
  clear A20
  by_cases c3 : (strOfNums t167).toList = ([0, 0, 0, 0, 28, 223, 68, 33] : List UInt8)
  · rw [if_pos c3] at H
    have c3b0 : ((strOfNums t167).toList == ([0, 0, 0, 0, 28, 223, 68, 33] : List UInt8)) = true := beq_iff_eq.mpr c3
    have c3b1 : ((strOfNums t167).toList != ([0, 0, 0, 0, 28, 223, 68, 33] : List UInt8)) = false := bne_eq_false_iff_eq.mpr c3
    clear c3
    obtain rfl := Option.some.inj H
    go_enter Try.func19, Try.ntmps19
    go_wp2_with (first | ((with_reducible refine gate_callee (f := 17) rfl ?_); refine goesL_ (some 4) rfl rfl Try.func17 (by kernel_rfl) rfl #[] rfl (by (try simp only [List.map_toArray, List.map_cons, List.map_nil]); first | done | rfl | (simp only [List.length_drop, List.length_take]; rfl)) ?_; (with_reducible refine (punnetref06_Made.calls  t166 _ A1.out).mono ?_); rintro e w4 ⟨rfl, hb⟩; refine ⟨_, rfl, ?_⟩; have n0_ := Aside0.mk (below_step (by repeat (first | (with_reducible first | exact HB.out | apply below_alloc | apply pw_below_drewN | apply below_drew1) | exact HB.out)) hb); clear HB; have HB := n0_; clear n0_; (try clear hb); (try clear hb2); (try clear hk); (try clear hi)) | ((with_reducible refine gate_callee (f := 20) rfl ?_); refine goesL_ (some 5) rfl rfl Try.func20 (by kernel_rfl) rfl #[.slice none 0 0, .agg (tabC t166), .slice none 0 0] rfl (by (try simp only [List.map_toArray, List.map_cons, List.map_nil]); first | done | rfl | (simp only [List.length_drop, List.length_take]; rfl)) ?_; (refine (frame_Put.calls k (fun k_ => some k_ = (.slice none 0 0 : Value).ownBlock) (.slice none 0 0) ([] : List Int) t166 _ _ ([] : List Int) t167 t170 w _ ?side1 ?side2 ?side3 ?side4 A2.out).mono ?_); (case side1 => repeat (first | (with_reducible first | exact HB.out | apply below_alloc | apply pw_below_drewN | apply below_drew1) | exact HB.out)); (case side2 => exact Kd.R_nil _ _ _ _ _); (case side3 => exact Kd.C_kept_nil); (case side4 => exact Nat.le_refl _); rintro e w5 ⟨v168, rfl, ho0, hb, hkp⟩; refine ⟨_, rfl, ?_⟩; have n0_ := Aside0.mk (Kd.R_mono (ok' := fun k_ => True) ho0 (fun k_ hk_ => trivial)); have n1_ := Aside0.mk (hb); clear HB; have HO169 := n0_; have HB := n1_; clear n0_ n1_; (try clear hb); (try clear hkp); (try clear ho0); have hcv6 := own_string (P := Try.prog) Try.underlying25 Try.underlying5 Try.underlying9 (Kd.own_of_R HO169.out)))
    go_ret
    exact ⟨by first | rfl | (simp [errW_none, errW_some] <;> rfl) | (simp [*, errW_none, errW_some] <;> rfl), by repeat (first | (with_reducible first | exact HB.out | apply below_alloc | apply pw_below_drewN | apply below_drew1) | exact HB.out)⟩
  · rw [if_neg c3] at H
    have c3b0 : ((strOfNums t167).toList == ([0, 0, 0, 0, 28, 223, 68, 33] : List UInt8)) = false := beq_eq_false_iff_ne.mpr c3
    have c3b1 : ((strOfNums t167).toList != ([0, 0, 0, 0, 28, 223, 68, 33] : List UInt8)) = true := bne_iff_ne.mpr c3
    obtain rfl := Option.some.inj H
    go_enter Try.func19, Try.ntmps19
    go_wp2_with (first | ((with_reducible refine gate_callee (f := 17) rfl ?_); refine goesL_ (some 4) rfl rfl Try.func17 (by kernel_rfl) rfl #[] rfl (by (try simp only [List.map_toArray, List.map_cons, List.map_nil]); first | done | rfl | (simp only [List.length_drop, List.length_take]; rfl)) ?_; (with_reducible refine (punnetref06_Made.calls  t166 _ A1.out).mono ?_); rintro e w7 ⟨rfl, hb⟩; refine ⟨_, rfl, ?_⟩; have n0_ := Aside0.mk (below_step (by repeat (first | (with_reducible first | exact HB.out | apply below_alloc | apply pw_below_drewN | apply below_drew1) | exact HB.out)) hb); clear HB; have HB := n0_; clear n0_; (try clear hb); (try clear hb2); (try clear hk); (try clear hi)) | ((with_reducible refine gate_callee (f := 20) rfl ?_); refine goesL_ (some 5) rfl rfl Try.func20 (by kernel_rfl) rfl #[.slice none 0 0, .agg (tabC t166), .slice none 0 0] rfl (by (try simp only [List.map_toArray, List.map_cons, List.map_nil]); first | done | rfl | (simp only [List.length_drop, List.length_take]; rfl)) ?_; (refine (frame_Put.calls k (fun k_ => some k_ = (.slice none 0 0 : Value).ownBlock) (.slice none 0 0) ([] : List Int) t166 _ _ ([] : List Int) t167 t170 w _ ?side1 ?side2 ?side3 ?side4 A2.out).mono ?_); (case side1 => repeat (first | (with_reducible first | exact HB.out | apply below_alloc | apply pw_below_drewN | apply below_drew1) | exact HB.out)); (case side2 => exact Kd.R_nil _ _ _ _ _); (case side3 => exact Kd.C_kept_nil); (case side4 => exact Nat.le_refl _); rintro e w8 ⟨v168, rfl, ho0, hb, hkp⟩; refine ⟨_, rfl, ?_⟩; have n0_ := Aside0.mk (Kd.R_mono (ok' := fun k_ => True) ho0 (fun k_ hk_ => trivial)); have n1_ := Aside0.mk (hb); clear HB; have HO169 := n0_; have HB := n1_; clear n0_ n1_; (try clear hb); (try clear hkp); (try clear ho0); have hcv9 := own_string (P := Try.prog) Try.underlying25 Try.underlying5 Try.underlying9 (Kd.own_of_R HO169.out)))
    go_ret
    exact ⟨by first | rfl | (simp [errW_none, errW_some] <;> rfl) | (simp [*, errW_none, errW_some] <;> rfl), by repeat (first | (with_reducible first | exact HB.out | apply below_alloc | apply pw_below_drewN | apply below_drew1) | exact HB.out)⟩

end Go.Proofs.Ytcgbcnalofecgaa.Q
