/- A function of the program or a law's row comes to what the Lean function beside it says; no condition beyond those typed. Written by a program of this workplace; Lean checks it. -/
import Derived.Test.YtmmofckknopaaaaQ0
import Derived.Test.YtmmofckknopaaaaQ40
import Derived.Test.YtmmofckknopaaaaQ42
namespace Go.Proofs.Ytmmofckknopaaaa.Q
open Go.RowKit Go.Proofs.YtmmofckknopaaaaW.PrintWords Go.Proofs.YtmmofckknopaaaaW.PrintLast Go.Proofs.YtmmofckknopaaaaW.PrintMore
attribute [local go_sem] max2_int min2_int max_two min_two max_three min_three max_four min_four   -- for this text's walks alone
set_option linter.unusedVariables false
set_option linter.unusedSimpArgs false

/-! ### punnetlaw05_awake: function 31 -/
def punnetlaw05_awake.f (k : Nat)  : Option (Bool) := (name_Split.f k (⟨#[97, 32, 34, 98, 32, 99, 34, 32, 100]⟩ : ByteArray)).bind fun t280 => (if (t280.length : Int) = 3 then (if 1 < (t280.length : Int) then (if (rdOf ByteArray.empty t280 1).toList = ([34, 98, 32, 99, 34] : List UInt8) then ((name_Name.f k (⟨#[97, 49]⟩ : ByteArray)).bind fun t284 => (if t284 = true then ((name_Name.f k (⟨#[49, 97]⟩ : ByteArray)).bind fun t285 => (some (!t285))) else (some false))) else (some false)) else (none)) else (some false))
theorem punnetlaw05_awake.mono : ∀ k, LeO (punnetlaw05_awake.f k ) (punnetlaw05_awake.f (k + 1) ) := by
  intro  k
  unfold punnetlaw05_awake.f
  repeat' first
      | (with_reducible exact name_Name.mono _ _)
      | (with_reducible exact name_Split.mono _ _)
      | (with_reducible exact LeO.refl _)
      | (with_reducible exact LeO.none _)
      | (with_reducible refine LeO.ite ?_ ?_)
      | (with_reducible refine LeO.bind ?_ (fun _ => ?_))
      | exact name_Name.mono _ _
      | exact name_Split.mono _ _
      | exact LeO.none _
      | refine LeO.ite ?_ ?_
      | refine LeO.bind ?_ (fun _ => ?_)
set_option maxHeartbeats 8000000 in
set_option maxRecDepth 100000 in
theorem punnetlaw05_awake.calls (k : Nat)  (r : Bool) (w : World) (h : punnetlaw05_awake.f k  = some r) :
    Calls Try.prog 31 #[] w fun e w' => e = .returned (.bool r) ∧ Below w.heap.size w w' := by
  have HB := Aside0.mk (Below.refl w.heap.size w)
  have H : ((name_Split.f k (⟨#[97, 32, 34, 98, 32, 99, 34, 32, 100]⟩ : ByteArray)).bind fun t280 => (if (t280.length : Int) = 3 then (if 1 < (t280.length : Int) then (if (rdOf ByteArray.empty t280 1).toList = ([34, 98, 32, 99, 34] : List UInt8) then ((name_Name.f k (⟨#[97, 49]⟩ : ByteArray)).bind fun t284 => (if t284 = true then ((name_Name.f k (⟨#[49, 97]⟩ : ByteArray)).bind fun t285 => (some (!t285))) else (some false))) else (some false)) else (none)) else (some false))) = some r := h
  clear h
  replace H := Option.bind_eq_some_iff.mp H
  obtain ⟨t280, A10, H⟩ := H
  replace H : (if (t280.length : Int) = 3 then (if 1 < (t280.length : Int) then (if (rdOf ByteArray.empty t280 1).toList = ([34, 98, 32, 99, 34] : List UInt8) then ((name_Name.f k (⟨#[97, 49]⟩ : ByteArray)).bind fun t284 => (if t284 = true then ((name_Name.f k (⟨#[49, 97]⟩ : ByteArray)).bind fun t285 => (some (!t285))) else (some false))) else (some false)) else (none)) else (some false)) = some r := H
  have A1 := Aside0.mk A10
  clear A10
  by_cases c2 : (t280.length : Int) = 3
  · rw [if_pos c2] at H
    have c2b0 : ((t280.length : Int) == 3) = true := beq_iff_eq.mpr c2
    have c2b1 : ((t280.length : Int) != 3) = false := bne_eq_false_iff_eq.mpr c2
    clear c2
    by_cases c3 : 1 < (t280.length : Int)
    · rw [if_pos c3] at H
      have c3b0 : decide (1 < (t280.length : Int)) = true := decide_eq_true c3
      have c3b1 : decide (1 < t280.length) = true := decide_eq_true (by omega)
      clear c3
      by_cases c4 : (rdOf ByteArray.empty t280 1).toList = ([34, 98, 32, 99, 34] : List UInt8)
      · rw [if_pos c4] at H
        have c4b0 : ((rdOf ByteArray.empty t280 1).toList == ([34, 98, 32, 99, 34] : List UInt8)) = true := beq_iff_eq.mpr c4
        have c4b1 : ((rdOf ByteArray.empty t280 1).toList != ([34, 98, 32, 99, 34] : List UInt8)) = false := bne_eq_false_iff_eq.mpr c4
        clear c4
        replace H := Option.bind_eq_some_iff.mp H
        obtain ⟨t284, A50, H⟩ := H
        replace H : (if t284 = true then ((name_Name.f k (⟨#[49, 97]⟩ : ByteArray)).bind fun t285 => (some (!t285))) else (some false)) = some r := H
        have A5 := Aside0.mk A50
        clear A50
        by_cases c6 : t284 = true
        · subst c6
          have H1 : ((name_Name.f k (⟨#[49, 97]⟩ : ByteArray)).bind fun t285 => (some (!t285))) = some r := by rw [if_pos rfl] at H; exact H
          clear H
          have H := H1
          clear H1
          replace H := Option.bind_eq_some_iff.mp H
          obtain ⟨t285, A70, H⟩ := H
          replace H : (some (!t285)) = some r := H
          have A7 := Aside0.mk A70
          clear A70
          obtain rfl := Option.some.inj H
          go_enter Try.func31, Try.ntmps31
          go_wp2_with (first | ((with_reducible refine gate_callee (f := 32) rfl ?_); refine goesL_ (some 2) rfl rfl Try.func32 (by kernel_rfl) rfl #[.string (⟨#[97, 32, 34, 98, 32, 99, 34, 32, 100]⟩ : ByteArray)] rfl (by (try simp only [List.map_toArray, List.map_cons, List.map_nil]); first | done | rfl | (simp only [List.length_drop, List.length_take]; rfl)) ?_; (with_reducible refine (name_Split.calls k (⟨#[97, 32, 34, 98, 32, 99, 34, 32, 100]⟩ : ByteArray) t280 _ A1.out).mono ?_); rintro e w8 ⟨v281, rfl, ho0, hb⟩; refine ⟨_, rfl, ?_⟩; have n0_ := Aside0.mk (Kd.R_lower ho0 (below_size (by repeat (first | (with_reducible first | exact HB.out | apply below_alloc | apply pw_below_drewN | apply below_drew1) | exact HB.out)))); have n1_ := Aside0.mk (below_step (by repeat (first | (with_reducible first | exact HB.out | apply below_alloc | apply pw_below_drewN | apply below_drew1) | exact HB.out)) hb); clear HB; have HO282 := n0_; have HB := n1_; clear n0_ n1_; (try clear hb); (try clear hb2); (try clear hk); (try clear hi); (try clear ho0); obtain ⟨Ao9, co9, eo9⟩ := Kd.R_slice HO282.out; subst eo9; have p283 : 0 ≤ (1 : Int) := (by omega); have q283 : 1 < (t280.length : Int) := of_decide_eq_true (by first | (with_reducible assumption) | assumption); obtain ⟨ad283, e283, hx283_0⟩ := Kd.at_string (Kd.R_reads' HO282.out).2.2 1 p283 q283; cases e283; (try simp only [show (1 : Int).toNat = 1 from rfl, Nat.reduceMul, Nat.reduceEqDiff, Go.Addr.add, ↓reduceIte] at hx283_0); have qi283 : (1 < t280.length) = True := eq_true (by omega); (try rw [show ((1 : Int)).toNat = 1 from rfl] at hx283_0); replace p283 := eq_true p283; replace q283 := eq_true q283) | (go_at_call 38; (with_reducible refine (name_Name.calls k (⟨#[97, 49]⟩ : ByteArray) true _ A5.out).mono ?_); rintro e w' ⟨rfl, ⟨nd, rfl⟩⟩) | (go_at_call 38; (with_reducible refine (name_Name.calls k (⟨#[49, 97]⟩ : ByteArray) t285 _ A7.out).mono ?_); rintro e w' ⟨rfl, ⟨nd, rfl⟩⟩))
          go_ret
          exact ⟨by first | rfl | (simp [errW_none, errW_some] <;> rfl) | (simp [*, errW_none, errW_some] <;> rfl), by repeat (first | (with_reducible first | exact HB.out | apply below_alloc | apply pw_below_drewN | apply below_drew1) | exact HB.out)⟩
        · replace c6 := Bool.eq_false_iff.mpr c6
          subst c6
          have H1 : (some false) = some r := by rw [if_neg (show ¬ (false = true) by decide)] at H; exact H
          clear H
          have H := H1
          clear H1
          obtain rfl := Option.some.inj H
          go_enter Try.func31, Try.ntmps31
          go_wp2_with (first | ((with_reducible refine gate_callee (f := 32) rfl ?_); refine goesL_ (some 2) rfl rfl Try.func32 (by kernel_rfl) rfl #[.string (⟨#[97, 32, 34, 98, 32, 99, 34, 32, 100]⟩ : ByteArray)] rfl (by (try simp only [List.map_toArray, List.map_cons, List.map_nil]); first | done | rfl | (simp only [List.length_drop, List.length_take]; rfl)) ?_; (with_reducible refine (name_Split.calls k (⟨#[97, 32, 34, 98, 32, 99, 34, 32, 100]⟩ : ByteArray) t280 _ A1.out).mono ?_); rintro e w10 ⟨v281, rfl, ho0, hb⟩; refine ⟨_, rfl, ?_⟩; have n0_ := Aside0.mk (Kd.R_lower ho0 (below_size (by repeat (first | (with_reducible first | exact HB.out | apply below_alloc | apply pw_below_drewN | apply below_drew1) | exact HB.out)))); have n1_ := Aside0.mk (below_step (by repeat (first | (with_reducible first | exact HB.out | apply below_alloc | apply pw_below_drewN | apply below_drew1) | exact HB.out)) hb); clear HB; have HO282 := n0_; have HB := n1_; clear n0_ n1_; (try clear hb); (try clear hb2); (try clear hk); (try clear hi); (try clear ho0); obtain ⟨Ao11, co11, eo11⟩ := Kd.R_slice HO282.out; subst eo11; have p283 : 0 ≤ (1 : Int) := (by omega); have q283 : 1 < (t280.length : Int) := of_decide_eq_true (by first | (with_reducible assumption) | assumption); obtain ⟨ad283, e283, hx283_0⟩ := Kd.at_string (Kd.R_reads' HO282.out).2.2 1 p283 q283; cases e283; (try simp only [show (1 : Int).toNat = 1 from rfl, Nat.reduceMul, Nat.reduceEqDiff, Go.Addr.add, ↓reduceIte] at hx283_0); have qi283 : (1 < t280.length) = True := eq_true (by omega); (try rw [show ((1 : Int)).toNat = 1 from rfl] at hx283_0); replace p283 := eq_true p283; replace q283 := eq_true q283) | (go_at_call 38; (with_reducible refine (name_Name.calls k (⟨#[97, 49]⟩ : ByteArray) false _ A5.out).mono ?_); rintro e w' ⟨rfl, ⟨nd, rfl⟩⟩))
          go_ret
          exact ⟨by first | rfl | (simp [errW_none, errW_some] <;> rfl) | (simp [*, errW_none, errW_some] <;> rfl), by repeat (first | (with_reducible first | exact HB.out | apply below_alloc | apply pw_below_drewN | apply below_drew1) | exact HB.out)⟩
      · rw [if_neg c4] at H
        have c4b0 : ((rdOf ByteArray.empty t280 1).toList == ([34, 98, 32, 99, 34] : List UInt8)) = false := beq_eq_false_iff_ne.mpr c4
        have c4b1 : ((rdOf ByteArray.empty t280 1).toList != ([34, 98, 32, 99, 34] : List UInt8)) = true := bne_iff_ne.mpr c4
        obtain rfl := Option.some.inj H
        go_enter Try.func31, Try.ntmps31
        go_wp2_with (first | ((with_reducible refine gate_callee (f := 32) rfl ?_); refine goesL_ (some 2) rfl rfl Try.func32 (by kernel_rfl) rfl #[.string (⟨#[97, 32, 34, 98, 32, 99, 34, 32, 100]⟩ : ByteArray)] rfl (by (try simp only [List.map_toArray, List.map_cons, List.map_nil]); first | done | rfl | (simp only [List.length_drop, List.length_take]; rfl)) ?_; (with_reducible refine (name_Split.calls k (⟨#[97, 32, 34, 98, 32, 99, 34, 32, 100]⟩ : ByteArray) t280 _ A1.out).mono ?_); rintro e w12 ⟨v281, rfl, ho0, hb⟩; refine ⟨_, rfl, ?_⟩; have n0_ := Aside0.mk (Kd.R_lower ho0 (below_size (by repeat (first | (with_reducible first | exact HB.out | apply below_alloc | apply pw_below_drewN | apply below_drew1) | exact HB.out)))); have n1_ := Aside0.mk (below_step (by repeat (first | (with_reducible first | exact HB.out | apply below_alloc | apply pw_below_drewN | apply below_drew1) | exact HB.out)) hb); clear HB; have HO282 := n0_; have HB := n1_; clear n0_ n1_; (try clear hb); (try clear hb2); (try clear hk); (try clear hi); (try clear ho0); obtain ⟨Ao13, co13, eo13⟩ := Kd.R_slice HO282.out; subst eo13; have p283 : 0 ≤ (1 : Int) := (by omega); have q283 : 1 < (t280.length : Int) := of_decide_eq_true (by first | (with_reducible assumption) | assumption); obtain ⟨ad283, e283, hx283_0⟩ := Kd.at_string (Kd.R_reads' HO282.out).2.2 1 p283 q283; cases e283; (try simp only [show (1 : Int).toNat = 1 from rfl, Nat.reduceMul, Nat.reduceEqDiff, Go.Addr.add, ↓reduceIte] at hx283_0); have qi283 : (1 < t280.length) = True := eq_true (by omega); (try rw [show ((1 : Int)).toNat = 1 from rfl] at hx283_0); replace p283 := eq_true p283; replace q283 := eq_true q283))
        go_ret
        exact ⟨by first | rfl | (simp [errW_none, errW_some] <;> rfl) | (simp [*, errW_none, errW_some] <;> rfl), by repeat (first | (with_reducible first | exact HB.out | apply below_alloc | apply pw_below_drewN | apply below_drew1) | exact HB.out)⟩
    · rw [if_neg c3] at H
      exact absurd H (by simp)
  · rw [if_neg c2] at H
    have c2b0 : ((t280.length : Int) == 3) = false := beq_eq_false_iff_ne.mpr c2
    have c2b1 : ((t280.length : Int) != 3) = true := bne_iff_ne.mpr c2
    obtain rfl := Option.some.inj H
    go_enter Try.func31, Try.ntmps31
    go_wp2_with (first | ((with_reducible refine gate_callee (f := 32) rfl ?_); refine goesL_ (some 2) rfl rfl Try.func32 (by kernel_rfl) rfl #[.string (⟨#[97, 32, 34, 98, 32, 99, 34, 32, 100]⟩ : ByteArray)] rfl (by (try simp only [List.map_toArray, List.map_cons, List.map_nil]); first | done | rfl | (simp only [List.length_drop, List.length_take]; rfl)) ?_; (with_reducible refine (name_Split.calls k (⟨#[97, 32, 34, 98, 32, 99, 34, 32, 100]⟩ : ByteArray) t280 _ A1.out).mono ?_); rintro e w14 ⟨v281, rfl, ho0, hb⟩; refine ⟨_, rfl, ?_⟩; have n0_ := Aside0.mk (Kd.R_lower ho0 (below_size (by repeat (first | (with_reducible first | exact HB.out | apply below_alloc | apply pw_below_drewN | apply below_drew1) | exact HB.out)))); have n1_ := Aside0.mk (below_step (by repeat (first | (with_reducible first | exact HB.out | apply below_alloc | apply pw_below_drewN | apply below_drew1) | exact HB.out)) hb); clear HB; have HO282 := n0_; have HB := n1_; clear n0_ n1_; (try clear hb); (try clear hb2); (try clear hk); (try clear hi); (try clear ho0); obtain ⟨Ao15, co15, eo15⟩ := Kd.R_slice HO282.out; subst eo15))
    go_ret
    exact ⟨by first | rfl | (simp [errW_none, errW_some] <;> rfl) | (simp [*, errW_none, errW_some] <;> rfl), by repeat (first | (with_reducible first | exact HB.out | apply below_alloc | apply pw_below_drewN | apply below_drew1) | exact HB.out)⟩

end Go.Proofs.Ytmmofckknopaaaa.Q
