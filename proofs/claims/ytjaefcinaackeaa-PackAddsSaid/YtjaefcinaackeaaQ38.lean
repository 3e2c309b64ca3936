/- A function of the program or a law's row comes to what the Lean function beside it says; no condition beyond those typed. Written by a program of this workplace; Lean checks it. -/
import Derived.Test.YtjaefcinaackeaaQ0
import Derived.Test.YtjaefcinaackeaaQ18
import Derived.Test.YtjaefcinaackeaaQ36
import Derived.Test.YtjaefcinaackeaaQ37
namespace Go.Proofs.Ytjaefcinaackeaa.Q
open Go.RowKit Go.Proofs.YtjaefcinaackeaaW.PrintWords Go.Proofs.YtjaefcinaackeaaW.PrintLast Go.Proofs.YtjaefcinaackeaaW.PrintMore
attribute [local go_sem] max2_int min2_int max_two min_two max_three min_three max_four min_four   -- for this text's walks alone
set_option linter.unusedVariables false
set_option linter.unusedSimpArgs false

/-! ### pack_Join: function 30 -/
def pack_Join.f (a0 : (Nat × Nat)) (a1 : Int) : Option (Int × Int) := (plane_Parts.f a0).bind fun bt231 => ((pack_Factor.f a1).bind fun t234 => (if t234 = true then (if bt231.2.2 = 0 then ((pack_far.f (wrap64 (bt231.2.1 * a1))).bind fun t235 => (if t235 = true then (some (0, 3)) else (if cmulOk a0.1 a0.2 4607182418800017408 (Go.Op.negFloat .f64 (Go.floatOfInt .f64 a1)) = true then (if f2iOk (cmulR a0.1 a0.2 4607182418800017408 (Go.Op.negFloat .f64 (Go.floatOfInt .f64 a1))) = true then ((pack_far.f (f2i (cmulR a0.1 a0.2 4607182418800017408 (Go.Op.negFloat .f64 (Go.floatOfInt .f64 a1))))).bind fun t236 => (if t236 = true then (some (0, 3)) else (some (f2i (cmulR a0.1 a0.2 4607182418800017408 (Go.Op.negFloat .f64 (Go.floatOfInt .f64 a1))), 0)))) else (none)) else (none)))) else (some (0, bt231.2.2))) else (some (0, 2))))
set_option maxHeartbeats 8000000 in
set_option maxRecDepth 100000 in
theorem pack_Join.calls (a0 : (Nat × Nat)) (a1 : Int) (r1 : Int) (r2 : Int) (w : World) (h : pack_Join.f a0 a1 = some (r1, r2)) :
    Calls Try.prog 30 #[.complex .f64 a0.1 a0.2, .int .i64 a1] w fun e w' => e = .returned (.tuple #[.int .i64 r1, .int .i64 r2]) ∧ Below w.heap.size w w' := by
  have hif2 := fun (q_ : IntKind) (n_ : Int) (W_ : World) => run_convert_int_float (P := Try.prog) W_ 2 22 q_ .f64 n_ (by kernel_rfl) Try.underlying22
  have hngf : ∀ (b_ : Nat) (W_ : World), (Go.Op.unary UnOp.neg (Value.float .f64 b_)).run Try.prog W_ = .ok (.float .f64 (Go.Op.negFloat .f64 b_)) W_ := fun _ _ => rfl
  have hcmul23 := fun (a_ b_ c_ d_ : Nat) (W_ : World) => run_cmul (P := Try.prog) W_ 23 a_ b_ c_ d_
  have hfi2 := fun (b_ : Nat) (W_ : World) => run_f2i (P := Try.prog) W_ 22 2 b_ (by kernel_rfl) Try.underlying2
  have HB := Aside0.mk (Below.refl w.heap.size w)
  have H : ((plane_Parts.f a0).bind fun bt231 => ((pack_Factor.f a1).bind fun t234 => (if t234 = true then (if bt231.2.2 = 0 then ((pack_far.f (wrap64 (bt231.2.1 * a1))).bind fun t235 => (if t235 = true then (some (0, 3)) else (if cmulOk a0.1 a0.2 4607182418800017408 (Go.Op.negFloat .f64 (Go.floatOfInt .f64 a1)) = true then (if f2iOk (cmulR a0.1 a0.2 4607182418800017408 (Go.Op.negFloat .f64 (Go.floatOfInt .f64 a1))) = true then ((pack_far.f (f2i (cmulR a0.1 a0.2 4607182418800017408 (Go.Op.negFloat .f64 (Go.floatOfInt .f64 a1))))).bind fun t236 => (if t236 = true then (some (0, 3)) else (some (f2i (cmulR a0.1 a0.2 4607182418800017408 (Go.Op.negFloat .f64 (Go.floatOfInt .f64 a1))), 0)))) else (none)) else (none)))) else (some (0, bt231.2.2))) else (some (0, 2))))) = some (r1, r2) := h
  clear h
  replace H := Option.bind_eq_some_iff.mp H
  obtain ⟨⟨t231, t232, t233⟩, A30, H⟩ := H
  replace H : ((pack_Factor.f a1).bind fun t234 => (if t234 = true then (if t233 = 0 then ((pack_far.f (wrap64 (t232 * a1))).bind fun t235 => (if t235 = true then (some (0, 3)) else (if cmulOk a0.1 a0.2 4607182418800017408 (Go.Op.negFloat .f64 (Go.floatOfInt .f64 a1)) = true then (if f2iOk (cmulR a0.1 a0.2 4607182418800017408 (Go.Op.negFloat .f64 (Go.floatOfInt .f64 a1))) = true then ((pack_far.f (f2i (cmulR a0.1 a0.2 4607182418800017408 (Go.Op.negFloat .f64 (Go.floatOfInt .f64 a1))))).bind fun t236 => (if t236 = true then (some (0, 3)) else (some (f2i (cmulR a0.1 a0.2 4607182418800017408 (Go.Op.negFloat .f64 (Go.floatOfInt .f64 a1))), 0)))) else (none)) else (none)))) else (some (0, t233))) else (some (0, 2)))) = some (r1, r2) := H
  have A3 := Aside0.mk A30
  clear A30
  replace H := Option.bind_eq_some_iff.mp H
  obtain ⟨t234, A40, H⟩ := H
  replace H : (if t234 = true then (if t233 = 0 then ((pack_far.f (wrap64 (t232 * a1))).bind fun t235 => (if t235 = true then (some (0, 3)) else (if cmulOk a0.1 a0.2 4607182418800017408 (Go.Op.negFloat .f64 (Go.floatOfInt .f64 a1)) = true then (if f2iOk (cmulR a0.1 a0.2 4607182418800017408 (Go.Op.negFloat .f64 (Go.floatOfInt .f64 a1))) = true then ((pack_far.f (f2i (cmulR a0.1 a0.2 4607182418800017408 (Go.Op.negFloat .f64 (Go.floatOfInt .f64 a1))))).bind fun t236 => (if t236 = true then (some (0, 3)) else (some (f2i (cmulR a0.1 a0.2 4607182418800017408 (Go.Op.negFloat .f64 (Go.floatOfInt .f64 a1))), 0)))) else (none)) else (none)))) else (some (0, t233))) else (some (0, 2))) = some (r1, r2) := H
  have A4 := Aside0.mk A40
  clear A40
  by_cases c5 : t234 = true
  · subst c5
    have H1 : (if t233 = 0 then ((pack_far.f (wrap64 (t232 * a1))).bind fun t235 => (if t235 = true then (some (0, 3)) else (if cmulOk a0.1 a0.2 4607182418800017408 (Go.Op.negFloat .f64 (Go.floatOfInt .f64 a1)) = true then (if f2iOk (cmulR a0.1 a0.2 4607182418800017408 (Go.Op.negFloat .f64 (Go.floatOfInt .f64 a1))) = true then ((pack_far.f (f2i (cmulR a0.1 a0.2 4607182418800017408 (Go.Op.negFloat .f64 (Go.floatOfInt .f64 a1))))).bind fun t236 => (if t236 = true then (some (0, 3)) else (some (f2i (cmulR a0.1 a0.2 4607182418800017408 (Go.Op.negFloat .f64 (Go.floatOfInt .f64 a1))), 0)))) else (none)) else (none)))) else (some (0, t233))) = some (r1, r2) := by rw [if_pos rfl] at H; exact H
    clear H
    have H := H1
    clear H1
    by_cases c6 : t233 = 0
    · rw [if_pos c6] at H
      have c6b0 : (t233 == 0) = true := beq_iff_eq.mpr c6
      have c6b1 : (t233 != 0) = false := bne_eq_false_iff_eq.mpr c6
      clear c6
      replace H := Option.bind_eq_some_iff.mp H
      obtain ⟨t235, A70, H⟩ := H
      replace H : (if t235 = true then (some (0, 3)) else (if cmulOk a0.1 a0.2 4607182418800017408 (Go.Op.negFloat .f64 (Go.floatOfInt .f64 a1)) = true then (if f2iOk (cmulR a0.1 a0.2 4607182418800017408 (Go.Op.negFloat .f64 (Go.floatOfInt .f64 a1))) = true then ((pack_far.f (f2i (cmulR a0.1 a0.2 4607182418800017408 (Go.Op.negFloat .f64 (Go.floatOfInt .f64 a1))))).bind fun t236 => (if t236 = true then (some (0, 3)) else (some (f2i (cmulR a0.1 a0.2 4607182418800017408 (Go.Op.negFloat .f64 (Go.floatOfInt .f64 a1))), 0)))) else (none)) else (none))) = some (r1, r2) := H
      have A7 := Aside0.mk A70
      clear A70
      by_cases c8 : t235 = true
      · subst c8
        have H1 : (some (0, 3)) = some (r1, r2) := by rw [if_pos rfl] at H; exact H
        clear H
        have H := H1
        clear H1
        simp only [Option.some.injEq, Prod.mk.injEq] at H
        obtain ⟨rfl, rfl⟩ := H
        go_enter Try.func30, Try.ntmps30
        go_wp2_with (first | ((with_reducible refine gate_callee (f := 14) rfl ?_); refine goesL_ (some 12) rfl rfl Try.func14 (by kernel_rfl) rfl #[.complex .f64 a0.1 a0.2] rfl (by (try simp only [List.map_toArray, List.map_cons, List.map_nil]); first | done | rfl | (simp only [List.length_drop, List.length_take]; rfl)) ?_; (with_reducible refine (plane_Parts.calls a0 t231 t232 t233 _ A3.out).mono ?_); rintro e w9 ⟨rfl, hb⟩; refine ⟨_, rfl, ?_⟩; have n0_ := Aside0.mk (below_step (by repeat (first | (with_reducible first | exact HB.out | apply below_alloc | apply pw_below_drewN | apply below_drew1) | exact HB.out)) hb); clear HB; have HB := n0_; clear n0_; (try clear hb); (try clear hb2); (try clear hk); (try clear hi)) | ((with_reducible refine gate_callee (f := 33) rfl ?_); refine goesL_ (some 18) rfl rfl Try.func33 (by kernel_rfl) rfl #[.int .i64 a1] rfl (by (try simp only [List.map_toArray, List.map_cons, List.map_nil]); first | done | rfl | (simp only [List.length_drop, List.length_take]; rfl)) ?_; (with_reducible refine (pack_Factor.calls a1 true _ A4.out).mono ?_); rintro e w' ⟨rfl, ⟨nd, rfl⟩⟩; refine ⟨_, rfl, ?_⟩) | ((with_reducible refine gate_callee (f := 45) rfl ?_); refine goesL_ (some 28) rfl rfl Try.func45 (by kernel_rfl) rfl #[.int .i64 (wrap64 (t232 * a1))] rfl (by (try simp only [List.map_toArray, List.map_cons, List.map_nil]); first | done | rfl | (simp only [List.length_drop, List.length_take]; rfl)) ?_; (with_reducible refine (pack_far.calls (wrap64 (t232 * a1)) true _ A7.out).mono ?_); rintro e w' ⟨rfl, ⟨nd, rfl⟩⟩; refine ⟨_, rfl, ?_⟩))
        go_ret2
        exact ⟨by first | rfl | (simp [errW_none, errW_some] <;> rfl) | (simp [*, errW_none, errW_some] <;> rfl), by repeat (first | (with_reducible first | exact HB.out | apply below_alloc | apply pw_below_drewN | apply below_drew1) | exact HB.out)⟩
      · replace c8 := Bool.eq_false_iff.mpr c8
        subst c8
        have H1 : (if cmulOk a0.1 a0.2 4607182418800017408 (Go.Op.negFloat .f64 (Go.floatOfInt .f64 a1)) = true then (if f2iOk (cmulR a0.1 a0.2 4607182418800017408 (Go.Op.negFloat .f64 (Go.floatOfInt .f64 a1))) = true then ((pack_far.f (f2i (cmulR a0.1 a0.2 4607182418800017408 (Go.Op.negFloat .f64 (Go.floatOfInt .f64 a1))))).bind fun t236 => (if t236 = true then (some (0, 3)) else (some (f2i (cmulR a0.1 a0.2 4607182418800017408 (Go.Op.negFloat .f64 (Go.floatOfInt .f64 a1))), 0)))) else (none)) else (none)) = some (r1, r2) := by rw [if_neg (show ¬ (false = true) by decide)] at H; exact H
        clear H
        have H := H1
        clear H1
        by_cases c10 : cmulOk a0.1 a0.2 4607182418800017408 (Go.Op.negFloat .f64 (Go.floatOfInt .f64 a1)) = true
        · rw [if_pos c10] at H
          have c10b0 : cmulOk a0.1 a0.2 4607182418800017408 (Go.Op.negFloat .f64 (Go.floatOfInt .f64 a1)) = true := c10
          clear c10
          by_cases c11 : f2iOk (cmulR a0.1 a0.2 4607182418800017408 (Go.Op.negFloat .f64 (Go.floatOfInt .f64 a1))) = true
          · rw [if_pos c11] at H
            have c11b0 : f2iOk (cmulR a0.1 a0.2 4607182418800017408 (Go.Op.negFloat .f64 (Go.floatOfInt .f64 a1))) = true := c11
            clear c11
            replace H := Option.bind_eq_some_iff.mp H
            obtain ⟨t236, A120, H⟩ := H
            replace H : (if t236 = true then (some (0, 3)) else (some (f2i (cmulR a0.1 a0.2 4607182418800017408 (Go.Op.negFloat .f64 (Go.floatOfInt .f64 a1))), 0))) = some (r1, r2) := H
            have A12 := Aside0.mk A120
            clear A120
            by_cases c13 : t236 = true
            · subst c13
              have H1 : (some (0, 3)) = some (r1, r2) := by rw [if_pos rfl] at H; exact H
              clear H
              have H := H1
              clear H1
              simp only [Option.some.injEq, Prod.mk.injEq] at H
              obtain ⟨rfl, rfl⟩ := H
              go_enter Try.func30, Try.ntmps30
              go_wp2_with (first | ((with_reducible refine gate_callee (f := 14) rfl ?_); refine goesL_ (some 12) rfl rfl Try.func14 (by kernel_rfl) rfl #[.complex .f64 a0.1 a0.2] rfl (by (try simp only [List.map_toArray, List.map_cons, List.map_nil]); first | done | rfl | (simp only [List.length_drop, List.length_take]; rfl)) ?_; (with_reducible refine (plane_Parts.calls a0 t231 t232 t233 _ A3.out).mono ?_); rintro e w14 ⟨rfl, hb⟩; refine ⟨_, rfl, ?_⟩; have n0_ := Aside0.mk (below_step (by repeat (first | (with_reducible first | exact HB.out | apply below_alloc | apply pw_below_drewN | apply below_drew1) | exact HB.out)) hb); clear HB; have HB := n0_; clear n0_; (try clear hb); (try clear hb2); (try clear hk); (try clear hi)) | ((with_reducible refine gate_callee (f := 33) rfl ?_); refine goesL_ (some 18) rfl rfl Try.func33 (by kernel_rfl) rfl #[.int .i64 a1] rfl (by (try simp only [List.map_toArray, List.map_cons, List.map_nil]); first | done | rfl | (simp only [List.length_drop, List.length_take]; rfl)) ?_; (with_reducible refine (pack_Factor.calls a1 true _ A4.out).mono ?_); rintro e w' ⟨rfl, ⟨nd, rfl⟩⟩; refine ⟨_, rfl, ?_⟩) | ((with_reducible refine gate_callee (f := 45) rfl ?_); refine goesL_ (some 28) rfl rfl Try.func45 (by kernel_rfl) rfl #[.int .i64 (wrap64 (t232 * a1))] rfl (by (try simp only [List.map_toArray, List.map_cons, List.map_nil]); first | done | rfl | (simp only [List.length_drop, List.length_take]; rfl)) ?_; (with_reducible refine (pack_far.calls (wrap64 (t232 * a1)) false _ A7.out).mono ?_); rintro e w' ⟨rfl, ⟨nd, rfl⟩⟩; refine ⟨_, rfl, ?_⟩) | ((with_reducible refine gate_callee (f := 45) rfl ?_); refine goesL_ (some 38) rfl rfl Try.func45 (by kernel_rfl) rfl #[.int .i64 (f2i (cmulR a0.1 a0.2 4607182418800017408 (Go.Op.negFloat .f64 (Go.floatOfInt .f64 a1))))] rfl (by (try simp only [List.map_toArray, List.map_cons, List.map_nil]); first | done | rfl | (simp only [List.length_drop, List.length_take]; rfl)) ?_; (with_reducible refine (pack_far.calls (f2i (cmulR a0.1 a0.2 4607182418800017408 (Go.Op.negFloat .f64 (Go.floatOfInt .f64 a1)))) true _ A12.out).mono ?_); rintro e w' ⟨rfl, ⟨nd, rfl⟩⟩; refine ⟨_, rfl, ?_⟩))
              go_ret2
              exact ⟨by first | rfl | (simp [errW_none, errW_some] <;> rfl) | (simp [*, errW_none, errW_some] <;> rfl), by repeat (first | (with_reducible first | exact HB.out | apply below_alloc | apply pw_below_drewN | apply below_drew1) | exact HB.out)⟩
            · replace c13 := Bool.eq_false_iff.mpr c13
              subst c13
              have H1 : (some (f2i (cmulR a0.1 a0.2 4607182418800017408 (Go.Op.negFloat .f64 (Go.floatOfInt .f64 a1))), 0)) = some (r1, r2) := by rw [if_neg (show ¬ (false = true) by decide)] at H; exact H
              clear H
              have H := H1
              clear H1
              simp only [Option.some.injEq, Prod.mk.injEq] at H
              obtain ⟨rfl, rfl⟩ := H
              go_enter Try.func30, Try.ntmps30
              go_wp2_with (first | ((with_reducible refine gate_callee (f := 14) rfl ?_); refine goesL_ (some 12) rfl rfl Try.func14 (by kernel_rfl) rfl #[.complex .f64 a0.1 a0.2] rfl (by (try simp only [List.map_toArray, List.map_cons, List.map_nil]); first | done | rfl | (simp only [List.length_drop, List.length_take]; rfl)) ?_; (with_reducible refine (plane_Parts.calls a0 t231 t232 t233 _ A3.out).mono ?_); rintro e w15 ⟨rfl, hb⟩; refine ⟨_, rfl, ?_⟩; have n0_ := Aside0.mk (below_step (by repeat (first | (with_reducible first | exact HB.out | apply below_alloc | apply pw_below_drewN | apply below_drew1) | exact HB.out)) hb); clear HB; have HB := n0_; clear n0_; (try clear hb); (try clear hb2); (try clear hk); (try clear hi)) | ((with_reducible refine gate_callee (f := 33) rfl ?_); refine goesL_ (some 18) rfl rfl Try.func33 (by kernel_rfl) rfl #[.int .i64 a1] rfl (by (try simp only [List.map_toArray, List.map_cons, List.map_nil]); first | done | rfl | (simp only [List.length_drop, List.length_take]; rfl)) ?_; (with_reducible refine (pack_Factor.calls a1 true _ A4.out).mono ?_); rintro e w' ⟨rfl, ⟨nd, rfl⟩⟩; refine ⟨_, rfl, ?_⟩) | ((with_reducible refine gate_callee (f := 45) rfl ?_); refine goesL_ (some 28) rfl rfl Try.func45 (by kernel_rfl) rfl #[.int .i64 (wrap64 (t232 * a1))] rfl (by (try simp only [List.map_toArray, List.map_cons, List.map_nil]); first | done | rfl | (simp only [List.length_drop, List.length_take]; rfl)) ?_; (with_reducible refine (pack_far.calls (wrap64 (t232 * a1)) false _ A7.out).mono ?_); rintro e w' ⟨rfl, ⟨nd, rfl⟩⟩; refine ⟨_, rfl, ?_⟩) | ((with_reducible refine gate_callee (f := 45) rfl ?_); refine goesL_ (some 38) rfl rfl Try.func45 (by kernel_rfl) rfl #[.int .i64 (f2i (cmulR a0.1 a0.2 4607182418800017408 (Go.Op.negFloat .f64 (Go.floatOfInt .f64 a1))))] rfl (by (try simp only [List.map_toArray, List.map_cons, List.map_nil]); first | done | rfl | (simp only [List.length_drop, List.length_take]; rfl)) ?_; (with_reducible refine (pack_far.calls (f2i (cmulR a0.1 a0.2 4607182418800017408 (Go.Op.negFloat .f64 (Go.floatOfInt .f64 a1)))) false _ A12.out).mono ?_); rintro e w' ⟨rfl, ⟨nd, rfl⟩⟩; refine ⟨_, rfl, ?_⟩))
              go_ret2
              exact ⟨by first | rfl | (simp [errW_none, errW_some] <;> rfl) | (simp [*, errW_none, errW_some] <;> rfl), by repeat (first | (with_reducible first | exact HB.out | apply below_alloc | apply pw_below_drewN | apply below_drew1) | exact HB.out)⟩
          · rw [if_neg c11] at H
            exact absurd H (by simp)
        · rw [if_neg c10] at H
          exact absurd H (by simp)
    · rw [if_neg c6] at H
      have c6b0 : (t233 == 0) = false := beq_eq_false_iff_ne.mpr c6
      have c6b1 : (t233 != 0) = true := bne_iff_ne.mpr c6
      simp only [Option.some.injEq, Prod.mk.injEq] at H
      obtain ⟨rfl, rfl⟩ := H
      go_enter Try.func30, Try.ntmps30
      go_wp2_with (first | ((with_reducible refine gate_callee (f := 14) rfl ?_); refine goesL_ (some 12) rfl rfl Try.func14 (by kernel_rfl) rfl #[.complex .f64 a0.1 a0.2] rfl (by (try simp only [List.map_toArray, List.map_cons, List.map_nil]); first | done | rfl | (simp only [List.length_drop, List.length_take]; rfl)) ?_; (with_reducible refine (plane_Parts.calls a0 t231 t232 t233 _ A3.out).mono ?_); rintro e w16 ⟨rfl, hb⟩; refine ⟨_, rfl, ?_⟩; have n0_ := Aside0.mk (below_step (by repeat (first | (with_reducible first | exact HB.out | apply below_alloc | apply pw_below_drewN | apply below_drew1) | exact HB.out)) hb); clear HB; have HB := n0_; clear n0_; (try clear hb); (try clear hb2); (try clear hk); (try clear hi)) | ((with_reducible refine gate_callee (f := 33) rfl ?_); refine goesL_ (some 18) rfl rfl Try.func33 (by kernel_rfl) rfl #[.int .i64 a1] rfl (by (try simp only [List.map_toArray, List.map_cons, List.map_nil]); first | done | rfl | (simp only [List.length_drop, List.length_take]; rfl)) ?_; (with_reducible refine (pack_Factor.calls a1 true _ A4.out).mono ?_); rintro e w' ⟨rfl, ⟨nd, rfl⟩⟩; refine ⟨_, rfl, ?_⟩))
      go_ret2
      exact ⟨by first | rfl | (simp [errW_none, errW_some] <;> rfl) | (simp [*, errW_none, errW_some] <;> rfl), by repeat (first | (with_reducible first | exact HB.out | apply below_alloc | apply pw_below_drewN | apply below_drew1) | exact HB.out)⟩
  · replace c5 := Bool.eq_false_iff.mpr c5
    subst c5
    have H1 : (some (0, 2)) = some (r1, r2) := by rw [if_neg (show ¬ (false = true) by decide)] at H; exact H
    clear H
    have H := H1
    clear H1
    simp only [Option.some.injEq, Prod.mk.injEq] at H
    obtain ⟨rfl, rfl⟩ := H
    go_enter Try.func30, Try.ntmps30
    go_wp2_with (first | ((with_reducible refine gate_callee (f := 14) rfl ?_); refine goesL_ (some 12) rfl rfl Try.func14 (by kernel_rfl) rfl #[.complex .f64 a0.1 a0.2] rfl (by (try simp only [List.map_toArray, List.map_cons, List.map_nil]); first | done | rfl | (simp only [List.length_drop, List.length_take]; rfl)) ?_; (with_reducible refine (plane_Parts.calls a0 t231 t232 t233 _ A3.out).mono ?_); rintro e w17 ⟨rfl, hb⟩; refine ⟨_, rfl, ?_⟩; have n0_ := Aside0.mk (below_step (by repeat (first | (with_reducible first | exact HB.out | apply below_alloc | apply pw_below_drewN | apply below_drew1) | exact HB.out)) hb); clear HB; have HB := n0_; clear n0_; (try clear hb); (try clear hb2); (try clear hk); (try clear hi)) | ((with_reducible refine gate_callee (f := 33) rfl ?_); refine goesL_ (some 18) rfl rfl Try.func33 (by kernel_rfl) rfl #[.int .i64 a1] rfl (by (try simp only [List.map_toArray, List.map_cons, List.map_nil]); first | done | rfl | (simp only [List.length_drop, List.length_take]; rfl)) ?_; (with_reducible refine (pack_Factor.calls a1 false _ A4.out).mono ?_); rintro e w' ⟨rfl, ⟨nd, rfl⟩⟩; refine ⟨_, rfl, ?_⟩))
    go_ret2
    exact ⟨by first | rfl | (simp [errW_none, errW_some] <;> rfl) | (simp [*, errW_none, errW_some] <;> rfl), by repeat (first | (with_reducible first | exact HB.out | apply below_alloc | apply pw_below_drewN | apply below_drew1) | exact HB.out)⟩

end Go.Proofs.Ytjaefcinaackeaa.Q
