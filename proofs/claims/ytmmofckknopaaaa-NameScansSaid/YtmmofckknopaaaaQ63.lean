/- A function of the program or a law's row comes to what the Lean function beside it says; no condition beyond those typed. Written by a program of this workplace; Lean checks it. -/
import Derived.Test.YtmmofckknopaaaaQ0
import Derived.Test.YtmmofckknopaaaaQ43
import Derived.Test.YtmmofckknopaaaaQ58
import Derived.Test.YtmmofckknopaaaaQ59
import Derived.Test.YtmmofckknopaaaaQ60
import Derived.Test.YtmmofckknopaaaaQ62
namespace Go.Proofs.Ytmmofckknopaaaa.Q
open Go.RowKit Go.Proofs.YtmmofckknopaaaaW.PrintWords Go.Proofs.YtmmofckknopaaaaW.PrintLast Go.Proofs.YtmmofckknopaaaaW.PrintMore
attribute [local go_sem] max2_int min2_int max_two min_two max_three min_three max_four min_four   -- for this text's walks alone
set_option linter.unusedVariables false
set_option linter.unusedSimpArgs false

/-! ### punnetlaw05_NameScans: function 12 -/
mutual
def punnetlaw05_NameScans.j0 : Nat → ByteArray → Int → ByteArray → Int → Int → ByteArray → Int → Int → ByteArray → Int → ByteArray → Int → Bool → Option (Bool)
  | 0, _, _, _, _, _, _, _, _, _, _, _, _, _ => none
  | k + 1, x0, x1, x5, x6, x7, x8, x9, x10, x11, x12, x13, x15, x55 => if x55 = true then (punnetlaw05_NameScans.j1 k x0 x1 x5 x6 x7 x8 x9 x10 x11 x12 (⟨#[]⟩ : ByteArray) 4) else (punnetlaw05_NameScans.j1 k x0 x1 x5 x6 x7 x8 x9 x10 x11 x12 x13 x15)
def punnetlaw05_NameScans.j1 : Nat → ByteArray → Int → ByteArray → Int → Int → ByteArray → Int → Int → ByteArray → Int → ByteArray → Int → Option (Bool)
  | 0, _, _, _, _, _, _, _, _, _, _, _, _ => none
  | k + 1, x0, x1, x5, x6, x7, x8, x9, x10, x11, x12, x13, x15 => if x5.toList = x8.toList then (if x6 = x9 then (if x7 = x10 then (if x11.toList = x13.toList then (punnetlaw05_NameScans.j2 k x0 x1 x5 x6 x7 (x12 != x15)) else (punnetlaw05_NameScans.j2 k x0 x1 x5 x6 x7 true)) else (punnetlaw05_NameScans.j2 k x0 x1 x5 x6 x7 true)) else (punnetlaw05_NameScans.j2 k x0 x1 x5 x6 x7 true)) else (punnetlaw05_NameScans.j2 k x0 x1 x5 x6 x7 true)
def punnetlaw05_NameScans.j2 : Nat → ByteArray → Int → ByteArray → Int → Int → Bool → Option (Bool)
  | 0, _, _, _, _, _, _ => none
  | k + 1, x0, x1, x5, x6, x7, x78 => if x78 = true then (some false) else (if x7 = 0 then ((name_Quote.f x5).bind fun bt382 => (if 0 ≤ x1 then (if x1 ≤ x6 then (if x6 ≤ (x0.size : Int) then (if bt382.1.toList = (x0.extract (x1 : Int).toNat (x6 : Int).toNat).toList then (some (bt382.2 == 0)) else (some false)) else (none)) else (none)) else (none))) else (some true))
end
def punnetlaw05_NameScans.f (k : Nat) (a0 : ByteArray) (a1 : Int) : Option (Bool) := (punnetlaw05_awake.f k).bind fun t370 => (if t370 = true then (if (a0.size : Int) > 500 then (some true) else ((name_Scan.f k a0 a1).bind fun bt371 => ((punnetref05_Scan.f k a0 a1).bind fun bt374 => ((name_Unquote.f k a0).bind fun bt377 => ((punnetref05_Scan.f k a0 0).bind fun bt379 => (if bt379.2.2 = 0 then (punnetlaw05_NameScans.j0 k a0 a1 bt371.1 bt371.2.1 bt371.2.2 bt374.1 bt374.2.1 bt374.2.2 bt377.1 bt377.2 bt379.1 bt379.2.2 (bt379.2.1 != (a0.size : Int))) else (punnetlaw05_NameScans.j0 k a0 a1 bt371.1 bt371.2.1 bt371.2.2 bt374.1 bt374.2.1 bt374.2.2 bt377.1 bt377.2 bt379.1 bt379.2.2 false))))))) else (some false))
theorem punnetlaw05_NameScans.mono_l : ∀ k, (∀ y0 y1 y2 y3 y4 y5 y6 y7 y8 y9 y10 y11 y12, LeO (punnetlaw05_NameScans.j0 k y0 y1 y2 y3 y4 y5 y6 y7 y8 y9 y10 y11 y12) (punnetlaw05_NameScans.j0 (k + 1) y0 y1 y2 y3 y4 y5 y6 y7 y8 y9 y10 y11 y12)) ∧ (∀ y0 y1 y2 y3 y4 y5 y6 y7 y8 y9 y10 y11, LeO (punnetlaw05_NameScans.j1 k y0 y1 y2 y3 y4 y5 y6 y7 y8 y9 y10 y11) (punnetlaw05_NameScans.j1 (k + 1) y0 y1 y2 y3 y4 y5 y6 y7 y8 y9 y10 y11)) ∧ (∀ y0 y1 y2 y3 y4 y5, LeO (punnetlaw05_NameScans.j2 k y0 y1 y2 y3 y4 y5) (punnetlaw05_NameScans.j2 (k + 1) y0 y1 y2 y3 y4 y5))
  | 0 => ⟨fun _ _ _ _ _ _ _ _ _ _ _ _ _ r h => by simp [punnetlaw05_NameScans.j0] at h, fun _ _ _ _ _ _ _ _ _ _ _ _ r h => by simp [punnetlaw05_NameScans.j1] at h, fun _ _ _ _ _ _ r h => by simp [punnetlaw05_NameScans.j2] at h⟩
  | k + 1 => by
    obtain ⟨ih0, ih1, ih2⟩ := punnetlaw05_NameScans.mono_l k
    refine ⟨?_, ?_, ?_⟩
    · intro y0 y1 y2 y3 y4 y5 y6 y7 y8 y9 y10 y11 y12
      unfold punnetlaw05_NameScans.j0
      repeat' first
      | (with_reducible exact ih0 _ _ _ _ _ _ _ _ _ _ _ _ _)
      | (with_reducible exact ih1 _ _ _ _ _ _ _ _ _ _ _ _)
      | (with_reducible exact ih2 _ _ _ _ _ _)
      | (with_reducible exact name_Scan.mono _ _ _)
      | (with_reducible exact name_Unquote.mono _ _)
      | (with_reducible exact punnetlaw05_awake.mono _)
      | (with_reducible exact punnetref05_Scan.mono _ _ _)
      | (with_reducible exact LeO.refl _)
      | (with_reducible exact LeO.none _)
      | (with_reducible refine LeO.ite ?_ ?_)
      | (with_reducible refine LeO.bind ?_ (fun _ => ?_))
      | exact ih0 _ _ _ _ _ _ _ _ _ _ _ _ _
      | exact ih1 _ _ _ _ _ _ _ _ _ _ _ _
      | exact ih2 _ _ _ _ _ _
      | exact name_Scan.mono _ _ _
      | exact name_Unquote.mono _ _
      | exact punnetlaw05_awake.mono _
      | exact punnetref05_Scan.mono _ _ _
      | exact LeO.none _
      | refine LeO.ite ?_ ?_
      | refine LeO.bind ?_ (fun _ => ?_)
    · intro y0 y1 y2 y3 y4 y5 y6 y7 y8 y9 y10 y11
      unfold punnetlaw05_NameScans.j1
      repeat' first
      | (with_reducible exact ih0 _ _ _ _ _ _ _ _ _ _ _ _ _)
      | (with_reducible exact ih1 _ _ _ _ _ _ _ _ _ _ _ _)
      | (with_reducible exact ih2 _ _ _ _ _ _)
      | (with_reducible exact name_Scan.mono _ _ _)
      | (with_reducible exact name_Unquote.mono _ _)
      | (with_reducible exact punnetlaw05_awake.mono _)
      | (with_reducible exact punnetref05_Scan.mono _ _ _)
      | (with_reducible exact LeO.refl _)
      | (with_reducible exact LeO.none _)
      | (with_reducible refine LeO.ite ?_ ?_)
      | (with_reducible refine LeO.bind ?_ (fun _ => ?_))
      | exact ih0 _ _ _ _ _ _ _ _ _ _ _ _ _
      | exact ih1 _ _ _ _ _ _ _ _ _ _ _ _
      | exact ih2 _ _ _ _ _ _
      | exact name_Scan.mono _ _ _
      | exact name_Unquote.mono _ _
      | exact punnetlaw05_awake.mono _
      | exact punnetref05_Scan.mono _ _ _
      | exact LeO.none _
      | refine LeO.ite ?_ ?_
      | refine LeO.bind ?_ (fun _ => ?_)
    · intro y0 y1 y2 y3 y4 y5
      unfold punnetlaw05_NameScans.j2
      repeat' first
      | (with_reducible exact ih0 _ _ _ _ _ _ _ _ _ _ _ _ _)
      | (with_reducible exact ih1 _ _ _ _ _ _ _ _ _ _ _ _)
      | (with_reducible exact ih2 _ _ _ _ _ _)
      | (with_reducible exact name_Scan.mono _ _ _)
      | (with_reducible exact name_Unquote.mono _ _)
      | (with_reducible exact punnetlaw05_awake.mono _)
      | (with_reducible exact punnetref05_Scan.mono _ _ _)
      | (with_reducible exact LeO.refl _)
      | (with_reducible exact LeO.none _)
      | (with_reducible refine LeO.ite ?_ ?_)
      | (with_reducible refine LeO.bind ?_ (fun _ => ?_))
      | exact ih0 _ _ _ _ _ _ _ _ _ _ _ _ _
      | exact ih1 _ _ _ _ _ _ _ _ _ _ _ _
      | exact ih2 _ _ _ _ _ _
      | exact name_Scan.mono _ _ _
      | exact name_Unquote.mono _ _
      | exact punnetlaw05_awake.mono _
      | exact punnetref05_Scan.mono _ _ _
      | exact LeO.none _
      | refine LeO.ite ?_ ?_
      | refine LeO.bind ?_ (fun _ => ?_)
theorem punnetlaw05_NameScans.mono : ∀ a0 a1 k, LeO (punnetlaw05_NameScans.f k a0 a1) (punnetlaw05_NameScans.f (k + 1) a0 a1) := by
  intro a0 a1 k
  obtain ⟨ih0, ih1, ih2⟩ := punnetlaw05_NameScans.mono_l k
  unfold punnetlaw05_NameScans.f
  repeat' first
      | (with_reducible exact ih0 _ _ _ _ _ _ _ _ _ _ _ _ _)
      | (with_reducible exact ih1 _ _ _ _ _ _ _ _ _ _ _ _)
      | (with_reducible exact ih2 _ _ _ _ _ _)
      | (with_reducible exact name_Scan.mono _ _ _)
      | (with_reducible exact name_Unquote.mono _ _)
      | (with_reducible exact punnetlaw05_awake.mono _)
      | (with_reducible exact punnetref05_Scan.mono _ _ _)
      | (with_reducible exact LeO.refl _)
      | (with_reducible exact LeO.none _)
      | (with_reducible refine LeO.ite ?_ ?_)
      | (with_reducible refine LeO.bind ?_ (fun _ => ?_))
      | exact ih0 _ _ _ _ _ _ _ _ _ _ _ _ _
      | exact ih1 _ _ _ _ _ _ _ _ _ _ _ _
      | exact ih2 _ _ _ _ _ _
      | exact name_Scan.mono _ _ _
      | exact name_Unquote.mono _ _
      | exact punnetlaw05_awake.mono _
      | exact punnetref05_Scan.mono _ _ _
      | exact LeO.none _
      | refine LeO.ite ?_ ?_
      | refine LeO.bind ?_ (fun _ => ?_)
set_option maxHeartbeats 8000000 in
set_option maxRecDepth 100000 in
theorem punnetlaw05_NameScans.calls (k : Nat) (a0 : ByteArray) (a1 : Int) (r : Bool) (w : World) (h : punnetlaw05_NameScans.f k a0 a1 = some r) :
    Calls Try.prog 12 #[.string a0, .int .i64 a1] w fun e w' => e = .returned (.bool r) ∧ Below w.heap.size w w' := by
  have HB := Aside0.mk (Below.refl w.heap.size w)
  have H : ((punnetlaw05_awake.f k).bind fun t370 => (if t370 = true then (if (a0.size : Int) > 500 then (some true) else ((name_Scan.f k a0 a1).bind fun bt371 => ((punnetref05_Scan.f k a0 a1).bind fun bt374 => ((name_Unquote.f k a0).bind fun bt377 => ((punnetref05_Scan.f k a0 0).bind fun bt379 => (if bt379.2.2 = 0 then (punnetlaw05_NameScans.j0 k a0 a1 bt371.1 bt371.2.1 bt371.2.2 bt374.1 bt374.2.1 bt374.2.2 bt377.1 bt377.2 bt379.1 bt379.2.2 (bt379.2.1 != (a0.size : Int))) else (punnetlaw05_NameScans.j0 k a0 a1 bt371.1 bt371.2.1 bt371.2.2 bt374.1 bt374.2.1 bt374.2.2 bt377.1 bt377.2 bt379.1 bt379.2.2 false))))))) else (some false))) = some r := h
  clear h
  replace H := Option.bind_eq_some_iff.mp H
  obtain ⟨t370, A30, H⟩ := H
  replace H : (if t370 = true then (if (a0.size : Int) > 500 then (some true) else ((name_Scan.f k a0 a1).bind fun bt371 => ((punnetref05_Scan.f k a0 a1).bind fun bt374 => ((name_Unquote.f k a0).bind fun bt377 => ((punnetref05_Scan.f k a0 0).bind fun bt379 => (if bt379.2.2 = 0 then (punnetlaw05_NameScans.j0 k a0 a1 bt371.1 bt371.2.1 bt371.2.2 bt374.1 bt374.2.1 bt374.2.2 bt377.1 bt377.2 bt379.1 bt379.2.2 (bt379.2.1 != (a0.size : Int))) else (punnetlaw05_NameScans.j0 k a0 a1 bt371.1 bt371.2.1 bt371.2.2 bt374.1 bt374.2.1 bt374.2.2 bt377.1 bt377.2 bt379.1 bt379.2.2 false))))))) else (some false)) = some r := H
  have A3 := Aside0.mk A30
  clear A30
  by_cases c4 : t370 = true
  · subst c4
    have H1 : (if (a0.size : Int) > 500 then (some true) else ((name_Scan.f k a0 a1).bind fun bt371 => ((punnetref05_Scan.f k a0 a1).bind fun bt374 => ((name_Unquote.f k a0).bind fun bt377 => ((punnetref05_Scan.f k a0 0).bind fun bt379 => (if bt379.2.2 = 0 then (punnetlaw05_NameScans.j0 k a0 a1 bt371.1 bt371.2.1 bt371.2.2 bt374.1 bt374.2.1 bt374.2.2 bt377.1 bt377.2 bt379.1 bt379.2.2 (bt379.2.1 != (a0.size : Int))) else (punnetlaw05_NameScans.j0 k a0 a1 bt371.1 bt371.2.1 bt371.2.2 bt374.1 bt374.2.1 bt374.2.2 bt377.1 bt377.2 bt379.1 bt379.2.2 false))))))) = some r := by rw [if_pos rfl] at H; exact H
    clear H
    have H := H1
    clear H1
    by_cases c5 : (a0.size : Int) > 500
    · rw [if_pos c5] at H
      have c5b0 : decide (500 < (a0.size : Int)) = true := decide_eq_true c5
      have c5b1 : decide (500 < a0.size) = true := decide_eq_true (by omega)
      clear c5
      obtain rfl := Option.some.inj H
      go_enter Try.func12, Try.ntmps12
      go_wp2_with (first | ((with_reducible refine gate_callee (f := 31) rfl ?_); refine goesL_ (some 18) rfl rfl Try.func31 (by kernel_rfl) rfl #[] rfl (by (try simp only [List.map_toArray, List.map_cons, List.map_nil]); first | done | rfl | (simp only [List.length_drop, List.length_take]; rfl)) ?_; (with_reducible refine (punnetlaw05_awake.calls k  true _ A3.out).mono ?_); rintro e w6 ⟨rfl, hb⟩; refine ⟨_, rfl, ?_⟩; have n0_ := Aside0.mk (below_step (by repeat (first | (with_reducible first | exact HB.out | apply below_alloc | apply pw_below_drewN | apply below_drew1) | exact HB.out)) hb); clear HB; have HB := n0_; clear n0_; (try clear hb); (try clear hb2); (try clear hk); (try clear hi)))
      go_ret
      exact ⟨by first | rfl | (simp [errW_none, errW_some] <;> rfl) | (simp [*, errW_none, errW_some] <;> rfl), by repeat (first | (with_reducible first | exact HB.out | apply below_alloc | apply pw_below_drewN | apply below_drew1) | exact HB.out)⟩
    · rw [if_neg c5] at H
      have c5b0 : decide (500 < (a0.size : Int)) = false := decide_eq_false c5
      have c5b1 : decide (500 < a0.size) = false := decide_eq_false (by omega)
      clear c5
      replace H := Option.bind_eq_some_iff.mp H
      obtain ⟨⟨t371, t372, t373⟩, A70, H⟩ := H
      replace H : ((punnetref05_Scan.f k a0 a1).bind fun bt374 => ((name_Unquote.f k a0).bind fun bt377 => ((punnetref05_Scan.f k a0 0).bind fun bt379 => (if bt379.2.2 = 0 then (punnetlaw05_NameScans.j0 k a0 a1 t371 t372 t373 bt374.1 bt374.2.1 bt374.2.2 bt377.1 bt377.2 bt379.1 bt379.2.2 (bt379.2.1 != (a0.size : Int))) else (punnetlaw05_NameScans.j0 k a0 a1 t371 t372 t373 bt374.1 bt374.2.1 bt374.2.2 bt377.1 bt377.2 bt379.1 bt379.2.2 false))))) = some r := H
      have A7 := Aside0.mk A70
      clear A70
      replace H := Option.bind_eq_some_iff.mp H
      obtain ⟨⟨t374, t375, t376⟩, A80, H⟩ := H
      replace H : ((name_Unquote.f k a0).bind fun bt377 => ((punnetref05_Scan.f k a0 0).bind fun bt379 => (if bt379.2.2 = 0 then (punnetlaw05_NameScans.j0 k a0 a1 t371 t372 t373 t374 t375 t376 bt377.1 bt377.2 bt379.1 bt379.2.2 (bt379.2.1 != (a0.size : Int))) else (punnetlaw05_NameScans.j0 k a0 a1 t371 t372 t373 t374 t375 t376 bt377.1 bt377.2 bt379.1 bt379.2.2 false)))) = some r := H
      have A8 := Aside0.mk A80
      clear A80
      replace H := Option.bind_eq_some_iff.mp H
      obtain ⟨⟨t377, t378⟩, A90, H⟩ := H
      replace H : ((punnetref05_Scan.f k a0 0).bind fun bt379 => (if bt379.2.2 = 0 then (punnetlaw05_NameScans.j0 k a0 a1 t371 t372 t373 t374 t375 t376 t377 t378 bt379.1 bt379.2.2 (bt379.2.1 != (a0.size : Int))) else (punnetlaw05_NameScans.j0 k a0 a1 t371 t372 t373 t374 t375 t376 t377 t378 bt379.1 bt379.2.2 false))) = some r := H
      have A9 := Aside0.mk A90
      clear A90
      replace H := Option.bind_eq_some_iff.mp H
      obtain ⟨⟨t379, t380, t381⟩, A100, H⟩ := H
      replace H : (if t381 = 0 then (punnetlaw05_NameScans.j0 k a0 a1 t371 t372 t373 t374 t375 t376 t377 t378 t379 t381 (t380 != (a0.size : Int))) else (punnetlaw05_NameScans.j0 k a0 a1 t371 t372 t373 t374 t375 t376 t377 t378 t379 t381 false)) = some r := H
      have A10 := Aside0.mk A100
      clear A100
      have HC11 := Aside0.mk H
      clear H
      go_enter Try.func12, Try.ntmps12
      go_upto_region 9 with (first | ((with_reducible refine gate_callee (f := 31) rfl ?_); refine goesL_ (some 18) rfl rfl Try.func31 (by kernel_rfl) rfl #[] rfl (by (try simp only [List.map_toArray, List.map_cons, List.map_nil]); first | done | rfl | (simp only [List.length_drop, List.length_take]; rfl)) ?_; (with_reducible refine (punnetlaw05_awake.calls k  true _ A3.out).mono ?_); rintro e w12 ⟨rfl, hb⟩; refine ⟨_, rfl, ?_⟩; have n0_ := Aside0.mk (below_step (by repeat (first | (with_reducible first | exact HB.out | apply below_alloc | apply pw_below_drewN | apply below_drew1) | exact HB.out)) hb); clear HB; have HB := n0_; clear n0_; (try clear hb); (try clear hb2); (try clear hk); (try clear hi)) | ((with_reducible refine gate_callee (f := 41) rfl ?_); refine goesL_ (some 26) rfl rfl Try.func41 (by kernel_rfl) rfl #[.string a0, .int .i64 a1] rfl (by (try simp only [List.map_toArray, List.map_cons, List.map_nil]); first | done | rfl | (simp only [List.length_drop, List.length_take]; rfl)) ?_; (with_reducible refine (name_Scan.calls k a0 a1 t371 t372 t373 _ A7.out).mono ?_); rintro e w13 ⟨rfl, hb⟩; refine ⟨_, rfl, ?_⟩; have n0_ := Aside0.mk (below_step (by repeat (first | (with_reducible first | exact HB.out | apply below_alloc | apply pw_below_drewN | apply below_drew1) | exact HB.out)) hb); clear HB; have HB := n0_; clear n0_; (try clear hb); (try clear hb2); (try clear hk); (try clear hi)) | ((with_reducible refine gate_callee (f := 42) rfl ?_); refine goesL_ (some 33) rfl rfl Try.func42 (by kernel_rfl) rfl #[.string a0, .int .i64 a1] rfl (by (try simp only [List.map_toArray, List.map_cons, List.map_nil]); first | done | rfl | (simp only [List.length_drop, List.length_take]; rfl)) ?_; (with_reducible refine (punnetref05_Scan.calls k a0 a1 t374 t375 t376 _ A8.out).mono ?_); rintro e w14 ⟨rfl, hb⟩; refine ⟨_, rfl, ?_⟩; have n0_ := Aside0.mk (below_step (by repeat (first | (with_reducible first | exact HB.out | apply below_alloc | apply pw_below_drewN | apply below_drew1) | exact HB.out)) hb); clear HB; have HB := n0_; clear n0_; (try clear hb); (try clear hb2); (try clear hk); (try clear hi)) | ((with_reducible refine gate_callee (f := 40) rfl ?_); refine goesL_ (some 39) rfl rfl Try.func40 (by kernel_rfl) rfl #[.string a0] rfl (by (try simp only [List.map_toArray, List.map_cons, List.map_nil]); first | done | rfl | (simp only [List.length_drop, List.length_take]; rfl)) ?_; (with_reducible refine (name_Unquote.calls k a0 t377 t378 _ A9.out).mono ?_); rintro e w15 ⟨rfl, hb⟩; refine ⟨_, rfl, ?_⟩; have n0_ := Aside0.mk (below_step (by repeat (first | (with_reducible first | exact HB.out | apply below_alloc | apply pw_below_drewN | apply below_drew1) | exact HB.out)) hb); clear HB; have HB := n0_; clear n0_; (try clear hb); (try clear hb2); (try clear hk); (try clear hi)) | ((with_reducible refine gate_callee (f := 42) rfl ?_); refine goesL_ (some 44) rfl rfl Try.func42 (by kernel_rfl) rfl #[.string a0, .int .i64 0] rfl (by (try simp only [List.map_toArray, List.map_cons, List.map_nil]); first | done | rfl | (simp only [List.length_drop, List.length_take]; rfl)) ?_; (with_reducible refine (punnetref05_Scan.calls k a0 0 t379 t380 t381 _ A10.out).mono ?_); rintro e w16 ⟨rfl, hb⟩; refine ⟨_, rfl, ?_⟩; have n0_ := Aside0.mk (below_step (by repeat (first | (with_reducible first | exact HB.out | apply below_alloc | apply pw_below_drewN | apply below_drew1) | exact HB.out)) hb); clear HB; have HB := n0_; clear n0_; (try clear hb); (try clear hb2); (try clear hk); (try clear hi)))
      (try simp only [Act.put, List.setIfInBounds_toArray, List.set_cons_zero, List.set_cons_succ])
      go_cut [55] (fun v55 wc => ∃ (kq : Nat) (x55_10 : Bool), v55 = .bool x55_10 ∧ Aside0 (punnetlaw05_NameScans.j0 kq a0 a1 t371 t372 t373 t374 t375 t376 t377 t378 t379 t381 x55_10 = some r) ∧ Aside0 (kq ≤ k) ∧ Aside0 (Below w.heap.size w wc))
      case first =>
        have H := HC11.out
        clear HC11
        by_cases c17 : t381 = 0
        · rw [if_pos c17] at H
          have c17b0 : (t381 == 0) = true := beq_iff_eq.mpr c17
          have c17b1 : (t381 != 0) = false := bne_eq_false_iff_eq.mpr c17
          clear c17
          (first | rw [c17b0] | (simp only [i64_w, i32_w]; rw [c17b0]) | skip)
          have H' := Aside0.mk H
          clear H
          go_wp2
          go_meet
          case rel => exact ⟨_, ((t380 != (a0.size : Int))), (by first | rfl | (simp; done) | (simp [*]; done)), H', ⟨by first | omega | exact Nat.le_refl _⟩, ⟨by repeat (first | (with_reducible first | exact HB.out | apply below_alloc | apply pw_below_drewN | apply below_drew1) | exact HB.out)⟩⟩
        · rw [if_neg c17] at H
          have c17b0 : (t381 == 0) = false := beq_eq_false_iff_ne.mpr c17
          have c17b1 : (t381 != 0) = true := bne_iff_ne.mpr c17
          (first | rw [c17b0] | (simp only [i64_w, i32_w]; rw [c17b0]) | skip)
          have H' := Aside0.mk H
          clear H
          go_wp2
          go_meet
          case rel => exact ⟨_, (false), (by first | rfl | (simp; done) | (simp [*]; done)), H', ⟨by first | omega | exact Nat.le_refl _⟩, ⟨by repeat (first | (with_reducible first | exact HB.out | apply below_alloc | apply pw_below_drewN | apply below_drew1) | exact HB.out)⟩⟩
      case rest =>
        clear HC11
        try clear c1
        try clear p2
        try clear c3
        try clear c4
        try clear c5
        try clear c5b0
        try clear c5b1
        try clear c12
        try clear c17
        try clear c17b0
        try clear c17b1
        obtain ⟨kq, x55_10, rfl, HA, HJ10, HB⟩ := hcut
        cases kq with
        | zero => exact absurd HA.out (by simp [punnetlaw05_NameScans.j0])
        | succ kj10 =>
          have H := HA.out
          clear HA
          simp only [punnetlaw05_NameScans.j0] at H
          have HC18 := Aside0.mk H
          clear H
          go_upto_if 55 with (fail)
          go_cut [13, 15] (fun v13 v15 wc => ∃ (kq : Nat) (x13_17 : ByteArray) (x15_17 : Int), v13 = .string x13_17 ∧ v15 = .int .i64 x15_17 ∧ Aside0 (punnetlaw05_NameScans.j1 kq a0 a1 t371 t372 t373 t374 t375 t376 t377 t378 x13_17 x15_17 = some r) ∧ Aside0 (kq ≤ kj10) ∧ Aside0 (Below w.heap.size w wc))
          case first =>
            have H := HC18.out
            clear HC18
            by_cases c19 : x55_10 = true
            · subst c19
              have H1 : (punnetlaw05_NameScans.j1 kj10 a0 a1 t371 t372 t373 t374 t375 t376 t377 t378 (⟨#[]⟩ : ByteArray) 4) = some r := by rw [if_pos rfl] at H; exact H
              clear H
              have H := H1
              clear H1
              have H' := Aside0.mk H
              clear H
              go_wp2
              go_meet
              case rel => exact ⟨_, ((⟨#[]⟩ : ByteArray)), (4), (by first | rfl | (simp; done) | (simp [*]; done)), (by first | rfl | (simp; done) | (simp [*]; done)), H', ⟨by have := HJ10.out; first | omega | exact Nat.le_refl _⟩, ⟨by repeat (first | (with_reducible first | exact HB.out | apply below_alloc | apply pw_below_drewN | apply below_drew1) | exact HB.out)⟩⟩
            · replace c19 := Bool.eq_false_iff.mpr c19
              subst c19
              have H1 : (punnetlaw05_NameScans.j1 kj10 a0 a1 t371 t372 t373 t374 t375 t376 t377 t378 t379 t381) = some r := by rw [if_neg (show ¬ (false = true) by decide)] at H; exact H
              clear H
              have H := H1
              clear H1
              have H' := Aside0.mk H
              clear H
              go_wp2
              go_meet
              case rel => exact ⟨_, (t379), (t381), (by first | rfl | (simp; done) | (simp [*]; done)), (by first | rfl | (simp; done) | (simp [*]; done)), H', ⟨by have := HJ10.out; first | omega | exact Nat.le_refl _⟩, ⟨by repeat (first | (with_reducible first | exact HB.out | apply below_alloc | apply pw_below_drewN | apply below_drew1) | exact HB.out)⟩⟩
          case rest =>
            clear HC18
            try clear c1
            try clear p2
            try clear c3
            try clear c4
            try clear c5
            try clear c5b0
            try clear c5b1
            try clear c12
            try clear c17
            try clear c17b0
            try clear c17b1
            try clear c19
            try clear p2
            obtain ⟨kq, x13_17, x15_17, rfl, rfl, HA, HJ17, HB⟩ := hcut
            cases kq with
            | zero => exact absurd HA.out (by simp [punnetlaw05_NameScans.j1])
            | succ kj17 =>
              have H := HA.out
              clear HA
              simp only [punnetlaw05_NameScans.j1] at H
              have HC20 := Aside0.mk H
              clear H
              go_upto_region 11 with (fail)
              go_cut [78] (fun v78 wc => ∃ (kq : Nat) (x78_19 : Bool), v78 = .bool x78_19 ∧ Aside0 (punnetlaw05_NameScans.j2 kq a0 a1 t371 t372 t373 x78_19 = some r) ∧ Aside0 (kq ≤ kj17) ∧ Aside0 (Below w.heap.size w wc))
              case first =>
                have H := HC20.out
                clear HC20
                by_cases c21 : t371.toList = t374.toList
                · rw [if_pos c21] at H
                  have c21b0 : (t371.toList == t374.toList) = true := beq_iff_eq.mpr c21
                  have c21b1 : (t371.toList != t374.toList) = false := bne_eq_false_iff_eq.mpr c21
                  clear c21
                  (first | rw [c21b0] | (simp only [i64_w, i32_w]; rw [c21b0]) | skip)
                  by_cases c22 : t372 = t375
                  · rw [if_pos c22] at H
                    have c22b0 : (t372 == t375) = true := beq_iff_eq.mpr c22
                    have c22b1 : (t372 != t375) = false := bne_eq_false_iff_eq.mpr c22
                    clear c22
                    by_cases c23 : t373 = t376
                    · rw [if_pos c23] at H
                      have c23b0 : (t373 == t376) = true := beq_iff_eq.mpr c23
                      have c23b1 : (t373 != t376) = false := bne_eq_false_iff_eq.mpr c23
                      clear c23
                      by_cases c24 : t377.toList = x13_17.toList
                      · rw [if_pos c24] at H
                        have c24b0 : (t377.toList == x13_17.toList) = true := beq_iff_eq.mpr c24
                        have c24b1 : (t377.toList != x13_17.toList) = false := bne_eq_false_iff_eq.mpr c24
                        clear c24
                        have H' := Aside0.mk H
                        clear H
                        go_wp2
                        go_meet
                        case rel => exact ⟨_, ((t378 != x15_17)), (by first | rfl | (simp; done) | (simp [*]; done)), H', ⟨by have := HJ10.out; have := HJ17.out; first | omega | exact Nat.le_refl _⟩, ⟨by repeat (first | (with_reducible first | exact HB.out | apply below_alloc | apply pw_below_drewN | apply below_drew1) | exact HB.out)⟩⟩
                      · rw [if_neg c24] at H
                        have c24b0 : (t377.toList == x13_17.toList) = false := beq_eq_false_iff_ne.mpr c24
                        have c24b1 : (t377.toList != x13_17.toList) = true := bne_iff_ne.mpr c24
                        have H' := Aside0.mk H
                        clear H
                        go_wp2
                        go_meet
                        case rel => exact ⟨_, (true), (by first | rfl | (simp; done) | (simp [*]; done)), H', ⟨by have := HJ10.out; have := HJ17.out; first | omega | exact Nat.le_refl _⟩, ⟨by repeat (first | (with_reducible first | exact HB.out | apply below_alloc | apply pw_below_drewN | apply below_drew1) | exact HB.out)⟩⟩
                    · rw [if_neg c23] at H
                      have c23b0 : (t373 == t376) = false := beq_eq_false_iff_ne.mpr c23
                      have c23b1 : (t373 != t376) = true := bne_iff_ne.mpr c23
                      have H' := Aside0.mk H
                      clear H
                      go_wp2
                      go_meet
                      case rel => exact ⟨_, (true), (by first | rfl | (simp; done) | (simp [*]; done)), H', ⟨by have := HJ10.out; have := HJ17.out; first | omega | exact Nat.le_refl _⟩, ⟨by repeat (first | (with_reducible first | exact HB.out | apply below_alloc | apply pw_below_drewN | apply below_drew1) | exact HB.out)⟩⟩
                  · rw [if_neg c22] at H
                    have c22b0 : (t372 == t375) = false := beq_eq_false_iff_ne.mpr c22
                    have c22b1 : (t372 != t375) = true := bne_iff_ne.mpr c22
                    have H' := Aside0.mk H
                    clear H
                    go_wp2
                    go_meet
                    case rel => exact ⟨_, (true), (by first | rfl | (simp; done) | (simp [*]; done)), H', ⟨by have := HJ10.out; have := HJ17.out; first | omega | exact Nat.le_refl _⟩, ⟨by repeat (first | (with_reducible first | exact HB.out | apply below_alloc | apply pw_below_drewN | apply below_drew1) | exact HB.out)⟩⟩
                · rw [if_neg c21] at H
                  have c21b0 : (t371.toList == t374.toList) = false := beq_eq_false_iff_ne.mpr c21
                  have c21b1 : (t371.toList != t374.toList) = true := bne_iff_ne.mpr c21
                  (first | rw [c21b0] | (simp only [i64_w, i32_w]; rw [c21b0]) | skip)
                  have H' := Aside0.mk H
                  clear H
                  go_wp2
                  go_meet
                  case rel => exact ⟨_, (true), (by first | rfl | (simp; done) | (simp [*]; done)), H', ⟨by have := HJ10.out; have := HJ17.out; first | omega | exact Nat.le_refl _⟩, ⟨by repeat (first | (with_reducible first | exact HB.out | apply below_alloc | apply pw_below_drewN | apply below_drew1) | exact HB.out)⟩⟩
              case rest =>
                clear HC20
                try clear c1
                try clear c2
                try clear p2
                try clear c3
                try clear c4
                try clear c5
                try clear c5b0
                try clear c5b1
                try clear c12
                try clear c17
                try clear c17b0
                try clear c17b1
                try clear c19
                try clear c21
                try clear c21b0
                try clear c21b1
                try clear c22
                try clear c22b0
                try clear c22b1
                try clear c23
                try clear c23b0
                try clear c23b1
                try clear c24
                try clear c24b0
                try clear c24b1
                try clear p2
                obtain ⟨kq, x78_19, rfl, HA, HJ19, HB⟩ := hcut
                cases kq with
                | zero => exact absurd HA.out (by simp [punnetlaw05_NameScans.j2])
                | succ kj19 =>
                  have H := HA.out
                  clear HA
                  simp only [punnetlaw05_NameScans.j2] at H
                  by_cases c25 : x78_19 = true
                  · subst c25
                    have H1 : (some false) = some r := by rw [if_pos rfl] at H; exact H
                    clear H
                    have H := H1
                    clear H1
                    obtain rfl := Option.some.inj H
                    go_wp2
                    go_ret
                    exact ⟨by first | rfl | (simp [errW_none, errW_some] <;> rfl) | (simp [*, errW_none, errW_some] <;> rfl), by repeat (first | (with_reducible first | exact HB.out | apply below_alloc | apply pw_below_drewN | apply below_drew1) | exact HB.out)⟩
                  · replace c25 := Bool.eq_false_iff.mpr c25
                    subst c25
                    have H1 : (if t373 = 0 then ((name_Quote.f t371).bind fun bt382 => (if 0 ≤ a1 then (if a1 ≤ t372 then (if t372 ≤ (a0.size : Int) then (if bt382.1.toList = (a0.extract (a1 : Int).toNat (t372 : Int).toNat).toList then (some (bt382.2 == 0)) else (some false)) else (none)) else (none)) else (none))) else (some true)) = some r := by rw [if_neg (show ¬ (false = true) by decide)] at H; exact H
                    clear H
                    have H := H1
                    clear H1
                    by_cases c26 : t373 = 0
                    · rw [if_pos c26] at H
                      have c26b0 : (t373 == 0) = true := beq_iff_eq.mpr c26
                      have c26b1 : (t373 != 0) = false := bne_eq_false_iff_eq.mpr c26
                      clear c26
                      replace H := Option.bind_eq_some_iff.mp H
                      obtain ⟨⟨t382, t383⟩, A270, H⟩ := H
                      replace H : (if 0 ≤ a1 then (if a1 ≤ t372 then (if t372 ≤ (a0.size : Int) then (if t382.toList = (a0.extract (a1 : Int).toNat (t372 : Int).toNat).toList then (some (t383 == 0)) else (some false)) else (none)) else (none)) else (none)) = some r := H
                      have A27 := Aside0.mk A270
                      clear A270
                      by_cases c28 : 0 ≤ a1
                      · rw [if_pos c28] at H
                        have c28b0 := eq_true c28
                        have c28b1 : decide (0 ≤ a1) = true := decide_eq_true c28
                        clear c28
                        by_cases c29 : a1 ≤ t372
                        · rw [if_pos c29] at H
                          have c29b0 := eq_true c29
                          have c29b1 : decide (a1 ≤ t372) = true := decide_eq_true c29
                          clear c29
                          by_cases c30 : t372 ≤ (a0.size : Int)
                          · rw [if_pos c30] at H
                            have c30b0 := eq_true c30
                            have c30b1 : decide (t372 ≤ (a0.size : Int)) = true := decide_eq_true c30
                            clear c30
                            by_cases c31 : t382.toList = (a0.extract (a1 : Int).toNat (t372 : Int).toNat).toList
                            · rw [if_pos c31] at H
                              have c31b0 : (t382.toList == (a0.extract (a1 : Int).toNat (t372 : Int).toNat).toList) = true := beq_iff_eq.mpr c31
                              have c31b1 : (t382.toList != (a0.extract (a1 : Int).toNat (t372 : Int).toNat).toList) = false := bne_eq_false_iff_eq.mpr c31
                              clear c31
                              obtain rfl := Option.some.inj H
                              go_wp2_with (first | ((with_reducible refine gate_callee (f := 37) rfl ?_); refine goesL_ (some 83) rfl rfl Try.func37 (by kernel_rfl) rfl #[.string t371] rfl (by (try simp only [List.map_toArray, List.map_cons, List.map_nil]); first | done | rfl | (simp only [List.length_drop, List.length_take]; rfl)) ?_; (with_reducible refine (name_Quote.calls t371 t382 t383 _ A27.out).mono ?_); rintro e w32 ⟨rfl, hb⟩; refine ⟨_, rfl, ?_⟩; have n0_ := Aside0.mk (below_step (by repeat (first | (with_reducible first | exact HB.out | apply below_alloc | apply pw_below_drewN | apply below_drew1) | exact HB.out)) hb); clear HB; have HB := n0_; clear n0_; (try clear hb); (try clear hb2); (try clear hk); (try clear hi)))
                              go_ret
                              exact ⟨by first | rfl | (simp [errW_none, errW_some] <;> rfl) | (simp [*, errW_none, errW_some] <;> rfl), by repeat (first | (with_reducible first | exact HB.out | apply below_alloc | apply pw_below_drewN | apply below_drew1) | exact HB.out)⟩
                            · rw [if_neg c31] at H
                              have c31b0 : (t382.toList == (a0.extract (a1 : Int).toNat (t372 : Int).toNat).toList) = false := beq_eq_false_iff_ne.mpr c31
                              have c31b1 : (t382.toList != (a0.extract (a1 : Int).toNat (t372 : Int).toNat).toList) = true := bne_iff_ne.mpr c31
                              obtain rfl := Option.some.inj H
                              go_wp2_with (first | ((with_reducible refine gate_callee (f := 37) rfl ?_); refine goesL_ (some 83) rfl rfl Try.func37 (by kernel_rfl) rfl #[.string t371] rfl (by (try simp only [List.map_toArray, List.map_cons, List.map_nil]); first | done | rfl | (simp only [List.length_drop, List.length_take]; rfl)) ?_; (with_reducible refine (name_Quote.calls t371 t382 t383 _ A27.out).mono ?_); rintro e w33 ⟨rfl, hb⟩; refine ⟨_, rfl, ?_⟩; have n0_ := Aside0.mk (below_step (by repeat (first | (with_reducible first | exact HB.out | apply below_alloc | apply pw_below_drewN | apply below_drew1) | exact HB.out)) hb); clear HB; have HB := n0_; clear n0_; (try clear hb); (try clear hb2); (try clear hk); (try clear hi)))
                              go_ret
                              exact ⟨by first | rfl | (simp [errW_none, errW_some] <;> rfl) | (simp [*, errW_none, errW_some] <;> rfl), by repeat (first | (with_reducible first | exact HB.out | apply below_alloc | apply pw_below_drewN | apply below_drew1) | exact HB.out)⟩
                          · rw [if_neg c30] at H
                            exact absurd H (by simp)
                        · rw [if_neg c29] at H
                          exact absurd H (by simp)
                      · rw [if_neg c28] at H
                        exact absurd H (by simp)
                    · rw [if_neg c26] at H
                      have c26b0 : (t373 == 0) = false := beq_eq_false_iff_ne.mpr c26
                      have c26b1 : (t373 != 0) = true := bne_iff_ne.mpr c26
                      obtain rfl := Option.some.inj H
                      go_wp2
                      go_ret
                      exact ⟨by first | rfl | (simp [errW_none, errW_some] <;> rfl) | (simp [*, errW_none, errW_some] <;> rfl), by repeat (first | (with_reducible first | exact HB.out | apply below_alloc | apply pw_below_drewN | apply below_drew1) | exact HB.out)⟩
  · replace c4 := Bool.eq_false_iff.mpr c4
    subst c4
    have H1 : (some false) = some r := by rw [if_neg (show ¬ (false = true) by decide)] at H; exact H
    clear H
    have H := H1
    clear H1
    obtain rfl := Option.some.inj H
    go_enter Try.func12, Try.ntmps12
    go_wp2_with (first | ((with_reducible refine gate_callee (f := 31) rfl ?_); refine goesL_ (some 18) rfl rfl Try.func31 (by kernel_rfl) rfl #[] rfl (by (try simp only [List.map_toArray, List.map_cons, List.map_nil]); first | done | rfl | (simp only [List.length_drop, List.length_take]; rfl)) ?_; (with_reducible refine (punnetlaw05_awake.calls k  false _ A3.out).mono ?_); rintro e w34 ⟨rfl, hb⟩; refine ⟨_, rfl, ?_⟩; have n0_ := Aside0.mk (below_step (by repeat (first | (with_reducible first | exact HB.out | apply below_alloc | apply pw_below_drewN | apply below_drew1) | exact HB.out)) hb); clear HB; have HB := n0_; clear n0_; (try clear hb); (try clear hb2); (try clear hk); (try clear hi)))
    go_ret
    exact ⟨by first | rfl | (simp [errW_none, errW_some] <;> rfl) | (simp [*, errW_none, errW_some] <;> rfl), by repeat (first | (with_reducible first | exact HB.out | apply below_alloc | apply pw_below_drewN | apply below_drew1) | exact HB.out)⟩

/-- THE ONE PURE STATEMENT of punnetlaw05_NameScans: yours. -/
def punnetlaw05_NameScans.Pure : Prop := ∀ (a0 : ByteArray) (a1 : Int), a0.size ≤ 140737488351232 → (Lit.int .i64 a1).wf = true → ∃ k, punnetlaw05_NameScans.f k a0 a1 = some true
theorem punnetlaw05_NameScans.walk (P : punnetlaw05_NameScans.Pure) (a0 : ByteArray) (a1 : Int) (w : World) (w0 : a0.size ≤ 140737488351232) (w1 : (Lit.int .i64 a1).wf = true) :
    Calls Try.prog 12 #[.string a0, .int .i64 a1] w fun e w' => e = .returned (.bool true) ∧ Below w.heap.size w w' := by
  obtain ⟨k, h⟩ := P a0 a1 w0 w1
  refine (punnetlaw05_NameScans.calls k a0 a1 true w h).mono ?_
  rintro e w' ⟨rfl, hd⟩
  exact ⟨rfl, hd⟩

end Go.Proofs.Ytmmofckknopaaaa.Q
