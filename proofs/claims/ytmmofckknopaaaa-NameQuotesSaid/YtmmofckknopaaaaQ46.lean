/- A function of the program or a law's row comes to what the Lean function beside it says; no condition beyond those typed. Written by a program of this workplace; Lean checks it. -/
import Derived.Test.YtmmofckknopaaaaQ0
import Derived.Test.YtmmofckknopaaaaQ45
namespace Go.Proofs.Ytmmofckknopaaaa.Q
open Go.RowKit Go.Proofs.YtmmofckknopaaaaW.PrintWords Go.Proofs.YtmmofckknopaaaaW.PrintLast Go.Proofs.YtmmofckknopaaaaW.PrintMore
attribute [local go_sem] max2_int min2_int max_two min_two max_three min_three max_four min_four   -- for this text's walks alone
set_option linter.unusedVariables false
set_option linter.unusedSimpArgs false

/-! ### punnetref05_Byte: function 53 -/
def punnetref05_Byte.j0 : Nat → Int → Bool → Option (ByteArray)
  | 0, _, _ => none
  | k + 1, x0, x16 => if x16 = true then ((punnetref05_hex.f ((Int.tdiv x0 16) % 256)).bind fun t294 => (if 1 + t294.size ≤ 9223372036854775807 then ((punnetref05_hex.f (Int.tmod x0 16)).bind fun t295 => (if ((⟨#[92]⟩ : ByteArray) ++ t294).size + t295.size ≤ 9223372036854775807 then (some (((⟨#[92]⟩ : ByteArray) ++ t294) ++ t295)) else (none))) else (none))) else (some (strOfNums (([x0] : List Int))))
def punnetref05_Byte.f (k : Nat) (a0 : Int) : Option (ByteArray) := if a0 < 32 then (punnetref05_Byte.j0 k a0 true) else (if a0 > 126 then (punnetref05_Byte.j0 k a0 true) else (if a0 = 34 then (punnetref05_Byte.j0 k a0 true) else (punnetref05_Byte.j0 k a0 (a0 == 92))))
theorem punnetref05_Byte.mono_l : ∀ k, (∀ y0 y1, LeO (punnetref05_Byte.j0 k y0 y1) (punnetref05_Byte.j0 (k + 1) y0 y1))
  | 0 => fun _ _ r h => by simp [punnetref05_Byte.j0] at h
  | k + 1 => by
    have ih0 := punnetref05_Byte.mono_l k
    · intro y0 y1
      unfold punnetref05_Byte.j0
      repeat' first
      | (with_reducible exact ih0 _ _)
      | (with_reducible exact LeO.refl _)
      | (with_reducible exact LeO.none _)
      | (with_reducible refine LeO.ite ?_ ?_)
      | (with_reducible refine LeO.bind ?_ (fun _ => ?_))
      | exact ih0 _ _
      | exact LeO.none _
      | refine LeO.ite ?_ ?_
      | refine LeO.bind ?_ (fun _ => ?_)
theorem punnetref05_Byte.mono : ∀ a0 k, LeO (punnetref05_Byte.f k a0) (punnetref05_Byte.f (k + 1) a0) := by
  intro a0 k
  have ih0 := punnetref05_Byte.mono_l k
  unfold punnetref05_Byte.f
  repeat' first
      | (with_reducible exact ih0 _ _)
      | (with_reducible exact LeO.refl _)
      | (with_reducible exact LeO.none _)
      | (with_reducible refine LeO.ite ?_ ?_)
      | (with_reducible refine LeO.bind ?_ (fun _ => ?_))
      | exact ih0 _ _
      | exact LeO.none _
      | refine LeO.ite ?_ ?_
      | refine LeO.bind ?_ (fun _ => ?_)
set_option maxHeartbeats 8000000 in
set_option maxRecDepth 100000 in
theorem punnetref05_Byte.calls (k : Nat) (a0 : Int) (r : ByteArray) (w : World) (h : punnetref05_Byte.f k a0 = some r) :
    Calls Try.prog 53 #[.int .u8 a0] w fun e w' => e = .returned (.string r) ∧ Below w.heap.size w w' := by
  have HB := Aside0.mk (Below.refl w.heap.size w)
  have H : (if a0 < 32 then (punnetref05_Byte.j0 k a0 true) else (if a0 > 126 then (punnetref05_Byte.j0 k a0 true) else (if a0 = 34 then (punnetref05_Byte.j0 k a0 true) else (punnetref05_Byte.j0 k a0 (a0 == 92))))) = some r := h
  clear h
  have HC2 := Aside0.mk H
  clear H
  go_enter Try.func53, Try.ntmps53
  go_upto_region 1 with (fail)
  go_cut [16] (fun v16 wc => ∃ (kq : Nat) (x16_1 : Bool), v16 = .bool x16_1 ∧ Aside0 (punnetref05_Byte.j0 kq a0 x16_1 = some r) ∧ Aside0 (kq ≤ k) ∧ Aside0 (Below w.heap.size w wc))
  case first =>
    have H := HC2.out
    clear HC2
    by_cases c3 : a0 < 32
    · rw [if_pos c3] at H
      have c3b0 : decide (a0 < 32) = true := decide_eq_true c3
      clear c3
      (first | rw [c3b0] | (simp only [i64_w, i32_w]; rw [c3b0]) | skip)
      have H' := Aside0.mk H
      clear H
      go_wp2
      go_meet
      case rel => exact ⟨_, (true), (by first | rfl | (simp; done) | (simp [*]; done)), H', ⟨by first | omega | exact Nat.le_refl _⟩, ⟨by repeat (first | (with_reducible first | exact HB.out | apply below_alloc | apply pw_below_drewN | apply below_drew1) | exact HB.out)⟩⟩
    · rw [if_neg c3] at H
      have c3b0 : decide (a0 < 32) = false := decide_eq_false c3
      clear c3
      (first | rw [c3b0] | (simp only [i64_w, i32_w]; rw [c3b0]) | skip)
      by_cases c4 : a0 > 126
      · rw [if_pos c4] at H
        have c4b0 : decide (126 < a0) = true := decide_eq_true c4
        clear c4
        have H' := Aside0.mk H
        clear H
        go_wp2
        go_meet
        case rel => exact ⟨_, (true), (by first | rfl | (simp; done) | (simp [*]; done)), H', ⟨by first | omega | exact Nat.le_refl _⟩, ⟨by repeat (first | (with_reducible first | exact HB.out | apply below_alloc | apply pw_below_drewN | apply below_drew1) | exact HB.out)⟩⟩
      · rw [if_neg c4] at H
        have c4b0 : decide (126 < a0) = false := decide_eq_false c4
        clear c4
        by_cases c5 : a0 = 34
        · rw [if_pos c5] at H
          have c5b0 : (a0 == 34) = true := beq_iff_eq.mpr c5
          have c5b1 : (a0 != 34) = false := bne_eq_false_iff_eq.mpr c5
          clear c5
          have H' := Aside0.mk H
          clear H
          go_wp2
          go_meet
          case rel => exact ⟨_, (true), (by first | rfl | (simp; done) | (simp [*]; done)), H', ⟨by first | omega | exact Nat.le_refl _⟩, ⟨by repeat (first | (with_reducible first | exact HB.out | apply below_alloc | apply pw_below_drewN | apply below_drew1) | exact HB.out)⟩⟩
        · rw [if_neg c5] at H
          have c5b0 : (a0 == 34) = false := beq_eq_false_iff_ne.mpr c5
          have c5b1 : (a0 != 34) = true := bne_iff_ne.mpr c5
          have H' := Aside0.mk H
          clear H
          go_wp2
          go_meet
          case rel => exact ⟨_, ((a0 == 92)), (by first | rfl | (simp; done) | (simp [*]; done)), H', ⟨by first | omega | exact Nat.le_refl _⟩, ⟨by repeat (first | (with_reducible first | exact HB.out | apply below_alloc | apply pw_below_drewN | apply below_drew1) | exact HB.out)⟩⟩
  case rest =>
    clear HC2
    try clear p2
    try clear c3
    try clear c3b0
    try clear c4
    try clear c4b0
    try clear c5
    try clear c5b0
    try clear c5b1
    obtain ⟨kq, x16_1, rfl, HA, HJ1, HB⟩ := hcut
    cases kq with
    | zero => exact absurd HA.out (by simp [punnetref05_Byte.j0])
    | succ kj1 =>
      have H := HA.out
      clear HA
      simp only [punnetref05_Byte.j0] at H
      by_cases c6 : x16_1 = true
      · subst c6
        have H1 : ((punnetref05_hex.f ((Int.tdiv a0 16) % 256)).bind fun t294 => (if 1 + t294.size ≤ 9223372036854775807 then ((punnetref05_hex.f (Int.tmod a0 16)).bind fun t295 => (if ((⟨#[92]⟩ : ByteArray) ++ t294).size + t295.size ≤ 9223372036854775807 then (some (((⟨#[92]⟩ : ByteArray) ++ t294) ++ t295)) else (none))) else (none))) = some r := by rw [if_pos rfl] at H; exact H
        clear H
        have H := H1
        clear H1
        replace H := Option.bind_eq_some_iff.mp H
        obtain ⟨t294, A70, H⟩ := H
        replace H : (if 1 + t294.size ≤ 9223372036854775807 then ((punnetref05_hex.f (Int.tmod a0 16)).bind fun t295 => (if ((⟨#[92]⟩ : ByteArray) ++ t294).size + t295.size ≤ 9223372036854775807 then (some (((⟨#[92]⟩ : ByteArray) ++ t294) ++ t295)) else (none))) else (none)) = some r := H
        have A7 := Aside0.mk A70
        clear A70
        by_cases c8 : 1 + t294.size ≤ 9223372036854775807
        · rw [if_pos c8] at H
          have c8b0 := eq_true c8
          have c8b1 : decide (1 + t294.size ≤ 9223372036854775807) = true := decide_eq_true c8
          try have c8b2 : (9223372036854775807 < 1 + t294.size) = False := eq_false (Nat.not_lt.2 c8)
          replace H := Option.bind_eq_some_iff.mp H
          obtain ⟨t295, A90, H⟩ := H
          replace H : (if ((⟨#[92]⟩ : ByteArray) ++ t294).size + t295.size ≤ 9223372036854775807 then (some (((⟨#[92]⟩ : ByteArray) ++ t294) ++ t295)) else (none)) = some r := H
          have A9 := Aside0.mk A90
          clear A90
          by_cases c10 : ((⟨#[92]⟩ : ByteArray) ++ t294).size + t295.size ≤ 9223372036854775807
          · rw [if_pos c10] at H
            have c10b0 := eq_true c10
            have c10b1 : decide (((⟨#[92]⟩ : ByteArray) ++ t294).size + t295.size ≤ 9223372036854775807) = true := decide_eq_true c10
            try have c10b2 : (9223372036854775807 < ((⟨#[92]⟩ : ByteArray) ++ t294).size + t295.size) = False := eq_false (Nat.not_lt.2 c10)
            try (have c10b3 := c10; simp [show (⟨#[92]⟩ : ByteArray).size = 1 from rfl] at c10b3; have c10b4 := eq_false (Nat.not_lt.2 c10b3))
            obtain rfl := Option.some.inj H
            go_wp2_with (first | ((with_reducible refine gate_callee (f := 60) rfl ?_); refine goesL_ (some 19) rfl rfl Try.func60 (by kernel_rfl) rfl #[.int .u8 ((Int.tdiv a0 16) % 256)] rfl (by (try simp only [List.map_toArray, List.map_cons, List.map_nil]); first | done | rfl | (simp only [List.length_drop, List.length_take]; rfl)) ?_; (with_reducible refine (punnetref05_hex.calls ((Int.tdiv a0 16) % 256) t294 _ A7.out).mono ?_); rintro e w11 ⟨rfl, hb⟩; refine ⟨_, rfl, ?_⟩; have n0_ := Aside0.mk (below_step (by repeat (first | (with_reducible first | exact HB.out | apply below_alloc | apply pw_below_drewN | apply below_drew1) | exact HB.out)) hb); clear HB; have HB := n0_; clear n0_; (try clear hb); (try clear hb2); (try clear hk); (try clear hi)) | ((with_reducible refine gate_callee (f := 60) rfl ?_); refine goesL_ (some 23) rfl rfl Try.func60 (by kernel_rfl) rfl #[.int .u8 (Int.tmod a0 16)] rfl (by (try simp only [List.map_toArray, List.map_cons, List.map_nil]); first | done | rfl | (simp only [List.length_drop, List.length_take]; rfl)) ?_; (with_reducible refine (punnetref05_hex.calls (Int.tmod a0 16) t295 _ A9.out).mono ?_); rintro e w12 ⟨rfl, hb⟩; refine ⟨_, rfl, ?_⟩; have n0_ := Aside0.mk (below_step (by repeat (first | (with_reducible first | exact HB.out | apply below_alloc | apply pw_below_drewN | apply below_drew1) | exact HB.out)) hb); clear HB; have HB := n0_; clear n0_; (try clear hb); (try clear hb2); (try clear hk); (try clear hi)))
            go_ret
            exact ⟨by first | rfl | (simp [errW_none, errW_some] <;> rfl) | (simp [*, errW_none, errW_some] <;> rfl), by repeat (first | (with_reducible first | exact HB.out | apply below_alloc | apply pw_below_drewN | apply below_drew1) | exact HB.out)⟩
          · rw [if_neg c10] at H
            exact absurd H (by simp)
        · rw [if_neg c8] at H
          exact absurd H (by simp)
      · replace c6 := Bool.eq_false_iff.mpr c6
        subst c6
        have H1 : (some (strOfNums (([a0] : List Int)))) = some r := by rw [if_neg (show ¬ (false = true) by decide)] at H; exact H
        clear H
        have H := H1
        clear H1
        obtain ⟨y296, hy296⟩ : ∃ y_ : List Int, y_ = (([a0] : List Int)) := ⟨_, rfl⟩
        replace H : (some (strOfNums y296)) = some r := by first | (rw [hy296]; with_reducible exact H) | (have H2_ := (Option.bind_some _ _).symm.trans H; rw [hy296]; with_reducible exact H2_) | (have H2_ := (Option.bind_some _ _).symm.trans H; with_reducible exact H2_) | with_reducible exact H | (rw [hy296]; exact H) | exact H
        have Ny296 := Aside0.mk hy296
        clear hy296
        obtain rfl := Option.some.inj H
        go_wp2_with (first | ((with_reducible refine gate_dst (N := 26) rfl ?_); refine Kd.R_lit (Kd.int .u8) _ 5 ?hg (N := 26) ?hd (xs := ([a0] : List Int)) (inner := [.int .u8 a0]) (ok := fun _ => True) (okp := fun _ => True) ?hr ?hp (fun _ hk => hk) trivial (Below.refl _ _) (Nat.le_refl _) (by simp) ?_; (case hd => rfl); (case hg => rfl); (case hr => first | (go_simp; done) | (go_simp; rfl)); (case hp => exact (Reps.one (show Kd.M (Kd.int .u8) _ _ _ a0 [.int .u8 a0] from rfl) (Reps.none _ _))); intro v297 w13 ho14 hb hg_ hnew_; clear hg_ hnew_; (first | rw [← Ny296.out] at ho14 | (simp only [Int.reduceToNat] at ho14; rw [← Ny296.out] at ho14)); have n0_ := Aside0.mk (Kd.R_lower ho14 (below_size (by repeat (first | (with_reducible first | exact HB.out | apply below_alloc | apply pw_below_drewN | apply below_drew1) | exact HB.out)))); have n1_ := Aside0.mk (below_step (by repeat (first | (with_reducible first | exact HB.out | apply below_alloc | apply pw_below_drewN | apply below_drew1) | exact HB.out)) hb); clear HB; have HO298 := n0_; have HB := n1_; clear n0_ n1_; clear hb ho14; have hcv15 := own_string (P := Try.prog) Try.underlying29 Try.underlying5 Try.underlying9 (Kd.own_of_R HO298.out)))
        go_ret
        exact ⟨by first | rfl | (simp [errW_none, errW_some] <;> rfl) | (simp [*, errW_none, errW_some] <;> rfl), by repeat (first | (with_reducible first | exact HB.out | apply below_alloc | apply pw_below_drewN | apply below_drew1) | exact HB.out)⟩

end Go.Proofs.Ytmmofckknopaaaa.Q
