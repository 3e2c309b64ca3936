/- A function of the program or a law's row comes to what the Lean function beside it says; no condition beyond those typed. Written by a program of this workplace; Lean checks it. -/
import Derived.Test.YtmmofckknopaaaaQ0
import Derived.Test.YtmmofckknopaaaaQ40
import Derived.Test.YtmmofckknopaaaaQ43
import Derived.Test.YtmmofckknopaaaaQ44
import Derived.Test.YtmmofckknopaaaaQ50
import Derived.Test.YtmmofckknopaaaaQ51
namespace Go.Proofs.Ytmmofckknopaaaa.Q
open Go.RowKit Go.Proofs.YtmmofckknopaaaaW.PrintWords Go.Proofs.YtmmofckknopaaaaW.PrintLast Go.Proofs.YtmmofckknopaaaaW.PrintMore
attribute [local go_sem] max2_int min2_int max_two min_two max_three min_three max_four min_four   -- for this text's walks alone
set_option linter.unusedVariables false
set_option linter.unusedSimpArgs false

/-! ### punnetlaw05_NameJoins: function 10 -/
mutual
def punnetlaw05_NameJoins.j0 : Nat → List ByteArray → Bool → Option (Bool)
  | 0, _, _ => none
  | k + 1, x0, x16 => if x16 = true then (some true) else (punnetlaw05_NameJoins.l0 k x0 (([] : List ByteArray)) (⟨#[]⟩ : ByteArray) 0)
def punnetlaw05_NameJoins.l0 : Nat → List ByteArray → List ByteArray → ByteArray → Int → Option (Bool)
  | 0, _, _, _, _ => none
  | k + 1, x0, x3, x4, x5 => if x5 < (x0.length : Int) then (if 0 ≤ x5 then (if ((rdOf ByteArray.empty x0 x5).size : Int) > 200 then (some true) else ((punnetref05_Name.f k (rdOf ByteArray.empty x0 x5)).bind fun t339 => (if t339 = true then (if x3.length < 8796093022208 then ((some (x3 ++ [rdOf ByteArray.empty x0 x5] : List ByteArray)).bind fun y340 => (if x5 > 0 then (if x4.size + 1 ≤ 9223372036854775807 then (if (x4 ++ (⟨#[32]⟩ : ByteArray)).size + (rdOf ByteArray.empty x0 x5).size ≤ 9223372036854775807 then (punnetlaw05_NameJoins.l0 k x0 y340 ((x4 ++ (⟨#[32]⟩ : ByteArray)) ++ (rdOf ByteArray.empty x0 x5)) (wrap64 (x5 + 1))) else (none)) else (none)) else (if x4.size + (rdOf ByteArray.empty x0 x5).size ≤ 9223372036854775807 then (punnetlaw05_NameJoins.l0 k x0 y340 (x4 ++ (rdOf ByteArray.empty x0 x5)) (wrap64 (x5 + 1))) else (none)))) else (none)) else ((punnetref05_Quote.f k (rdOf ByteArray.empty x0 x5)).bind fun t343 => (if x3.length < 8796093022208 then ((some (x3 ++ [t343] : List ByteArray)).bind fun y344 => (if x5 > 0 then (if x4.size + 1 ≤ 9223372036854775807 then (if (x4 ++ (⟨#[32]⟩ : ByteArray)).size + t343.size ≤ 9223372036854775807 then (punnetlaw05_NameJoins.l0 k x0 y344 ((x4 ++ (⟨#[32]⟩ : ByteArray)) ++ t343) (wrap64 (x5 + 1))) else (none)) else (none)) else (if x4.size + t343.size ≤ 9223372036854775807 then (punnetlaw05_NameJoins.l0 k x0 y344 (x4 ++ t343) (wrap64 (x5 + 1))) else (none)))) else (none)))))) else (none)) else ((name_Split.f k x4).bind fun t333 => ((punnetref05_Same.f k t333 x3).bind fun t336 => (some t336)))
end
def punnetlaw05_NameJoins.f (k : Nat) (l0 : List ByteArray) : Option (Bool) := (punnetlaw05_awake.f k).bind fun t329 => (if t329 = true then (if (l0.length : Int) = 0 then (punnetlaw05_NameJoins.j0 k l0 true) else (punnetlaw05_NameJoins.j0 k l0 (decide ((l0.length : Int) > 50)))) else (some false))
theorem punnetlaw05_NameJoins.mono_l : ∀ k, (∀ y0 y1, LeO (punnetlaw05_NameJoins.j0 k y0 y1) (punnetlaw05_NameJoins.j0 (k + 1) y0 y1)) ∧ (∀ y0 y1 y2 y3, LeO (punnetlaw05_NameJoins.l0 k y0 y1 y2 y3) (punnetlaw05_NameJoins.l0 (k + 1) y0 y1 y2 y3))
  | 0 => ⟨fun _ _ r h => by simp [punnetlaw05_NameJoins.j0] at h, fun _ _ _ _ r h => by simp [punnetlaw05_NameJoins.l0] at h⟩
  | k + 1 => by
    obtain ⟨ih0, ih1⟩ := punnetlaw05_NameJoins.mono_l k
    refine ⟨?_, ?_⟩
    · intro y0 y1
      unfold punnetlaw05_NameJoins.j0
      repeat' first
      | (with_reducible exact ih0 _ _)
      | (with_reducible exact ih1 _ _ _ _)
      | (with_reducible exact name_Split.mono _ _)
      | (with_reducible exact punnetlaw05_awake.mono _)
      | (with_reducible exact punnetref05_Name.mono _ _)
      | (with_reducible exact punnetref05_Quote.mono _ _)
      | (with_reducible exact punnetref05_Same.mono _ _ _)
      | (with_reducible exact LeO.refl _)
      | (with_reducible exact LeO.none _)
      | (with_reducible refine LeO.ite ?_ ?_)
      | (with_reducible refine LeO.bind ?_ (fun _ => ?_))
      | exact ih0 _ _
      | exact ih1 _ _ _ _
      | exact name_Split.mono _ _
      | exact punnetlaw05_awake.mono _
      | exact punnetref05_Name.mono _ _
      | exact punnetref05_Quote.mono _ _
      | exact punnetref05_Same.mono _ _ _
      | exact LeO.none _
      | refine LeO.ite ?_ ?_
      | refine LeO.bind ?_ (fun _ => ?_)
    · intro y0 y1 y2 y3
      unfold punnetlaw05_NameJoins.l0
      repeat' first
      | (with_reducible exact ih0 _ _)
      | (with_reducible exact ih1 _ _ _ _)
      | (with_reducible exact name_Split.mono _ _)
      | (with_reducible exact punnetlaw05_awake.mono _)
      | (with_reducible exact punnetref05_Name.mono _ _)
      | (with_reducible exact punnetref05_Quote.mono _ _)
      | (with_reducible exact punnetref05_Same.mono _ _ _)
      | (with_reducible exact LeO.refl _)
      | (with_reducible exact LeO.none _)
      | (with_reducible refine LeO.ite ?_ ?_)
      | (with_reducible refine LeO.bind ?_ (fun _ => ?_))
      | exact ih0 _ _
      | exact ih1 _ _ _ _
      | exact name_Split.mono _ _
      | exact punnetlaw05_awake.mono _
      | exact punnetref05_Name.mono _ _
      | exact punnetref05_Quote.mono _ _
      | exact punnetref05_Same.mono _ _ _
      | exact LeO.none _
      | refine LeO.ite ?_ ?_
      | refine LeO.bind ?_ (fun _ => ?_)
theorem punnetlaw05_NameJoins.mono : ∀ a0 k, LeO (punnetlaw05_NameJoins.f k a0) (punnetlaw05_NameJoins.f (k + 1) a0) := by
  intro a0 k
  obtain ⟨ih0, ih1⟩ := punnetlaw05_NameJoins.mono_l k
  unfold punnetlaw05_NameJoins.f
  repeat' first
      | (with_reducible exact ih0 _ _)
      | (with_reducible exact ih1 _ _ _ _)
      | (with_reducible exact name_Split.mono _ _)
      | (with_reducible exact punnetlaw05_awake.mono _)
      | (with_reducible exact punnetref05_Name.mono _ _)
      | (with_reducible exact punnetref05_Quote.mono _ _)
      | (with_reducible exact punnetref05_Same.mono _ _ _)
      | (with_reducible exact LeO.refl _)
      | (with_reducible exact LeO.none _)
      | (with_reducible refine LeO.ite ?_ ?_)
      | (with_reducible refine LeO.bind ?_ (fun _ => ?_))
      | exact ih0 _ _
      | exact ih1 _ _ _ _
      | exact name_Split.mono _ _
      | exact punnetlaw05_awake.mono _
      | exact punnetref05_Name.mono _ _
      | exact punnetref05_Quote.mono _ _
      | exact punnetref05_Same.mono _ _ _
      | exact LeO.none _
      | refine LeO.ite ?_ ?_
      | refine LeO.bind ?_ (fun _ => ?_)
set_option maxHeartbeats 8000000 in
set_option maxRecDepth 100000 in
theorem punnetlaw05_NameJoins.calls (k : Nat) (A0 : Option Addr) (c0 : Nat) (l0 : List ByteArray) (r : Bool) (w : World) (hr0 : Kd.C Kd.string w A0 l0.length l0) (hc0 : l0.length ≤ c0) (h : punnetlaw05_NameJoins.f k l0 = some r) :
    Calls Try.prog 10 #[.slice A0 l0.length c0] w fun e w' => e = .returned (.bool r) ∧ Below w.heap.size w w' := by
  have HR0 := Aside0.mk hr0
  have HC0 := Aside0.mk hc0
  clear hr0 hc0
  have HB := Aside0.mk (Below.refl w.heap.size w)
  have H : ((punnetlaw05_awake.f k).bind fun t329 => (if t329 = true then (if (l0.length : Int) = 0 then (punnetlaw05_NameJoins.j0 k l0 true) else (punnetlaw05_NameJoins.j0 k l0 (decide ((l0.length : Int) > 50)))) else (some false))) = some r := h
  clear h
  replace H := Option.bind_eq_some_iff.mp H
  obtain ⟨t329, A20, H⟩ := H
  replace H : (if t329 = true then (if (l0.length : Int) = 0 then (punnetlaw05_NameJoins.j0 k l0 true) else (punnetlaw05_NameJoins.j0 k l0 (decide ((l0.length : Int) > 50)))) else (some false)) = some r := H
  have A2 := Aside0.mk A20
  clear A20
  by_cases c3 : t329 = true
  · subst c3
    have H1 : (if (l0.length : Int) = 0 then (punnetlaw05_NameJoins.j0 k l0 true) else (punnetlaw05_NameJoins.j0 k l0 (decide ((l0.length : Int) > 50)))) = some r := by rw [if_pos rfl] at H; exact H
    clear H
    have H := H1
    clear H1
    have HC4 := Aside0.mk H
    clear H
    go_enter Try.func10, Try.ntmps10
    go_upto_region 3 with (first | ((with_reducible refine gate_callee (f := 31) rfl ?_); refine goesL_ (some 7) rfl rfl Try.func31 (by kernel_rfl) rfl #[] rfl (by (try simp only [List.map_toArray, List.map_cons, List.map_nil]); first | done | rfl | (simp only [List.length_drop, List.length_take]; rfl)) ?_; (with_reducible refine (punnetlaw05_awake.calls k  true _ A2.out).mono ?_); rintro e w5 ⟨rfl, hb⟩; refine ⟨_, rfl, ?_⟩; have n0_ := Aside0.mk (below_step (by repeat (first | (with_reducible first | exact HB.out | apply below_alloc | apply pw_below_drewN | apply below_drew1) | exact HB.out)) hb); clear HB; have HB := n0_; clear n0_; (try clear hb); (try clear hb2); (try clear hk); (try clear hi)))
    (try simp only [Act.put, List.setIfInBounds_toArray, List.set_cons_zero, List.set_cons_succ])
    go_cut [16] (fun v16 wc => ∃ (kq : Nat) (x16_3 : Bool), v16 = .bool x16_3 ∧ Aside0 (punnetlaw05_NameJoins.j0 kq l0 x16_3 = some r) ∧ Aside0 (kq ≤ k) ∧ Aside0 (Below w.heap.size w wc))
    case first =>
      have H := HC4.out
      clear HC4
      by_cases c6 : (l0.length : Int) = 0
      · rw [if_pos c6] at H
        have c6b0 : ((l0.length : Int) == 0) = true := beq_iff_eq.mpr c6
        have c6b1 : ((l0.length : Int) != 0) = false := bne_eq_false_iff_eq.mpr c6
        clear c6
        (first | rw [c6b0] | (simp only [i64_w, i32_w]; rw [c6b0]) | skip)
        have H' := Aside0.mk H
        clear H
        go_wp2
        go_meet
        case rel => exact ⟨_, (true), (by first | rfl | (simp; done) | (simp [*]; done)), H', ⟨by first | omega | exact Nat.le_refl _⟩, ⟨by repeat (first | (with_reducible first | exact HB.out | apply below_alloc | apply pw_below_drewN | apply below_drew1) | exact HB.out)⟩⟩
      · rw [if_neg c6] at H
        have c6b0 : ((l0.length : Int) == 0) = false := beq_eq_false_iff_ne.mpr c6
        have c6b1 : ((l0.length : Int) != 0) = true := bne_iff_ne.mpr c6
        have c6b2 : ¬ (l0 = []) := fun h_ => c6 (by rw [h_]; rfl)
        (first | rw [c6b0] | (simp only [i64_w, i32_w]; rw [c6b0]) | skip)
        have H' := Aside0.mk H
        clear H
        go_wp2
        go_meet
        case rel => exact ⟨_, (decide ((l0.length : Int) > 50)), (by first | rfl | (simp; done) | (simp [*]; done)), H', ⟨by first | omega | exact Nat.le_refl _⟩, ⟨by repeat (first | (with_reducible first | exact HB.out | apply below_alloc | apply pw_below_drewN | apply below_drew1) | exact HB.out)⟩⟩
    case rest =>
      clear HC4
      try clear c1
      try clear p2
      try clear c3
      try clear c6
      try clear c6b0
      try clear c6b1
      try clear c6b2
      obtain ⟨kq, x16_3, rfl, HA, HJ3, HB⟩ := hcut
      cases kq with
      | zero => exact absurd HA.out (by simp [punnetlaw05_NameJoins.j0])
      | succ kj3 =>
        have H := HA.out
        clear HA
        simp only [punnetlaw05_NameJoins.j0] at H
        by_cases c7 : x16_3 = true
        · subst c7
          have H1 : (some true) = some r := by rw [if_pos rfl] at H; exact H
          clear H
          have H := H1
          clear H1
          obtain rfl := Option.some.inj H
          go_wp2
          go_ret
          exact ⟨by first | rfl | (simp [errW_none, errW_some] <;> rfl) | (simp [*, errW_none, errW_some] <;> rfl), by repeat (first | (with_reducible first | exact HB.out | apply below_alloc | apply pw_below_drewN | apply below_drew1) | exact HB.out)⟩
        · replace c7 := Bool.eq_false_iff.mpr c7
          subst c7
          have H1 : (punnetlaw05_NameJoins.l0 kj3 l0 (([] : List ByteArray)) (⟨#[]⟩ : ByteArray) 0) = some r := by rw [if_neg (show ¬ (false = true) by decide)] at H; exact H
          clear H
          have H := H1
          clear H1
          obtain ⟨y330, hy330⟩ : ∃ y_ : List ByteArray, y_ = (([] : List ByteArray)) := ⟨_, rfl⟩
          replace H : (punnetlaw05_NameJoins.l0 kj3 l0 y330 (⟨#[]⟩ : ByteArray) 0) = some r := by first | (rw [hy330]; with_reducible exact H) | (have H2_ := (Option.bind_some _ _).symm.trans H; rw [hy330]; with_reducible exact H2_) | (have H2_ := (Option.bind_some _ _).symm.trans H; with_reducible exact H2_) | with_reducible exact H | (rw [hy330]; exact H) | exact H
          have Ny330 := Aside0.mk hy330
          clear hy330
          have H' := Aside0.mk H
          clear H
          go_wp2_with (first | ((with_reducible refine gate_dst (N := 17) rfl ?_); (try (refine gate_guard (by rfl) ?_; dsimp only)); refine Kd.R_lit Kd.string _ 9 ?hg (N := 17) ?hd (xs := ([] : List ByteArray)) (inner := []) (ok := fun _ => True) (okp := fun _ => True) ?hr ?hp (fun _ hk => hk) trivial (Below.refl _ _) (Nat.le_refl _) (by simp) ?_; (case hd => rfl); (case hg => rfl); (case hr => first | (go_simp; done) | (go_simp; rfl)); (case hp => exact (Reps.none _ _)); intro v331 w8 ho9 hb hg_ hnew_; clear hg_ hnew_; (first | rw [← Ny330.out] at ho9 | (simp only [Int.reduceToNat] at ho9; rw [← Ny330.out] at ho9)); have n0_ := Aside0.mk (Kd.R_lower ho9 (below_size (by repeat (first | (with_reducible first | exact HB.out | apply below_alloc | apply pw_below_drewN | apply below_drew1) | exact HB.out)))); have n1_ := Aside0.mk (below_step (by repeat (first | (with_reducible first | exact HB.out | apply below_alloc | apply pw_below_drewN | apply below_drew1) | exact HB.out)) hb); clear HB; have HO332 := n0_; have HB := n1_; clear n0_ n1_; clear hb ho9))
          go_loopg [3, 4, 5] kj3 (fun kq v3 v4 v5 w' => ∃ (x3_2 : List ByteArray) (x4_2 : ByteArray) (x5_2 : Int), v4 = .string x4_2 ∧ v5 = .int .i64 x5_2 ∧ Aside0 (punnetlaw05_NameJoins.l0 kq l0 x3_2 x4_2 x5_2 = some r) ∧ Aside0 (kq ≤ kj3) ∧ Aside0 (Kd.R Kd.string 9 w' w.heap.size (fun _ => True) v3 x3_2) ∧ Aside0 (Below w.heap.size w w'))
          case atStart => exact ⟨(y330), ((⟨#[]⟩ : ByteArray)), (0), (by first | rfl | (simp; done) | (simp [*]; done)), (by first | rfl | (simp; done) | (simp [*]; done)), H', ⟨Nat.le_refl _⟩, ⟨by (with_reducible repeat (first | apply Kd.R_alloc | apply Kd.R_drewN | apply Kd.R_drew)); exact HO332.out⟩, ⟨by repeat (first | (with_reducible first | exact HB.out | apply below_alloc | apply pw_below_drewN | apply below_drew1) | exact HB.out)⟩⟩
          case round =>
            clear H'
            try clear c1
            try clear p2
            try clear c3
            try clear c6
            try clear c6b0
            try clear c6b1
            try clear c6b2
            try clear c7
            try clear p2
            obtain ⟨x3_2, x4_2, x5_2, rfl, rfl, HA, HK2, HO_3, HB⟩ := hrel
            cases gk with
            | zero => exact absurd HA.out (by simp [punnetlaw05_NameJoins.l0])
            | succ k2 =>
              have H := HA.out
              clear HA
              simp only [punnetlaw05_NameJoins.l0] at H
              by_cases c10 : x5_2 < (l0.length : Int)
              · rw [if_pos c10] at H
                have c10b0 : decide (x5_2 < (l0.length : Int)) = true := decide_eq_true c10
                clear c10
                by_cases c11 : 0 ≤ x5_2
                · rw [if_pos c11] at H
                  have c11b0 : decide (0 ≤ x5_2) = true := decide_eq_true c11
                  clear c11
                  by_cases c12 : ((rdOf ByteArray.empty l0 x5_2).size : Int) > 200
                  · rw [if_pos c12] at H
                    have c12b0 : decide (200 < ((rdOf ByteArray.empty l0 x5_2).size : Int)) = true := decide_eq_true c12
                    have c12b1 : decide (200 < (rdOf ByteArray.empty l0 x5_2).size) = true := decide_eq_true (by omega)
                    clear c12
                    obtain rfl := Option.some.inj H
                    have p337 : 0 ≤ (x5_2 : Int) := of_decide_eq_true (by first | (with_reducible assumption) | assumption)
                    have q337 : x5_2 < (l0.length : Int) := of_decide_eq_true (by first | (with_reducible assumption) | assumption)
                    obtain ⟨ad337, e337, hx337_0⟩ := Kd.at_string HR0.out x5_2 p337 q337
                    cases e337
                    replace hx337_0 := (HB.out.cell (World.block_lt_of_cell? w _ hx337_0)).trans hx337_0
                    replace p337 := eq_true p337
                    replace q337 := eq_true q337
                    go_wp2
                    go_ret
                    exact ⟨by first | rfl | (simp [errW_none, errW_some] <;> rfl) | (simp [*, errW_none, errW_some] <;> rfl), by repeat (first | (with_reducible first | exact HB.out | apply below_alloc | apply pw_below_drewN | apply below_drew1) | exact HB.out)⟩
                  · rw [if_neg c12] at H
                    have c12b0 : decide (200 < ((rdOf ByteArray.empty l0 x5_2).size : Int)) = false := decide_eq_false c12
                    have c12b1 : decide (200 < (rdOf ByteArray.empty l0 x5_2).size) = false := decide_eq_false (by omega)
                    clear c12
                    replace H := Option.bind_eq_some_iff.mp H
                    obtain ⟨t339, A130, H⟩ := H
                    replace H : (if t339 = true then (if x3_2.length < 8796093022208 then ((some (x3_2 ++ [rdOf ByteArray.empty l0 x5_2] : List ByteArray)).bind fun y340 => (if x5_2 > 0 then (if x4_2.size + 1 ≤ 9223372036854775807 then (if (x4_2 ++ (⟨#[32]⟩ : ByteArray)).size + (rdOf ByteArray.empty l0 x5_2).size ≤ 9223372036854775807 then (punnetlaw05_NameJoins.l0 k2 l0 y340 ((x4_2 ++ (⟨#[32]⟩ : ByteArray)) ++ (rdOf ByteArray.empty l0 x5_2)) (wrap64 (x5_2 + 1))) else (none)) else (none)) else (if x4_2.size + (rdOf ByteArray.empty l0 x5_2).size ≤ 9223372036854775807 then (punnetlaw05_NameJoins.l0 k2 l0 y340 (x4_2 ++ (rdOf ByteArray.empty l0 x5_2)) (wrap64 (x5_2 + 1))) else (none)))) else (none)) else ((punnetref05_Quote.f k2 (rdOf ByteArray.empty l0 x5_2)).bind fun t343 => (if x3_2.length < 8796093022208 then ((some (x3_2 ++ [t343] : List ByteArray)).bind fun y344 => (if x5_2 > 0 then (if x4_2.size + 1 ≤ 9223372036854775807 then (if (x4_2 ++ (⟨#[32]⟩ : ByteArray)).size + t343.size ≤ 9223372036854775807 then (punnetlaw05_NameJoins.l0 k2 l0 y344 ((x4_2 ++ (⟨#[32]⟩ : ByteArray)) ++ t343) (wrap64 (x5_2 + 1))) else (none)) else (none)) else (if x4_2.size + t343.size ≤ 9223372036854775807 then (punnetlaw05_NameJoins.l0 k2 l0 y344 (x4_2 ++ t343) (wrap64 (x5_2 + 1))) else (none)))) else (none)))) = some r := H
                    have A13 := Aside0.mk A130
                    clear A130
                    by_cases c14 : t339 = true
                    · subst c14
                      have H1 : (if x3_2.length < 8796093022208 then ((some (x3_2 ++ [rdOf ByteArray.empty l0 x5_2] : List ByteArray)).bind fun y340 => (if x5_2 > 0 then (if x4_2.size + 1 ≤ 9223372036854775807 then (if (x4_2 ++ (⟨#[32]⟩ : ByteArray)).size + (rdOf ByteArray.empty l0 x5_2).size ≤ 9223372036854775807 then (punnetlaw05_NameJoins.l0 k2 l0 y340 ((x4_2 ++ (⟨#[32]⟩ : ByteArray)) ++ (rdOf ByteArray.empty l0 x5_2)) (wrap64 (x5_2 + 1))) else (none)) else (none)) else (if x4_2.size + (rdOf ByteArray.empty l0 x5_2).size ≤ 9223372036854775807 then (punnetlaw05_NameJoins.l0 k2 l0 y340 (x4_2 ++ (rdOf ByteArray.empty l0 x5_2)) (wrap64 (x5_2 + 1))) else (none)))) else (none)) = some r := by rw [if_pos rfl] at H; exact H
                      clear H
                      have H := H1
                      clear H1
                      by_cases c15 : x3_2.length < 8796093022208
                      · rw [if_pos c15] at H
                        have LMc15 := Aside0.mk c15
                        clear c15
                        obtain ⟨y340, hy340⟩ : ∃ y_ : List ByteArray, y_ = (x3_2 ++ [rdOf ByteArray.empty l0 x5_2]) := ⟨_, rfl⟩
                        replace H : (if x5_2 > 0 then (if x4_2.size + 1 ≤ 9223372036854775807 then (if (x4_2 ++ (⟨#[32]⟩ : ByteArray)).size + (rdOf ByteArray.empty l0 x5_2).size ≤ 9223372036854775807 then (punnetlaw05_NameJoins.l0 k2 l0 y340 ((x4_2 ++ (⟨#[32]⟩ : ByteArray)) ++ (rdOf ByteArray.empty l0 x5_2)) (wrap64 (x5_2 + 1))) else (none)) else (none)) else (if x4_2.size + (rdOf ByteArray.empty l0 x5_2).size ≤ 9223372036854775807 then (punnetlaw05_NameJoins.l0 k2 l0 y340 (x4_2 ++ (rdOf ByteArray.empty l0 x5_2)) (wrap64 (x5_2 + 1))) else (none))) = some r := by first | (rw [hy340]; with_reducible exact H) | (have H2_ := (Option.bind_some _ _).symm.trans H; rw [hy340]; with_reducible exact H2_) | (have H2_ := (Option.bind_some _ _).symm.trans H; with_reducible exact H2_) | with_reducible exact H | (rw [hy340]; exact H) | exact H
                        have Ny340 := Aside0.mk hy340
                        clear hy340
                        by_cases c16 : x5_2 > 0
                        · rw [if_pos c16] at H
                          have c16b0 : decide (0 < x5_2) = true := decide_eq_true c16
                          clear c16
                          by_cases c17 : x4_2.size + 1 ≤ 9223372036854775807
                          · rw [if_pos c17] at H
                            have c17b0 := eq_true c17
                            have c17b1 : decide (x4_2.size + 1 ≤ 9223372036854775807) = true := decide_eq_true c17
                            try have c17b2 : (9223372036854775807 < x4_2.size + 1) = False := eq_false (Nat.not_lt.2 c17)
                            by_cases c18 : (x4_2 ++ (⟨#[32]⟩ : ByteArray)).size + (rdOf ByteArray.empty l0 x5_2).size ≤ 9223372036854775807
                            · rw [if_pos c18] at H
                              have c18b0 := eq_true c18
                              have c18b1 : decide ((x4_2 ++ (⟨#[32]⟩ : ByteArray)).size + (rdOf ByteArray.empty l0 x5_2).size ≤ 9223372036854775807) = true := decide_eq_true c18
                              try have c18b2 : (9223372036854775807 < (x4_2 ++ (⟨#[32]⟩ : ByteArray)).size + (rdOf ByteArray.empty l0 x5_2).size) = False := eq_false (Nat.not_lt.2 c18)
                              try (have c18b3 := c18; simp [show (⟨#[32]⟩ : ByteArray).size = 1 from rfl] at c18b3; have c18b4 := eq_false (Nat.not_lt.2 c18b3))
                              have H' := Aside0.mk H
                              clear H
                              have p337 : 0 ≤ (x5_2 : Int) := of_decide_eq_true (by first | (with_reducible assumption) | assumption)
                              have q337 : x5_2 < (l0.length : Int) := of_decide_eq_true (by first | (with_reducible assumption) | assumption)
                              obtain ⟨ad337, e337, hx337_0⟩ := Kd.at_string HR0.out x5_2 p337 q337
                              cases e337
                              replace hx337_0 := (HB.out.cell (World.block_lt_of_cell? w _ hx337_0)).trans hx337_0
                              replace p337 := eq_true p337
                              replace q337 := eq_true q337
                              have p338 : 0 ≤ (x5_2 : Int) := of_decide_eq_true (by first | (with_reducible assumption) | assumption)
                              have q338 : x5_2 < (l0.length : Int) := of_decide_eq_true (by first | (with_reducible assumption) | assumption)
                              obtain ⟨ad338, e338, hx338_0⟩ := Kd.at_string HR0.out x5_2 p338 q338
                              obtain rfl : ad337 = ad338 := (by injection e338)
                              replace hx338_0 := (HB.out.cell (World.block_lt_of_cell? w _ hx338_0)).trans hx338_0
                              replace p338 := eq_true p338
                              replace q338 := eq_true q338
                              go_wp2_with (first | ((with_reducible refine gate_callee (f := 35) rfl ?_); refine goesL_ (some 35) rfl rfl Try.func35 (by kernel_rfl) rfl #[.string (rdOf ByteArray.empty l0 x5_2)] rfl (by (try simp only [List.map_toArray, List.map_cons, List.map_nil]); first | done | rfl | (simp only [List.length_drop, List.length_take]; rfl)) ?_; (with_reducible refine (punnetref05_Name.calls k2 (rdOf ByteArray.empty l0 x5_2) true _ A13.out).mono ?_); rintro e w' ⟨rfl, ⟨nd, rfl⟩⟩; refine ⟨_, rfl, ?_⟩) | ((with_reducible refine gate_builtin (b := .append) (xs := #[.tmp 39, .tmp 41]) rfl ?_); (try (refine gate_guard (by rfl) ?_; dsimp only)); at_builtin; refine Kd.R_append Kd.string (w0 := w) w.heap.size rfl (.tmp 39) (.tmp 41) 44 9 (.string ⟨#[]⟩) 16 rfl Try.underlying44 info9 rfl (by decide) (by omega) u3 x3_2 (rdOf ByteArray.empty l0 x5_2) [.string (rdOf ByteArray.empty l0 x5_2)] (fun _ => True) (fun _ => False) rfl rfl ?aP (fun _ hk => hk.elim) ?aF ?aO ?aB ?aS ?aL ?_; (case aP => exact rfl); (case aB => exact (by repeat (first | (with_reducible first | exact HB.out | apply below_alloc | apply pw_below_drewN | apply below_drew1) | exact HB.out))); (case aF => exact (fun _ _ => trivial)); (case aO => exact (by (with_reducible repeat (first | apply Kd.R_alloc | apply Kd.R_drewN | apply Kd.R_drew)); exact HO_3.out)); (case aS => exact (below_size (by repeat (first | (with_reducible first | exact HB.out | apply below_alloc | apply pw_below_drewN | apply below_drew1) | exact HB.out)))); (case aL => have := LMc15.out; omega); intro v341 w19 ho hb hg hat; rw [← Ny340.out] at ho; have n0_ := Aside0.mk (hb); have n1_ := Aside0.mk (ho); clear HB; clear HO_3; have HB := n0_; have HO342 := n1_; clear n0_ n1_; clear ho hb hg hat))
                              go_roundg k2
                              case measure => have := HJ3.out; have := HK2.out; omega
                              case rel => exact ⟨(y340), ((x4_2 ++ (⟨#[32]⟩ : ByteArray)) ++ (rdOf ByteArray.empty l0 x5_2)), (wrap64 (x5_2 + 1)), (by first | rfl | (simp; done) | (simp [*]; done)), (by first | rfl | (simp; done) | (simp [*]; done)), H', ⟨by have := HJ3.out; have := HK2.out; omega⟩, ⟨by (with_reducible repeat (first | apply Kd.R_alloc | apply Kd.R_drewN | apply Kd.R_drew)); exact HO342.out⟩, ⟨by repeat (first | (with_reducible first | exact HB.out | apply below_alloc | apply pw_below_drewN | apply below_drew1) | exact HB.out)⟩⟩
                            · rw [if_neg c18] at H
                              exact absurd H (by simp)
                          · rw [if_neg c17] at H
                            exact absurd H (by simp)
                        · rw [if_neg c16] at H
                          have c16b0 : decide (0 < x5_2) = false := decide_eq_false c16
                          clear c16
                          by_cases c20 : x4_2.size + (rdOf ByteArray.empty l0 x5_2).size ≤ 9223372036854775807
                          · rw [if_pos c20] at H
                            have c20b0 := eq_true c20
                            have c20b1 : decide (x4_2.size + (rdOf ByteArray.empty l0 x5_2).size ≤ 9223372036854775807) = true := decide_eq_true c20
                            try have c20b2 : (9223372036854775807 < x4_2.size + (rdOf ByteArray.empty l0 x5_2).size) = False := eq_false (Nat.not_lt.2 c20)
                            have H' := Aside0.mk H
                            clear H
                            have p337 : 0 ≤ (x5_2 : Int) := of_decide_eq_true (by first | (with_reducible assumption) | assumption)
                            have q337 : x5_2 < (l0.length : Int) := of_decide_eq_true (by first | (with_reducible assumption) | assumption)
                            obtain ⟨ad337, e337, hx337_0⟩ := Kd.at_string HR0.out x5_2 p337 q337
                            cases e337
                            replace hx337_0 := (HB.out.cell (World.block_lt_of_cell? w _ hx337_0)).trans hx337_0
                            replace p337 := eq_true p337
                            replace q337 := eq_true q337
                            have p338 : 0 ≤ (x5_2 : Int) := of_decide_eq_true (by first | (with_reducible assumption) | assumption)
                            have q338 : x5_2 < (l0.length : Int) := of_decide_eq_true (by first | (with_reducible assumption) | assumption)
                            obtain ⟨ad338, e338, hx338_0⟩ := Kd.at_string HR0.out x5_2 p338 q338
                            obtain rfl : ad337 = ad338 := (by injection e338)
                            replace hx338_0 := (HB.out.cell (World.block_lt_of_cell? w _ hx338_0)).trans hx338_0
                            replace p338 := eq_true p338
                            replace q338 := eq_true q338
                            go_wp2_with (first | ((with_reducible refine gate_callee (f := 35) rfl ?_); refine goesL_ (some 35) rfl rfl Try.func35 (by kernel_rfl) rfl #[.string (rdOf ByteArray.empty l0 x5_2)] rfl (by (try simp only [List.map_toArray, List.map_cons, List.map_nil]); first | done | rfl | (simp only [List.length_drop, List.length_take]; rfl)) ?_; (with_reducible refine (punnetref05_Name.calls k2 (rdOf ByteArray.empty l0 x5_2) true _ A13.out).mono ?_); rintro e w' ⟨rfl, ⟨nd, rfl⟩⟩; refine ⟨_, rfl, ?_⟩) | ((with_reducible refine gate_builtin (b := .append) (xs := #[.tmp 39, .tmp 41]) rfl ?_); (try (refine gate_guard (by rfl) ?_; dsimp only)); at_builtin; refine Kd.R_append Kd.string (w0 := w) w.heap.size rfl (.tmp 39) (.tmp 41) 44 9 (.string ⟨#[]⟩) 16 rfl Try.underlying44 info9 rfl (by decide) (by omega) u3 x3_2 (rdOf ByteArray.empty l0 x5_2) [.string (rdOf ByteArray.empty l0 x5_2)] (fun _ => True) (fun _ => False) rfl rfl ?aP (fun _ hk => hk.elim) ?aF ?aO ?aB ?aS ?aL ?_; (case aP => exact rfl); (case aB => exact (by repeat (first | (with_reducible first | exact HB.out | apply below_alloc | apply pw_below_drewN | apply below_drew1) | exact HB.out))); (case aF => exact (fun _ _ => trivial)); (case aO => exact (by (with_reducible repeat (first | apply Kd.R_alloc | apply Kd.R_drewN | apply Kd.R_drew)); exact HO_3.out)); (case aS => exact (below_size (by repeat (first | (with_reducible first | exact HB.out | apply below_alloc | apply pw_below_drewN | apply below_drew1) | exact HB.out)))); (case aL => have := LMc15.out; omega); intro v341 w21 ho hb hg hat; rw [← Ny340.out] at ho; have n0_ := Aside0.mk (hb); have n1_ := Aside0.mk (ho); clear HB; clear HO_3; have HB := n0_; have HO342 := n1_; clear n0_ n1_; clear ho hb hg hat))
                            go_roundg k2
                            case measure => have := HJ3.out; have := HK2.out; omega
                            case rel => exact ⟨(y340), (x4_2 ++ (rdOf ByteArray.empty l0 x5_2)), (wrap64 (x5_2 + 1)), (by first | rfl | (simp; done) | (simp [*]; done)), (by first | rfl | (simp; done) | (simp [*]; done)), H', ⟨by have := HJ3.out; have := HK2.out; omega⟩, ⟨by (with_reducible repeat (first | apply Kd.R_alloc | apply Kd.R_drewN | apply Kd.R_drew)); exact HO342.out⟩, ⟨by repeat (first | (with_reducible first | exact HB.out | apply below_alloc | apply pw_below_drewN | apply below_drew1) | exact HB.out)⟩⟩
                          · rw [if_neg c20] at H
                            exact absurd H (by simp)
                      · rw [if_neg c15] at H
                        exact absurd H (by simp)
                    · replace c14 := Bool.eq_false_iff.mpr c14
                      subst c14
                      have H1 : ((punnetref05_Quote.f k2 (rdOf ByteArray.empty l0 x5_2)).bind fun t343 => (if x3_2.length < 8796093022208 then ((some (x3_2 ++ [t343] : List ByteArray)).bind fun y344 => (if x5_2 > 0 then (if x4_2.size + 1 ≤ 9223372036854775807 then (if (x4_2 ++ (⟨#[32]⟩ : ByteArray)).size + t343.size ≤ 9223372036854775807 then (punnetlaw05_NameJoins.l0 k2 l0 y344 ((x4_2 ++ (⟨#[32]⟩ : ByteArray)) ++ t343) (wrap64 (x5_2 + 1))) else (none)) else (none)) else (if x4_2.size + t343.size ≤ 9223372036854775807 then (punnetlaw05_NameJoins.l0 k2 l0 y344 (x4_2 ++ t343) (wrap64 (x5_2 + 1))) else (none)))) else (none))) = some r := by rw [if_neg (show ¬ (false = true) by decide)] at H; exact H
                      clear H
                      have H := H1
                      clear H1
                      replace H := Option.bind_eq_some_iff.mp H
                      obtain ⟨t343, A220, H⟩ := H
                      replace H : (if x3_2.length < 8796093022208 then ((some (x3_2 ++ [t343] : List ByteArray)).bind fun y344 => (if x5_2 > 0 then (if x4_2.size + 1 ≤ 9223372036854775807 then (if (x4_2 ++ (⟨#[32]⟩ : ByteArray)).size + t343.size ≤ 9223372036854775807 then (punnetlaw05_NameJoins.l0 k2 l0 y344 ((x4_2 ++ (⟨#[32]⟩ : ByteArray)) ++ t343) (wrap64 (x5_2 + 1))) else (none)) else (none)) else (if x4_2.size + t343.size ≤ 9223372036854775807 then (punnetlaw05_NameJoins.l0 k2 l0 y344 (x4_2 ++ t343) (wrap64 (x5_2 + 1))) else (none)))) else (none)) = some r := H
                      have A22 := Aside0.mk A220
                      clear A220
                      by_cases c23 : x3_2.length < 8796093022208
                      · rw [if_pos c23] at H
                        have LMc23 := Aside0.mk c23
                        clear c23
                        obtain ⟨y344, hy344⟩ : ∃ y_ : List ByteArray, y_ = (x3_2 ++ [t343]) := ⟨_, rfl⟩
                        replace H : (if x5_2 > 0 then (if x4_2.size + 1 ≤ 9223372036854775807 then (if (x4_2 ++ (⟨#[32]⟩ : ByteArray)).size + t343.size ≤ 9223372036854775807 then (punnetlaw05_NameJoins.l0 k2 l0 y344 ((x4_2 ++ (⟨#[32]⟩ : ByteArray)) ++ t343) (wrap64 (x5_2 + 1))) else (none)) else (none)) else (if x4_2.size + t343.size ≤ 9223372036854775807 then (punnetlaw05_NameJoins.l0 k2 l0 y344 (x4_2 ++ t343) (wrap64 (x5_2 + 1))) else (none))) = some r := by first | (rw [hy344]; with_reducible exact H) | (have H2_ := (Option.bind_some _ _).symm.trans H; rw [hy344]; with_reducible exact H2_) | (have H2_ := (Option.bind_some _ _).symm.trans H; with_reducible exact H2_) | with_reducible exact H | (rw [hy344]; exact H) | exact H
                        have Ny344 := Aside0.mk hy344
                        clear hy344
                        by_cases c24 : x5_2 > 0
                        · rw [if_pos c24] at H
                          have c24b0 : decide (0 < x5_2) = true := decide_eq_true c24
                          clear c24
                          by_cases c25 : x4_2.size + 1 ≤ 9223372036854775807
                          · rw [if_pos c25] at H
                            have c25b0 := eq_true c25
                            have c25b1 : decide (x4_2.size + 1 ≤ 9223372036854775807) = true := decide_eq_true c25
                            try have c25b2 : (9223372036854775807 < x4_2.size + 1) = False := eq_false (Nat.not_lt.2 c25)
                            by_cases c26 : (x4_2 ++ (⟨#[32]⟩ : ByteArray)).size + t343.size ≤ 9223372036854775807
                            · rw [if_pos c26] at H
                              have c26b0 := eq_true c26
                              have c26b1 : decide ((x4_2 ++ (⟨#[32]⟩ : ByteArray)).size + t343.size ≤ 9223372036854775807) = true := decide_eq_true c26
                              try have c26b2 : (9223372036854775807 < (x4_2 ++ (⟨#[32]⟩ : ByteArray)).size + t343.size) = False := eq_false (Nat.not_lt.2 c26)
                              try (have c26b3 := c26; simp [show (⟨#[32]⟩ : ByteArray).size = 1 from rfl] at c26b3; have c26b4 := eq_false (Nat.not_lt.2 c26b3))
                              have H' := Aside0.mk H
                              clear H
                              have p337 : 0 ≤ (x5_2 : Int) := of_decide_eq_true (by first | (with_reducible assumption) | assumption)
                              have q337 : x5_2 < (l0.length : Int) := of_decide_eq_true (by first | (with_reducible assumption) | assumption)
                              obtain ⟨ad337, e337, hx337_0⟩ := Kd.at_string HR0.out x5_2 p337 q337
                              cases e337
                              replace hx337_0 := (HB.out.cell (World.block_lt_of_cell? w _ hx337_0)).trans hx337_0
                              replace p337 := eq_true p337
                              replace q337 := eq_true q337
                              have p338 : 0 ≤ (x5_2 : Int) := of_decide_eq_true (by first | (with_reducible assumption) | assumption)
                              have q338 : x5_2 < (l0.length : Int) := of_decide_eq_true (by first | (with_reducible assumption) | assumption)
                              obtain ⟨ad338, e338, hx338_0⟩ := Kd.at_string HR0.out x5_2 p338 q338
                              obtain rfl : ad337 = ad338 := (by injection e338)
                              replace hx338_0 := (HB.out.cell (World.block_lt_of_cell? w _ hx338_0)).trans hx338_0
                              replace p338 := eq_true p338
                              replace q338 := eq_true q338
                              go_wp2_with (first | ((with_reducible refine gate_callee (f := 35) rfl ?_); refine goesL_ (some 35) rfl rfl Try.func35 (by kernel_rfl) rfl #[.string (rdOf ByteArray.empty l0 x5_2)] rfl (by (try simp only [List.map_toArray, List.map_cons, List.map_nil]); first | done | rfl | (simp only [List.length_drop, List.length_take]; rfl)) ?_; (with_reducible refine (punnetref05_Name.calls k2 (rdOf ByteArray.empty l0 x5_2) false _ A13.out).mono ?_); rintro e w' ⟨rfl, ⟨nd, rfl⟩⟩; refine ⟨_, rfl, ?_⟩) | ((with_reducible refine gate_callee (f := 36) rfl ?_); refine goesL_ (some 38) rfl rfl Try.func36 (by kernel_rfl) rfl #[.string (rdOf ByteArray.empty l0 x5_2)] rfl (by (try simp only [List.map_toArray, List.map_cons, List.map_nil]); first | done | rfl | (simp only [List.length_drop, List.length_take]; rfl)) ?_; (with_reducible refine (punnetref05_Quote.calls k2 (rdOf ByteArray.empty l0 x5_2) t343 _ A22.out).mono ?_); rintro e w27 ⟨rfl, hb⟩; refine ⟨_, rfl, ?_⟩; have n0_ := Aside0.mk (Kd.R_below (by (with_reducible repeat (first | apply Kd.R_alloc | apply Kd.R_drewN | apply Kd.R_drew)); exact HO_3.out) hb); have n1_ := Aside0.mk (below_step (by repeat (first | (with_reducible first | exact HB.out | apply below_alloc | apply pw_below_drewN | apply below_drew1) | exact HB.out)) hb); clear HO_3; clear HB; have HO_3 := n0_; have HB := n1_; clear n0_ n1_; (try clear hb); (try clear hb2); (try clear hk); (try clear hi)) | ((with_reducible refine gate_builtin (b := .append) (xs := #[.tmp 39, .tmp 41]) rfl ?_); (try (refine gate_guard (by rfl) ?_; dsimp only)); at_builtin; refine Kd.R_append Kd.string (w0 := w) w.heap.size rfl (.tmp 39) (.tmp 41) 44 9 (.string ⟨#[]⟩) 16 rfl Try.underlying44 info9 rfl (by decide) (by omega) u3 x3_2 t343 [.string t343] (fun _ => True) (fun _ => False) rfl rfl ?aP (fun _ hk => hk.elim) ?aF ?aO ?aB ?aS ?aL ?_; (case aP => exact rfl); (case aB => exact (by repeat (first | (with_reducible first | exact HB.out | apply below_alloc | apply pw_below_drewN | apply below_drew1) | exact HB.out))); (case aF => exact (fun _ _ => trivial)); (case aO => exact (by (with_reducible repeat (first | apply Kd.R_alloc | apply Kd.R_drewN | apply Kd.R_drew)); exact HO_3.out)); (case aS => exact (below_size (by repeat (first | (with_reducible first | exact HB.out | apply below_alloc | apply pw_below_drewN | apply below_drew1) | exact HB.out)))); (case aL => have := LMc23.out; omega); intro v345 w28 ho hb hg hat; rw [← Ny344.out] at ho; have n0_ := Aside0.mk (hb); have n1_ := Aside0.mk (ho); clear HB; clear HO_3; have HB := n0_; have HO346 := n1_; clear n0_ n1_; clear ho hb hg hat))
                              go_roundg k2
                              case measure => have := HJ3.out; have := HK2.out; omega
                              case rel => exact ⟨(y344), ((x4_2 ++ (⟨#[32]⟩ : ByteArray)) ++ t343), (wrap64 (x5_2 + 1)), (by first | rfl | (simp; done) | (simp [*]; done)), (by first | rfl | (simp; done) | (simp [*]; done)), H', ⟨by have := HJ3.out; have := HK2.out; omega⟩, ⟨by (with_reducible repeat (first | apply Kd.R_alloc | apply Kd.R_drewN | apply Kd.R_drew)); exact HO346.out⟩, ⟨by repeat (first | (with_reducible first | exact HB.out | apply below_alloc | apply pw_below_drewN | apply below_drew1) | exact HB.out)⟩⟩
                            · rw [if_neg c26] at H
                              exact absurd H (by simp)
                          · rw [if_neg c25] at H
                            exact absurd H (by simp)
                        · rw [if_neg c24] at H
                          have c24b0 : decide (0 < x5_2) = false := decide_eq_false c24
                          clear c24
                          by_cases c29 : x4_2.size + t343.size ≤ 9223372036854775807
                          · rw [if_pos c29] at H
                            have c29b0 := eq_true c29
                            have c29b1 : decide (x4_2.size + t343.size ≤ 9223372036854775807) = true := decide_eq_true c29
                            try have c29b2 : (9223372036854775807 < x4_2.size + t343.size) = False := eq_false (Nat.not_lt.2 c29)
                            have H' := Aside0.mk H
                            clear H
                            have p337 : 0 ≤ (x5_2 : Int) := of_decide_eq_true (by first | (with_reducible assumption) | assumption)
                            have q337 : x5_2 < (l0.length : Int) := of_decide_eq_true (by first | (with_reducible assumption) | assumption)
                            obtain ⟨ad337, e337, hx337_0⟩ := Kd.at_string HR0.out x5_2 p337 q337
                            cases e337
                            replace hx337_0 := (HB.out.cell (World.block_lt_of_cell? w _ hx337_0)).trans hx337_0
                            replace p337 := eq_true p337
                            replace q337 := eq_true q337
                            have p338 : 0 ≤ (x5_2 : Int) := of_decide_eq_true (by first | (with_reducible assumption) | assumption)
                            have q338 : x5_2 < (l0.length : Int) := of_decide_eq_true (by first | (with_reducible assumption) | assumption)
                            obtain ⟨ad338, e338, hx338_0⟩ := Kd.at_string HR0.out x5_2 p338 q338
                            obtain rfl : ad337 = ad338 := (by injection e338)
                            replace hx338_0 := (HB.out.cell (World.block_lt_of_cell? w _ hx338_0)).trans hx338_0
                            replace p338 := eq_true p338
                            replace q338 := eq_true q338
                            go_wp2_with (first | ((with_reducible refine gate_callee (f := 35) rfl ?_); refine goesL_ (some 35) rfl rfl Try.func35 (by kernel_rfl) rfl #[.string (rdOf ByteArray.empty l0 x5_2)] rfl (by (try simp only [List.map_toArray, List.map_cons, List.map_nil]); first | done | rfl | (simp only [List.length_drop, List.length_take]; rfl)) ?_; (with_reducible refine (punnetref05_Name.calls k2 (rdOf ByteArray.empty l0 x5_2) false _ A13.out).mono ?_); rintro e w' ⟨rfl, ⟨nd, rfl⟩⟩; refine ⟨_, rfl, ?_⟩) | ((with_reducible refine gate_callee (f := 36) rfl ?_); refine goesL_ (some 38) rfl rfl Try.func36 (by kernel_rfl) rfl #[.string (rdOf ByteArray.empty l0 x5_2)] rfl (by (try simp only [List.map_toArray, List.map_cons, List.map_nil]); first | done | rfl | (simp only [List.length_drop, List.length_take]; rfl)) ?_; (with_reducible refine (punnetref05_Quote.calls k2 (rdOf ByteArray.empty l0 x5_2) t343 _ A22.out).mono ?_); rintro e w30 ⟨rfl, hb⟩; refine ⟨_, rfl, ?_⟩; have n0_ := Aside0.mk (Kd.R_below (by (with_reducible repeat (first | apply Kd.R_alloc | apply Kd.R_drewN | apply Kd.R_drew)); exact HO_3.out) hb); have n1_ := Aside0.mk (below_step (by repeat (first | (with_reducible first | exact HB.out | apply below_alloc | apply pw_below_drewN | apply below_drew1) | exact HB.out)) hb); clear HO_3; clear HB; have HO_3 := n0_; have HB := n1_; clear n0_ n1_; (try clear hb); (try clear hb2); (try clear hk); (try clear hi)) | ((with_reducible refine gate_builtin (b := .append) (xs := #[.tmp 39, .tmp 41]) rfl ?_); (try (refine gate_guard (by rfl) ?_; dsimp only)); at_builtin; refine Kd.R_append Kd.string (w0 := w) w.heap.size rfl (.tmp 39) (.tmp 41) 44 9 (.string ⟨#[]⟩) 16 rfl Try.underlying44 info9 rfl (by decide) (by omega) u3 x3_2 t343 [.string t343] (fun _ => True) (fun _ => False) rfl rfl ?aP (fun _ hk => hk.elim) ?aF ?aO ?aB ?aS ?aL ?_; (case aP => exact rfl); (case aB => exact (by repeat (first | (with_reducible first | exact HB.out | apply below_alloc | apply pw_below_drewN | apply below_drew1) | exact HB.out))); (case aF => exact (fun _ _ => trivial)); (case aO => exact (by (with_reducible repeat (first | apply Kd.R_alloc | apply Kd.R_drewN | apply Kd.R_drew)); exact HO_3.out)); (case aS => exact (below_size (by repeat (first | (with_reducible first | exact HB.out | apply below_alloc | apply pw_below_drewN | apply below_drew1) | exact HB.out)))); (case aL => have := LMc23.out; omega); intro v345 w31 ho hb hg hat; rw [← Ny344.out] at ho; have n0_ := Aside0.mk (hb); have n1_ := Aside0.mk (ho); clear HB; clear HO_3; have HB := n0_; have HO346 := n1_; clear n0_ n1_; clear ho hb hg hat))
                            go_roundg k2
                            case measure => have := HJ3.out; have := HK2.out; omega
                            case rel => exact ⟨(y344), (x4_2 ++ t343), (wrap64 (x5_2 + 1)), (by first | rfl | (simp; done) | (simp [*]; done)), (by first | rfl | (simp; done) | (simp [*]; done)), H', ⟨by have := HJ3.out; have := HK2.out; omega⟩, ⟨by (with_reducible repeat (first | apply Kd.R_alloc | apply Kd.R_drewN | apply Kd.R_drew)); exact HO346.out⟩, ⟨by repeat (first | (with_reducible first | exact HB.out | apply below_alloc | apply pw_below_drewN | apply below_drew1) | exact HB.out)⟩⟩
                          · rw [if_neg c29] at H
                            exact absurd H (by simp)
                      · rw [if_neg c23] at H
                        exact absurd H (by simp)
                · rw [if_neg c11] at H
                  exact absurd H (by simp)
              · rw [if_neg c10] at H
                have c10b0 : decide (x5_2 < (l0.length : Int)) = false := decide_eq_false c10
                clear c10
                replace H := Option.bind_eq_some_iff.mp H
                obtain ⟨t333, A320, H⟩ := H
                replace H : ((punnetref05_Same.f k2 t333 x3_2).bind fun t336 => (some t336)) = some r := H
                have A32 := Aside0.mk A320
                clear A320
                replace H := Option.bind_eq_some_iff.mp H
                obtain ⟨t336, A330, H⟩ := H
                replace H : (some t336) = some r := H
                have A33 := Aside0.mk A330
                clear A330
                obtain rfl := Option.some.inj H
                go_wp2_with (first | ((with_reducible refine gate_callee (f := 32) rfl ?_); refine goesL_ (some 51) rfl rfl Try.func32 (by kernel_rfl) rfl #[.string x4_2] rfl (by (try simp only [List.map_toArray, List.map_cons, List.map_nil]); first | done | rfl | (simp only [List.length_drop, List.length_take]; rfl)) ?_; (with_reducible refine (name_Split.calls k2 x4_2 t333 _ A32.out).mono ?_); rintro e w34 ⟨v334, rfl, ho0, hb⟩; refine ⟨_, rfl, ?_⟩; have n0_ := Aside0.mk (Kd.R_elder' (by (with_reducible repeat (first | apply Kd.R_alloc | apply Kd.R_drewN | apply Kd.R_drew)); exact HO_3.out) (Kd.R_base ho0) hb); have n1_ := Aside0.mk (Kd.R_lower (Kd.R_new' ho0 (Kd.R_lt (by (with_reducible repeat (first | apply Kd.R_alloc | apply Kd.R_drewN | apply Kd.R_drew)); exact HO_3.out))) (below_size (by repeat (first | (with_reducible first | exact HB.out | apply below_alloc | apply pw_below_drewN | apply below_drew1) | exact HB.out)))); have n2_ := Aside0.mk (below_step (by repeat (first | (with_reducible first | exact HB.out | apply below_alloc | apply pw_below_drewN | apply below_drew1) | exact HB.out)) hb); clear HO_3; clear HB; have HO_3 := n0_; have HO335 := n1_; have HB := n2_; clear n0_ n1_ n2_; (try clear hb); (try clear hb2); (try clear hk); (try clear hi); (try clear ho0); obtain ⟨Ao35, co35, eo35⟩ := Kd.R_slice HO335.out; subst eo35; obtain ⟨Ao36, co36, eo36⟩ := Kd.R_slice HO_3.out; subst eo36) | ((with_reducible refine gate_callee (f := 33) rfl ?_); refine goesL_ (some 53) rfl rfl Try.func33 (by kernel_rfl) rfl #[.slice Ao35 t333.length co35, .slice Ao36 x3_2.length co36] rfl (by (try simp only [List.map_toArray, List.map_cons, List.map_nil]); first | done | rfl | (simp only [List.length_drop, List.length_take]; rfl)) ?_; (with_reducible refine (punnetref05_Same.calls k2 _ _ t333 _ _ x3_2 t336 _ ?side1 ?side2 ?side3 ?side4 A33.out).mono ?_); (case side1 => repeat (first | exact (Kd.R_reads' HO335.out).2.2 | (with_reducible refine Kd.C_alloc ?_ _) | (with_reducible refine Kd.C_drewN ?_ _) | (with_reducible refine Kd.C_drew ?_))); (case side2 => exact (Kd.R_reads' HO335.out).2.1); (case side3 => repeat (first | exact (Kd.R_reads' HO_3.out).2.2 | (with_reducible refine Kd.C_alloc ?_ _) | (with_reducible refine Kd.C_drewN ?_ _) | (with_reducible refine Kd.C_drew ?_))); (case side4 => exact (Kd.R_reads' HO_3.out).2.1); rintro e w' ⟨rfl, ⟨nd, rfl⟩⟩; refine ⟨_, rfl, ?_⟩))
                go_ret
                exact ⟨by first | rfl | (simp [errW_none, errW_some] <;> rfl) | (simp [*, errW_none, errW_some] <;> rfl), by repeat (first | (with_reducible first | exact HB.out | apply below_alloc | apply pw_below_drewN | apply below_drew1) | exact HB.out)⟩
  · replace c3 := Bool.eq_false_iff.mpr c3
    subst c3
    have H1 : (some false) = some r := by rw [if_neg (show ¬ (false = true) by decide)] at H; exact H
    clear H
    have H := H1
    clear H1
    obtain rfl := Option.some.inj H
    go_enter Try.func10, Try.ntmps10
    go_wp2_with (first | ((with_reducible refine gate_callee (f := 31) rfl ?_); refine goesL_ (some 7) rfl rfl Try.func31 (by kernel_rfl) rfl #[] rfl (by (try simp only [List.map_toArray, List.map_cons, List.map_nil]); first | done | rfl | (simp only [List.length_drop, List.length_take]; rfl)) ?_; (with_reducible refine (punnetlaw05_awake.calls k  false _ A2.out).mono ?_); rintro e w37 ⟨rfl, hb⟩; refine ⟨_, rfl, ?_⟩; have n0_ := Aside0.mk (below_step (by repeat (first | (with_reducible first | exact HB.out | apply below_alloc | apply pw_below_drewN | apply below_drew1) | exact HB.out)) hb); clear HB; have HB := n0_; clear n0_; (try clear hb); (try clear hb2); (try clear hk); (try clear hi)))
    go_ret
    exact ⟨by first | rfl | (simp [errW_none, errW_some] <;> rfl) | (simp [*, errW_none, errW_some] <;> rfl), by repeat (first | (with_reducible first | exact HB.out | apply below_alloc | apply pw_below_drewN | apply below_drew1) | exact HB.out)⟩

end Go.Proofs.Ytmmofckknopaaaa.Q
