/- A disk's Cut. Conditions: as typed. -/
import Derived.Test.YtfkkekdpfkglbaaDiskG
namespace Go.Proofs.Ytfkkekdpfkglbaa.Q
open Go.RowKit Go.Proofs.YtfkkekdpfkglbaaW.PrintWords Go.Proofs.YtfkkekdpfkglbaaW.PrintLast Go.Proofs.YtfkkekdpfkglbaaW.PrintMore
set_option linter.unusedVariables false
set_option linter.unusedSimpArgs false
def cutBad (D : Dsk) (file n : Int) : Bool := !hasB file || decide (n < 0) || decide (((D.files file.toNat).length : Int) < n)
def Dsk.cutAt (D : Dsk) (i m : Nat) : Dsk := { D.step with files := upd D.step.files i ((D.step.files i).take m), wait := ⟨i, true, (D.step.files i).drop m⟩ :: D.step.wait }
def Dsk.cutD (D : Dsk) (file n : Int) : Int × Dsk :=
  if cutBad D file n then (2, D) else if D.dark then (10, D) else if D.gone then (10, D.step) else (0, D.cutAt file.toNat n.toNat)
theorem built_cut (i : Int) (A : Option Addr) (n c : Nat) : Try.prog.built 106 [(0, .int .i64 i), (1, .bool true), (2, .slice A n c)] = some #[.int .i64 i, .bool true, .slice A n c] := by kernel_rfl
theorem cut_from (A : Option Addr) (n c m : Nat) (hm : m ≤ n) (W : World) : (Instr.slice 37 (.slice A n c) (some (.int .i64 (m : Int))) none none).run Try.prog W = .ok (.slice (if c = m then A else A.map (·.add m)) (n - m) (c - m)) W := by
  obtain ⟨i5, hi5, _, hsz5, _⟩ := info_parts info5
  have hel : Try.prog.elem 37 = 5 := by simp [Program.elem, Try.underlying37]
  have hu : Try.prog.underlying 37 = some (.slice (Try.prog.elem 37)) := by rw [hel]; exact Try.underlying37
  rw [run_slice_l W 37 A n c hu .i64 (m : Int) (Int.natCast_nonneg _) (by omega), hel]
  simp [sizeOf, typeInfo, hi5, hsz5, sliced, Result.andThen]
theorem news_three' (w : World) (a b c : Value) (e : TypeId) : ∀ ad, some (⟨w.heap.size, 0, none⟩ : Addr) = some ad → ∀ j x, [a, b, c][j]? = some x → (w.alloc (.cells #[a, b, c] e)).cell? (ad.add j) = some x := news_three w a b c e
set_option maxHeartbeats 8000000 in
set_option maxRecDepth 100000 in
theorem disk_Cut.bad (S : Nat → Prop) (g : Nat) (D : Dsk) (file n : Int) (w : World) (h : DiskAt S w g D) (hF : ∀ i, i < 4 → (D.files i).length ≤ 1099511627776) (hW : D.wait.length ≤ 1099511627776) (hb : cutBad D file n = true) :
    Calls Try.prog 25 #[.pointer (some ⟨g, 0, none⟩), .int .i64 file, .int .i64 n] w fun e w' => e = .returned (.int .i64 (D.cutD file n).1) ∧ DiskAt (fun k => S k ∨ w.heap.size ≤ k) w' g (D.cutD file n).2 ∧ Foot S w w' := by
  have HM := Aside0.mk (show DiskAt (fun k => S k ∨ w.heap.size ≤ k) w g D from h.mono (fun k hk => .inl hk))
  have HE := Aside0.mk (show D.cutD file n = (2, D) by unfold Dsk.cutD; rw [if_pos hb])
  obtain ⟨f, wv, DW, M⟩ := h.out
  unfold cutBad at hb
  cases hh : hasB file with
  | false =>
    have HH := Aside0.mk hh
    clear M h hF hW hb hh
    go_enter Try.func25, Try.ntmps25
    go_wp2_with (go_at_call 61; (with_reducible refine (disk_has.calls _ _).mono ?_); rintro e w1 ⟨rfl, hw1⟩; have hw2 := hw1.symm; clear hw1; subst hw2; rw [HH.out])
    go_ret
    rw [HE.out]
    exact ⟨rfl, HM.out, Foot.refl _ w⟩
  | true =>
    rw [hh] at hb
    have HH := Aside0.mk hh
    have h2 : 0 ≤ file ∧ file < 4 := of_decide_eq_true hh
    obtain ⟨i, rfl⟩ : ∃ i : Nat, file = (i : Int) := ⟨file.toNat, by omega⟩
    have hi : i < 4 := by omega
    have k1 := M.cfile i hi
    obtain ⟨A, c, e, _⟩ := (M.fil i hi).slice
    rw [e] at k1
    rw [Int.toNat_natCast] at hb
    have p0 : (0 ≤ (i : Int)) = True := eq_true (by omega)
    have q0 : ((i : Int) < 4) = True := eq_true (by omega)
    have q1 : (i < 4) = True := eq_true hi
    by_cases c1 : n < 0
    · have d1 : decide (n < 0) = true := decide_eq_true c1
      clear M h hF hW hb hh h2 hi c1
      go_enter Try.func25, Try.ntmps25
      go_wp2_with (go_at_call 61; (with_reducible refine (disk_has.calls _ _).mono ?_); rintro e w1 ⟨rfl, hw1⟩; have hw2 := hw1.symm; clear hw1; subst hw2; rw [HH.out])
      go_ret
      rw [HE.out]
      exact ⟨rfl, HM.out, Foot.refl _ w⟩
    · have d1 : decide (n < 0) = false := decide_eq_false c1
      have d2 : decide (((D.files i).length : Int) < n) = true := by rw [d1] at hb; simpa using hb
      clear M h hF hW hb hh h2 hi c1
      go_enter Try.func25, Try.ntmps25
      go_wp2_with (go_at_call 61; (with_reducible refine (disk_has.calls _ _).mono ?_); rintro e w1 ⟨rfl, hw1⟩; have hw2 := hw1.symm; clear hw1; subst hw2; rw [HH.out])
      go_ret
      rw [HE.out]
      exact ⟨rfl, HM.out, Foot.refl _ w⟩
set_option maxHeartbeats 8000000 in
set_option maxRecDepth 100000 in
theorem disk_Cut.ok (S : Nat → Prop) (g : Nat) (D : Dsk) (i m : Nat) (w : World) (h : DiskAt S w g D) (hi : i < 4) (hm : m ≤ (D.files i).length) (hd : D.dark = false) (hF : (D.files i).length ≤ 1099511627776) (hW : D.wait.length ≤ 1099511627776) (hg : D.gone = false) :
    Calls Try.prog 25 #[.pointer (some ⟨g, 0, none⟩), .int .i64 (i : Int), .int .i64 (m : Int)] w fun e w' => e = .returned (.int .i64 0) ∧ DiskAt (fun k => S k ∨ w.heap.size ≤ k) w' g (D.cutAt i m) ∧ Foot S w w' := by
  have hS' := (show DiskAt (fun k => S k ∨ w.heap.size ≤ k) w g D from h.mono (fun k hk => .inl hk))
  obtain ⟨f, wv, DW, M0⟩ := hS'.out
  have M := Aside0.mk M0
  have HSG : Aside0 (S g) := ⟨by obtain ⟨f, wv, DW, m0⟩ := h.out; exact m0.sg⟩
  have k8 : w.cell? ⟨g, 8, none⟩ = some (.bool D.dark) := M0.cell 8
  rw [hd] at k8
  have k1 := M0.cfile i hi
  obtain ⟨A, c, e, _⟩ := (M0.fil i hi).slice
  rw [e] at k1
  have HG := Aside0.mk hg
  have HH := Aside0.mk (hasB_nat hi)
  have hsf : D.step.files = D.files := by unfold Dsk.step; rw [if_neg (by rw [hg]; simp)]
  have HSF := Aside0.mk hsf
  have hsw : D.step.wait = D.wait := by unfold Dsk.step; rw [if_neg (by rw [hg]; simp)]
  have HSW := Aside0.mk hsw
  have HI := Aside0.mk hi
  have HMM := Aside0.mk hm
  have HLF := Aside0.mk hF
  have HLD := Aside0.mk (show D.wait.length ≤ 1099511627776 from hW)
  have p0 : (0 ≤ (i : Int)) = True := eq_true (by omega)
  have q0 : ((i : Int) < 4) = True := eq_true (by omega)
  have q1 : (i < 4) = True := eq_true hi
  have d1 : decide ((m : Int) < 0) = false := decide_eq_false (by omega)
  have d2 : decide (((D.files i).length : Int) < (m : Int)) = false := decide_eq_false (by omega)
  have d3 : decide ((D.files i).length < m) = false := decide_eq_false (by omega)
  clear M0 h hS' hi hm hd hF hW hg hsf hsw
  go_enter Try.func25, Try.ntmps25
  go_upto_region 7 with (first | (go_at_call 61; (with_reducible refine (disk_has.calls _ _).mono ?_); rintro e w1 ⟨rfl, hw1⟩; have hw2 := hw1.symm; clear hw1; subst hw2; rw [HH.out]) | (go_at_call 62; (with_reducible refine (disk_step.mem _ g D f wv DW _ M.out).mono ?_); rintro e w1 ⟨rfl, m1, hf1, hz1⟩; rw [HG.out]; have M1 := Aside0.mk m1; have HF1 := Aside0.mk hf1; have HZ1 := Aside0.mk hz1; clear m1 hf1 hz1))
  have hfb := M1.out.fil i HI.out
  obtain ⟨Af, cf, hfe, hcf, hAf⟩ := hfb.slice
  have kf := M1.out.cfile i HI.out
  rw [hfe] at kf hfb
  obtain ⟨N, hN⟩ : ∃ N, N = (D.step.files i).length := ⟨_, rfl⟩
  rw [← hN] at kf hfb hcf hAf
  have hmN : m ≤ N := by rw [hN, HSF.out]; exact HMM.out
  have HLN := Aside0.mk (show N ≤ 1099511627776 by rw [hN, HSF.out]; exact HLF.out)
  have hdl : DW.length = D.step.wait.length := by rw [← List.length_map (f := Prod.fst), M1.out.dw, List.length_reverse]
  have HLW := Aside0.mk (show DW.length ≤ 1099511627776 by rw [hdl, HSW.out]; exact HLD.out)
  obtain ⟨Ax, hAx⟩ : ∃ Ax, Ax = (if cf = m then Af else Af.map (·.add m)) := ⟨_, rfl⟩
  have hcut : ∀ W : World, (Instr.slice 37 (.slice Af N cf) (some (.int .i64 (m : Int))) none none).run Try.prog W = .ok (.slice Ax (N - m) (cf - m)) W := fun W => by rw [hAx]; exact cut_from Af N cf m hmN W
  have hfr : ReadsInt w1 .u8 Af N (D.step.files i) := by
    refine ⟨hN.symm, by have := HLN.out; omega, fun h0 => ?_⟩
    cases hAA : Af with
    | none => have := (hAf hAA).1; omega
    | some ad =>
      subst hAA
      refine ⟨ad, rfl, fun j hj => hfb.cells ad rfl j _ ?_⟩
      unfold nums
      rw [List.getElem?_map, List.getElem?_eq_getElem (by omega), List.getD_eq_getElem?_getD, List.getElem?_eq_getElem (by omega)]
      rfl
  have hread : ReadsInt w1 .u8 Ax (N - m) ((D.step.files i).drop m) := by rw [hAx]; exact hfr.drop_ m hmN hcf
  have HX : Aside0 ((nums .u8 ((D.step.files i).drop m)).length = (N - m) * 1 ∧ (Ax = none → N - m = 0 ∧ cf - m = 0) ∧ ∀ ad, Ax = some ad → ∀ j u, (nums .u8 ((D.step.files i).drop m))[j]? = some u → (w1.drew.alloc (.cells #[] 5)).cell? (ad.add j) = some u) := ⟨by
    refine ⟨by simp [nums, ← hN], fun hnone => ?_, fun ad had j u hu => ?_⟩
    · cases hAA : Af with
      | none => have h9 := hAf hAA; omega
      | some ad =>
        rw [hAx, hAA] at hnone
        split at hnone <;> cases hnone
    · unfold nums at hu
      rw [List.getElem?_map] at hu
      obtain ⟨y, hy, rfl⟩ := Option.map_eq_some_iff.1 hu
      have hj : j < N - m := by
        have h9 := (List.getElem?_eq_some_iff.1 hy).1
        rw [hread.1] at h9
        exact h9
      obtain ⟨ad2, h2, h3⟩ := hread.2.2 (by omega)
      rw [had] at h2
      injection h2 with h2
      subst h2
      have h4 := h3 j hj
      rw [List.getD_eq_getElem?_getD, hy] at h4
      exact ((below_alloc (below_drew (Below.refl w1.heap.size w1)) (.cells #[] 5)).cell (World.block_lt_of_cell? w1 _ h4)).trans h4⟩
  have k5 : w1.cell? ⟨g, 5, none⟩ = some wv := M1.out.cell 5
  have KA : ∀ o, (w1.drew.alloc o).cell? ⟨g, 5, none⟩ = some wv := fun o => ((below_alloc (below_drew (Below.refl w1.heap.size w1)) o).cell (p := ⟨g, 5, none⟩) M1.out.lt).trans k5
  have s1 : (m ≤ N) = True := eq_true hmN
  have s2 : (m ≤ cf) = True := eq_true (by omega)
  have s3 : (0 ≤ (m : Int)) = True := eq_true (by omega)
  have s4 : ((m : Int) ≤ (cf : Int)) = True := eq_true (by omega)
  have s5 : ((m : Int) ≤ (N : Int)) = True := eq_true (by omega)
  have HFB := Aside0.mk hfb
  have HFE := Aside0.mk hfe
  have HNN := Aside0.mk hN
  have HCF := Aside0.mk (And.intro hcf hmN)
  clear hfb hfe hN hcf hAf hmN hdl hAx hfr hread k1 e d1 d2 d3
  go_upto_region 8 with fail
  refine start_ (n := 17) (S := fun w' => w'.cell? ⟨g, 5, none⟩ = some wv) (ds := [13, 16]) #[false, false, false, false, false, false, false, false, false, false, false, false, false, false, false, false, false] (by kernel_rfl) rfl rfl (k5) (fun hHeld => ?_)
  refine pure_ (i := 0) (N := some 46) (v := ?_) (a' := ?_) #[true, false, false, false, false, false, false, false, false, false, false, false, false, false, false, false, false] rfl rfl (by kernel_rfl) (fun _ _ _ h => h) (Or.inl ⟨by rfl, ?_⟩) ?_ ?_
  rotate_left
  · intro w'
    go_simp
    with_reducible rfl
  rotate_left
  · simp only [Act.put, List.setIfInBounds_toArray, List.set_cons_zero, List.set_cons_succ, i64_w, i32_w]
    rfl
  refine pure_ (i := 1) (N := some 47) (v := ?_) (a' := ?_) #[true, true, false, false, false, false, false, false, false, false, false, false, false, false, false, false, false] rfl rfl (by kernel_rfl) (fun _ _ _ h => h) (Or.inl ⟨by rfl, ?_⟩) ?_ ?_
  rotate_left
  · intro w'
    go_simp
    with_reducible rfl
  rotate_left
  · simp only [Act.put, List.setIfInBounds_toArray, List.set_cons_zero, List.set_cons_succ, i64_w, i32_w]
    rfl
  refine pure_ (i := 2) (N := some 48) (v := ?_) (a' := ?_) #[true, true, true, false, false, false, false, false, false, false, false, false, false, false, false, false, false] rfl rfl (by kernel_rfl) (fun _ _ _ h => h) (Or.inl ⟨by rfl, ?_⟩) ?_ ?_
  rotate_left
  · intro w'
    go_simp
    with_reducible rfl
  rotate_left
  · simp only [Act.put, List.setIfInBounds_toArray, List.set_cons_zero, List.set_cons_succ, i64_w, i32_w]
    rfl
  refine pure_ (i := 3) (N := some 49) (v := ?_) (a' := ?_) #[true, true, true, true, false, false, false, false, false, false, false, false, false, false, false, false, false] rfl rfl (by kernel_rfl) (fun _ _ _ h => h) (Or.inl ⟨by rfl, ?_⟩) ?_ ?_
  rotate_left
  · intro w'
    go_simp
    with_reducible rfl
  rotate_left
  · simp only [Act.put, List.setIfInBounds_toArray, List.set_cons_zero, List.set_cons_succ, i64_w, i32_w]
    rfl
  refine pure_ (i := 5) (N := some 51) (v := ?_) (a' := ?_) #[true, true, true, true, false, true, false, false, false, false, false, false, false, false, false, false, false] rfl rfl (by kernel_rfl) (fun _ _ _ h => h) (Or.inl ⟨by rfl, ?_⟩) ?_ ?_
  rotate_left
  · intro w'
    go_simp
    with_reducible rfl
  rotate_left
  · simp only [Act.put, List.setIfInBounds_toArray, List.set_cons_zero, List.set_cons_succ, i64_w, i32_w]
    rfl
  refine pure_ (i := 7) (N := some 53) (v := ?_) (a' := ?_) #[true, true, true, true, false, true, false, true, false, false, false, false, false, false, false, false, false] rfl rfl (by kernel_rfl) (fun _ _ _ h => h) (Or.inl ⟨by rfl, ?_⟩) ?_ ?_
  rotate_left
  · intro w'
    go_simp
    with_reducible rfl
  rotate_left
  · simp only [Act.put, List.setIfInBounds_toArray, List.set_cons_zero, List.set_cons_succ, i64_w, i32_w]
    rfl
  refine pure_ (i := 8) (N := some 54) (v := ?_) (a' := ?_) #[true, true, true, true, false, true, false, true, true, false, false, false, false, false, false, false, false] rfl rfl (by kernel_rfl) (fun _ _ _ h => h) (Or.inl ⟨by rfl, ?_⟩) ?_ ?_
  rotate_left
  · intro w'
    go_simp
    with_reducible rfl
  rotate_left
  · simp only [Act.put, List.setIfInBounds_toArray, List.set_cons_zero, List.set_cons_succ, i64_w, i32_w]
    rfl
  refine pure_ (i := 9) (N := some 55) (v := ?_) (a' := ?_) #[true, true, true, true, false, true, false, true, true, true, false, false, false, false, false, false, false] rfl rfl (by kernel_rfl) (fun _ _ _ h => h) (Or.inl ⟨by rfl, ?_⟩) ?_ ?_
  rotate_left
  · intro w'
    go_simp
    with_reducible rfl
  rotate_left
  · simp only [Act.put, List.setIfInBounds_toArray, List.set_cons_zero, List.set_cons_succ, i64_w, i32_w]
    rfl
  refine take_ (i := 4) (N := some 50) (v := ?_) (a' := ?_) #[true, true, true, true, true, true, false, true, true, true, false, false, false, false, false, false, false] rfl rfl (by kernel_rfl) (fun _ _ _ h => h) (Or.inl ⟨by rfl, ?_⟩) hHeld ?_ ?_
  rotate_left
  · intro w' s0
    go_simp
    with_reducible rfl
  rotate_left
  · simp only [Act.put, List.setIfInBounds_toArray, List.set_cons_zero, List.set_cons_succ, i64_w, i32_w]
    rfl
  refine one_ (i := 6) (N := some 52) #[true, true, true, true, true, true, true, true, true, true, false, false, false, false, false, false, false] rfl rfl (by kernel_rfl) (by decide) (fun K hK => ?_)
  refine value_ (w1 := ?_) (v := ?_) (by rfl) rfl ?_ ?_
  rotate_left 2
  · go_simp
    constructor
    · rfl
    · rfl
  refine hK.out _ _ ((KA _)) (fun hHeld => ?_)
  clear hK K
  refine norm_ (a' := ?_) ?_ ?_
  rotate_left
  · show Act.put _ (some 52) _ = _
    simp only [Act.put, List.setIfInBounds_toArray, List.set_cons_zero, List.set_cons_succ, i64_w, i32_w]
    rfl
  refine one_ (i := 10) (N := some 56) #[true, true, true, true, true, true, true, true, true, true, true, false, false, false, false, false, false] rfl rfl (by kernel_rfl) (by decide) (fun K hK => ?_)
  refine Buf.append_step 37 5 (.int .u8 0) 1 1 (by rfl) (.tmp 52) (.tmp 55) rfl Try.underlying37 info5 rfl (by decide) (by decide) _ 0 [] (buf_lit0 w1.drew 5 1) Ax (N - m) (cf - m) (nums .u8 ((D.step.files i).drop m)) HX.out.1 HX.out.2.1 HX.out.2.2 (nums_one _ _) (by have := HLN.out; omega) rfl rfl ?_
  intro v3 w3 hv3 hg3 hat3
  rw [Nat.zero_add, List.nil_append] at hv3
  have HV3 := Aside0.mk hv3
  have HG3 := Aside0.mk hg3
  have HA3 := Aside0.mk hat3
  have HB3 : Aside0 (Below w1.heap.size w1 w3) := ⟨(below_alloc (below_drew (Below.refl w1.heap.size w1)) (.cells #[] 5)).grown hg3 (below_alloc (below_drew (Below.refl w1.heap.size w1)) (.cells #[] 5)).size (fun k hk => by injection hk with hk; rw [← hk]; exact Nat.le_refl _)⟩
  have k3 : w3.cell? ⟨g, 5, none⟩ = some wv := (HB3.out.cell (p := ⟨g, 5, none⟩) M1.out.lt).trans k5
  have KB : ∀ o, (w3.alloc o).cell? ⟨g, 5, none⟩ = some wv := fun o => ((below_alloc HB3.out o).cell (p := ⟨g, 5, none⟩) M1.out.lt).trans k5
  obtain ⟨A3, c3, hv3e, _⟩ := hv3.slice
  subst hv3e
  clear hv3 hg3 hat3
  refine hK.out _ _ (k3) (fun hHeld => ?_)
  clear hK K
  refine norm_ (a' := ?_) ?_ ?_
  rotate_left
  · show Act.put _ (some 56) _ = _
    simp only [Act.put, List.setIfInBounds_toArray, List.set_cons_zero, List.set_cons_succ, i64_w, i32_w]
    rfl
  refine pure_ (i := 11) (N := some 57) (v := ?_) (a' := ?_) #[true, true, true, true, true, true, true, true, true, true, true, true, false, false, false, false, false] rfl rfl (by kernel_rfl) (fun _ _ _ h => h) (Or.inl ⟨by rfl, ?_⟩) ?_ ?_
  rotate_left
  · intro w'
    go_simp
    with_reducible rfl
  rotate_left
  · simp only [Act.put, List.setIfInBounds_toArray, List.set_cons_zero, List.set_cons_succ, i64_w, i32_w]
    rfl
  refine one_ (i := 12) (N := some 58) #[true, true, true, true, true, true, true, true, true, true, true, true, true, false, false, false, false] rfl rfl (by kernel_rfl) (by decide) (fun K hK => ?_)
  refine value_ (w1 := ?_) (v := ?_) (by rfl) rfl ?_ ?_
  rotate_left 2
  · go_simp
    constructor
    · rfl
    · rfl
  refine hK.out _ _ ((KB _)) (fun hHeld => ?_)
  clear hK K
  refine norm_ (a' := ?_) ?_ ?_
  rotate_left
  · show Act.put _ (some 58) _ = _
    simp only [Act.put, List.setIfInBounds_toArray, List.set_cons_zero, List.set_cons_succ, i64_w, i32_w]
    rfl
  refine last_ (i := 13) (N := some 59) #[true, true, true, true, true, true, true, true, true, true, true, true, true, true, false, false, false] rfl rfl (by kernel_rfl) (by decide) (fun K hK => ?_)
  refine Buf.append_step 102 106 (.agg #[.int .i64 0, .bool false, .slice none 0 0]) 3 40 (by rfl) (.tmp 50) (.tmp 58) rfl Try.underlying102 info106 rfl (by decide) (by decide) wv _ _ (M1.out.wai.below (below_alloc HB3.out (.cells #[.int .i64 (i : Int), .bool true, .slice A3 (N - m) c3] 106))) (some ⟨w3.heap.size, 0, none⟩) 1 1 [.int .i64 (i : Int), .bool true, .slice A3 (N - m) c3] rfl (by simp) (news_three w3 _ _ _ 106) (by simp [Value.oneCell']) (by have := HLW.out; omega) rfl rfl ?_
  intro v4 w4 hv4 hg4 hat4
  have HV4 := Aside0.mk hv4
  have HG4 := Aside0.mk hg4
  have HA4 := Aside0.mk hat4
  have hbk := M1.out.blk2 (W := w3.alloc (.cells #[.int .i64 (i : Int), .bool true, .slice A3 (N - m) c3] 106)) (below_alloc HB3.out _) hg4 M1.out.wne
  have kc : w4.cell? ⟨g, 5, none⟩ = some wv := blk_cell hbk 5
  have kz : w4.frozen? ⟨g, 5, none⟩ = false := blk_frozen hbk 5
  obtain ⟨A4, c4, hv4e, _⟩ := hv4.slice
  subst hv4e
  clear hv4 hg4 hat4 hbk
  refine hK.out _ _ ?_
  clear hK K
  refine norm_ (a' := ?_) ?_ ?_
  rotate_left
  · show Act.put _ (some 59) _ = _
    simp only [Act.put, List.setIfInBounds_toArray, List.set_cons_zero, List.set_cons_succ, i64_w, i32_w]
    rfl
  refine pure_ (i := 14) (N := some 60) (v := ?_) (a' := ?_) #[true, true, true, true, true, true, true, true, true, true, true, true, true, true, true, false, false] rfl rfl (by kernel_rfl) (fun _ _ _ h => h) (Or.inl ⟨by rfl, ?_⟩) ?_ ?_
  rotate_left
  · intro w'
    go_simp
    with_reducible rfl
  rotate_left
  · simp only [Act.put, List.setIfInBounds_toArray, List.set_cons_zero, List.set_cons_succ, i64_w, i32_w]
    rfl
  refine pure_ (i := 15) (N := some 61) (v := ?_) (a' := ?_) #[true, true, true, true, true, true, true, true, true, true, true, true, true, true, true, true, false] rfl rfl (by kernel_rfl) (fun _ _ _ h => h) (Or.inl ⟨by rfl, ?_⟩) ?_ ?_
  rotate_left
  · intro w'
    go_simp
    with_reducible rfl
  rotate_left
  · simp only [Act.put, List.setIfInBounds_toArray, List.set_cons_zero, List.set_cons_succ, i64_w, i32_w]
    rfl
  refine last_ (i := 16) (N := none) #[true, true, true, true, true, true, true, true, true, true, true, true, true, true, true, true, true] rfl rfl (by kernel_rfl) (by decide) (fun K hK => ?_)
  refine skip_ (w1 := ?_) (by rfl) rfl ?_ ?_
  rotate_left
  · go_simp
    rfl
  refine hK.out _ _ ?_
  clear hK K
  refine done_ (by kernel_rfl) ?_
  have hfr : ∀ k, w1.heap.size ≤ k → S k ∨ w.heap.size ≤ k := fun k hk => .inr (Nat.le_trans HF1.out.size hk)
  have hv3n : ∀ k, (Value.slice A3 (N - m) c3).ownBlock = some k → w1.heap.size ≤ k := by
    intro k hk
    rcases HA3.out with h | ⟨b, h1, h2⟩
    · rw [h] at hk
      injection hk with hk
      rw [← hk]
      exact Nat.le_refl _
    · rw [h1] at hk
      injection hk with hk
      rw [← hk]
      exact Nat.le_trans (below_alloc (below_drew (Below.refl w1.heap.size w1)) (.cells #[] 5)).size h2
  have hb4 : Below w1.heap.size w1 (w3.alloc (.cells #[.int .i64 (i : Int), .bool true, .slice A3 (N - m) c3] 106)) := below_alloc HB3.out _
  have hpw := M1.out.putWait (W := w3.alloc (.cells #[.int .i64 (i : Int), .bool true, .slice A3 (N - m) c3] 106)) (w2 := w4) hfr (.slice A4 (DW.length + 1) c4) (DW ++ [(⟨i, true, (D.step.files i).drop m⟩, .slice A3 (N - m) c3)]) (⟨i, true, (D.step.files i).drop m⟩ :: D.step.wait)
    (by rw [List.map_append, M1.out.dw, List.reverse_cons]; rfl) hb4 HG4.out (by have h := HV4.out; rw [List.flatMap_append, List.length_append]; exact h) HA4.out
    (fun p hp => by
      rcases List.mem_append.1 hp with h | h
      · exact .inl h
      · rw [List.mem_singleton.1 h]
        refine .inr ⟨HI.out, fun k hk => by have := hv3n k hk; have := M1.out.lt; omega, ?_, fun j hj k hk hk2 => by have := hv3n k hk2; have := (M1.out.fil j hj).lt k hk; omega, fun k hk => hfr k (hv3n k hk)⟩
        have h4 : Buf 5 1 w4 (.slice A3 (N - m) c3) (N - m) (nums .u8 ((D.step.files i).drop m)) := ((HV3.out).below (below_alloc (Below.refl _ _) _)).grown HG4.out (fun k hk h => by have h5 := hv3n k hk; have h6 := M1.out.wai.lt k h.symm; omega)
        show Buf 5 1 w4 (.slice A3 (N - m) c3) ((D.step.files i).drop m).length (nums .u8 ((D.step.files i).drop m))
        rw [List.length_drop, ← HNN.out]
        exact h4)
  obtain ⟨w5, hw5⟩ : ∃ W, W = w4.setCell ⟨g, 5, none⟩ (.slice A4 (DW.length + 1) c4) := ⟨_, rfl⟩
  rw [← hw5] at hpw ⊢
  have M5 := Aside0.mk hpw.1
  have HF5 := Aside0.mk hpw.2
  have kf5 : w5.cell? ⟨g, i, none⟩ = some (f i) := hpw.1.cfile i HI.out
  rw [HFE.out] at kf5
  have zf5 := hpw.1.frozen i
  have hfi := hpw.1.fil i HI.out
  rw [HFE.out, ← HNN.out] at hfi
  have HBT := Aside0.mk (hfi.take m m HCF.out.2 (Nat.le_refl _) (Nat.le_trans HCF.out.2 HCF.out.1))
  clear hfr hv3n hb4 hpw hw5 kc kz KA KB k5 k3 hfi hcut k8
  go_wp2_with fail
  refine start_ (n := 10) (S := fun w' => True) (ds := [9]) #[false, false, false, false, false, false, false, false, false, false] (by kernel_rfl) rfl rfl trivial (fun hHeld => ?_)
  refine pure_ (i := 0) (N := some 62) (v := ?_) (a' := ?_) #[true, false, false, false, false, false, false, false, false, false] rfl rfl (by kernel_rfl) (fun _ _ _ h => h) (Or.inl ⟨by rfl, ?_⟩) ?_ ?_
  rotate_left
  · intro w'
    go_simp
    with_reducible rfl
  rotate_left
  · simp only [Act.put, List.setIfInBounds_toArray, List.set_cons_zero, List.set_cons_succ, i64_w, i32_w]
    rfl
  refine pure_ (i := 1) (N := some 63) (v := ?_) (a' := ?_) #[true, true, false, false, false, false, false, false, false, false] rfl rfl (by kernel_rfl) (fun _ _ _ h => h) (Or.inl ⟨by rfl, ?_⟩) ?_ ?_
  rotate_left
  · intro w'
    go_simp
    with_reducible rfl
  rotate_left
  · simp only [Act.put, List.setIfInBounds_toArray, List.set_cons_zero, List.set_cons_succ, i64_w, i32_w]
    rfl
  refine pure_ (i := 2) (N := some 64) (v := ?_) (a' := ?_) #[true, true, true, false, false, false, false, false, false, false] rfl rfl (by kernel_rfl) (fun _ _ _ h => h) (Or.inl ⟨by rfl, ?_⟩) ?_ ?_
  rotate_left
  · intro w'
    go_simp
    with_reducible rfl
  rotate_left
  · simp only [Act.put, List.setIfInBounds_toArray, List.set_cons_zero, List.set_cons_succ, i64_w, i32_w]
    rfl
  refine pure_ (i := 3) (N := some 65) (v := ?_) (a' := ?_) #[true, true, true, true, false, false, false, false, false, false] rfl rfl (by kernel_rfl) (fun _ _ _ h => h) (Or.inl ⟨by rfl, ?_⟩) ?_ ?_
  rotate_left
  · intro w'
    go_simp
    with_reducible rfl
  rotate_left
  · simp only [Act.put, List.setIfInBounds_toArray, List.set_cons_zero, List.set_cons_succ, i64_w, i32_w]
    rfl
  refine pure_ (i := 4) (N := some 66) (v := ?_) (a' := ?_) #[true, true, true, true, true, false, false, false, false, false] rfl rfl (by kernel_rfl) (fun _ _ _ h => h) (Or.inl ⟨by rfl, ?_⟩) ?_ ?_
  rotate_left
  · intro w'
    go_simp
    with_reducible rfl
  rotate_left
  · simp only [Act.put, List.setIfInBounds_toArray, List.set_cons_zero, List.set_cons_succ, i64_w, i32_w]
    rfl
  refine pure_ (i := 5) (N := some 67) (v := ?_) (a' := ?_) #[true, true, true, true, true, true, false, false, false, false] rfl rfl (by kernel_rfl) (fun _ _ _ h => h) (Or.inl ⟨by rfl, ?_⟩) ?_ ?_
  rotate_left
  · intro w'
    go_simp
    with_reducible rfl
  rotate_left
  · simp only [Act.put, List.setIfInBounds_toArray, List.set_cons_zero, List.set_cons_succ, i64_w, i32_w]
    rfl
  refine pure_ (i := 6) (N := some 68) (v := ?_) (a' := ?_) #[true, true, true, true, true, true, true, false, false, false] rfl rfl (by kernel_rfl) (fun _ _ _ h => h) (Or.inl ⟨by rfl, ?_⟩) ?_ ?_
  rotate_left
  · intro w'
    go_simp
    with_reducible rfl
  rotate_left
  · simp only [Act.put, List.setIfInBounds_toArray, List.set_cons_zero, List.set_cons_succ, i64_w, i32_w]
    rfl
  refine pure_ (i := 7) (N := some 69) (v := ?_) (a' := ?_) #[true, true, true, true, true, true, true, true, false, false] rfl rfl (by kernel_rfl) (fun _ _ _ h => h) (Or.inl ⟨by rfl, ?_⟩) ?_ ?_
  rotate_left
  · intro w'
    go_simp
    with_reducible rfl
  rotate_left
  · simp only [Act.put, List.setIfInBounds_toArray, List.set_cons_zero, List.set_cons_succ, i64_w, i32_w]
    rfl
  refine pure_ (i := 8) (N := some 70) (v := ?_) (a' := ?_) #[true, true, true, true, true, true, true, true, true, false] rfl rfl (by kernel_rfl) (fun _ _ _ h => h) (Or.inl ⟨by rfl, ?_⟩) ?_ ?_
  rotate_left
  · intro w'
    go_simp
    with_reducible rfl
  rotate_left
  · simp only [Act.put, List.setIfInBounds_toArray, List.set_cons_zero, List.set_cons_succ, i64_w, i32_w]
    rfl
  refine last_ (i := 9) (N := none) #[true, true, true, true, true, true, true, true, true, true] rfl rfl (by kernel_rfl) (by decide) (fun K hK => ?_)
  refine skip_ (w1 := ?_) (by rfl) rfl ?_ ?_
  rotate_left
  · go_simp
    rfl
  refine hK.out _ _ ?_
  clear hK K
  refine done_ (by kernel_rfl) ?_
  go_wp2_with fail
  go_ret
  have hpf := M5.out.putFile (W := w5.drew) (w2 := w5.drew) (fun k hk => .inr (Nat.le_trans HF1.out.size (Nat.le_trans HF5.out.size hk))) i HI.out (.slice Af m m) ((D.step.files i).take m) (below_drew (Below.refl _ _)) ⟨rfl, rfl, rfl, Nat.le_refl _, fun _ _ _ => rfl⟩
    (by
      have h := HBT.out
      have hl : ((D.step.files i).take m).length = m := by rw [List.length_take, ← HNN.out]; exact Nat.min_eq_left HCF.out.2
      rw [hl]
      simp only [Nat.mul_one] at h
      unfold nums at h ⊢
      rw [List.map_take]
      exact h) (.inl (by rw [HFE.out]; cases Af <;> rfl))
  exact ⟨rfl, ⟨_, _, _, hpf.1⟩, ((Foot.trans (S' := fun k => k = g) (Foot.refl S w) HF1.out (fun k hk => by subst hk; exact .inl HSG.out)).trans HF5.out (fun k hk => hk)).trans hpf.2 (fun k hk => hk)⟩
set_option maxHeartbeats 8000000 in
set_option maxRecDepth 100000 in
theorem disk_Cut.late (S : Nat → Prop) (g : Nat) (D : Dsk) (file n : Int) (w : World) (h : DiskAt S w g D) (hF : ∀ i, i < 4 → (D.files i).length ≤ 1099511627776) (hW : D.wait.length ≤ 1099511627776) (hb : cutBad D file n = false) (hg : D.gone = true) :
    Calls Try.prog 25 #[.pointer (some ⟨g, 0, none⟩), .int .i64 file, .int .i64 n] w fun e w' => e = .returned (.int .i64 (D.cutD file n).1) ∧ DiskAt (fun k => S k ∨ w.heap.size ≤ k) w' g (D.cutD file n).2 ∧ Foot S w w' := by
  have hS' := (show DiskAt (fun k => S k ∨ w.heap.size ≤ k) w g D from h.mono (fun k hk => .inl hk))
  have HM := Aside0.mk hS'
  have HSG : Aside0 (S g) := ⟨by obtain ⟨f, wv, DW, m0⟩ := h.out; exact m0.sg⟩
  have HE := Aside0.mk (show D.cutD file n = (if D.dark then (10, D) else (10, D.step)) by unfold Dsk.cutD; rw [if_neg (by rw [hb]; simp)]; cases D.dark <;> simp [hg])
  obtain ⟨f, wv, DW, M0⟩ := hS'.out
  have M := Aside0.mk M0
  have k8 : w.cell? ⟨g, 8, none⟩ = some (.bool D.dark) := M0.cell 8
  unfold cutBad at hb
  have hb2 := Bool.or_eq_false_iff.1 hb
  have hb3 := Bool.or_eq_false_iff.1 hb2.1
  have hh : hasB file = true := by have := hb3.1; simpa using this
  have HH := Aside0.mk hh
  have h2 : 0 ≤ file ∧ file < 4 := of_decide_eq_true hh
  obtain ⟨i, rfl⟩ : ∃ i : Nat, file = (i : Int) := ⟨file.toNat, by omega⟩
  have hi : i < 4 := by omega
  have k1 := M0.cfile i hi
  obtain ⟨A, c, e, _⟩ := (M0.fil i hi).slice
  rw [e] at k1
  have d2 := hb2.2
  rw [Int.toNat_natCast] at d2
  have d1 := hb3.2
  have p0 : (0 ≤ (i : Int)) = True := eq_true (by omega)
  have q0 : ((i : Int) < 4) = True := eq_true (by omega)
  have q1 : (i < 4) = True := eq_true hi
  have HG := Aside0.mk hg
  cases hd : D.dark with
  | true =>
    rw [hd] at k8
    have HE2 := Aside0.mk (show D.cutD (i : Int) n = (10, D) by rw [HE.out, if_pos hd])
    clear M0 h hS' hF hW hb hb2 hb3 hh h2 hi hg hd e
    go_enter Try.func25, Try.ntmps25
    go_wp2_with (go_at_call 61; (with_reducible refine (disk_has.calls _ _).mono ?_); rintro e w1 ⟨rfl, hw1⟩; have hw2 := hw1.symm; clear hw1; subst hw2; rw [HH.out])
    go_ret
    rw [HE2.out]
    exact ⟨rfl, HM.out, Foot.refl _ w⟩
  | false =>
    rw [hd] at k8
    have HE2 := Aside0.mk (show D.cutD (i : Int) n = (10, D.step) by rw [HE.out, if_neg (by rw [hd]; simp)])
    clear M0 h hS' hF hW hb hb2 hb3 hh h2 hi hg hd e
    go_enter Try.func25, Try.ntmps25
    go_wp2_with (first | (go_at_call 61; (with_reducible refine (disk_has.calls _ _).mono ?_); rintro e w1 ⟨rfl, hw1⟩; have hw2 := hw1.symm; clear hw1; subst hw2; rw [HH.out]) | (go_at_call 62; (with_reducible refine (disk_step.mem _ g D f wv DW _ M.out).mono ?_); rintro e w1 ⟨rfl, m1, hf1, hz1⟩; rw [HG.out]; have M1 := Aside0.mk m1; have HF1 := Aside0.mk hf1; have HZ1 := Aside0.mk hz1; clear m1 hf1 hz1))
    go_ret
    rw [HE2.out]
    exact ⟨rfl, ⟨_, _, _, M1.out⟩, Foot.trans (S' := fun k => k = g) (Foot.refl S w) HF1.out (fun k hk => by subst hk; exact .inl HSG.out)⟩
theorem disk_Cut.calls (S : Nat → Prop) (g : Nat) (D : Dsk) (file n : Int) (w : World) (h : DiskAt S w g D) (hF : ∀ i, i < 4 → (D.files i).length ≤ 1099511627776) (hW : D.wait.length ≤ 1099511627776) :
    Calls Try.prog 25 #[.pointer (some ⟨g, 0, none⟩), .int .i64 file, .int .i64 n] w fun e w' => e = .returned (.int .i64 (D.cutD file n).1) ∧ DiskAt (fun k => S k ∨ w.heap.size ≤ k) w' g (D.cutD file n).2 ∧ Foot S w w' := by
  cases hb : cutBad D file n with
  | true => exact disk_Cut.bad S g D file n w h hF hW hb
  | false =>
    cases hg : D.gone with
    | true => exact disk_Cut.late S g D file n w h hF hW hb hg
    | false =>
      have hd : D.dark = false := (Bool.or_eq_false_iff.1 hg).1
      have hb' := hb
      unfold cutBad at hb'
      have hb2 := Bool.or_eq_false_iff.1 hb'
      have hb3 := Bool.or_eq_false_iff.1 hb2.1
      have hh : hasB file = true := by have := hb3.1; simpa using this
      have h2 : 0 ≤ file ∧ file < 4 := of_decide_eq_true hh
      obtain ⟨i, rfl⟩ : ∃ i : Nat, file = (i : Int) := ⟨file.toNat, by omega⟩
      have h3 : ¬ n < 0 := of_decide_eq_false hb3.2
      obtain ⟨m, rfl⟩ : ∃ m : Nat, n = (m : Int) := ⟨n.toNat, by omega⟩
      have h4 : ¬ ((D.files i).length : Int) < (m : Int) := by have := of_decide_eq_false hb2.2; rwa [Int.toNat_natCast] at this
      have he : D.cutD (i : Int) (m : Int) = (0, D.cutAt i m) := by unfold Dsk.cutD; rw [if_neg (by rw [hb]; simp), if_neg (by rw [hd]; simp), if_neg (by rw [hg]; simp), Int.toNat_natCast, Int.toNat_natCast]
      rw [he]
      exact disk_Cut.ok S g D i m w h (by omega) (by omega) hd (hF i (by omega)) hW hg
end Go.Proofs.Ytfkkekdpfkglbaa.Q
