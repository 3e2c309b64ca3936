/- A disk's undo and Crash. Conditions: as typed. -/
import Derived.Test.YtfkkekdpfkglbaaDiskE
namespace Go.Proofs.Ytfkkekdpfkglbaa.Q
open Go.RowKit Go.Proofs.YtfkkekdpfkglbaaW.PrintWords Go.Proofs.YtfkkekdpfkglbaaW.PrintLast Go.Proofs.YtfkkekdpfkglbaaW.PrintMore
set_option linter.unusedVariables false
set_option linter.unusedSimpArgs false
def undoF (F : Nat → List Int) (d : Deed) : Nat → List Int := upd F d.file (if d.cut then F d.file ++ d.off else (F d.file).dropLast)
theorem wrap_small {m : Nat} (h : m ≤ 1099511627776) : wrap64 (m : Int) = (m : Int) := by
  unfold wrap64
  omega
theorem flat_len (l : List (Deed × Value)) : (l.flatMap cell3).length = l.length * 3 := by
  induction l with
  | nil => rfl
  | cons p l ih => rw [List.flatMap_cons, List.length_append, ih, List.length_cons]; show 3 + _ = _; omega
theorem flat_last (l : List (Deed × Value)) (p : Deed × Value) (j : Nat) (hj : j < 3) : ((l ++ [p]).flatMap cell3)[l.length * 3 + j]? = (cell3 p)[j]? := by
  rw [List.flatMap_append, List.getElem?_append_right (by rw [flat_len]; omega), flat_len]
  show (cell3 p ++ [])[_]? = _
  rw [List.append_nil]
  congr 1
  omega
theorem flat_take (l : List (Deed × Value)) (p : Deed × Value) : ((l ++ [p]).flatMap cell3).take (l.length * 3) = l.flatMap cell3 := by
  rw [List.flatMap_append, ← flat_len l]
  exact List.take_left
theorem snoc_of {DW : List (Deed × Value)} {d : Deed} {ws : List Deed} (h : DW.map Prod.fst = (d :: ws).reverse) : ∃ l v, DW = l ++ [(d, v)] ∧ l.map Prod.fst = ws.reverse := by
  rw [List.reverse_cons] at h
  obtain ⟨l1, l2, rfl, h1, h2⟩ := List.map_eq_append_iff.1 h
  obtain ⟨p, rfl⟩ : ∃ p, l2 = [p] := by
    cases l2 with
    | nil => simp at h2
    | cons p t =>
      cases t with
      | nil => exact ⟨p, rfl⟩
      | cons q t => simp at h2
  simp at h2
  exact ⟨l1, p.2, by rw [← h2], h1⟩
set_option maxHeartbeats 8000000 in
set_option maxRecDepth 100000 in
theorem disk_undo.mem (S : Nat → Prop) (g : Nat) (D : Dsk) (f : Nat → Value) (wv : Value) (DW : List (Deed × Value)) (w : World) (M : DiskMem S w g D f wv DW) (hfr : ∀ k, w.heap.size ≤ k → S k) (d : Deed) (ws : List Deed) (hws : D.wait = d :: ws) (hne : d.cut = false → D.files d.file ≠ [])
    (hL : (D.files d.file).length ≤ 1099511627776) (hLo : d.off.length ≤ 1099511627776) (hLw : D.wait.length ≤ 1099511627776) :
    Calls Try.prog 65 #[.pointer (some ⟨g, 0, none⟩)] w fun e w' => e = .returned (.tuple #[]) ∧ DiskAt S w' g { D with files := undoF D.files d, wait := ws } ∧ Foot S w w' := by
  have hdw := M.dw
  rw [hws] at hdw
  obtain ⟨DL, offv, rfl, hdl⟩ := snoc_of hdw
  have HM := Aside0.mk M
  obtain ⟨m, hm⟩ : ∃ m, m = DL.length := ⟨_, rfl⟩
  have hlen : (DL ++ [(d, offv)]).length = m + 1 := by rw [List.length_append, hm]; rfl
  have hm2 : m ≤ 1099511627776 := by rw [hws] at hLw; have := congrArg List.length hdl; rw [List.length_map, List.length_reverse] at this; simp only [List.length_cons] at hLw; omega
  have hfile : d.file < 4 := M.nam d (by rw [hws]; exact List.mem_cons_self)
  have hwai := M.wai
  rw [hlen] at hwai
  obtain ⟨A, c, rfl, hmc, hA0⟩ := hwai.slice
  obtain ⟨ad, rfl⟩ : ∃ ad, A = some ad := by
    cases A with
    | none => have := (hA0 rfl).1; omega
    | some ad => exact ⟨ad, rfl⟩
  have k5 : w.cell? ⟨g, 5, none⟩ = some (.slice (some ad) (m + 1) c) := M.cell 5
  have z5 := M.frozen 5
  have q0 := hwai.cells ad rfl (m * 3 + 0) _ (by rw [hm]; exact flat_last DL (d, offv) 0 (by omega))
  have q1 := hwai.cells ad rfl (m * 3 + 1) _ (by rw [hm]; exact flat_last DL (d, offv) 1 (by omega))
  have q2 := hwai.cells ad rfl (m * 3 + 2) _ (by rw [hm]; exact flat_last DL (d, offv) 2 (by omega))
  rw [Nat.add_zero] at q0
  rw [add_field _ _ _ (by omega)] at q1 q2
  change _ = some (Value.int .i64 (d.file : Int)) at q0
  change _ = some (Value.bool d.cut) at q1
  change _ = some offv at q2
  obtain ⟨Ao, co, hoe, hoc, hAo⟩ := (M.off (d, offv) (by simp)).1.slice
  change offv = .slice Ao d.off.length co at hoe
  subst hoe
  have p2 : ((m : Int) < (m : Int) + 1) = True := eq_true (by omega)
  have p3 : (m ≤ c) = True := eq_true (by omega)
  have p0 : (0 ≤ (m : Int)) = True := eq_true (by omega)
  have w3 : wrap64 (m : Int) = (m : Int) := wrap_small hm2
  have HWL := Aside0.mk hm
  have HMC := Aside0.mk hmc
  have HDL := Aside0.mk hdl
  have HFR := Aside0.mk hfr
  have HO := Aside0.mk (And.intro hoc hAo)
  have HLS := Aside0.mk (And.intro hL hLo)
  have HNE := Aside0.mk hne
  clear M hwai hdw hA0 hlen hws hLw hm2 hm hmc hdl hfr hoc hAo hL hLo hne
  go_enter Try.func65, Try.ntmps65
  go_upto_region 2 with fail
  obtain ⟨w1, hw1⟩ : ∃ W, W = w.alloc (.cells #[.int .i64 (d.file : Int), .bool d.cut, .slice Ao d.off.length co] 106) := ⟨_, rfl⟩
  rw [← hw1]
  have HB1 : Aside0 (Below w.heap.size w w1) := ⟨by rw [hw1]; exact below_alloc (Below.refl _ _) _⟩
  have bL : w1.heap[w.heap.size]? = some (.cells #[.int .i64 (d.file : Int), .bool d.cut, .slice Ao d.off.length co] 106 (0, 0)) := by rw [hw1]; exact blk_new w _
  have M1 := Aside0.mk ((HM.out.bound.move (fun k hk => HB1.out.block k hk.2)).mono (fun k hk => hk.1))
  obtain ⟨L, hL⟩ : ∃ L, L = w.heap.size := ⟨_, rfl⟩
  have HLg := Aside0.mk (show L ≠ g by have := HM.out.lt; omega)
  rw [← hL] at bL
  rw [← hL]
  clear k5 z5 q0 q1 q2 hw1
  have k5 : w1.cell? ⟨g, 5, none⟩ = some (.slice (some ad) (m + 1) c) := M1.out.cell 5
  have z5 := M1.out.frozen 5
  have BL := Aside0.mk bL
  have HLE := Aside0.mk hL
  clear bL hL
  go_upto_region 3 with fail
  have hbt := M1.out.wai
  rw [List.length_append, ← HWL.out] at hbt
  change Buf 106 3 w1 _ (m + 1) _ at hbt
  have hbt2 := hbt.take m c (Nat.le_succ m) (by have := HMC.out; omega) (Nat.le_refl _)
  rw [HWL.out, flat_take] at hbt2
  have hpw := M1.out.putWait (W := w1) (w2 := w1) (fun k hk => HFR.out k (Nat.le_trans HB1.out.size hk)) (.slice (some ad) m c) DL ws HDL.out (Below.refl _ _) ⟨rfl, rfl, rfl, Nat.le_refl _, fun _ _ _ => rfl⟩ (by rw [HWL.out]; exact hbt2) (.inl rfl) (fun p hp => .inl (List.mem_append_left _ hp))
  obtain ⟨w2, hw2⟩ : ∃ W, W = w1.setCell ⟨g, 5, none⟩ (.slice (some ad) m c) := ⟨_, rfl⟩
  have bL2 : w2.heap[L]? = some (.cells #[.int .i64 (d.file : Int), .bool d.cut, .slice Ao d.off.length co] 106 (0, 0)) := by rw [hw2]; exact (Below.heap_setCell w1 ⟨g, 5, none⟩ _ L HLg.out).trans BL.out
  rw [← hw2] at hpw ⊢
  have hob : Buf 5 1 w2 (.slice Ao d.off.length co) d.off.length (nums .u8 d.off) := by
    have h := (M1.out.off (d, .slice Ao d.off.length co) (by simp)).1
    rw [hw2]
    exact h.far (p := ⟨g, 5, none⟩) (fun h2 => own_ne h M1.out.blk (by decide) g h2 rfl) _
  have HOB := Aside0.mk hob
  have BL2 := Aside0.mk bL2
  have M2 := Aside0.mk hpw.1
  have HF2 := Aside0.mk hpw.2
  have kL0 : w2.cell? ⟨L, 0, none⟩ = some (.int .i64 (d.file : Int)) := blk_cell bL2 0
  have kL1 : w2.cell? ⟨L, 1, none⟩ = some (.bool d.cut) := blk_cell bL2 1
  have kL2 : w2.cell? ⟨L, 2, none⟩ = some (.slice Ao d.off.length co) := blk_cell bL2 2
  have kf := hpw.1.cfile d.file hfile
  have zf := hpw.1.frozen d.file
  have HFL := Aside0.mk hfile
  have hfs := (hpw.1.fil d.file hfile)
  obtain ⟨Af, cf, hfe, hcf, hAf⟩ := hfs.slice
  rw [hfe] at kf hfs
  have HFB := Aside0.mk hfs
  have HFE := Aside0.mk hfe
  have HAF := Aside0.mk (And.intro hcf hAf)
  have r0 : (0 ≤ (d.file : Int)) = True := eq_true (by omega)
  have r1 : ((d.file : Int) < 4) = True := eq_true (by omega)
  have r2 : (d.file < 4) = True := eq_true hfile
  clear k5 z5 hpw bL2 hw2 hbt hbt2 hfs hfe hcf hAf hfile p0 p2 p3 hob
  refine start_ (n := 8) (S := fun w' => w'.cell? ⟨L, 0, none⟩ = some (.int .i64 (d.file : Int)) ∧ w'.cell? ⟨g, d.file, none⟩ = some (.slice Af (D.files d.file).length cf)) (ds := []) #[false, false, false, false, false, false, false, false] (by kernel_rfl) rfl rfl ⟨kL0, kf⟩ (fun hHeld => ?_)
  refine pure_ (i := 0) (N := some 27) (v := ?_) (a' := ?_) #[true, false, false, false, false, false, false, false] rfl rfl (by kernel_rfl) (fun _ _ _ h => h) (Or.inl ⟨by rfl, ?_⟩) ?_ ?_
  rotate_left
  · intro w'
    go_simp
    with_reducible rfl
  rotate_left
  · simp only [Act.put, List.setIfInBounds_toArray, List.set_cons_zero, List.set_cons_succ, i64_w, i32_w]
    rfl
  refine pure_ (i := 1) (N := some 28) (v := ?_) (a' := ?_) #[true, true, false, false, false, false, false, false] rfl rfl (by kernel_rfl) (fun _ _ _ h => h) (Or.inl ⟨by rfl, ?_⟩) ?_ ?_
  rotate_left
  · intro w'
    go_simp
    with_reducible rfl
  rotate_left
  · simp only [Act.put, List.setIfInBounds_toArray, List.set_cons_zero, List.set_cons_succ, i64_w, i32_w]
    rfl
  refine pure_ (i := 3) (N := some 30) (v := ?_) (a' := ?_) #[true, true, false, true, false, false, false, false] rfl rfl (by kernel_rfl) (fun _ _ _ h => h) (Or.inl ⟨by rfl, ?_⟩) ?_ ?_
  rotate_left
  · intro w'
    go_simp
    with_reducible rfl
  rotate_left
  · simp only [Act.put, List.setIfInBounds_toArray, List.set_cons_zero, List.set_cons_succ, i64_w, i32_w]
    rfl
  refine pure_ (i := 4) (N := some 31) (v := ?_) (a' := ?_) #[true, true, false, true, true, false, false, false] rfl rfl (by kernel_rfl) (fun _ _ _ h => h) (Or.inl ⟨by rfl, ?_⟩) ?_ ?_
  rotate_left
  · intro w'
    go_simp
    with_reducible rfl
  rotate_left
  · simp only [Act.put, List.setIfInBounds_toArray, List.set_cons_zero, List.set_cons_succ, i64_w, i32_w]
    rfl
  refine take_ (i := 2) (N := some 29) (v := ?_) (a' := ?_) #[true, true, true, true, true, false, false, false] rfl rfl (by kernel_rfl) (fun _ _ _ h => h) (Or.inl ⟨by rfl, ?_⟩) hHeld ?_ ?_
  rotate_left
  · rintro w' ⟨s0, s1⟩
    go_simp
    with_reducible rfl
  rotate_left
  · simp only [Act.put, List.setIfInBounds_toArray, List.set_cons_zero, List.set_cons_succ, i64_w, i32_w]
    rfl
  refine pure_ (i := 5) (N := some 32) (v := ?_) (a' := ?_) #[true, true, true, true, true, true, false, false] rfl rfl (by kernel_rfl) (fun _ _ _ h => h) (Or.inl ⟨by rfl, ?_⟩) ?_ ?_
  rotate_left
  · intro w'
    go_simp
    with_reducible rfl
  rotate_left
  · simp only [Act.put, List.setIfInBounds_toArray, List.set_cons_zero, List.set_cons_succ, i64_w, i32_w]
    rfl
  refine take_ (i := 6) (N := some 33) (v := ?_) (a' := ?_) #[true, true, true, true, true, true, true, false] rfl rfl (by kernel_rfl) (fun _ _ _ h => h) (Or.inl ⟨by rfl, ?_⟩) hHeld ?_ ?_
  rotate_left
  · rintro w' ⟨s0, s1⟩
    go_simp
    with_reducible rfl
  rotate_left
  · simp only [Act.put, List.setIfInBounds_toArray, List.set_cons_zero, List.set_cons_succ, i64_w, i32_w]
    rfl
  refine pure_ (i := 7) (N := some 4) (v := ?_) (a' := ?_) #[true, true, true, true, true, true, true, true] rfl rfl (by kernel_rfl) (fun _ _ _ h => h) (Or.inl ⟨by rfl, ?_⟩) ?_ ?_
  rotate_left
  · intro w'
    go_simp
    with_reducible rfl
  rotate_left
  · simp only [Act.put, List.setIfInBounds_toArray, List.set_cons_zero, List.set_cons_succ, i64_w, i32_w]
    rfl
  refine done_ (by kernel_rfl) ?_
  cases hcut : d.cut with
  | true =>
    rw [hcut] at kL1
    go_wp2_with fail
    refine start_ (n := 11) (S := fun w' => w'.cell? ⟨L, 0, none⟩ = some (.int .i64 (d.file : Int)) ∧ w'.cell? ⟨L, 2, none⟩ = some (.slice Ao d.off.length co)) (ds := [10]) #[false, false, false, false, false, false, false, false, false, false, false] (by kernel_rfl) rfl rfl ⟨kL0, kL2⟩ (fun hHeld => ?_)
    refine pure_ (i := 0) (N := some 36) (v := ?_) (a' := ?_) #[true, false, false, false, false, false, false, false, false, false, false] rfl rfl (by kernel_rfl) (fun _ _ _ h => h) (Or.inl ⟨by rfl, ?_⟩) ?_ ?_
    rotate_left
    · intro w'
      go_simp
      with_reducible rfl
    rotate_left
    · simp only [Act.put, List.setIfInBounds_toArray, List.set_cons_zero, List.set_cons_succ, i64_w, i32_w]
      rfl
    refine pure_ (i := 1) (N := some 37) (v := ?_) (a' := ?_) #[true, true, false, false, false, false, false, false, false, false, false] rfl rfl (by kernel_rfl) (fun _ _ _ h => h) (Or.inl ⟨by rfl, ?_⟩) ?_ ?_
    rotate_left
    · intro w'
      go_simp
      with_reducible rfl
    rotate_left
    · simp only [Act.put, List.setIfInBounds_toArray, List.set_cons_zero, List.set_cons_succ, i64_w, i32_w]
      rfl
    refine pure_ (i := 3) (N := some 39) (v := ?_) (a' := ?_) #[true, true, false, true, false, false, false, false, false, false, false] rfl rfl (by kernel_rfl) (fun _ _ _ h => h) (Or.inl ⟨by rfl, ?_⟩) ?_ ?_
    rotate_left
    · intro w'
      go_simp
      with_reducible rfl
    rotate_left
    · simp only [Act.put, List.setIfInBounds_toArray, List.set_cons_zero, List.set_cons_succ, i64_w, i32_w]
      rfl
    refine pure_ (i := 4) (N := some 40) (v := ?_) (a' := ?_) #[true, true, false, true, true, false, false, false, false, false, false] rfl rfl (by kernel_rfl) (fun _ _ _ h => h) (Or.inl ⟨by rfl, ?_⟩) ?_ ?_
    rotate_left
    · intro w'
      go_simp
      with_reducible rfl
    rotate_left
    · simp only [Act.put, List.setIfInBounds_toArray, List.set_cons_zero, List.set_cons_succ, i64_w, i32_w]
      rfl
    refine pure_ (i := 7) (N := some 43) (v := ?_) (a' := ?_) #[true, true, false, true, true, false, false, true, false, false, false] rfl rfl (by kernel_rfl) (fun _ _ _ h => h) (Or.inl ⟨by rfl, ?_⟩) ?_ ?_
    rotate_left
    · intro w'
      go_simp
      with_reducible rfl
    rotate_left
    · simp only [Act.put, List.setIfInBounds_toArray, List.set_cons_zero, List.set_cons_succ, i64_w, i32_w]
      rfl
    refine pure_ (i := 8) (N := some 44) (v := ?_) (a' := ?_) #[true, true, false, true, true, false, false, true, true, false, false] rfl rfl (by kernel_rfl) (fun _ _ _ h => h) (Or.inl ⟨by rfl, ?_⟩) ?_ ?_
    rotate_left
    · intro w'
      go_simp
      with_reducible rfl
    rotate_left
    · simp only [Act.put, List.setIfInBounds_toArray, List.set_cons_zero, List.set_cons_succ, i64_w, i32_w]
      rfl
    refine take_ (i := 2) (N := some 38) (v := ?_) (a' := ?_) #[true, true, true, true, true, false, false, true, true, false, false] rfl rfl (by kernel_rfl) (fun _ _ _ h => h) (Or.inl ⟨by rfl, ?_⟩) hHeld ?_ ?_
    rotate_left
    · rintro w' ⟨s0, s1⟩
      go_simp
      with_reducible rfl
    rotate_left
    · simp only [Act.put, List.setIfInBounds_toArray, List.set_cons_zero, List.set_cons_succ, i64_w, i32_w]
      rfl
    refine take_ (i := 5) (N := some 41) (v := ?_) (a' := ?_) #[true, true, true, true, true, true, false, true, true, false, false] rfl rfl (by kernel_rfl) (fun _ _ _ h => h) (Or.inl ⟨by rfl, ?_⟩) hHeld ?_ ?_
    rotate_left
    · rintro w' ⟨s0, s1⟩
      go_simp
      with_reducible rfl
    rotate_left
    · simp only [Act.put, List.setIfInBounds_toArray, List.set_cons_zero, List.set_cons_succ, i64_w, i32_w]
      rfl
    refine one_ (i := 6) (N := some 42) #[true, true, true, true, true, true, true, true, true, false, false] rfl rfl (by kernel_rfl) (by decide) (fun K hK => ?_)
    refine Buf.append_step 37 5 (.int .u8 0) 1 1 (by rfl) (.tmp 39) (.tmp 41) rfl Try.underlying37 info5 rfl (by decide) (by decide) (.slice Af (D.files d.file).length cf) (D.files d.file).length (nums .u8 (D.files d.file)) (HFB.out.drewN 2) Ao d.off.length co (nums .u8 d.off) HOB.out.1 HO.out.2 (fun ad h => (HOB.out.drewN 2).cells ad h) (nums_one _ _) (by have := HLS.out; omega) rfl rfl ?_
    intro v3 w3 hv3 hg3 hat3
    have HV3 := Aside0.mk hv3
    have HG3 := Aside0.mk hg3
    have HA3 := Aside0.mk hat3
    have hbk := M2.out.blk2 (W := w2.drew.drew) (below_drew (below_drew (Below.refl _ _))) hg3 (fun k hk => M2.out.fne HFL.out k (by rw [HFE.out]; exact hk))
    have hbL : w3.heap[L]? = some (.cells #[.int .i64 (d.file : Int), .bool d.cut, .slice Ao d.off.length co] 106 (0, 0)) := (hg3.block L (blk_lt BL2.out) (fun h => own_ne HFB.out BL2.out (by decide) L h.symm rfl)).trans BL2.out
    have g0 : w3.cell? ⟨L, 0, none⟩ = some (.int .i64 (d.file : Int)) := blk_cell hbL 0
    have g2 : w3.cell? ⟨L, 2, none⟩ = some (.slice Ao d.off.length co) := blk_cell hbL 2
    have kc : w3.cell? ⟨g, d.file, none⟩ = some (f d.file) := by rw [blk_cell hbk]; exact diskCells_file f _ _ d.file HFL.out
    have kz : w3.frozen? ⟨g, d.file, none⟩ = false := blk_frozen hbk d.file
    obtain ⟨A3, c3, rfl, _⟩ := hv3.slice
    clear hv3 hg3 hat3 hbk hbL
    refine hK.out _ _ ⟨g0, g2⟩ (fun hHeld => ?_)
    clear hK K
    refine norm_ (a' := ?_) ?_ ?_
    rotate_left
    · show Act.put _ (some 42) _ = _
      simp only [Act.put, List.setIfInBounds_toArray, List.set_cons_zero, List.set_cons_succ, i64_w, i32_w]
      rfl
    refine pure_ (i := 9) (N := some 45) (v := ?_) (a' := ?_) #[true, true, true, true, true, true, true, true, true, true, false] rfl rfl (by kernel_rfl) (fun _ _ _ h => h) (Or.inl ⟨by rfl, ?_⟩) ?_ ?_
    rotate_left
    · intro w'
      go_simp
      with_reducible rfl
    rotate_left
    · simp only [Act.put, List.setIfInBounds_toArray, List.set_cons_zero, List.set_cons_succ, i64_w, i32_w]
      rfl
    refine last_ (i := 10) (N := none) #[true, true, true, true, true, true, true, true, true, true, true] rfl rfl (by kernel_rfl) (by decide) (fun K hK => ?_)
    refine skip_ (w1 := ?_) (by rfl) rfl ?_ ?_
    rotate_left
    · go_simp
      rfl
    refine hK.out _ _ ?_
    clear hK K
    refine done_ (by kernel_rfl) ?_
    go_wp2_with fail
    ((try simp only [Exit.inBlock, Exit.then]); refine bodyPost_ret (results_none rfl _ _ _) rfl ?_)
    have hpf := M2.out.putFile (W := w2.drew.drew) (w2 := w3) (fun k hk => HFR.out k (Nat.le_trans HB1.out.size (Nat.le_trans HF2.out.size hk))) d.file HFL.out _ (D.files d.file ++ d.off) (below_drew (below_drew (Below.refl _ _)))
      (by rw [HFE.out]; exact HG3.out) (by have h := HV3.out; rw [List.length_append, nums_append]; exact h) (by rw [HFE.out]; exact HA3.out)
    have he : undoF D.files d = upd D.files d.file (D.files d.file ++ d.off) := by unfold undoF; rw [if_pos hcut]
    rw [he]
    exact ⟨rfl, ⟨_, _, _, hpf.1⟩, ((Foot.of_below HB1.out S).trans HF2.out (fun k hk => .inl hk)).trans hpf.2 (fun k hk => .inl hk)⟩
  | false =>
    rw [hcut] at kL1
    obtain ⟨K, hK⟩ : ∃ K, (D.files d.file).length = K + 1 := by
      have h := HNE.out hcut
      cases hq : D.files d.file with
      | nil => exact absurd hq h
      | cons x xs => exact ⟨xs.length, rfl⟩
    have HKK := Aside0.mk hK
    have hcK : K + 1 ≤ cf := by have h : (D.files d.file).length ≤ cf := HAF.out.1; rw [hK] at h; exact h
    have hfb := HFB.out
    rw [hK] at hfb kf ⊢
    have hbt := hfb.take K K (Nat.le_succ K) (Nat.le_refl K) (by have := hfb.slice; obtain ⟨A9, c9, h9, h8, _⟩ := this; injection h9 with _ _ h7; omega)
    have HBT := Aside0.mk hbt
    have s1 : (K ≤ cf) = True := eq_true (by omega)
    have s2 : (0 ≤ (K : Int)) = True := eq_true (by omega)
    have s3 : ((K : Int) ≤ (cf : Int)) = True := eq_true (by omega)
    have s4 : wrap64 (K : Int) = (K : Int) := wrap_small (by have := HLS.out.1; omega)
    clear hfb hbt hK hcK
    go_wp2_with fail
    refine start_ (n := 15) (S := fun w' => w'.cell? ⟨L, 0, none⟩ = some (.int .i64 (d.file : Int))) (ds := [14]) #[false, false, false, false, false, false, false, false, false, false, false, false, false, false, false] (by kernel_rfl) rfl rfl (kL0) (fun hHeld => ?_)
    refine pure_ (i := 0) (N := some 46) (v := ?_) (a' := ?_) #[true, false, false, false, false, false, false, false, false, false, false, false, false, false, false] rfl rfl (by kernel_rfl) (fun _ _ _ h => h) (Or.inl ⟨by rfl, ?_⟩) ?_ ?_
    rotate_left
    · intro w'
      go_simp
      with_reducible rfl
    rotate_left
    · simp only [Act.put, List.setIfInBounds_toArray, List.set_cons_zero, List.set_cons_succ, i64_w, i32_w]
      rfl
    refine pure_ (i := 1) (N := some 47) (v := ?_) (a' := ?_) #[true, true, false, false, false, false, false, false, false, false, false, false, false, false, false] rfl rfl (by kernel_rfl) (fun _ _ _ h => h) (Or.inl ⟨by rfl, ?_⟩) ?_ ?_
    rotate_left
    · intro w'
      go_simp
      with_reducible rfl
    rotate_left
    · simp only [Act.put, List.setIfInBounds_toArray, List.set_cons_zero, List.set_cons_succ, i64_w, i32_w]
      rfl
    refine pure_ (i := 3) (N := some 49) (v := ?_) (a' := ?_) #[true, true, false, true, false, false, false, false, false, false, false, false, false, false, false] rfl rfl (by kernel_rfl) (fun _ _ _ h => h) (Or.inl ⟨by rfl, ?_⟩) ?_ ?_
    rotate_left
    · intro w'
      go_simp
      with_reducible rfl
    rotate_left
    · simp only [Act.put, List.setIfInBounds_toArray, List.set_cons_zero, List.set_cons_succ, i64_w, i32_w]
      rfl
    refine pure_ (i := 4) (N := some 50) (v := ?_) (a' := ?_) #[true, true, false, true, true, false, false, false, false, false, false, false, false, false, false] rfl rfl (by kernel_rfl) (fun _ _ _ h => h) (Or.inl ⟨by rfl, ?_⟩) ?_ ?_
    rotate_left
    · intro w'
      go_simp
      with_reducible rfl
    rotate_left
    · simp only [Act.put, List.setIfInBounds_toArray, List.set_cons_zero, List.set_cons_succ, i64_w, i32_w]
      rfl
    refine pure_ (i := 5) (N := some 51) (v := ?_) (a' := ?_) #[true, true, false, true, true, true, false, false, false, false, false, false, false, false, false] rfl rfl (by kernel_rfl) (fun _ _ _ h => h) (Or.inl ⟨by rfl, ?_⟩) ?_ ?_
    rotate_left
    · intro w'
      go_simp
      with_reducible rfl
    rotate_left
    · simp only [Act.put, List.setIfInBounds_toArray, List.set_cons_zero, List.set_cons_succ, i64_w, i32_w]
      rfl
    refine pure_ (i := 6) (N := some 52) (v := ?_) (a' := ?_) #[true, true, false, true, true, true, true, false, false, false, false, false, false, false, false] rfl rfl (by kernel_rfl) (fun _ _ _ h => h) (Or.inl ⟨by rfl, ?_⟩) ?_ ?_
    rotate_left
    · intro w'
      go_simp
      with_reducible rfl
    rotate_left
    · simp only [Act.put, List.setIfInBounds_toArray, List.set_cons_zero, List.set_cons_succ, i64_w, i32_w]
      rfl
    refine pure_ (i := 7) (N := some 53) (v := ?_) (a' := ?_) #[true, true, false, true, true, true, true, true, false, false, false, false, false, false, false] rfl rfl (by kernel_rfl) (fun _ _ _ h => h) (Or.inl ⟨by rfl, ?_⟩) ?_ ?_
    rotate_left
    · intro w'
      go_simp
      with_reducible rfl
    rotate_left
    · simp only [Act.put, List.setIfInBounds_toArray, List.set_cons_zero, List.set_cons_succ, i64_w, i32_w]
      rfl
    refine pure_ (i := 8) (N := some 54) (v := ?_) (a' := ?_) #[true, true, false, true, true, true, true, true, true, false, false, false, false, false, false] rfl rfl (by kernel_rfl) (fun _ _ _ h => h) (Or.inl ⟨by rfl, ?_⟩) ?_ ?_
    rotate_left
    · intro w'
      go_simp
      with_reducible rfl
    rotate_left
    · simp only [Act.put, List.setIfInBounds_toArray, List.set_cons_zero, List.set_cons_succ, i64_w, i32_w]
      rfl
    refine pure_ (i := 9) (N := some 55) (v := ?_) (a' := ?_) #[true, true, false, true, true, true, true, true, true, true, false, false, false, false, false] rfl rfl (by kernel_rfl) (fun _ _ _ h => h) (Or.inl ⟨by rfl, ?_⟩) ?_ ?_
    rotate_left
    · intro w'
      go_simp
      with_reducible rfl
    rotate_left
    · simp only [Act.put, List.setIfInBounds_toArray, List.set_cons_zero, List.set_cons_succ, i64_w, i32_w]
      rfl
    refine pure_ (i := 10) (N := some 56) (v := ?_) (a' := ?_) #[true, true, false, true, true, true, true, true, true, true, true, false, false, false, false] rfl rfl (by kernel_rfl) (fun _ _ _ h => h) (Or.inl ⟨by rfl, ?_⟩) ?_ ?_
    rotate_left
    · intro w'
      go_simp
      with_reducible rfl
    rotate_left
    · simp only [Act.put, List.setIfInBounds_toArray, List.set_cons_zero, List.set_cons_succ, i64_w, i32_w]
      rfl
    refine pure_ (i := 11) (N := some 57) (v := ?_) (a' := ?_) #[true, true, false, true, true, true, true, true, true, true, true, true, false, false, false] rfl rfl (by kernel_rfl) (fun _ _ _ h => h) (Or.inl ⟨by rfl, ?_⟩) ?_ ?_
    rotate_left
    · intro w'
      go_simp
      with_reducible rfl
    rotate_left
    · simp only [Act.put, List.setIfInBounds_toArray, List.set_cons_zero, List.set_cons_succ, i64_w, i32_w]
      rfl
    refine pure_ (i := 12) (N := some 58) (v := ?_) (a' := ?_) #[true, true, false, true, true, true, true, true, true, true, true, true, true, false, false] rfl rfl (by kernel_rfl) (fun _ _ _ h => h) (Or.inl ⟨by rfl, ?_⟩) ?_ ?_
    rotate_left
    · intro w'
      go_simp
      with_reducible rfl
    rotate_left
    · simp only [Act.put, List.setIfInBounds_toArray, List.set_cons_zero, List.set_cons_succ, i64_w, i32_w]
      rfl
    refine take_ (i := 2) (N := some 48) (v := ?_) (a' := ?_) #[true, true, true, true, true, true, true, true, true, true, true, true, true, false, false] rfl rfl (by kernel_rfl) (fun _ _ _ h => h) (Or.inl ⟨by rfl, ?_⟩) hHeld ?_ ?_
    rotate_left
    · intro w' s0
      go_simp
      with_reducible rfl
    rotate_left
    · simp only [Act.put, List.setIfInBounds_toArray, List.set_cons_zero, List.set_cons_succ, i64_w, i32_w]
      rfl
    refine pure_ (i := 13) (N := some 59) (v := ?_) (a' := ?_) #[true, true, true, true, true, true, true, true, true, true, true, true, true, true, false] rfl rfl (by kernel_rfl) (fun _ _ _ h => h) (Or.inl ⟨by rfl, ?_⟩) ?_ ?_
    rotate_left
    · intro w'
      go_simp
      with_reducible rfl
    rotate_left
    · simp only [Act.put, List.setIfInBounds_toArray, List.set_cons_zero, List.set_cons_succ, i64_w, i32_w]
      rfl
    refine last_ (i := 14) (N := none) #[true, true, true, true, true, true, true, true, true, true, true, true, true, true, true] rfl rfl (by kernel_rfl) (by decide) (fun K hK => ?_)
    refine skip_ (w1 := ?_) (by rfl) rfl ?_ ?_
    rotate_left
    · go_simp
      rfl
    refine hK.out _ _ ?_
    clear hK K
    refine done_ (by kernel_rfl) ?_
    go_wp2_with fail
    go_end0
    have hpf := M2.out.putFile (W := w2.drew.drew) (w2 := w2.drew.drew) (fun k hk => HFR.out k (Nat.le_trans HB1.out.size (Nat.le_trans HF2.out.size hk))) d.file HFL.out (.slice Af K K) (D.files d.file).dropLast (below_drew (below_drew (Below.refl _ _)))
      ⟨rfl, rfl, rfl, Nat.le_refl _, fun _ _ _ => rfl⟩ (by
        have h := HBT.out
        rw [List.length_dropLast, HKK.out, List.dropLast_eq_take, HKK.out]
        simp only [Nat.add_sub_cancel, Nat.mul_one] at h ⊢
        unfold nums at h ⊢
        rw [List.map_take]
        exact h) (.inl (by rw [HFE.out]; cases Af <;> rfl))
    have he : undoF D.files d = upd D.files d.file (D.files d.file).dropLast := by unfold undoF; rw [if_neg (by rw [hcut]; simp)]
    rw [he]
    exact ⟨rfl, ⟨_, _, _, hpf.1⟩, ((Foot.of_below HB1.out S).trans HF2.out (fun k hk => .inl hk)).trans hpf.2 (fun k hk => .inl hk)⟩
end Go.Proofs.Ytfkkekdpfkglbaa.Q
