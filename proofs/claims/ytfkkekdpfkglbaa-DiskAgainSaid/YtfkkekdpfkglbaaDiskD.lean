/- A disk's Append. Conditions: as typed. -/
import Derived.Test.YtfkkekdpfkglbaaDiskC
namespace Go.Proofs.Ytfkkekdpfkglbaa.Q
open Go.RowKit Go.Proofs.YtfkkekdpfkglbaaW.PrintWords Go.Proofs.YtfkkekdpfkglbaaW.PrintLast Go.Proofs.YtfkkekdpfkglbaaW.PrintMore
set_option linter.unusedVariables false
set_option linter.unusedSimpArgs false
theorem news_one (w : World) (u : Value) (e : TypeId) : ∀ ad, some (⟨w.heap.size, 0, none⟩ : Addr) = some ad → ∀ j x, [u][j]? = some x → (w.alloc (.cells #[u] e)).cell? (ad.add j) = some x := by
  rintro ad h j x hj
  injection h with h
  subst h
  exact World.news_of_block (cs := #[u]) (t := e) (fr := (0, 0)) (heap_alloc_new w _) j x (by simpa using hj)
theorem news_three (w : World) (a b c : Value) (e : TypeId) : ∀ ad, some (⟨w.heap.size, 0, none⟩ : Addr) = some ad → ∀ j x, [a, b, c][j]? = some x → (w.alloc (.cells #[a, b, c] e)).cell? (ad.add j) = some x := by
  rintro ad h j x hj
  injection h with h
  subst h
  exact World.news_of_block (cs := #[a, b, c]) (t := e) (fr := (0, 0)) (heap_alloc_new w _) j x (by simpa using hj)
theorem built_deed (i : Int) : Try.prog.built 106 [(0, .int .i64 i)] = some #[.int .i64 i, .bool false, .slice none 0 0] := by kernel_rfl
set_option maxHeartbeats 8000000 in
set_option maxRecDepth 100000 in
theorem disk_Append.early (S : Nat → Prop) (g : Nat) (D : Dsk) (file : Int) (b : List Int) (A : Option Addr) (c : Nat) (w : World) (h : DiskAt S w g D) (hrd : ∀ W, Foot S w W → ReadsInt W .u8 A b.length b) (hL : b.length ≤ 1099511627776) (hF : ∀ i, i < 4 → (D.files i).length ≤ 1099511627776) (hW : D.wait.length ≤ 1099511627776) (hearly : hasB file = false ∨ D.dark = true ∨ D.leftN 4 < (b.length : Int)) :
    Calls Try.prog 18 #[.pointer (some ⟨g, 0, none⟩), .int .i64 file, .slice A b.length c] w fun e w' => e = .returned (.int .i64 (D.app file b).1) ∧ DiskAt (fun k => S k ∨ w.heap.size ≤ k) w' g (D.app file b).2 ∧ Foot S w w' := by
  have HD := Aside0.mk h
  have HM := Aside0.mk (show DiskAt (fun k => S k ∨ w.heap.size ≤ k) w g D from h.mono (fun k hk => .inl hk))
  obtain ⟨f, wv, DW, M⟩ := h.out
  have k8 : w.cell? ⟨g, 8, none⟩ = some (.bool D.dark) := M.cell 8
  clear M h hrd hF hW
  cases hh : hasB file with
  | false =>
    have HE := Aside0.mk (show D.app file b = (2, D) by unfold Dsk.app; rw [if_pos hh])
    have HH := Aside0.mk hh
    clear hh hearly
    go_enter Try.func18, Try.ntmps18
    go_wp2_with (first | (go_at_call 61; (with_reducible refine (disk_has.calls _ _).mono ?_); rintro e w1 ⟨rfl, hw1⟩; have hw2 := hw1.symm; clear hw1; subst hw2; rw [HH.out]) | (go_at_call 31; (with_reducible refine (disk_Left.calls S g D _ HD.out).mono ?_); rintro e w1 ⟨rfl, hw1⟩; have hw2 := hw1.symm; clear hw1; subst hw2))
    go_ret
    rw [HE.out]
    exact ⟨rfl, HM.out, Foot.refl _ w⟩
  | true =>
    have HH := Aside0.mk hh
    cases hd : D.dark with
    | true =>
      have HE := Aside0.mk (show D.app file b = (10, D) by unfold Dsk.app; rw [if_neg (by rw [hh]; simp), if_pos hd])
      rw [hd] at k8
      clear hh hearly hd
      go_enter Try.func18, Try.ntmps18
      go_wp2_with (first | (go_at_call 61; (with_reducible refine (disk_has.calls _ _).mono ?_); rintro e w1 ⟨rfl, hw1⟩; have hw2 := hw1.symm; clear hw1; subst hw2; rw [HH.out]) | (go_at_call 31; (with_reducible refine (disk_Left.calls S g D _ HD.out).mono ?_); rintro e w1 ⟨rfl, hw1⟩; have hw2 := hw1.symm; clear hw1; subst hw2))
      go_ret
      rw [HE.out]
      exact ⟨rfl, HM.out, Foot.refl _ w⟩
    | false =>
      have hl : D.leftN 4 < (b.length : Int) := by
        rcases hearly with h | h | h
        · rw [hh] at h; cases h
        · rw [hd] at h; cases h
        · exact h
      have HE := Aside0.mk (show D.app file b = (9, D) by unfold Dsk.app; rw [if_neg (by rw [hh]; simp), if_neg (by rw [hd]; simp), if_pos hl])
      have d1 : decide (D.leftN 4 < (b.length : Int)) = true := decide_eq_true hl
      rw [hd] at k8
      clear hh hearly hd hl
      go_enter Try.func18, Try.ntmps18
      go_wp2_with (first | (go_at_call 61; (with_reducible refine (disk_has.calls _ _).mono ?_); rintro e w1 ⟨rfl, hw1⟩; have hw2 := hw1.symm; clear hw1; subst hw2; rw [HH.out]) | (go_at_call 31; (with_reducible refine (disk_Left.calls S g D _ HD.out).mono ?_); rintro e w1 ⟨rfl, hw1⟩; have hw2 := hw1.symm; clear hw1; subst hw2))
      go_ret
      rw [HE.out]
      exact ⟨rfl, HM.out, Foot.refl _ w⟩
theorem diskCells_file (f : Nat → Value) (wv : Value) (D : Dsk) (n : Nat) (hn : n < 4) : (diskCells f wv D)[n]? = some (f n) := by
  rcases (show n = 0 ∨ n = 1 ∨ n = 2 ∨ n = 3 by omega) with rfl | rfl | rfl | rfl <;> rfl
set_option maxHeartbeats 8000000 in
set_option maxRecDepth 100000 in
theorem disk_Append.loop (S : Nat → Prop) (g : Nat) (D : Dsk) (file : Int) (b : List Int) (A : Option Addr) (c : Nat) (w : World) (h : DiskAt S w g D) (hrd : ∀ W, Foot S w W → ReadsInt W .u8 A b.length b) (hL : b.length ≤ 1099511627776) (hF : ∀ i, i < 4 → (D.files i).length ≤ 1099511627776) (hW : D.wait.length ≤ 1099511627776) (n : Nat) (hfn : file = (n : Int)) (hn : n < 4) (hd : D.dark = false) (hl : ¬ D.leftN 4 < (b.length : Int)) :
    Calls Try.prog 18 #[.pointer (some ⟨g, 0, none⟩), .int .i64 file, .slice A b.length c] w fun e w' => e = .returned (.int .i64 (D.app file b).1) ∧ DiskAt (fun k => S k ∨ w.heap.size ≤ k) w' g (D.app file b).2 ∧ Foot S w w' := by
  subst hfn
  have hh : hasB (n : Int) = true := hasB_nat hn
  have HE := Aside0.mk (show D.app (n : Int) b = ((if (appL n D b).2 then 0 else 10), (appL n D b).1) by unfold Dsk.app; rw [if_neg (by rw [hh]; simp), if_neg (by rw [hd]; simp), if_neg hl, Int.toNat_natCast])
  have HD := Aside0.mk h
  have HD0 := Aside0.mk (show DiskAt (fun k => S k ∨ w.heap.size ≤ k) w g D from h.mono (fun k hk => .inl hk))
  obtain ⟨f, wv, DW, M⟩ := h.out
  have k8 : w.cell? ⟨g, 8, none⟩ = some (.bool D.dark) := M.cell 8
  rw [hd] at k8
  have d1 : decide (D.leftN 4 < (b.length : Int)) = false := decide_eq_false hl
  have HH := Aside0.mk hh
  have HN := Aside0.mk hn
  have HRD := Aside0.mk hrd
  have HS := Aside0.mk (show (D.files n).length ≤ 1099511627776 ∧ D.wait.length ≤ 1099511627776 ∧ b.length ≤ 1099511627776 from ⟨hF n hn, hW, hL⟩)
  have hlb : b.length ≤ 1099511627776 := hL
  clear h hrd M hd hl hh hF hW hL
  obtain ⟨N, hN⟩ : ∃ N, N = b.length := ⟨_, rfl⟩
  have HNb := Aside0.mk hN
  rw [← hN] at d1
  rw [← hN]
  clear hN
  go_enter Try.func18, Try.ntmps18
  go_wp2_with (first | (go_at_call 61; (with_reducible refine (disk_has.calls _ _).mono ?_); rintro e w1 ⟨rfl, hw1⟩; have hw2 := hw1.symm; clear hw1; subst hw2; rw [HH.out]) | (go_at_call 31; (with_reducible refine (disk_Left.calls S g D _ HD.out).mono ?_); rintro e w1 ⟨rfl, hw1⟩; have hw2 := hw1.symm; clear hw1; subst hw2))
  go_loopg [29] N (fun kq v29 w' => ∃ (i : Nat) (Di : Dsk), v29 = .int .i64 (i : Int) ∧ Aside0 (i + kq = N) ∧ Aside0 (DiskAt (fun k => S k ∨ w.heap.size ≤ k) w' g Di ∧ Foot S w w') ∧ Aside0 (appL n D b = appL n Di (b.drop i)) ∧ Aside0 ((Di.files n).length ≤ (D.files n).length + i ∧ Di.wait.length ≤ D.wait.length + i))
  case atStart => exact ⟨0, D, rfl, ⟨by omega⟩, ⟨HD0.out, Foot.refl _ w⟩, ⟨rfl⟩, ⟨Nat.le_refl _, Nat.le_refl _⟩⟩
  case round =>
    obtain ⟨i, Di, rfl, HI, HDi, HAL, HSZ⟩ := hrel
    by_cases ci : i < N
    · have c0 : decide ((i : Int) < (N : Int)) = true := decide_eq_true (by omega)
      obtain ⟨k1, rfl⟩ : ∃ k1, gk = k1 + 1 := ⟨gk - 1, by have := HI.out; omega⟩
      have p0 : (0 ≤ (i : Int)) = True := eq_true (by omega)
      have q0 : ((i : Int) < (N : Int)) = True := eq_true (by omega)
      obtain ⟨ad, hA, hx⟩ := ReadsInt.at_ (HRD.out wr HDi.out.2) (i : Int) (by omega) (by have := HNb.out; omega)
      subst hA
      rw [Int.toNat_natCast] at hx
      have hal := appL_at n Di b i (by have := HNb.out; omega)
      unfold rd at hx
      rw [Int.toNat_natCast] at hx
      obtain ⟨x, hxe⟩ : ∃ x, x = b.getD i 0 := ⟨_, rfl⟩
      rw [← hxe] at hx hal
      obtain ⟨f, wv, DW, m⟩ := HDi.out.1.out
      have M := Aside0.mk m
      clear hxe m
      cases hg : Di.gone with
      | true =>
        have HG := Aside0.mk hg
        have HR := Aside0.mk (show appL n D b = (Di.step, false) by rw [HAL.out, hal, if_pos hg])
        clear hal hg ci
        go_wp2_with (go_at_call 62; (with_reducible refine (disk_step.mem _ g Di f wv DW _ M.out).mono ?_); rintro e w1 ⟨rfl, m1, hf1, hz1⟩; rw [HG.out]; have M1 := Aside0.mk m1; have HF1 := Aside0.mk hf1; have HZ1 := Aside0.mk hz1; clear m1 hf1 hz1)
        go_ret
        rw [HE.out, HR.out]
        exact ⟨rfl, ⟨f, wv, DW, M1.out⟩, HDi.out.2.trans HF1.out (fun k hk => by subst hk; exact M.out.sg)⟩
      | false =>
        have HG := Aside0.mk hg
        have HR := Aside0.mk (show appL n D b = appL n (Di.appOne n x) (b.drop (i + 1)) by rw [HAL.out, hal, if_neg (by rw [hg]; simp)])
        have hsf : Di.step.files = Di.files := by unfold Dsk.step; rw [if_neg (by rw [hg]; simp)]
        have hsw : Di.step.wait = Di.wait := by unfold Dsk.step; rw [if_neg (by rw [hg]; simp)]
        have HLN := Aside0.mk (show (Di.step.files n).length ≤ 2199023255552 by rw [hsf]; have h1 := HSZ.out; have h2 := HS.out; have h3 := HNb.out; omega)
        have hdl : DW.length = Di.wait.length := by rw [← List.length_map (f := Prod.fst), M.out.dw, List.length_reverse]
        have HLW := Aside0.mk (show DW.length ≤ 2199023255552 by rw [hdl]; have h1 := HSZ.out; have h2 := HS.out; have h3 := HNb.out; omega)
        have HSZ2 := Aside0.mk (show ((Di.appOne n x).files n).length ≤ (D.files n).length + (i + 1) ∧ (Di.appOne n x).wait.length ≤ D.wait.length + (i + 1) by
          unfold Dsk.appOne
          simp only [upd_same, hsf, hsw, List.length_append, List.length_cons, List.length_nil]
          have h1 := HSZ.out
          omega)
        have hci : i < N := ci
        have HCI := Aside0.mk hci
        have hq1 : (n < 4) = True := eq_true HN.out
        have hq0 : (0 ≤ (n : Int)) = True := eq_true (by omega)
        have hq2 : ((n : Int) < 4) = True := eq_true (by have := HN.out; omega)
        clear hal hg ci hci hsf hsw hdl
        go_upto_region 14 with (go_at_call 62; (with_reducible refine (disk_step.mem _ g Di f wv DW _ M.out).mono ?_); rintro e w1 ⟨rfl, m1, hf1, hz1⟩; rw [HG.out]; have M1 := Aside0.mk m1; have HF1 := Aside0.mk hf1; have HZ1 := Aside0.mk hz1; clear m1 hf1 hz1)
        have kf := M1.out.cfile n HN.out
        have KA : ∀ o, (w1.drew.alloc o).cell? ⟨g, n, none⟩ = some (f n) := fun o => ((below_alloc (below_drew (Below.refl w1.heap.size w1)) o).cell (p := ⟨g, n, none⟩) M1.out.lt).trans kf
        refine start_ (n := 15) (S := fun w' => w'.cell? ⟨g, n, none⟩ = some (f n)) (ds := [10, 14]) #[false, false, false, false, false, false, false, false, false, false, false, false, false, false, false] (by kernel_rfl) rfl rfl (kf) (fun hHeld => ?_)
        refine pure_ (i := 0) (N := some 36) (v := ?_) (a' := ?_) #[true, false, false, false, false, false, false, false, false, false, false, false, false, false, false] rfl rfl (by kernel_rfl) (fun _ _ _ h => h) (Or.inl ⟨by rfl, ?_⟩) ?_ ?_
        rotate_left
        · intro w'
          go_simp
          with_reducible rfl
        rotate_left
        · simp only [Act.put, List.setIfInBounds_toArray, List.set_cons_zero, List.set_cons_succ, i64_w, i32_w]
          rfl
        refine pure_ (i := 1) (N := some 37) (v := ?_) (a' := ?_) #[true, true, false, false, false, false, false, false, false, false, false, false, false, false, false] rfl rfl (by kernel_rfl) (fun _ _ _ h => h) (Or.inl ⟨by rfl, ?_⟩) ?_ ?_
        rotate_left
        · intro w'
          go_simp
          with_reducible rfl
        rotate_left
        · simp only [Act.put, List.setIfInBounds_toArray, List.set_cons_zero, List.set_cons_succ, i64_w, i32_w]
          rfl
        refine pure_ (i := 2) (N := some 38) (v := ?_) (a' := ?_) #[true, true, true, false, false, false, false, false, false, false, false, false, false, false, false] rfl rfl (by kernel_rfl) (fun _ _ _ h => h) (Or.inl ⟨by rfl, ?_⟩) ?_ ?_
        rotate_left
        · intro w'
          go_simp
          with_reducible rfl
        rotate_left
        · simp only [Act.put, List.setIfInBounds_toArray, List.set_cons_zero, List.set_cons_succ, i64_w, i32_w]
          rfl
        refine pure_ (i := 3) (N := some 39) (v := ?_) (a' := ?_) #[true, true, true, true, false, false, false, false, false, false, false, false, false, false, false] rfl rfl (by kernel_rfl) (fun _ _ _ h => h) (Or.inl ⟨by rfl, ?_⟩) ?_ ?_
        rotate_left
        · intro w'
          go_simp
          with_reducible rfl
        rotate_left
        · simp only [Act.put, List.setIfInBounds_toArray, List.set_cons_zero, List.set_cons_succ, i64_w, i32_w]
          rfl
        refine pure_ (i := 4) (N := some 40) (v := ?_) (a' := ?_) #[true, true, true, true, true, false, false, false, false, false, false, false, false, false, false] rfl rfl (by kernel_rfl) (fun _ _ _ h => h) (Or.inl ⟨by rfl, ?_⟩) ?_ ?_
        rotate_left
        · intro w'
          go_simp
          with_reducible rfl
        rotate_left
        · simp only [Act.put, List.setIfInBounds_toArray, List.set_cons_zero, List.set_cons_succ, i64_w, i32_w]
          rfl
        refine pure_ (i := 5) (N := some 41) (v := ?_) (a' := ?_) #[true, true, true, true, true, true, false, false, false, false, false, false, false, false, false] rfl rfl (by kernel_rfl) (fun _ _ _ h => h) (Or.inl ⟨by rfl, ?_⟩) ?_ ?_
        rotate_left
        · intro w'
          go_simp
          with_reducible rfl
        rotate_left
        · simp only [Act.put, List.setIfInBounds_toArray, List.set_cons_zero, List.set_cons_succ, i64_w, i32_w]
          rfl
        refine pure_ (i := 6) (N := some 42) (v := ?_) (a' := ?_) #[true, true, true, true, true, true, true, false, false, false, false, false, false, false, false] rfl rfl (by kernel_rfl) (fun _ _ _ h => h) (Or.inl ⟨by rfl, ?_⟩) ?_ ?_
        rotate_left
        · intro w'
          go_simp
          with_reducible rfl
        rotate_left
        · simp only [Act.put, List.setIfInBounds_toArray, List.set_cons_zero, List.set_cons_succ, i64_w, i32_w]
          rfl
        refine pure_ (i := 8) (N := some 44) (v := ?_) (a' := ?_) #[true, true, true, true, true, true, true, false, true, false, false, false, false, false, false] rfl rfl (by kernel_rfl) (fun _ _ _ h => h) (Or.inl ⟨by rfl, ?_⟩) ?_ ?_
        rotate_left
        · intro w'
          go_simp
          with_reducible rfl
        rotate_left
        · simp only [Act.put, List.setIfInBounds_toArray, List.set_cons_zero, List.set_cons_succ, i64_w, i32_w]
          rfl
        refine pure_ (i := 11) (N := some 47) (v := ?_) (a' := ?_) #[true, true, true, true, true, true, true, false, true, false, false, true, false, false, false] rfl rfl (by kernel_rfl) (fun _ _ _ h => h) (Or.inl ⟨by rfl, ?_⟩) ?_ ?_
        rotate_left
        · intro w'
          go_simp
          with_reducible rfl
        rotate_left
        · simp only [Act.put, List.setIfInBounds_toArray, List.set_cons_zero, List.set_cons_succ, i64_w, i32_w]
          rfl
        refine pure_ (i := 12) (N := some 48) (v := ?_) (a' := ?_) #[true, true, true, true, true, true, true, false, true, false, false, true, true, false, false] rfl rfl (by kernel_rfl) (fun _ _ _ h => h) (Or.inl ⟨by rfl, ?_⟩) ?_ ?_
        rotate_left
        · intro w'
          go_simp
          with_reducible rfl
        rotate_left
        · simp only [Act.put, List.setIfInBounds_toArray, List.set_cons_zero, List.set_cons_succ, i64_w, i32_w]
          rfl
        refine take_ (i := 7) (N := some 43) (v := ?_) (a' := ?_) #[true, true, true, true, true, true, true, true, true, false, false, true, true, false, false] rfl rfl (by kernel_rfl) (fun _ _ _ h => h) (Or.inl ⟨by rfl, ?_⟩) hHeld ?_ ?_
        rotate_left
        · intro w' s0
          go_simp
          with_reducible rfl
        rotate_left
        · simp only [Act.put, List.setIfInBounds_toArray, List.set_cons_zero, List.set_cons_succ, i64_w, i32_w]
          rfl
        refine one_ (i := 9) (N := some 45) #[true, true, true, true, true, true, true, true, true, true, false, true, true, false, false] rfl rfl (by kernel_rfl) (by decide) (fun K hK => ?_)
        refine value_ (w1 := ?_) (v := ?_) (by rfl) rfl ?_ ?_
        rotate_left 2
        · go_simp
          constructor
          · rfl
          · rfl
        refine hK.out _ _ ((KA _)) (fun hHeld => ?_)
        clear hK K
        refine norm_ (a' := ?_) ?_ ?_
        rotate_left
        · show Act.put _ (some 45) _ = _
          simp only [Act.put, List.setIfInBounds_toArray, List.set_cons_zero, List.set_cons_succ, i64_w, i32_w]
          rfl
        refine last_ (i := 10) (N := some 46) #[true, true, true, true, true, true, true, true, true, true, true, true, true, false, false] rfl rfl (by kernel_rfl) (by decide) (fun K hK => ?_)
        refine Buf.append_step 37 5 (.int .u8 0) 1 1 (by rfl) (.tmp 43) (.tmp 45) rfl Try.underlying37 info5 rfl (by decide) (by decide) (f n) _ _ (((M1.out.fil n HN.out).drewN 1).below (below_alloc (Below.refl _ _) (.cells #[.int .u8 x] 5))) (some ⟨w1.heap.size, 0, none⟩) 1 1 [.int .u8 x] rfl (by simp) (news_one w1.drew _ 5) (by simp [Value.oneCell']) (by have := HLN.out; omega) rfl rfl ?_
        intro v2 w2 hv2 hg2 hat2
        have HV2 := Aside0.mk hv2
        have HG2 := Aside0.mk hg2
        have HA2 := Aside0.mk hat2
        have hbk := M1.out.blk2 (W := w1.drew.alloc (.cells #[.int .u8 x] 5)) (below_alloc (below_drew (Below.refl _ _)) _) hg2 (M1.out.fne HN.out)
        have kc : w2.cell? ⟨g, n, none⟩ = some (f n) := by rw [blk_cell hbk]; exact diskCells_file f wv _ n HN.out
        have kz : w2.frozen? ⟨g, n, none⟩ = false := blk_frozen hbk n
        obtain ⟨A2, c2, rfl, _⟩ := hv2.slice
        clear hv2 hg2 hat2 hbk
        refine hK.out _ _ ?_
        clear hK K
        refine norm_ (a' := ?_) ?_ ?_
        rotate_left
        · show Act.put _ (some 46) _ = _
          simp only [Act.put, List.setIfInBounds_toArray, List.set_cons_zero, List.set_cons_succ, i64_w, i32_w]
          rfl
        refine pure_ (i := 13) (N := some 49) (v := ?_) (a' := ?_) #[true, true, true, true, true, true, true, true, true, true, true, true, true, true, false] rfl rfl (by kernel_rfl) (fun _ _ _ h => h) (Or.inl ⟨by rfl, ?_⟩) ?_ ?_
        rotate_left
        · intro w'
          go_simp
          with_reducible rfl
        rotate_left
        · simp only [Act.put, List.setIfInBounds_toArray, List.set_cons_zero, List.set_cons_succ, i64_w, i32_w]
          rfl
        refine last_ (i := 14) (N := none) #[true, true, true, true, true, true, true, true, true, true, true, true, true, true, true] rfl rfl (by kernel_rfl) (by decide) (fun K hK => ?_)
        refine skip_ (w1 := ?_) (by rfl) rfl ?_ ?_
        rotate_left
        · go_simp
          rfl
        refine hK.out _ _ ?_
        clear hK K
        refine done_ (by kernel_rfl) ?_
        have hpf := M1.out.putFile (W := w1.drew.alloc (.cells #[.int .u8 x] 5)) (w2 := w2) (fun k hk => .inr (Nat.le_trans (Nat.le_trans HDi.out.2.size HF1.out.size) hk)) n HN.out _ (Di.step.files n ++ [x]) (below_alloc (below_drew (Below.refl _ _)) _) HG2.out
          (by have h := HV2.out; rw [List.length_append, nums_append]; exact h) HA2.out
        generalize hv2e : Value.slice A2 ((Di.step.files n).length + 1) c2 = v2 at hpf ⊢
        obtain ⟨w3, hw3⟩ : ∃ W, W = w2.setCell ⟨g, n, none⟩ v2 := ⟨_, rfl⟩
        rw [← hw3] at hpf ⊢
        have M3 := Aside0.mk hpf.1
        have HF3 := Aside0.mk hpf.2
        have k5 : w3.cell? ⟨g, 5, none⟩ = some wv := hpf.1.cell 5
        clear hw3 hpf kc kz kf KA hv2e
        go_wp2_with (at_builtin; refine Buf.append_ev 102 106 (.agg #[.int .i64 0, .bool false, .slice none 0 0]) 3 40 rfl (.tmp 54) (.tmp 57) rfl Try.underlying102 info106 rfl (by decide) (by decide) wv _ _ (M3.out.wai.below (below_alloc (Below.refl _ _) (.cells #[.int .i64 (n : Int), .bool false, .slice none 0 0] 106))) (some ⟨w3.heap.size, 0, none⟩) 1 1 [.int .i64 (n : Int), .bool false, .slice none 0 0] rfl (by simp) (news_three w3 _ _ _ 106) (by simp [Value.oneCell']) (by have := HLW.out; omega) rfl rfl ?_; intro v4 w4 hv4 hg4 hat4; have HV4 := Aside0.mk hv4; have HG4 := Aside0.mk hg4; have HA4 := Aside0.mk hat4; have hbk := M3.out.blk2 (W := w3.alloc (.cells #[.int .i64 (n : Int), .bool false, .slice none 0 0] 106)) (below_alloc (Below.refl _ _) _) hg4 M3.out.wne; have kc : w4.cell? ⟨g, 5, none⟩ = some wv := blk_cell hbk 5; have kz : w4.frozen? ⟨g, 5, none⟩ = false := blk_frozen hbk 5; obtain ⟨A4, c4, rfl, _⟩ := hv4.slice; clear hv4 hg4 hat4 hbk)
        have hpw := M3.out.putWait (W := w3.alloc (.cells #[.int .i64 (n : Int), .bool false, .slice none 0 0] 106)) (w2 := w4) (fun k hk => .inr (Nat.le_trans (Nat.le_trans (Nat.le_trans HDi.out.2.size HF1.out.size) HF3.out.size) hk)) _ (DW ++ [(⟨n, false, []⟩, .slice none 0 0)]) (⟨n, false, []⟩ :: Di.step.wait)
          (by rw [List.map_append, M3.out.dw, List.reverse_cons]; rfl) (below_alloc (Below.refl _ _) _) HG4.out (by have h := HV4.out; rw [List.flatMap_append, List.length_append]; exact h) HA4.out
          (fun p hp => by
            rcases List.mem_append.1 hp with h | h
            · exact .inl h
            · rw [List.mem_singleton.1 h]
              exact .inr ⟨HN.out, fun k hk => by simp [Value.ownBlock] at hk, Buf.nil _ _ _, fun i _ k _ hk => by simp [Value.ownBlock] at hk, fun k hk => by simp [Value.ownBlock] at hk⟩)
        go_roundg k1
        case measure => omega
        case rel => exact ⟨i + 1, Di.appOne n x, by first | rfl | (congr 1; have := HCI.out; have := HNb.out; have := hlb; unfold wrap64; omega), ⟨by have := HI.out; omega⟩, ⟨⟨_, _, _, hpw.1⟩, ((HDi.out.2.trans HF1.out (fun k hk => by subst hk; exact M.out.sg)).trans HF3.out (fun k hk => hk)).trans hpw.2 (fun k hk => hk)⟩, HR, HSZ2⟩
    · have c0 : decide ((i : Int) < (N : Int)) = false := decide_eq_false (by omega)
      have hi : i = N := by have := HI.out; omega
      have HR := Aside0.mk (show appL n D b = (Di, true) by rw [HAL.out, hi, HNb.out, List.drop_length]; rfl)
      have c1 : decide (i < N) = false := decide_eq_false ci
      clear ci hi
      go_wp2
      go_ret
      rw [HE.out, HR.out]
      exact ⟨rfl, HDi.out⟩
theorem disk_Append.calls (S : Nat → Prop) (g : Nat) (D : Dsk) (file : Int) (b : List Int) (A : Option Addr) (c : Nat) (w : World) (h : DiskAt S w g D) (hrd : ∀ W, Foot S w W → ReadsInt W .u8 A b.length b) (hL : b.length ≤ 1099511627776) (hF : ∀ i, i < 4 → (D.files i).length ≤ 1099511627776) (hW : D.wait.length ≤ 1099511627776) :
    Calls Try.prog 18 #[.pointer (some ⟨g, 0, none⟩), .int .i64 file, .slice A b.length c] w fun e w' => e = .returned (.int .i64 (D.app file b).1) ∧ DiskAt (fun k => S k ∨ w.heap.size ≤ k) w' g (D.app file b).2 ∧ Foot S w w' := by
  by_cases hh : hasB file = false
  · exact disk_Append.early S g D file b A c w h hrd hL hF hW (.inl hh)
  · by_cases hd : D.dark = true
    · exact disk_Append.early S g D file b A c w h hrd hL hF hW (.inr (.inl hd))
    · by_cases hl : D.leftN 4 < (b.length : Int)
      · exact disk_Append.early S g D file b A c w h hrd hL hF hW (.inr (.inr hl))
      · have h2 : 0 ≤ file ∧ file < 4 := of_decide_eq_true (by cases hq : hasB file with | true => exact hq | false => exact absurd hq hh)
        exact disk_Append.loop S g D file b A c w h hrd hL hF hW file.toNat (by omega) (by omega) (by cases hq : D.dark with | true => exact absurd hq hd | false => rfl) hl
end Go.Proofs.Ytfkkekdpfkglbaa.Q
