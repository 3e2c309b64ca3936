/- The document's disk: Now, Left, one more deed, New. Conditions: as typed. -/
import Derived.Test.YtfkkekdpfkglbaaRefA
namespace Go.Proofs.Ytfkkekdpfkglbaa.Q
open Go.RowKit Go.Proofs.YtfkkekdpfkglbaaW.PrintWords Go.Proofs.YtfkkekdpfkglbaaW.PrintLast Go.Proofs.YtfkkekdpfkglbaaW.PrintMore
set_option linter.unusedVariables false
set_option linter.unusedSimpArgs false
set_option maxHeartbeats 8000000 in
set_option maxRecDepth 100000 in
theorem ref_Now.calls (S : Nat → Prop) (g : Nat) (L : List (Nat × Int)) (w : World) (h : RefAt S w g L) (hL : L.length ≤ 1099511627776) :
    Calls Try.prog 23 #[.pointer (some ⟨g, 0, none⟩)] w fun e w' => ∃ V, e = .returned (.agg (arr4 V)) ∧ Four w.heap.size w' V (logB L) ∧ Below w.heap.size w w' := by
  obtain ⟨wv, deeds, m⟩ := h.out
  have M := Aside0.mk m
  have HFI := Aside0.mk (show ∀ w1, Below w.heap.size w w1 → Calls Try.prog 66 #[.pointer (some ⟨g, 0, none⟩), .int .i64 (L.length : Int)] w1 fun e w' => ∃ V, e = .returned (.agg (arr4 V)) ∧ Four w1.heap.size w' V (logB L) ∧ Below w1.heap.size w1 w' from fun w1 hb => ref_Files.calls S g L w1 (h.below hb) hL)
  obtain ⟨A, c, hwe, _⟩ := m.wai.slice
  have k4 : w.cell? ⟨g, 4, none⟩ = some wv := blk_cell m.blk 4
  rw [hwe] at k4
  clear h m hL hwe
  go_enter Try.func23, Try.ntmps23
  go_upto_region 1 with fail
  obtain ⟨LR, hLR⟩ : ∃ l, l = w.heap.size := ⟨_, rfl⟩
  rw [← hLR]
  obtain ⟨w1, hw1⟩ : ∃ W, W = w.alloc (.cells #[.slice none 0 0, .slice none 0 0, .slice none 0 0, .slice none 0 0] 45) := ⟨_, rfl⟩
  rw [← hw1]
  have HB1 : Aside0 (Below w.heap.size w w1) := ⟨by rw [hw1]; exact below_alloc (Below.refl _ _) _⟩
  have BR : Aside0 (w1.heap[LR]? = some (.cells #[.slice none 0 0, .slice none 0 0, .slice none 0 0, .slice none 0 0] 45 (0, 0))) := ⟨by rw [hw1, hLR]; exact blk_new w _⟩
  have HLR := Aside0.mk (show w.heap.size ≤ LR by omega)
  have k4' : w1.cell? ⟨g, 4, none⟩ = some (.slice A L.length c) := (HB1.out.cell (p := ⟨g, 4, none⟩) M.out.lt).trans k4
  clear hw1 hLR k4
  go_wp2_with (go_at_call 66; (with_reducible refine (HFI.out w1 HB1.out).mono ?_); rintro e w3 ⟨V, rfl, hv3, hb3⟩; have HV3 := Aside0.mk hv3; have HB3 := Aside0.mk hb3; obtain ⟨A0, d0, e0, _⟩ := (hv3.row 0 (by omega)).slice; obtain ⟨A1, d1, e1, _⟩ := (hv3.row 1 (by omega)).slice; obtain ⟨A2, d2, e2, _⟩ := (hv3.row 2 (by omega)).slice; obtain ⟨A3, d3, e3, _⟩ := (hv3.row 3 (by omega)).slice; rw [show arr4 V = #[.slice A0 (logB L 0).length d0, .slice A1 (logB L 1).length d1, .slice A2 (logB L 2).length d2, .slice A3 (logB L 3).length d3] by unfold arr4; rw [e0, e1, e2, e3]]; have HE := Aside0.mk (And.intro e0 (And.intro e1 (And.intro e2 e3))); have hr := blk_below BR.out hb3; have HR := Aside0.mk hr; have y0 : w3.cell? ⟨LR, 0, none⟩ = some (.slice none 0 0) := blk_cell hr 0; have y1 : w3.cell? ⟨LR, 1, none⟩ = some (.slice none 0 0) := blk_cell hr 1; have y2 : w3.cell? ⟨LR, 2, none⟩ = some (.slice none 0 0) := blk_cell hr 2; have y3 : w3.cell? ⟨LR, 3, none⟩ = some (.slice none 0 0) := blk_cell hr 3; have z0 := blk_frozen hr 0; have z1 := blk_frozen hr 1; have z2 := blk_frozen hr 2; have z3 := blk_frozen hr 3; clear hv3 hb3 hr e0 e1 e2 e3)
  have hw := blk_set (blk_set (blk_set (blk_set HR.out 0 (V 0)) 1 (V 1)) 2 (V 2)) 3 (V 3)
  rw [HE.out.1, HE.out.2.1, HE.out.2.2.1, HE.out.2.2.2] at hw
  ((try simp only [Exit.inBlock, Exit.then]); refine bodyPost_ret (results_cell_row rfl _ _ LR 45 #[.slice A0 (logB L 0).length d0, .slice A1 (logB L 1).length d1, .slice A2 (logB L 2).length d2, .slice A3 (logB L 3).length d3] (0, 0) _ rfl hw Try.underlying45 rfl (by kernel_rfl)) rfl ?_)
  have hb13 : Below w.heap.size w w3 := below_then HB1.out HB1.out.size HB3.out
  refine ⟨V, by unfold arr4; rw [HE.out.1, HE.out.2.1, HE.out.2.2.1, HE.out.2.2.2], ?_, (((hb13.setCell (p := ⟨LR, 0, none⟩) HLR.out _).setCell (p := ⟨LR, 1, none⟩) HLR.out _).setCell (p := ⟨LR, 2, none⟩) HLR.out _).setCell (p := ⟨LR, 3, none⟩) HLR.out _⟩
  have hv := HV3.out.move (w1 := (((w3.setCell ⟨LR, 0, none⟩ (.slice A0 (logB L 0).length d0)).setCell ⟨LR, 1, none⟩ (.slice A1 (logB L 1).length d1)).setCell ⟨LR, 2, none⟩ (.slice A2 (logB L 2).length d2)).setCell ⟨LR, 3, none⟩ (.slice A3 (logB L 3).length d3)) (fun j hj k hk => by
    have hne := own_ne (HV3.out.row j hj) HR.out (by decide) k hk
    exact (Below.heap_setCell _ ⟨LR, 3, none⟩ _ k hne).trans ((Below.heap_setCell _ ⟨LR, 2, none⟩ _ k hne).trans ((Below.heap_setCell _ ⟨LR, 1, none⟩ _ k hne).trans (Below.heap_setCell _ ⟨LR, 0, none⟩ _ k hne))))
  exact ⟨hv.row, fun i hi k hk => Nat.le_trans HB1.out.size (hv.fresh i hi k hk), hv.dis⟩
def refLeft (L : List (Nat × Int)) : Int := wrap64 (wrap64 (wrap64 (wrap64 (200000 - ((logB L 0).length : Int)) - ((logB L 1).length : Int)) - ((logB L 2).length : Int)) - ((logB L 3).length : Int))
set_option maxHeartbeats 8000000 in
set_option maxRecDepth 100000 in
theorem ref_Left.calls (S : Nat → Prop) (g : Nat) (L : List (Nat × Int)) (w : World) (h : RefAt S w g L) (hL : L.length ≤ 1099511627776) :
    Calls Try.prog 63 #[.pointer (some ⟨g, 0, none⟩)] w fun e w' => e = .returned (.int .i64 (refLeft L)) ∧ Below w.heap.size w w' := by
  have HRA := Aside0.mk h
  have HL := Aside0.mk hL
  obtain ⟨wv, deeds, m⟩ := h.out
  have M := Aside0.mk m
  clear h m hL
  go_enter Try.func63, Try.ntmps63
  go_upto_region 2 with (go_at_call 23; (with_reducible refine (ref_Now.calls S g L _ HRA.out HL.out).mono ?_); rintro e w3 ⟨V, rfl, hv3, hb3⟩; have HV3 := Aside0.mk hv3; have HB3 := Aside0.mk hb3; obtain ⟨A0, d0, e0, _⟩ := (hv3.row 0 (by omega)).slice; obtain ⟨A1, d1, e1, _⟩ := (hv3.row 1 (by omega)).slice; obtain ⟨A2, d2, e2, _⟩ := (hv3.row 2 (by omega)).slice; obtain ⟨A3, d3, e3, _⟩ := (hv3.row 3 (by omega)).slice; rw [show arr4 V = #[.slice A0 (logB L 0).length d0, .slice A1 (logB L 1).length d1, .slice A2 (logB L 2).length d2, .slice A3 (logB L 3).length d3] by unfold arr4; rw [e0, e1, e2, e3]]; clear hv3 hb3 e0 e1 e2 e3)
  obtain ⟨LF, hLF⟩ : ∃ l, l = w3.heap.size := ⟨_, rfl⟩
  rw [← hLF]
  obtain ⟨w4, hw4⟩ : ∃ W, W = w3.alloc (.cells #[.slice A0 (logB L 0).length d0, .slice A1 (logB L 1).length d1, .slice A2 (logB L 2).length d2, .slice A3 (logB L 3).length d3] 45) := ⟨_, rfl⟩
  rw [← hw4]
  have bF : w4.heap[LF]? = some (.cells #[.slice A0 (logB L 0).length d0, .slice A1 (logB L 1).length d1, .slice A2 (logB L 2).length d2, .slice A3 (logB L 3).length d3] 45 (0, 0)) := by rw [hw4, hLF]; exact blk_new w3 _
  have HB4 : Aside0 (Below w.heap.size w w4) := ⟨by rw [hw4]; exact HB3.out.alloc HB3.out.size _⟩
  have k5 : w4.cell? ⟨g, 5, none⟩ = some (.int .i64 200000) := (HB4.out.cell (p := ⟨g, 5, none⟩) M.out.lt).trans (blk_cell M.out.blk 5)
  have x0 : w4.cell? ⟨LF, 0, none⟩ = some (.slice A0 (logB L 0).length d0) := blk_cell bF 0
  have x1 : w4.cell? ⟨LF, 1, none⟩ = some (.slice A1 (logB L 1).length d1) := blk_cell bF 1
  have x2 : w4.cell? ⟨LF, 2, none⟩ = some (.slice A2 (logB L 2).length d2) := blk_cell bF 2
  have x3 : w4.cell? ⟨LF, 3, none⟩ = some (.slice A3 (logB L 3).length d3) := blk_cell bF 3
  clear bF hw4 hLF
  refine start_ (n := 21) (S := fun w' => w'.cell? ⟨g, 5, none⟩ = some (.int .i64 200000) ∧ w'.cell? ⟨LF, 0, none⟩ = some (.slice A0 (logB L 0).length d0) ∧ w'.cell? ⟨LF, 1, none⟩ = some (.slice A1 (logB L 1).length d1) ∧ w'.cell? ⟨LF, 2, none⟩ = some (.slice A2 (logB L 2).length d2) ∧ w'.cell? ⟨LF, 3, none⟩ = some (.slice A3 (logB L 3).length d3)) (ds := []) #[false, false, false, false, false, false, false, false, false, false, false, false, false, false, false, false, false, false, false, false, false] (by kernel_rfl) rfl rfl ⟨k5, x0, x1, x2, x3⟩ (fun hHeld => ?_)
  refine pure_ (i := 0) (N := some 6) (v := ?_) (a' := ?_) #[true, false, false, false, false, false, false, false, false, false, false, false, false, false, false, false, false, false, false, false, false] rfl rfl (by kernel_rfl) (fun _ _ _ h => h) (Or.inl ⟨by rfl, ?_⟩) ?_ ?_
  rotate_left
  · intro w'
    go_simp
    with_reducible rfl
  rotate_left
  · simp only [Act.put, List.setIfInBounds_toArray, List.set_cons_zero, List.set_cons_succ, i64_w, i32_w]
    rfl
  refine pure_ (i := 1) (N := some 7) (v := ?_) (a' := ?_) #[true, true, false, false, false, false, false, false, false, false, false, false, false, false, false, false, false, false, false, false, false] rfl rfl (by kernel_rfl) (fun _ _ _ h => h) (Or.inl ⟨by rfl, ?_⟩) ?_ ?_
  rotate_left
  · intro w'
    go_simp
    with_reducible rfl
  rotate_left
  · simp only [Act.put, List.setIfInBounds_toArray, List.set_cons_zero, List.set_cons_succ, i64_w, i32_w]
    rfl
  refine pure_ (i := 2) (N := some 8) (v := ?_) (a' := ?_) #[true, true, true, false, false, false, false, false, false, false, false, false, false, false, false, false, false, false, false, false, false] rfl rfl (by kernel_rfl) (fun _ _ _ h => h) (Or.inl ⟨by rfl, ?_⟩) ?_ ?_
  rotate_left
  · intro w'
    go_simp
    with_reducible rfl
  rotate_left
  · simp only [Act.put, List.setIfInBounds_toArray, List.set_cons_zero, List.set_cons_succ, i64_w, i32_w]
    rfl
  refine pure_ (i := 4) (N := some 10) (v := ?_) (a' := ?_) #[true, true, true, false, true, false, false, false, false, false, false, false, false, false, false, false, false, false, false, false, false] rfl rfl (by kernel_rfl) (fun _ _ _ h => h) (Or.inl ⟨by rfl, ?_⟩) ?_ ?_
  rotate_left
  · intro w'
    go_simp
    with_reducible rfl
  rotate_left
  · simp only [Act.put, List.setIfInBounds_toArray, List.set_cons_zero, List.set_cons_succ, i64_w, i32_w]
    rfl
  refine pure_ (i := 8) (N := some 14) (v := ?_) (a' := ?_) #[true, true, true, false, true, false, false, false, true, false, false, false, false, false, false, false, false, false, false, false, false] rfl rfl (by kernel_rfl) (fun _ _ _ h => h) (Or.inl ⟨by rfl, ?_⟩) ?_ ?_
  rotate_left
  · intro w'
    go_simp
    with_reducible rfl
  rotate_left
  · simp only [Act.put, List.setIfInBounds_toArray, List.set_cons_zero, List.set_cons_succ, i64_w, i32_w]
    rfl
  refine pure_ (i := 12) (N := some 18) (v := ?_) (a' := ?_) #[true, true, true, false, true, false, false, false, true, false, false, false, true, false, false, false, false, false, false, false, false] rfl rfl (by kernel_rfl) (fun _ _ _ h => h) (Or.inl ⟨by rfl, ?_⟩) ?_ ?_
  rotate_left
  · intro w'
    go_simp
    with_reducible rfl
  rotate_left
  · simp only [Act.put, List.setIfInBounds_toArray, List.set_cons_zero, List.set_cons_succ, i64_w, i32_w]
    rfl
  refine pure_ (i := 16) (N := some 22) (v := ?_) (a' := ?_) #[true, true, true, false, true, false, false, false, true, false, false, false, true, false, false, false, true, false, false, false, false] rfl rfl (by kernel_rfl) (fun _ _ _ h => h) (Or.inl ⟨by rfl, ?_⟩) ?_ ?_
  rotate_left
  · intro w'
    go_simp
    with_reducible rfl
  rotate_left
  · simp only [Act.put, List.setIfInBounds_toArray, List.set_cons_zero, List.set_cons_succ, i64_w, i32_w]
    rfl
  refine take_ (i := 3) (N := some 9) (v := ?_) (a' := ?_) #[true, true, true, true, true, false, false, false, true, false, false, false, true, false, false, false, true, false, false, false, false] rfl rfl (by kernel_rfl) (fun _ _ _ h => h) (Or.inl ⟨by rfl, ?_⟩) hHeld ?_ ?_
  rotate_left
  · rintro w' ⟨s0, s1, s2, s3, s4⟩
    go_simp
    with_reducible rfl
  rotate_left
  · simp only [Act.put, List.setIfInBounds_toArray, List.set_cons_zero, List.set_cons_succ, i64_w, i32_w]
    rfl
  refine take_ (i := 5) (N := some 11) (v := ?_) (a' := ?_) #[true, true, true, true, true, true, false, false, true, false, false, false, true, false, false, false, true, false, false, false, false] rfl rfl (by kernel_rfl) (fun _ _ _ h => h) (Or.inl ⟨by rfl, ?_⟩) hHeld ?_ ?_
  rotate_left
  · rintro w' ⟨s0, s1, s2, s3, s4⟩
    go_simp
    with_reducible rfl
  rotate_left
  · simp only [Act.put, List.setIfInBounds_toArray, List.set_cons_zero, List.set_cons_succ, i64_w, i32_w]
    rfl
  refine pure_ (i := 6) (N := some 12) (v := ?_) (a' := ?_) #[true, true, true, true, true, true, true, false, true, false, false, false, true, false, false, false, true, false, false, false, false] rfl rfl (by kernel_rfl) (fun _ _ _ h => h) (Or.inl ⟨by rfl, ?_⟩) ?_ ?_
  rotate_left
  · intro w'
    go_simp
    with_reducible rfl
  rotate_left
  · simp only [Act.put, List.setIfInBounds_toArray, List.set_cons_zero, List.set_cons_succ, i64_w, i32_w]
    rfl
  refine pure_ (i := 7) (N := some 13) (v := ?_) (a' := ?_) #[true, true, true, true, true, true, true, true, true, false, false, false, true, false, false, false, true, false, false, false, false] rfl rfl (by kernel_rfl) (fun _ _ _ h => h) (Or.inl ⟨by rfl, ?_⟩) ?_ ?_
  rotate_left
  · intro w'
    go_simp
    with_reducible rfl
  rotate_left
  · simp only [Act.put, List.setIfInBounds_toArray, List.set_cons_zero, List.set_cons_succ, i64_w, i32_w]
    rfl
  refine take_ (i := 9) (N := some 15) (v := ?_) (a' := ?_) #[true, true, true, true, true, true, true, true, true, true, false, false, true, false, false, false, true, false, false, false, false] rfl rfl (by kernel_rfl) (fun _ _ _ h => h) (Or.inl ⟨by rfl, ?_⟩) hHeld ?_ ?_
  rotate_left
  · rintro w' ⟨s0, s1, s2, s3, s4⟩
    go_simp
    with_reducible rfl
  rotate_left
  · simp only [Act.put, List.setIfInBounds_toArray, List.set_cons_zero, List.set_cons_succ, i64_w, i32_w]
    rfl
  refine pure_ (i := 10) (N := some 16) (v := ?_) (a' := ?_) #[true, true, true, true, true, true, true, true, true, true, true, false, true, false, false, false, true, false, false, false, false] rfl rfl (by kernel_rfl) (fun _ _ _ h => h) (Or.inl ⟨by rfl, ?_⟩) ?_ ?_
  rotate_left
  · intro w'
    go_simp
    with_reducible rfl
  rotate_left
  · simp only [Act.put, List.setIfInBounds_toArray, List.set_cons_zero, List.set_cons_succ, i64_w, i32_w]
    rfl
  refine pure_ (i := 11) (N := some 17) (v := ?_) (a' := ?_) #[true, true, true, true, true, true, true, true, true, true, true, true, true, false, false, false, true, false, false, false, false] rfl rfl (by kernel_rfl) (fun _ _ _ h => h) (Or.inl ⟨by rfl, ?_⟩) ?_ ?_
  rotate_left
  · intro w'
    go_simp
    with_reducible rfl
  rotate_left
  · simp only [Act.put, List.setIfInBounds_toArray, List.set_cons_zero, List.set_cons_succ, i64_w, i32_w]
    rfl
  refine take_ (i := 13) (N := some 19) (v := ?_) (a' := ?_) #[true, true, true, true, true, true, true, true, true, true, true, true, true, true, false, false, true, false, false, false, false] rfl rfl (by kernel_rfl) (fun _ _ _ h => h) (Or.inl ⟨by rfl, ?_⟩) hHeld ?_ ?_
  rotate_left
  · rintro w' ⟨s0, s1, s2, s3, s4⟩
    go_simp
    with_reducible rfl
  rotate_left
  · simp only [Act.put, List.setIfInBounds_toArray, List.set_cons_zero, List.set_cons_succ, i64_w, i32_w]
    rfl
  refine pure_ (i := 14) (N := some 20) (v := ?_) (a' := ?_) #[true, true, true, true, true, true, true, true, true, true, true, true, true, true, true, false, true, false, false, false, false] rfl rfl (by kernel_rfl) (fun _ _ _ h => h) (Or.inl ⟨by rfl, ?_⟩) ?_ ?_
  rotate_left
  · intro w'
    go_simp
    with_reducible rfl
  rotate_left
  · simp only [Act.put, List.setIfInBounds_toArray, List.set_cons_zero, List.set_cons_succ, i64_w, i32_w]
    rfl
  refine pure_ (i := 15) (N := some 21) (v := ?_) (a' := ?_) #[true, true, true, true, true, true, true, true, true, true, true, true, true, true, true, true, true, false, false, false, false] rfl rfl (by kernel_rfl) (fun _ _ _ h => h) (Or.inl ⟨by rfl, ?_⟩) ?_ ?_
  rotate_left
  · intro w'
    go_simp
    with_reducible rfl
  rotate_left
  · simp only [Act.put, List.setIfInBounds_toArray, List.set_cons_zero, List.set_cons_succ, i64_w, i32_w]
    rfl
  refine take_ (i := 17) (N := some 23) (v := ?_) (a' := ?_) #[true, true, true, true, true, true, true, true, true, true, true, true, true, true, true, true, true, true, false, false, false] rfl rfl (by kernel_rfl) (fun _ _ _ h => h) (Or.inl ⟨by rfl, ?_⟩) hHeld ?_ ?_
  rotate_left
  · rintro w' ⟨s0, s1, s2, s3, s4⟩
    go_simp
    with_reducible rfl
  rotate_left
  · simp only [Act.put, List.setIfInBounds_toArray, List.set_cons_zero, List.set_cons_succ, i64_w, i32_w]
    rfl
  refine pure_ (i := 18) (N := some 24) (v := ?_) (a' := ?_) #[true, true, true, true, true, true, true, true, true, true, true, true, true, true, true, true, true, true, true, false, false] rfl rfl (by kernel_rfl) (fun _ _ _ h => h) (Or.inl ⟨by rfl, ?_⟩) ?_ ?_
  rotate_left
  · intro w'
    go_simp
    with_reducible rfl
  rotate_left
  · simp only [Act.put, List.setIfInBounds_toArray, List.set_cons_zero, List.set_cons_succ, i64_w, i32_w]
    rfl
  refine pure_ (i := 19) (N := some 25) (v := ?_) (a' := ?_) #[true, true, true, true, true, true, true, true, true, true, true, true, true, true, true, true, true, true, true, true, false] rfl rfl (by kernel_rfl) (fun _ _ _ h => h) (Or.inl ⟨by rfl, ?_⟩) ?_ ?_
  rotate_left
  · intro w'
    go_simp
    with_reducible rfl
  rotate_left
  · simp only [Act.put, List.setIfInBounds_toArray, List.set_cons_zero, List.set_cons_succ, i64_w, i32_w]
    rfl
  refine pure_ (i := 20) (N := some 2) (v := ?_) (a' := ?_) #[true, true, true, true, true, true, true, true, true, true, true, true, true, true, true, true, true, true, true, true, true] rfl rfl (by kernel_rfl) (fun _ _ _ h => h) (Or.inl ⟨by rfl, ?_⟩) ?_ ?_
  rotate_left
  · intro w'
    go_simp
    with_reducible rfl
  rotate_left
  · simp only [Act.put, List.setIfInBounds_toArray, List.set_cons_zero, List.set_cons_succ, i64_w, i32_w]
    rfl
  refine done_ (by kernel_rfl) ?_
  go_wp2_with fail
  go_ret
  exact ⟨rfl, pw_below_drewN HB4.out 1⟩
set_option maxHeartbeats 8000000 in
set_option maxRecDepth 100000 in
theorem ref_one.calls (S : Nat → Prop) (g : Nat) (L : List (Nat × Int)) (wv : Value) (deeds : Int) (w : World) (M : RefMem S w g L wv deeds) :
    Calls Try.prog 64 #[.pointer (some ⟨g, 0, none⟩)] w fun e w' => e = .returned (.bool true) ∧ RefMem S w' g L wv (wrap64 (deeds + 1)) ∧ Foot (fun k => k = g) w w' ∧ w'.heap.size = w.heap.size := by
  have HM := Aside0.mk M
  have k6 : w.cell? ⟨g, 6, none⟩ = some (.int .i64 deeds) := blk_cell M.blk 6
  have k7 : w.cell? ⟨g, 7, none⟩ = some (.int .i64 (-1)) := blk_cell M.blk 7
  have k8 : w.cell? ⟨g, 8, none⟩ = some (.bool false) := blk_cell M.blk 8
  have f6 := blk_frozen M.blk 6
  clear M
  go_enter Try.func64, Try.ntmps64
  go_wp2
  go_ret
  refine ⟨rfl, ⟨blk_set HM.out.blk 6 (.int .i64 (wrap64 (deeds + 1))), HM.out.wai.far (p := ⟨g, 6, none⟩) (fun h => own_ne HM.out.wai HM.out.blk (by decide) g h rfl) _, HM.out.nam, HM.out.sg, HM.out.sw⟩, foot1 g 6 w _⟩
theorem built_ref (room : Int) : Try.prog.built 109 [(2, .int .i64 room), (4, .int .i64 (-1))] = some #[.slice none 0 0, .slice none 0 0, .slice none 0 0, .slice none 0 0, .slice none 0 0, .int .i64 room, .int .i64 0, .int .i64 (-1), .bool false] := by kernel_rfl
set_option maxHeartbeats 8000000 in
set_option maxRecDepth 100000 in
theorem ref_New.calls (w : World) : Calls Try.prog 20 #[.int .i64 200000] w fun e w' => ∃ g, e = .returned (.pointer (some ⟨g, 0, none⟩)) ∧ RefAt (fun k => w.heap.size ≤ k) w' g [] ∧ Below w.heap.size w w' := by
  have hbd := built_ref 200000
  go_enter Try.func20, Try.ntmps20
  go_wp2
  go_ret
  have hb := blk_new w (.cells (refCells (.slice none 0 0) 0) 109)
  exact ⟨w.heap.size, rfl, ⟨.slice none 0 0, 0, hb, Buf.nil _ _ _, (fun p hp => by cases hp), Nat.le_refl _, (fun k hk => by simp [Value.ownBlock] at hk)⟩, below_alloc (Below.refl _ w) _⟩
end Go.Proofs.Ytfkkekdpfkglbaa.Q
