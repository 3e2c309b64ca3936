/- The document's disk: Append. Conditions: as typed. -/
import Derived.Test.YtfkkekdpfkglbaaRefB
namespace Go.Proofs.Ytfkkekdpfkglbaa.Q
open Go.RowKit Go.Proofs.YtfkkekdpfkglbaaW.PrintWords Go.Proofs.YtfkkekdpfkglbaaW.PrintLast Go.Proofs.YtfkkekdpfkglbaaW.PrintMore
set_option linter.unusedVariables false
set_option linter.unusedSimpArgs false
theorem info111 : (Try.prog.info? 111).map (fun i => (i.zero, i.size, i.bytes)) = some (some (.agg #[.int .i64 0, .int .u8 0, .int .i64 0]), 3, 24) := by kernel_rfl
theorem RefMem.push {S : Nat → Prop} {w W w2 : World} {g : Nat} {L : List (Nat × Int)} {wv v : Value} {deeds : Int} (M : RefMem S w g L wv deeds) (hfr : ∀ k, w.heap.size ≤ k → S k) (p : Nat × Int) (hp : p.1 < 4) (hb : Below w.heap.size w W) (hg : W.grownBy w2 wv.ownBlock)
    (hv : Buf 111 3 w2 v (L.length + 1) (L.flatMap ref3 ++ ref3 p)) (hat : v.ownBlock = wv.ownBlock ∨ ∃ b, v.ownBlock = some b ∧ W.heap.size ≤ b) : RefMem S (w2.setCell ⟨g, 4, none⟩ v) g (L ++ [p]) v deeds ∧ Foot S w (w2.setCell ⟨g, 4, none⟩ v) := by
  have hwne : ∀ k, wv.ownBlock = some k → k ≠ g := fun k hk => own_ne M.wai M.blk (by decide) k hk
  have hblk : w2.heap[g]? = some (.cells (refCells wv deeds) 109 (0, 0)) := (hg.block g (Nat.lt_of_lt_of_le M.lt hb.size) (fun h => hwne g h.symm rfl)).trans ((hb.block g M.lt).trans M.blk)
  have hd : ∀ k, v.ownBlock = some k → wv.ownBlock = some k ∨ w.heap.size ≤ k := by
    intro k hk
    rcases hat with h | ⟨b, h1, h2⟩
    · exact .inl (by rw [← h]; exact hk)
    · rw [h1] at hk
      injection hk with hk
      exact .inr (by have := hb.size; omega)
  have hvg : v.ownBlock ≠ some g := by
    intro h
    rcases hd g h with h2 | h2
    · exact hwne g h2 rfl
    · have := M.lt; omega
  refine ⟨⟨blk_set hblk 4 v, ?_, fun q hq => ?_, M.sg, fun k hk => ?_⟩, Foot.setCell (p := ⟨g, 4, none⟩) ((Foot.of_below hb S).grown hg (fun k hk => .inl (M.sw k hk))) M.sg v⟩
  · rw [List.length_append, List.flatMap_append]
    have h := hv.far (p := ⟨g, 4, none⟩) hvg v
    simpa using h
  · rcases List.mem_append.1 hq with h | h
    · exact M.nam q h
    · rw [List.mem_singleton.1 h]; exact hp
  · rcases hd k hk with h | h
    · exact M.sw k h
    · exact hfr k h
set_option maxHeartbeats 8000000 in
set_option maxRecDepth 100000 in
theorem ref_Append.bad (S : Nat → Prop) (g : Nat) (L : List (Nat × Int)) (file : Int) (b : List Int) (A : Option Addr) (c : Nat) (w : World) (hf : hasB file = false) :
    Calls Try.prog 21 #[.pointer (some ⟨g, 0, none⟩), .int .i64 file, .slice A b.length c] w fun e w' => e = .returned (.int .i64 2) ∧ w' = w := by
  have h2 : ¬ (0 ≤ file ∧ file < 4) := of_decide_eq_false hf
  by_cases c1 : file < 0
  · have d1 : decide (file < 0) = true := decide_eq_true c1
    clear hf h2 c1
    go_enter Try.func21, Try.ntmps21
    go_wp2
    go_ret
    exact ⟨rfl, rfl⟩
  · have d1 : decide (file < 0) = false := decide_eq_false c1
    have d2 : decide (3 < file) = true := decide_eq_true (by omega)
    clear hf h2 c1
    go_enter Try.func21, Try.ntmps21
    go_wp2
    go_ret
    exact ⟨rfl, rfl⟩
set_option maxHeartbeats 8000000 in
set_option maxRecDepth 100000 in
theorem ref_Append.calls (S : Nat → Prop) (g : Nat) (L : List (Nat × Int)) (n : Nat) (b : List Int) (A : Option Addr) (c : Nat) (w : World) (h : RefAt S w g L) (hn : n < 4) (hrd : ∀ W, Foot S w W → ReadsInt W .u8 A b.length b) (hL : L.length ≤ 1099511627776) (hbl : b.length ≤ 1099511627776) (hleft : ¬ refLeft L < (b.length : Int)) :
    Calls Try.prog 21 #[.pointer (some ⟨g, 0, none⟩), .int .i64 (n : Int), .slice A b.length c] w fun e w' => e = .returned (.int .i64 0) ∧ RefAt (fun k => S k ∨ w.heap.size ≤ k) w' g (L ++ b.map fun x => (n, x)) ∧ Foot S w w' := by
  have HRA := Aside0.mk h
  have HLL := Aside0.mk hL
  have HBL := Aside0.mk hbl
  have HRD := Aside0.mk hrd
  have HNN := Aside0.mk hn
  have k8 : w.cell? ⟨g, 8, none⟩ = some (.bool false) := by obtain ⟨wv, deeds, m⟩ := h.out; exact blk_cell m.blk 8
  have d1 : decide ((n : Int) < 0) = false := decide_eq_false (by omega)
  have d2 : decide ((3 : Int) < (n : Int)) = false := decide_eq_false (by omega)
  have d2' : decide (3 < n) = false := decide_eq_false (by omega)
  have d3 : decide (refLeft L < (b.length : Int)) = false := decide_eq_false hleft
  clear h hL hbl hrd hn hleft
  obtain ⟨N, hN⟩ : ∃ N, N = b.length := ⟨_, rfl⟩
  have HN := Aside0.mk hN
  rw [← hN] at d3
  rw [← hN]
  clear hN
  go_enter Try.func21, Try.ntmps21
  go_wp2_with (go_at_call 63; (with_reducible refine (ref_Left.calls S g L _ HRA.out HLL.out).mono ?_); rintro e w1 ⟨rfl, hb1⟩; have HB1 := Aside0.mk hb1; clear hb1)
  go_loopg [7] N (fun kq v7 w' => ∃ (i : Nat), v7 = .int .i64 (i : Int) ∧ Aside0 (i + kq = N) ∧ Aside0 (RefAt (fun k => S k ∨ w.heap.size ≤ k) w' g (L ++ (b.take i).map fun x => (n, x))) ∧ Aside0 (Foot S w w'))
  case atStart => exact ⟨0, rfl, ⟨by omega⟩, ⟨by rw [List.take_zero, List.map_nil, List.append_nil]; exact (HRA.out.below HB1.out).mono (fun k hk => .inl hk)⟩, ⟨Foot.of_below HB1.out S⟩⟩
  case round =>
    obtain ⟨i, rfl, HI, HR, HF⟩ := hrel
    by_cases ci : i < N
    · have c0 : decide ((i : Int) < (N : Int)) = true := decide_eq_true (by omega)
      have c0' : decide (i < N) = true := decide_eq_true ci
      have p0 : (0 ≤ (i : Int)) = True := eq_true (by omega)
      have q0 : ((i : Int) < (N : Int)) = True := eq_true (by omega)
      obtain ⟨k1, rfl⟩ : ∃ k1, gk = k1 + 1 := ⟨gk - 1, by have := HI.out; omega⟩
      obtain ⟨wv, deeds, m⟩ := HR.out.out
      have M := Aside0.mk m
      obtain ⟨x, hx⟩ : ∃ x, x = b.getD i 0 := ⟨_, rfl⟩
      have HX := Aside0.mk hx
      obtain ⟨ad, hA, _⟩ := ReadsInt.at_ (HRD.out w (Foot.refl S w)) (i : Int) (by omega) (by have := HN.out; omega)
      subst hA
      have HRX := Aside0.mk (show ∀ W, Foot S w W → W.cell? (ad.add i) = some (.int .u8 x) from fun W hW => by
        obtain ⟨ad2, h2, h3⟩ := (HRD.out W hW).2.2 (by have := HN.out; omega)
        injection h2 with h2
        subst h2
        rw [hx]
        exact h3 i (by have := HN.out; omega))
      have HCI := Aside0.mk ci
      clear m hx ci
      go_upto_region 12 with (go_at_call 64; (with_reducible refine (ref_one.calls _ g (L ++ (b.take i).map fun x => (n, x)) wv deeds _ M.out).mono ?_); rintro e w2 ⟨rfl, m2, hf2, hz2⟩; have M2 := Aside0.mk m2; have HF2 := Aside0.mk hf2; clear m2 hf2 hz2)
      have HF2' := Aside0.mk (HF.out.trans HF2.out (fun k hk => by subst hk; exact M.out.sg))
      have k4 : w2.cell? ⟨g, 4, none⟩ = some wv := blk_cell M2.out.blk 4
      have kx : w2.cell? (ad.add i) = some (.int .u8 x) := HRX.out w2 HF2'.out
      have KA : ∀ o, (w2.drew.alloc o).cell? ⟨g, 4, none⟩ = some wv := fun o => ((below_alloc (below_drew (Below.refl w2.heap.size w2)) o).cell (p := ⟨g, 4, none⟩) M2.out.lt).trans k4
      have KX : ∀ o, (w2.drew.alloc o).cell? (ad.add i) = some (.int .u8 x) := fun o => ((below_alloc (below_drew (Below.refl w2.heap.size w2)) o).cell (World.block_lt_of_cell? w2 _ kx)).trans kx
      refine start_ (n := 16) (S := fun w' => w'.cell? ⟨g, 4, none⟩ = some wv ∧ w'.cell? (ad.add i) = some (.int .u8 x)) (ds := [12, 15]) #[false, false, false, false, false, false, false, false, false, false, false, false, false, false, false, false] (by kernel_rfl) rfl rfl ⟨k4, kx⟩ (fun hHeld => ?_)
      refine pure_ (i := 0) (N := some 32) (v := ?_) (a' := ?_) #[true, false, false, false, false, false, false, false, false, false, false, false, false, false, false, false] rfl rfl (by kernel_rfl) (fun _ _ _ h => h) (Or.inl ⟨by rfl, ?_⟩) ?_ ?_
      rotate_left
      · intro w'
        go_simp
        with_reducible rfl
      rotate_left
      · simp only [Act.put, List.setIfInBounds_toArray, List.set_cons_zero, List.set_cons_succ, i64_w, i32_w]
        rfl
      refine pure_ (i := 1) (N := some 33) (v := ?_) (a' := ?_) #[true, true, false, false, false, false, false, false, false, false, false, false, false, false, false, false] rfl rfl (by kernel_rfl) (fun _ _ _ h => h) (Or.inl ⟨by rfl, ?_⟩) ?_ ?_
      rotate_left
      · intro w'
        go_simp
        with_reducible rfl
      rotate_left
      · simp only [Act.put, List.setIfInBounds_toArray, List.set_cons_zero, List.set_cons_succ, i64_w, i32_w]
        rfl
      refine pure_ (i := 2) (N := some 34) (v := ?_) (a' := ?_) #[true, true, true, false, false, false, false, false, false, false, false, false, false, false, false, false] rfl rfl (by kernel_rfl) (fun _ _ _ h => h) (Or.inl ⟨by rfl, ?_⟩) ?_ ?_
      rotate_left
      · intro w'
        go_simp
        with_reducible rfl
      rotate_left
      · simp only [Act.put, List.setIfInBounds_toArray, List.set_cons_zero, List.set_cons_succ, i64_w, i32_w]
        rfl
      refine pure_ (i := 3) (N := some 35) (v := ?_) (a' := ?_) #[true, true, true, true, false, false, false, false, false, false, false, false, false, false, false, false] rfl rfl (by kernel_rfl) (fun _ _ _ h => h) (Or.inl ⟨by rfl, ?_⟩) ?_ ?_
      rotate_left
      · intro w'
        go_simp
        with_reducible rfl
      rotate_left
      · simp only [Act.put, List.setIfInBounds_toArray, List.set_cons_zero, List.set_cons_succ, i64_w, i32_w]
        rfl
      refine pure_ (i := 5) (N := some 37) (v := ?_) (a' := ?_) #[true, true, true, true, false, true, false, false, false, false, false, false, false, false, false, false] rfl rfl (by kernel_rfl) (fun _ _ _ h => h) (Or.inl ⟨by rfl, ?_⟩) ?_ ?_
      rotate_left
      · intro w'
        go_simp
        with_reducible rfl
      rotate_left
      · simp only [Act.put, List.setIfInBounds_toArray, List.set_cons_zero, List.set_cons_succ, i64_w, i32_w]
        rfl
      refine pure_ (i := 6) (N := some 38) (v := ?_) (a' := ?_) #[true, true, true, true, false, true, true, false, false, false, false, false, false, false, false, false] rfl rfl (by kernel_rfl) (fun _ _ _ h => h) (Or.inl ⟨by rfl, ?_⟩) ?_ ?_
      rotate_left
      · intro w'
        go_simp
        with_reducible rfl
      rotate_left
      · simp only [Act.put, List.setIfInBounds_toArray, List.set_cons_zero, List.set_cons_succ, i64_w, i32_w]
        rfl
      refine pure_ (i := 7) (N := some 39) (v := ?_) (a' := ?_) #[true, true, true, true, false, true, true, true, false, false, false, false, false, false, false, false] rfl rfl (by kernel_rfl) (fun _ _ _ h => h) (Or.inl ⟨by rfl, ?_⟩) ?_ ?_
      rotate_left
      · intro w'
        go_simp
        with_reducible rfl
      rotate_left
      · simp only [Act.put, List.setIfInBounds_toArray, List.set_cons_zero, List.set_cons_succ, i64_w, i32_w]
        rfl
      refine pure_ (i := 8) (N := some 40) (v := ?_) (a' := ?_) #[true, true, true, true, false, true, true, true, true, false, false, false, false, false, false, false] rfl rfl (by kernel_rfl) (fun _ _ _ h => h) (Or.inl ⟨by rfl, ?_⟩) ?_ ?_
      rotate_left
      · intro w'
        go_simp
        with_reducible rfl
      rotate_left
      · simp only [Act.put, List.setIfInBounds_toArray, List.set_cons_zero, List.set_cons_succ, i64_w, i32_w]
        rfl
      refine take_ (i := 4) (N := some 36) (v := ?_) (a' := ?_) #[true, true, true, true, true, true, true, true, true, false, false, false, false, false, false, false] rfl rfl (by kernel_rfl) (fun _ _ _ h => h) (Or.inl ⟨by rfl, ?_⟩) hHeld ?_ ?_
      rotate_left
      · rintro w' ⟨s0, s1⟩
        go_simp
        with_reducible rfl
      rotate_left
      · simp only [Act.put, List.setIfInBounds_toArray, List.set_cons_zero, List.set_cons_succ, i64_w, i32_w]
        rfl
      refine take_ (i := 9) (N := some 41) (v := ?_) (a' := ?_) #[true, true, true, true, true, true, true, true, true, true, false, false, false, false, false, false] rfl rfl (by kernel_rfl) (fun _ _ _ h => h) (Or.inl ⟨by rfl, ?_⟩) hHeld ?_ ?_
      rotate_left
      · rintro w' ⟨s0, s1⟩
        go_simp
        with_reducible rfl
      rotate_left
      · simp only [Act.put, List.setIfInBounds_toArray, List.set_cons_zero, List.set_cons_succ, i64_w, i32_w]
        rfl
      refine pure_ (i := 10) (N := some 42) (v := ?_) (a' := ?_) #[true, true, true, true, true, true, true, true, true, true, true, false, false, false, false, false] rfl rfl (by kernel_rfl) (fun _ _ _ h => h) (Or.inl ⟨by rfl, ?_⟩) ?_ ?_
      rotate_left
      · intro w'
        go_simp
        with_reducible rfl
      rotate_left
      · simp only [Act.put, List.setIfInBounds_toArray, List.set_cons_zero, List.set_cons_succ, i64_w, i32_w]
        rfl
      refine one_ (i := 11) (N := some 43) #[true, true, true, true, true, true, true, true, true, true, true, true, false, false, false, false] rfl rfl (by kernel_rfl) (by decide) (fun K hK => ?_)
      refine value_ (w1 := ?_) (v := ?_) (by rfl) rfl ?_ ?_
      rotate_left 2
      · go_simp
        constructor
        · rfl
        · rfl
      refine hK.out _ _ ⟨(KA _), (KX _)⟩ (fun hHeld => ?_)
      clear hK K
      refine norm_ (a' := ?_) ?_ ?_
      rotate_left
      · show Act.put _ (some 43) _ = _
        simp only [Act.put, List.setIfInBounds_toArray, List.set_cons_zero, List.set_cons_succ, i64_w, i32_w]
        rfl
      refine last_ (i := 12) (N := some 44) #[true, true, true, true, true, true, true, true, true, true, true, true, true, false, false, false] rfl rfl (by kernel_rfl) (by decide) (fun K hK => ?_)
      refine Buf.append_step 107 111 (.agg #[.int .i64 0, .int .u8 0, .int .i64 0]) 3 24 (by rfl) (.tmp 36) (.tmp 43) rfl Try.underlying107 info111 rfl (by decide) (by decide) wv _ _ ((M2.out.wai).below (below_alloc (below_drew (Below.refl _ _)) (.cells #[.int .i64 (n : Int), .int .u8 x, .int .i64 (-1)] 111))) (some ⟨w2.heap.size, 0, none⟩) 1 1 [.int .i64 (n : Int), .int .u8 x, .int .i64 (-1)] rfl (by simp) (news_three w2.drew _ _ _ 111) (by simp [Value.oneCell']) (by rw [List.length_append, List.length_map, List.length_take]; have h1 := HLL.out; have h2 := HBL.out; omega) rfl rfl ?_
      intro v4 w4 hv4 hg4 hat4
      have HV4 := Aside0.mk hv4
      have HG4 := Aside0.mk hg4
      have HA4 := Aside0.mk hat4
      have hbk : w4.heap[g]? = some (.cells (refCells wv (wrap64 (deeds + 1))) 109 (0, 0)) := (hg4.block g (Nat.lt_of_lt_of_le M2.out.lt (below_alloc (below_drew (Below.refl w2.heap.size w2)) (.cells #[.int .i64 (n : Int), .int .u8 x, .int .i64 (-1)] 111)).size) (fun h => own_ne M2.out.wai M2.out.blk (by decide) g h.symm rfl)).trans (((below_alloc (below_drew (Below.refl w2.heap.size w2)) (.cells #[.int .i64 (n : Int), .int .u8 x, .int .i64 (-1)] 111)).block g M2.out.lt).trans M2.out.blk)
      have kc : w4.cell? ⟨g, 4, none⟩ = some wv := blk_cell hbk 4
      have kz : w4.frozen? ⟨g, 4, none⟩ = false := blk_frozen hbk 4
      obtain ⟨A4, c4, hv4e, _⟩ := hv4.slice
      subst hv4e
      clear hv4 hg4 hat4 hbk
      refine hK.out _ _ ?_
      clear hK K
      refine norm_ (a' := ?_) ?_ ?_
      rotate_left
      · show Act.put _ (some 44) _ = _
        simp only [Act.put, List.setIfInBounds_toArray, List.set_cons_zero, List.set_cons_succ, i64_w, i32_w]
        rfl
      refine pure_ (i := 13) (N := some 45) (v := ?_) (a' := ?_) #[true, true, true, true, true, true, true, true, true, true, true, true, true, true, false, false] rfl rfl (by kernel_rfl) (fun _ _ _ h => h) (Or.inl ⟨by rfl, ?_⟩) ?_ ?_
      rotate_left
      · intro w'
        go_simp
        with_reducible rfl
      rotate_left
      · simp only [Act.put, List.setIfInBounds_toArray, List.set_cons_zero, List.set_cons_succ, i64_w, i32_w]
        rfl
      refine pure_ (i := 14) (N := some 46) (v := ?_) (a' := ?_) #[true, true, true, true, true, true, true, true, true, true, true, true, true, true, true, false] rfl rfl (by kernel_rfl) (fun _ _ _ h => h) (Or.inl ⟨by rfl, ?_⟩) ?_ ?_
      rotate_left
      · intro w'
        go_simp
        with_reducible rfl
      rotate_left
      · simp only [Act.put, List.setIfInBounds_toArray, List.set_cons_zero, List.set_cons_succ, i64_w, i32_w]
        rfl
      refine last_ (i := 15) (N := none) #[true, true, true, true, true, true, true, true, true, true, true, true, true, true, true, true] rfl rfl (by kernel_rfl) (by decide) (fun K hK => ?_)
      refine skip_ (w1 := ?_) (by rfl) rfl ?_ ?_
      rotate_left
      · go_simp
        rfl
      refine hK.out _ _ ?_
      clear hK K
      refine done_ (by kernel_rfl) ?_
      clear KA KX kx
      go_wp2_with fail
      go_roundg k1
      case measure => omega
      case rel =>
        have hpu := M2.out.push (W := w2.drew.alloc (.cells #[.int .i64 (n : Int), .int .u8 x, .int .i64 (-1)] 111)) (w2 := w4) (fun k hk => .inr (Nat.le_trans HF2'.out.size hk)) (n, x) HNN.out (below_alloc (below_drew (Below.refl _ _)) _) HG4.out HV4.out HA4.out
        rw [show (L ++ (b.take i).map fun x => (n, x)).length + 1 = L.length + min i b.length + 1 by rw [List.length_append, List.length_map, List.length_take]] at hpu
        have hl : L ++ (b.take (i + 1)).map (fun x => (n, x)) = (L ++ (b.take i).map fun x => (n, x)) ++ [(n, x)] := by
          rw [List.append_assoc, List.take_add_one, List.map_append, HX.out, List.getD_eq_getElem?_getD, List.getElem?_eq_getElem (by have := HN.out; have := HCI.out; omega)]
          rfl
        exact ⟨i + 1, by first | rfl | (congr 1; have := HCI.out; have := HN.out; have := HBL.out; unfold wrap64; omega), ⟨by have := HI.out; omega⟩, ⟨by rw [hl]; exact ⟨_, _, hpu.1⟩⟩, ⟨HF2'.out.trans hpu.2 (fun k hk => hk)⟩⟩
    · have c0 : decide ((i : Int) < (N : Int)) = false := decide_eq_false (by omega)
      have c0' : decide (i < N) = false := decide_eq_false ci
      have HE := Aside0.mk (show RefAt (fun k => S k ∨ w.heap.size ≤ k) wr g (L ++ b.map fun x => (n, x)) by have h := HR.out; rw [show i = b.length by have := HI.out; have := HN.out; omega, List.take_length] at h; exact h)
      clear ci
      go_wp2
      go_ret
      exact ⟨rfl, HE.out, HF.out⟩
end Go.Proofs.Ytfkkekdpfkglbaa.Q
