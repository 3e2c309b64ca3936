/- The law's walk: what was synced lasts, of what came since a beginning. Conditions: as typed. -/
import Derived.Test.YtfkkekdpfkglbaaDiskL
namespace Go.Proofs.Ytfkkekdpfkglbaa.Q
open Go.RowKit Go.Proofs.YtfkkekdpfkglbaaW.PrintWords Go.Proofs.YtfkkekdpfkglbaaW.PrintLast Go.Proofs.YtfkkekdpfkglbaaW.PrintMore
set_option linter.unusedVariables false
set_option linter.unusedSimpArgs false
set_option maxHeartbeats 16000000 in
set_option maxRecDepth 100000 in
theorem diskLasts_long (A0 A1 : Option Addr) (c0 c1 : Nat) (l more : List ActV) (fuse keep : Int) (w : World) (h0 : Acts w A0 l) (h1 : Acts w A1 more) (hl : longB l = true ∨ longB more = true) : Calls Try.prog 6 #[.slice A0 l.length c0, .slice A1 more.length c1, .int .i64 fuse, .int .i64 keep] w fun e w' => e = .returned (.bool true) ∧ Below w.heap.size w w' := by
  have HA0 := Aside0.mk h0
  have HA1 := Aside0.mk h1
  clear h0 h1
  cases hq : longB l with
  | true =>
    have HL0 := Aside0.mk hq
    clear hl hq
    go_enter Try.func6, Try.ntmps6
    go_wp2_with (first | (go_at_call 15; (with_reducible refine (disk_awake.calls _).mono ?_); rintro e w1 ⟨rfl, hb1⟩; have HB1 := Aside0.mk hb1; clear hb1) | (go_at_call 16; (with_reducible refine (disk_Long.calls _ _ l _ (HA0.out.below HB1.out)).mono ?_); rintro e wx ⟨rfl, hwx⟩; have hwy := hwx.symm; clear hwx; subst hwy; rw [HL0.out]))
    go_ret
    exact ⟨rfl, HB1.out⟩
  | false =>
    have hm : longB more = true := by
      rcases hl with h | h
      · rw [hq] at h; cases h
      · exact h
    have HL0 := Aside0.mk hq
    have HL1 := Aside0.mk hm
    clear hl hq hm
    go_enter Try.func6, Try.ntmps6
    go_wp2_with (first | (go_at_call 15; (with_reducible refine (disk_awake.calls _).mono ?_); rintro e w1 ⟨rfl, hb1⟩; have HB1 := Aside0.mk hb1; clear hb1) | (go_at_call 16; (with_reducible refine (disk_Long.calls _ _ l _ (HA0.out.below HB1.out)).mono ?_); rintro e wx ⟨rfl, hwx⟩; have hwy := hwx.symm; clear hwx; subst hwy; rw [HL0.out]) | (go_at_call 16; (with_reducible refine (disk_Long.calls _ _ more _ (HA1.out.below HB1.out)).mono ?_); rintro e wx ⟨rfl, hwx⟩; have hwy := hwx.symm; clear hwx; subst hwy; rw [HL1.out]))
    go_ret
    exact ⟨rfl, HB1.out⟩
set_option maxHeartbeats 16000000 in
set_option maxRecDepth 100000 in
theorem diskLasts_short (A0 A1 : Option Addr) (c0 c1 : Nat) (l more : List ActV) (fuse keep : Int) (w : World) (h0 : Acts w A0 l) (h1 : Acts w A1 more) (hl0 : longB l = false) (hl1 : longB more = false) : Calls Try.prog 6 #[.slice A0 l.length c0, .slice A1 more.length c1, .int .i64 fuse, .int .i64 keep] w fun e w' => e = .returned (.bool true) ∧ Below w.heap.size w w' := by
  have HA0 := Aside0.mk h0
  have HA1 := Aside0.mk h1
  have HL0 := Aside0.mk hl0
  have HL1 := Aside0.mk hl1
  have HB0 := Aside0.mk (longB_false hl0)
  have HBM := Aside0.mk (longB_false hl1)
  clear h0 h1 hl0 hl1
  obtain ⟨N, hN⟩ : ∃ N, N = l.length := ⟨_, rfl⟩
  obtain ⟨N2, hN2⟩ : ∃ N, N = more.length := ⟨_, rfl⟩
  have HN := Aside0.mk hN
  have HN2 := Aside0.mk hN2
  rw [← hN, ← hN2]
  clear hN hN2
  have LG0 : ∀ W, Acts W A0 l → Calls Try.prog 16 #[.slice A0 N c0] W fun e w' => e = .returned (.bool (longB l)) ∧ w' = W := fun W h => by rw [HN.out]; exact disk_Long.calls _ _ l _ h
  have LG1 : ∀ W, Acts W A1 more → Calls Try.prog 16 #[.slice A1 N2 c1] W fun e w' => e = .returned (.bool (longB more)) ∧ w' = W := fun W h => by rw [HN2.out]; exact disk_Long.calls _ _ more _ h
  have HG0 := Aside0.mk LG0
  have HG1 := Aside0.mk LG1
  clear LG0 LG1
  obtain ⟨S0, hS0⟩ : ∃ S : Nat → Prop, S = fun k => w.heap.size ≤ k := ⟨_, rfl⟩
  have HS0 := Aside0.mk hS0
  clear hS0
  go_enter Try.func6, Try.ntmps6
  go_upto_region 6 with (first | (go_at_call 15; (with_reducible refine (disk_awake.calls _).mono ?_); rintro e w1 ⟨rfl, hb1⟩; have HB1 := Aside0.mk hb1; clear hb1) | (go_at_call 16; (with_reducible refine (HG0.out _ (HA0.out.below HB1.out)).mono ?_); rintro e wx ⟨rfl, hwx⟩; have hwy := hwx.symm; clear hwx; subst hwy; rw [HL0.out]) | (go_at_call 16; (with_reducible refine (HG1.out _ (HA1.out.below HB1.out)).mono ?_); rintro e wx ⟨rfl, hwx⟩; have hwy := hwx.symm; clear hwx; subst hwy; rw [HL1.out]) | (go_at_call 17; (with_reducible refine (disk_New.calls 200000 _ (by omega) (by omega)).mono ?_); rintro e w2 ⟨g, rfl, hd2, hb2⟩; have HD2 := Aside0.mk (hd2.mono (S' := fun k => w.heap.size ≤ k) (fun k hk => Nat.le_trans HB1.out.size hk)); have HB2 := Aside0.mk (below_then HB1.out HB1.out.size hb2); clear hd2 hb2))
  go_wp2_with fail
  go_loopg [11] N (fun kq v11 w' => ∃ (i : Nat) (Di : Dsk), v11 = .int .i64 (i : Int) ∧ Aside0 (i + kq = N) ∧ Aside0 (DiskAt S0 w' g Di) ∧ Aside0 (Below w.heap.size w w') ∧ Aside0 (Fresh i Di))
  case atStart => exact ⟨0, newDisk 200000, rfl, ⟨by omega⟩, ⟨by rw [HS0.out]; exact HD2.out⟩, HB2, ⟨fresh_new⟩⟩
  case round =>
    obtain ⟨i, Di, rfl, HI, HDi, HBI, HFR⟩ := hrel
    by_cases ci : i < N
    · have c0' : decide ((i : Int) < (N : Int)) = true := decide_eq_true (by omega)
      have c0'' : decide (i < N) = true := decide_eq_true ci
      have p0 : (0 ≤ (i : Int)) = True := eq_true (by omega)
      have q0 : ((i : Int) < (N : Int)) = True := eq_true (by omega)
      obtain ⟨k1_, rfl⟩ : ∃ k1, gk = k1 + 1 := ⟨gk - 1, by have := HI.out; omega⟩
      have HCI := Aside0.mk (show i < 60 by have h1 := HB0.out.1; have h2 := HN.out; omega)
      obtain ⟨x, hx⟩ : ∃ x, l[i]? = some x := ⟨l[i]'(by have := HN.out; omega), List.getElem?_eq_getElem _⟩
      obtain ⟨ad, hA, ha0⟩ := HA0.out.2 i x hx
      subst hA
      have ha := ha0.below HBI.out
      have hxb : x.b.length ≤ 300 := HB0.out.2 x (List.mem_of_getElem? hx)
      have HFR2 := Aside0.mk (HFR.out.next x hxb)
      have HLB := Aside0.mk (show x.b.length ≤ 1099511627776 by omega)
      have HLF := Aside0.mk (show ∀ i, i < 4 → (Di.files i).length ≤ 1099511627776 from fun j hj => by have h1 := HFR.out.len j hj; have h2 := HCI.out; omega)
      have HLW := Aside0.mk (show Di.wait.length ≤ 1099511627776 by have h1 := HFR.out.wlen; have h2 := HCI.out; omega)
      obtain ⟨Ab, cb, k3, _, _⟩ := ha.b
      obtain ⟨Ab0, cb0, k30, _, hrd0⟩ := ha0.b
      have k30' := (HBI.out.cell (World.block_lt_of_cell? w _ k30)).trans k30
      rw [k30'] at k3
      injection k3 with k3
      injection k3 with e1 _ e3
      subst e1; subst e3
      have k3 := k30'
      clear k30'
      have HRD := Aside0.mk (show ∀ W, Foot S0 wr.drew W → ReadsInt W .u8 Ab0 x.b.length x.b from fun W hW => hrd0.below ((pw_below_drewN HBI.out 1).trans (hW.below (B := w.heap.size) (fun k hk => by rw [HS0.out] at hk; exact hk) HBI.out.size)))
      have HDW := Aside0.mk (show DiskAt S0 wr.drew g Di from HDi.out.drewN 1)
      have k0 := ha.kind
      have k1' := ha.file
      have k2 := ha.n
      clear hx ha ha0 hxb k30 hrd0
      by_cases ck : x.kind = 1
      · rw [ck] at k0
        have HAC := Aside0.mk (show act1 Di x = (Di.app x.file x.b).2 by unfold act1; rw [if_pos ck])
        clear ck k2
        have k1 := k1'
        clear k1'
        go_wp2_with fail
        refine start_ (n := 12) (S := fun w' => w'.cell? ⟨(ad.add (i * 4)).block, (ad.add (i * 4)).off + 1, none⟩ = some (.int .i64 x.file) ∧ w'.cell? ⟨(ad.add (i * 4)).block, (ad.add (i * 4)).off + 3, none⟩ = some (.slice Ab0 x.b.length cb0)) (ds := [11]) #[false, false, false, false, false, false, false, false, false, false, false, false] (by kernel_rfl) rfl rfl ⟨k1, k3⟩ (fun hHeld => ?_)
        refine pure_ (i := 0) (N := some 44) (v := ?_) (a' := ?_) #[true, false, false, false, false, false, false, false, false, false, false, false] rfl rfl (by kernel_rfl) (fun _ _ _ h => h) (Or.inl ⟨by rfl, ?_⟩) ?_ ?_
        rotate_left
        · intro w'
          go_simp
          with_reducible rfl
        rotate_left
        · simp only [Act.put, List.setIfInBounds_toArray, List.set_cons_zero, List.set_cons_succ, i64_w, i32_w]
          rfl
        refine pure_ (i := 1) (N := some 45) (v := ?_) (a' := ?_) #[true, true, false, false, false, false, false, false, false, false, false, false] rfl rfl (by kernel_rfl) (fun _ _ _ h => h) (Or.inl ⟨by rfl, ?_⟩) ?_ ?_
        rotate_left
        · intro w'
          go_simp
          with_reducible rfl
        rotate_left
        · simp only [Act.put, List.setIfInBounds_toArray, List.set_cons_zero, List.set_cons_succ, i64_w, i32_w]
          rfl
        refine pure_ (i := 2) (N := some 46) (v := ?_) (a' := ?_) #[true, true, true, false, false, false, false, false, false, false, false, false] rfl rfl (by kernel_rfl) (fun _ _ _ h => h) (Or.inl ⟨by rfl, ?_⟩) ?_ ?_
        rotate_left
        · intro w'
          go_simp
          with_reducible rfl
        rotate_left
        · simp only [Act.put, List.setIfInBounds_toArray, List.set_cons_zero, List.set_cons_succ, i64_w, i32_w]
          rfl
        refine pure_ (i := 3) (N := some 47) (v := ?_) (a' := ?_) #[true, true, true, true, false, false, false, false, false, false, false, false] rfl rfl (by kernel_rfl) (fun _ _ _ h => h) (Or.inl ⟨by rfl, ?_⟩) ?_ ?_
        rotate_left
        · intro w'
          go_simp
          with_reducible rfl
        rotate_left
        · simp only [Act.put, List.setIfInBounds_toArray, List.set_cons_zero, List.set_cons_succ, i64_w, i32_w]
          rfl
        refine pure_ (i := 4) (N := some 48) (v := ?_) (a' := ?_) #[true, true, true, true, true, false, false, false, false, false, false, false] rfl rfl (by kernel_rfl) (fun _ _ _ h => h) (Or.inl ⟨by rfl, ?_⟩) ?_ ?_
        rotate_left
        · intro w'
          go_simp
          with_reducible rfl
        rotate_left
        · simp only [Act.put, List.setIfInBounds_toArray, List.set_cons_zero, List.set_cons_succ, i64_w, i32_w]
          rfl
        refine pure_ (i := 6) (N := some 50) (v := ?_) (a' := ?_) #[true, true, true, true, true, false, true, false, false, false, false, false] rfl rfl (by kernel_rfl) (fun _ _ _ h => h) (Or.inl ⟨by rfl, ?_⟩) ?_ ?_
        rotate_left
        · intro w'
          go_simp
          with_reducible rfl
        rotate_left
        · simp only [Act.put, List.setIfInBounds_toArray, List.set_cons_zero, List.set_cons_succ, i64_w, i32_w]
          rfl
        refine pure_ (i := 7) (N := some 51) (v := ?_) (a' := ?_) #[true, true, true, true, true, false, true, true, false, false, false, false] rfl rfl (by kernel_rfl) (fun _ _ _ h => h) (Or.inl ⟨by rfl, ?_⟩) ?_ ?_
        rotate_left
        · intro w'
          go_simp
          with_reducible rfl
        rotate_left
        · simp only [Act.put, List.setIfInBounds_toArray, List.set_cons_zero, List.set_cons_succ, i64_w, i32_w]
          rfl
        refine pure_ (i := 8) (N := some 52) (v := ?_) (a' := ?_) #[true, true, true, true, true, false, true, true, true, false, false, false] rfl rfl (by kernel_rfl) (fun _ _ _ h => h) (Or.inl ⟨by rfl, ?_⟩) ?_ ?_
        rotate_left
        · intro w'
          go_simp
          with_reducible rfl
        rotate_left
        · simp only [Act.put, List.setIfInBounds_toArray, List.set_cons_zero, List.set_cons_succ, i64_w, i32_w]
          rfl
        refine pure_ (i := 9) (N := some 53) (v := ?_) (a' := ?_) #[true, true, true, true, true, false, true, true, true, true, false, false] rfl rfl (by kernel_rfl) (fun _ _ _ h => h) (Or.inl ⟨by rfl, ?_⟩) ?_ ?_
        rotate_left
        · intro w'
          go_simp
          with_reducible rfl
        rotate_left
        · simp only [Act.put, List.setIfInBounds_toArray, List.set_cons_zero, List.set_cons_succ, i64_w, i32_w]
          rfl
        refine take_ (i := 5) (N := some 49) (v := ?_) (a' := ?_) #[true, true, true, true, true, true, true, true, true, true, false, false] rfl rfl (by kernel_rfl) (fun _ _ _ h => h) (Or.inl ⟨by rfl, ?_⟩) hHeld ?_ ?_
        rotate_left
        · rintro w' ⟨s0, s1⟩
          go_simp
          with_reducible rfl
        rotate_left
        · simp only [Act.put, List.setIfInBounds_toArray, List.set_cons_zero, List.set_cons_succ, i64_w, i32_w]
          rfl
        refine take_ (i := 10) (N := some 54) (v := ?_) (a' := ?_) #[true, true, true, true, true, true, true, true, true, true, true, false] rfl rfl (by kernel_rfl) (fun _ _ _ h => h) (Or.inl ⟨by rfl, ?_⟩) hHeld ?_ ?_
        rotate_left
        · rintro w' ⟨s0, s1⟩
          go_simp
          with_reducible rfl
        rotate_left
        · simp only [Act.put, List.setIfInBounds_toArray, List.set_cons_zero, List.set_cons_succ, i64_w, i32_w]
          rfl
        refine last_ (i := 11) (N := some 55) #[true, true, true, true, true, true, true, true, true, true, true, true] rfl rfl (by kernel_rfl) (by decide) (fun K hK => ?_)
        refine goes_ Try.func18 (by kernel_rfl) rfl #[.pointer (some ⟨g, 0, none⟩), .int .i64 x.file, .slice Ab0 x.b.length cb0] (by rfl) rfl rfl (by simp only [List.map_toArray, List.map_cons, List.map_nil]; rfl) ?_
        with_reducible refine (disk_Append.calls S0 g Di x.file x.b Ab0 cb0 wr.drew HDW.out (fun W hW => HRD.out W hW) HLB.out HLF.out HLW.out).mono ?_
        rintro e w3 ⟨rfl, hd3, hf3⟩
        refine ⟨_, rfl, ?_⟩
        have HD3 := Aside0.mk hd3
        have HF3 := Aside0.mk hf3
        clear hd3 hf3
        refine hK.out _ _ ?_
        clear hK K
        refine norm_ (a' := ?_) ?_ ?_
        rotate_left
        · show Act.put _ (some 55) _ = _
          simp only [Act.put, List.setIfInBounds_toArray, List.set_cons_zero, List.set_cons_succ, i64_w, i32_w]
          rfl
        refine done_ (by kernel_rfl) ?_
        go_wp2_with fail
        go_roundg k1_
        case measure => omega
        case rel => exact ⟨i + 1, act1 Di x, by first | rfl | (congr 1; have := HCI.out; unfold wrap64; omega), ⟨by have := HI.out; omega⟩, ⟨by rw [HAC.out]; exact HD3.out.mono (fun k hk => by rw [HS0.out] at hk ⊢; rcases hk with h | h; exact h; exact Nat.le_trans HBI.out.size h)⟩, ⟨(pw_below_drewN HBI.out 1).trans (HF3.out.below (B := w.heap.size) (fun k hk => by rw [HS0.out] at hk; exact hk) HBI.out.size)⟩, HFR2⟩
      · by_cases ck2 : x.kind = 2
        · rw [ck2] at k0
          have HAC := Aside0.mk (show act1 Di x = (Di.cutD x.file x.n).2 by unfold act1; rw [if_neg ck, if_pos ck2])
          clear ck ck2 k3
          have k1 := k1'
          clear k1'
          go_wp2_with fail
          refine start_ (n := 12) (S := fun w' => w'.cell? ⟨(ad.add (i * 4)).block, (ad.add (i * 4)).off + 1, none⟩ = some (.int .i64 x.file) ∧ w'.cell? ⟨(ad.add (i * 4)).block, (ad.add (i * 4)).off + 2, none⟩ = some (.int .i64 x.n)) (ds := [11]) #[false, false, false, false, false, false, false, false, false, false, false, false] (by kernel_rfl) rfl rfl ⟨k1, k2⟩ (fun hHeld => ?_)
          refine pure_ (i := 0) (N := some 58) (v := ?_) (a' := ?_) #[true, false, false, false, false, false, false, false, false, false, false, false] rfl rfl (by kernel_rfl) (fun _ _ _ h => h) (Or.inl ⟨by rfl, ?_⟩) ?_ ?_
          rotate_left
          · intro w'
            go_simp
            with_reducible rfl
          rotate_left
          · simp only [Act.put, List.setIfInBounds_toArray, List.set_cons_zero, List.set_cons_succ, i64_w, i32_w]
            rfl
          refine pure_ (i := 1) (N := some 59) (v := ?_) (a' := ?_) #[true, true, false, false, false, false, false, false, false, false, false, false] rfl rfl (by kernel_rfl) (fun _ _ _ h => h) (Or.inl ⟨by rfl, ?_⟩) ?_ ?_
          rotate_left
          · intro w'
            go_simp
            with_reducible rfl
          rotate_left
          · simp only [Act.put, List.setIfInBounds_toArray, List.set_cons_zero, List.set_cons_succ, i64_w, i32_w]
            rfl
          refine pure_ (i := 2) (N := some 60) (v := ?_) (a' := ?_) #[true, true, true, false, false, false, false, false, false, false, false, false] rfl rfl (by kernel_rfl) (fun _ _ _ h => h) (Or.inl ⟨by rfl, ?_⟩) ?_ ?_
          rotate_left
          · intro w'
            go_simp
            with_reducible rfl
          rotate_left
          · simp only [Act.put, List.setIfInBounds_toArray, List.set_cons_zero, List.set_cons_succ, i64_w, i32_w]
            rfl
          refine pure_ (i := 3) (N := some 61) (v := ?_) (a' := ?_) #[true, true, true, true, false, false, false, false, false, false, false, false] rfl rfl (by kernel_rfl) (fun _ _ _ h => h) (Or.inl ⟨by rfl, ?_⟩) ?_ ?_
          rotate_left
          · intro w'
            go_simp
            with_reducible rfl
          rotate_left
          · simp only [Act.put, List.setIfInBounds_toArray, List.set_cons_zero, List.set_cons_succ, i64_w, i32_w]
            rfl
          refine pure_ (i := 4) (N := some 62) (v := ?_) (a' := ?_) #[true, true, true, true, true, false, false, false, false, false, false, false] rfl rfl (by kernel_rfl) (fun _ _ _ h => h) (Or.inl ⟨by rfl, ?_⟩) ?_ ?_
          rotate_left
          · intro w'
            go_simp
            with_reducible rfl
          rotate_left
          · simp only [Act.put, List.setIfInBounds_toArray, List.set_cons_zero, List.set_cons_succ, i64_w, i32_w]
            rfl
          refine pure_ (i := 6) (N := some 64) (v := ?_) (a' := ?_) #[true, true, true, true, true, false, true, false, false, false, false, false] rfl rfl (by kernel_rfl) (fun _ _ _ h => h) (Or.inl ⟨by rfl, ?_⟩) ?_ ?_
          rotate_left
          · intro w'
            go_simp
            with_reducible rfl
          rotate_left
          · simp only [Act.put, List.setIfInBounds_toArray, List.set_cons_zero, List.set_cons_succ, i64_w, i32_w]
            rfl
          refine pure_ (i := 7) (N := some 65) (v := ?_) (a' := ?_) #[true, true, true, true, true, false, true, true, false, false, false, false] rfl rfl (by kernel_rfl) (fun _ _ _ h => h) (Or.inl ⟨by rfl, ?_⟩) ?_ ?_
          rotate_left
          · intro w'
            go_simp
            with_reducible rfl
          rotate_left
          · simp only [Act.put, List.setIfInBounds_toArray, List.set_cons_zero, List.set_cons_succ, i64_w, i32_w]
            rfl
          refine pure_ (i := 8) (N := some 66) (v := ?_) (a' := ?_) #[true, true, true, true, true, false, true, true, true, false, false, false] rfl rfl (by kernel_rfl) (fun _ _ _ h => h) (Or.inl ⟨by rfl, ?_⟩) ?_ ?_
          rotate_left
          · intro w'
            go_simp
            with_reducible rfl
          rotate_left
          · simp only [Act.put, List.setIfInBounds_toArray, List.set_cons_zero, List.set_cons_succ, i64_w, i32_w]
            rfl
          refine pure_ (i := 9) (N := some 67) (v := ?_) (a' := ?_) #[true, true, true, true, true, false, true, true, true, true, false, false] rfl rfl (by kernel_rfl) (fun _ _ _ h => h) (Or.inl ⟨by rfl, ?_⟩) ?_ ?_
          rotate_left
          · intro w'
            go_simp
            with_reducible rfl
          rotate_left
          · simp only [Act.put, List.setIfInBounds_toArray, List.set_cons_zero, List.set_cons_succ, i64_w, i32_w]
            rfl
          refine take_ (i := 5) (N := some 63) (v := ?_) (a' := ?_) #[true, true, true, true, true, true, true, true, true, true, false, false] rfl rfl (by kernel_rfl) (fun _ _ _ h => h) (Or.inl ⟨by rfl, ?_⟩) hHeld ?_ ?_
          rotate_left
          · rintro w' ⟨s0, s1⟩
            go_simp
            with_reducible rfl
          rotate_left
          · simp only [Act.put, List.setIfInBounds_toArray, List.set_cons_zero, List.set_cons_succ, i64_w, i32_w]
            rfl
          refine take_ (i := 10) (N := some 68) (v := ?_) (a' := ?_) #[true, true, true, true, true, true, true, true, true, true, true, false] rfl rfl (by kernel_rfl) (fun _ _ _ h => h) (Or.inl ⟨by rfl, ?_⟩) hHeld ?_ ?_
          rotate_left
          · rintro w' ⟨s0, s1⟩
            go_simp
            with_reducible rfl
          rotate_left
          · simp only [Act.put, List.setIfInBounds_toArray, List.set_cons_zero, List.set_cons_succ, i64_w, i32_w]
            rfl
          refine last_ (i := 11) (N := some 69) #[true, true, true, true, true, true, true, true, true, true, true, true] rfl rfl (by kernel_rfl) (by decide) (fun K hK => ?_)
          refine goes_ Try.func25 (by kernel_rfl) rfl #[.pointer (some ⟨g, 0, none⟩), .int .i64 x.file, .int .i64 x.n] (by rfl) rfl rfl (by simp only [List.map_toArray, List.map_cons, List.map_nil]; rfl) ?_
          with_reducible refine (disk_Cut.calls S0 g Di x.file x.n wr.drew HDW.out HLF.out HLW.out).mono ?_
          rintro e w3 ⟨rfl, hd3, hf3⟩
          refine ⟨_, rfl, ?_⟩
          have HD3 := Aside0.mk hd3
          have HF3 := Aside0.mk hf3
          clear hd3 hf3
          refine hK.out _ _ ?_
          clear hK K
          refine norm_ (a' := ?_) ?_ ?_
          rotate_left
          · show Act.put _ (some 69) _ = _
            simp only [Act.put, List.setIfInBounds_toArray, List.set_cons_zero, List.set_cons_succ, i64_w, i32_w]
            rfl
          refine done_ (by kernel_rfl) ?_
          go_wp2_with fail
          go_roundg k1_
          case measure => omega
          case rel => exact ⟨i + 1, act1 Di x, by first | rfl | (congr 1; have := HCI.out; unfold wrap64; omega), ⟨by have := HI.out; omega⟩, ⟨by rw [HAC.out]; exact HD3.out.mono (fun k hk => by rw [HS0.out] at hk ⊢; rcases hk with h | h; exact h; exact Nat.le_trans HBI.out.size h)⟩, ⟨(pw_below_drewN HBI.out 1).trans (HF3.out.below (B := w.heap.size) (fun k hk => by rw [HS0.out] at hk; exact hk) HBI.out.size)⟩, HFR2⟩
        · have HAC := Aside0.mk (show act1 Di x = Di by unfold act1; rw [if_neg ck, if_neg ck2])
          have d1 : (x.kind == 1) = false := by simp [ck]
          have d2 : (x.kind == 2) = false := by simp [ck2]
          have d3 : (x.kind = 1) = False := eq_false ck
          have d4 : (x.kind = 2) = False := eq_false ck2
          clear ck ck2 k3 k2 k1'
          go_wp2_with fail
          go_roundg k1_
          case measure => omega
          case rel => exact ⟨i + 1, act1 Di x, by first | rfl | (congr 1; have := HCI.out; unfold wrap64; omega), ⟨by have := HI.out; omega⟩, ⟨by rw [HAC.out]; exact HDi.out⟩, HBI, HFR2⟩
    · have c0' : decide ((i : Int) < (N : Int)) = false := decide_eq_false (by omega)
      have c0'' : decide (i < N) = false := decide_eq_false ci
      have hi : i ≤ 60 := by have h1 := HB0.out.1; have h2 := HN.out; have h3 := HI.out; omega
      have hgn := HFR.out.gone
      obtain ⟨F, hF⟩ : ∃ F, F = Di.step.files := ⟨_, rfl⟩
      have HFL : Aside0 (∀ i, i < 4 → (F i).length ≤ 18000) := ⟨fun j hj => by rw [hF, (step_of hgn).1]; have h1 := HFR.out.len j hj; omega⟩
      have HSI0 := Aside0.mk (show Since F 0 { ({ Di.step with wait := [] } : Dsk) with fuse := if fuse < -1 then -1 else fuse } (fun _ => []) [] by rw [hF]; exact since_sync HFR.out _)
      have HSY := Aside0.mk (by
        have h := disk_Sync.calls S0 g Di wr HDi.out
        rw [hgn, if_neg (by simp : ¬ (false = true)), if_neg (by simp : ¬ (false = true))] at h
        exact h)
      obtain ⟨D1, hD1⟩ : ∃ D1 : Dsk, D1 = { Di.step with wait := [] } := ⟨_, rfl⟩
      have HD1F := Aside0.mk (show D1.files = F ∧ D1.dark = false by rw [hD1]; exact ⟨hF.symm, (step_of hgn).2.2.2.trans HFR.out.dark⟩)
      rw [← hD1] at HSY HSI0
      clear hgn hF hD1 ci hi
      go_upto_region 19 with (first | (go_at_call 19; (with_reducible refine (HSY.out).mono ?_); rintro e w4 ⟨rfl, hd4, hf4, hz4⟩; have HD4 := Aside0.mk hd4.bound; have HB4 := Aside0.mk (HBI.out.trans (hf4.below (B := w.heap.size) (fun k hk => by subst hk; obtain ⟨f, wv, DW, m⟩ := HDi.out.out; have h := m.sg; rw [HS0.out] at h; exact h) HBI.out.size)); clear hd4 hf4 hz4) | (go_at_call 26; (with_reducible refine (disk_All.calls _ g D1 _ HD4.out HD1F.out.2 (fun j hj => by rw [HD1F.out.1]; have := HFL.out j hj; omega)).mono ?_); rintro e w5 ⟨rfl, hb5⟩; rw [HD1F.out.1, show strArr F 4 = #[.string (strOfNums (F 0)), .string (strOfNums (F 1)), .string (strOfNums (F 2)), .string (strOfNums (F 3))] from rfl]; have HB45 := Aside0.mk hb5; have HB5 := Aside0.mk (below_then HB4.out HB4.out.size hb5); have HD5 := Aside0.mk ((HD4.out.below hb5).below (below_alloc (Below.refl _ _) (.cells (strs F) 51))); clear hb5) | (go_at_call 27; (refine (disk_Fuse.calls _ g D1 fuse _ HD5.out).mono ?_); rintro e w6 ⟨rfl, hd6, hf6, hz6⟩; have HD6 := Aside0.mk hd6; have HF6 := Aside0.mk hf6; have HB6 := Aside0.mk ((HB5.out.alloc HB5.out.size (.cells (strs F) 51)).trans (hf6.below (B := w.heap.size) (fun k hk => by subst hk; obtain ⟨f, wv, DW, m⟩ := HD5.out.out; have h := m.sg.1; rw [HS0.out] at h; exact h) (HB5.out.alloc HB5.out.size (.cells (strs F) 51)).size)); clear hd6 hf6 hz6))
      obtain ⟨L12, hL12⟩ : ∃ L, L = w5.heap.size := ⟨_, rfl⟩
      obtain ⟨L13, hL13⟩ : ∃ L, L = w6.heap.size := ⟨_, rfl⟩
      rw [← hL12, ← hL13]
      obtain ⟨w7, hw7⟩ : ∃ W, W = w6.alloc (.cells #[.string ⟨#[]⟩, .string ⟨#[]⟩, .string ⟨#[]⟩, .string ⟨#[]⟩] 51) := ⟨_, rfl⟩
      rw [← hw7]
      have b67 : Below w6.heap.size w6 w7 := by rw [hw7]; exact below_alloc (Below.refl _ _) _
      have b12 : w6.heap[L12]? = some (.cells (strs F) 51 (0, 0)) := by
        have h := blk_new w5 (.cells (strs F) 51)
        rw [← hL12] at h
        exact (HF6.out.block L12 (blk_lt h) (fun e => by have := HD5.out.out; obtain ⟨f, wv, DW, m⟩ := this; have := m.sg.2; have := HB45.out.size; omega)).trans h
      have h12 : w7.heap[L12]? = some (.cells (strs F) 51 (0, 0)) := blk_below b12 b67
      have h13 : w7.heap[L13]? = some (.cells (strs (fun _ => [])) 51 (0, 0)) := by rw [hw7, hL13]; exact blk_new w6 _
      obtain ⟨S1, hS1⟩ : ∃ S : Nat → Prop, S = fun k => w.heap.size ≤ k ∧ k ≠ L12 ∧ k ≠ L13 := ⟨_, rfl⟩
      have HS1 := Aside0.mk hS1
      have HLL := Aside0.mk (show L12 ≠ L13 ∧ w.heap.size ≤ L12 ∧ w.heap.size ≤ L13 by
        have h1 := blk_lt b12
        have h2 := HB5.out.size
        have h3 := HB6.out.size
        omega)
      have HD7 : Aside0 (DiskAt S1 w7 g { D1 with fuse := if fuse < -1 then -1 else fuse }) := ⟨(HD6.out.below b67).mono (fun k hk => by
        rw [hS1]
        have h1 := HB45.out.size
        have h2 := blk_lt b12
        have h0 := hk.1
        rw [HS0.out] at h0
        refine ⟨h0, ?_, ?_⟩ <;> (have := hk.2; omega))⟩
      have HB7 : Aside0 (Below w.heap.size w w7) := ⟨below_then HB6.out HB6.out.size b67⟩
      have H12 := Aside0.mk h12
      have H13 := Aside0.mk h13
      clear hS1 h12 h13 b12 b67 hw7 hL12 hL13
      go_wp2_with fail
      go_loopg [14] N2 (fun kq v14 w' => ∃ (i : Nat) (D : Dsk) (C : Nat → List Int) (L : List (Nat × Int)), v14 = .int .i64 (i : Int) ∧ Aside0 (i + kq = N2) ∧ Aside0 (DiskAt S1 w' g D) ∧ Aside0 (Below w.heap.size w w') ∧ Aside0 (Since F i D C L) ∧ Aside0 (w'.heap[L12]? = some (.cells (strs F) 51 (0, 0))) ∧ Aside0 (w'.heap[L13]? = some (.cells (strs C) 51 (0, 0))))
      case atStart => exact ⟨0, _, _, _, rfl, ⟨by omega⟩, HD7, HB7, HSI0, H12, H13⟩
      case round =>
        clear HD7 HB7 HSI0 H12 H13
        obtain ⟨j, D, C, L, rfl, HJ, HDj, HBJ, HSJ, H12, H13⟩ := hrel
        by_cases cj : j < N2
        · have c0' : decide ((j : Int) < (N2 : Int)) = true := decide_eq_true (by omega)
          have c0'' : decide (j < N2) = true := decide_eq_true cj
          have p0 : (0 ≤ (j : Int)) = True := eq_true (by omega)
          have q0 : ((j : Int) < (N2 : Int)) = True := eq_true (by omega)
          obtain ⟨k1_, rfl⟩ : ∃ k1, gk = k1 + 1 := ⟨gk - 1, by have := HJ.out; omega⟩
          have HCJ := Aside0.mk (show j < 60 by have h1 := HBM.out.1; have h2 := HN2.out; omega)
          obtain ⟨x, hx⟩ : ∃ x, more[j]? = some x := ⟨more[j]'(by have := HN2.out; omega), List.getElem?_eq_getElem _⟩
          obtain ⟨ad, hA, ha0⟩ := HA1.out.2 j x hx
          subst hA
          have ha := ha0.below HBJ.out
          have hxb : x.b.length ≤ 300 := HBM.out.2 x (List.mem_of_getElem? hx)
          obtain ⟨Ab, cb, k3a, _, _⟩ := ha.b
          obtain ⟨Ab0, cb0, k30, _, hrd0⟩ := ha0.b
          have k3 := (HBJ.out.cell (World.block_lt_of_cell? w _ k30)).trans k30
          have k1 := ha.file
          have HA0F := Aside0.mk ha0.file
          have HA0B := Aside0.mk (And.intro k30 hrd0)
          clear hx ha ha0 k30 hrd0 k3a cj
          by_cases cf : 0 ≤ x.file ∧ x.file < 4
          · obtain ⟨n, hn⟩ : ∃ n : Nat, x.file = (n : Int) := ⟨x.file.toNat, by omega⟩
            have hn4 : n < 4 := by omega
            obtain ⟨L', hL'⟩ := HSJ.out.next HFL.out (by have := HCJ.out; omega) n hn4 x.b hxb
            have HSN := Aside0.mk hL'
            have HN4 := Aside0.mk hn4
            rw [hn] at k1
            have HFN := Aside0.mk hn
            have r0 : (0 ≤ (n : Int)) = True := eq_true (by omega)
            have r1 : ((n : Int) < 4) = True := eq_true (by omega)
            have r2 : (n < 4) = True := eq_true hn4
            have HSZ := Aside0.mk (show (9223372036854775807 < (strOfNums (C n)).size + (strOfNums x.b).size) = False from eq_false (by rw [strOfNums_size, strOfNums_size]; have h1 := HSJ.out.clen n; have h2 := HCJ.out; omega))
            have HLB := Aside0.mk (show x.b.length ≤ 1099511627776 by omega)
            have HLF := Aside0.mk (show ∀ i, i < 4 → (D.files i).length ≤ 1099511627776 from fun i hi => by
              have h1 := HSJ.out.came.files i
              have h2 := HFL.out i hi
              have h3 := logB_length L i
              have h4 := HSJ.out.len
              have h5 := HCJ.out
              rw [h1, List.length_append]; omega)
            have HLW := Aside0.mk (show D.wait.length ≤ 1099511627776 by
              have h4 := HSJ.out.len
              have h5 := HCJ.out
              rw [HSJ.out.came.wait, logW_length]; omega)
            have HRD := Aside0.mk (show ∀ W, Foot S1 wr.drew W → ReadsInt W .u8 Ab0 x.b.length x.b from fun W hW => HA0B.out.2.below ((pw_below_drewN HBJ.out 1).trans (hW.below (B := w.heap.size) (fun k hk => by rw [HS1.out] at hk; exact hk.1) HBJ.out.size)))
            have HDW := Aside0.mk (show DiskAt S1 wr.drew g D from HDj.out.drewN 1)
            clear hL' hn4 hn hxb cf
            go_wp2_with fail
            refine start_ (n := 12) (S := fun w' => w'.cell? ⟨(ad.add (j * 4)).block, (ad.add (j * 4)).off + 1, none⟩ = some (.int .i64 (n : Int)) ∧ w'.cell? ⟨(ad.add (j * 4)).block, (ad.add (j * 4)).off + 3, none⟩ = some (.slice Ab0 x.b.length cb0)) (ds := [11]) #[false, false, false, false, false, false, false, false, false, false, false, false] (by kernel_rfl) rfl rfl ⟨k1, k3⟩ (fun hHeld => ?_)
            refine pure_ (i := 0) (N := some 99) (v := ?_) (a' := ?_) #[true, false, false, false, false, false, false, false, false, false, false, false] rfl rfl (by kernel_rfl) (fun _ _ _ h => h) (Or.inl ⟨by rfl, ?_⟩) ?_ ?_
            rotate_left
            · intro w'
              go_simp
              with_reducible rfl
            rotate_left
            · simp only [Act.put, List.setIfInBounds_toArray, List.set_cons_zero, List.set_cons_succ, i64_w, i32_w]
              rfl
            refine pure_ (i := 1) (N := some 100) (v := ?_) (a' := ?_) #[true, true, false, false, false, false, false, false, false, false, false, false] rfl rfl (by kernel_rfl) (fun _ _ _ h => h) (Or.inl ⟨by rfl, ?_⟩) ?_ ?_
            rotate_left
            · intro w'
              go_simp
              with_reducible rfl
            rotate_left
            · simp only [Act.put, List.setIfInBounds_toArray, List.set_cons_zero, List.set_cons_succ, i64_w, i32_w]
              rfl
            refine pure_ (i := 2) (N := some 101) (v := ?_) (a' := ?_) #[true, true, true, false, false, false, false, false, false, false, false, false] rfl rfl (by kernel_rfl) (fun _ _ _ h => h) (Or.inl ⟨by rfl, ?_⟩) ?_ ?_
            rotate_left
            · intro w'
              go_simp
              with_reducible rfl
            rotate_left
            · simp only [Act.put, List.setIfInBounds_toArray, List.set_cons_zero, List.set_cons_succ, i64_w, i32_w]
              rfl
            refine pure_ (i := 3) (N := some 102) (v := ?_) (a' := ?_) #[true, true, true, true, false, false, false, false, false, false, false, false] rfl rfl (by kernel_rfl) (fun _ _ _ h => h) (Or.inl ⟨by rfl, ?_⟩) ?_ ?_
            rotate_left
            · intro w'
              go_simp
              with_reducible rfl
            rotate_left
            · simp only [Act.put, List.setIfInBounds_toArray, List.set_cons_zero, List.set_cons_succ, i64_w, i32_w]
              rfl
            refine pure_ (i := 4) (N := some 103) (v := ?_) (a' := ?_) #[true, true, true, true, true, false, false, false, false, false, false, false] rfl rfl (by kernel_rfl) (fun _ _ _ h => h) (Or.inl ⟨by rfl, ?_⟩) ?_ ?_
            rotate_left
            · intro w'
              go_simp
              with_reducible rfl
            rotate_left
            · simp only [Act.put, List.setIfInBounds_toArray, List.set_cons_zero, List.set_cons_succ, i64_w, i32_w]
              rfl
            refine pure_ (i := 6) (N := some 105) (v := ?_) (a' := ?_) #[true, true, true, true, true, false, true, false, false, false, false, false] rfl rfl (by kernel_rfl) (fun _ _ _ h => h) (Or.inl ⟨by rfl, ?_⟩) ?_ ?_
            rotate_left
            · intro w'
              go_simp
              with_reducible rfl
            rotate_left
            · simp only [Act.put, List.setIfInBounds_toArray, List.set_cons_zero, List.set_cons_succ, i64_w, i32_w]
              rfl
            refine pure_ (i := 7) (N := some 106) (v := ?_) (a' := ?_) #[true, true, true, true, true, false, true, true, false, false, false, false] rfl rfl (by kernel_rfl) (fun _ _ _ h => h) (Or.inl ⟨by rfl, ?_⟩) ?_ ?_
            rotate_left
            · intro w'
              go_simp
              with_reducible rfl
            rotate_left
            · simp only [Act.put, List.setIfInBounds_toArray, List.set_cons_zero, List.set_cons_succ, i64_w, i32_w]
              rfl
            refine pure_ (i := 8) (N := some 107) (v := ?_) (a' := ?_) #[true, true, true, true, true, false, true, true, true, false, false, false] rfl rfl (by kernel_rfl) (fun _ _ _ h => h) (Or.inl ⟨by rfl, ?_⟩) ?_ ?_
            rotate_left
            · intro w'
              go_simp
              with_reducible rfl
            rotate_left
            · simp only [Act.put, List.setIfInBounds_toArray, List.set_cons_zero, List.set_cons_succ, i64_w, i32_w]
              rfl
            refine pure_ (i := 9) (N := some 108) (v := ?_) (a' := ?_) #[true, true, true, true, true, false, true, true, true, true, false, false] rfl rfl (by kernel_rfl) (fun _ _ _ h => h) (Or.inl ⟨by rfl, ?_⟩) ?_ ?_
            rotate_left
            · intro w'
              go_simp
              with_reducible rfl
            rotate_left
            · simp only [Act.put, List.setIfInBounds_toArray, List.set_cons_zero, List.set_cons_succ, i64_w, i32_w]
              rfl
            refine take_ (i := 5) (N := some 104) (v := ?_) (a' := ?_) #[true, true, true, true, true, true, true, true, true, true, false, false] rfl rfl (by kernel_rfl) (fun _ _ _ h => h) (Or.inl ⟨by rfl, ?_⟩) hHeld ?_ ?_
            rotate_left
            · rintro w' ⟨s0, s1⟩
              go_simp
              with_reducible rfl
            rotate_left
            · simp only [Act.put, List.setIfInBounds_toArray, List.set_cons_zero, List.set_cons_succ, i64_w, i32_w]
              rfl
            refine take_ (i := 10) (N := some 109) (v := ?_) (a' := ?_) #[true, true, true, true, true, true, true, true, true, true, true, false] rfl rfl (by kernel_rfl) (fun _ _ _ h => h) (Or.inl ⟨by rfl, ?_⟩) hHeld ?_ ?_
            rotate_left
            · rintro w' ⟨s0, s1⟩
              go_simp
              with_reducible rfl
            rotate_left
            · simp only [Act.put, List.setIfInBounds_toArray, List.set_cons_zero, List.set_cons_succ, i64_w, i32_w]
              rfl
            refine last_ (i := 11) (N := some 110) #[true, true, true, true, true, true, true, true, true, true, true, true] rfl rfl (by kernel_rfl) (by decide) (fun K hK => ?_)
            refine goes_ Try.func18 (by kernel_rfl) rfl #[.pointer (some ⟨g, 0, none⟩), .int .i64 (n : Int), .slice Ab0 x.b.length cb0] (by rfl) rfl rfl (by simp only [List.map_toArray, List.map_cons, List.map_nil]; rfl) ?_
            with_reducible refine (disk_Append.calls S1 g D (n : Int) x.b Ab0 cb0 wr.drew HDW.out (fun W hW => HRD.out W hW) HLB.out HLF.out HLW.out).mono ?_
            rintro e w3 ⟨rfl, hd3, hf3⟩
            refine ⟨_, rfl, ?_⟩
            have HD3 := Aside0.mk hd3
            have HF3 := Aside0.mk hf3
            clear hd3 hf3
            refine hK.out _ _ ?_
            clear hK K
            refine norm_ (a' := ?_) ?_ ?_
            rotate_left
            · show Act.put _ (some 110) _ = _
              simp only [Act.put, List.setIfInBounds_toArray, List.set_cons_zero, List.set_cons_succ, i64_w, i32_w]
              rfl
            refine done_ (by kernel_rfl) ?_
            have hb3 : Below w.heap.size w w3 := (pw_below_drewN HBJ.out 1).trans (HF3.out.below (B := w.heap.size) (fun k hk => by rw [HS1.out] at hk; exact hk.1) HBJ.out.size)
            have HB3 := Aside0.mk hb3
            have h12' : w3.heap[L12]? = some (.cells (strs F) 51 (0, 0)) := (HF3.out.block L12 (blk_lt H12.out) (fun h => by rw [HS1.out] at h; exact h.2.1 rfl)).trans H12.out
            have h13' : w3.heap[L13]? = some (.cells (strs C) 51 (0, 0)) := (HF3.out.block L13 (blk_lt H13.out) (fun h => by rw [HS1.out] at h; exact h.2.2 rfl)).trans H13.out
            have kf : w3.cell? ⟨(ad.add (j * 4)).block, (ad.add (j * 4)).off + 1, none⟩ = some (.int .i64 (n : Int)) := by rw [← HFN.out]; exact (hb3.cell (World.block_lt_of_cell? w _ HA0F.out)).trans HA0F.out
            have kB : w3.cell? ⟨(ad.add (j * 4)).block, (ad.add (j * 4)).off + 3, none⟩ = some (.slice Ab0 x.b.length cb0) := (hb3.cell (World.block_lt_of_cell? w _ HA0B.out.1)).trans HA0B.out.1
            have kC : w3.cell? ⟨L13, n, none⟩ = some (.string (strOfNums (C n))) := by rw [blk_cell h13']; exact strs_get C n HN4.out
            have zC : w3.frozen? ⟨L13, n, none⟩ = false := blk_frozen h13' n
            have hcv : (convert 37 9 (.slice Ab0 x.b.length cb0)).run Try.prog w3.drew = .ok (.string (strOfNums x.b)) w3.drew := Kd.C_string Try.underlying37 Try.underlying5 Try.underlying9 (Kd.C_of_reads (d := (0 : Int)) (h1 := fun _ => rfl) (HA0B.out.2.below (pw_below_drewN hb3 1)))
            have H12' := Aside0.mk h12'
            have H13' := Aside0.mk h13'
            clear h12' h13' hb3 k1 k3
            go_wp2_with fail
            have hsz := HSZ.out
            refine start_ (n := 21) (S := fun w' => w'.cell? ⟨(ad.add (j * 4)).block, (ad.add (j * 4)).off + 1, none⟩ = some (.int .i64 (n : Int)) ∧ w'.cell? ⟨L13, n, none⟩ = some (.string (strOfNums (C n))) ∧ w'.cell? ⟨(ad.add (j * 4)).block, (ad.add (j * 4)).off + 3, none⟩ = some (.slice Ab0 x.b.length cb0) ∧ (convert 37 9 (.slice Ab0 x.b.length cb0)).run Try.prog w' = .ok (.string (strOfNums x.b)) w') (ds := [20]) #[false, false, false, false, false, false, false, false, false, false, false, false, false, false, false, false, false, false, false, false, false] (by kernel_rfl) rfl rfl ⟨kf, kC, kB, hcv⟩ (fun hHeld => ?_)
            refine pure_ (i := 0) (N := some 111) (v := ?_) (a' := ?_) #[true, false, false, false, false, false, false, false, false, false, false, false, false, false, false, false, false, false, false, false, false] rfl rfl (by kernel_rfl) (fun _ _ _ h => h) (Or.inl ⟨by rfl, ?_⟩) ?_ ?_
            rotate_left
            · intro w'
              go_simp
              with_reducible rfl
            rotate_left
            · simp only [Act.put, List.setIfInBounds_toArray, List.set_cons_zero, List.set_cons_succ, i64_w, i32_w]
              rfl
            refine pure_ (i := 1) (N := some 112) (v := ?_) (a' := ?_) #[true, true, false, false, false, false, false, false, false, false, false, false, false, false, false, false, false, false, false, false, false] rfl rfl (by kernel_rfl) (fun _ _ _ h => h) (Or.inl ⟨by rfl, ?_⟩) ?_ ?_
            rotate_left
            · intro w'
              go_simp
              with_reducible rfl
            rotate_left
            · simp only [Act.put, List.setIfInBounds_toArray, List.set_cons_zero, List.set_cons_succ, i64_w, i32_w]
              rfl
            refine pure_ (i := 2) (N := some 113) (v := ?_) (a' := ?_) #[true, true, true, false, false, false, false, false, false, false, false, false, false, false, false, false, false, false, false, false, false] rfl rfl (by kernel_rfl) (fun _ _ _ h => h) (Or.inl ⟨by rfl, ?_⟩) ?_ ?_
            rotate_left
            · intro w'
              go_simp
              with_reducible rfl
            rotate_left
            · simp only [Act.put, List.setIfInBounds_toArray, List.set_cons_zero, List.set_cons_succ, i64_w, i32_w]
              rfl
            refine pure_ (i := 3) (N := some 114) (v := ?_) (a' := ?_) #[true, true, true, true, false, false, false, false, false, false, false, false, false, false, false, false, false, false, false, false, false] rfl rfl (by kernel_rfl) (fun _ _ _ h => h) (Or.inl ⟨by rfl, ?_⟩) ?_ ?_
            rotate_left
            · intro w'
              go_simp
              with_reducible rfl
            rotate_left
            · simp only [Act.put, List.setIfInBounds_toArray, List.set_cons_zero, List.set_cons_succ, i64_w, i32_w]
              rfl
            refine pure_ (i := 5) (N := some 116) (v := ?_) (a' := ?_) #[true, true, true, true, false, true, false, false, false, false, false, false, false, false, false, false, false, false, false, false, false] rfl rfl (by kernel_rfl) (fun _ _ _ h => h) (Or.inl ⟨by rfl, ?_⟩) ?_ ?_
            rotate_left
            · intro w'
              go_simp
              with_reducible rfl
            rotate_left
            · simp only [Act.put, List.setIfInBounds_toArray, List.set_cons_zero, List.set_cons_succ, i64_w, i32_w]
              rfl
            refine pure_ (i := 6) (N := some 117) (v := ?_) (a' := ?_) #[true, true, true, true, false, true, true, false, false, false, false, false, false, false, false, false, false, false, false, false, false] rfl rfl (by kernel_rfl) (fun _ _ _ h => h) (Or.inl ⟨by rfl, ?_⟩) ?_ ?_
            rotate_left
            · intro w'
              go_simp
              with_reducible rfl
            rotate_left
            · simp only [Act.put, List.setIfInBounds_toArray, List.set_cons_zero, List.set_cons_succ, i64_w, i32_w]
              rfl
            refine pure_ (i := 7) (N := some 118) (v := ?_) (a' := ?_) #[true, true, true, true, false, true, true, true, false, false, false, false, false, false, false, false, false, false, false, false, false] rfl rfl (by kernel_rfl) (fun _ _ _ h => h) (Or.inl ⟨by rfl, ?_⟩) ?_ ?_
            rotate_left
            · intro w'
              go_simp
              with_reducible rfl
            rotate_left
            · simp only [Act.put, List.setIfInBounds_toArray, List.set_cons_zero, List.set_cons_succ, i64_w, i32_w]
              rfl
            refine pure_ (i := 8) (N := some 119) (v := ?_) (a' := ?_) #[true, true, true, true, false, true, true, true, true, false, false, false, false, false, false, false, false, false, false, false, false] rfl rfl (by kernel_rfl) (fun _ _ _ h => h) (Or.inl ⟨by rfl, ?_⟩) ?_ ?_
            rotate_left
            · intro w'
              go_simp
              with_reducible rfl
            rotate_left
            · simp only [Act.put, List.setIfInBounds_toArray, List.set_cons_zero, List.set_cons_succ, i64_w, i32_w]
              rfl
            refine pure_ (i := 12) (N := some 123) (v := ?_) (a' := ?_) #[true, true, true, true, false, true, true, true, true, false, false, false, true, false, false, false, false, false, false, false, false] rfl rfl (by kernel_rfl) (fun _ _ _ h => h) (Or.inl ⟨by rfl, ?_⟩) ?_ ?_
            rotate_left
            · intro w'
              go_simp
              with_reducible rfl
            rotate_left
            · simp only [Act.put, List.setIfInBounds_toArray, List.set_cons_zero, List.set_cons_succ, i64_w, i32_w]
              rfl
            refine pure_ (i := 13) (N := some 124) (v := ?_) (a' := ?_) #[true, true, true, true, false, true, true, true, true, false, false, false, true, true, false, false, false, false, false, false, false] rfl rfl (by kernel_rfl) (fun _ _ _ h => h) (Or.inl ⟨by rfl, ?_⟩) ?_ ?_
            rotate_left
            · intro w'
              go_simp
              with_reducible rfl
            rotate_left
            · simp only [Act.put, List.setIfInBounds_toArray, List.set_cons_zero, List.set_cons_succ, i64_w, i32_w]
              rfl
            refine pure_ (i := 14) (N := some 125) (v := ?_) (a' := ?_) #[true, true, true, true, false, true, true, true, true, false, false, false, true, true, true, false, false, false, false, false, false] rfl rfl (by kernel_rfl) (fun _ _ _ h => h) (Or.inl ⟨by rfl, ?_⟩) ?_ ?_
            rotate_left
            · intro w'
              go_simp
              with_reducible rfl
            rotate_left
            · simp only [Act.put, List.setIfInBounds_toArray, List.set_cons_zero, List.set_cons_succ, i64_w, i32_w]
              rfl
            refine pure_ (i := 15) (N := some 126) (v := ?_) (a' := ?_) #[true, true, true, true, false, true, true, true, true, false, false, false, true, true, true, true, false, false, false, false, false] rfl rfl (by kernel_rfl) (fun _ _ _ h => h) (Or.inl ⟨by rfl, ?_⟩) ?_ ?_
            rotate_left
            · intro w'
              go_simp
              with_reducible rfl
            rotate_left
            · simp only [Act.put, List.setIfInBounds_toArray, List.set_cons_zero, List.set_cons_succ, i64_w, i32_w]
              rfl
            refine take_ (i := 4) (N := some 115) (v := ?_) (a' := ?_) #[true, true, true, true, true, true, true, true, true, false, false, false, true, true, true, true, false, false, false, false, false] rfl rfl (by kernel_rfl) (fun _ _ _ h => h) (Or.inl ⟨by rfl, ?_⟩) hHeld ?_ ?_
            rotate_left
            · rintro w' ⟨s0, s1, s2, s3⟩
              go_simp
              with_reducible rfl
            rotate_left
            · simp only [Act.put, List.setIfInBounds_toArray, List.set_cons_zero, List.set_cons_succ, i64_w, i32_w]
              rfl
            refine take_ (i := 9) (N := some 120) (v := ?_) (a' := ?_) #[true, true, true, true, true, true, true, true, true, true, false, false, true, true, true, true, false, false, false, false, false] rfl rfl (by kernel_rfl) (fun _ _ _ h => h) (Or.inl ⟨by rfl, ?_⟩) hHeld ?_ ?_
            rotate_left
            · rintro w' ⟨s0, s1, s2, s3⟩
              go_simp
              with_reducible rfl
            rotate_left
            · simp only [Act.put, List.setIfInBounds_toArray, List.set_cons_zero, List.set_cons_succ, i64_w, i32_w]
              rfl
            refine pure_ (i := 10) (N := some 121) (v := ?_) (a' := ?_) #[true, true, true, true, true, true, true, true, true, true, true, false, true, true, true, true, false, false, false, false, false] rfl rfl (by kernel_rfl) (fun _ _ _ h => h) (Or.inl ⟨by rfl, ?_⟩) ?_ ?_
            rotate_left
            · intro w'
              go_simp
              with_reducible rfl
            rotate_left
            · simp only [Act.put, List.setIfInBounds_toArray, List.set_cons_zero, List.set_cons_succ, i64_w, i32_w]
              rfl
            refine take_ (i := 11) (N := some 122) (v := ?_) (a' := ?_) #[true, true, true, true, true, true, true, true, true, true, true, true, true, true, true, true, false, false, false, false, false] rfl rfl (by kernel_rfl) (fun _ _ _ h => h) (Or.inl ⟨by rfl, ?_⟩) hHeld ?_ ?_
            rotate_left
            · rintro w' ⟨s0, s1, s2, s3⟩
              go_simp
              with_reducible rfl
            rotate_left
            · simp only [Act.put, List.setIfInBounds_toArray, List.set_cons_zero, List.set_cons_succ, i64_w, i32_w]
              rfl
            refine take_ (i := 16) (N := some 127) (v := ?_) (a' := ?_) #[true, true, true, true, true, true, true, true, true, true, true, true, true, true, true, true, true, false, false, false, false] rfl rfl (by kernel_rfl) (fun _ _ _ h => h) (Or.inl ⟨by rfl, ?_⟩) hHeld ?_ ?_
            rotate_left
            · rintro w' ⟨s0, s1, s2, s3⟩
              go_simp
              with_reducible rfl
            rotate_left
            · simp only [Act.put, List.setIfInBounds_toArray, List.set_cons_zero, List.set_cons_succ, i64_w, i32_w]
              rfl
            refine take_ (i := 17) (N := some 128) (v := ?_) (a' := ?_) #[true, true, true, true, true, true, true, true, true, true, true, true, true, true, true, true, true, true, false, false, false] rfl rfl (by kernel_rfl) (fun _ _ _ h => h) (Or.inl ⟨by rfl, ?_⟩) hHeld ?_ ?_
            rotate_left
            · rintro w' ⟨s0, s1, s2, s3⟩
              go_simp
              with_reducible rfl
            rotate_left
            · simp only [Act.put, List.setIfInBounds_toArray, List.set_cons_zero, List.set_cons_succ, i64_w, i32_w]
              rfl
            refine pure_ (i := 18) (N := some 129) (v := ?_) (a' := ?_) #[true, true, true, true, true, true, true, true, true, true, true, true, true, true, true, true, true, true, true, false, false] rfl rfl (by kernel_rfl) (fun _ _ _ h => h) (Or.inl ⟨by rfl, ?_⟩) ?_ ?_
            rotate_left
            · intro w'
              go_simp
              with_reducible rfl
            rotate_left
            · simp only [Act.put, List.setIfInBounds_toArray, List.set_cons_zero, List.set_cons_succ, i64_w, i32_w]
              rfl
            refine pure_ (i := 19) (N := some 130) (v := ?_) (a' := ?_) #[true, true, true, true, true, true, true, true, true, true, true, true, true, true, true, true, true, true, true, true, false] rfl rfl (by kernel_rfl) (fun _ _ _ h => h) (Or.inl ⟨by rfl, ?_⟩) ?_ ?_
            rotate_left
            · intro w'
              go_simp
              with_reducible rfl
            rotate_left
            · simp only [Act.put, List.setIfInBounds_toArray, List.set_cons_zero, List.set_cons_succ, i64_w, i32_w]
              rfl
            refine last_ (i := 20) (N := none) #[true, true, true, true, true, true, true, true, true, true, true, true, true, true, true, true, true, true, true, true, true] rfl rfl (by kernel_rfl) (by decide) (fun K hK => ?_)
            refine skip_ (w1 := ?_) (by rfl) rfl ?_ ?_
            rotate_left
            · go_simp
              rfl
            refine hK.out _ _ ?_
            clear hK K
            refine done_ (by kernel_rfl) ?_
            clear hsz
            go_wp2_with fail
            go_roundg k1_
            case measure => omega
            case rel =>
              have hs := blk_set H13'.out n (.string (strOfNums (C n ++ x.b)))
              rw [strs_put C n HN4.out] at hs
              refine ⟨j + 1, (D.app (n : Int) x.b).2, upd C n (C n ++ x.b), L', by first | rfl | (congr 1; have := HCJ.out; unfold wrap64; omega), ⟨by have := HJ.out; omega⟩, ⟨?_⟩, ⟨?_⟩, HSN, ⟨?_⟩, ⟨?_⟩⟩
              · have hd : DiskAt S1 w3 g (D.app (n : Int) x.b).2 := HD3.out.mono (fun k hk => by
                  have h1 := blk_lt H12.out
                  have h2 := blk_lt H13.out
                  have h3 := HBJ.out.size
                  rw [HS1.out] at hk ⊢
                  rcases hk with h | h
                  · exact h
                  · have h4 : wr.heap.size ≤ k := h
                    exact ⟨by omega, by omega, by omega⟩)
                exact hd.move (fun k hk _ => Below.heap_setCell _ ⟨L13, n, none⟩ _ k (fun e => by rw [HS1.out] at hk; exact hk.2.2 e))
              · exact pw_below_drewN (HB3.out.setCell (p := ⟨L13, n, none⟩) HLL.out.2.2 _) 1
              · exact (Below.heap_setCell _ ⟨L13, n, none⟩ _ L12 HLL.out.1).trans H12'.out
              · rw [strOfNums_append] at hs
                exact hs
          · have HSN := Aside0.mk HSJ.out.skip
            by_cases cf0 : 0 ≤ x.file
            · have d0 : decide (0 ≤ x.file) = true := decide_eq_true cf0
              have d1 : decide (x.file < 4) = false := decide_eq_false (by omega)
              have d2 : (0 ≤ x.file) = True := eq_true cf0
              have d3 : (x.file < 4) = False := eq_false (by omega)
              clear cf cf0 k3 hxb
              go_wp2_with fail
              go_roundg k1_
              case measure => omega
              case rel => exact ⟨j + 1, D, C, L, by first | rfl | (congr 1; have := HCJ.out; unfold wrap64; omega), ⟨by have := HJ.out; omega⟩, HDj, HBJ, HSN, H12, H13⟩
            · have d0 : decide (0 ≤ x.file) = false := decide_eq_false cf0
              have d2 : (0 ≤ x.file) = False := eq_false cf0
              clear cf cf0 k3 hxb
              go_wp2_with fail
              go_roundg k1_
              case measure => omega
              case rel => exact ⟨j + 1, D, C, L, by first | rfl | (congr 1; have := HCJ.out; unfold wrap64; omega), ⟨by have := HJ.out; omega⟩, HDj, HBJ, HSN, H12, H13⟩
        · have c0' : decide ((j : Int) < (N2 : Int)) = false := decide_eq_false (by omega)
          have c0'' : decide (j < N2) = false := decide_eq_false cj
          have hj : j ≤ 60 := by have h1 := HBM.out.1; have h2 := HN2.out; have h3 := HJ.out; omega
          have HFIT := Aside0.mk (HSJ.out.fits HFL.out hj)
          obtain ⟨q, hq1, hq2, hq3, hq4⟩ := HSJ.out.lasts keep
          obtain ⟨Dc, hDc⟩ : ∃ Dc, Dc = D.crash keep := ⟨_, rfl⟩
          have HCR := Aside0.mk (by
            have h := disk_Crash.calls S1 g D keep wr HDj.out HFIT.out
            rw [← hDc] at h
            exact h)
          rw [← hDc] at hq1 hq3 hq4
          have HQ := Aside0.mk (And.intro hq1 (And.intro hq2 (And.intro hq3 hq4)))
          have HCL := Aside0.mk (show ∀ i, (C i).length ≤ 18000 from fun i => by have h1 := HSJ.out.clen i; omega)
          have HDL := Aside0.mk (show ∀ i, i < 4 → (Dc.files i).length ≤ 36000 from fun i hi => by
            rw [(HQ.out.1 i).1, List.length_append, List.length_take]
            have h1 := HFL.out i hi
            have h2 := HCL.out i
            omega)
          obtain ⟨G, hG⟩ : ∃ G, G = Dc.files := ⟨_, rfl⟩
          have HGF := Aside0.mk hG
          clear hq1 hq2 hq3 hq4 hDc hG cj hj
          go_upto_region 27 with (first | (go_at_call 22; (with_reducible refine (HCR.out).mono ?_); rintro e w3 ⟨rfl, hd3, hf3⟩; have HD3 := Aside0.mk hd3; have HF3 := Aside0.mk hf3; clear hd3 hf3) | (go_at_call 26; (with_reducible refine (disk_All.calls _ g Dc _ HD3.out HQ.out.2.2.2 (fun j hj => by have := HDL.out j hj; omega)).mono ?_); rintro e w4 ⟨rfl, hb4⟩; rw [← HGF.out, show strArr G 4 = #[.string (strOfNums (G 0)), .string (strOfNums (G 1)), .string (strOfNums (G 2)), .string (strOfNums (G 3))] from rfl]; have HB34 := Aside0.mk hb4; clear hb4))
          obtain ⟨L15, hL15⟩ : ∃ L, L = w4.heap.size := ⟨_, rfl⟩
          rw [← hL15]
          obtain ⟨w5, hw5⟩ : ∃ W, W = w4.alloc (.cells #[.string (strOfNums (G 0)), .string (strOfNums (G 1)), .string (strOfNums (G 2)), .string (strOfNums (G 3))] 51) := ⟨_, rfl⟩
          rw [← hw5]
          have b45 : Below w4.heap.size w4 w5 := by rw [hw5]; exact below_alloc (Below.refl _ _) _
          have H15 : Aside0 (w5.heap[L15]? = some (.cells (strs G) 51 (0, 0))) := ⟨by rw [hw5, hL15]; exact blk_new w4 _⟩
          have H12'' : Aside0 (w5.heap[L12]? = some (.cells (strs F) 51 (0, 0))) := ⟨blk_below (blk_below ((HF3.out.block L12 (blk_lt H12.out) (fun h => by rw [HS1.out] at h; exact h.2.1 rfl)).trans H12.out) HB34.out) b45⟩
          have H13'' : Aside0 (w5.heap[L13]? = some (.cells (strs C) 51 (0, 0))) := ⟨blk_below (blk_below ((HF3.out.block L13 (blk_lt H13.out) (fun h => by rw [HS1.out] at h; exact h.2.2 rfl)).trans H13.out) HB34.out) b45⟩
          have HD5' := Aside0.mk ((HD3.out.below HB34.out).below b45)
          have HB5' : Aside0 (Below w.heap.size w w5) := ⟨below_then (below_then (HBJ.out.trans (HF3.out.below (B := w.heap.size) (fun k hk => by rw [HS1.out] at hk; exact hk.1) HBJ.out.size)) (HBJ.out.trans (HF3.out.below (B := w.heap.size) (fun k hk => by rw [HS1.out] at hk; exact hk.1) HBJ.out.size)).size HB34.out) (below_then (HBJ.out.trans (HF3.out.below (B := w.heap.size) (fun k hk => by rw [HS1.out] at hk; exact hk.1) HBJ.out.size)) (HBJ.out.trans (HF3.out.below (B := w.heap.size) (fun k hk => by rw [HS1.out] at hk; exact hk.1) HBJ.out.size)).size HB34.out).size b45⟩
          clear hw5 hL15 b45
          go_wp2_with fail
          go_loopg [16, 17] 4 (fun kq v16 v17 w' => ∃ i : Nat, v16 = .int .i64 (sumQ q i : Int) ∧ v17 = .int .i64 (i : Int) ∧ Aside0 (i + kq = 4) ∧ Aside0 (∃ m, w' = w5.drewN m))
          case atStart => exact ⟨0, rfl, rfl, ⟨by omega⟩, ⟨0, rfl⟩⟩
          case round =>
            obtain ⟨i, rfl, rfl, HI3, HW3⟩ := hrel
            obtain ⟨md, hmd⟩ := HW3.out
            have HMD := Aside0.mk hmd
            clear hmd
            by_cases ci : i < 4
            · have c1 : decide ((i : Int) < 4) = true := decide_eq_true (by omega)
              have c2 : decide (i < 4) = true := decide_eq_true ci
              obtain ⟨k1_, rfl⟩ : ∃ k1, gk = k1 + 1 := ⟨gk - 1, by have := HI3.out; omega⟩
              have r0 : (0 ≤ (i : Int)) = True := eq_true (by omega)
              have r1 : ((i : Int) < 4) = True := eq_true (by omega)
              have r2 : (i < 4) = True := eq_true ci
              have kN : wr.cell? ⟨L15, i, none⟩ = some (.string (strOfNums (G i))) := by rw [HMD.out]; exact (blk_cell H15.out i).trans (strs_get G i ci)
              have kW : wr.cell? ⟨L12, i, none⟩ = some (.string (strOfNums (F i))) := by rw [HMD.out]; exact (blk_cell H12''.out i).trans (strs_get F i ci)
              have kC : wr.cell? ⟨L13, i, none⟩ = some (.string (strOfNums (C i))) := by rw [HMD.out]; exact (blk_cell H13''.out i).trans (strs_get C i ci)
              obtain ⟨g1, g2⟩ := HQ.out.1 i
              rw [← HGF.out] at g1
              obtain ⟨qi, hqi⟩ : ∃ qi, qi = q i := ⟨_, rfl⟩
              rw [← hqi] at g1 g2
              have hfi := HFL.out i ci
              have hci := HCL.out i
              obtain ⟨sN, hsN⟩ : ∃ s, s = strOfNums (G i) := ⟨_, rfl⟩
              obtain ⟨sW, hsW⟩ : ∃ s, s = strOfNums (F i) := ⟨_, rfl⟩
              obtain ⟨sC, hsC⟩ : ∃ s, s = strOfNums (C i) := ⟨_, rfl⟩
              obtain ⟨sT, hsT⟩ : ∃ s, s = strOfNums ((C i).take qi) := ⟨_, rfl⟩
              obtain ⟨fl, hfl⟩ : ∃ n, n = (F i).length := ⟨_, rfl⟩
              obtain ⟨cl, hcl⟩ : ∃ n, n = (C i).length := ⟨_, rfl⟩
              obtain ⟨nl, hnl⟩ : ∃ n, n = fl + qi := ⟨_, rfl⟩
              have z1 : sN.size = nl := by rw [hsN, strOfNums_size, g1, List.length_append, List.length_take]; omega
              have z2 : sW.size = fl := by rw [hsW, strOfNums_size, hfl]
              have z3 : sC.size = cl := by rw [hsC, strOfNums_size, hcl]
              have z4 : sT.size = qi := by rw [hsT, strOfNums_size, List.length_take]; omega
              have hcat : sW ++ sT = sN := by rw [hsN, hsW, hsT, g1, strOfNums_append]
              have hmin : min (qi : Int) (cl : Int) = (qi : Int) := by omega
              have hmin2 : min qi cl = qi := by omega
              have hex : sC.extract 0 qi = sT := by rw [hsC, hsT]; exact str_cut (C i) qi
              have hle : (qi ≤ cl) = True := eq_true (by omega)
              have hle2 : ((qi : Int) ≤ (cl : Int)) = True := eq_true (by omega)
              have hle3 : (0 ≤ (qi : Int)) = True := eq_true (by omega)
              have n0 : decide ((qi : Int) < 0) = false := decide_eq_false (by omega)
              have hsz : (9223372036854775807 < fl + qi) = False := eq_false (by omega)
              have HWT := Aside0.mk (show wrap64 ((sumQ q i : Int) + (qi : Int)) = (sumQ q (i + 1) : Int) by
                have h1 := sumQ_le q i 18000 (fun j hj => by have h5 := HQ.out.1 j; have h6 := HCL.out j; omega)
                have h3 : 18000 * i ≤ 18000 * 4 := Nat.mul_le_mul_left _ (by omega)
                rw [hqi]
                exact sum_wrap (sumQ q i) (q i) (by omega))
              have hw : wrap64 ((nl : Int) - (fl : Int)) = (qi : Int) := by rw [show ((nl : Int) - (fl : Int)) = (qi : Int) by omega]; exact wrap_small (by omega)
              rw [← hsN] at kN
              rw [← hsW] at kW
              rw [← hsC] at kC
              have HCI := Aside0.mk ci
              clear hnl hsN hsW hsC hsT hfl hcl g1 g2 hqi hfi hci ci
              go_wp2_with fail
              refine start_ (n := 10) (S := fun w' => w'.cell? ⟨L15, i, none⟩ = some (.string sN) ∧ w'.cell? ⟨L12, i, none⟩ = some (.string sW)) (ds := []) #[false, false, false, false, false, false, false, false, false, false] (by kernel_rfl) rfl rfl ⟨kN, kW⟩ (fun hHeld => ?_)
              refine pure_ (i := 0) (N := some 140) (v := ?_) (a' := ?_) #[true, false, false, false, false, false, false, false, false, false] rfl rfl (by kernel_rfl) (fun _ _ _ h => h) (Or.inl ⟨by rfl, ?_⟩) ?_ ?_
              rotate_left
              · intro w'
                go_simp
                with_reducible rfl
              rotate_left
              · simp only [Act.put, List.setIfInBounds_toArray, List.set_cons_zero, List.set_cons_succ, i64_w, i32_w]
                rfl
              refine pure_ (i := 1) (N := some 141) (v := ?_) (a' := ?_) #[true, true, false, false, false, false, false, false, false, false] rfl rfl (by kernel_rfl) (fun _ _ _ h => h) (Or.inl ⟨by rfl, ?_⟩) ?_ ?_
              rotate_left
              · intro w'
                go_simp
                with_reducible rfl
              rotate_left
              · simp only [Act.put, List.setIfInBounds_toArray, List.set_cons_zero, List.set_cons_succ, i64_w, i32_w]
                rfl
              refine pure_ (i := 4) (N := some 144) (v := ?_) (a' := ?_) #[true, true, false, false, true, false, false, false, false, false] rfl rfl (by kernel_rfl) (fun _ _ _ h => h) (Or.inl ⟨by rfl, ?_⟩) ?_ ?_
              rotate_left
              · intro w'
                go_simp
                with_reducible rfl
              rotate_left
              · simp only [Act.put, List.setIfInBounds_toArray, List.set_cons_zero, List.set_cons_succ, i64_w, i32_w]
                rfl
              refine pure_ (i := 5) (N := some 145) (v := ?_) (a' := ?_) #[true, true, false, false, true, true, false, false, false, false] rfl rfl (by kernel_rfl) (fun _ _ _ h => h) (Or.inl ⟨by rfl, ?_⟩) ?_ ?_
              rotate_left
              · intro w'
                go_simp
                with_reducible rfl
              rotate_left
              · simp only [Act.put, List.setIfInBounds_toArray, List.set_cons_zero, List.set_cons_succ, i64_w, i32_w]
                rfl
              refine take_ (i := 2) (N := some 142) (v := ?_) (a' := ?_) #[true, true, true, false, true, true, false, false, false, false] rfl rfl (by kernel_rfl) (fun _ _ _ h => h) (Or.inl ⟨by rfl, ?_⟩) hHeld ?_ ?_
              rotate_left
              · rintro w' ⟨s0, s1⟩
                go_simp
                with_reducible rfl
              rotate_left
              · simp only [Act.put, List.setIfInBounds_toArray, List.set_cons_zero, List.set_cons_succ, i64_w, i32_w]
                rfl
              refine pure_ (i := 3) (N := some 143) (v := ?_) (a' := ?_) #[true, true, true, true, true, true, false, false, false, false] rfl rfl (by kernel_rfl) (fun _ _ _ h => h) (Or.inl ⟨by rfl, ?_⟩) ?_ ?_
              rotate_left
              · intro w'
                go_simp
                with_reducible rfl
              rotate_left
              · simp only [Act.put, List.setIfInBounds_toArray, List.set_cons_zero, List.set_cons_succ, i64_w, i32_w]
                rfl
              refine take_ (i := 6) (N := some 146) (v := ?_) (a' := ?_) #[true, true, true, true, true, true, true, false, false, false] rfl rfl (by kernel_rfl) (fun _ _ _ h => h) (Or.inl ⟨by rfl, ?_⟩) hHeld ?_ ?_
              rotate_left
              · rintro w' ⟨s0, s1⟩
                go_simp
                with_reducible rfl
              rotate_left
              · simp only [Act.put, List.setIfInBounds_toArray, List.set_cons_zero, List.set_cons_succ, i64_w, i32_w]
                rfl
              refine pure_ (i := 7) (N := some 147) (v := ?_) (a' := ?_) #[true, true, true, true, true, true, true, true, false, false] rfl rfl (by kernel_rfl) (fun _ _ _ h => h) (Or.inl ⟨by rfl, ?_⟩) ?_ ?_
              rotate_left
              · intro w'
                go_simp
                with_reducible rfl
              rotate_left
              · simp only [Act.put, List.setIfInBounds_toArray, List.set_cons_zero, List.set_cons_succ, i64_w, i32_w]
                rfl
              refine pure_ (i := 8) (N := some 148) (v := ?_) (a' := ?_) #[true, true, true, true, true, true, true, true, true, false] rfl rfl (by kernel_rfl) (fun _ _ _ h => h) (Or.inl ⟨by rfl, ?_⟩) ?_ ?_
              rotate_left
              · intro w'
                go_simp
                with_reducible rfl
              rotate_left
              · simp only [Act.put, List.setIfInBounds_toArray, List.set_cons_zero, List.set_cons_succ, i64_w, i32_w]
                rfl
              refine pure_ (i := 9) (N := some 18) (v := ?_) (a' := ?_) #[true, true, true, true, true, true, true, true, true, true] rfl rfl (by kernel_rfl) (fun _ _ _ h => h) (Or.inl ⟨by rfl, ?_⟩) ?_ ?_
              rotate_left
              · intro w'
                go_simp
                with_reducible rfl
              rotate_left
              · simp only [Act.put, List.setIfInBounds_toArray, List.set_cons_zero, List.set_cons_succ, i64_w, i32_w]
                rfl
              refine done_ (by kernel_rfl) ?_
              go_wp2_with fail
              refine start_ (n := 22) (S := fun w' => w'.cell? ⟨L15, i, none⟩ = some (.string sN) ∧ w'.cell? ⟨L12, i, none⟩ = some (.string sW) ∧ w'.cell? ⟨L13, i, none⟩ = some (.string sC)) (ds := []) #[false, false, false, false, false, false, false, false, false, false, false, false, false, false, false, false, false, false, false, false, false, false] (by kernel_rfl) rfl rfl ⟨kN, kW, kC⟩ (fun hHeld => ?_)
              refine pure_ (i := 0) (N := some 149) (v := ?_) (a' := ?_) #[true, false, false, false, false, false, false, false, false, false, false, false, false, false, false, false, false, false, false, false, false, false] rfl rfl (by kernel_rfl) (fun _ _ _ h => h) (Or.inl ⟨by rfl, ?_⟩) ?_ ?_
              rotate_left
              · intro w'
                go_simp
                with_reducible rfl
              rotate_left
              · simp only [Act.put, List.setIfInBounds_toArray, List.set_cons_zero, List.set_cons_succ, i64_w, i32_w]
                rfl
              refine pure_ (i := 1) (N := some 150) (v := ?_) (a' := ?_) #[true, true, false, false, false, false, false, false, false, false, false, false, false, false, false, false, false, false, false, false, false, false] rfl rfl (by kernel_rfl) (fun _ _ _ h => h) (Or.inl ⟨by rfl, ?_⟩) ?_ ?_
              rotate_left
              · intro w'
                go_simp
                with_reducible rfl
              rotate_left
              · simp only [Act.put, List.setIfInBounds_toArray, List.set_cons_zero, List.set_cons_succ, i64_w, i32_w]
                rfl
              refine pure_ (i := 2) (N := some 151) (v := ?_) (a' := ?_) #[true, true, true, false, false, false, false, false, false, false, false, false, false, false, false, false, false, false, false, false, false, false] rfl rfl (by kernel_rfl) (fun _ _ _ h => h) (Or.inl ⟨by rfl, ?_⟩) ?_ ?_
              rotate_left
              · intro w'
                go_simp
                with_reducible rfl
              rotate_left
              · simp only [Act.put, List.setIfInBounds_toArray, List.set_cons_zero, List.set_cons_succ, i64_w, i32_w]
                rfl
              refine pure_ (i := 3) (N := some 152) (v := ?_) (a' := ?_) #[true, true, true, true, false, false, false, false, false, false, false, false, false, false, false, false, false, false, false, false, false, false] rfl rfl (by kernel_rfl) (fun _ _ _ h => h) (Or.inl ⟨by rfl, ?_⟩) ?_ ?_
              rotate_left
              · intro w'
                go_simp
                with_reducible rfl
              rotate_left
              · simp only [Act.put, List.setIfInBounds_toArray, List.set_cons_zero, List.set_cons_succ, i64_w, i32_w]
                rfl
              refine pure_ (i := 4) (N := some 153) (v := ?_) (a' := ?_) #[true, true, true, true, true, false, false, false, false, false, false, false, false, false, false, false, false, false, false, false, false, false] rfl rfl (by kernel_rfl) (fun _ _ _ h => h) (Or.inl ⟨by rfl, ?_⟩) ?_ ?_
              rotate_left
              · intro w'
                go_simp
                with_reducible rfl
              rotate_left
              · simp only [Act.put, List.setIfInBounds_toArray, List.set_cons_zero, List.set_cons_succ, i64_w, i32_w]
                rfl
              refine pure_ (i := 6) (N := some 155) (v := ?_) (a' := ?_) #[true, true, true, true, true, false, true, false, false, false, false, false, false, false, false, false, false, false, false, false, false, false] rfl rfl (by kernel_rfl) (fun _ _ _ h => h) (Or.inl ⟨by rfl, ?_⟩) ?_ ?_
              rotate_left
              · intro w'
                go_simp
                with_reducible rfl
              rotate_left
              · simp only [Act.put, List.setIfInBounds_toArray, List.set_cons_zero, List.set_cons_succ, i64_w, i32_w]
                rfl
              refine pure_ (i := 7) (N := some 156) (v := ?_) (a' := ?_) #[true, true, true, true, true, false, true, true, false, false, false, false, false, false, false, false, false, false, false, false, false, false] rfl rfl (by kernel_rfl) (fun _ _ _ h => h) (Or.inl ⟨by rfl, ?_⟩) ?_ ?_
              rotate_left
              · intro w'
                go_simp
                with_reducible rfl
              rotate_left
              · simp only [Act.put, List.setIfInBounds_toArray, List.set_cons_zero, List.set_cons_succ, i64_w, i32_w]
                rfl
              refine pure_ (i := 9) (N := some 158) (v := ?_) (a' := ?_) #[true, true, true, true, true, false, true, true, false, true, false, false, false, false, false, false, false, false, false, false, false, false] rfl rfl (by kernel_rfl) (fun _ _ _ h => h) (Or.inl ⟨by rfl, ?_⟩) ?_ ?_
              rotate_left
              · intro w'
                go_simp
                with_reducible rfl
              rotate_left
              · simp only [Act.put, List.setIfInBounds_toArray, List.set_cons_zero, List.set_cons_succ, i64_w, i32_w]
                rfl
              refine pure_ (i := 10) (N := some 159) (v := ?_) (a' := ?_) #[true, true, true, true, true, false, true, true, false, true, true, false, false, false, false, false, false, false, false, false, false, false] rfl rfl (by kernel_rfl) (fun _ _ _ h => h) (Or.inl ⟨by rfl, ?_⟩) ?_ ?_
              rotate_left
              · intro w'
                go_simp
                with_reducible rfl
              rotate_left
              · simp only [Act.put, List.setIfInBounds_toArray, List.set_cons_zero, List.set_cons_succ, i64_w, i32_w]
                rfl
              refine pure_ (i := 12) (N := some 161) (v := ?_) (a' := ?_) #[true, true, true, true, true, false, true, true, false, true, true, false, true, false, false, false, false, false, false, false, false, false] rfl rfl (by kernel_rfl) (fun _ _ _ h => h) (Or.inl ⟨by rfl, ?_⟩) ?_ ?_
              rotate_left
              · intro w'
                go_simp
                with_reducible rfl
              rotate_left
              · simp only [Act.put, List.setIfInBounds_toArray, List.set_cons_zero, List.set_cons_succ, i64_w, i32_w]
                rfl
              refine pure_ (i := 13) (N := some 162) (v := ?_) (a' := ?_) #[true, true, true, true, true, false, true, true, false, true, true, false, true, true, false, false, false, false, false, false, false, false] rfl rfl (by kernel_rfl) (fun _ _ _ h => h) (Or.inl ⟨by rfl, ?_⟩) ?_ ?_
              rotate_left
              · intro w'
                go_simp
                with_reducible rfl
              rotate_left
              · simp only [Act.put, List.setIfInBounds_toArray, List.set_cons_zero, List.set_cons_succ, i64_w, i32_w]
                rfl
              refine pure_ (i := 14) (N := some 163) (v := ?_) (a' := ?_) #[true, true, true, true, true, false, true, true, false, true, true, false, true, true, true, false, false, false, false, false, false, false] rfl rfl (by kernel_rfl) (fun _ _ _ h => h) (Or.inl ⟨by rfl, ?_⟩) ?_ ?_
              rotate_left
              · intro w'
                go_simp
                with_reducible rfl
              rotate_left
              · simp only [Act.put, List.setIfInBounds_toArray, List.set_cons_zero, List.set_cons_succ, i64_w, i32_w]
                rfl
              refine take_ (i := 5) (N := some 154) (v := ?_) (a' := ?_) #[true, true, true, true, true, true, true, true, false, true, true, false, true, true, true, false, false, false, false, false, false, false] rfl rfl (by kernel_rfl) (fun _ _ _ h => h) (Or.inl ⟨by rfl, ?_⟩) hHeld ?_ ?_
              rotate_left
              · rintro w' ⟨s0, s1, s2⟩
                go_simp
                with_reducible rfl
              rotate_left
              · simp only [Act.put, List.setIfInBounds_toArray, List.set_cons_zero, List.set_cons_succ, i64_w, i32_w]
                rfl
              refine take_ (i := 8) (N := some 157) (v := ?_) (a' := ?_) #[true, true, true, true, true, true, true, true, true, true, true, false, true, true, true, false, false, false, false, false, false, false] rfl rfl (by kernel_rfl) (fun _ _ _ h => h) (Or.inl ⟨by rfl, ?_⟩) hHeld ?_ ?_
              rotate_left
              · rintro w' ⟨s0, s1, s2⟩
                go_simp
                with_reducible rfl
              rotate_left
              · simp only [Act.put, List.setIfInBounds_toArray, List.set_cons_zero, List.set_cons_succ, i64_w, i32_w]
                rfl
              refine take_ (i := 11) (N := some 160) (v := ?_) (a' := ?_) #[true, true, true, true, true, true, true, true, true, true, true, true, true, true, true, false, false, false, false, false, false, false] rfl rfl (by kernel_rfl) (fun _ _ _ h => h) (Or.inl ⟨by rfl, ?_⟩) hHeld ?_ ?_
              rotate_left
              · rintro w' ⟨s0, s1, s2⟩
                go_simp
                with_reducible rfl
              rotate_left
              · simp only [Act.put, List.setIfInBounds_toArray, List.set_cons_zero, List.set_cons_succ, i64_w, i32_w]
                rfl
              refine take_ (i := 15) (N := some 164) (v := ?_) (a' := ?_) #[true, true, true, true, true, true, true, true, true, true, true, true, true, true, true, true, false, false, false, false, false, false] rfl rfl (by kernel_rfl) (fun _ _ _ h => h) (Or.inl ⟨by rfl, ?_⟩) hHeld ?_ ?_
              rotate_left
              · rintro w' ⟨s0, s1, s2⟩
                go_simp
                with_reducible rfl
              rotate_left
              · simp only [Act.put, List.setIfInBounds_toArray, List.set_cons_zero, List.set_cons_succ, i64_w, i32_w]
                rfl
              refine pure_ (i := 16) (N := some 165) (v := ?_) (a' := ?_) #[true, true, true, true, true, true, true, true, true, true, true, true, true, true, true, true, true, false, false, false, false, false] rfl rfl (by kernel_rfl) (fun _ _ _ h => h) (Or.inl ⟨by rfl, ?_⟩) ?_ ?_
              rotate_left
              · intro w'
                go_simp
                with_reducible rfl
              rotate_left
              · simp only [Act.put, List.setIfInBounds_toArray, List.set_cons_zero, List.set_cons_succ, i64_w, i32_w]
                rfl
              refine pure_ (i := 17) (N := some 166) (v := ?_) (a' := ?_) #[true, true, true, true, true, true, true, true, true, true, true, true, true, true, true, true, true, true, false, false, false, false] rfl rfl (by kernel_rfl) (fun _ _ _ h => h) (Or.inl ⟨by rfl, ?_⟩) ?_ ?_
              rotate_left
              · intro w'
                go_simp
                with_reducible rfl
              rotate_left
              · simp only [Act.put, List.setIfInBounds_toArray, List.set_cons_zero, List.set_cons_succ, i64_w, i32_w]
                rfl
              refine pure_ (i := 18) (N := some 167) (v := ?_) (a' := ?_) #[true, true, true, true, true, true, true, true, true, true, true, true, true, true, true, true, true, true, true, false, false, false] rfl rfl (by kernel_rfl) (fun _ _ _ h => h) (Or.inl ⟨by rfl, ?_⟩) ?_ ?_
              rotate_left
              · intro w'
                go_simp
                with_reducible rfl
              rotate_left
              · simp only [Act.put, List.setIfInBounds_toArray, List.set_cons_zero, List.set_cons_succ, i64_w, i32_w]
                rfl
              refine pure_ (i := 19) (N := some 168) (v := ?_) (a' := ?_) #[true, true, true, true, true, true, true, true, true, true, true, true, true, true, true, true, true, true, true, true, false, false] rfl rfl (by kernel_rfl) (fun _ _ _ h => h) (Or.inl ⟨by rfl, ?_⟩) ?_ ?_
              rotate_left
              · intro w'
                go_simp
                with_reducible rfl
              rotate_left
              · simp only [Act.put, List.setIfInBounds_toArray, List.set_cons_zero, List.set_cons_succ, i64_w, i32_w]
                rfl
              refine pure_ (i := 20) (N := some 169) (v := ?_) (a' := ?_) #[true, true, true, true, true, true, true, true, true, true, true, true, true, true, true, true, true, true, true, true, true, false] rfl rfl (by kernel_rfl) (fun _ _ _ h => h) (Or.inl ⟨by rfl, ?_⟩) ?_ ?_
              rotate_left
              · intro w'
                go_simp
                with_reducible rfl
              rotate_left
              · simp only [Act.put, List.setIfInBounds_toArray, List.set_cons_zero, List.set_cons_succ, i64_w, i32_w]
                rfl
              refine pure_ (i := 21) (N := some 170) (v := ?_) (a' := ?_) #[true, true, true, true, true, true, true, true, true, true, true, true, true, true, true, true, true, true, true, true, true, true] rfl rfl (by kernel_rfl) (fun _ _ _ h => h) (Or.inl ⟨by rfl, ?_⟩) ?_ ?_
              rotate_left
              · intro w'
                go_simp
                with_reducible rfl
              rotate_left
              · simp only [Act.put, List.setIfInBounds_toArray, List.set_cons_zero, List.set_cons_succ, i64_w, i32_w]
                rfl
              refine done_ (by kernel_rfl) ?_
              go_wp2_with fail
              go_roundg k1_
              case measure => omega
              case rel => exact ⟨i + 1, by rw [HWT.out], by first | rfl | (congr 1; have := HCI.out; unfold wrap64; omega), ⟨by have := HI3.out; omega⟩, ⟨md + 2, by rw [HMD.out]; rfl⟩⟩
            · have c1 : decide ((i : Int) < 4) = false := decide_eq_false (by omega)
              have c2 : decide (i < 4) = false := decide_eq_false ci
              have hi : i = 4 := by have := HI3.out; omega
              subst hi
              obtain ⟨T, hT⟩ : ∃ T, T = sumQ q 4 := ⟨_, rfl⟩
              obtain ⟨kk, hkk⟩ : ∃ kk, kk = keep.toNat := ⟨_, rfl⟩
              have hle : T ≤ kk := by
                have h1 := HQ.out.2.1
                have h2 : sumQ q 4 = 0 + q 0 + q 1 + q 2 + q 3 := rfl
                omega
              have hmax : max keep 0 = (kk : Int) := by omega
              have d1 : decide ((T : Int) ≤ (kk : Int)) = true := decide_eq_true (by omega)
              have d2 : decide (T ≤ kk) = true := decide_eq_true hle
              have HDW2 := Aside0.mk (HMD.out.symm ▸ HD5'.out.drewN md)
              have HBF := Aside0.mk (show Below w.heap.size w wr by rw [HMD.out]; exact pw_below_drewN HB5'.out md)
              rw [← hT]
              clear hT hkk hle ci
              go_wp2_with (first | (go_at_call 28; (with_reducible refine (disk_Waits.calls _ g Dc _ HDW2.out).mono ?_); rintro e wx ⟨rfl, hwx⟩; have hwy := hwx.symm; clear hwx; subst hwy; rw [HQ.out.2.2.1, List.length_nil]) | (go_at_call 29; (with_reducible refine (disk_Dark.calls _ g Dc _ HDW2.out).mono ?_); rintro e wx ⟨rfl, hwx⟩; have hwy := hwx.symm; clear hwx; subst hwy; rw [HQ.out.2.2.2]))
              go_ret
              exact ⟨rfl, HBF.out⟩
end Go.Proofs.Ytfkkekdpfkglbaa.Q
