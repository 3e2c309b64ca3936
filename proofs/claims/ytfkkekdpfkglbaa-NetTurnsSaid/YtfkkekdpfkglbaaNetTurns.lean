/- The law's walk, the plane turned: any places and any line. Conditions: as typed. -/
import Derived.Test.YtfkkekdpfkglbaaNetPure
import Derived.Test.YtfkkekdpfkglbaaRow
namespace Go.Proofs.Ytfkkekdpfkglbaa.Q
open Go.RowKit Go.Proofs.YtfkkekdpfkglbaaW.PrintWords Go.Proofs.YtfkkekdpfkglbaaW.PrintLast Go.Proofs.YtfkkekdpfkglbaaW.PrintMore
open Go.Proofs.Ytfkkekdpfkglbaa.Ieee
set_option linter.unusedVariables false
set_option linter.unusedSimpArgs false
/-- So far turned: the places' rows, the line's way. -/
structure Turned (w3 : World) (g1 g2 n : Nat) (x y : Int) (re im : List Int) (w' : World) (P Q : List Int) (u v : Int) : Prop where
  bel : Below w3.heap.size w3 w'
  r1 : Row w' g1 P
  r2 : Row w' g2 Q
  l1 : P.length = n
  l2 : Q.length = n
  uv : inB 33554432 u v = true
  pq : ∀ j, j < n → inB 33554432 (P.getD j 0) (Q.getD j 0) = true ∧ u * P.getD j 0 + v * Q.getD j 0 = x * re.getD j 0 + y * im.getD j 0
/-- In one turn: so many places are turned. -/
structure Turning (w3 : World) (g1 g2 n : Nat) (P Q : List Int) (i : Nat) (w' : World) (P' Q' : List Int) : Prop where
  bel : Below w3.heap.size w3 w'
  r1 : Row w' g1 P'
  r2 : Row w' g2 Q'
  l1 : P'.length = n
  l2 : Q'.length = n
  old : ∀ j, i ≤ j → j < n → P'.getD j 0 = P.getD j 0 ∧ Q'.getD j 0 = Q.getD j 0
  new : ∀ j, j < i → j < n → P'.getD j 0 = -Q.getD j 0 ∧ Q'.getD j 0 = P.getD j 0
theorem inB_turn {M a b : Int} (h : inB M a b = true) : inB M (-b) a = true := by
  have := inB_iff.1 h
  exact inB_iff.2 ⟨⟨by omega, by omega⟩, this.1⟩
theorem Turned.turn {w3 w' : World} {g1 g2 n : Nat} {x y u v : Int} {re im P Q P' Q' : List Int} {w2 : World} (h : Turned w3 g1 g2 n x y re im w2 P Q u v) (t : Turning w3 g1 g2 n P Q n w' P' Q') : Turned w3 g1 g2 n x y re im w' P' Q' (-v) u := by
  refine ⟨t.bel, t.r1, t.r2, t.l1, t.l2, inB_turn h.uv, fun j hj => ?_⟩
  obtain ⟨e1, e2⟩ := t.new j hj hj
  obtain ⟨h1, h2⟩ := h.pq j hj
  rw [e1, e2]
  refine ⟨inB_turn h1, ?_⟩
  rw [← h2, Int.neg_mul_neg]
  omega
theorem getD_set (P : List Int) (i j : Nat) (x : Int) (hi : i < P.length) : (P.set i x).getD j 0 = if i = j then x else P.getD j 0 := by
  rw [List.getD_eq_getElem?_getD, List.getElem?_set]
  by_cases e : i = j
  · subst e
    rw [if_pos rfl, if_pos rfl, if_pos hi]
    rfl
  · rw [if_neg e, if_neg e, List.getD_eq_getElem?_getD]
theorem Turning.next {w3 w' : World} {g1 g2 n i nd : Nat} {P Q P' Q' : List Int} (hne : g1 ≠ g2) (hb1 : w3.heap.size ≤ g1) (hb2 : w3.heap.size ≤ g2) (hi : i < n) (t : Turning w3 g1 g2 n P Q i w' P' Q') :
    Turning w3 g1 g2 n P Q (i + 1) (((w'.drewN nd).setCell ⟨g1, i, none⟩ (.int .i64 (-Q'.getD i 0))).setCell ⟨g2, i, none⟩ (.int .i64 (P'.getD i 0))) (P'.set i (-Q'.getD i 0)) (Q'.set i (P'.getD i 0)) := by
  obtain ⟨o1, o2⟩ := t.old i (Nat.le_refl _) hi
  refine ⟨((pw_below_drewN t.bel nd).setCell (p := ⟨g1, i, none⟩) hb1 _).setCell (p := ⟨g2, i, none⟩) hb2 _, ((t.r1.drewN nd).set i _).far (p := ⟨g2, i, none⟩) hne _, ((t.r2.drewN nd).far (p := ⟨g1, i, none⟩) (Ne.symm hne) _).set i _, by rw [List.length_set, t.l1], by rw [List.length_set, t.l2], fun j h1 h2 => ?_, fun j h1 h2 => ?_⟩
  · rw [getD_set _ _ _ _ (by rw [t.l1]; exact hi), getD_set _ _ _ _ (by rw [t.l2]; exact hi), if_neg (by omega), if_neg (by omega)]
    exact t.old j (by omega) h2
  · rw [getD_set _ _ _ _ (by rw [t.l1]; exact hi), getD_set _ _ _ _ (by rw [t.l2]; exact hi)]
    by_cases e : i = j
    · subst e
      rw [if_pos rfl, if_pos rfl, o1, o2]
      exact ⟨rfl, rfl⟩
    · rw [if_neg e, if_neg e]
      exact t.new j (by omega) h2
theorem apB_congr {sd sd' : Nat × Nat → Int} {ps qs : List (Nat × Nat)} (hl : ps.length = qs.length) (h : ∀ j, j < ps.length → sd (ps.getD j (0, 0)) = sd' (qs.getD j (0, 0))) (a b : Int) : apB sd ps a b = apB sd' qs a b := by
  unfold apB
  rw [← hl]
  cases ha : repB ps.length a with
  | false => rfl
  | true =>
    cases hb : repB ps.length b with
    | false => rfl
    | true =>
      have ea : 1 ≤ a ∧ a ≤ (ps.length : Int) := of_decide_eq_true ha
      have eb : 1 ≤ b ∧ b ≤ (ps.length : Int) := of_decide_eq_true hb
      rw [h _ (show (a - 1).toNat < ps.length by omega), h _ (show (b - 1).toNat < ps.length by omega)]
theorem pts_getD {P Q : List Int} {n j : Nat} (hj : j < n) : (pts P Q n).getD j (0, 0) = zOf (rd P (j : Int)) (rd Q (j : Int)) := by
  unfold pts
  rw [List.getD_eq_getElem?_getD, List.getElem?_map, List.getElem?_range hj]
  rfl
set_option maxHeartbeats 8000000 in
set_option maxRecDepth 100000 in
theorem netTurns_ok (A0 A1 : Option Addr) (c0 c1 : Nat) (re im : List Int) (x y off t a b : Int) (w : World) (h0 : Kd.C (Kd.int .i64) w A0 re.length re) (h1 : Kd.C (Kd.int .i64) w A1 im.length im) (hc0 : re.length ≤ c0) (hc1 : im.length ≤ c1) (ht : 0 ≤ t ∧ t < 256)
    (hl : re.length = im.length ∧ 1 ≤ re.length ∧ re.length ≤ 6) (hk : ∀ i : Nat, i < re.length → okP (rd re (i : Int)) (rd im (i : Int)) = true) (hxy : okP x y = true) :
    Calls Try.prog 3 #[.slice A0 re.length c0, .slice A1 im.length c1, .int .i64 x, .int .i64 y, .int .i64 off, .int .u8 t, .int .i64 a, .int .i64 b] w fun e w' => e = .returned (.bool true) ∧ Below w.heap.size w w' := by
  have HR0 := Aside0.mk h0
  have HR1 := Aside0.mk h1
  have HL := Aside0.mk hl
  have HK := Aside0.mk hk
  obtain ⟨ps, hps⟩ : ∃ ps, ps = pts re im re.length := ⟨_, rfl⟩
  have HP := Aside0.mk hps
  have HT := Aside0.mk ht
  have hT : IntKind.i64.wrap t = t := by rw [IntKind.wrap_i64]; omega
  have HS1 := Aside0.mk (show ∀ z ∈ ps, ∃ c, plane_Side.f 2 (zOf x y) off z = some (sdF (zOf x y) off z, c) from by
    rw [hps]
    intro z hz
    obtain ⟨a, b, rfl, hab⟩ := pts_mem hk hz
    exact ⟨0, by rw [side_ok hab hxy, sdF_ok hab hxy]⟩)
  clear h0 h1 hl hk hps ht
  go_enter Try.func3, Try.ntmps3
  go_upto_region 6 with (first | (go_at_call 11; (with_reducible refine (net_awake.calls _).mono ?_); rintro e w1 ⟨rfl, hb1⟩; have HB1 := Aside0.mk hb1; clear hb1) | (go_at_call 12; (with_reducible refine (net_New.calls _ _ _ _ re im _ (Kd.C_below HR0.out HB1.out) (Kd.C_below HR1.out HB1.out) hc0 hc1 HL.out.1 HL.out.2.1 HL.out.2.2 HK.out).mono ?_); rintro e w2 ⟨g, rfl, hn2, hg2, hb2⟩; have HN := Aside0.mk (HP.out ▸ hn2 : NetAt w2 g ps (0, 0) 0); have HB2 := Aside0.mk (below_then HB1.out HB1.out.size hb2); have HG := Aside0.mk (Nat.le_trans HB1.out.size hg2); clear hn2 hb2 hg2) | (go_at_call 13; (with_reducible refine (net_Cut.again g x y off 0 ps (0, 0) _ (by first | exact HN.out | exact HN.out.drewN _)).mono ?_); rintro e w3 ⟨rfl, hn3, hb3⟩; have HN3 := Aside0.mk hn3; have HB3 := Aside0.mk (HB2.out.trans (hb3.mono HG.out)); clear hn3 hb3))
  have HN4 := Aside0.mk (by have h := HN3.out; rw [if_pos hxy, if_pos hxy] at h; exact h : NetAt w3 g ps (zOf x y) off)
  go_upto_region 8 with (first | (at_builtin; refine append_row _ rfl (.tmp 45) (.tmp 46) rfl rfl _ _ _ re rfl (Kd.C_below HR0.out HB3.out) (by have := HL.out; omega) (by have := HL.out; omega) ?_; intro g1 cc1 w4 hr4 hc4 hg4 hb4; obtain ⟨ad1, had1⟩ : ∃ ad : Addr, ad = ⟨g1, 0, none⟩ := ⟨_, rfl⟩; rw [← had1]; have HAD1 := Aside0.mk had1; have HP4 := Aside0.mk hr4; have HC4 := Aside0.mk hc4; have HG4 := Aside0.mk hg4; have HB4 := Aside0.mk hb4; clear had1 hr4 hc4 hg4 hb4) | (at_builtin; refine append_row _ rfl (.tmp 48) (.tmp 49) rfl rfl _ _ _ im rfl (Kd.C_below HR1.out (HB3.out.trans (HB4.out.mono HB3.out.size))) (by have := HL.out; omega) (by have := HL.out; omega) ?_; intro g2 cc2 w5 hr5 hc5 hg5 hb5; obtain ⟨ad2, had2⟩ : ∃ ad : Addr, ad = ⟨g2, 0, none⟩ := ⟨_, rfl⟩; rw [← had2]; have HAD2 := Aside0.mk had2; have HQ5 := Aside0.mk hr5; have HC5 := Aside0.mk hc5; have HG5 := Aside0.mk hg5; have HB5 := Aside0.mk hb5; clear had2 hr5 hc5 hg5 hb5))
  have hlr := HL.out
  have HNE := Aside0.mk (show g1 ≠ g2 by have := HP4.out.lt; have := HG5.out; omega)
  have HG5b := Aside0.mk (Nat.le_trans HB4.out.size HG5.out)
  have HST := Aside0.mk (show Turned w3 g1 g2 re.length x y re im w5 re im x y from
    ⟨HB4.out.trans (HB5.out.mono HB4.out.size), HP4.out.same (HB5.out.block g1 HP4.out.lt), HQ5.out, rfl, hlr.1.symm, (ok_small hxy).2, fun j hj => ⟨by have := (ok_small (HK.out j hj)).2; unfold rd at this; rw [Int.toNat_natCast] at this; exact this, rfl⟩⟩)
  clear HP4 HB4 HG5 HQ5 HB5 HN HN3 HB2 HB1
  obtain ⟨n, hn⟩ : ∃ n, n = re.length := ⟨_, rfl⟩
  have HLN := Aside0.mk hn
  have hn1 : 1 ≤ n := by omega
  have hn6 : n ≤ 6 := by omega
  have e2 : im.length = n := by omega
  rw [← hn] at HST HR0 HK
  rw [← hn, e2]
  clear hn hlr e2
  go_wp2_with fail
  go_loopg [21, 22, 23] t.toNat (fun kq v21 v22 v23 w' => ∃ (k : Nat) (u v : Int) (P Q : List Int), v21 = .int .i64 u ∧ v22 = .int .i64 v ∧ v23 = .int .i64 (k : Int) ∧ Aside0 (k + kq = t.toNat) ∧ Aside0 (Turned w3 g1 g2 n x y re im w' P Q u v))
  case atStart => exact ⟨0, x, y, re, im, rfl, rfl, rfl, ⟨by omega⟩, HST⟩
  case round =>
    clear HST
    obtain ⟨k, u, v, P, Q, rfl, rfl, rfl, HI, HTU⟩ := hrel
    by_cases ck : k < t.toNat
    · have c0 : decide ((k : Int) < t) = true := decide_eq_true (by have := HT.out; omega)
      obtain ⟨ko, rfl⟩ : ∃ ko, gk = ko + 1 := ⟨gk - 1, by have := HI.out; omega⟩
      clear ck
      go_wp2_with fail
      go_loopg [24] n (fun kq v24 w' => ∃ (i : Nat) (P' Q' : List Int), v24 = .int .i64 (i : Int) ∧ Aside0 (i + kq = n) ∧ Aside0 (Turning w3 g1 g2 n P Q i w' P' Q'))
      case atStart => exact ⟨0, P, Q, rfl, ⟨by omega⟩, ⟨⟨HTU.out.bel, HTU.out.r1, HTU.out.r2, HTU.out.l1, HTU.out.l2, fun j _ _ => ⟨rfl, rfl⟩, fun j h _ => absurd h (Nat.not_lt_zero j)⟩⟩⟩
      case round =>
        obtain ⟨i, P', Q', rfl, HJ, HTG⟩ := hrel
        by_cases ci : i < n
        · have c1 : decide ((i : Int) < (n : Int)) = true := decide_eq_true (by omega)
          have p0 : (0 ≤ (i : Int)) = True := eq_true (by omega)
          have q0 : ((i : Int) < (n : Int)) = True := eq_true (by omega)
          obtain ⟨ki, rfl⟩ : ∃ ki, gk = ki + 1 := ⟨gk - 1, by have := HJ.out; omega⟩
          have ea1 : ad1.add i = ⟨g1, i, none⟩ := by rw [HAD1.out, add_at, Nat.zero_add]
          have ea2 : ad2.add i = ⟨g2, i, none⟩ := by rw [HAD2.out, add_at, Nat.zero_add]
          have hx1 := HTG.out.r1.cell (j := i) (by rw [HTG.out.l1]; exact ci)
          have hx2 := HTG.out.r2.cell (j := i) (by rw [HTG.out.l2]; exact ci)
          have hf1 := HTG.out.r1.frozen i
          have hf2 := HTG.out.r2.frozen i
          have hnext := HTG.out.next (nd := 1) HNE.out (by have := HG4.out; omega) (by have := HG5b.out; omega) ci
          have hin := inB_iff.1 (HTU.out.pq i ci).1
          have ho2 := (HTG.out.old i (Nat.le_refl _) ci).2
          have hy2 : ∀ v, (wr.setCell (ad1.add i) v).cell? (ad2.add i) = some (.int .i64 (Q'.getD i 0)) := by
            intro v
            rw [ea1, ea2, cell_far (p := ⟨g1, i, none⟩) (a := ⟨g2, i, none⟩) (Ne.symm HNE.out)]
            exact hx2
          have hz2 : ∀ v, (wr.setCell (ad1.add i) v).frozen? (ad2.add i) = false := by
            intro v
            rw [ea1, ea2]
            exact (HTG.out.r2.far (p := ⟨g1, i, none⟩) (Ne.symm HNE.out) v).frozen i
          rw [← ea1] at hx1 hf1
          rw [← ea2] at hx2 hf2
          rw [← ea1, ← ea2] at hnext
          obtain ⟨x1, hX1⟩ : ∃ x, x = P'.getD i 0 := ⟨_, rfl⟩
          obtain ⟨x2, hX2⟩ : ∃ x, x = Q'.getD i 0 := ⟨_, rfl⟩
          rw [← hX1] at hx1 hnext
          rw [← hX2] at hx2 hnext hy2
          have hneg : IntKind.i64.wrap (-x2) = -x2 := by rw [hX2, ho2, IntKind.wrap_i64]; omega
          have HN2 := Aside0.mk hnext
          have HX := Aside0.mk (And.intro hX1 hX2)
          clear hnext hX1 hX2 hin ho2 ea1 ea2 ci
          go_wp2_with fail
          refine start_ (n := 17) (S := fun w' => w'.cell? (ad1.add i) = some (.int .i64 x1) ∧ w'.cell? (ad2.add i) = some (.int .i64 x2)) (ds := [14, 16]) #[false, false, false, false, false, false, false, false, false, false, false, false, false, false, false, false, false] (by kernel_rfl) rfl rfl ⟨hx1, hx2⟩ (fun hHeld => ?_)
          refine pure_ (i := 0) (N := some 65) (v := ?_) (a' := ?_) #[true, false, false, false, false, false, false, false, false, false, false, false, false, false, false, false, false] rfl rfl (by kernel_rfl) (fun _ _ _ h => h) (Or.inl ⟨by rfl, ?_⟩) ?_ ?_
          rotate_left
          · intro w'
            go_simp
            with_reducible rfl
          rotate_left
          · simp only [Act.put, List.setIfInBounds_toArray, List.set_cons_zero, List.set_cons_succ, i64_w, i32_w]
            rfl
          refine pure_ (i := 1) (N := some 66) (v := ?_) (a' := ?_) #[true, true, false, false, false, false, false, false, false, false, false, false, false, false, false, false, false] rfl rfl (by kernel_rfl) (fun _ _ _ h => h) (Or.inl ⟨by rfl, ?_⟩) ?_ ?_
          rotate_left
          · intro w'
            go_simp
            with_reducible rfl
          rotate_left
          · simp only [Act.put, List.setIfInBounds_toArray, List.set_cons_zero, List.set_cons_succ, i64_w, i32_w]
            rfl
          refine pure_ (i := 2) (N := some 67) (v := ?_) (a' := ?_) #[true, true, true, false, false, false, false, false, false, false, false, false, false, false, false, false, false] rfl rfl (by kernel_rfl) (fun _ _ _ h => h) (Or.inl ⟨by rfl, ?_⟩) ?_ ?_
          rotate_left
          · intro w'
            go_simp
            with_reducible rfl
          rotate_left
          · simp only [Act.put, List.setIfInBounds_toArray, List.set_cons_zero, List.set_cons_succ, i64_w, i32_w]
            rfl
          refine pure_ (i := 3) (N := some 68) (v := ?_) (a' := ?_) #[true, true, true, true, false, false, false, false, false, false, false, false, false, false, false, false, false] rfl rfl (by kernel_rfl) (fun _ _ _ h => h) (Or.inl ⟨by rfl, ?_⟩) ?_ ?_
          rotate_left
          · intro w'
            go_simp
            with_reducible rfl
          rotate_left
          · simp only [Act.put, List.setIfInBounds_toArray, List.set_cons_zero, List.set_cons_succ, i64_w, i32_w]
            rfl
          refine pure_ (i := 4) (N := some 69) (v := ?_) (a' := ?_) #[true, true, true, true, true, false, false, false, false, false, false, false, false, false, false, false, false] rfl rfl (by kernel_rfl) (fun _ _ _ h => h) (Or.inl ⟨by rfl, ?_⟩) ?_ ?_
          rotate_left
          · intro w'
            go_simp
            with_reducible rfl
          rotate_left
          · simp only [Act.put, List.setIfInBounds_toArray, List.set_cons_zero, List.set_cons_succ, i64_w, i32_w]
            rfl
          refine pure_ (i := 5) (N := some 70) (v := ?_) (a' := ?_) #[true, true, true, true, true, true, false, false, false, false, false, false, false, false, false, false, false] rfl rfl (by kernel_rfl) (fun _ _ _ h => h) (Or.inl ⟨by rfl, ?_⟩) ?_ ?_
          rotate_left
          · intro w'
            go_simp
            with_reducible rfl
          rotate_left
          · simp only [Act.put, List.setIfInBounds_toArray, List.set_cons_zero, List.set_cons_succ, i64_w, i32_w]
            rfl
          refine pure_ (i := 6) (N := some 71) (v := ?_) (a' := ?_) #[true, true, true, true, true, true, true, false, false, false, false, false, false, false, false, false, false] rfl rfl (by kernel_rfl) (fun _ _ _ h => h) (Or.inl ⟨by rfl, ?_⟩) ?_ ?_
          rotate_left
          · intro w'
            go_simp
            with_reducible rfl
          rotate_left
          · simp only [Act.put, List.setIfInBounds_toArray, List.set_cons_zero, List.set_cons_succ, i64_w, i32_w]
            rfl
          refine pure_ (i := 9) (N := some 74) (v := ?_) (a' := ?_) #[true, true, true, true, true, true, true, false, false, true, false, false, false, false, false, false, false] rfl rfl (by kernel_rfl) (fun _ _ _ h => h) (Or.inl ⟨by rfl, ?_⟩) ?_ ?_
          rotate_left
          · intro w'
            go_simp
            with_reducible rfl
          rotate_left
          · simp only [Act.put, List.setIfInBounds_toArray, List.set_cons_zero, List.set_cons_succ, i64_w, i32_w]
            rfl
          refine pure_ (i := 10) (N := some 75) (v := ?_) (a' := ?_) #[true, true, true, true, true, true, true, false, false, true, true, false, false, false, false, false, false] rfl rfl (by kernel_rfl) (fun _ _ _ h => h) (Or.inl ⟨by rfl, ?_⟩) ?_ ?_
          rotate_left
          · intro w'
            go_simp
            with_reducible rfl
          rotate_left
          · simp only [Act.put, List.setIfInBounds_toArray, List.set_cons_zero, List.set_cons_succ, i64_w, i32_w]
            rfl
          refine pure_ (i := 11) (N := some 76) (v := ?_) (a' := ?_) #[true, true, true, true, true, true, true, false, false, true, true, true, false, false, false, false, false] rfl rfl (by kernel_rfl) (fun _ _ _ h => h) (Or.inl ⟨by rfl, ?_⟩) ?_ ?_
          rotate_left
          · intro w'
            go_simp
            with_reducible rfl
          rotate_left
          · simp only [Act.put, List.setIfInBounds_toArray, List.set_cons_zero, List.set_cons_succ, i64_w, i32_w]
            rfl
          refine take_ (i := 7) (N := some 72) (v := ?_) (a' := ?_) #[true, true, true, true, true, true, true, true, false, true, true, true, false, false, false, false, false] rfl rfl (by kernel_rfl) (fun _ _ _ h => h) (Or.inl ⟨by rfl, ?_⟩) hHeld ?_ ?_
          rotate_left
          · rintro w' ⟨s0, s1⟩
            go_simp
            with_reducible rfl
          rotate_left
          · simp only [Act.put, List.setIfInBounds_toArray, List.set_cons_zero, List.set_cons_succ, i64_w, i32_w]
            rfl
          refine pure_ (i := 8) (N := some 73) (v := ?_) (a' := ?_) #[true, true, true, true, true, true, true, true, true, true, true, true, false, false, false, false, false] rfl rfl (by kernel_rfl) (fun _ _ _ h => h) (Or.inl ⟨by rfl, ?_⟩) ?_ ?_
          rotate_left
          · intro w'
            go_simp
            with_reducible rfl
          rotate_left
          · simp only [Act.put, List.setIfInBounds_toArray, List.set_cons_zero, List.set_cons_succ, i64_w, i32_w]
            rfl
          refine take_ (i := 12) (N := some 77) (v := ?_) (a' := ?_) #[true, true, true, true, true, true, true, true, true, true, true, true, true, false, false, false, false] rfl rfl (by kernel_rfl) (fun _ _ _ h => h) (Or.inl ⟨by rfl, ?_⟩) hHeld ?_ ?_
          rotate_left
          · rintro w' ⟨s0, s1⟩
            go_simp
            with_reducible rfl
          rotate_left
          · simp only [Act.put, List.setIfInBounds_toArray, List.set_cons_zero, List.set_cons_succ, i64_w, i32_w]
            rfl
          refine pure_ (i := 13) (N := some 78) (v := ?_) (a' := ?_) #[true, true, true, true, true, true, true, true, true, true, true, true, true, true, false, false, false] rfl rfl (by kernel_rfl) (fun _ _ _ h => h) (Or.inl ⟨by rfl, ?_⟩) ?_ ?_
          rotate_left
          · intro w'
            go_simp
            with_reducible rfl
          rotate_left
          · simp only [Act.put, List.setIfInBounds_toArray, List.set_cons_zero, List.set_cons_succ, i64_w, i32_w]
            rfl
          refine last_ (i := 14) (N := none) #[true, true, true, true, true, true, true, true, true, true, true, true, true, true, true, false, false] rfl rfl (by kernel_rfl) (by decide) (fun K hK => ?_)
          refine skip_ (w1 := ?_) (by rfl) rfl ?_ ?_
          rotate_left
          · go_simp
            rfl
          refine hK.out _ _ ?_
          clear hK K
          refine pure_ (i := 15) (N := some 79) (v := ?_) (a' := ?_) #[true, true, true, true, true, true, true, true, true, true, true, true, true, true, true, true, false] rfl rfl (by kernel_rfl) (fun _ _ _ h => h) (Or.inl ⟨by rfl, ?_⟩) ?_ ?_
          rotate_left
          · intro w'
            go_simp
            with_reducible rfl
          rotate_left
          · simp only [Act.put, List.setIfInBounds_toArray, List.set_cons_zero, List.set_cons_succ, i64_w, i32_w]
            rfl
          refine last_ (i := 16) (N := none) #[true, true, true, true, true, true, true, true, true, true, true, true, true, true, true, true, true] rfl rfl (by kernel_rfl) (by decide) (fun K hK => ?_)
          refine skip_ (w1 := ?_) (by rfl) rfl ?_ ?_
          rotate_left
          · go_simp
            rfl
          refine hK.out _ _ ?_
          clear hK K
          refine done_ (by kernel_rfl) ?_
          go_wp2_with fail
          go_roundg ki
          case measure => omega
          case rel => exact ⟨i + 1, P'.set i (-x2), Q'.set i x1, by first | rfl | (congr 1; have := HJ.out; unfold wrap64; omega), ⟨by have := HJ.out; omega⟩, ⟨HN2.out⟩⟩
        · have c1 : decide ((i : Int) < (n : Int)) = false := decide_eq_false (by omega)
          have hi : i = n := by have := HJ.out; omega
          subst hi
          have HT2 := Aside0.mk (HTU.out.turn HTG.out)
          have huv := inB_iff.1 HTU.out.uv
          have hng : IntKind.i64.wrap (-v) = -v := by rw [IntKind.wrap_i64]; omega
          clear huv ci HTG
          go_wp2_with fail
          go_roundg ko
          case measure => omega
          case rel => exact ⟨k + 1, -v, u, P', Q', rfl, rfl, by first | rfl | (congr 1; have := HI.out; have := HT.out; unfold wrap64; omega), ⟨by have := HI.out; omega⟩, HT2⟩
    · have c0 : decide ((k : Int) < t) = false := decide_eq_false (by have := HT.out; omega)
      have hp1 := Aside0.mk HTU.out.l1
      have hp2 := Aside0.mk HTU.out.l2
      have HCP : Aside0 (Kd.C (Kd.int .i64) wr (some ad1) P.length P) := ⟨by rw [HAD1.out]; exact HTU.out.r1.C (by have := hp1.out; omega)⟩
      have HCQ : Aside0 (Kd.C (Kd.int .i64) wr (some ad2) Q.length Q) := ⟨by rw [HAD2.out]; exact HTU.out.r2.C (by have := hp2.out; omega)⟩
      have HKP : Aside0 (∀ i : Nat, i < P.length → okP (rd P (i : Int)) (rd Q (i : Int)) = true) := ⟨fun i hi => small_ok (by unfold rd; rw [Int.toNat_natCast]; exact (HTU.out.pq i (by have := hp1.out; omega)).1)⟩
      have hUV := small_ok HTU.out.uv
      have HUV := Aside0.mk hUV
      have HNET := Aside0.mk (HN4.out.below HTU.out.bel)
      have HBW := Aside0.mk (HB3.out.trans (HTU.out.bel.mono HB3.out.size))
      have HTP := Aside0.mk HTU.out.pq
      obtain ⟨qs, hqs⟩ : ∃ qs, qs = pts P Q n := ⟨_, rfl⟩
      have HQ := Aside0.mk hqs
      have HSQ := Aside0.mk (show ∀ z ∈ qs, ∃ c, plane_Side.f 2 (zOf u v) off z = some (sdF (zOf u v) off z, c) from by
        rw [hqs]
        intro z hz
        obtain ⟨a, b, rfl, hab⟩ := pts_mem (n := n) (fun i hi => HKP.out i (by have := hp1.out; omega)) hz
        exact ⟨0, by rw [side_ok hab HUV.out, sdF_ok hab HUV.out]⟩)
      have HEQ : apB (sdF (zOf u v) off) qs a b = apB (sdF (zOf x y) off) ps a b := by
        rw [hqs, HP.out, ← HLN.out]
        refine apB_congr (by rw [pts_length, pts_length]) (fun j hj => ?_) a b
        rw [pts_length] at hj
        rw [pts_getD hj, pts_getD hj, sdF_ok (HKP.out j (by have := hp1.out; omega)) HUV.out, sdF_ok (HK.out j hj) hxy]
        unfold rd
        rw [Int.toNat_natCast, (HTP.out j hj).2]
      have HNEW := Aside0.mk (by
        have h := net_New.calls (some ad1) (some ad2) cc1 cc2 P Q wr HCP.out HCQ.out (by have := HC4.out; have := HLN.out; have := hp1.out; omega) (by have := HC5.out; have := HLN.out; have := HL.out; have := hp2.out; omega) (by have := hp1.out; have := hp2.out; omega) (by have := hp1.out; omega) (by have := hp1.out; omega) HKP.out
        rw [hp1.out, hp2.out, ← hqs] at h
        exact h)
      have HBI := Aside0.mk HTU.out.bel
      clear hqs HTU ck
      obtain ⟨ap, hap⟩ : ∃ ap, ap = apB (sdF (zOf x y) off) ps a b := ⟨_, rfl⟩
      rw [← hap] at HEQ
      have HAP := Aside0.mk hap.symm
      have HAQ := Aside0.mk HEQ
      clear hap HEQ
      go_wp2_with (first
        | (go_at_call 12; (with_reducible refine (HNEW.out).mono ?_); rintro e w7 ⟨g7, rfl, hn7, hg7, hb7⟩; have HN7 := Aside0.mk hn7; have HB7 := Aside0.mk hb7; have HG7 := Aside0.mk hg7; clear hn7 hb7 hg7)
        | (go_at_call 13; (with_reducible refine (net_Cut.again g7 u v off 0 qs (0, 0) _ (by first | exact HN7.out | exact HN7.out.drewN _)).mono ?_); rintro e w8 ⟨rfl, hn8, hb8⟩; rw [if_pos HUV.out, if_pos HUV.out] at hn8; have HN8 := Aside0.mk hn8; have HB8 := Aside0.mk (HB7.out.trans (hb8.mono HG7.out)); have HM8 := Aside0.mk (HNET.out.below HB8.out); have HW8 := Aside0.mk (below_then HBW.out HBW.out.size HB8.out); clear hn8 hb8)
        | (go_at_call 14; (with_reducible refine (net_Apart.calls g7 _ _ off qs (zOf u v) (sdF (zOf u v) off) _ (by first | exact HN8.out | exact HN8.out.drewN _) HSQ.out).mono ?_); rintro e wa ⟨rfl, ⟨na, rfl⟩⟩; rw [HAQ.out])
        | (go_at_call 14; (with_reducible refine (net_Apart.calls g _ _ off ps (zOf x y) (sdF (zOf x y) off) _ (by first | exact HM8.out | exact HM8.out.drewN _) HS1.out).mono ?_); rintro e wa ⟨rfl, ⟨na, rfl⟩⟩; rw [HAP.out]))
      go_ret
      exact ⟨by simp, pw_below_drewN HW8.out _⟩
set_option maxHeartbeats 8000000 in
set_option maxRecDepth 100000 in
theorem netTurns_bad (A0 A1 : Option Addr) (c0 c1 : Nat) (re im : List Int) (x y off t a b : Int) (w : World) (h0 : Kd.C (Kd.int .i64) w A0 re.length re) (h1 : Kd.C (Kd.int .i64) w A1 im.length im) (hc0 : re.length ≤ c0) (hc1 : im.length ≤ c1) (hl : re.length = im.length ∧ 1 ≤ re.length ∧ re.length ≤ 6) (m : Nat) (hm : m < re.length) (hk : okP (rd re (m : Int)) (rd im (m : Int)) = false) (hall : ∀ i : Nat, i < m → okP (rd re (i : Int)) (rd im (i : Int)) = true) :
    Calls Try.prog 3 #[.slice A0 re.length c0, .slice A1 im.length c1, .int .i64 x, .int .i64 y, .int .i64 off, .int .u8 t, .int .i64 a, .int .i64 b] w fun e w' => e = .returned (.bool true) ∧ Below w.heap.size w w' := by
  have HR0 := Aside0.mk h0
  have HR1 := Aside0.mk h1
  have HL := Aside0.mk hl
  have HM := Aside0.mk hm
  have HK := Aside0.mk hk
  have HA := Aside0.mk hall
  clear h0 h1 hl hm hk hall
  go_enter Try.func3, Try.ntmps3
  go_wp2_with (first | (go_at_call 11; (with_reducible refine (net_awake.calls _).mono ?_); rintro e w1 ⟨rfl, hb1⟩; have HB1 := Aside0.mk hb1; clear hb1) | (go_at_call 12; (with_reducible refine (net_New.bad _ _ _ _ re im _ (Kd.C_below HR0.out HB1.out) (Kd.C_below HR1.out HB1.out) hc0 hc1 HL.out.1 HL.out.2.1 HL.out.2.2 m HM.out HK.out HA.out).mono ?_); rintro e w2 ⟨rfl, hb2⟩; have HB2 := Aside0.mk (below_then HB1.out HB1.out.size hb2); clear hb2))
  go_ret
  exact ⟨rfl, HB2.out⟩
set_option maxHeartbeats 8000000 in
set_option maxRecDepth 100000 in
theorem netTurns_size (A0 A1 : Option Addr) (c0 c1 : Nat) (re im : List Int) (x y off t a b : Int) (w : World) (h0 : Kd.C (Kd.int .i64) w A0 re.length re) (h1 : Kd.C (Kd.int .i64) w A1 im.length im) (hc0 : re.length ≤ c0) (hc1 : im.length ≤ c1) (hl : ¬ (re.length = im.length ∧ 1 ≤ re.length ∧ re.length ≤ 6)) :
    Calls Try.prog 3 #[.slice A0 re.length c0, .slice A1 im.length c1, .int .i64 x, .int .i64 y, .int .i64 off, .int .u8 t, .int .i64 a, .int .i64 b] w fun e w' => e = .returned (.bool true) ∧ Below w.heap.size w w' := by
  have HR0 := Aside0.mk h0
  have HR1 := Aside0.mk h1
  have HL := Aside0.mk hl
  clear h0 h1 hl
  go_enter Try.func3, Try.ntmps3
  go_wp2_with (first | (go_at_call 11; (with_reducible refine (net_awake.calls _).mono ?_); rintro e w1 ⟨rfl, hb1⟩; have HB1 := Aside0.mk hb1; clear hb1) | (go_at_call 12; (with_reducible refine (net_New.size _ _ _ _ _ _ _ HL.out).mono ?_); rintro e w2 ⟨rfl, hb2⟩; have HB2 := Aside0.mk (below_then HB1.out HB1.out.size hb2); clear hb2))
  go_ret
  exact ⟨rfl, HB2.out⟩
set_option maxHeartbeats 8000000 in
set_option maxRecDepth 100000 in
theorem netTurns_cut (A0 A1 : Option Addr) (c0 c1 : Nat) (re im : List Int) (x y off t a b : Int) (w : World) (h0 : Kd.C (Kd.int .i64) w A0 re.length re) (h1 : Kd.C (Kd.int .i64) w A1 im.length im) (hc0 : re.length ≤ c0) (hc1 : im.length ≤ c1)
    (hl : re.length = im.length ∧ 1 ≤ re.length ∧ re.length ≤ 6) (hk : ∀ i : Nat, i < re.length → okP (rd re (i : Int)) (rd im (i : Int)) = true) (hxy : okP x y = false) :
    Calls Try.prog 3 #[.slice A0 re.length c0, .slice A1 im.length c1, .int .i64 x, .int .i64 y, .int .i64 off, .int .u8 t, .int .i64 a, .int .i64 b] w fun e w' => e = .returned (.bool true) ∧ Below w.heap.size w w' := by
  have HR0 := Aside0.mk h0
  have HR1 := Aside0.mk h1
  have HL := Aside0.mk hl
  have HK := Aside0.mk hk
  obtain ⟨ps, hps⟩ : ∃ ps, ps = pts re im re.length := ⟨_, rfl⟩
  have HP := Aside0.mk hps
  clear h0 h1 hl hk hps
  go_enter Try.func3, Try.ntmps3
  go_wp2_with (first | (go_at_call 11; (with_reducible refine (net_awake.calls _).mono ?_); rintro e w1 ⟨rfl, hb1⟩; have HB1 := Aside0.mk hb1; clear hb1) | (go_at_call 12; (with_reducible refine (net_New.calls _ _ _ _ re im _ (Kd.C_below HR0.out HB1.out) (Kd.C_below HR1.out HB1.out) hc0 hc1 HL.out.1 HL.out.2.1 HL.out.2.2 HK.out).mono ?_); rintro e w2 ⟨g, rfl, hn2, hg2, hb2⟩; have HN := Aside0.mk (HP.out ▸ hn2 : NetAt w2 g ps (0, 0) 0); have HB2 := Aside0.mk (below_then HB1.out HB1.out.size hb2); have HG := Aside0.mk (Nat.le_trans HB1.out.size hg2); clear hn2 hb2 hg2) | (go_at_call 13; (with_reducible refine (net_Cut.again g x y off 0 ps (0, 0) _ (by first | exact HN.out | exact HN.out.drewN _)).mono ?_); rintro e w3 ⟨rfl, hn3, hb3⟩; have HN3 := Aside0.mk hn3; have HB3 := Aside0.mk (HB2.out.trans (hb3.mono HG.out)); clear hn3 hb3))
  go_ret
  exact ⟨rfl, HB3.out⟩
theorem first_bad (n : Nat) (p : Nat → Bool) (h : ¬ ∀ i : Nat, i < n → p i = true) : ∃ m, m < n ∧ p m = false ∧ ∀ i : Nat, i < m → p i = true := by
  induction n with
  | zero => exact absurd (fun i hi => absurd hi (Nat.not_lt_zero i)) h
  | succ n ih =>
    by_cases hn : ∀ i : Nat, i < n → p i = true
    · refine ⟨n, by omega, ?_, hn⟩
      cases hp : p n with
      | false => rfl
      | true =>
        refine absurd (fun i hi => ?_) h
        by_cases e : i = n
        · rw [e]; exact hp
        · exact hn i (by omega)
    · obtain ⟨m, h1, h2, h3⟩ := ih hn
      exact ⟨m, by omega, h2, h3⟩
theorem netTurns_calls (A0 A1 : Option Addr) (c0 c1 : Nat) (re im : List Int) (x y off t a b : Int) (w : World) (h0 : Kd.C (Kd.int .i64) w A0 re.length re) (h1 : Kd.C (Kd.int .i64) w A1 im.length im) (hc0 : re.length ≤ c0) (hc1 : im.length ≤ c1) (ht : 0 ≤ t ∧ t < 256) :
    Calls Try.prog 3 #[.slice A0 re.length c0, .slice A1 im.length c1, .int .i64 x, .int .i64 y, .int .i64 off, .int .u8 t, .int .i64 a, .int .i64 b] w fun e w' => e = .returned (.bool true) ∧ Below w.heap.size w w' := by
  by_cases hl : re.length = im.length ∧ 1 ≤ re.length ∧ re.length ≤ 6
  · by_cases hk : ∀ i : Nat, i < re.length → okP (rd re (i : Int)) (rd im (i : Int)) = true
    · cases hxy : okP x y with
      | true => exact netTurns_ok A0 A1 c0 c1 re im x y off t a b w h0 h1 hc0 hc1 ht hl hk hxy
      | false => exact netTurns_cut A0 A1 c0 c1 re im x y off t a b w h0 h1 hc0 hc1 hl hk hxy
    · obtain ⟨m, hm, hb, hall⟩ := first_bad re.length (fun i => okP (rd re (i : Int)) (rd im (i : Int))) hk
      exact netTurns_bad A0 A1 c0 c1 re im x y off t a b w h0 h1 hc0 hc1 hl m hm hb hall
  · exact netTurns_size A0 A1 c0 c1 re im x y off t a b w h0 h1 hc0 hc1 hl
end Go.Proofs.Ytfkkekdpfkglbaa.Q
