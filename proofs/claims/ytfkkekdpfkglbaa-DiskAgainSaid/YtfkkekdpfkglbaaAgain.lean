/- The law's walk: a crash without anything that waits changes nothing. Conditions: as typed. -/
import Derived.Test.YtfkkekdpfkglbaaRefD
namespace Go.Proofs.Ytfkkekdpfkglbaa.Q
open Go.RowKit Go.ChangeAt Go.WideShapes Go.ChangeShapes Go.Proofs.YtfkkekdpfkglbaaW.PrintWords Go.Proofs.YtfkkekdpfkglbaaW.PrintLast Go.Proofs.YtfkkekdpfkglbaaW.PrintMore
set_option linter.unusedVariables false
set_option linter.unusedSimpArgs false
theorem again_if {x : ActV} (L : List (Nat × Int)) (h : ¬ x.kind = 1) : log1 L x = L := by unfold log1; rw [if_neg (fun h2 => h h2.1)]
theorem again_A {x : ActV} (D : Dsk) (h : ¬ x.kind = 1) : actA D x = D := by unfold actA; rw [if_neg h]
/-- No call's row of bytes is nil with room. -/
def ActNil (w : World) (A : Option Addr) (len : Nat) : Prop := ∀ i ad n c, i < len → A = some ad → w.cell? ⟨(ad.add (i * 4)).block, (ad.add (i * 4)).off + 3, none⟩ = some (.slice none n c) → n = 0 ∧ c = 0
set_option maxRecDepth 100000 in
theorem acts_nil {H : Type} {enc : TypeId × Value → H} {W : World} {n : Nat} {A : Option Addr} {len cap : Nat} {x : DataW H × List MemPlace} (h : DataW.trod enc Try.prog W 0 (fun _ => true) true n 32 [.slice A len cap] = some x) : ActNil W A len := by
  rcases DataW.trod_slice Try.underlying32 h with ⟨hcs, _⟩ | ⟨a, l, c, elems, rest, m, _, hcs, _, _, hl, hm, hel, hcells, _⟩
  · simp at hcs
    obtain ⟨rfl, rfl, rfl⟩ := hcs
    intro i ad n c hi
    exact absurd hi (Nat.not_lt_zero i)
  · simp at hcs
    obtain ⟨rfl, rfl, rfl⟩ := hcs
    intro i ad n2 c2 hi had hc2
    injection had with had
    subst had
    have h1 := hcells i hi
    rw [List.getElem?_eq_getElem (by omega)] at h1
    obtain ⟨cs, h2, h3⟩ := Option.bind_eq_some_iff.1 h1
    rw [show Try.prog.cellsOf 39 = 4 by kernel_rfl] at h2
    obtain ⟨xs, m2, _, _, hl2, hx, hf⟩ := DataW.trod_struct Try.underlying39 h3
    obtain ⟨_, hlen, hcell⟩ := World.cells?_some h2
    have h4 := hf 3 _ rfl
    have hx4 : xs.length = 4 := hx
    match cs, hlen with
    | [d0, d1, d2, d3], _ =>
      have g3 := hcell 3 (by omega)
      rw [add_one _ _ (by omega), hc2] at g3
      change DataW.trod enc Try.prog W 0 (fun _ => true) true m2 37 (([d0, d1, d2, d3].drop 3).take (Try.prog.cellsOf 37)) = xs[3]? at h4
      rw [show Try.prog.cellsOf 37 = 1 by kernel_rfl, List.getElem?_eq_getElem (by omega)] at h4
      have e3 : d3 = .slice none n2 c2 := by simpa using g3.symm
      subst e3
      rcases open_ints Try.underlying37 Try.underlying5 (by kernel_rfl) h4 with ⟨hcs, _⟩ | ⟨a, l, c, zs, hcs, _⟩
      · simpa using hcs
      · simp at hcs
theorem buf_reads {w : World} {A : Option Addr} {n c : Nat} {xs : List Int} (h : Buf 5 1 w (.slice A n c) n (nums .u8 xs)) : ReadsInt w .u8 A n xs := Kd.reads_of_C (d := (0 : Int)) (h1 := fun _ => rfl) h.C8
set_option maxHeartbeats 16000000 in
set_option maxRecDepth 100000 in
theorem diskAgain_long (A0 : Option Addr) (c0 : Nat) (l : List ActV) (keep : Int) (w : World) (h0 : Acts w A0 l) (hnil : ActNil w A0 l.length) (hl : longB l = true) : Calls Try.prog 5 #[.slice A0 l.length c0, .int .i64 keep] w fun e w' => e = .returned (.bool true) ∧ Below w.heap.size w w' := by
  have HA0 := Aside0.mk h0
  have HL0 := Aside0.mk hl
  clear h0 hl
  go_enter Try.func5, Try.ntmps5
  go_wp2_with (first | (go_at_call 15; (with_reducible refine (disk_awake.calls _).mono ?_); rintro e w1 ⟨rfl, hb1⟩; have HB1 := Aside0.mk hb1; clear hb1) | (go_at_call 16; (with_reducible refine (disk_Long.calls _ _ l _ (HA0.out.below HB1.out)).mono ?_); rintro e wx ⟨rfl, hwx⟩; have hwy := hwx.symm; clear hwx; subst hwy; rw [HL0.out]))
  go_ret
  exact ⟨rfl, HB1.out⟩
theorem clone_fresh {wr : World} {e : TypeId} {v : Value} (hat : v.ownBlock = (Value.slice (some ⟨wr.heap.size, 0, none⟩) 0 0).ownBlock ∨ ∃ b, v.ownBlock = some b ∧ (wr.alloc (.cells #[] e)).heap.size ≤ b) (k : Nat) (hk : v.ownBlock = some k) : wr.heap.size ≤ k := by
  rcases hat with h | ⟨b, h1, h2⟩
  · rw [h] at hk
    injection hk with hk
    rw [← hk]
    exact Nat.le_refl _
  · rw [h1] at hk
    injection hk with hk
    rw [← hk]
    exact Nat.le_trans (below_alloc (Below.refl wr.heap.size wr) (.cells #[] e)).size h2
set_option maxHeartbeats 16000000 in
set_option maxRecDepth 100000 in
theorem diskAgain_short (A0 : Option Addr) (c0 : Nat) (l : List ActV) (keep : Int) (w : World) (h0 : Acts w A0 l) (hnil : ActNil w A0 l.length) (hl0 : longB l = false) : Calls Try.prog 5 #[.slice A0 l.length c0, .int .i64 keep] w fun e w' => e = .returned (.bool true) ∧ Below w.heap.size w w' := by
  have HA0 := Aside0.mk h0
  have HL0 := Aside0.mk hl0
  have HNI := Aside0.mk hnil
  clear hnil
  have HBL := Aside0.mk (longB_false hl0)
  clear h0 hl0
  obtain ⟨N, hN⟩ : ∃ N, N = l.length := ⟨_, rfl⟩
  have HN := Aside0.mk hN
  rw [← hN]
  clear hN
  have HG0 := Aside0.mk (show ∀ W, Acts W A0 l → Calls Try.prog 16 #[.slice A0 N c0] W fun e w' => e = .returned (.bool (longB l)) ∧ w' = W from fun W h => by rw [HN.out]; exact disk_Long.calls _ _ l _ h)
  obtain ⟨S0, hS0⟩ : ∃ S : Nat → Prop, S = fun k => w.heap.size ≤ k := ⟨_, rfl⟩
  have HS0 := Aside0.mk hS0
  clear hS0
  go_enter Try.func5, Try.ntmps5
  go_upto_region 6 with (first | (go_at_call 15; (with_reducible refine (disk_awake.calls _).mono ?_); rintro e w1 ⟨rfl, hb1⟩; have HB1 := Aside0.mk hb1; clear hb1) | (go_at_call 16; (with_reducible refine (HG0.out _ (HA0.out.below HB1.out)).mono ?_); rintro e wx ⟨rfl, hwx⟩; have hwy := hwx.symm; clear hwx; subst hwy; rw [HL0.out]) | (go_at_call 17; (with_reducible refine (disk_New.calls 200000 _ (by omega) (by omega)).mono ?_); rintro e w2 ⟨g, rfl, hd2, hb2⟩; have HD2 := Aside0.mk (hd2.mono (S' := fun k => w.heap.size ≤ k) (fun k hk => Nat.le_trans HB1.out.size hk)); have HB2 := Aside0.mk (below_then HB1.out HB1.out.size hb2); clear hd2 hb2))
  go_wp2_with fail
  go_loopg [7] N (fun kq v7 w' => ∃ (i : Nat) (Di : Dsk), v7 = .int .i64 (i : Int) ∧ Aside0 (i + kq = N) ∧ Aside0 (DiskAt S0 w' g Di) ∧ Aside0 (Below w.heap.size w w') ∧ Aside0 (Twin i Di (logAt l i)))
  case atStart => exact ⟨0, newDisk 200000, rfl, ⟨by omega⟩, ⟨by rw [HS0.out]; exact HD2.out⟩, HB2, ⟨twin_new⟩⟩
  case round =>
    obtain ⟨i, Di, rfl, HI, HDi, HBI, HTW⟩ := hrel
    by_cases ci : i < N
    · have c0' : decide ((i : Int) < (N : Int)) = true := decide_eq_true (by omega)
      have c0'' : decide (i < N) = true := decide_eq_true ci
      have p0 : (0 ≤ (i : Int)) = True := eq_true (by omega)
      have q0 : ((i : Int) < (N : Int)) = True := eq_true (by omega)
      obtain ⟨k1_, rfl⟩ : ∃ k1, gk = k1 + 1 := ⟨gk - 1, by have := HI.out; omega⟩
      have HCI2 := Aside0.mk (show i < l.length by have h2 := HN.out; omega)
      have HCI := Aside0.mk (show i < 60 by have h1 := HBL.out.1; have h2 := HN.out; omega)
      obtain ⟨x, hx⟩ : ∃ x, l[i]? = some x := ⟨l[i]'(by have := HN.out; omega), List.getElem?_eq_getElem _⟩
      obtain ⟨ad, hA, ha0⟩ := HA0.out.2 i x hx
      subst hA
      have ha := ha0.below HBI.out
      have hxb : x.b.length ≤ 300 := HBL.out.2 x (List.mem_of_getElem? hx)
      have HXB := Aside0.mk hxb
      have HTN := Aside0.mk (show Twin (i + 1) (actA Di x) (logAt l (i + 1)) by rw [logAt_succ hx]; exact HTW.out.next (by have := HCI.out; omega) x hxb)
      have k0 := ha.kind
      by_cases ck : x.kind = 1
      · have HAC := Aside0.mk (show actA Di x = (Di.app x.file x.b).2 by unfold actA; rw [if_pos ck])
        rw [ck] at k0
        have k1 := ha.file
        have HF1 := Aside0.mk ha0.file
        obtain ⟨Ab0, cb0, k30, hcb, hrd0⟩ := ha0.b
        have k3 := (HBI.out.cell (World.block_lt_of_cell? w _ k30)).trans k30
        have HK3 := Aside0.mk (show ∀ o, (wr.alloc o).cell? ⟨(ad.add (i * 4)).block, (ad.add (i * 4)).off + 3, none⟩ = some (.slice Ab0 x.b.length cb0) from fun o => ((below_alloc (Below.refl wr.heap.size wr) o).cell (World.block_lt_of_cell? wr _ k3)).trans k3)
        have hka := HK3.out
        have HNO : Aside0 (Ab0 = none → x.b.length = 0 ∧ cb0 = 0) := ⟨fun hnone => HNI.out i ad _ _ (by have := HCI2.out; omega) rfl (by rw [← hnone]; exact k30)⟩
        have HSRC := Aside0.mk (show (nums .u8 x.b).length = x.b.length * 1 ∧ (Ab0 = none → x.b.length = 0 ∧ cb0 = 0) ∧ ∀ ad, Ab0 = some ad → ∀ j u, (nums .u8 x.b)[j]? = some u → (wr.alloc (.cells #[] 5)).cell? (ad.add j) = some u from ⟨by simp [nums], fun hnone => HNO.out hnone, fun ad2 had j u hu => by
          unfold nums at hu
          rw [List.getElem?_map] at hu
          obtain ⟨y, hy, rfl⟩ := Option.map_eq_some_iff.1 hu
          have hj := (List.getElem?_eq_some_iff.1 hy).1
          obtain ⟨ad3, h2, h3⟩ := hrd0.2.2 (by omega)
          rw [had] at h2
          injection h2 with h2
          subst h2
          have h4 := h3 j hj
          rw [List.getD_eq_getElem?_getD, hy] at h4
          have h5 := (HBI.out.cell (World.block_lt_of_cell? w _ h4)).trans h4
          exact ((below_alloc (Below.refl wr.heap.size wr) (.cells #[] 5)).cell (World.block_lt_of_cell? wr _ h5)).trans h5⟩)
        have HLB := Aside0.mk (show x.b.length ≤ 1099511627776 by omega)
        have HLF := Aside0.mk (show ∀ i, i < 4 → (Di.files i).length ≤ 1099511627776 from fun j hj => by have h1 := HTW.out.flen j; have h2 := HCI.out; omega)
        have HLW := Aside0.mk (show Di.wait.length ≤ 1099511627776 by have h1 := HTW.out.wlen; have h2 := HCI.out; omega)
        have HDB := Aside0.mk HDi.out.bound
        clear hx ha ha0 hxb ck k30 hcb hrd0
        go_upto_region 11 with (at_builtin; refine Buf.append_ev 37 5 (.int .u8 0) 1 1 rfl (.tmp 37) (.tmp 42) rfl Try.underlying37 info5 rfl (by decide) (by decide) _ 0 [] (buf_lit0 wr 5 1) Ab0 x.b.length cb0 (nums .u8 x.b) HSRC.out.1 HSRC.out.2.1 HSRC.out.2.2 (nums_one _ _) (by have := HXB.out; omega) rfl rfl ?_; intro vb w3 hvb hgb hatb; rw [Nat.zero_add, List.nil_append] at hvb; have HVB := Aside0.mk hvb; have HGB := Aside0.mk hgb; have HAB := Aside0.mk hatb; have HB3 : Aside0 (Below wr.heap.size wr w3) := ⟨(below_alloc (Below.refl wr.heap.size wr) (.cells #[] 5)).grown hgb (below_alloc (Below.refl wr.heap.size wr) (.cells #[] 5)).size (fun k hk => by injection hk with hk; rw [← hk]; exact Nat.le_refl _)⟩; have HFR := Aside0.mk (show ∀ k, vb.ownBlock = some k → wr.heap.size ≤ k from fun k hk => clone_fresh hatb k hk); obtain ⟨Av, cv, hve, hcv, hAv⟩ := hvb.slice; subst hve; have HSL := Aside0.mk (And.intro hcv hAv); clear hvb hgb hatb hcv hAv)
        have HD3 := Aside0.mk (HDB.out.below HB3.out)
        have HRB := Aside0.mk (show ∀ W, Foot (fun k => S0 k ∧ k < wr.heap.size) w3 W → ReadsInt W .u8 Av x.b.length x.b from fun W hW => buf_reads (HVB.out.same (fun k hk => hW.block k (HVB.out.lt k hk) (fun h => by have := HFR.out k hk; have h2 := h.2; omega))))
        have k1' : w3.cell? ⟨(ad.add (i * 4)).block, (ad.add (i * 4)).off + 1, none⟩ = some (.int .i64 x.file) := (HB3.out.cell (World.block_lt_of_cell? wr _ k1)).trans k1
        clear k1 k3 hka
        have HB4 : Aside0 (∀ W, Foot (fun k => S0 k ∧ k < wr.heap.size) w3 W → Below w.heap.size w W) := ⟨fun W hW => (below_then HBI.out HBI.out.size HB3.out).trans (hW.below (B := w.heap.size) (fun k hk => by have h := hk.1; rw [HS0.out] at h; exact h) (below_then HBI.out HBI.out.size HB3.out).size)⟩
        have HMO : Aside0 (∀ k, ((S0 k ∧ k < wr.heap.size) ∨ w3.heap.size ≤ k) → S0 k) := ⟨fun k hk => by
          rw [HS0.out] at hk ⊢
          rcases hk with h | h
          · exact h.1
          · exact Nat.le_trans (below_then HBI.out HBI.out.size HB3.out).size h⟩
        by_cases cb : 0 < x.b.length
        · have d1 : decide ((0 : Int) < (x.b.length : Int)) = true := decide_eq_true (by omega)
          have d2 : decide (0 < x.b.length) = true := decide_eq_true cb
          obtain ⟨kb, hkb⟩ : ∃ kb, Av = some ⟨kb, 0, none⟩ := by
            rcases HVB.out.2 with ⟨_, h2⟩ | ⟨b2, _, _, h2, _⟩
            · omega
            · injection h2 with h2 _ _
              exact ⟨b2, h2⟩
          subst hkb
          have q9 : (0 < x.b.length) = True := eq_true cb
          have q8 : ((0 : Int) < (x.b.length : Int)) = True := eq_true (by omega)
          have HCB := Aside0.mk cb
          clear cb
          go_upto_region 12 with (go_at_call 18; (with_reducible refine (disk_Append.calls _ g Di x.file x.b _ cv _ HD3.out (fun W hW => HRB.out W hW) HLB.out HLF.out HLW.out).mono ?_); rintro e w4 ⟨rfl, hd4, hf4⟩; have HD4 := Aside0.mk hd4; have HF4 := Aside0.mk hf4; clear hd4 hf4)
          have hv4 := HVB.out.same (w1 := w4) (fun k hk => HF4.out.block k (HVB.out.lt k hk) (fun h => by have := HFR.out k hk; have h2 := h.2; omega))
          have kz0 : w4.cell? ⟨kb, 0, none⟩ = some (.int .u8 (x.b.getD 0 0)) := by
            have h := hv4.cells _ rfl 0 (.int .u8 (x.b.getD 0 0)) (by unfold nums; rw [List.getElem?_map, List.getElem?_eq_getElem (by have := HCB.out; omega), List.getD_eq_getElem?_getD, List.getElem?_eq_getElem (by have := HCB.out; omega)]; rfl)
            rwa [add_at] at h
          have zz0 : w4.frozen? ⟨kb, 0, none⟩ = false := by
            obtain ⟨cc, hcc⟩ := hv4.typed kb rfl
            exact blk_frozen hcc 0
          clear hv4
          go_wp2_with fail
          go_roundg k1_
          case measure => omega
          case rel =>
            refine ⟨i + 1, actA Di x, by first | rfl | (congr 1; have := HCI.out; unfold wrap64; omega), ⟨by have := HI.out; omega⟩, ⟨?_⟩, ⟨(HB4.out w4 HF4.out).setCell (p := ⟨kb, 0, none⟩) (Nat.le_trans HBI.out.size (HFR.out kb rfl)) _⟩, HTN⟩
            rw [HAC.out]
            refine (HD4.out.move (fun k hk _ => Below.heap_setCell _ ⟨kb, 0, none⟩ _ k (fun e => ?_))).mono HMO.out
            have h1 := HFR.out kb rfl
            have h2 := HVB.out.lt kb rfl
            have e2 : k = kb := e
            rcases hk with h | h
            · have := h.2; omega
            · omega
        · have d1 : decide ((0 : Int) < (x.b.length : Int)) = false := decide_eq_false (by omega)
          have d2 : decide (0 < x.b.length) = false := decide_eq_false cb
          clear cb
          go_wp2_with (go_at_call 18; (with_reducible refine (disk_Append.calls _ g Di x.file x.b _ cv _ HD3.out (fun W hW => HRB.out W hW) HLB.out HLF.out HLW.out).mono ?_); rintro e w4 ⟨rfl, hd4, hf4⟩; have HD4 := Aside0.mk hd4; have HF4 := Aside0.mk hf4; clear hd4 hf4)
          go_roundg k1_
          case measure => omega
          case rel => exact ⟨i + 1, actA Di x, by first | rfl | (congr 1; have := HCI.out; unfold wrap64; omega), ⟨by have := HI.out; omega⟩, ⟨by rw [HAC.out]; exact HD4.out.mono HMO.out⟩, ⟨HB4.out w4 HF4.out⟩, HTN⟩
      · have HAC := Aside0.mk (again_A Di ck)
        have d1 : (x.kind == 1) = false := by simp [ck]
        have d3 : (x.kind = 1) = False := eq_false ck
        clear hx ha ha0 hxb ck
        go_wp2_with fail
        go_roundg k1_
        case measure => omega
        case rel => exact ⟨i + 1, actA Di x, by first | rfl | (congr 1; have := HCI.out; unfold wrap64; omega), ⟨by have := HI.out; omega⟩, ⟨by rw [HAC.out]; exact HDi.out⟩, HBI, HTN⟩
    · have c0' : decide ((i : Int) < (N : Int)) = false := decide_eq_false (by omega)
      have c0'' : decide (i < N) = false := decide_eq_false ci
      have hi : i = N := by have := HI.out; omega
      have hi60 : i ≤ 60 := by have h1 := HBL.out.1; have h2 := HN.out; omega
      have hgn := HTW.out.gone
      have HSY := Aside0.mk (by
        have h := disk_Sync.calls S0 g Di wr HDi.out
        rw [hgn, if_neg (by simp : ¬ (false = true)), if_neg (by simp : ¬ (false = true))] at h
        exact h)
      have HTW2 := Aside0.mk (show Twin 60 Di (logAt l N) by rw [← hi]; exact ⟨HTW.out.came, HTW.out.dark, HTW.out.fuse, HTW.out.room, by have := HTW.out.len; omega⟩)
      have HFIT := Aside0.mk (again_fits HTW2.out (Nat.le_refl 60))
      obtain ⟨hcf, hcd⟩ := again_crash HTW2.out keep
      obtain ⟨D1, hD1⟩ : ∃ D1 : Dsk, D1 = { Di.step with wait := [] } := ⟨_, rfl⟩
      rw [← hD1] at HSY HFIT hcf hcd
      have HCF := Aside0.mk hcf
      have HCD := Aside0.mk hcd
      have HLN := Aside0.mk (show (logAt l N).length ≤ 18000 from HTW2.out.len)
      clear hgn hcf hcd hD1 ci hi hi60
      go_upto_region 16 with (first | (go_at_call 19; (with_reducible refine (HSY.out).mono ?_); rintro e w4 ⟨rfl, hd4, hf4, hz4⟩; have HD4 := Aside0.mk hd4.bound; have HB4 := Aside0.mk (HBI.out.trans (hf4.below (B := w.heap.size) (fun k hk => by subst hk; obtain ⟨f, wv, DW, m⟩ := HDi.out.out; have h := m.sg; rw [HS0.out] at h; exact h) HBI.out.size)); clear hd4 hf4 hz4) | (go_at_call 20; (with_reducible refine (ref_New.calls _).mono ?_); rintro e w5 ⟨gm, rfl, hr5, hb5⟩; have HR5 := Aside0.mk hr5; have HB45 := Aside0.mk hb5; clear hr5 hb5))
      obtain ⟨Sd, hSd⟩ : ∃ S : Nat → Prop, S = fun k => w.heap.size ≤ k ∧ k < w4.heap.size := ⟨_, rfl⟩
      obtain ⟨Sm, hSm⟩ : ∃ S : Nat → Prop, S = fun k => w4.heap.size ≤ k := ⟨_, rfl⟩
      have HSd := Aside0.mk hSd
      have HSm := Aside0.mk hSm
      have HDA : Aside0 (DiskAt Sd w5 g D1) := ⟨(HD4.out.below HB45.out).mono (fun k hk => by rw [hSd]; have h1 := hk.1; rw [HS0.out] at h1; exact ⟨h1, hk.2⟩)⟩
      have HRM : Aside0 (RefAt Sm w5 gm []) := ⟨HR5.out.mono (fun k hk => by rw [hSm]; exact hk)⟩
      have HB5 : Aside0 (Below w.heap.size w w5) := ⟨below_then HB4.out HB4.out.size HB45.out⟩
      have HW4 : Aside0 (w.heap.size ≤ w4.heap.size) := ⟨HB4.out.size⟩
      clear hSd hSm
      go_wp2_with fail
      go_loopg [10] N (fun kq v10 w' => ∃ (j : Nat), v10 = .int .i64 (j : Int) ∧ Aside0 (j + kq = N) ∧ Aside0 (DiskAt Sd w' g D1) ∧ Aside0 (RefAt Sm w' gm (logAt l j)) ∧ Aside0 (Below w.heap.size w w') ∧ Aside0 ((logAt l j).length ≤ 300 * j))
      case atStart => exact ⟨0, rfl, ⟨by omega⟩, HDA, HRM, HB5, ⟨Nat.le_refl _⟩⟩
      case round =>
        clear HDA HRM HB5
        obtain ⟨j, rfl, HJ, HDA, HRM, HBJ, HLJ⟩ := hrel
        by_cases cj : j < N
        · have c0' : decide ((j : Int) < (N : Int)) = true := decide_eq_true (by omega)
          have c0'' : decide (j < N) = true := decide_eq_true cj
          have p0 : (0 ≤ (j : Int)) = True := eq_true (by omega)
          have q0 : ((j : Int) < (N : Int)) = True := eq_true (by omega)
          obtain ⟨k1_, rfl⟩ : ∃ k1, gk = k1 + 1 := ⟨gk - 1, by have := HJ.out; omega⟩
          have HCJ := Aside0.mk (show j < 60 by have h1 := HBL.out.1; have h2 := HN.out; omega)
          obtain ⟨x, hx⟩ : ∃ x, l[j]? = some x := ⟨l[j]'(by have := HN.out; omega), List.getElem?_eq_getElem _⟩
          obtain ⟨ad, hA, ha0⟩ := HA0.out.2 j x hx
          subst hA
          have ha := ha0.below HBJ.out
          have hxb : x.b.length ≤ 300 := HBL.out.2 x (List.mem_of_getElem? hx)
          have HLS := Aside0.mk (logAt_succ hx)
          have HLJ2 := Aside0.mk (show (logAt l (j + 1)).length ≤ 300 * (j + 1) by rw [logAt_succ hx]; exact log1_len HLJ.out hxb)
          have k0 := ha.kind
          by_cases ck : x.kind = 1
          · rw [ck] at k0
            have HCK := Aside0.mk ck
            have k1 := ha.file
            obtain ⟨Ab0, cb0, k30, hcb, hrd0⟩ := ha0.b
            have k3 := (HBJ.out.cell (World.block_lt_of_cell? w _ k30)).trans k30
            have HRB := Aside0.mk (show ∀ W, Foot Sm wr.drew W → ReadsInt W .u8 Ab0 x.b.length x.b from fun W hW => hrd0.below ((pw_below_drewN HBJ.out 1).trans (hW.below (B := w.heap.size) (fun k hk => by rw [HSm.out] at hk; exact Nat.le_trans HW4.out hk) HBJ.out.size)))
            have HSZ4 := Aside0.mk (show w4.heap.size ≤ wr.heap.size by obtain ⟨wv, deeds, m⟩ := HRM.out.out; have h1 := m.sg; rw [HSm.out] at h1; have h2 := m.lt; exact Nat.le_trans h1 (Nat.le_of_lt h2))
            have HXB := Aside0.mk hxb
            have HRD1 := Aside0.mk (show RefAt Sm wr.drew gm (logAt l j) from HRM.out.move (fun _ _ _ => rfl))
            clear hx ha ha0 hxb ck k30 hcb hrd0 cj
            go_wp2_with fail
            cases hh : hasB x.file with
            | false =>
              have HH := Aside0.mk hh
              have HLE := Aside0.mk (show logAt l (j + 1) = logAt l j by rw [HLS.out]; unfold log1; rw [if_neg (by rw [hh]; simp)])
              clear hh
              refine start_ (n := 12) (S := fun w' => w'.cell? ⟨(ad.add (j * 4)).block, (ad.add (j * 4)).off + 1, none⟩ = some (.int .i64 x.file) ∧ w'.cell? ⟨(ad.add (j * 4)).block, (ad.add (j * 4)).off + 3, none⟩ = some (.slice Ab0 x.b.length cb0)) (ds := [11]) #[false, false, false, false, false, false, false, false, false, false, false, false] (by kernel_rfl) rfl rfl ⟨k1, k3⟩ (fun hHeld => ?_)
              refine pure_ (i := 0) (N := some 76) (v := ?_) (a' := ?_) #[true, false, false, false, false, false, false, false, false, false, false, false] rfl rfl (by kernel_rfl) (fun _ _ _ h => h) (Or.inl ⟨by rfl, ?_⟩) ?_ ?_
              rotate_left
              · intro w'
                go_simp
                with_reducible rfl
              rotate_left
              · simp only [Act.put, List.setIfInBounds_toArray, List.set_cons_zero, List.set_cons_succ, i64_w, i32_w]
                rfl
              refine pure_ (i := 1) (N := some 77) (v := ?_) (a' := ?_) #[true, true, false, false, false, false, false, false, false, false, false, false] rfl rfl (by kernel_rfl) (fun _ _ _ h => h) (Or.inl ⟨by rfl, ?_⟩) ?_ ?_
              rotate_left
              · intro w'
                go_simp
                with_reducible rfl
              rotate_left
              · simp only [Act.put, List.setIfInBounds_toArray, List.set_cons_zero, List.set_cons_succ, i64_w, i32_w]
                rfl
              refine pure_ (i := 2) (N := some 78) (v := ?_) (a' := ?_) #[true, true, true, false, false, false, false, false, false, false, false, false] rfl rfl (by kernel_rfl) (fun _ _ _ h => h) (Or.inl ⟨by rfl, ?_⟩) ?_ ?_
              rotate_left
              · intro w'
                go_simp
                with_reducible rfl
              rotate_left
              · simp only [Act.put, List.setIfInBounds_toArray, List.set_cons_zero, List.set_cons_succ, i64_w, i32_w]
                rfl
              refine pure_ (i := 3) (N := some 79) (v := ?_) (a' := ?_) #[true, true, true, true, false, false, false, false, false, false, false, false] rfl rfl (by kernel_rfl) (fun _ _ _ h => h) (Or.inl ⟨by rfl, ?_⟩) ?_ ?_
              rotate_left
              · intro w'
                go_simp
                with_reducible rfl
              rotate_left
              · simp only [Act.put, List.setIfInBounds_toArray, List.set_cons_zero, List.set_cons_succ, i64_w, i32_w]
                rfl
              refine pure_ (i := 4) (N := some 80) (v := ?_) (a' := ?_) #[true, true, true, true, true, false, false, false, false, false, false, false] rfl rfl (by kernel_rfl) (fun _ _ _ h => h) (Or.inl ⟨by rfl, ?_⟩) ?_ ?_
              rotate_left
              · intro w'
                go_simp
                with_reducible rfl
              rotate_left
              · simp only [Act.put, List.setIfInBounds_toArray, List.set_cons_zero, List.set_cons_succ, i64_w, i32_w]
                rfl
              refine pure_ (i := 6) (N := some 82) (v := ?_) (a' := ?_) #[true, true, true, true, true, false, true, false, false, false, false, false] rfl rfl (by kernel_rfl) (fun _ _ _ h => h) (Or.inl ⟨by rfl, ?_⟩) ?_ ?_
              rotate_left
              · intro w'
                go_simp
                with_reducible rfl
              rotate_left
              · simp only [Act.put, List.setIfInBounds_toArray, List.set_cons_zero, List.set_cons_succ, i64_w, i32_w]
                rfl
              refine pure_ (i := 7) (N := some 83) (v := ?_) (a' := ?_) #[true, true, true, true, true, false, true, true, false, false, false, false] rfl rfl (by kernel_rfl) (fun _ _ _ h => h) (Or.inl ⟨by rfl, ?_⟩) ?_ ?_
              rotate_left
              · intro w'
                go_simp
                with_reducible rfl
              rotate_left
              · simp only [Act.put, List.setIfInBounds_toArray, List.set_cons_zero, List.set_cons_succ, i64_w, i32_w]
                rfl
              refine pure_ (i := 8) (N := some 84) (v := ?_) (a' := ?_) #[true, true, true, true, true, false, true, true, true, false, false, false] rfl rfl (by kernel_rfl) (fun _ _ _ h => h) (Or.inl ⟨by rfl, ?_⟩) ?_ ?_
              rotate_left
              · intro w'
                go_simp
                with_reducible rfl
              rotate_left
              · simp only [Act.put, List.setIfInBounds_toArray, List.set_cons_zero, List.set_cons_succ, i64_w, i32_w]
                rfl
              refine pure_ (i := 9) (N := some 85) (v := ?_) (a' := ?_) #[true, true, true, true, true, false, true, true, true, true, false, false] rfl rfl (by kernel_rfl) (fun _ _ _ h => h) (Or.inl ⟨by rfl, ?_⟩) ?_ ?_
              rotate_left
              · intro w'
                go_simp
                with_reducible rfl
              rotate_left
              · simp only [Act.put, List.setIfInBounds_toArray, List.set_cons_zero, List.set_cons_succ, i64_w, i32_w]
                rfl
              refine take_ (i := 5) (N := some 81) (v := ?_) (a' := ?_) #[true, true, true, true, true, true, true, true, true, true, false, false] rfl rfl (by kernel_rfl) (fun _ _ _ h => h) (Or.inl ⟨by rfl, ?_⟩) hHeld ?_ ?_
              rotate_left
              · rintro w' ⟨s0, s1⟩
                go_simp
                with_reducible rfl
              rotate_left
              · simp only [Act.put, List.setIfInBounds_toArray, List.set_cons_zero, List.set_cons_succ, i64_w, i32_w]
                rfl
              refine take_ (i := 10) (N := some 86) (v := ?_) (a' := ?_) #[true, true, true, true, true, true, true, true, true, true, true, false] rfl rfl (by kernel_rfl) (fun _ _ _ h => h) (Or.inl ⟨by rfl, ?_⟩) hHeld ?_ ?_
              rotate_left
              · rintro w' ⟨s0, s1⟩
                go_simp
                with_reducible rfl
              rotate_left
              · simp only [Act.put, List.setIfInBounds_toArray, List.set_cons_zero, List.set_cons_succ, i64_w, i32_w]
                rfl
              refine last_ (i := 11) (N := some 87) #[true, true, true, true, true, true, true, true, true, true, true, true] rfl rfl (by kernel_rfl) (by decide) (fun K hK => ?_)
              refine goes_ Try.func21 (by kernel_rfl) rfl #[.pointer (some ⟨gm, 0, none⟩), .int .i64 x.file, .slice Ab0 x.b.length cb0] (by rfl) rfl rfl (by simp only [List.map_toArray, List.map_cons, List.map_nil]; rfl) ?_
              with_reducible refine (ref_Append.bad Sm gm (logAt l j) x.file x.b Ab0 cb0 wr.drew HH.out).mono ?_
              rintro e w3 ⟨rfl, hw3⟩
              refine ⟨_, rfl, ?_⟩
              have hw4 := hw3.symm
              clear hw3
              subst hw4
              refine hK.out _ _ ?_
              clear hK K
              refine norm_ (a' := ?_) ?_ ?_
              rotate_left
              · show Act.put _ (some 87) _ = _
                simp only [Act.put, List.setIfInBounds_toArray, List.set_cons_zero, List.set_cons_succ, i64_w, i32_w]
                rfl
              refine done_ (by kernel_rfl) ?_
              go_wp2_with fail
              go_roundg k1_
              case measure => omega
              case rel => exact ⟨j + 1, by first | rfl | (congr 1; have := HCJ.out; unfold wrap64; omega), ⟨by have := HJ.out; omega⟩, ⟨HDA.out.drewN 1⟩, ⟨by rw [HLE.out]; exact HRD1.out⟩, ⟨pw_below_drewN HBJ.out 1⟩, HLJ2⟩
            | true =>
              have hn : 0 ≤ x.file ∧ x.file < 4 := of_decide_eq_true hh
              obtain ⟨n, hfn⟩ : ∃ n : Nat, x.file = (n : Int) := ⟨x.file.toNat, by omega⟩
              have HN4 := Aside0.mk (show n < 4 by omega)
              have HLE := Aside0.mk (show logAt l (j + 1) = logAt l j ++ x.b.map fun c => (n, c) by rw [HLS.out]; unfold log1; rw [if_pos ⟨HCK.out, hh⟩, hfn, Int.toNat_natCast])
              rw [hfn] at k1
              have HLL := Aside0.mk (show (logAt l j).length ≤ 1099511627776 by have := HLJ.out; have := HCJ.out; omega)
              have HXL := Aside0.mk (show x.b.length ≤ 1099511627776 by have := HXB.out; omega)
              have HLF := Aside0.mk (show ¬ refLeft (logAt l j) < (x.b.length : Int) by have h1 := refLeft_some (L := logAt l j) (by have := HLJ.out; have := HCJ.out; omega); have h2 := HXB.out; omega)
              clear hh hn hfn
              refine start_ (n := 12) (S := fun w' => w'.cell? ⟨(ad.add (j * 4)).block, (ad.add (j * 4)).off + 1, none⟩ = some (.int .i64 (n : Int)) ∧ w'.cell? ⟨(ad.add (j * 4)).block, (ad.add (j * 4)).off + 3, none⟩ = some (.slice Ab0 x.b.length cb0)) (ds := [11]) #[false, false, false, false, false, false, false, false, false, false, false, false] (by kernel_rfl) rfl rfl ⟨k1, k3⟩ (fun hHeld => ?_)
              refine pure_ (i := 0) (N := some 76) (v := ?_) (a' := ?_) #[true, false, false, false, false, false, false, false, false, false, false, false] rfl rfl (by kernel_rfl) (fun _ _ _ h => h) (Or.inl ⟨by rfl, ?_⟩) ?_ ?_
              rotate_left
              · intro w'
                go_simp
                with_reducible rfl
              rotate_left
              · simp only [Act.put, List.setIfInBounds_toArray, List.set_cons_zero, List.set_cons_succ, i64_w, i32_w]
                rfl
              refine pure_ (i := 1) (N := some 77) (v := ?_) (a' := ?_) #[true, true, false, false, false, false, false, false, false, false, false, false] rfl rfl (by kernel_rfl) (fun _ _ _ h => h) (Or.inl ⟨by rfl, ?_⟩) ?_ ?_
              rotate_left
              · intro w'
                go_simp
                with_reducible rfl
              rotate_left
              · simp only [Act.put, List.setIfInBounds_toArray, List.set_cons_zero, List.set_cons_succ, i64_w, i32_w]
                rfl
              refine pure_ (i := 2) (N := some 78) (v := ?_) (a' := ?_) #[true, true, true, false, false, false, false, false, false, false, false, false] rfl rfl (by kernel_rfl) (fun _ _ _ h => h) (Or.inl ⟨by rfl, ?_⟩) ?_ ?_
              rotate_left
              · intro w'
                go_simp
                with_reducible rfl
              rotate_left
              · simp only [Act.put, List.setIfInBounds_toArray, List.set_cons_zero, List.set_cons_succ, i64_w, i32_w]
                rfl
              refine pure_ (i := 3) (N := some 79) (v := ?_) (a' := ?_) #[true, true, true, true, false, false, false, false, false, false, false, false] rfl rfl (by kernel_rfl) (fun _ _ _ h => h) (Or.inl ⟨by rfl, ?_⟩) ?_ ?_
              rotate_left
              · intro w'
                go_simp
                with_reducible rfl
              rotate_left
              · simp only [Act.put, List.setIfInBounds_toArray, List.set_cons_zero, List.set_cons_succ, i64_w, i32_w]
                rfl
              refine pure_ (i := 4) (N := some 80) (v := ?_) (a' := ?_) #[true, true, true, true, true, false, false, false, false, false, false, false] rfl rfl (by kernel_rfl) (fun _ _ _ h => h) (Or.inl ⟨by rfl, ?_⟩) ?_ ?_
              rotate_left
              · intro w'
                go_simp
                with_reducible rfl
              rotate_left
              · simp only [Act.put, List.setIfInBounds_toArray, List.set_cons_zero, List.set_cons_succ, i64_w, i32_w]
                rfl
              refine pure_ (i := 6) (N := some 82) (v := ?_) (a' := ?_) #[true, true, true, true, true, false, true, false, false, false, false, false] rfl rfl (by kernel_rfl) (fun _ _ _ h => h) (Or.inl ⟨by rfl, ?_⟩) ?_ ?_
              rotate_left
              · intro w'
                go_simp
                with_reducible rfl
              rotate_left
              · simp only [Act.put, List.setIfInBounds_toArray, List.set_cons_zero, List.set_cons_succ, i64_w, i32_w]
                rfl
              refine pure_ (i := 7) (N := some 83) (v := ?_) (a' := ?_) #[true, true, true, true, true, false, true, true, false, false, false, false] rfl rfl (by kernel_rfl) (fun _ _ _ h => h) (Or.inl ⟨by rfl, ?_⟩) ?_ ?_
              rotate_left
              · intro w'
                go_simp
                with_reducible rfl
              rotate_left
              · simp only [Act.put, List.setIfInBounds_toArray, List.set_cons_zero, List.set_cons_succ, i64_w, i32_w]
                rfl
              refine pure_ (i := 8) (N := some 84) (v := ?_) (a' := ?_) #[true, true, true, true, true, false, true, true, true, false, false, false] rfl rfl (by kernel_rfl) (fun _ _ _ h => h) (Or.inl ⟨by rfl, ?_⟩) ?_ ?_
              rotate_left
              · intro w'
                go_simp
                with_reducible rfl
              rotate_left
              · simp only [Act.put, List.setIfInBounds_toArray, List.set_cons_zero, List.set_cons_succ, i64_w, i32_w]
                rfl
              refine pure_ (i := 9) (N := some 85) (v := ?_) (a' := ?_) #[true, true, true, true, true, false, true, true, true, true, false, false] rfl rfl (by kernel_rfl) (fun _ _ _ h => h) (Or.inl ⟨by rfl, ?_⟩) ?_ ?_
              rotate_left
              · intro w'
                go_simp
                with_reducible rfl
              rotate_left
              · simp only [Act.put, List.setIfInBounds_toArray, List.set_cons_zero, List.set_cons_succ, i64_w, i32_w]
                rfl
              refine take_ (i := 5) (N := some 81) (v := ?_) (a' := ?_) #[true, true, true, true, true, true, true, true, true, true, false, false] rfl rfl (by kernel_rfl) (fun _ _ _ h => h) (Or.inl ⟨by rfl, ?_⟩) hHeld ?_ ?_
              rotate_left
              · rintro w' ⟨s0, s1⟩
                go_simp
                with_reducible rfl
              rotate_left
              · simp only [Act.put, List.setIfInBounds_toArray, List.set_cons_zero, List.set_cons_succ, i64_w, i32_w]
                rfl
              refine take_ (i := 10) (N := some 86) (v := ?_) (a' := ?_) #[true, true, true, true, true, true, true, true, true, true, true, false] rfl rfl (by kernel_rfl) (fun _ _ _ h => h) (Or.inl ⟨by rfl, ?_⟩) hHeld ?_ ?_
              rotate_left
              · rintro w' ⟨s0, s1⟩
                go_simp
                with_reducible rfl
              rotate_left
              · simp only [Act.put, List.setIfInBounds_toArray, List.set_cons_zero, List.set_cons_succ, i64_w, i32_w]
                rfl
              refine last_ (i := 11) (N := some 87) #[true, true, true, true, true, true, true, true, true, true, true, true] rfl rfl (by kernel_rfl) (by decide) (fun K hK => ?_)
              refine goes_ Try.func21 (by kernel_rfl) rfl #[.pointer (some ⟨gm, 0, none⟩), .int .i64 (n : Int), .slice Ab0 x.b.length cb0] (by rfl) rfl rfl (by simp only [List.map_toArray, List.map_cons, List.map_nil]; rfl) ?_
              with_reducible refine (ref_Append.calls Sm gm (logAt l j) n x.b Ab0 cb0 wr.drew HRD1.out HN4.out (fun W hW => HRB.out W hW) HLL.out HXL.out HLF.out).mono ?_
              rintro e w3 ⟨rfl, hr3, hf3⟩
              refine ⟨_, rfl, ?_⟩
              have HR3 := Aside0.mk hr3
              have HF3 := Aside0.mk hf3
              clear hr3 hf3
              refine hK.out _ _ ?_
              clear hK K
              refine norm_ (a' := ?_) ?_ ?_
              rotate_left
              · show Act.put _ (some 87) _ = _
                simp only [Act.put, List.setIfInBounds_toArray, List.set_cons_zero, List.set_cons_succ, i64_w, i32_w]
                rfl
              refine done_ (by kernel_rfl) ?_
              go_wp2_with fail
              go_roundg k1_
              case measure => omega
              case rel => exact ⟨j + 1, by first | rfl | (congr 1; have := HCJ.out; unfold wrap64; omega), ⟨by have := HJ.out; omega⟩, ⟨(HDA.out.drewN 1).foot HF3.out (fun k hk hk2 => by rw [HSd.out] at hk; rw [HSm.out] at hk2; have := hk.2; omega)⟩, ⟨by rw [HLE.out]; exact HR3.out.mono (fun k hk => by rw [HSm.out] at hk ⊢; rcases hk with h | h; exact h; exact Nat.le_trans HSZ4.out h)⟩, ⟨(pw_below_drewN HBJ.out 1).trans (HF3.out.below (B := w.heap.size) (fun k hk => by rw [HSm.out] at hk; exact Nat.le_trans HW4.out hk) HBJ.out.size)⟩, HLJ2⟩
          · have HLE := Aside0.mk (show logAt l (j + 1) = logAt l j by rw [HLS.out]; exact again_if _ ck)
            have d1 : (x.kind == 1) = false := by simp [ck]
            have d3 : (x.kind = 1) = False := eq_false ck
            clear hx ha ha0 hxb ck cj
            go_wp2_with fail
            go_roundg k1_
            case measure => omega
            case rel => exact ⟨j + 1, by first | rfl | (congr 1; have := HCJ.out; unfold wrap64; omega), ⟨by have := HJ.out; omega⟩, HDA, ⟨by rw [HLE.out]; exact HRM.out⟩, HBJ, HLJ2⟩
        · have c0' : decide ((j : Int) < (N : Int)) = false := decide_eq_false (by omega)
          have c0'' : decide (j < N) = false := decide_eq_false cj
          have hj : j = N := by have := HJ.out; omega
          have HRN := Aside0.mk (show RefAt Sm wr gm (logAt l N) by rw [← hj]; exact HRM.out)
          have HSZ4 := Aside0.mk (show w4.heap.size ≤ wr.heap.size by obtain ⟨wv, deeds, m⟩ := HRM.out.out; have h1 := m.sg; rw [HSm.out] at h1; have h2 := m.lt; exact Nat.le_trans h1 (Nat.le_of_lt h2))
          obtain ⟨L, hL⟩ : ∃ L, L = logAt l N := ⟨_, rfl⟩
          rw [← hL] at HRN HLN HCF
          obtain ⟨Dc, hDc⟩ : ∃ Dc, Dc = D1.crash keep := ⟨_, rfl⟩
          have HCR := Aside0.mk (by
            have h := disk_Crash.calls Sd g D1 keep wr HDA.out HFIT.out
            rw [← hDc] at h
            exact h)
          rw [← hDc] at HCF HCD
          clear hj hL hDc cj
          go_upto_region 23 with (first | (go_at_call 22; (with_reducible refine (HCR.out).mono ?_); rintro e w6 ⟨rfl, hd6, hf6⟩; have HD6 := Aside0.mk hd6; have HF6 := Aside0.mk hf6; have HRX := Aside0.mk (HRN.out.bound.move (w1 := w6) (fun k hk _ => hf6.block k hk.2 (fun h => by rw [HSd.out] at h; have h1 := hk.1; rw [HSm.out] at h1; have := h.2; omega))); clear hd6 hf6) | (go_at_call 23; (with_reducible refine (ref_Now.calls _ gm L _ HRX.out (by have := HLN.out; omega)).mono ?_); rintro e w7 ⟨V, rfl, hv7, hb7⟩; have HV7 := Aside0.mk hv7; have HB67 := Aside0.mk hb7; obtain ⟨Aq0, d0, e0, _⟩ := (hv7.row 0 (by omega)).slice; obtain ⟨Aq1, d1, e1, _⟩ := (hv7.row 1 (by omega)).slice; obtain ⟨Aq2, d2, e2, _⟩ := (hv7.row 2 (by omega)).slice; obtain ⟨Aq3, d3, e3, _⟩ := (hv7.row 3 (by omega)).slice; rw [show arr4 V = #[.slice Aq0 (logB L 0).length d0, .slice Aq1 (logB L 1).length d1, .slice Aq2 (logB L 2).length d2, .slice Aq3 (logB L 3).length d3] by unfold arr4; rw [e0, e1, e2, e3]]; have HE := Aside0.mk (And.intro e0 (And.intro e1 (And.intro e2 e3))); clear hv7 hb7 e0 e1 e2 e3))
          obtain ⟨LF, hLF⟩ : ∃ k, k = w7.heap.size := ⟨_, rfl⟩
          rw [← hLF]
          obtain ⟨w8, hw8⟩ : ∃ W, W = w7.alloc (.cells #[.slice Aq0 (logB L 0).length d0, .slice Aq1 (logB L 1).length d1, .slice Aq2 (logB L 2).length d2, .slice Aq3 (logB L 3).length d3] 45) := ⟨_, rfl⟩
          rw [← hw8]
          have b78 : Below w7.heap.size w7 w8 := by rw [hw8]; exact below_alloc (Below.refl _ _) _
          have HF8 : Aside0 (w8.heap[LF]? = some (.cells (arr4 V) 45 (0, 0))) := ⟨by
            rw [hw8, hLF, show arr4 V = #[.slice Aq0 (logB L 0).length d0, .slice Aq1 (logB L 1).length d1, .slice Aq2 (logB L 2).length d2, .slice Aq3 (logB L 3).length d3] by unfold arr4; rw [HE.out.1, HE.out.2.1, HE.out.2.2.1, HE.out.2.2.2]]
            exact blk_new w7 _⟩
          have HV8 := Aside0.mk (HV7.out.move (fun i hi k hk => b78.block k ((HV7.out.row i hi).lt k hk)))
          have HD8 := Aside0.mk ((HD6.out.below HB67.out).below b78)
          have HB6' : Below w.heap.size w w6 := HBJ.out.trans (HF6.out.below (B := w.heap.size) (fun k hk => by rw [HSd.out] at hk; exact hk.1) HBJ.out.size)
          have HB8 : Aside0 (Below w.heap.size w w8) := ⟨below_then (below_then HB6' HB6'.size HB67.out) (below_then HB6' HB6'.size HB67.out).size b78⟩
          have HDX := Aside0.mk (show ∀ W, Below w8.heap.size w8 W → DiskAt _ W g Dc from fun W hW => HD8.out.below hW)
          have HVX := Aside0.mk (show ∀ W, Below w8.heap.size w8 W → ∀ i, i < 4 → Buf 5 1 W (V i) (logB L i).length (nums .u8 (logB L i)) from fun W hW i hi => (HV8.out.row i hi).below hW)
          have HLG := Aside0.mk (show ∀ i, (Dc.files i).length ≤ 1099511627776 from fun i => by rw [HCF.out]; have h1 := logB_length L i; have h2 := HLN.out; omega)
          clear hw8 hLF b78 HB6'
          go_wp2_with fail
          go_loopg [12] 4 (fun kq v12 w' => ∃ (i : Nat), v12 = .int .i64 (i : Int) ∧ Aside0 (i + kq = 4) ∧ Aside0 (Below w8.heap.size w8 w'))
          case atStart => exact ⟨0, rfl, ⟨by omega⟩, ⟨Below.refl _ _⟩⟩
          case round =>
            obtain ⟨i, rfl, HI3, HBK⟩ := hrel
            by_cases ci : i < 4
            · have c1 : decide ((i : Int) < 4) = true := decide_eq_true (by omega)
              have c2 : decide (i < 4) = true := decide_eq_true ci
              obtain ⟨k1_, rfl⟩ : ∃ k1, gk = k1 + 1 := ⟨gk - 1, by have := HI3.out; omega⟩
              have r0 : (0 ≤ (i : Int)) = True := eq_true (by omega)
              have r1 : ((i : Int) < 4) = True := eq_true (by omega)
              have r2 : (i < 4) = True := eq_true ci
              have HCI3 := Aside0.mk ci
              have HBS := Aside0.mk (show Dc.files i = logB L i by rw [HCF.out])
              obtain ⟨bs, hbs⟩ : ∃ bs, bs = logB L i := ⟨_, rfl⟩
              rw [← hbs] at HBS
              obtain ⟨AV, cV, hVe, _⟩ := (HV8.out.row i ci).slice
              rw [← hbs] at hVe
              have HVE := Aside0.mk hVe
              have HVY := Aside0.mk (show ∀ W, Below w8.heap.size w8 W → Buf 5 1 W (.slice AV bs.length cV) bs.length (nums .u8 bs) from fun W hW => by have h := HVX.out W hW i ci; rw [← hbs, hVe] at h; exact h)
              have HFX := Aside0.mk (show ∀ W, Below w8.heap.size w8 W → W.cell? ⟨LF, i, none⟩ = some (.slice AV bs.length cV) from fun W hW => (hW.cell (p := ⟨LF, i, none⟩) (blk_lt HF8.out)).trans ((blk_cell HF8.out i).trans ((arr4_get V i ci).trans (by rw [hVe]))))
              clear hVe ci hbs
              go_upto_region 27 with (go_at_call 24; (with_reducible refine (disk_Read.calls _ g Dc i HCI3.out HCD.out _ (HDX.out wr HBK.out) (HLG.out i)).mono ?_); rintro e w9 ⟨v, rfl, hv9, hk9, hb9, _⟩; rw [HBS.out] at hv9; have HB9 := Aside0.mk (below_then HBK.out HBK.out.size hb9); obtain ⟨Av, cv, hve, _⟩ := hv9.slice; subst hve; have HV9 := Aside0.mk hv9; have HK9 := Aside0.mk hk9; clear hv9 hk9 hb9)
              have cA : (convert 37 9 (.slice Av bs.length cv)).run Try.prog w9.drew = .ok (.string (strOfNums bs)) w9.drew := conv_str _ _ _ _ _ (HV9.out.drewN 1)
              have cB : (convert 37 9 (.slice AV bs.length cV)).run Try.prog w9.drew = .ok (.string (strOfNums bs)) w9.drew := conv_str _ _ _ _ _ ((HVY.out w9 HB9.out).drewN 1)
              have kF : w9.cell? ⟨LF, i, none⟩ = some (.slice AV bs.length cV) := HFX.out w9 HB9.out
              refine start_ (n := 7) (S := fun w' => w'.cell? ⟨LF, i, none⟩ = some (.slice AV bs.length cV) ∧ (convert 37 9 (.slice Av bs.length cv)).run Try.prog w' = .ok (.string (strOfNums bs)) w' ∧ (convert 37 9 (.slice AV bs.length cV)).run Try.prog w' = .ok (.string (strOfNums bs)) w') (ds := []) #[false, false, false, false, false, false, false] (by kernel_rfl) rfl rfl ⟨kF, cA, cB⟩ (fun hHeld => ?_)
              refine pure_ (i := 0) (N := some 103) (v := ?_) (a' := ?_) #[true, false, false, false, false, false, false] rfl rfl (by kernel_rfl) (fun _ _ _ h => h) (Or.inl ⟨by rfl, ?_⟩) ?_ ?_
              rotate_left
              · intro w'
                go_simp
                with_reducible rfl
              rotate_left
              · simp only [Act.put, List.setIfInBounds_toArray, List.set_cons_zero, List.set_cons_succ, i64_w, i32_w]
                rfl
              refine pure_ (i := 2) (N := some 105) (v := ?_) (a' := ?_) #[true, false, true, false, false, false, false] rfl rfl (by kernel_rfl) (fun _ _ _ h => h) (Or.inl ⟨by rfl, ?_⟩) ?_ ?_
              rotate_left
              · intro w'
                go_simp
                with_reducible rfl
              rotate_left
              · simp only [Act.put, List.setIfInBounds_toArray, List.set_cons_zero, List.set_cons_succ, i64_w, i32_w]
                rfl
              refine pure_ (i := 3) (N := some 106) (v := ?_) (a' := ?_) #[true, false, true, true, false, false, false] rfl rfl (by kernel_rfl) (fun _ _ _ h => h) (Or.inl ⟨by rfl, ?_⟩) ?_ ?_
              rotate_left
              · intro w'
                go_simp
                with_reducible rfl
              rotate_left
              · simp only [Act.put, List.setIfInBounds_toArray, List.set_cons_zero, List.set_cons_succ, i64_w, i32_w]
                rfl
              refine take_ (i := 1) (N := some 104) (v := ?_) (a' := ?_) #[true, true, true, true, false, false, false] rfl rfl (by kernel_rfl) (fun _ _ _ h => h) (Or.inl ⟨by rfl, ?_⟩) hHeld ?_ ?_
              rotate_left
              · rintro w' ⟨s0, s1, s2⟩
                go_simp
                with_reducible rfl
              rotate_left
              · simp only [Act.put, List.setIfInBounds_toArray, List.set_cons_zero, List.set_cons_succ, i64_w, i32_w]
                rfl
              refine take_ (i := 4) (N := some 107) (v := ?_) (a' := ?_) #[true, true, true, true, true, false, false] rfl rfl (by kernel_rfl) (fun _ _ _ h => h) (Or.inl ⟨by rfl, ?_⟩) hHeld ?_ ?_
              rotate_left
              · rintro w' ⟨s0, s1, s2⟩
                go_simp
                with_reducible rfl
              rotate_left
              · simp only [Act.put, List.setIfInBounds_toArray, List.set_cons_zero, List.set_cons_succ, i64_w, i32_w]
                rfl
              refine take_ (i := 5) (N := some 108) (v := ?_) (a' := ?_) #[true, true, true, true, true, true, false] rfl rfl (by kernel_rfl) (fun _ _ _ h => h) (Or.inl ⟨by rfl, ?_⟩) hHeld ?_ ?_
              rotate_left
              · rintro w' ⟨s0, s1, s2⟩
                go_simp
                with_reducible rfl
              rotate_left
              · simp only [Act.put, List.setIfInBounds_toArray, List.set_cons_zero, List.set_cons_succ, i64_w, i32_w]
                rfl
              refine pure_ (i := 6) (N := some 109) (v := ?_) (a' := ?_) #[true, true, true, true, true, true, true] rfl rfl (by kernel_rfl) (fun _ _ _ h => h) (Or.inl ⟨by rfl, ?_⟩) ?_ ?_
              rotate_left
              · intro w'
                go_simp
                with_reducible rfl
              rotate_left
              · simp only [Act.put, List.setIfInBounds_toArray, List.set_cons_zero, List.set_cons_succ, i64_w, i32_w]
                rfl
              refine done_ (by kernel_rfl) ?_
              by_cases cl : 0 < bs.length
              · have d1 : decide ((0 : Int) < (bs.length : Int)) = true := decide_eq_true (by omega)
                have d2 : decide (0 < bs.length) = true := decide_eq_true cl
                obtain ⟨kb, hkb⟩ : ∃ kb, Av = some ⟨kb, 0, none⟩ := by
                  rcases HV9.out.2 with ⟨_, h2⟩ | ⟨b2, _, _, h2, _⟩
                  · omega
                  · injection h2 with h2 _ _
                    exact ⟨b2, h2⟩
                subst hkb
                have q9 : (0 < bs.length) = True := eq_true cl
                have q8 : ((0 : Int) < (bs.length : Int)) = True := eq_true (by omega)
                have kz0 : w9.cell? ⟨kb, 0, none⟩ = some (.int .u8 (bs.getD 0 0)) := by
                  have h := HV9.out.cells _ rfl 0 (.int .u8 (bs.getD 0 0)) (by unfold nums; rw [List.getElem?_map, List.getElem?_eq_getElem (by omega), List.getD_eq_getElem?_getD, List.getElem?_eq_getElem (by omega)]; rfl)
                  rwa [add_at] at h
                have zz0 : w9.frozen? ⟨kb, 0, none⟩ = false := by
                  obtain ⟨cc, hcc⟩ := HV9.out.typed kb rfl
                  exact blk_frozen hcc 0
                have HKB := Aside0.mk (show w8.heap.size ≤ kb from Nat.le_trans HBK.out.size (HK9.out kb rfl))
                clear cl cA cB kF
                go_upto_region 32 with (go_at_call 24; (with_reducible refine (disk_Read.calls _ g Dc i HCI3.out HCD.out _ (HDX.out _ (below_drew (HB9.out.setCell (p := ⟨kb, 0, none⟩) HKB.out _))) (HLG.out i)).mono ?_); rintro e w11 ⟨v, rfl, hv11, hk11, hb11, _⟩; rw [HBS.out] at hv11; have HB11 : Aside0 (Below w8.heap.size w8 w11) := ⟨below_then (below_drew (HB9.out.setCell (p := ⟨kb, 0, none⟩) HKB.out _)) (below_drew (HB9.out.setCell (p := ⟨kb, 0, none⟩) HKB.out _)).size hb11⟩; obtain ⟨Av2, cv2, hve, _⟩ := hv11.slice; subst hve; have HV11 := Aside0.mk hv11; clear hv11 hk11 hb11)
                have cA : (convert 37 9 (.slice Av2 bs.length cv2)).run Try.prog w11.drew = .ok (.string (strOfNums bs)) w11.drew := conv_str _ _ _ _ _ (HV11.out.drewN 1)
                have cB : (convert 37 9 (.slice AV bs.length cV)).run Try.prog w11.drew = .ok (.string (strOfNums bs)) w11.drew := conv_str _ _ _ _ _ ((HVY.out w11 HB11.out).drewN 1)
                have kF : w11.cell? ⟨LF, i, none⟩ = some (.slice AV bs.length cV) := HFX.out w11 HB11.out
                refine start_ (n := 7) (S := fun w' => w'.cell? ⟨LF, i, none⟩ = some (.slice AV bs.length cV) ∧ (convert 37 9 (.slice Av2 bs.length cv2)).run Try.prog w' = .ok (.string (strOfNums bs)) w' ∧ (convert 37 9 (.slice AV bs.length cV)).run Try.prog w' = .ok (.string (strOfNums bs)) w') (ds := []) #[false, false, false, false, false, false, false] (by kernel_rfl) rfl rfl ⟨kF, cA, cB⟩ (fun hHeld => ?_)
                refine pure_ (i := 0) (N := some 125) (v := ?_) (a' := ?_) #[true, false, false, false, false, false, false] rfl rfl (by kernel_rfl) (fun _ _ _ h => h) (Or.inl ⟨by rfl, ?_⟩) ?_ ?_
                rotate_left
                · intro w'
                  go_simp
                  with_reducible rfl
                rotate_left
                · simp only [Act.put, List.setIfInBounds_toArray, List.set_cons_zero, List.set_cons_succ, i64_w, i32_w]
                  rfl
                refine pure_ (i := 2) (N := some 127) (v := ?_) (a' := ?_) #[true, false, true, false, false, false, false] rfl rfl (by kernel_rfl) (fun _ _ _ h => h) (Or.inl ⟨by rfl, ?_⟩) ?_ ?_
                rotate_left
                · intro w'
                  go_simp
                  with_reducible rfl
                rotate_left
                · simp only [Act.put, List.setIfInBounds_toArray, List.set_cons_zero, List.set_cons_succ, i64_w, i32_w]
                  rfl
                refine pure_ (i := 3) (N := some 128) (v := ?_) (a' := ?_) #[true, false, true, true, false, false, false] rfl rfl (by kernel_rfl) (fun _ _ _ h => h) (Or.inl ⟨by rfl, ?_⟩) ?_ ?_
                rotate_left
                · intro w'
                  go_simp
                  with_reducible rfl
                rotate_left
                · simp only [Act.put, List.setIfInBounds_toArray, List.set_cons_zero, List.set_cons_succ, i64_w, i32_w]
                  rfl
                refine take_ (i := 1) (N := some 126) (v := ?_) (a' := ?_) #[true, true, true, true, false, false, false] rfl rfl (by kernel_rfl) (fun _ _ _ h => h) (Or.inl ⟨by rfl, ?_⟩) hHeld ?_ ?_
                rotate_left
                · rintro w' ⟨s0, s1, s2⟩
                  go_simp
                  with_reducible rfl
                rotate_left
                · simp only [Act.put, List.setIfInBounds_toArray, List.set_cons_zero, List.set_cons_succ, i64_w, i32_w]
                  rfl
                refine take_ (i := 4) (N := some 129) (v := ?_) (a' := ?_) #[true, true, true, true, true, false, false] rfl rfl (by kernel_rfl) (fun _ _ _ h => h) (Or.inl ⟨by rfl, ?_⟩) hHeld ?_ ?_
                rotate_left
                · rintro w' ⟨s0, s1, s2⟩
                  go_simp
                  with_reducible rfl
                rotate_left
                · simp only [Act.put, List.setIfInBounds_toArray, List.set_cons_zero, List.set_cons_succ, i64_w, i32_w]
                  rfl
                refine take_ (i := 5) (N := some 130) (v := ?_) (a' := ?_) #[true, true, true, true, true, true, false] rfl rfl (by kernel_rfl) (fun _ _ _ h => h) (Or.inl ⟨by rfl, ?_⟩) hHeld ?_ ?_
                rotate_left
                · rintro w' ⟨s0, s1, s2⟩
                  go_simp
                  with_reducible rfl
                rotate_left
                · simp only [Act.put, List.setIfInBounds_toArray, List.set_cons_zero, List.set_cons_succ, i64_w, i32_w]
                  rfl
                refine pure_ (i := 6) (N := some 131) (v := ?_) (a' := ?_) #[true, true, true, true, true, true, true] rfl rfl (by kernel_rfl) (fun _ _ _ h => h) (Or.inl ⟨by rfl, ?_⟩) ?_ ?_
                rotate_left
                · intro w'
                  go_simp
                  with_reducible rfl
                rotate_left
                · simp only [Act.put, List.setIfInBounds_toArray, List.set_cons_zero, List.set_cons_succ, i64_w, i32_w]
                  rfl
                refine done_ (by kernel_rfl) ?_
                go_wp2_with fail
                go_roundg k1_
                case measure => omega
                case rel => exact ⟨i + 1, by first | rfl | (congr 1; have := HCI3.out; unfold wrap64; omega), ⟨by have := HI3.out; omega⟩, ⟨pw_below_drewN HB11.out 1⟩⟩
              · have d1 : decide ((0 : Int) < (bs.length : Int)) = false := decide_eq_false (by omega)
                have d2 : decide (0 < bs.length) = false := decide_eq_false cl
                clear cl cA cB kF
                go_wp2_with fail
                go_roundg k1_
                case measure => omega
                case rel => exact ⟨i + 1, by first | rfl | (congr 1; have := HCI3.out; unfold wrap64; omega), ⟨by have := HI3.out; omega⟩, ⟨pw_below_drewN HB9.out 1⟩⟩
            · have c1 : decide ((i : Int) < 4) = false := decide_eq_false (by omega)
              have c2 : decide (i < 4) = false := decide_eq_false ci
              clear ci
              go_wp2_with fail
              go_ret
              exact ⟨rfl, below_then HB8.out HB8.out.size HBK.out⟩
theorem diskAgain_calls (A0 : Option Addr) (c0 : Nat) (l : List ActV) (keep : Int) (w : World) (h0 : Acts w A0 l) (hnil : ActNil w A0 l.length) : Calls Try.prog 5 #[.slice A0 l.length c0, .int .i64 keep] w fun e w' => e = .returned (.bool true) ∧ Below w.heap.size w w' := by
  cases hl0 : longB l with
  | true => exact diskAgain_long A0 c0 l keep w h0 hnil hl0
  | false => exact diskAgain_short A0 c0 l keep w h0 hnil hl0
end Go.Proofs.Ytfkkekdpfkglbaa.Q
