/- The net: New tells what may not be; Cut, once more; the chapter's example. Conditions: as typed. -/
import Derived.Test.YtfkkekdpfkglbaaNetNew
namespace Go.Proofs.Ytfkkekdpfkglbaa.Q
open Go.RowKit Go.Proofs.YtfkkekdpfkglbaaW.PrintWords Go.Proofs.YtfkkekdpfkglbaaW.PrintLast Go.Proofs.YtfkkekdpfkglbaaW.PrintMore
set_option linter.unusedVariables false
set_option linter.unusedSimpArgs false
set_option maxHeartbeats 4000000 in
set_option maxRecDepth 100000 in
theorem net_New.bad (A0 A1 : Option Addr) (c0 c1 : Nat) (re im : List Int) (w : World) (h0 : Kd.C (Kd.int .i64) w A0 re.length re) (h1 : Kd.C (Kd.int .i64) w A1 im.length im) (hc0 : re.length ≤ c0) (hc1 : im.length ≤ c1)
    (hl : re.length = im.length) (hl0 : 1 ≤ re.length) (hl1 : re.length ≤ 6) (m : Nat) (hm : m < re.length) (hbad : okP (rd re (m : Int)) (rd im (m : Int)) = false) (hok : ∀ i : Nat, i < m → okP (rd re (i : Int)) (rd im (i : Int)) = true) :
    Calls Try.prog 12 #[.slice A0 re.length c0, .slice A1 im.length c1] w fun e w' => e = .returned (.tuple #[.pointer none, .int .i64 2]) ∧ Below w.heap.size w w' := by
  rw [← hl] at h1
  have HR0 := Aside0.mk h0
  have HR1 := Aside0.mk h1
  have HK := Aside0.mk hok
  have HF := Aside0.mk hbad
  have l1 : (re.length : Int) < 1 ↔ False := ⟨fun h => by omega, fun h => h.elim⟩
  have l2 : (6 : Int) < (re.length : Int) ↔ False := ⟨fun h => by omega, fun h => h.elim⟩
  clear h0 h1 hok hbad
  obtain ⟨n, hn⟩ : ∃ n, n = re.length := ⟨_, rfl⟩
  rw [← hl, ← hn]
  rw [← hn] at l1 l2 hc0 hl0 hl1 HR0 HR1 hm
  rw [← hl, ← hn] at hc1
  have HN := Aside0.mk hn
  clear hl hn
  obtain ⟨G, hG⟩ : ∃ G, w.heap.size = G := ⟨_, rfl⟩
  go_enter Try.func12, Try.ntmps12
  go_wp2_with fail
  have hb := blk_new w (.cells #[.slice none 0 0, .slice none 0 0, .complex .f64 0 0, .int .i64 0] 95)
  have HA := Aside0.mk (show NetAt (w.alloc (.cells #[.slice none 0 0, .slice none 0 0, .complex .f64 0 0, .int .i64 0] 95)) G (pts re im 0) (0, 0) 0 from ⟨.slice none 0 0, hG ▸ hb, World.ownsRow_nil _ _ _ _⟩)
  have HB := Aside0.mk (below_alloc (Below.refl _ w) (.cells #[.slice none 0 0, .slice none 0 0, .complex .f64 0 0, .int .i64 0] 95))
  clear hb l1 l2
  rw [hG] at HB
  have HG := Aside0.mk hG
  clear hG
  go_loopg [29] n (fun kq v29 w' => ∃ i : Nat, v29 = .int .i64 (i : Int) ∧ Aside0 (i + kq = n ∧ i ≤ m) ∧ Aside0 (NetAt w' G (pts re im i) (0, 0) 0) ∧ Aside0 (Below G w w'))
  case atStart => exact ⟨0, rfl, ⟨by omega⟩, HA, HB⟩
  case round =>
    clear HA HB
    obtain ⟨i, rfl, HI, HA, HB⟩ := hrel
    have him := HI.out.2
    have ci : i < n := by omega
    have c0 : decide ((i : Int) < (n : Int)) = true := decide_eq_true (by omega)
    have hbw : Below w.heap.size w wr := by rw [HG.out]; exact HB.out
    obtain ⟨ad0, e0, hx0⟩ := Kd.at_int (Kd.C_below HR0.out hbw) (i : Int) (by omega) (by omega)
    cases e0
    obtain ⟨ad1, e1, hx1⟩ := Kd.at_int (Kd.C_below HR1.out hbw) (i : Int) (by omega) (by omega)
    cases e1
    rw [Int.toNat_natCast] at hx0 hx1
    have hO := of_eq (rd re (i : Int)) (rd im (i : Int))
    have hS := small_eq (zOf (rd re (i : Int)) (rd im (i : Int)))
    have p0 : (0 ≤ (i : Int)) = True := eq_true (by omega)
    have q0 : ((i : Int) < (n : Int)) = True := eq_true (by omega)
    by_cases hi : i < m
    · have hok := HK.out i hi
      unfold okP cutOk at hok
      have hok2 := Bool.and_eq_true_iff.1 hok
      have hcz : cOf (rd re (i : Int)) (rd im (i : Int)) = 0 := of_decide_eq_true hok2.1
      rw [hcz] at hO
      rw [hok2.2] at hS
      have HO := Aside0.mk hO
      have HS := Aside0.mk hS
      have hpt := Aside0.mk (pts_succ re im i)
      obtain ⟨k1, rfl⟩ : ∃ k1, gk = k1 + 1 := ⟨gk - 1, by have := HI.out; omega⟩
      obtain ⟨v, ho, k0, _, _, _, kf⟩ := HA.out.cell
      have kf0 := kf 0
      have HW := Aside0.mk ho
      have HI2 := Aside0.mk hi
      clear hok hok2 hcz hO hS hbw ho kf hi him
      generalize zOf (rd re (i : Int)) (rd im (i : Int)) = z at *
      go_wp2
      go_quiet (exact quiet_drawn (plane_Of.calls _ _ _ _ _ HO.out))
      have hlen := Aside0.mk (show (pts re im i).length ≤ 1000 by rw [pts_length]; omega)
      have hGs := Aside0.mk (show G + 1 ≤ wr.heap.size from HA.out.lt)
      go_wp2_with (first | (go_at_call 58; (with_reducible refine (plane_Small.calls z true _ HS.out).mono ?_); rintro e w2 ⟨rfl, ⟨nd2, rfl⟩⟩) | (at_builtin; refine append_cv _ rfl _ _ rfl G v _ z rfl HW.out rfl hlen.out hGs.out ?_; intro v1 w3 ho3 hb3; have HO3 := Aside0.mk ho3; have HB3 := Aside0.mk hb3; have k3 := (hb3.cell (p := ⟨G, 0, none⟩) (by show G < G + 1; omega)).trans k0; have f3 := (hb3.frozen (p := ⟨G, 0, none⟩) (by show G < G + 1; omega)).trans kf0; obtain ⟨A9, c9, rfl⟩ := slice_of ho3; clear ho3 hb3))
      go_roundg k1
      case measure => omega
      case rel =>
        have hp := NetAt.push (HA.out.drewN (nq + nd2)) HB3.out HO3.out
        rw [← hpt.out] at hp
        exact ⟨i + 1, by first | rfl | (congr 1; have := HI.out; unfold wrap64; omega), ⟨by have := HI.out; have := HI2.out; omega⟩, ⟨hp⟩, ⟨((pw_below_drewN HB.out (nq + nd2)).trans (HB3.out.mono (by omega))).setCell (p := ⟨G, 0, none⟩) (Nat.le_refl _) _⟩⟩
    · have hi2 : i = m := by omega
      subst hi2
      have hF := HF.out
      unfold okP cutOk at hF
      have hg := HG.out
      by_cases hc : cOf (rd re (i : Int)) (rd im (i : Int)) = 0
      · rw [hc] at hO hF
        have hF2 : smB (zOf (rd re (i : Int)) (rd im (i : Int))) = false := hF
        rw [hF2] at hS
        have HO := Aside0.mk hO
        have HS := Aside0.mk hS
        clear hF hF2 HF hO hS hbw hc
        generalize zOf (rd re (i : Int)) (rd im (i : Int)) = z at *
        go_wp2
        go_quiet (exact quiet_drawn (plane_Of.calls _ _ _ _ _ HO.out))
        go_wp2_with (go_at_call 58; (with_reducible refine (plane_Small.calls z false _ HS.out).mono ?_); rintro e w2 ⟨rfl, ⟨nd2, rfl⟩⟩)
        go_ret2
        exact ⟨rfl, by rw [hg]; exact pw_below_drewN HB.out _⟩
      · obtain ⟨cc, hcc⟩ : ∃ cc, cOf (rd re (i : Int)) (rd im (i : Int)) = cc := ⟨_, rfl⟩
        rw [hcc] at hO hc
        have d1 : (cc == 0) = false := beq_eq_false_iff_ne.2 hc
        have d1b : (cc = 0) = False := eq_false hc
        have HO := Aside0.mk hO
        clear hF HF hO hS hbw hc hcc
        generalize zOf (rd re (i : Int)) (rd im (i : Int)) = z at *
        go_wp2
        go_quiet (exact quiet_drawn (plane_Of.calls _ _ _ _ _ HO.out))
        go_wp2
        go_ret2
        exact ⟨rfl, by rw [hg]; exact pw_below_drewN HB.out _⟩
set_option maxHeartbeats 4000000 in
set_option maxRecDepth 100000 in
theorem net_New.size (A0 A1 : Option Addr) (n0 n1 c0 c1 : Nat) (w : World) (hl : ¬ (n0 = n1 ∧ 1 ≤ n0 ∧ n0 ≤ 6)) :
    Calls Try.prog 12 #[.slice A0 n0 c0, .slice A1 n1 c1] w fun e w' => e = .returned (.tuple #[.pointer none, .int .i64 2]) ∧ Below w.heap.size w w' := by
  by_cases h1 : n0 = n1
  · subst h1
    by_cases h2 : n0 < 1
    · have d2 : decide ((n0 : Int) < 1) = true := decide_eq_true (by omega)
      go_enter Try.func12, Try.ntmps12
      go_wp2
      go_ret2
      exact ⟨rfl, Below.refl _ _⟩
    · have d2 : decide ((n0 : Int) < 1) = false := decide_eq_false (by omega)
      have d3 : decide ((6 : Int) < (n0 : Int)) = true := decide_eq_true (by omega)
      clear hl h2
      go_enter Try.func12, Try.ntmps12
      go_wp2
      go_ret2
      exact ⟨rfl, Below.refl _ _⟩
  · have d1 : ((n0 : Int) == (n1 : Int)) = false := beq_eq_false_iff_ne.2 (by omega)
    have d1b : ((n0 : Int) = (n1 : Int)) = False := eq_false (by omega)
    clear hl h1
    go_enter Try.func12, Try.ntmps12
    go_wp2
    go_ret2
    exact ⟨rfl, Below.refl _ _⟩
theorem net_Cut.again (g : Nat) (re im off off0 : Int) (ps : List (Nat × Nat)) (way : Nat × Nat) (w : World) (h : NetAt w g ps way off0) :
    Calls Try.prog 13 #[.pointer (some ⟨g, 0, none⟩), .int .i64 re, .int .i64 im, .int .i64 off] w fun e w' =>
      e = .returned (.int .i64 (if okP re im = true then 0 else 5)) ∧ NetAt w' g ps (if okP re im = true then zOf re im else way) (if okP re im = true then off else off0) ∧ Below g w w' :=
  net_Cut.calls g re im off off0 ps way (zOf re im) (cOf re im) (smB (zOf re im)) w h (of_eq re im) (small_eq _)
def sdF (way : Nat × Nat) (off : Int) (z : Nat × Nat) : Int := ((plane_Side.f 2 way off z).getD (0, 0)).1
theorem side_some {way z : Nat × Nat} {off : Int} (h : (plane_Side.f 2 way off z).isSome = true) : ∃ c, plane_Side.f 2 way off z = some (sdF way off z, c) := by
  obtain ⟨v, hv⟩ := Option.isSome_iff_exists.1 h
  exact ⟨v.2, by unfold sdF; rw [hv]; rfl⟩
end Go.Proofs.Ytfkkekdpfkglbaa.Q
