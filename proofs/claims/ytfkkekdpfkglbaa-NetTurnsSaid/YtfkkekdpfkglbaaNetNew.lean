/- The net: what New makes. Conditions: as typed. -/
import Derived.Test.YtfkkekdpfkglbaaNet
namespace Go.Proofs.Ytfkkekdpfkglbaa.Q
open Go.RowKit Go.Proofs.YtfkkekdpfkglbaaW.PrintWords Go.Proofs.YtfkkekdpfkglbaaW.PrintLast Go.Proofs.YtfkkekdpfkglbaaW.PrintMore
set_option linter.unusedVariables false
set_option linter.unusedSimpArgs false
def zOf (a b : Int) : Nat × Nat := if inP a ∧ inP b then (Go.floatOfInt .f64 a, Go.floatOfInt .f64 b) else (0, 0)
def cOf (a b : Int) : Int := if inP a ∧ inP b then 0 else 3
theorem of_eq (a b : Int) : plane_Of.f a b = some (zOf a b, cOf a b) := by
  unfold plane_Of.f zOf cOf
  by_cases h : inP a ∧ inP b
  · rw [if_pos h, if_pos h, if_pos h]
  · rw [if_neg h, if_neg h, if_neg h]
def smB (z : Nat × Nat) : Bool := (plane_Small.f z).getD false
theorem small_eq (z : Nat × Nat) : plane_Small.f z = some (smB z) := by
  unfold smB plane_Small.f plane_both.f plane_within.f
  simp only [Option.bind_some]
  split <;> rfl
def okP (a b : Int) : Bool := cutOk (cOf a b) (smB (zOf a b))
/-- The places of the first so many. -/
def pts (re im : List Int) (k : Nat) : List (Nat × Nat) := (List.range k).map fun (i : Nat) => zOf (rd re (i : Int)) (rd im (i : Int))
theorem pts_succ (re im : List Int) (k : Nat) : pts re im (k + 1) = pts re im k ++ [zOf (rd re (k : Int)) (rd im (k : Int))] := by
  unfold pts
  rw [List.range_succ, List.map_append, List.map_singleton]
theorem pts_length (re im : List Int) (k : Nat) : (pts re im k).length = k := by simp [pts]
theorem info78 : (Try.prog.info? 78).map (fun i => (i.zero, i.size, i.bytes)) = some (some (.complex .f64 0 0), 1, 16) := by kernel_rfl
theorem append_cv {ops : Array Oper} {rest : List Oper} {o : Oper} {a : Act} {Q : Exit → Act → World → Prop} (w0 : World) (hgd : o.guard = none) (s x : Operand) (ho : o.op = .call { callee := .builtin .append, args := #[s, x], argTypes := #[75, 75] })
    (G : Nat) (v : Value) (ps : List (Nat × Nat)) (z : Nat × Nat) (hs : a.eval s = v) (hown : w0.ownsRow (G + 1) 78 1 v ps.length (ps.map cv)) (hx : a.eval x = .slice (some ⟨w0.heap.size, 0, none⟩) 1 1) (hm : ps.length ≤ 1000) (hG : G + 1 ≤ w0.heap.size)
    (h : ∀ v' w', w'.ownsRow (G + 1) 78 1 v' (ps.length + 1) ((ps ++ [z]).map cv) → Below (G + 1) w0 w' → wpList Try.prog ops Q rest (a.put o.dst v') w') : wpList Try.prog ops Q (o :: rest) a (w0.alloc (.cells #[cv z] 78)) := by
  obtain ⟨i, hi, hz, hsz, hby⟩ := info_parts info78
  have hlit := World.ownsRow_lit (base := G + 1) (e := 78) (size := 1) w0 #[cv z] 1 hG (by decide) rfl
  refine wpList_append_own _ hgd s x 75 ho (G + 1) 78 i _ 1 16 Try.underlying75 hi hz hsz hby rfl (by decide) v ps.length (ps.map cv) hs (hown.alloc _) _ 1 1 [cv z] hx rfl (hlit.cells rfl) (fun u hu => by rw [List.mem_singleton.1 hu]; rfl) (by simp only [maxLen]; omega) (by omega) (by simp; omega) ?_
  intro v' w' h1 h2 h3
  refine h v' w' (by rw [List.map_append]; exact h1) ?_
  refine Below.grown ((Below.refl (G + 1) w0).alloc hG _) h2 (by simp; omega) ?_
  intro k hk
  exact ((hown.lt) k hk).1
theorem NetAt.push {w w3 : World} {G : Nat} {ps : List (Nat × Nat)} {way z : Nat × Nat} {off : Int} {v1 : Value} (h : NetAt w G ps way off) (hb : Below (G + 1) w w3) (ho : w3.ownsRow (G + 1) 78 1 v1 (ps.length + 1) ((ps ++ [z]).map cv)) :
    NetAt (w3.setCell ⟨G, 0, none⟩ v1) G (ps ++ [z]) way off := by
  obtain ⟨v, h1, h2⟩ := h.out
  have e0 : w3.heap[G]? = _ := (hb.block G (by omega)).trans h1
  have e1 := heap_setCell_same w3 G 0 _ 95 v1 e0
  refine ⟨v1, e1, ?_⟩
  have := ownsRow_setCell_below ho (a := ⟨G, 0, none⟩) (by show G < G + 1; omega) v1
  rw [List.length_append]
  exact this
theorem slice_of {w : World} {base e size n : Nat} {v : Value} {xs : List Value} (h : w.ownsRow base e size v n xs) : ∃ A c, v = .slice A n c := by
  rcases h.2 with ⟨rfl, hn0⟩ | ⟨b, cap, cur, rfl, _⟩
  · exact ⟨none, 0, by rw [hn0]⟩
  · exact ⟨_, _, rfl⟩
set_option maxHeartbeats 4000000 in
set_option maxRecDepth 100000 in
theorem net_New.calls (A0 A1 : Option Addr) (c0 c1 : Nat) (re im : List Int) (w : World) (h0 : Kd.C (Kd.int .i64) w A0 re.length re) (h1 : Kd.C (Kd.int .i64) w A1 im.length im) (hc0 : re.length ≤ c0) (hc1 : im.length ≤ c1)
    (hl : re.length = im.length) (hl0 : 1 ≤ re.length) (hl1 : re.length ≤ 6) (hok : ∀ i : Nat, i < re.length → okP (rd re (i : Int)) (rd im (i : Int)) = true) :
    Calls Try.prog 12 #[.slice A0 re.length c0, .slice A1 im.length c1] w fun e w' => ∃ g, e = .returned (.tuple #[.pointer (some ⟨g, 0, none⟩), .int .i64 0]) ∧ NetAt w' g (pts re im re.length) (0, 0) 0 ∧ w.heap.size ≤ g ∧ Below w.heap.size w w' := by
  rw [← hl] at h1
  have HR0 := Aside0.mk h0
  have HR1 := Aside0.mk h1
  have HK := Aside0.mk hok
  have l1 : (re.length : Int) < 1 ↔ False := ⟨fun h => by omega, fun h => h.elim⟩
  have l2 : (6 : Int) < (re.length : Int) ↔ False := ⟨fun h => by omega, fun h => h.elim⟩
  clear h0 h1 hok
  obtain ⟨n, hn⟩ : ∃ n, n = re.length := ⟨_, rfl⟩
  rw [← hl, ← hn]
  rw [← hn] at l1 l2 hc0 hl0 hl1 HR0 HR1 HK
  rw [← hl, ← hn] at hc1
  have HN := Aside0.mk hn
  clear hl hn
  obtain ⟨G, hG⟩ : ∃ G, w.heap.size = G := ⟨_, rfl⟩
  go_enter Try.func12, Try.ntmps12
  go_wp2_with fail
  have hb := blk_new w (.cells #[.slice none 0 0, .slice none 0 0, .complex .f64 0 0, .int .i64 0] 95)
  have HA := Aside0.mk (show NetAt (w.alloc (.cells #[.slice none 0 0, .slice none 0 0, .complex .f64 0 0, .int .i64 0] 95)) G (pts re im 0) (0, 0) 0 from ⟨.slice none 0 0, hG ▸ hb, World.ownsRow_nil _ _ _ _⟩)
  have HB := Aside0.mk (below_alloc (Below.refl _ w) (.cells #[.slice none 0 0, .slice none 0 0, .complex .f64 0 0, .int .i64 0] 95))
  clear hb l1 l2
  rw [hG] at HB
  have HG := Aside0.mk hG
  clear hG
  go_loopg [29] n (fun kq v29 w' => ∃ i : Nat, v29 = .int .i64 (i : Int) ∧ Aside0 (i + kq = n) ∧ Aside0 (NetAt w' G (pts re im i) (0, 0) 0) ∧ Aside0 (Below G w w'))
  case atStart => exact ⟨0, rfl, ⟨by omega⟩, HA, HB⟩
  case round =>
    clear HA HB
    obtain ⟨i, rfl, HI, HA, HB⟩ := hrel
    by_cases ci : i < n
    · have c0 : decide ((i : Int) < (n : Int)) = true := decide_eq_true (by omega)
      have hbw : Below w.heap.size w wr := by rw [HG.out]; exact HB.out
      obtain ⟨ad0, e0, hx0⟩ := Kd.at_int (Kd.C_below HR0.out hbw) (i : Int) (by omega) (by omega)
      cases e0
      obtain ⟨ad1, e1, hx1⟩ := Kd.at_int (Kd.C_below HR1.out hbw) (i : Int) (by omega) (by omega)
      cases e1
      rw [Int.toNat_natCast] at hx0 hx1
      have hok := HK.out i ci
      unfold okP cutOk at hok
      have hok2 := Bool.and_eq_true_iff.1 hok
      have hcz : cOf (rd re (i : Int)) (rd im (i : Int)) = 0 := of_decide_eq_true hok2.1
      have hO := of_eq (rd re (i : Int)) (rd im (i : Int))
      have hS := small_eq (zOf (rd re (i : Int)) (rd im (i : Int)))
      rw [hcz] at hO
      rw [hok2.2] at hS
      have HO := Aside0.mk hO
      have HS := Aside0.mk hS
      have hpt := Aside0.mk (pts_succ re im i)
      obtain ⟨k1, rfl⟩ : ∃ k1, gk = k1 + 1 := ⟨gk - 1, by have := HI.out; omega⟩
      obtain ⟨v, ho, k0, _, _, _, kf⟩ := HA.out.cell
      have kf0 := kf 0
      have HW := Aside0.mk ho
      clear hok hok2 hcz hO hS hbw ho kf
      generalize zOf (rd re (i : Int)) (rd im (i : Int)) = z at *
      have p0 : (0 ≤ (i : Int)) = True := eq_true (by omega)
      have q0 : ((i : Int) < (n : Int)) = True := eq_true (by omega)
      go_wp2
      go_quiet (exact quiet_drawn (plane_Of.calls _ _ _ _ _ HO.out))
      have hlen := Aside0.mk (show (pts re im i).length ≤ 1000 by rw [pts_length]; omega)
      have hGs := Aside0.mk (show G + 1 ≤ wr.heap.size from HA.out.lt)
      go_wp2_with (first | (go_at_call 58; (with_reducible refine (plane_Small.calls z true _ HS.out).mono ?_); rintro e w2 ⟨rfl, ⟨nd2, rfl⟩⟩) | (at_builtin; refine append_cv _ rfl _ _ rfl G v _ z rfl HW.out rfl hlen.out hGs.out ?_; intro v1 w3 ho3 hb3; have HO3 := Aside0.mk ho3; have HB3 := Aside0.mk hb3; have k3 := (hb3.cell (p := ⟨G, 0, none⟩) (by show G < G + 1; omega)).trans k0; have f3 := (hb3.frozen (p := ⟨G, 0, none⟩) (by show G < G + 1; omega)).trans kf0; obtain ⟨A9, c9, rfl⟩ := slice_of ho3; clear ho3 hb3))
      go_roundg k1
      case measure => omega
      case rel =>
        have hp := NetAt.push (HA.out.drewN (nq + nd2)) HB3.out HO3.out
        rw [← hpt.out] at hp
        exact ⟨i + 1, by first | rfl | (congr 1; have := HI.out; unfold wrap64; omega), ⟨by have := HI.out; omega⟩, ⟨hp⟩, ⟨((pw_below_drewN HB.out (nq + nd2)).trans (HB3.out.mono (by omega))).setCell (p := ⟨G, 0, none⟩) (Nat.le_refl _) _⟩⟩
    · have c0 : decide ((i : Int) < (n : Int)) = false := decide_eq_false (by omega)
      have hi : i = n := by have := HI.out; omega
      subst hi
      go_wp2
      go_ret2
      have hg := HG.out
      rw [hg]
      exact ⟨G, rfl, HA.out, Nat.le_refl _, HB.out⟩
end Go.Proofs.Ytfkkekdpfkglbaa.Q
