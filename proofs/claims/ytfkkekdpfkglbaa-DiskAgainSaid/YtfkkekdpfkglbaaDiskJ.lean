/- A list of calls of a disk that comes in: how it is read; whether it is long. Conditions: as typed. -/
import Derived.Test.YtfkkekdpfkglbaaDiskI
import Derived.WalkKit
import Derived.ProofKit
import Derived.OpenShut
import Derived.ShutString
import Derived.ChangeOld
import Derived.SizedLaws
namespace Go.Proofs.Ytfkkekdpfkglbaa.Q
open Go.RowKit Go.Proofs.YtfkkekdpfkglbaaW.PrintWords Go.Proofs.YtfkkekdpfkglbaaW.PrintLast Go.Proofs.YtfkkekdpfkglbaaW.PrintMore
open Go.ChangeShapes Go.WideShapes Go.ChangeAt
set_option linter.unusedVariables false
set_option linter.unusedSimpArgs false
structure ActV where
  kind : Int
  file : Int
  n : Int
  b : List Int
/-- Call i of the row at ad. -/
structure ActAt (w : World) (ad : Addr) (i : Nat) (x : ActV) : Prop where
  kind : w.cell? (ad.add (i * 4)) = some (.int .i64 x.kind)
  file : w.cell? ⟨(ad.add (i * 4)).block, (ad.add (i * 4)).off + 1, none⟩ = some (.int .i64 x.file)
  n : w.cell? ⟨(ad.add (i * 4)).block, (ad.add (i * 4)).off + 2, none⟩ = some (.int .i64 x.n)
  b : ∃ A c, w.cell? ⟨(ad.add (i * 4)).block, (ad.add (i * 4)).off + 3, none⟩ = some (.slice A x.b.length c) ∧ x.b.length ≤ c ∧ ReadsInt w .u8 A x.b.length x.b
def Acts (w : World) (A : Option Addr) (l : List ActV) : Prop := l.length ≤ maxLen ∧ ∀ i x, l[i]? = some x → ∃ ad, A = some ad ∧ ActAt w ad i x
theorem ReadsInt.below {w w1 : World} {k : IntKind} {A : Option Addr} {n : Nat} {xs : List Int} (h : ReadsInt w k A n xs) (hb : Below w.heap.size w w1) : ReadsInt w1 k A n xs := by
  refine ⟨h.1, h.2.1, fun hn => ?_⟩
  obtain ⟨ad, e, hc⟩ := h.2.2 hn
  exact ⟨ad, e, fun j hj => (hb.cell (World.block_lt_of_cell? w _ (hc j hj))).trans (hc j hj)⟩
theorem ActAt.below {w w1 : World} {ad : Addr} {i : Nat} {x : ActV} (h : ActAt w ad i x) (hb : Below w.heap.size w w1) : ActAt w1 ad i x := by
  obtain ⟨A, c, h1, h2, h3⟩ := h.b
  exact ⟨(hb.cell (World.block_lt_of_cell? w _ h.kind)).trans h.kind, (hb.cell (World.block_lt_of_cell? w _ h.file)).trans h.file, (hb.cell (World.block_lt_of_cell? w _ h.n)).trans h.n, A, c, (hb.cell (World.block_lt_of_cell? w _ h1)).trans h1, h2, h3.below hb⟩
theorem Acts.below {w w1 : World} {A : Option Addr} {l : List ActV} (h : Acts w A l) (hb : Below w.heap.size w w1) : Acts w1 A l :=
  ⟨h.1, fun i x hx => by obtain ⟨ad, e, ha⟩ := h.2 i x hx; exact ⟨ad, e, ha.below hb⟩⟩
theorem add_one (p : Addr) (j : Nat) (hj : 0 < j) : p.add j = ⟨p.block, p.off + j, none⟩ := by unfold Addr.add; rw [if_neg (by omega)]
section
variable {H : Type} {enc : TypeId × Value → H} {W : World}
set_option maxRecDepth 100000 in
theorem one_act {n : Nat} {cs : List Value} {x : DataW H × List MemPlace} {ad : Addr} {i : Nat} (h : DataW.trod enc Try.prog W 0 (fun _ => true) true n 39 cs = some x) (hc : W.cells? 0 (ad.add (i * 4)) 4 = some cs) : ∃ a : ActV, ActAt W ad i a := by
  obtain ⟨xs, m, _, _, hl, hx, hf⟩ := DataW.trod_struct Try.underlying39 h
  obtain ⟨_, hlen, hcell⟩ := World.cells?_some hc
  have h0 := hf 0 _ rfl
  have h1 := hf 1 _ rfl
  have h2 := hf 2 _ rfl
  have h3 := hf 3 _ rfl
  have hx4 : xs.length = 4 := hx
  match cs, hlen with
  | [c0, c1, c2, c3], _ =>
    have g0 : W.cell? (ad.add (i * 4)) = some c0 := by have := hcell 0 (by omega); simpa [Addr.add] using this
    have g1 := hcell 1 (by omega)
    have g2 := hcell 2 (by omega)
    have g3 := hcell 3 (by omega)
    rw [add_one _ _ (by omega)] at g1 g2 g3
    change DataW.trod enc Try.prog W 0 (fun _ => true) true m 3 (([c0, c1, c2, c3].drop 0).take (Try.prog.cellsOf 3)) = xs[0]? at h0
    change DataW.trod enc Try.prog W 0 (fun _ => true) true m 3 (([c0, c1, c2, c3].drop 1).take (Try.prog.cellsOf 3)) = xs[1]? at h1
    change DataW.trod enc Try.prog W 0 (fun _ => true) true m 3 (([c0, c1, c2, c3].drop 2).take (Try.prog.cellsOf 3)) = xs[2]? at h2
    change DataW.trod enc Try.prog W 0 (fun _ => true) true m 37 (([c0, c1, c2, c3].drop 3).take (Try.prog.cellsOf 37)) = xs[3]? at h3
    rw [show Try.prog.cellsOf 3 = 1 by kernel_rfl, List.getElem?_eq_getElem (by omega)] at h0 h1 h2
    rw [show Try.prog.cellsOf 37 = 1 by kernel_rfl, List.getElem?_eq_getElem (by omega)] at h3
    obtain ⟨k0, e0, _, _⟩ := DataW.trod_int Try.underlying3 h0
    obtain ⟨k1, e1, _, _⟩ := DataW.trod_int Try.underlying3 h1
    obtain ⟨k2, e2, _, _⟩ := DataW.trod_int Try.underlying3 h2
    have e0' : c0 = .int .i64 k0 := by simpa using e0
    have e1' : c1 = .int .i64 k1 := by simpa using e1
    have e2' : c2 = .int .i64 k2 := by simpa using e2
    subst e0' e1' e2'
    rcases open_ints Try.underlying37 Try.underlying5 (by kernel_rfl) h3 with ⟨hcs, _⟩ | ⟨a, l, c, zs, hcs, _, hl2, hm, hz, _, hcl, hwz⟩
    · have e3 : c3 = .slice none 0 0 := by simpa using hcs
      subst e3
      exact ⟨⟨k0, k1, k2, []⟩, g0, g1, g2, none, 0, g3, Nat.le_refl _, ⟨rfl, Nat.zero_le _, fun h => absurd h (Nat.lt_irrefl 0)⟩⟩
    · have e3 : c3 = .slice (some a) l c := by simpa using hcs
      subst e3
      obtain ⟨p, rfl, hr, _, _, hpc⟩ := ReadsInt.ofRowC (k := .u8) (w := W) (.inr ⟨a, rfl, hl2, hm, by simpa using hz, hcl, hwz⟩)
      exact ⟨⟨k0, k1, k2, p⟩, g0, g1, g2, some a, c, g3, hpc, hr⟩
theorem open_acts {n : Nat} {A : Option Addr} {len cap : Nat} {x : DataW H × List MemPlace} (h : DataW.trod enc Try.prog W 0 (fun _ => true) true n 32 [.slice A len cap] = some x) : ∃ l : List ActV, len = l.length ∧ Acts W A l := by
  rcases DataW.trod_slice Try.underlying32 h with ⟨hcs, _⟩ | ⟨a, l, c, elems, rest, m, _, hcs, _, _, hl, hm, hel, hcells, _⟩
  · simp at hcs
    obtain ⟨rfl, rfl, rfl⟩ := hcs
    exact ⟨[], rfl, Nat.zero_le _, fun i x hx => by simp at hx⟩
  · simp at hcs
    obtain ⟨rfl, rfl, rfl⟩ := hcs
    have hp : ∀ i, i < len → ∃ a2 : ActV, ActAt W a i a2 := by
      intro i hi
      have h1 := hcells i hi
      rw [List.getElem?_eq_getElem (by omega)] at h1
      obtain ⟨cs, h2, h3⟩ := Option.bind_eq_some_iff.1 h1
      rw [show Try.prog.cellsOf 39 = 4 by kernel_rfl] at h2
      exact one_act h3 h2
    let f : Nat → ActV := fun i => if hi : i < len then Classical.choose (hp i hi) else ⟨0, 0, 0, []⟩
    have hf : ∀ i, i < len → ActAt W a i (f i) := by
      intro i hi
      have e : f i = Classical.choose (hp i hi) := dif_pos hi
      rw [e]
      exact Classical.choose_spec (hp i hi)
    refine ⟨(List.range len).map f, by simp, by simp; exact Nat.le_trans hl hm, fun i x hx => ⟨a, rfl, ?_⟩⟩
    rw [List.getElem?_map] at hx
    obtain ⟨j, hj, rfl⟩ := Option.map_eq_some_iff.1 hx
    have hi : i < len := by
      have := (List.getElem?_eq_some_iff.1 hj).1
      simpa using this
    rw [List.getElem?_range hi] at hj
    injection hj with hj
    subst hj
    exact hf i hi
end
/-- More calls than are played, or one with too many bytes. -/
def longB (l : List ActV) : Bool := decide (60 < l.length) || l.any (fun x => decide (300 < x.b.length))
theorem longB_false {l : List ActV} (h : longB l = false) : l.length ≤ 60 ∧ ∀ x ∈ l, x.b.length ≤ 300 := by
  have h2 := Bool.or_eq_false_iff.1 h
  refine ⟨by have := of_decide_eq_false h2.1; omega, fun x hx => ?_⟩
  have := List.any_eq_false.1 h2.2 x hx
  simp at this
  omega
set_option maxHeartbeats 8000000 in
set_option maxRecDepth 100000 in
theorem disk_Long.calls (A : Option Addr) (c : Nat) (l : List ActV) (w : World) (h : Acts w A l) : Calls Try.prog 16 #[.slice A l.length c] w fun e w' => e = .returned (.bool (longB l)) ∧ w' = w := by
  have HA := Aside0.mk h
  have hmx := h.1
  clear h
  by_cases c1 : 60 < l.length
  · have d1 : decide ((60 : Int) < (l.length : Int)) = true := decide_eq_true (by omega)
    have d2 : decide (60 < l.length) = true := decide_eq_true c1
    have HE := Aside0.mk (show longB l = true by unfold longB; rw [d2]; rfl)
    clear c1 hmx
    go_enter Try.func16, Try.ntmps16
    go_wp2
    go_ret
    rw [HE.out]
    exact ⟨rfl, rfl⟩
  · have d1 : decide ((60 : Int) < (l.length : Int)) = false := decide_eq_false (by omega)
    have d2 : decide (60 < l.length) = false := decide_eq_false c1
    have HE := Aside0.mk (show longB l = l.any (fun x => decide (300 < x.b.length)) by unfold longB; rw [d2]; rfl)
    have HC := Aside0.mk c1
    clear c1 hmx
    obtain ⟨N, hN⟩ : ∃ N, N = l.length := ⟨_, rfl⟩
    rw [← hN] at d1 d2
    rw [← hN]
    have HN := Aside0.mk hN
    clear hN
    go_enter Try.func16, Try.ntmps16
    go_wp2_with fail
    go_loopg [3] N (fun kq v3 w' => ∃ i : Nat, v3 = .int .i64 (i : Int) ∧ Aside0 (i + kq = N) ∧ Aside0 (w' = w) ∧ Aside0 (∀ j x, j < i → l[j]? = some x → decide (300 < x.b.length) = false))
    case atStart => exact ⟨0, rfl, ⟨by omega⟩, ⟨rfl⟩, ⟨fun j x h => absurd h (Nat.not_lt_zero j)⟩⟩
    case round =>
      obtain ⟨i, rfl, HI, HW, HO⟩ := hrel
      have hww := HW.out.symm
      subst hww
      by_cases ci : i < N
      · have c0 : decide ((i : Int) < (N : Int)) = true := decide_eq_true (by omega)
        have c0' : decide (i < N) = true := decide_eq_true ci
        have p0 : (0 ≤ (i : Int)) = True := eq_true (by omega)
        have q0 : ((i : Int) < (N : Int)) = True := eq_true (by omega)
        obtain ⟨k1, rfl⟩ : ∃ k1, gk = k1 + 1 := ⟨gk - 1, by have := HI.out; omega⟩
        obtain ⟨x, hx⟩ : ∃ x, l[i]? = some x := ⟨l[i]'(by have := HN.out; omega), List.getElem?_eq_getElem _⟩
        obtain ⟨ad, hA, ha⟩ := HA.out.2 i x hx
        subst hA
        obtain ⟨Ab, cb, k3, _, _⟩ := ha.b
        have HX := Aside0.mk hx
        have HCI := Aside0.mk ci
        clear hx ha ci
        by_cases cx : 300 < x.b.length
        · have d3 : decide ((300 : Int) < (x.b.length : Int)) = true := decide_eq_true (by omega)
          have d4 : decide (300 < x.b.length) = true := decide_eq_true cx
          have HE2 := Aside0.mk (show longB l = true by rw [HE.out]; exact List.any_eq_true.2 ⟨x, List.mem_of_getElem? HX.out, d4⟩)
          clear cx
          go_wp2_with fail
          go_ret
          rw [HE2.out]
          exact ⟨rfl, rfl⟩
        · have d3 : decide ((300 : Int) < (x.b.length : Int)) = false := decide_eq_false (by omega)
          have d4 : decide (300 < x.b.length) = false := decide_eq_false cx
          have HD4 := Aside0.mk d4
          clear cx
          go_wp2_with fail
          go_roundg k1
          case measure => omega
          case rel => exact ⟨i + 1, by first | rfl | (congr 1; have := HCI.out; have := HN.out; have := HC.out; unfold wrap64; omega), ⟨by have := HI.out; omega⟩, ⟨rfl⟩, ⟨fun j y hj hy => by
            by_cases e : j = i
            · subst e; rw [HX.out] at hy; injection hy with hy; subst hy; exact HD4.out
            · exact HO.out j y (by omega) hy⟩⟩
      · have c0 : decide ((i : Int) < (N : Int)) = false := decide_eq_false (by omega)
        have c0' : decide (i < N) = false := decide_eq_false ci
        have HE2 := Aside0.mk (show longB l = false by
          rw [HE.out]
          refine List.any_eq_false.2 (fun y hy => ?_)
          obtain ⟨j, hj⟩ := List.getElem?_of_mem hy
          have hjl := (List.getElem?_eq_some_iff.1 hj).1
          have := HO.out j y (by have := HN.out; omega) hj
          simp only [this]
          simp)
        clear ci
        go_wp2_with fail
        go_ret
        rw [HE2.out]
        exact ⟨rfl, rfl⟩
end Go.Proofs.Ytfkkekdpfkglbaa.Q
