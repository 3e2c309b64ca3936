/- A disk: its files, what waits, its fuse; how it lies in memory. Conditions: as typed. -/
import Derived.Test.YtfkkekdpfkglbaaBuf
namespace Go.Proofs.Ytfkkekdpfkglbaa.Q
open Go.RowKit Go.Proofs.YtfkkekdpfkglbaaW.PrintWords Go.Proofs.YtfkkekdpfkglbaaW.PrintLast Go.Proofs.YtfkkekdpfkglbaaW.PrintMore
set_option linter.unusedVariables false
set_option linter.unusedSimpArgs false
structure Deed where
  file : Nat
  cut : Bool
  off : List Int
/-- What waits: the newest first. -/
structure Dsk where
  files : Nat → List Int
  room : Int
  wait : List Deed
  deeds : Int
  fuse : Int
  dark : Bool
def cell3 (p : Deed × Value) : List Value := [.int .i64 (p.1.file : Int), .bool p.1.cut, p.2]
def diskCells (f : Nat → Value) (wv : Value) (D : Dsk) : Array Value := #[f 0, f 1, f 2, f 3, .int .i64 D.room, wv, .int .i64 D.deeds, .int .i64 D.fuse, .bool D.dark]
/-- What a call leaves alone. -/
structure Foot (S : Nat → Prop) (w w' : World) : Prop where
  os : w'.os = w.os
  tape : w'.tape = w.tape
  output : w'.output = w.output
  size : w.heap.size ≤ w'.heap.size
  block : ∀ k, k < w.heap.size → ¬ S k → w'.heap[k]? = w.heap[k]?
section
variable {S S' : Nat → Prop} {w w1 w2 : World}
theorem Foot.refl (S : Nat → Prop) (w : World) : Foot S w w := ⟨rfl, rfl, rfl, Nat.le_refl _, fun _ _ _ => rfl⟩
theorem Foot.trans (h : Foot S w w1) (h2 : Foot S' w1 w2) (hs : ∀ k, S' k → S k ∨ w.heap.size ≤ k) : Foot S w w2 :=
  ⟨h2.os.trans h.os, h2.tape.trans h.tape, h2.output.trans h.output, Nat.le_trans h.size h2.size, fun k hk hn => (h2.block k (Nat.lt_of_lt_of_le hk h.size) (fun hs2 => (hs k hs2).elim hn (fun h3 => by omega))).trans (h.block k hk hn)⟩
theorem Foot.mono (h : Foot S w w1) (hs : ∀ k, S k → S' k) : Foot S' w w1 := ⟨h.os, h.tape, h.output, h.size, fun k hk hn => h.block k hk (fun h2 => hn (hs k h2))⟩
theorem Foot.below {B : Nat} (h : Foot S w w1) (hs : ∀ k, S k → B ≤ k) (hB : B ≤ w.heap.size) : Below B w w1 := ⟨h.os, h.tape, h.output, h.size, fun k hk => h.block k (by omega) (fun h2 => by have := hs k h2; omega)⟩
theorem Foot.of_below (h : Below w.heap.size w w1) (S : Nat → Prop) : Foot S w w1 := ⟨h.os, h.tape, h.output, h.size, fun k hk _ => h.block k hk⟩
theorem Foot.drewN (h : Foot S w w1) (n : Nat) : Foot S w (w1.drewN n) := ⟨h.os, h.tape, h.output, h.size, h.block⟩
theorem Foot.setCell (h : Foot S w w1) {p : Addr} (hp : S p.block) (u : Value) : Foot S w (w1.setCell p u) :=
  ⟨h.os, h.tape, h.output, by simpa [World.setCell] using h.size, fun k hk hn => (Below.heap_setCell w1 p u k (fun e => hn (by rw [e]; exact hp))).trans (h.block k hk hn)⟩
theorem Foot.grown {row : Option Nat} (h : Foot S w w1) (hg : w1.grownBy w2 row) (hr : ∀ k, row = some k → S k ∨ w.heap.size ≤ k) : Foot S w w2 :=
  h.trans (S' := fun k => row = some k) ⟨hg.os, hg.tape, hg.output, hg.size, fun k hk hn => hg.block k hk (fun e => hn e.symm)⟩ hr
theorem Foot.alloc (h : Foot S w w1) (o : Obj) : Foot S w (w1.alloc o) := h.trans (Foot.of_below (below_alloc (Below.refl _ _) o) (fun _ => False)) (fun _ h => h.elim)
end
structure DiskMem (S : Nat → Prop) (w : World) (g : Nat) (D : Dsk) (f : Nat → Value) (wv : Value) (DW : List (Deed × Value)) : Prop where
  blk : w.heap[g]? = some (.cells (diskCells f wv D) 104 (0, 0))
  fil : ∀ i, i < 4 → Buf 5 1 w (f i) (D.files i).length (nums .u8 (D.files i))
  dis : ∀ i j, i < 4 → j < 4 → i ≠ j → ∀ k, (f i).ownBlock = some k → (f j).ownBlock ≠ some k
  wai : Buf 106 3 w wv DW.length (DW.flatMap cell3)
  dw : DW.map Prod.fst = D.wait.reverse
  off : ∀ p ∈ DW, Buf 5 1 w p.2 p.1.off.length (nums .u8 p.1.off) ∧ ∀ i, i < 4 → ∀ k, (f i).ownBlock = some k → p.2.ownBlock ≠ some k
  sg : S g
  sf : ∀ i, i < 4 → ∀ k, (f i).ownBlock = some k → S k
  sw : ∀ k, wv.ownBlock = some k → S k
  so : ∀ p ∈ DW, ∀ k, p.2.ownBlock = some k → S k
  nam : ∀ d ∈ D.wait, d.file < 4
structure DiskAt (S : Nat → Prop) (w : World) (g : Nat) (D : Dsk) : Prop where
  mk :: (out : ∃ f wv DW, DiskMem S w g D f wv DW)
section
variable {S S' : Nat → Prop} {w w1 : World} {g : Nat} {D : Dsk} {f : Nat → Value} {wv : Value} {DW : List (Deed × Value)}
theorem own_ne {e t size n : Nat} {v : Value} {xs : List Value} {cs : Array Value} (h : Buf e size w v n xs) (hb : w.heap[g]? = some (.cells cs t (0, 0))) (ht : e ≠ t) (k : Nat) (hk : v.ownBlock = some k) : k ≠ g := by
  rintro rfl
  obtain ⟨c, hc⟩ := h.typed k hk
  rw [hc] at hb
  injection hb with hb
  injection hb with _ hb
  exact ht hb
/-- Only the struct's own block is another. -/
theorem DiskMem.reg (M : DiskMem S w g D f wv DW) (D1 : Dsk) (hb : w1.heap[g]? = some (.cells (diskCells f wv D1) 104 (0, 0))) (hk : ∀ k, k ≠ g → w1.heap[k]? = w.heap[k]?) (hf : D1.files = D.files) (hw : D1.wait = D.wait) : DiskMem S w1 g D1 f wv DW := by
  refine ⟨hb, fun i hi => ?_, M.dis, ?_, by rw [hw]; exact M.dw, fun p hp => ⟨?_, (M.off p hp).2⟩, M.sg, M.sf, M.sw, M.so, by rw [hw]; exact M.nam⟩
  · rw [hf]
    exact (M.fil i hi).same (fun k h2 => hk k (own_ne (M.fil i hi) M.blk (by decide) k h2))
  · exact M.wai.same (fun k h2 => hk k (own_ne M.wai M.blk (by decide) k h2))
  · exact (M.off p hp).1.same (fun k h2 => hk k (own_ne (M.off p hp).1 M.blk (by decide) k h2))
/-- All its blocks are as they were. -/
theorem DiskMem.move (M : DiskMem S w g D f wv DW) (hk : ∀ k, S k → w1.heap[k]? = w.heap[k]?) : DiskMem S w1 g D f wv DW := by
  refine ⟨(hk g M.sg).trans M.blk, fun i hi => (M.fil i hi).same (fun k h2 => hk k (M.sf i hi k h2)), M.dis, M.wai.same (fun k h2 => hk k (M.sw k h2)), M.dw, fun p hp => ⟨(M.off p hp).1.same (fun k h2 => hk k (M.so p hp k h2)), (M.off p hp).2⟩, M.sg, M.sf, M.sw, M.so, M.nam⟩
theorem DiskMem.mono (M : DiskMem S w g D f wv DW) (hs : ∀ k, S k → S' k) : DiskMem S' w g D f wv DW :=
  ⟨M.blk, M.fil, M.dis, M.wai, M.dw, M.off, hs g M.sg, fun i hi k hk => hs k (M.sf i hi k hk), fun k hk => hs k (M.sw k hk), fun p hp k hk => hs k (M.so p hp k hk), M.nam⟩
theorem DiskMem.lt (M : DiskMem S w g D f wv DW) : g < w.heap.size := blk_lt M.blk
theorem DiskMem.bound (M : DiskMem S w g D f wv DW) : DiskMem (fun k => S k ∧ k < w.heap.size) w g D f wv DW :=
  ⟨M.blk, M.fil, M.dis, M.wai, M.dw, M.off, ⟨M.sg, M.lt⟩, fun i hi k hk => ⟨M.sf i hi k hk, (M.fil i hi).lt k hk⟩, fun k hk => ⟨M.sw k hk, M.wai.lt k hk⟩, fun p hp k hk => ⟨M.so p hp k hk, (M.off p hp).1.lt k hk⟩, M.nam⟩
theorem DiskMem.cell (M : DiskMem S w g D f wv DW) (i : Nat) : w.cell? ⟨g, i, none⟩ = (diskCells f wv D)[i]? := blk_cell M.blk i
theorem DiskMem.cfile (M : DiskMem S w g D f wv DW) (i : Nat) (hi : i < 4) : w.cell? ⟨g, i, none⟩ = some (f i) := by
  rw [M.cell]
  rcases (show i = 0 ∨ i = 1 ∨ i = 2 ∨ i = 3 by omega) with rfl | rfl | rfl | rfl <;> rfl
theorem DiskMem.frozen (M : DiskMem S w g D f wv DW) (i : Nat) : w.frozen? ⟨g, i, none⟩ = false := blk_frozen M.blk i
theorem DiskAt.move (h : DiskAt S w g D) (hk : ∀ k, S k → k < w.heap.size → w1.heap[k]? = w.heap[k]?) : DiskAt S w1 g D := by
  obtain ⟨f, wv, DW, M⟩ := h.out
  exact ⟨f, wv, DW, (M.bound.move (fun k hk2 => hk k hk2.1 hk2.2)).mono (fun k hk2 => hk2.1)⟩
theorem DiskAt.drewN (h : DiskAt S w g D) (n : Nat) : DiskAt S (w.drewN n) g D := h.move (fun _ _ _ => rfl)
theorem DiskAt.below (h : DiskAt S w g D) (hb : Below w.heap.size w w1) : DiskAt S w1 g D := h.move (fun k _ hk => hb.block k hk)
theorem DiskAt.foot {T : Nat → Prop} (h : DiskAt S w g D) (hb : Foot T w w1) (hd : ∀ k, S k → ¬ T k) : DiskAt S w1 g D := h.move (fun k hs hk => hb.block k hk (hd k hs))
theorem DiskAt.mono (h : DiskAt S w g D) (hs : ∀ k, S k → S' k) : DiskAt S' w g D := by
  obtain ⟨f, wv, DW, M⟩ := h.out
  exact ⟨f, wv, DW, M.mono hs⟩
end
/-! what the methods do -/
def upd (F : Nat → List Int) (i : Nat) (x : List Int) : Nat → List Int := fun j => if j = i then x else F j
def updV (F : Nat → Value) (i : Nat) (x : Value) : Nat → Value := fun j => if j = i then x else F j
theorem upd_same (F : Nat → List Int) (i : Nat) (x : List Int) : upd F i x i = x := by simp [upd]
theorem upd_ne (F : Nat → List Int) {i j : Nat} (x : List Int) (h : j ≠ i) : upd F i x j = F j := by simp [upd, h]
theorem updV_same (F : Nat → Value) (i : Nat) (x : Value) : updV F i x i = x := by simp [updV]
theorem updV_ne (F : Nat → Value) {i j : Nat} (x : Value) (h : j ≠ i) : updV F i x j = F j := by simp [updV, h]
def Dsk.gone (D : Dsk) : Bool := D.dark || decide (D.fuse = 0)
def Dsk.step (D : Dsk) : Dsk := if D.gone then { D with dark := true } else { D with fuse := if 0 < D.fuse then wrap64 (D.fuse - 1) else D.fuse, deeds := wrap64 (D.deeds + 1) }
def newDisk (room : Int) : Dsk := ⟨fun _ => [], room, [], 0, -1, false⟩
section
variable {S S' : Nat → Prop} {w w1 : World} {g : Nat} {D : Dsk} {f : Nat → Value} {wv : Value} {DW : List (Deed × Value)}
/-- File i has another value. -/
theorem cells_file (f : Nat → Value) (wv : Value) (D : Dsk) (i : Nat) (hi : i < 4) (v : Value) (x : List Int) : (diskCells f wv D).setIfInBounds i v = diskCells (updV f i v) wv { D with files := upd D.files i x } := by
  rcases (show i = 0 ∨ i = 1 ∨ i = 2 ∨ i = 3 by omega) with rfl | rfl | rfl | rfl <;> rfl
theorem DiskMem.setFile (M : DiskMem S w g D f wv DW) (i : Nat) (hi : i < 4) (v : Value) (x : List Int)
    (hb : w1.heap[g]? = some (.cells (diskCells (updV f i v) wv { D with files := upd D.files i x }) 104 (0, 0))) (hv : Buf 5 1 w1 v x.length (nums .u8 x))
    (hd : ∀ k, v.ownBlock = some k → (f i).ownBlock = some k ∨ w.heap.size ≤ k) (hs : ∀ k, v.ownBlock = some k → S k)
    (hko : ∀ k, k ≠ g → S k → k < w.heap.size → (f i).ownBlock ≠ some k → w1.heap[k]? = w.heap[k]?) :
    DiskMem S w1 g { D with files := upd D.files i x } (updV f i v) wv DW := by
  have hdis : ∀ j, j < 4 → j ≠ i → ∀ k, v.ownBlock = some k → (f j).ownBlock ≠ some k := by
    intro j hj hji k hk2 hk3
    rcases hd k hk2 with h1 | h1
    · exact M.dis i j hi hj (Ne.symm hji) k h1 hk3
    · have := (M.fil j hj).lt k hk3; omega
  refine ⟨hb, fun j hj => ?_, fun j l hj hl hjl k h1 h2 => ?_, ?_, M.dw, fun p hp => ⟨?_, fun j hj k h1 h2 => ?_⟩, M.sg, fun j hj k h1 => ?_, M.sw, M.so, M.nam⟩
  · by_cases e : j = i
    · subst e
      rw [updV_same]
      show Buf 5 1 w1 v (upd D.files j x j).length (nums .u8 (upd D.files j x j))
      rw [upd_same]
      exact hv
    · rw [updV_ne f v e]
      show Buf 5 1 w1 (f j) (upd D.files i x j).length (nums .u8 (upd D.files i x j))
      rw [upd_ne _ _ e]
      exact (M.fil j hj).same (fun k h2 => hko k (own_ne (M.fil j hj) M.blk (by decide) k h2) (M.sf j hj k h2) ((M.fil j hj).lt k h2) (fun h3 => M.dis j i hj hi e k h2 h3))
  · by_cases e1 : j = i
    · subst e1
      rw [updV_same] at h1
      rw [updV_ne f v (Ne.symm hjl)] at h2
      exact hdis l hl (Ne.symm hjl) k h1 h2
    · rw [updV_ne f v e1] at h1
      by_cases e2 : l = i
      · subst e2
        rw [updV_same] at h2
        exact hdis j hj e1 k h2 h1
      · rw [updV_ne f v e2] at h2
        exact M.dis j l hj hl hjl k h1 h2
  · refine M.wai.same (fun k h2 => hko k (own_ne M.wai M.blk (by decide) k h2) (M.sw k h2) (M.wai.lt k h2) (fun h3 => ?_))
    obtain ⟨c1, hc1⟩ := M.wai.typed k h2
    obtain ⟨c2, hc2⟩ := (M.fil i hi).typed k h3
    rw [hc1] at hc2
    injection hc2 with hc2
    injection hc2 with _ hc2
    exact absurd hc2 (by decide)
  · exact (M.off p hp).1.same (fun k h2 => hko k (own_ne (M.off p hp).1 M.blk (by decide) k h2) (M.so p hp k h2) ((M.off p hp).1.lt k h2) (fun h3 => (M.off p hp).2 i hi k h3 h2))
  · by_cases e : j = i
    · subst e
      rw [updV_same] at h1
      rcases hd k h1 with h3 | h3
      · exact (M.off p hp).2 j hj k h3 h2
      · have := (M.off p hp).1.lt k h2; omega
    · rw [updV_ne f v e] at h1
      exact (M.off p hp).2 j hj k h1 h2
  · by_cases e : j = i
    · subst e
      rw [updV_same] at h1
      exact hs k h1
    · rw [updV_ne f v e] at h1
      exact M.sf j hj k h1
/-- What waits is another row. -/
theorem DiskMem.setWait (M : DiskMem S w g D f wv DW) (v : Value) (DW1 : List (Deed × Value)) (ws : List Deed) (hdw : DW1.map Prod.fst = ws.reverse)
    (hb : w1.heap[g]? = some (.cells (diskCells f v { D with wait := ws }) 104 (0, 0))) (hv : Buf 106 3 w1 v DW1.length (DW1.flatMap cell3)) (hs : ∀ k, v.ownBlock = some k → S k)
    (hko : ∀ k, k ≠ g → S k → k < w.heap.size → wv.ownBlock ≠ some k → w1.heap[k]? = w.heap[k]?)
    (hp1 : ∀ p ∈ DW1, p ∈ DW ∨ (p.1.file < 4 ∧ Buf 5 1 w1 p.2 p.1.off.length (nums .u8 p.1.off) ∧ (∀ i, i < 4 → ∀ k, (f i).ownBlock = some k → p.2.ownBlock ≠ some k) ∧ ∀ k, p.2.ownBlock = some k → S k)) :
    DiskMem S w1 g { D with wait := ws } f v DW1 := by
  have hty : ∀ {e t n : Nat} {u : Value} {xs : List Value}, Buf 5 1 w u n xs → ∀ k, u.ownBlock = some k → wv.ownBlock ≠ some k := by
    intro e t n u xs hu k h1 h2
    obtain ⟨c1, hc1⟩ := hu.typed k h1
    obtain ⟨c2, hc2⟩ := M.wai.typed k h2
    rw [hc1] at hc2
    injection hc2 with hc2
    injection hc2 with _ hc2
    exact absurd hc2 (by decide)
  refine ⟨hb, fun i hi => (M.fil i hi).same (fun k h2 => hko k (own_ne (M.fil i hi) M.blk (by decide) k h2) (M.sf i hi k h2) ((M.fil i hi).lt k h2) (hty (e := 0) (t := 0) (M.fil i hi) k h2)), M.dis, hv, hdw, fun p hp => ?_, M.sg, M.sf, hs, fun p hp k h2 => ?_, fun d hd => ?_⟩
  · rcases hp1 p hp with h | h
    · exact ⟨(M.off p h).1.same (fun k h2 => hko k (own_ne (M.off p h).1 M.blk (by decide) k h2) (M.so p h k h2) ((M.off p h).1.lt k h2) (hty (e := 0) (t := 0) (M.off p h).1 k h2)), (M.off p h).2⟩
    · exact ⟨h.2.1, h.2.2.1⟩
  · rcases hp1 p hp with h | h
    · exact M.so p h k h2
    · exact h.2.2.2 k h2
  · have hd2 : d ∈ DW1.map Prod.fst := by rw [hdw]; exact List.mem_reverse.2 hd
    obtain ⟨p, hp, rfl⟩ := List.mem_map.1 hd2
    rcases hp1 p hp with h | h
    · refine M.nam p.1 ?_
      have : p.1 ∈ DW.map Prod.fst := List.mem_map.2 ⟨p, h, rfl⟩
      rw [M.dw] at this
      exact List.mem_reverse.1 this
    · exact h.1
end
end Go.Proofs.Ytfkkekdpfkglbaa.Q
