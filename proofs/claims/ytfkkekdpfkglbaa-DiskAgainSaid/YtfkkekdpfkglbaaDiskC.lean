/- A disk: what an append to a file or to what waits leaves in memory; what Append does. Conditions: as typed. -/
import Derived.Test.YtfkkekdpfkglbaaDiskB
namespace Go.Proofs.Ytfkkekdpfkglbaa.Q
open Go.RowKit Go.Proofs.YtfkkekdpfkglbaaW.PrintWords Go.Proofs.YtfkkekdpfkglbaaW.PrintLast Go.Proofs.YtfkkekdpfkglbaaW.PrintMore
set_option linter.unusedVariables false
set_option linter.unusedSimpArgs false
section
variable {e size n : Nat} {w w1 : World} {v : Value} {xs : List Value}
theorem Buf.below (h : Buf e size w v n xs) (hb : Below w.heap.size w w1) : Buf e size w1 v n xs := h.same (fun k hk => hb.block k (h.lt k hk))
end
section
variable {S : Nat → Prop} {w W w2 : World} {g : Nat} {D : Dsk} {f : Nat → Value} {wv : Value} {DW : List (Deed × Value)}
theorem DiskMem.blk2 (M : DiskMem S w g D f wv DW) (hb : Below w.heap.size w W) {row : Option Nat} (hg : W.grownBy w2 row) (hrow : ∀ k, row = some k → k ≠ g) : w2.heap[g]? = some (.cells (diskCells f wv D) 104 (0, 0)) :=
  (hg.block g (Nat.lt_of_lt_of_le M.lt hb.size) (fun h => hrow g h.symm rfl)).trans ((hb.block g M.lt).trans M.blk)
theorem DiskMem.fne (M : DiskMem S w g D f wv DW) {i : Nat} (hi : i < 4) (k : Nat) (hk : (f i).ownBlock = some k) : k ≠ g := own_ne (M.fil i hi) M.blk (by decide) k hk
theorem DiskMem.wne (M : DiskMem S w g D f wv DW) (k : Nat) (hk : wv.ownBlock = some k) : k ≠ g := own_ne M.wai M.blk (by decide) k hk
theorem DiskMem.putFile (M : DiskMem S w g D f wv DW) (hfr : ∀ k, w.heap.size ≤ k → S k) (i : Nat) (hi : i < 4) (v : Value) (x : List Int) (hb : Below w.heap.size w W) (hg : W.grownBy w2 (f i).ownBlock) (hv : Buf 5 1 w2 v x.length (nums .u8 x))
    (hat : v.ownBlock = (f i).ownBlock ∨ ∃ b, v.ownBlock = some b ∧ W.heap.size ≤ b) : DiskMem S (w2.setCell ⟨g, i, none⟩ v) g { D with files := upd D.files i x } (updV f i v) wv DW ∧ Foot S w (w2.setCell ⟨g, i, none⟩ v) := by
  have hblk := M.blk2 hb hg (M.fne hi)
  have hd : ∀ k, v.ownBlock = some k → (f i).ownBlock = some k ∨ w.heap.size ≤ k := by
    intro k hk
    rcases hat with h | ⟨b, h1, h2⟩
    · exact .inl (by rw [← h]; exact hk)
    · rw [h1] at hk
      injection hk with hk
      exact .inr (by have := hb.size; omega)
  have hvg : v.ownBlock ≠ some g := by
    intro h
    rcases hd g h with h2 | h2
    · exact M.fne hi g h2 rfl
    · have := M.lt; omega
  have hs : ∀ k, v.ownBlock = some k → S k := by
    intro k hk
    rcases hd k hk with h | h
    · exact M.sf i hi k h
    · exact hfr k h
  have h2 := blk_set hblk i v
  rw [cells_file f wv D i hi v x] at h2
  refine ⟨M.setFile i hi v x h2 (hv.far (p := ⟨g, i, none⟩) hvg v) hd hs (fun k h1 h3 h4 h5 => ?_), ?_⟩
  · exact (Below.heap_setCell w2 ⟨g, i, none⟩ v k h1).trans ((hg.block k (Nat.lt_of_lt_of_le h4 hb.size) (fun h => h5 h.symm)).trans (hb.block k h4))
  · exact Foot.setCell (p := ⟨g, i, none⟩) ((Foot.of_below hb S).grown hg (fun k hk => .inl (M.sf i hi k hk))) M.sg v
theorem cells_wait (f : Nat → Value) (wv : Value) (D : Dsk) (v : Value) (ws : List Deed) : (diskCells f wv D).setIfInBounds 5 v = diskCells f v { D with wait := ws } := rfl
theorem DiskMem.putWait (M : DiskMem S w g D f wv DW) (hfr : ∀ k, w.heap.size ≤ k → S k) (v : Value) (DW1 : List (Deed × Value)) (ws : List Deed) (hdw : DW1.map Prod.fst = ws.reverse) (hb : Below w.heap.size w W) (hg : W.grownBy w2 wv.ownBlock)
    (hv : Buf 106 3 w2 v DW1.length (DW1.flatMap cell3)) (hat : v.ownBlock = wv.ownBlock ∨ ∃ b, v.ownBlock = some b ∧ W.heap.size ≤ b)
    (hp1 : ∀ p ∈ DW1, p ∈ DW ∨ (p.1.file < 4 ∧ (∀ k, p.2.ownBlock = some k → k ≠ g) ∧ Buf 5 1 w2 p.2 p.1.off.length (nums .u8 p.1.off) ∧ (∀ i, i < 4 → ∀ k, (f i).ownBlock = some k → p.2.ownBlock ≠ some k) ∧ ∀ k, p.2.ownBlock = some k → S k)) :
    DiskMem S (w2.setCell ⟨g, 5, none⟩ v) g { D with wait := ws } f v DW1 ∧ Foot S w (w2.setCell ⟨g, 5, none⟩ v) := by
  have hblk := M.blk2 hb hg M.wne
  have hd : ∀ k, v.ownBlock = some k → wv.ownBlock = some k ∨ w.heap.size ≤ k := by
    intro k hk
    rcases hat with h | ⟨b, h1, h2⟩
    · exact .inl (by rw [← h]; exact hk)
    · rw [h1] at hk
      injection hk with hk
      exact .inr (by have := hb.size; omega)
  have hvg : v.ownBlock ≠ some g := by
    intro h
    rcases hd g h with h2 | h2
    · exact M.wne g h2 rfl
    · have := M.lt; omega
  have hs : ∀ k, v.ownBlock = some k → S k := by
    intro k hk
    rcases hd k hk with h | h
    · exact M.sw k h
    · exact hfr k h
  have h2 := blk_set hblk 5 v
  rw [cells_wait f wv D v ws] at h2
  refine ⟨M.setWait v DW1 ws hdw h2 (hv.far (p := ⟨g, 5, none⟩) hvg v) hs (fun k h1 h3 h4 h5 => ?_) (fun p hp => ?_), ?_⟩
  · exact (Below.heap_setCell w2 ⟨g, 5, none⟩ v k h1).trans ((hg.block k (Nat.lt_of_lt_of_le h4 hb.size) (fun h => h5 h.symm)).trans (hb.block k h4))
  · rcases hp1 p hp with h | ⟨h1, h0, h2, h3⟩
    · exact .inl h
    · exact .inr ⟨h1, h2.far (p := ⟨g, 5, none⟩) (fun h => h0 g h rfl) v, h3⟩
  · exact Foot.setCell (p := ⟨g, 5, none⟩) ((Foot.of_below hb S).grown hg (fun k hk => .inl (M.sw k hk))) M.sg v
end
section
variable {P : Program} {ops : Array Oper} {rest : List Oper} {o : Oper} {a : Act} {Q : Exit → Act → World → Prop} {Kc : Act → World → Prop} {w : World}
theorem Buf.append_ev (t e : TypeId) (z : Value) (size bytes : Nat) (hgd : o.guard = none) (s x : Operand) (ho : o.op = .call { callee := .builtin .append, args := #[s, x], argTypes := #[t, t] })
    (ht : P.underlying t = some (.slice e)) (hinfo : (P.info? e).map (fun i => (i.zero, i.size, i.bytes)) = some (some z, size, bytes)) (hz : z.cells.size = size) (hs0 : 0 < size) (hb : 0 < bytes)
    (v : Value) (n : Nat) (xs : List Value) (h : Buf e size w v n xs) (A : Option Addr) (m c : Nat) (news : List Value) (hl : news.length = m * size) (hA : A = none → m = 0 ∧ c = 0) (hnews : ∀ ad, A = some ad → ∀ j u, news[j]? = some u → w.cell? (ad.add j) = some u) (h1 : ∀ u ∈ news, u.oneCell' = true)
    (hbytes : (n + m) * bytes ≤ 140737488355328) (hs : a.eval s = v) (hx : a.eval x = .slice A m c)
    (hK : ∀ v' w', Buf e size w' v' (n + m) (xs ++ news) → w.grownBy w' v.ownBlock → (v'.ownBlock = v.ownBlock ∨ ∃ b, v'.ownBlock = some b ∧ w.heap.size ≤ b) → wpList P ops Q rest (a.put o.dst v') w') : wpList P ops Q (o :: rest) a w := by
  obtain ⟨v', w', hr, h2, h3, h4⟩ := Buf.append_op (P := P) (o := o) (a := a) t e z size bytes s x ho ht hinfo hz hs0 hb v n xs h A m c news hl hA hnews h1 hbytes hs hx
  exact Kd.event_run hgd hr (hK v' w' h2 h3 h4)
theorem Buf.append_step (t e : TypeId) (z : Value) (size bytes : Nat) (hw : Region.wanted o (yielded ops a.tmps) = true) (s x : Operand) (ho : o.op = .call { callee := .builtin .append, args := #[s, x], argTypes := #[t, t] })
    (ht : P.underlying t = some (.slice e)) (hinfo : (P.info? e).map (fun i => (i.zero, i.size, i.bytes)) = some (some z, size, bytes)) (hz : z.cells.size = size) (hs0 : 0 < size) (hb : 0 < bytes)
    (v : Value) (n : Nat) (xs : List Value) (h : Buf e size w v n xs) (A : Option Addr) (m c : Nat) (news : List Value) (hl : news.length = m * size) (hA : A = none → m = 0 ∧ c = 0) (hnews : ∀ ad, A = some ad → ∀ j u, news[j]? = some u → w.cell? (ad.add j) = some u) (h1 : ∀ u ∈ news, u.oneCell' = true)
    (hbytes : (n + m) * bytes ≤ 140737488355328) (hs : a.eval s = v) (hx : a.eval x = .slice A m c)
    (hK : ∀ v' w', Buf e size w' v' (n + m) (xs ++ news) → w.grownBy w' v.ownBlock → (v'.ownBlock = v.ownBlock ∨ ∃ b, v'.ownBlock = some b ∧ w.heap.size ≤ b) → Kc (a.put o.dst v') w') :
    if Region.wanted o (yielded ops a.tmps) = true then Oper.wp P o a w Kc Q else Kc (a.put o.dst undef) w := by
  obtain ⟨v', w', hr, h2, h3, h4⟩ := Buf.append_op (P := P) (o := o) (a := a) t e z size bytes s x ho ht hinfo hz hs0 hb v n xs h A m c news hl hA hnews h1 hbytes hs hx
  exact event_step hw hr (hK v' w' h2 h3 h4)
end
theorem info5 : (Try.prog.info? 5).map (fun i => (i.zero, i.size, i.bytes)) = some (some (.int .u8 0), 1, 1) := by kernel_rfl
theorem info106 : (Try.prog.info? 106).map (fun i => (i.zero, i.size, i.bytes)) = some (some (.agg #[.int .i64 0, .bool false, .slice none 0 0]), 3, 40) := by kernel_rfl
def Dsk.appOne (D : Dsk) (i : Nat) (c : Int) : Dsk := { D.step with files := upd D.step.files i (D.step.files i ++ [c]), wait := ⟨i, false, []⟩ :: D.step.wait }
def appL (i : Nat) : Dsk → List Int → Dsk × Bool
  | D, [] => (D, true)
  | D, c :: cs => if D.gone then (D.step, false) else appL i (D.appOne i c) cs
def Dsk.app (D : Dsk) (file : Int) (b : List Int) : Int × Dsk :=
  if hasB file = false then (2, D) else if D.dark then (10, D) else if D.leftN 4 < (b.length : Int) then (9, D) else ((if (appL file.toNat D b).2 then 0 else 10), (appL file.toNat D b).1)
theorem appL_at (i : Nat) (D : Dsk) (b : List Int) (k : Nat) (hk : k < b.length) : appL i D (b.drop k) = if D.gone then (D.step, false) else appL i (D.appOne i (b.getD k 0)) (b.drop (k + 1)) := by
  rw [List.drop_eq_getElem_cons hk, List.getD_eq_getElem?_getD, List.getElem?_eq_getElem hk]
  rfl
end Go.Proofs.Ytfkkekdpfkglbaa.Q
