/- A row of int64 of a function's own: how it is made out of another, read and written. Conditions: as typed. -/
import Derived.Test.YtfkkekdpfkglbaaNet
namespace Go.Proofs.Ytfkkekdpfkglbaa.Q
open Go.RowKit Go.Proofs.YtfkkekdpfkglbaaW.PrintWords Go.Proofs.YtfkkekdpfkglbaaW.PrintLast Go.Proofs.YtfkkekdpfkglbaaW.PrintMore
set_option linter.unusedVariables false
set_option linter.unusedSimpArgs false
/-- Block g holds these numbers, and may hold more behind. -/
structure Row (w : World) (g : Nat) (P : List Int) : Prop where
  mk :: (out : ∃ cur : Array Value, w.heap[g]? = some (.cells cur 2 (0, 0)) ∧ P.length ≤ cur.size ∧ ∀ j, j < P.length → cur[j]? = some (.int .i64 (P.getD j 0)))
section
variable {w w1 : World} {g : Nat} {P : List Int}
theorem Row.lt (h : Row w g P) : g < w.heap.size := by
  obtain ⟨cur, h1, _⟩ := h.out
  exact blk_lt h1
theorem Row.drewN (h : Row w g P) (n : Nat) : Row (w.drewN n) g P := ⟨h.out⟩
theorem Row.same (h : Row w g P) (hb : w1.heap[g]? = w.heap[g]?) : Row w1 g P := by
  obtain ⟨cur, h1, h2⟩ := h.out
  exact ⟨cur, hb.trans h1, h2⟩
theorem Row.cell (h : Row w g P) {j : Nat} (hj : j < P.length) : w.cell? ⟨g, j, none⟩ = some (.int .i64 (P.getD j 0)) := by
  obtain ⟨cur, h1, h2, h3⟩ := h.out
  rw [blk_cell h1, h3 j hj]
theorem Row.frozen (h : Row w g P) (j : Nat) : w.frozen? ⟨g, j, none⟩ = false := by
  obtain ⟨cur, h1, h2, h3⟩ := h.out
  exact blk_frozen h1 j
theorem Row.set (h : Row w g P) (j : Nat) (x : Int) : Row (w.setCell ⟨g, j, none⟩ (.int .i64 x)) g (P.set j x) := by
  obtain ⟨cur, h1, h2, h3⟩ := h.out
  refine ⟨_, heap_setCell_same w g j _ 2 (.int .i64 x) h1, ?_, fun k hk => ?_⟩
  · rw [List.length_set, Array.size_setIfInBounds]
    exact h2
  · rw [List.length_set] at hk
    rw [Array.getElem?_setIfInBounds, List.getD_eq_getElem?_getD, List.getElem?_set]
    by_cases e : j = k
    · subst e
      rw [if_pos rfl, if_pos rfl, if_pos (by omega), if_pos hk]
      rfl
    · rw [if_neg e, if_neg e, h3 k hk, List.getD_eq_getElem?_getD]
theorem Row.far (h : Row w g P) {p : Addr} (hp : g ≠ p.block) (v : Value) : Row (w.setCell p v) g P := h.same (Below.heap_setCell w p v g hp)
theorem Row.C (h : Row w g P) (hm : P.length ≤ 1000) : Kd.C (Kd.int .i64) w (some ⟨g, 0, none⟩) P.length P := by
  refine Kd.C_of_reads (d := (0 : Int)) (h1 := fun _ => rfl) ⟨rfl, by omega, fun _ => ⟨_, rfl, fun j hj => ?_⟩⟩
  rw [add_at, Nat.zero_add]
  exact h.cell hj
theorem Row.of_R {b : Nat} {ok : Nat → Prop} {v : Value} (h : (Kd.int .i64).R 2 w b ok v P) (hp : 0 < P.length) : ∃ g c, v = .slice (some ⟨g, 0, none⟩) P.length c ∧ P.length ≤ c ∧ b ≤ g ∧ Row w g P := by
  obtain ⟨g, cap, e, hb, hlt, cells, hc⟩ := Kd.R_form h hp
  subst e
  obtain ⟨hn, hnc, hC⟩ := Kd.R_reads' h
  obtain ⟨inner, ho⟩ := Kd.R_own h
  refine ⟨g, cap, rfl, hnc, hb, cells, hc, ?_, fun j hj => ?_⟩
  · rcases ho.2 with ⟨h1, _⟩ | ⟨g', cap', cur, h1, _, h2, h3, h4, h5, h6⟩
    · cases h1
    · injection h1 with ha _ hc2
      injection ha with ha
      injection ha with ha
      subst ha; subst hc2
      rw [hc] at h2
      injection h2 with h2
      injection h2 with h2
      subst h2
      rw [h5]
      exact Nat.le_trans h3 (by show cap ≤ cap * 1; omega)
  · obtain ⟨ad, e, hcell⟩ := (Kd.reads_of_C (d := (0 : Int)) (h1 := fun _ => rfl) hC).2.2 hp
    injection e with e
    subst e
    have := hcell j hj
    rw [add_at, Nat.zero_add] at this
    rw [← blk_cell hc]
    exact this
end
theorem info2 : (Try.prog.info? 2).map (fun i => (i.zero, i.size, i.bytes)) = some (some (.int .i64 0), 1, 8) := by kernel_rfl
theorem append_row {ops : Array Oper} {rest : List Oper} {o : Oper} {a : Act} {Q : Exit → Act → World → Prop} (w0 : World) (hgd : o.guard = none) (s x : Operand) (ho : o.op = .call { callee := .builtin .append, args := #[s, x], argTypes := #[22, 22] })
    (hs : a.eval s = .slice (some ⟨w0.heap.size, 0, none⟩) 0 0) (A : Option Addr) (m c : Nat) (xs : List Int) (hx : a.eval x = .slice A m c) (hC : Kd.C (Kd.int .i64) w0 A m xs) (hm : xs.length ≤ 1000) (hp : 0 < xs.length)
    (h : ∀ g c w', Row w' g xs → xs.length ≤ c → w0.heap.size ≤ g → Below w0.heap.size w0 w' → wpList Try.prog ops Q rest (a.put o.dst (.slice (some ⟨g, 0, none⟩) xs.length c)) w') : wpList Try.prog ops Q (o :: rest) a (w0.alloc (.cells #[] 2)) := by
  have hb : Below w0.heap.size w0 (w0.alloc (.cells #[] 2)) := below_alloc (Below.refl _ w0) _
  have hlit := World.ownsRow_lit (base := w0.heap.size) (e := 2) (size := 1) w0 #[] 0 (Nat.le_refl _) (by decide) rfl
  have hR : (Kd.int .i64).R 2 (w0.alloc (.cells #[] 2)) w0.heap.size (fun _ => True) (.slice (some ⟨w0.heap.size, 0, none⟩) 0 0) [] := ⟨fun _ _ => trivial, [], hlit, Reps.none _ _⟩
  have hlen : xs.length = m := hC.1
  refine Kd.R_append_rows (Kd.int .i64) (w0 := w0) w0.heap.size hgd s x 22 2 (.int .i64 0) 8 ho Try.underlying22 info2 rfl (by decide) (by omega) _ [] xs A m c (fun _ => True) (fun _ => False) hs hx hR (Kd.C_below hC hb) (fun _ _ h => h) (fun _ h => h.elim) (fun _ _ => trivial) hb hb.size (by simp only [List.length_nil]; omega) ?_
  intro v1 w1 h1 h2 h3 h4
  rw [List.nil_append] at h1
  obtain ⟨g, c', e, hc', hg, hrow⟩ := Row.of_R h1 hp
  subst e
  exact h g c' w1 hrow hc' hg h2
end Go.Proofs.Ytfkkekdpfkglbaa.Q
