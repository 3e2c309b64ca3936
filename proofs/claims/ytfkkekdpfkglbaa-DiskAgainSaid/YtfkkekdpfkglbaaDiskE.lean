/- A disk's Read, undo and Crash. Conditions: as typed. -/
import Derived.Test.YtfkkekdpfkglbaaDiskD
namespace Go.Proofs.Ytfkkekdpfkglbaa.Q
open Go.RowKit Go.Proofs.YtfkkekdpfkglbaaW.PrintWords Go.Proofs.YtfkkekdpfkglbaaW.PrintLast Go.Proofs.YtfkkekdpfkglbaaW.PrintMore
set_option linter.unusedVariables false
set_option linter.unusedSimpArgs false
theorem buf_lit0 (w : World) (e size : Nat) : Buf e size (w.alloc (.cells #[] e)) (.slice (some ⟨w.heap.size, 0, none⟩) 0 0) 0 [] :=
  ⟨by simp, .inr ⟨w.heap.size, 0, #[], rfl, heap_alloc_new w _, Nat.le_refl _, by simp [maxLen], by simp, by simp⟩⟩
theorem nums_one (k : IntKind) (xs : List Int) : ∀ u ∈ nums k xs, u.oneCell' = true := by
  intro u hu
  obtain ⟨x, _, rfl⟩ := List.mem_map.1 hu
  rfl
set_option maxHeartbeats 8000000 in
set_option maxRecDepth 100000 in
theorem disk_Read.bad (S : Nat → Prop) (g : Nat) (D : Dsk) (file : Int) (w : World) (h : DiskAt S w g D) (hb : hasB file = false ∨ D.dark = true) :
    Calls Try.prog 24 #[.pointer (some ⟨g, 0, none⟩), .int .i64 file] w fun e w' => e = .returned (.tuple #[.slice none 0 0, .int .i64 (if hasB file then 10 else 2)]) ∧ w' = w := by
  obtain ⟨f, wv, DW, M⟩ := h.out
  have k8 : w.cell? ⟨g, 8, none⟩ = some (.bool D.dark) := M.cell 8
  clear M h
  cases hh : hasB file with
  | false =>
    have HH := Aside0.mk hh
    clear hh hb
    go_enter Try.func24, Try.ntmps24
    go_wp2_with (go_at_call 61; (with_reducible refine (disk_has.calls _ _).mono ?_); rintro e w1 ⟨rfl, hw1⟩; have hw2 := hw1.symm; clear hw1; subst hw2; rw [HH.out])
    go_ret2
    exact ⟨rfl, rfl⟩
  | true =>
    have hd : D.dark = true := by
      rcases hb with h | h
      · rw [hh] at h; cases h
      · exact h
    rw [hd] at k8
    have HH := Aside0.mk hh
    clear hh hb hd
    go_enter Try.func24, Try.ntmps24
    go_wp2_with (go_at_call 61; (with_reducible refine (disk_has.calls _ _).mono ?_); rintro e w1 ⟨rfl, hw1⟩; have hw2 := hw1.symm; clear hw1; subst hw2; rw [HH.out])
    go_ret2
    exact ⟨rfl, rfl⟩
set_option maxHeartbeats 8000000 in
set_option maxRecDepth 100000 in
theorem disk_Read.calls (S : Nat → Prop) (g : Nat) (D : Dsk) (n : Nat) (hn : n < 4) (hd : D.dark = false) (w : World) (h : DiskAt S w g D) (hL : (D.files n).length ≤ 1099511627776) :
    Calls Try.prog 24 #[.pointer (some ⟨g, 0, none⟩), .int .i64 (n : Int)] w fun e w' => ∃ v, e = .returned (.tuple #[v, .int .i64 0]) ∧ Buf 5 1 w' v (D.files n).length (nums .u8 (D.files n)) ∧ (∀ k, v.ownBlock = some k → w.heap.size ≤ k) ∧ Below w.heap.size w w' ∧ DiskAt S w' g D := by
  have HD := Aside0.mk h
  obtain ⟨f, wv, DW, M⟩ := h.out
  have k8 : w.cell? ⟨g, 8, none⟩ = some (.bool D.dark) := M.cell 8
  rw [hd] at k8
  have k1 := M.cfile n hn
  obtain ⟨A, c, e, hc, hA0⟩ := (M.fil n hn).slice
  have hfil := M.fil n hn
  rw [e] at k1 hfil
  have HB := Aside0.mk (show (nums .u8 (D.files n)).length = (D.files n).length * 1 ∧ (A = none → (D.files n).length = 0 ∧ c = 0) ∧ ∀ ad, A = some ad → ∀ j u, (nums .u8 (D.files n))[j]? = some u → (w.alloc (.cells #[] 5)).cell? (ad.add j) = some u from ⟨hfil.1, hA0, (hfil.below (below_alloc (Below.refl _ w) _)).cells⟩)
  have HL := Aside0.mk hL
  have HH := Aside0.mk (hasB_nat hn)
  have p0 : (0 ≤ (n : Int)) = True := eq_true (by omega)
  have q0 : ((n : Int) < 4) = True := eq_true (by omega)
  have q1 : (n < 4) = True := eq_true hn
  have kA : ∀ o, (w.alloc o).cell? ⟨g, n, none⟩ = some (.slice A (D.files n).length c) := fun o => ((below_alloc (Below.refl w.heap.size w) o).cell (p := ⟨g, n, none⟩) M.lt).trans k1
  clear M h hn hd hfil hc hA0 hL e
  go_enter Try.func24, Try.ntmps24
  go_wp2_with (first | (go_at_call 61; (with_reducible refine (disk_has.calls _ _).mono ?_); rintro e w1 ⟨rfl, hw1⟩; have hw2 := hw1.symm; clear hw1; subst hw2; rw [HH.out]) | (at_builtin; refine Buf.append_ev 37 5 (.int .u8 0) 1 1 rfl (.tmp 18) (.tmp 24) rfl Try.underlying37 info5 rfl (by decide) (by decide) _ 0 [] (buf_lit0 w 5 1) A _ c (nums .u8 (D.files n)) HB.out.1 HB.out.2.1 HB.out.2.2 (nums_one _ _) (by have := HL.out; omega) rfl rfl ?_; intro v2 w2 hv2 hg2 hat2; rw [Nat.zero_add, List.nil_append] at hv2; have HV2 := Aside0.mk hv2; have HG2 := Aside0.mk hg2; have HA2 := Aside0.mk hat2; clear hv2 hg2 hat2))
  go_ret2
  have hb2 : Below w.heap.size w w2 := (below_alloc (Below.refl _ w) (.cells #[] 5)).grown HG2.out (by have := (below_alloc (Below.refl w.heap.size w) (.cells #[] 5)).size; omega) (fun k hk => by
    injection hk with hk
    show w.heap.size ≤ k
    rw [← hk]
    exact Nat.le_refl _)
  refine ⟨v2, rfl, HV2.out, fun k hk => ?_, hb2, HD.out.below hb2⟩
  rcases HA2.out with h | ⟨b, h1, h2⟩
  · rw [h] at hk
    injection hk with hk
    show w.heap.size ≤ k
    rw [← hk]
    exact Nat.le_refl _
  · rw [h1] at hk
    injection hk with hk
    have := (below_alloc (Below.refl w.heap.size w) (.cells #[] 5)).size
    omega
end Go.Proofs.Ytfkkekdpfkglbaa.Q
