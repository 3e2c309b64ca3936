/- A function of the program or a law's row comes to what the Lean function beside it says; no condition beyond those typed. Written by a program of this workplace; Lean checks it. -/
import Derived.Test.YtcgbcnalofecgaaQ0
import Derived.Test.YtcgbcnalofecgaaQ4
namespace Go.Proofs.Ytcgbcnalofecgaa.Q
open Go.RowKit Go.Proofs.YtcgbcnalofecgaaW.PrintWords Go.Proofs.YtcgbcnalofecgaaW.PrintLast Go.Proofs.YtcgbcnalofecgaaW.PrintMore
attribute [local go_sem] max2_int min2_int max_two min_two max_three min_three max_four min_four   -- for this text's walks alone
set_option linter.unusedVariables false
set_option linter.unusedSimpArgs false

/-! ### sum_Make: function 16 -/
/-- A number, turned bit by bit. -/
def rstep (n : Nat) : Nat := if n % 2 = 1 then n / 2 ^^^ 3988292384 else n / 2
def rsteps : Nat → Nat → Nat
  | 0, n => n
  | k + 1, n => rsteps k (rstep n)
theorem rstep_lt {n : Nat} (h : n < 4294967296) : rstep n < 4294967296 := by
  unfold rstep
  split
  · exact Nat.xor_lt_two_pow (n := 32) (by omega) (by decide)
  · omega
theorem rsteps_lt (k : Nat) {n : Nat} (h : n < 4294967296) : rsteps k n < 4294967296 := by
  induction k generalizing n with
  | zero => exact h
  | succ k ih => exact ih (rstep_lt h)
def tval (i : Nat) : Int := ((rsteps 8 i : Nat) : Int)
/-- The table of all bytes' remainders. -/
def madeTab : Tab := ⟨(List.range 256).map tval, by simp, by
  intro x hx
  obtain ⟨i, hi, rfl⟩ := List.mem_map.1 hx
  have := rsteps_lt 8 (n := i) (by have := List.mem_range.1 hi; omega)
  unfold tval
  omega⟩
theorem rem_fin : ∀ i : Fin 256, sum_remainder.f 9 (i.val : Int) = some (tval i.val) := by decide +kernel
theorem rem_at {i : Int} (h0 : 0 ≤ i) (h1 : i < 256) : sum_remainder.f 9 (i % 4294967296) = some (tval i.toNat) := by
  have := rem_fin ⟨i.toNat, by omega⟩
  rw [show i % 4294967296 = ((i.toNat : Nat) : Int) by omega]
  exact this
/-- The first cells of a block of 256 are the table's. -/
structure Part (W : World) (g : Nat) (i : Int) : Prop where
  mk :: (out : ∃ cs : Array Value, W.heap[g]? = some (.cells cs 24 (0, 0)) ∧ cs.size = 256 ∧ 0 ≤ i ∧ i ≤ 256 ∧ ∀ j : Nat, (j : Int) < i → cs[j]? = some (.int .u32 (tval j)))
theorem Part.cell {W : World} {g : Nat} {i : Int} (h : Part W g i) (h1 : i < 256) : ∃ v, W.cell? ⟨g, i.toNat, none⟩ = some v := by
  obtain ⟨cs, hb, hs, h0, _, _⟩ := h.out
  exact ⟨cs[i.toNat]'(by omega), by rw [cell_of_row W g _ cs 24 (0, 0) hb]; exact Array.getElem?_eq_getElem (by omega)⟩
theorem Part.frozen {W : World} {g : Nat} {i : Int} (h : Part W g i) (k : Nat) : W.frozen? ⟨g, k, none⟩ = false := by
  obtain ⟨cs, hb, _⟩ := h.out
  exact frozen_of_row W g k cs 24 hb
theorem Part.drewN {W : World} {g : Nat} {i : Int} (h : Part W g i) (n : Nat) : Part (W.drewN n) g i := ⟨h.out⟩
theorem Part.put {W : World} {g : Nat} {i : Int} (h : Part W g i) (h1 : i < 256) : Part (W.setCell ⟨g, i.toNat, none⟩ (.int .u32 (tval i.toNat))) g (i + 1) := by
  obtain ⟨cs, hb, hs, h0, _, hc⟩ := h.out
  refine ⟨⟨_, heap_setCell_same W g _ cs 24 _ hb, by simpa using hs, by omega, by omega, ?_⟩⟩
  intro j hj
  by_cases e : j = i.toNat
  · subst e
    simp [Array.getElem?_setIfInBounds, hs]
    omega
  · rw [Array.getElem?_setIfInBounds_ne (by omega)]
    exact hc j (by omega)
theorem Part.whole {W : World} {g : Nat} (h : Part W g 256) : W.heap[g]? = some (.cells (tabC madeTab) 24 (0, 0)) := by
  obtain ⟨cs, hb, hs, h0, _, hc⟩ := h.out
  have : cs = tabC madeTab := by
    apply Array.ext_getElem?
    intro j
    by_cases hj : j < 256
    · rw [hc j (by omega), tabC_get madeTab j hj]
      simp [madeTab, List.getD_eq_getElem?_getD, hj]
    · rw [Array.getElem?_eq_none (by omega), Array.getElem?_eq_none (by rw [tabC_size]; omega)]
  rw [hb, this]
def sum_Make.f : Option Tab := some madeTab
set_option maxHeartbeats 2000000 in
set_option maxRecDepth 100000 in
theorem sum_Make.calls (r : Tab) (w : World) (h : sum_Make.f = some r) :
    Calls Try.prog 16 #[] w fun e w' => e = .returned (.agg (tabC r)) ∧ Below w.heap.size w w' := by
  have hr : r = madeTab := (Option.some.inj h).symm
  subst hr
  clear h
  go_enter Try.func16, Try.ntmps16
  go_wp2_with (first | ((with_reducible refine gate_dst (N := 0) rfl ?_); refine tab_zero_event rfl rfl rfl (by kernel_rfl) ?_; intro g0 hg0 w1 hz0 hb0; have hx0 := Aside0.mk (show w.heap.size ≤ g0 from by omega); clear hg0) | ((with_reducible refine gate_dst (N := 1) rfl ?_); refine tab_zero_event rfl rfl rfl (by kernel_rfl) ?_; intro g1 hg1 w2 hz1 hb1; have hx1 := Aside0.mk (show w1.heap.size ≤ g1 from by omega); clear hg1))
  have HB := Aside0.mk (hb0.trans (hb1.mono (by have := hb0.size; omega)))
  have hlt0 : g0 < w1.heap.size := by obtain ⟨z, hz, _⟩ := hz0; exact blk_lt hz
  have H0 := Aside0.mk (show ∃ z : Array Value, w2.heap[g0]? = some (.cells z 24 (0, 0)) ∧ z.size = 256 from by
    obtain ⟨z, hz, hs⟩ := hz0
    exact ⟨z, blk_below hz hb1, hs⟩)
  have H1 := Aside0.mk (show Part w2 g1 0 from ⟨by obtain ⟨z, hz, hs⟩ := hz1; exact ⟨z, hz, hs, by omega, by omega, fun j hj => by omega⟩⟩)
  have HG := Aside0.mk (show w.heap.size ≤ g0 ∧ g0 < g1 ∧ w.heap.size ≤ g1 from by have := hb0.size; have := hx0.out; have := hx1.out; omega)
  clear hx0 hx1
  clear hb0 hb1 hz0 hz1 hlt0
  go_loopg [3] 256 (fun kq v3 w' => ∃ i : Int, v3 = .int .i64 i ∧ Aside0 (0 ≤ i ∧ i + kq = 256) ∧ Aside0 (∃ z : Array Value, w'.heap[g0]? = some (.cells z 24 (0, 0)) ∧ z.size = 256) ∧ Aside0 (Part w' g1 i) ∧ Aside0 (Below w.heap.size w w'))
  case atStart => exact ⟨0, rfl, ⟨by omega⟩, H0, H1, HB⟩
  case round =>
    clear H0 H1 HB
    obtain ⟨i, rfl, HK, H0, H1, HB⟩ := hrel
    by_cases ci : i < 256
    · have c0 : decide (i < (256 : Int)) = true := decide_eq_true ci
      obtain ⟨k1, rfl⟩ : ∃ k1, gk = k1 + 1 := ⟨gk - 1, by have := HK.out; omega⟩
      have hR := rem_at HK.out.1 ci
      have p1 : (0 ≤ i) = True := eq_true HK.out.1
      have q1 : (i < 256) = True := eq_true ci
      obtain ⟨v, hv⟩ := H1.out.cell ci
      have hvq : ∀ n : Nat, (wr.drewN n).cell? ⟨g1, i.toNat, none⟩ = some v := fun _ => hv
      have hfz := H1.out.frozen i.toNat
      have hfq : ∀ n : Nat, (wr.drewN n).frozen? ⟨g1, i.toNat, none⟩ = false := fun _ => hfz
      go_wp2_with ((with_reducible refine gate_callee (f := 28) rfl ?_); refine goesL_ (some 9) rfl rfl Try.func28 (by kernel_rfl) rfl #[.int .u32 (i % 4294967296)] rfl (by (try simp only [List.map_toArray, List.map_cons, List.map_nil]); first | done | rfl) ?_; (with_reducible refine (sum_remainder.calls 9 _ _ _ hR).mono ?_); rintro e w' ⟨rfl, ⟨nd, rfl⟩⟩; refine ⟨_, rfl, ?_⟩)
      go_roundg k1
      case measure => omega
      case rel =>
        have hg := HG.out
        obtain ⟨z, hz, hs⟩ := H0.out
        exact ⟨i + 1, by first | rfl | (congr 1; have := HK.out; unfold wrap64; omega), ⟨by have := HK.out; omega⟩, ⟨z, blk_far (blk_drewN hz nd) (p := ⟨g1, i.toNat, none⟩) (by show g0 ≠ g1; omega) _, hs⟩, ⟨(H1.out.drewN nd).put ci⟩, ⟨below_set (pw_below_drewN HB.out nd) hg.2.2⟩⟩
    · have c0 : decide (i < (256 : Int)) = false := decide_eq_false ci
      have hi : i = 256 := by have := HK.out; omega
      subst hi
      have hw := H1.out.whole
      obtain ⟨z, hz, hs⟩ := H0.out
      go_wp2_with (first | ((with_reducible refine gate_dst (N := 12) rfl ?_); refine wpList_load_row rfl 24 (.tmp 1) rfl g1 rfl 24 (tabC madeTab) (0, 0) _ hw Try.underlying24 rfl (by rw [tabC_size]; kernel_rfl) ?_) | ((with_reducible refine gate_store (t := 24) (p := 0) rfl ?_); refine tab_store_event rfl rfl rfl rfl rfl hz hs (by kernel_rfl) ?_; intro w3 hw3 hb3))
      refine bodyPost_ret (results_cell_row rfl _ _ g0 24 (tabC madeTab) (0, 0) _ rfl hw3 Try.underlying24 rfl (by rw [tabC_size]; kernel_rfl)) rfl ?_
      exact ⟨rfl, HB.out.trans (hb3 _ HG.out.1)⟩

end Go.Proofs.Ytcgbcnalofecgaa.Q
