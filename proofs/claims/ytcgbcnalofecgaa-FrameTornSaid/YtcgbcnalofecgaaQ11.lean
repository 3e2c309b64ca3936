/- A function of the program or a law's row comes to what the Lean function beside it says; no condition beyond those typed. Written by a program of this workplace; Lean checks it. -/
import Derived.Test.YtcgbcnalofecgaaQ0
import Derived.Test.YtcgbcnalofecgaaQ5
import Derived.Test.YtcgbcnalofecgaaQ10
namespace Go.Proofs.Ytcgbcnalofecgaa.Q
open Go.RowKit Go.Proofs.YtcgbcnalofecgaaW.PrintWords Go.Proofs.YtcgbcnalofecgaaW.PrintLast Go.Proofs.YtcgbcnalofecgaaW.PrintMore
attribute [local go_sem] max2_int min2_int max_two min_two max_three min_three max_four min_four   -- for this text's walks alone
set_option linter.unusedVariables false
set_option linter.unusedSimpArgs false

/-! ### punnetref06_Made: function 17 -/
theorem byte_fin : ∀ i : Fin 256, punnetref06_Byte.f 9 (i.val : Int) = some (tval i.val) := by decide +kernel
theorem byte_at {i : Int} (h0 : 0 ≤ i) (h1 : i < 256) : punnetref06_Byte.f 9 (i % 256) = some (tval i.toNat) := by
  have := byte_fin ⟨i.toNat, by omega⟩
  rw [show i % 256 = ((i.toNat : Nat) : Int) by omega]
  exact this
def zeroTab : Tab := ⟨List.replicate 256 0, List.length_replicate .., by intro x hx; rw [List.eq_of_mem_replicate hx]; omega⟩
theorem built_zero : Try.prog.built 24 [] = some (tabC zeroTab) := by kernel_rfl
theorem zero_build_event {ops : Array Oper} {rest : List Oper} {o : Oper} {a : Act} {Q : Exit → Act → World → Prop} {W : World} (hog : o.guard = none) (ho : o.op = .build 24 #[])
    (h : wpList Try.prog ops Q rest (a.put o.dst (.agg (tabC zeroTab))) W) : wpList Try.prog ops Q (o :: rest) a W :=
  wpList_build hog 24 #[] ho (by simp [built_zero]) (by simpa [built_zero] using h)
def punnetref06_Made.f : Option Tab := some madeTab
set_option maxHeartbeats 2000000 in
set_option maxRecDepth 100000 in
theorem punnetref06_Made.calls (r : Tab) (w : World) (h : punnetref06_Made.f = some r) :
    Calls Try.prog 17 #[] w fun e w' => e = .returned (.agg (tabC r)) ∧ Below w.heap.size w w' := by
  have hr : r = madeTab := (Option.some.inj h).symm
  subst hr
  clear h
  go_enter Try.func17, Try.ntmps17
  go_wp2_with (first | ((with_reducible refine gate_dst (N := 0) rfl ?_); refine tab_zero_event rfl rfl rfl (by kernel_rfl) ?_; intro g0 hg0 w1 hz0 hb0; have hx0 := Aside0.mk (show w.heap.size ≤ g0 from by omega); clear hg0) | ((with_reducible refine gate_dst (N := 3) rfl ?_); refine zero_build_event rfl rfl ?_) | ((with_reducible refine gate_dst (N := 1) rfl ?_); refine tab_alloc_event (t := 24) (x := zeroTab) rfl rfl rfl rfl rfl rfl (by first | rfl | (go_simp; done)) (by first | rfl | (go_simp; done)) (by kernel_rfl) ?_; intro g1 hg1 w2 hz1 hb1; have hx1 := Aside0.mk (show w1.heap.size ≤ g1 from by omega); clear hg1))
  have HB := Aside0.mk (hb0.trans (hb1.mono (by have := hb0.size; omega)))
  have hlt0 : g0 < w1.heap.size := by obtain ⟨z, hz, _⟩ := hz0; exact blk_lt hz
  have H0 := Aside0.mk (show ∃ z : Array Value, w2.heap[g0]? = some (.cells z 24 (0, 0)) ∧ z.size = 256 from by
    obtain ⟨z, hz, hs⟩ := hz0
    exact ⟨z, blk_below hz hb1, hs⟩)
  have H1 := Aside0.mk (show Part w2 g1 0 from ⟨⟨_, hz1, tabC_size _, by omega, by omega, fun j hj => by omega⟩⟩)
  have HG := Aside0.mk (show w.heap.size ≤ g0 ∧ g0 < g1 ∧ w.heap.size ≤ g1 from by have := hb0.size; have := hx0.out; have := hx1.out; omega)
  clear hx0 hx1
  clear hb0 hb1 hz0 hz1 hlt0
  go_loopg [2] 256 (fun kq v2 w' => ∃ i : Int, v2 = .int .i64 i ∧ Aside0 (0 ≤ i ∧ i + kq = 256) ∧ Aside0 (∃ z : Array Value, w'.heap[g0]? = some (.cells z 24 (0, 0)) ∧ z.size = 256) ∧ Aside0 (Part w' g1 i) ∧ Aside0 (Below w.heap.size w w'))
  case atStart => exact ⟨0, rfl, ⟨by omega⟩, H0, H1, HB⟩
  case round =>
    clear H0 H1 HB
    obtain ⟨i, rfl, HK, H0, H1, HB⟩ := hrel
    by_cases ci : i < 256
    · have c0 : decide (i < (256 : Int)) = true := decide_eq_true ci
      obtain ⟨k1, rfl⟩ : ∃ k1, gk = k1 + 1 := ⟨gk - 1, by have := HK.out; omega⟩
      have hR := byte_at HK.out.1 ci
      have p1 : (0 ≤ i) = True := eq_true HK.out.1
      have q1 : (i < 256) = True := eq_true ci
      obtain ⟨v, hv⟩ := H1.out.cell ci
      have hvq : ∀ n : Nat, (wr.drewN n).cell? ⟨g1, i.toNat, none⟩ = some v := fun _ => hv
      have hfz := H1.out.frozen i.toNat
      have hfq : ∀ n : Nat, (wr.drewN n).frozen? ⟨g1, i.toNat, none⟩ = false := fun _ => hfz
      go_wp2_with ((with_reducible refine gate_callee (f := 29) rfl ?_); refine goesL_ (some 11) rfl rfl Try.func29 (by kernel_rfl) rfl #[.int .u8 (i % 256)] rfl (by (try simp only [List.map_toArray, List.map_cons, List.map_nil]); first | done | rfl) ?_; (with_reducible refine (punnetref06_Byte.calls 9 _ _ _ hR).mono ?_); rintro e w' ⟨rfl, ⟨nd, rfl⟩⟩; refine ⟨_, rfl, ?_⟩)
      go_roundg k1
      case measure => omega
      case rel =>
        have hg := HG.out
        obtain ⟨z, hz, hs⟩ := H0.out
        exact ⟨i + 1, by first | rfl | (congr 1; have := HK.out; unfold wrap64; omega), ⟨by have := HK.out; omega⟩, ⟨z, blk_far (blk_drewN hz nd) (p := ⟨g1, i.toNat, none⟩) (by show g0 ≠ g1; omega) _, hs⟩, ⟨(H1.out.drewN nd).put ci⟩, ⟨below_set (pw_below_drewN HB.out nd) hg.2.2⟩⟩
    · have c0 : decide (i < (256 : Int)) = false := decide_eq_false ci
      have hi : i = 256 := by have := HK.out; omega
      subst hi
      have hw := H1.out.whole
      obtain ⟨z, hz, hs⟩ := H0.out
      go_wp2_with (first | ((with_reducible refine gate_dst (N := 13) rfl ?_); refine wpList_load_row rfl 24 (.tmp 1) rfl g1 rfl 24 (tabC madeTab) (0, 0) _ hw Try.underlying24 rfl (by rw [tabC_size]; kernel_rfl) ?_) | ((with_reducible refine gate_store (t := 24) (p := 0) rfl ?_); refine tab_store_event rfl rfl rfl rfl rfl hz hs (by kernel_rfl) ?_; intro w3 hw3 hb3))
      refine bodyPost_ret (results_cell_row rfl _ _ g0 24 (tabC madeTab) (0, 0) _ rfl hw3 Try.underlying24 rfl (by rw [tabC_size]; kernel_rfl)) rfl ?_
      exact ⟨rfl, HB.out.trans (hb3 _ HG.out.1)⟩

end Go.Proofs.Ytcgbcnalofecgaa.Q
