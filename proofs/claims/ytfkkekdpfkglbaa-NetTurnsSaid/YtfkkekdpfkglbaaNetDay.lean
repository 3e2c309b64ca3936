/- The net: the chapter's example holds. No condition. -/
import Derived.Test.YtfkkekdpfkglbaaNetAwake
namespace Go.Proofs.Ytfkkekdpfkglbaa.Q
open Go.RowKit Go.Proofs.YtfkkekdpfkglbaaW.PrintWords Go.Proofs.YtfkkekdpfkglbaaW.PrintLast Go.Proofs.YtfkkekdpfkglbaaW.PrintMore
set_option linter.unusedVariables false
set_option linter.unusedSimpArgs false
theorem C_row {w : World} {g T : Nat} {k : IntKind} {xs : List Int} {fr : Nat × Nat} {cs : Array Value} (h : w.heap[g]? = some (.cells cs T fr)) (hcs : cs = (xs.map (Value.int k)).toArray) (hm : xs.length ≤ 1000) : Kd.C (Kd.int k) w (some ⟨g, 0, none⟩) xs.length xs := by
  subst hcs
  refine Kd.C_of_reads (d := 0) (h1 := fun _ => rfl) ⟨rfl, by omega, fun _ => ⟨_, rfl, fun j hj => ?_⟩⟩
  rw [show (⟨g, 0, none⟩ : Addr).add j = ⟨g, j, none⟩ by unfold Addr.add; split <;> simp_all, cell_of_row w g j _ T fr h]
  simp [List.getD, List.getElem?_eq_getElem hj]
theorem day_ok : ∀ i : Nat, i < 3 → okP (rd [1, -1, 0] (i : Int)) (rd [0, 0, 1] (i : Int)) = true := by
  intro i hi
  have : i = 0 ∨ i = 1 ∨ i = 2 := by omega
  rcases this with rfl | rfl | rfl <;> decide +kernel
theorem day_cut : okP 1 0 = true := by decide +kernel
theorem day_sides : ∀ z ∈ pts [1, -1, 0] [0, 0, 1] 3, ∃ c, plane_Side.f 2 (zOf 1 0) 0 z = some (sdF (zOf 1 0) 0 z, c) := by
  have h : ∀ z ∈ pts [1, -1, 0] [0, 0, 1] 3, (plane_Side.f 2 (zOf 1 0) 0 z).isSome = true := by decide +kernel
  exact fun z hz => side_some (h z hz)
theorem day_12 : apB (sdF (zOf 1 0) 0) (pts [1, -1, 0] [0, 0, 1] 3) 1 2 = true := by decide +kernel
theorem day_23 : apB (sdF (zOf 1 0) 0) (pts [1, -1, 0] [0, 0, 1] 3) 2 3 = true := by decide +kernel
theorem day_13 : apB (sdF (zOf 1 0) 0) (pts [1, -1, 0] [0, 0, 1] 3) 1 3 = true := by decide +kernel
theorem day_11 : apB (sdF (zOf 1 0) 0) (pts [1, -1, 0] [0, 0, 1] 3) 1 1 = false := by decide +kernel
set_option maxHeartbeats 4000000 in
set_option maxRecDepth 100000 in
theorem net_awake.calls (w : World) : Calls Try.prog 11 #[] w fun e w' => e = .returned (.bool true) ∧ Below w.heap.size w w' := by
  go_enter Try.func11, Try.ntmps11
  go_wp2_with fail
  have h0 := blk_below (blk_new w (.cells #[.int .i64 1, .int .i64 (-1), .int .i64 0] 2)) (below_alloc (Below.refl _ _) (.cells #[.int .i64 0, .int .i64 0, .int .i64 1] 2))
  have h1 := blk_new (w.alloc (.cells #[.int .i64 1, .int .i64 (-1), .int .i64 0] 2)) (.cells #[.int .i64 0, .int .i64 0, .int .i64 1] 2)
  have hs : (w.alloc (.cells #[.int .i64 1, .int .i64 (-1), .int .i64 0] 2)).heap.size = w.heap.size + 1 := by simp
  rw [hs] at h1
  have hB0 := Aside0.mk (below_alloc (below_alloc (Below.refl _ w) (.cells #[.int .i64 1, .int .i64 (-1), .int .i64 0] 2)) (.cells #[.int .i64 0, .int .i64 0, .int .i64 1] 2))
  refine (net_New.calls _ _ 3 3 [1, -1, 0] [0, 0, 1] _ (C_row h0 rfl (by decide)) (C_row h1 rfl (by decide)) (by decide) (by decide) rfl (by decide) (by decide) day_ok).mono ?_
  rintro e w1 ⟨g, rfl, hn, hg, hb⟩
  have HN := Aside0.mk hn
  have hgg : w.heap.size ≤ g := by
    have := hB0.out.size
    omega
  have HB := Aside0.mk (below_then hB0.out hB0.out.size hb)
  have HG := Aside0.mk hgg
  clear hn hb hg hgg h0 h1 hs hB0
  have hc := day_cut
  have k12 := day_12
  have k23 := day_23
  have k13 := day_13
  have k11 := day_11
  go_wp2_with fail
  refine (net_Cut.again g 1 0 0 0 _ _ _ HN.out).mono ?_
  rintro e w2 ⟨rfl, hn2, hb2⟩
  rw [if_pos day_cut, if_pos day_cut] at hn2
  rw [if_pos day_cut]
  have HN2 := Aside0.mk (show NetAt w2 g (pts [1, -1, 0] [0, 0, 1] 3) (zOf 1 0) 0 from hn2)
  have HB2 := Aside0.mk (HB.out.trans (hb2.mono HG.out))
  clear hn2 hb2 HB HN
  go_wp2_with (go_at_call 14; (with_reducible refine (net_Apart.calls g _ _ 0 (pts [1, -1, 0] [0, 0, 1] 3) (zOf 1 0) (sdF (zOf 1 0) 0) _ (by first | exact HN2.out | exact HN2.out.drewN _) day_sides).mono ?_); rintro e wa ⟨rfl, ⟨na, rfl⟩⟩)
  go_ret
  exact ⟨rfl, pw_below_drewN HB2.out _⟩
end Go.Proofs.Ytfkkekdpfkglbaa.Q
