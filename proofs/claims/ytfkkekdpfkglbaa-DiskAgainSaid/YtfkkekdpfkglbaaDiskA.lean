/- A disk's methods: the step, the fuse, what is told, the sync. Conditions: as typed. -/
import Derived.Test.YtfkkekdpfkglbaaDisk
namespace Go.Proofs.Ytfkkekdpfkglbaa.Q
open Go.RowKit Go.Proofs.YtfkkekdpfkglbaaW.PrintWords Go.Proofs.YtfkkekdpfkglbaaW.PrintLast Go.Proofs.YtfkkekdpfkglbaaW.PrintMore
set_option linter.unusedVariables false
set_option linter.unusedSimpArgs false
def hasB (i : Int) : Bool := decide (0 ≤ i ∧ i < 4)
theorem disk_has.calls (i : Int) (w : World) : Calls Try.prog 61 #[.int .i64 i] w fun e w' => e = .returned (.bool (hasB i)) ∧ w' = w := by
  unfold hasB
  by_cases c1 : 0 ≤ i
  · have d1 : decide (0 ≤ i) = true := decide_eq_true c1
    go_enter Try.func61, Try.ntmps61
    go_wp2
    go_ret
    exact ⟨by simp [c1], rfl⟩
  · have d1 : decide (0 ≤ i) = false := decide_eq_false c1
    go_enter Try.func61, Try.ntmps61
    go_wp2
    go_ret
    exact ⟨by simp [c1], rfl⟩
theorem foot1 (g i : Nat) (w : World) (v : Value) : Foot (fun k => k = g) w (w.setCell ⟨g, i, none⟩ v) ∧ (w.setCell ⟨g, i, none⟩ v).heap.size = w.heap.size :=
  ⟨Foot.setCell (S := fun k => k = g) (p := ⟨g, i, none⟩) (Foot.refl _ w) rfl v, by simp [World.setCell]⟩
theorem foot2 (g i j : Nat) (w : World) (u v : Value) : Foot (fun k => k = g) w ((w.setCell ⟨g, i, none⟩ u).setCell ⟨g, j, none⟩ v) ∧ ((w.setCell ⟨g, i, none⟩ u).setCell ⟨g, j, none⟩ v).heap.size = w.heap.size :=
  ⟨Foot.setCell (S := fun k => k = g) (p := ⟨g, j, none⟩) (foot1 g i w u).1 rfl v, by simp [World.setCell]⟩
set_option maxHeartbeats 2000000 in
set_option maxRecDepth 100000 in
theorem disk_step.mem (S : Nat → Prop) (g : Nat) (D : Dsk) (f : Nat → Value) (wv : Value) (DW : List (Deed × Value)) (w : World) (M : DiskMem S w g D f wv DW) :
    Calls Try.prog 62 #[.pointer (some ⟨g, 0, none⟩)] w fun e w' => e = .returned (.bool (!D.gone)) ∧ DiskMem S w' g D.step f wv DW ∧ Foot (fun k => k = g) w w' ∧ w'.heap.size = w.heap.size := by
  have HM := Aside0.mk M
  have k6 : w.cell? ⟨g, 6, none⟩ = some (.int .i64 D.deeds) := M.cell 6
  have k7 : w.cell? ⟨g, 7, none⟩ = some (.int .i64 D.fuse) := M.cell 7
  have k8 : w.cell? ⟨g, 8, none⟩ = some (.bool D.dark) := M.cell 8
  have f6 := M.frozen 6
  have f7 := M.frozen 7
  have f8 := M.frozen 8
  clear M
  cases hg : D.gone with
  | true =>
    have hs : D.step = { D with dark := true } := by unfold Dsk.step; rw [if_pos hg]
    have HS := Aside0.mk hs
    have HG := Aside0.mk hg
    clear hs hg
    by_cases c0 : D.fuse = 0
    · rw [c0] at k7
      clear c0
      go_enter Try.func62, Try.ntmps62
      go_wp2
      go_ret
      refine ⟨rfl, ?_, foot1 g 8 w _⟩
      rw [HS.out]
      exact HM.out.reg _ (blk_set HM.out.blk 8 (.bool true)) (fun k hk => Below.heap_setCell w ⟨g, 8, none⟩ _ k hk) rfl rfl
    · have d0 : (D.fuse == 0) = false := by simp [c0]
      have d0' : decide (D.fuse = 0) = false := decide_eq_false c0
      have hd : D.dark = true := by
        have := HG.out
        unfold Dsk.gone at this
        rw [d0', Bool.or_false] at this
        exact this
      rw [hd] at k8
      have HD := Aside0.mk hd
      clear c0 hd d0'
      go_enter Try.func62, Try.ntmps62
      go_wp2
      go_ret
      refine ⟨rfl, ?_, Foot.refl _ w, rfl⟩
      rw [HS.out, ← HD.out]
      exact HM.out
  | false =>
    have hgd := hg
    unfold Dsk.gone at hgd
    have hd : D.dark = false := (Bool.or_eq_false_iff.1 hgd).1
    have c0 : ¬ D.fuse = 0 := of_decide_eq_false (Bool.or_eq_false_iff.1 hgd).2
    have d0 : (D.fuse == 0) = false := by simp [c0]
    rw [hd] at k8
    by_cases c1 : 0 < D.fuse
    · have d1 : decide (0 < D.fuse) = true := decide_eq_true c1
      have hs : D.step = { D with fuse := wrap64 (D.fuse - 1), deeds := wrap64 (D.deeds + 1) } := by unfold Dsk.step; rw [if_neg (by rw [hg]; simp), if_pos c1]
      have HS := Aside0.mk hs
      clear hs hg c0 hgd hd c1
      go_enter Try.func62, Try.ntmps62
      go_wp2
      go_ret
      refine ⟨rfl, ?_, foot2 g 7 6 w _ _⟩
      rw [HS.out]
      exact HM.out.reg _ (blk_set (blk_set HM.out.blk 7 (.int .i64 (wrap64 (D.fuse - 1)))) 6 (.int .i64 (wrap64 (D.deeds + 1)))) (fun k hk => (Below.heap_setCell _ ⟨g, 6, none⟩ _ k hk).trans (Below.heap_setCell w ⟨g, 7, none⟩ _ k hk)) rfl rfl
    · have d1 : decide (0 < D.fuse) = false := decide_eq_false c1
      have hs : D.step = { D with deeds := wrap64 (D.deeds + 1) } := by unfold Dsk.step; rw [if_neg (by rw [hg]; simp), if_neg c1]
      have HS := Aside0.mk hs
      clear hs hg c0 hgd hd c1
      go_enter Try.func62, Try.ntmps62
      go_wp2
      go_ret
      refine ⟨rfl, ?_, foot1 g 6 w _⟩
      rw [HS.out]
      exact HM.out.reg _ (blk_set HM.out.blk 6 (.int .i64 (wrap64 (D.deeds + 1)))) (fun k hk => Below.heap_setCell w ⟨g, 6, none⟩ _ k hk) rfl rfl
set_option maxHeartbeats 2000000 in
set_option maxRecDepth 100000 in
theorem disk_Room.calls (S : Nat → Prop) (g : Nat) (D : Dsk) (w : World) (h : DiskAt S w g D) : Calls Try.prog 32 #[.pointer (some ⟨g, 0, none⟩)] w fun e w' => e = .returned (.int .i64 D.room) ∧ w' = w := by
  obtain ⟨f, wv, DW, M⟩ := h.out
  have k1 : w.cell? ⟨g, 4, none⟩ = some (.int .i64 D.room) := M.cell 4
  clear M h
  go_enter Try.func32, Try.ntmps32
  go_wp2
  go_ret
  exact ⟨rfl, rfl⟩
set_option maxHeartbeats 2000000 in
set_option maxRecDepth 100000 in
theorem disk_Room.away (w : World) : Calls Try.prog 32 #[.pointer none] w fun e w' => e = .returned (.int .i64 0) ∧ w' = w := by
  go_enter Try.func32, Try.ntmps32
  go_wp2
  go_ret
  exact ⟨rfl, rfl⟩
set_option maxHeartbeats 2000000 in
set_option maxRecDepth 100000 in
theorem disk_Deeds.calls (S : Nat → Prop) (g : Nat) (D : Dsk) (w : World) (h : DiskAt S w g D) : Calls Try.prog 33 #[.pointer (some ⟨g, 0, none⟩)] w fun e w' => e = .returned (.int .i64 D.deeds) ∧ w' = w := by
  obtain ⟨f, wv, DW, M⟩ := h.out
  have k1 : w.cell? ⟨g, 6, none⟩ = some (.int .i64 D.deeds) := M.cell 6
  clear M h
  go_enter Try.func33, Try.ntmps33
  go_wp2
  go_ret
  exact ⟨rfl, rfl⟩
set_option maxHeartbeats 2000000 in
set_option maxRecDepth 100000 in
theorem disk_Deeds.away (w : World) : Calls Try.prog 33 #[.pointer none] w fun e w' => e = .returned (.int .i64 0) ∧ w' = w := by
  go_enter Try.func33, Try.ntmps33
  go_wp2
  go_ret
  exact ⟨rfl, rfl⟩
set_option maxHeartbeats 2000000 in
set_option maxRecDepth 100000 in
theorem disk_Dark.calls (S : Nat → Prop) (g : Nat) (D : Dsk) (w : World) (h : DiskAt S w g D) : Calls Try.prog 29 #[.pointer (some ⟨g, 0, none⟩)] w fun e w' => e = .returned (.bool D.dark) ∧ w' = w := by
  obtain ⟨f, wv, DW, M⟩ := h.out
  have k1 : w.cell? ⟨g, 8, none⟩ = some (.bool D.dark) := M.cell 8
  clear M h
  go_enter Try.func29, Try.ntmps29
  go_wp2
  go_ret
  exact ⟨rfl, rfl⟩
set_option maxHeartbeats 2000000 in
set_option maxRecDepth 100000 in
theorem disk_Dark.away (w : World) : Calls Try.prog 29 #[.pointer none] w fun e w' => e = .returned (.bool false) ∧ w' = w := by
  go_enter Try.func29, Try.ntmps29
  go_wp2
  go_ret
  exact ⟨rfl, rfl⟩
set_option maxHeartbeats 2000000 in
set_option maxRecDepth 100000 in
theorem disk_Waits.calls (S : Nat → Prop) (g : Nat) (D : Dsk) (w : World) (h : DiskAt S w g D) : Calls Try.prog 28 #[.pointer (some ⟨g, 0, none⟩)] w fun e w' => e = .returned (.int .i64 (D.wait.length : Int)) ∧ w' = w := by
  obtain ⟨f, wv, DW, M⟩ := h.out
  have k1 : w.cell? ⟨g, 5, none⟩ = some wv := M.cell 5
  obtain ⟨A, c, rfl, _⟩ := M.wai.slice
  have e1 : DW.length = D.wait.length := by rw [← List.length_map (f := Prod.fst), M.dw, List.length_reverse]
  rw [e1] at k1
  clear M h e1
  go_enter Try.func28, Try.ntmps28
  go_wp2
  go_ret
  exact ⟨rfl, rfl⟩
set_option maxHeartbeats 2000000 in
set_option maxRecDepth 100000 in
theorem disk_Waits.away (w : World) : Calls Try.prog 28 #[.pointer none] w fun e w' => e = .returned (.int .i64 0) ∧ w' = w := by
  go_enter Try.func28, Try.ntmps28
  go_wp2
  go_ret
  exact ⟨rfl, rfl⟩
set_option maxHeartbeats 2000000 in
set_option maxRecDepth 100000 in
theorem disk_Sync.away (w : World) : Calls Try.prog 19 #[.pointer none] w fun e w' => e = .returned (.int .i64 1) ∧ w' = w := by
  go_enter Try.func19, Try.ntmps19
  go_wp2
  go_ret
  exact ⟨rfl, rfl⟩
set_option maxHeartbeats 2000000 in
set_option maxRecDepth 100000 in
theorem disk_Size.calls (S : Nat → Prop) (g : Nat) (D : Dsk) (i : Int) (w : World) (h : DiskAt S w g D) : Calls Try.prog 30 #[.pointer (some ⟨g, 0, none⟩), .int .i64 i] w fun e w' => e = .returned (.int .i64 (if hasB i then ((D.files i.toNat).length : Int) else 0)) ∧ w' = w := by
  obtain ⟨f, wv, DW, M⟩ := h.out
  cases hi : hasB i with
  | false =>
    have HI := Aside0.mk hi
    clear M h hi
    go_enter Try.func30, Try.ntmps30
    go_wp2_with (go_at_call 61; (with_reducible refine (disk_has.calls _ _).mono ?_); rintro e w1 ⟨rfl, rfl⟩; rw [HI.out])
    go_ret
    exact ⟨rfl, rfl⟩
  | true =>
    have h2 : 0 ≤ i ∧ i < 4 := of_decide_eq_true hi
    obtain ⟨n, rfl⟩ : ∃ n : Nat, i = (n : Int) := ⟨i.toNat, by omega⟩
    have hn : n < 4 := by omega
    rw [Int.toNat_natCast]
    have k1 := M.cfile n hn
    obtain ⟨A, c, e, _⟩ := (M.fil n hn).slice
    rw [e] at k1
    have HI := Aside0.mk hi
    have p0 : (0 ≤ (n : Int)) = True := eq_true (by omega)
    have q0 : ((n : Int) < 4) = True := eq_true (by omega)
    have q1 : (n < 4) = True := eq_true hn
    clear M h hi h2 hn
    go_enter Try.func30, Try.ntmps30
    go_wp2_with (go_at_call 61; (with_reducible refine (disk_has.calls _ _).mono ?_); rintro e w1 ⟨rfl, rfl⟩; rw [HI.out])
    go_ret
    exact ⟨rfl, rfl⟩
set_option maxHeartbeats 2000000 in
set_option maxRecDepth 100000 in
theorem disk_Size.away (i : Int) (w : World) : Calls Try.prog 30 #[.pointer none, .int .i64 i] w fun e w' => e = .returned (.int .i64 0) ∧ w' = w := by
  go_enter Try.func30, Try.ntmps30
  go_wp2
  go_ret
  exact ⟨rfl, rfl⟩
end Go.Proofs.Ytfkkekdpfkglbaa.Q
