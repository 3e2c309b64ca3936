/- A disk's Crash. Conditions: as typed. -/
import Derived.Test.YtfkkekdpfkglbaaDiskF
namespace Go.Proofs.Ytfkkekdpfkglbaa.Q
open Go.RowKit Go.Proofs.YtfkkekdpfkglbaaW.PrintWords Go.Proofs.YtfkkekdpfkglbaaW.PrintLast Go.Proofs.YtfkkekdpfkglbaaW.PrintMore
set_option linter.unusedVariables false
set_option linter.unusedSimpArgs false
def UndoOk : List Deed → (Nat → List Int) → Prop
  | [], _ => True
  | d :: ws, F => (d.cut = false → F d.file ≠ []) ∧ UndoOk ws (undoF F d)
def offs (ws : List Deed) : Nat := (ws.map fun d => d.off.length).sum
def Dsk.undo (D : Dsk) : Dsk := match D.wait with
  | [] => D
  | d :: ws => { D with files := undoF D.files d, wait := ws }
def undoK : Nat → Dsk → Dsk
  | 0, D => D
  | k + 1, D => undoK k D.undo
def Dsk.crash (D : Dsk) (keep : Int) : Dsk := { undoK (D.wait.length - keep.toNat) D with wait := [], fuse := -1, dark := false }
/-- What is undone fits. -/
def Fits (B : Nat) (D : Dsk) : Prop := UndoOk D.wait D.files ∧ (∀ i, i < 4 → (D.files i).length + offs D.wait ≤ B) ∧ D.wait.length ≤ B
theorem Fits.undo {B : Nat} {D : Dsk} {d : Deed} {ws : List Deed} (h : Fits B D) (hw : D.wait = d :: ws) : Fits B { D with files := undoF D.files d, wait := ws } := by
  obtain ⟨h1, h2, h3⟩ := h
  rw [hw] at h1 h2 h3
  refine ⟨h1.2, fun i hi => ?_, by simp only [List.length_cons] at h3; show ws.length ≤ B; omega⟩
  have h4 := h2 i hi
  have e : offs (d :: ws) = d.off.length + offs ws := by simp [offs]
  rw [e] at h4
  show (undoF D.files d i).length + offs ws ≤ B
  unfold undoF upd
  by_cases c : i = d.file
  · rw [if_pos c, ← c]
    split
    · rw [List.length_append]; omega
    · rw [List.length_dropLast]; omega
  · rw [if_neg c]; omega
theorem fits_off {B : Nat} {D : Dsk} {d : Deed} {ws : List Deed} (h : Fits B D) (hw : D.wait = d :: ws) : d.off.length ≤ B := by
  have h4 := h.2.1 0 (by omega)
  have e : offs (d :: ws) = d.off.length + offs ws := by simp [offs]
  rw [hw, e] at h4
  omega
set_option maxHeartbeats 8000000 in
set_option maxRecDepth 100000 in
theorem disk_Crash.calls (S : Nat → Prop) (g : Nat) (D : Dsk) (keep : Int) (w : World) (h : DiskAt S w g D) (hfit : Fits 1099511627776 D) :
    Calls Try.prog 22 #[.pointer (some ⟨g, 0, none⟩), .int .i64 keep] w fun e w' => e = .returned (.tuple #[]) ∧ DiskAt (fun k => S k ∨ w.heap.size ≤ k) w' g (D.crash keep) ∧ Foot S w w' := by
  have HD0 := Aside0.mk (show DiskAt (fun k => S k ∨ w.heap.size ≤ k) w g D from h.mono (fun k hk => .inl hk))
  have HF0 := Aside0.mk hfit
  obtain ⟨q, hq⟩ : ∃ q, q = keep.toNat := ⟨_, rfl⟩
  have hmax : max keep 0 = (q : Int) := by omega
  have HQ := Aside0.mk hq
  clear h hfit hq
  go_enter Try.func22, Try.ntmps22
  go_wp2
  go_loopg [11] D.wait.length (fun kq v11 w' => ∃ (j : Nat) (Di : Dsk), Aside0 (kq = Di.wait.length) ∧ Aside0 (DiskAt (fun k => S k ∨ w.heap.size ≤ k) w' g Di ∧ Foot S w w') ∧ Aside0 (Fits 1099511627776 Di) ∧ Aside0 (undoK (D.wait.length - q) D = undoK (Di.wait.length - q) Di))
  case atStart => exact ⟨0, D, ⟨rfl⟩, ⟨HD0.out, Foot.refl _ w⟩, HF0, ⟨rfl⟩⟩
  case round =>
    obtain ⟨j, Di, HG, HDi, HFI, HU⟩ := hrel
    obtain ⟨f, wv, DW, m⟩ := HDi.out.1.out
    have M := Aside0.mk m
    have k5 : wr.cell? ⟨g, 5, none⟩ = some wv := m.cell 5
    have hdl : DW.length = Di.wait.length := by rw [← List.length_map (f := Prod.fst), m.dw, List.length_reverse]
    obtain ⟨A, c, hwe, _⟩ := m.wai.slice
    rw [hdl] at hwe
    rw [hwe] at k5
    have HWE := Aside0.mk hwe
    clear m hdl hwe
    by_cases cj : q < Di.wait.length
    · have c0 : decide ((q : Int) < (Di.wait.length : Int)) = true := decide_eq_true (by omega)
      have c1 : decide (q < Di.wait.length) = true := decide_eq_true cj
      obtain ⟨d, ws, hws⟩ : ∃ d ws, Di.wait = d :: ws := by
        cases hq : Di.wait with
        | nil => rw [hq] at cj; simp at cj
        | cons d ws => exact ⟨d, ws, rfl⟩
      have HWS := Aside0.mk hws
      have HNE := Aside0.mk (show d.cut = false → Di.files d.file ≠ [] by have h := HFI.out.1; rw [hws] at h; exact h.1)
      have hdf : d.file < 4 := M.out.nam d (by rw [hws]; exact List.mem_cons_self)
      have HL1 := Aside0.mk (show (Di.files d.file).length ≤ 1099511627776 by have h := HFI.out.2.1 d.file hdf; omega)
      have HL2 := Aside0.mk (fits_off HFI.out hws)
      have HL3 := Aside0.mk HFI.out.2.2
      have HFR := Aside0.mk (show ∀ k, wr.heap.size ≤ k → S k ∨ w.heap.size ≤ k from fun k hk => .inr (Nat.le_trans HDi.out.2.size hk))
      have HFN := Aside0.mk (HFI.out.undo hws)
      have HUN := Aside0.mk (show undoK (D.wait.length - q) D = undoK (ws.length - q) { Di with files := undoF Di.files d, wait := ws } by
        rw [HU.out, hws]
        have e : (d :: ws).length - q = (ws.length - q) + 1 := by rw [hws] at cj; simp only [List.length_cons] at cj ⊢; omega
        rw [e]
        show undoK _ Di.undo = _
        unfold Dsk.undo
        rw [hws])
      have HGK := Aside0.mk (show gk = ws.length + 1 by rw [HG.out, hws]; rfl)
      clear cj hws hdf
      go_wp2_with (go_at_call 65; (with_reducible refine (disk_undo.mem _ g Di f wv DW _ M.out HFR.out d ws HWS.out HNE.out HL1.out HL2.out HL3.out).mono ?_); rintro e w1 ⟨rfl, m1, hf1⟩; have M1 := Aside0.mk m1; have HF1 := Aside0.mk hf1; clear m1 hf1)
      go_roundg ws.length
      case measure => have := HGK.out; omega
      case rel => exact ⟨j, { Di with files := undoF Di.files d, wait := ws }, ⟨rfl⟩, ⟨M1.out, HDi.out.2.trans HF1.out (fun k hk => hk)⟩, HFN, HUN⟩
    · have c0 : decide ((q : Int) < (Di.wait.length : Int)) = false := decide_eq_false (by omega)
      have c1 : decide (q < Di.wait.length) = false := decide_eq_false cj
      have k7 : wr.cell? ⟨g, 7, none⟩ = some (.int .i64 Di.fuse) := M.out.cell 7
      have k8 : wr.cell? ⟨g, 8, none⟩ = some (.bool Di.dark) := M.out.cell 8
      have z5 := M.out.frozen 5
      have z7 := M.out.frozen 7
      have z8 := M.out.frozen 8
      have HE := Aside0.mk (show D.crash keep = { Di with wait := [], fuse := -1, dark := false } by
        unfold Dsk.crash
        rw [← HQ.out, HU.out, show Di.wait.length - q = 0 by omega]
        rfl)
      clear cj
      go_wp2
      go_end0
      rw [HE.out]
      refine ⟨rfl, ?_, ?_⟩
      · have m1 := M.out.setWait (w1 := wr.setCell ⟨g, 5, none⟩ (.slice none 0 0)) (.slice none 0 0) [] [] rfl (blk_set M.out.blk 5 (.slice none 0 0)) (Buf.nil _ _ _) (fun k hk => by simp [Value.ownBlock] at hk) (fun k hk _ _ _ => Below.heap_setCell _ ⟨g, 5, none⟩ _ k hk) (fun p hp => by cases hp)
        exact ⟨_, _, _, m1.reg _ (blk_set (blk_set m1.blk 7 (.int .i64 (-1))) 8 (.bool false)) (fun k hk => (Below.heap_setCell _ ⟨g, 8, none⟩ _ k hk).trans (Below.heap_setCell _ ⟨g, 7, none⟩ _ k hk)) rfl rfl⟩
      · exact HDi.out.2.trans (((Foot.refl (fun k => S k ∨ w.heap.size ≤ k) wr).setCell (p := ⟨g, 5, none⟩) M.out.sg _).setCell (p := ⟨g, 7, none⟩) M.out.sg _ |>.setCell (p := ⟨g, 8, none⟩) M.out.sg _) (fun k hk => hk)
end Go.Proofs.Ytfkkekdpfkglbaa.Q
