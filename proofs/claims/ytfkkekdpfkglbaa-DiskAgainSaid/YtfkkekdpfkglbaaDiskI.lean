/- All files of a disk, as one text each. Conditions: as typed. -/
import Derived.Test.YtfkkekdpfkglbaaDiskH
import Derived.Test.YtfkkekdpfkglbaaDiskNil
namespace Go.Proofs.Ytfkkekdpfkglbaa.Q
open Go.RowKit Go.Proofs.YtfkkekdpfkglbaaW.PrintWords Go.Proofs.YtfkkekdpfkglbaaW.PrintLast Go.Proofs.YtfkkekdpfkglbaaW.PrintMore
set_option linter.unusedVariables false
set_option linter.unusedSimpArgs false
def strCell (F : Nat → List Int) (i j : Nat) : Value := .string (if j < i then strOfNums (F j) else ⟨#[]⟩)
def strArr (F : Nat → List Int) (i : Nat) : Array Value := #[strCell F i 0, strCell F i 1, strCell F i 2, strCell F i 3]
theorem strArr_put (F : Nat → List Int) (i : Nat) (hi : i < 4) : (strArr F i).setIfInBounds i (.string (strOfNums (F i))) = strArr F (i + 1) := by
  rcases (show i = 0 ∨ i = 1 ∨ i = 2 ∨ i = 3 by omega) with rfl | rfl | rfl | rfl <;> rfl
theorem strArr_get (F : Nat → List Int) (i j : Nat) (hj : j < 4) : (strArr F i)[j]? = some (strCell F i j) := by
  rcases (show j = 0 ∨ j = 1 ∨ j = 2 ∨ j = 3 by omega) with rfl | rfl | rfl | rfl <;> rfl
theorem conv_str (W : World) (A : Option Addr) (n c : Nat) (xs : List Int) (h : Buf 5 1 W (.slice A n c) n (nums .u8 xs)) : (convert 37 9 (.slice A n c)).run Try.prog W = .ok (.string (strOfNums xs)) W := Kd.C_string Try.underlying37 Try.underlying5 Try.underlying9 h.C8
set_option maxHeartbeats 8000000 in
set_option maxRecDepth 100000 in
theorem disk_All.calls (S : Nat → Prop) (g : Nat) (D : Dsk) (w : World) (h : DiskAt S w g D) (hd : D.dark = false) (hL : ∀ i, i < 4 → (D.files i).length ≤ 1099511627776) :
    Calls Try.prog 26 #[.pointer (some ⟨g, 0, none⟩)] w fun e w' => e = .returned (.agg (strArr D.files 4)) ∧ Below w.heap.size w w' := by
  have HD := Aside0.mk h
  have HDK := Aside0.mk hd
  have HLS := Aside0.mk hL
  clear h hd hL
  obtain ⟨B, hB⟩ : ∃ B, B = w.heap.size := ⟨_, rfl⟩
  have HBB := Aside0.mk hB
  clear hB
  go_enter Try.func26, Try.ntmps26
  go_wp2_with fail
  obtain ⟨w2, hw2⟩ : ∃ W, W = ((w.alloc (.cells #[.string ⟨#[]⟩, .string ⟨#[]⟩, .string ⟨#[]⟩, .string ⟨#[]⟩] 51)).alloc (.cells #[.string ⟨#[]⟩, .string ⟨#[]⟩, .string ⟨#[]⟩, .string ⟨#[]⟩] 51)) := ⟨_, rfl⟩
  rw [← hw2]
  obtain ⟨L1, hL1⟩ : ∃ L, L = w.heap.size := ⟨_, rfl⟩
  obtain ⟨L2, hL2⟩ : ∃ L, L = w.heap.size + 1 := ⟨_, rfl⟩
  have b1 : w2.heap[L1]? = some (.cells #[.string ⟨#[]⟩, .string ⟨#[]⟩, .string ⟨#[]⟩, .string ⟨#[]⟩] 51 (0, 0)) := by
    rw [hw2, hL1]
    exact blk_alloc (blk_new w _) _
  have b2 : w2.heap[L2]? = some (.cells (strArr D.files 0) 51 (0, 0)) := by
    have h := blk_new (w.alloc (.cells #[.string ⟨#[]⟩, .string ⟨#[]⟩, .string ⟨#[]⟩, .string ⟨#[]⟩] 51)) (.cells (strArr D.files 0) 51)
    rw [show (w.alloc (.cells #[.string ⟨#[]⟩, .string ⟨#[]⟩, .string ⟨#[]⟩, .string ⟨#[]⟩] 51)).heap.size = L2 by rw [hL2]; exact Array.size_push _] at h
    rw [hw2]
    exact h
  have HB0 : Aside0 (Below w.heap.size w w2) := ⟨by rw [hw2]; exact below_alloc (below_alloc (Below.refl _ _) _) _⟩
  have HLL := Aside0.mk (show L1 ≠ L2 ∧ w.heap.size ≤ L1 ∧ w.heap.size ≤ L2 by omega)
  rw [← hL2, ← hL1]
  have HB1 := Aside0.mk b1
  have HB2 := Aside0.mk b2
  clear hw2 hL1 hL2 b1 b2
  go_loopg [4] 4 (fun kq v4 w' => ∃ i : Nat, v4 = .int .i64 (i : Int) ∧ Aside0 (i + kq = 4) ∧ Aside0 (Below w.heap.size w w') ∧ Aside0 (w'.heap[L1]? = some (.cells #[.string ⟨#[]⟩, .string ⟨#[]⟩, .string ⟨#[]⟩, .string ⟨#[]⟩] 51 (0, 0))) ∧ Aside0 (w'.heap[L2]? = some (.cells (strArr D.files i) 51 (0, 0))))
  case atStart => exact ⟨0, rfl, ⟨by omega⟩, HB0, HB1, HB2⟩
  case round =>
    clear HB0 HB1 HB2
    obtain ⟨i, rfl, HI, HBL, HL1, HL2⟩ := hrel
    by_cases ci : i < 4
    · have c0 : decide ((i : Int) < 4) = true := decide_eq_true (by omega)
      have p0 : (0 ≤ (i : Int)) = True := eq_true (by omega)
      have q0 : ((i : Int) < 4) = True := eq_true (by omega)
      have q1 : (i < 4) = True := eq_true ci
      obtain ⟨k1, rfl⟩ : ∃ k1, gk = k1 + 1 := ⟨gk - 1, by have := HI.out; omega⟩
      have HCI := Aside0.mk ci
      have HDr := Aside0.mk (HD.out.below HBL.out)
      have HLf := Aside0.mk (HLS.out i ci)
      have kL : wr.cell? ⟨L2, i, none⟩ = some (strCell D.files i i) := by rw [blk_cell HL2.out]; exact strArr_get D.files i i ci
      clear ci
      go_wp2_with (go_at_call 24; (with_reducible refine (disk_Read.calls S g D i HCI.out HDK.out _ HDr.out HLf.out).mono ?_); rintro e w1 ⟨v, rfl, hv1, hk1, hb1, hd1⟩; obtain ⟨A1, c1, hve, _⟩ := hv1.slice; subst hve; have hconv := conv_str _ _ _ _ _ hv1; have HB1 := Aside0.mk hb1; have kc1 : w1.cell? ⟨L2, i, none⟩ = some (strCell D.files i i) := (hb1.cell (p := ⟨L2, i, none⟩) (blk_lt HL2.out)).trans kL; have z1 : w1.frozen? ⟨L2, i, none⟩ = false := blk_frozen (blk_below HL2.out hb1) i; clear hv1 hk1 hb1 hd1)
      go_roundg k1
      case measure => omega
      case rel =>
        have hb2 := blk_below HL2.out HB1.out
        have hs := blk_set hb2 i (.string (strOfNums (D.files i)))
        rw [strArr_put D.files i HCI.out] at hs
        exact ⟨i + 1, by first | rfl | (congr 1; have := HCI.out; unfold wrap64; omega), ⟨by have := HI.out; omega⟩, ⟨(below_then HBL.out HBL.out.size HB1.out).setCell (p := ⟨L2, i, none⟩) HLL.out.2.2 _⟩, ⟨(Below.heap_setCell _ ⟨L2, i, none⟩ _ L1 HLL.out.1).trans (blk_below HL1.out HB1.out)⟩, ⟨hs⟩⟩
    · have c0 : decide ((i : Int) < 4) = false := decide_eq_false (by omega)
      have hi : i = 4 := by have := HI.out; omega
      subst hi
      have a0 : wr.cell? ⟨L2, 0, none⟩ = some (strCell D.files 4 0) := blk_cell HL2.out 0
      have a1 : wr.cell? ⟨L2, 1, none⟩ = some (strCell D.files 4 1) := blk_cell HL2.out 1
      have a2 : wr.cell? ⟨L2, 2, none⟩ = some (strCell D.files 4 2) := blk_cell HL2.out 2
      have a3 : wr.cell? ⟨L2, 3, none⟩ = some (strCell D.files 4 3) := blk_cell HL2.out 3
      have e0 : wr.cell? ⟨L1, 0, none⟩ = some (.string ⟨#[]⟩) := blk_cell HL1.out 0
      have e1 : wr.cell? ⟨L1, 1, none⟩ = some (.string ⟨#[]⟩) := blk_cell HL1.out 1
      have e2 : wr.cell? ⟨L1, 2, none⟩ = some (.string ⟨#[]⟩) := blk_cell HL1.out 2
      have e3 : wr.cell? ⟨L1, 3, none⟩ = some (.string ⟨#[]⟩) := blk_cell HL1.out 3
      have z0 := blk_frozen HL1.out 0
      have z1 := blk_frozen HL1.out 1
      have z2 := blk_frozen HL1.out 2
      have z3 := blk_frozen HL1.out 3
      unfold strCell at a0 a1 a2 a3
      go_wp2
      have hw := blk_set (blk_set (blk_set (blk_set HL1.out 0 (.string (strOfNums (D.files 0)))) 1 (.string (strOfNums (D.files 1)))) 2 (.string (strOfNums (D.files 2)))) 3 (.string (strOfNums (D.files 3)))
      ((try simp only [Exit.inBlock, Exit.then]); refine bodyPost_ret (results_cell_row rfl _ _ L1 51 (strArr D.files 4) (0, 0) _ rfl hw Try.underlying51 rfl (by kernel_rfl)) rfl ?_)
      exact ⟨rfl, (((HBL.out.setCell (p := ⟨L1, 0, none⟩) HLL.out.2.1 _).setCell (p := ⟨L1, 1, none⟩) HLL.out.2.1 _).setCell (p := ⟨L1, 2, none⟩) HLL.out.2.1 _).setCell (p := ⟨L1, 3, none⟩) HLL.out.2.1 _⟩
end Go.Proofs.Ytfkkekdpfkglbaa.Q
