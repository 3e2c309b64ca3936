/- The disk's chapter's example; a disk that is not there. Conditions: as typed. -/
import Derived.Test.YtfkkekdpfkglbaaDiskG
import Derived.Lib.SlBytesConst
namespace Go.Proofs.Ytfkkekdpfkglbaa.Q
open Go.RowKit Go.Proofs.YtfkkekdpfkglbaaW.PrintWords Go.Proofs.YtfkkekdpfkglbaaW.PrintLast Go.Proofs.YtfkkekdpfkglbaaW.PrintMore
set_option linter.unusedVariables false
set_option linter.unusedSimpArgs false
theorem DiskAt.bound {S : Nat → Prop} {w : World} {g : Nat} {D : Dsk} (h : DiskAt S w g D) : DiskAt (fun k => S k ∧ k < w.heap.size) w g D := by
  obtain ⟨f, wv, DW, M⟩ := h.out
  exact ⟨f, wv, DW, M.bound⟩
theorem Buf.C8 {w : World} {A : Option Addr} {n c : Nat} {xs : List Int} (h : Buf 5 1 w (.slice A n c) n (nums .u8 xs)) : Kd.C (Kd.int .u8) w A n xs := by
  have hl : xs.length = n := by have := h.1; simpa [nums] using this
  refine Kd.C_of_reads (d := (0 : Int)) (h1 := fun _ => rfl) ⟨hl, by have := h.small; simp only [maxLen] at this; omega, fun hn => ?_⟩
  cases A with
  | none => have := h.slice; obtain ⟨A2, c2, e, _, h3⟩ := this; injection e with e1 _ _; have := (h3 e1.symm).1; omega
  | some ad =>
    refine ⟨ad, rfl, fun j hj => ?_⟩
    refine h.cells ad rfl j _ ?_
    unfold nums
    rw [List.getElem?_map, List.getElem?_eq_getElem (by omega), List.getD_eq_getElem?_getD, List.getElem?_eq_getElem (by omega)]
    rfl
def dayF : Dsk := { newDisk 10 with fuse := 2 }
def dayA : Dsk := { files := upd (upd (fun _ => []) 1 [97]) 1 [97, 98], room := 10, wait := [⟨1, false, []⟩, ⟨1, false, []⟩], deeds := 2, fuse := 0, dark := true }
theorem day_fuse : ({ newDisk 10 with fuse := if (2 : Int) < -1 then -1 else 2 } : Dsk) = dayF := by rfl
theorem day_app : dayF.app 1 [97, 98, 99] = (10, dayA) := by kernel_rfl
theorem day_fits : Fits 1099511627776 dayA := ⟨⟨fun _ => (by decide), fun _ => (by decide), trivial⟩, fun i hi => by rcases (show i = 0 ∨ i = 1 ∨ i = 2 ∨ i = 3 by omega) with rfl | rfl | rfl | rfl <;> decide, by decide⟩
theorem day_left : (dayA.crash 1).files 1 = [97] := by rfl
theorem day_dark : (dayA.crash 1).dark = false := by rfl
theorem day_str : strOfNums [97] = ⟨#[97]⟩ := by rfl
theorem day_reads {S : Nat → Prop} (w W : World) (hn : ¬ S w.heap.size) (h : Foot S (w.alloc (.cells #[.int .u8 97, .int .u8 98, .int .u8 99] 5 (3, 4))) W) : ReadsInt W .u8 (some ⟨w.heap.size, 0, none⟩) 3 [97, 98, 99] := by
  have hb := (h.block w.heap.size (blk_lt (blk_new w _)) hn).trans (blk_new w _)
  refine ⟨rfl, by decide, fun _ => ⟨_, rfl, fun j hj => ?_⟩⟩
  rw [add_at, cell_of_row _ _ _ _ _ (3, 4) hb]
  rcases (show j = 0 ∨ j = 1 ∨ j = 2 by omega) with rfl | rfl | rfl <;> rfl
theorem day_append (S : Nat → Prop) (g : Nat) (w2 : World) (h : DiskAt S w2 g dayF) (hn : ¬ S w2.heap.size) :
    Calls Try.prog 18 #[.pointer (some ⟨g, 0, none⟩), .int .i64 1, .slice (some ⟨w2.heap.size, 0, none⟩) 3 3] (w2.alloc (.cells #[.int .u8 97, .int .u8 98, .int .u8 99] 5 (3, 4))) fun e w' => e = .returned (.int .i64 10) ∧ DiskAt (fun k => S k ∨ (w2.alloc (.cells #[.int .u8 97, .int .u8 98, .int .u8 99] 5 (3, 4))).heap.size ≤ k) w' g dayA ∧ Foot S (w2.alloc (.cells #[.int .u8 97, .int .u8 98, .int .u8 99] 5 (3, 4))) w' := by
  have h2 := disk_Append.calls S g dayF 1 [97, 98, 99] (some ⟨w2.heap.size, 0, none⟩) 3 _ (h.below (below_alloc (Below.refl _ _) (.cells #[.int .u8 97, .int .u8 98, .int .u8 99] 5 (3, 4)))) (fun W hW => day_reads w2 W hn hW) (by decide) (fun i _ => by show ([] : List Int).length ≤ _; decide) (by decide)
  rw [day_app] at h2
  exact h2
theorem day_read (S : Nat → Prop) (g : Nat) (w : World) (h : DiskAt S w g (dayA.crash 1)) : Calls Try.prog 24 #[.pointer (some ⟨g, 0, none⟩), .int .i64 1] w fun e w' => ∃ v, e = .returned (.tuple #[v, .int .i64 0]) ∧ Buf 5 1 w' v 1 (nums .u8 [97]) ∧ Below w.heap.size w w' := by
  have h2 := disk_Read.calls S g (dayA.crash 1) 1 (by omega) day_dark w h (by rw [day_left]; decide)
  rw [day_left] at h2
  exact h2.mono fun e w' ⟨v, h3, h4, _, h5, _⟩ => ⟨v, h3, h4, h5⟩
set_option maxHeartbeats 8000000 in
set_option maxRecDepth 100000 in
theorem disk_awake.calls (w : World) : Calls Try.prog 15 #[] w fun e w' => e = .returned (.bool true) ∧ Below w.heap.size w w' := by
  have hc37 := fun (W : World) (C : Array Value) (n c : Nat) => Lib.run_convert_bytes_const (P := Try.prog) W 37 5 C n c Try.underlying37 Try.underlying5
  go_enter Try.func15, Try.ntmps15
  go_wp2_with (first | (go_at_call 17; (with_reducible refine (disk_New.calls 10 _ (by omega) (by omega)).mono ?_); rintro e w1 ⟨g, rfl, hd1, hb1⟩; have HD1 := Aside0.mk hd1; have HB1 := Aside0.mk hb1; clear hd1 hb1) | (go_at_call 27; (with_reducible refine (disk_Fuse.calls _ g _ 2 _ HD1.out).mono ?_); rintro e w2 ⟨rfl, hd2, hf2, hz2⟩; rw [day_fuse] at hd2; have HD2 := Aside0.mk hd2.bound; have HB2 := Aside0.mk (HB1.out.trans (hf2.below (B := w.heap.size) (fun k hk => by subst hk; obtain ⟨f, wv, DW, m⟩ := HD1.out.out; exact m.sg) HB1.out.size)); clear hd2 hf2 hz2) | (go_at_call 18; (with_reducible refine (day_append _ g _ HD2.out (fun h => absurd h.2 (Nat.lt_irrefl _))).mono ?_); rintro e w3 ⟨rfl, hd3, hf3⟩; have HD3 := Aside0.mk hd3; have HB3 := Aside0.mk ((HB2.out.alloc HB2.out.size (.cells #[.int .u8 97, .int .u8 98, .int .u8 99] 5 (3, 4))).trans (hf3.below (B := w.heap.size) (fun k hk => hk.1) (HB2.out.alloc HB2.out.size (.cells #[.int .u8 97, .int .u8 98, .int .u8 99] 5 (3, 4))).size)); clear hd3 hf3) | (go_at_call 29; (with_reducible refine (disk_Dark.calls _ g dayA _ HD3.out).mono ?_); rintro e w4 ⟨rfl, hw4⟩; have hw5 := hw4.symm; clear hw4; subst hw5) | (go_at_call 22; (with_reducible refine (disk_Crash.calls _ g dayA 1 _ HD3.out day_fits).mono ?_); rintro e w5 ⟨rfl, hd5, hf5⟩; have HD5 := Aside0.mk hd5; have HB5 := Aside0.mk (HB3.out.trans (hf5.below (B := w.heap.size) (fun k hk => by rcases hk with h | h; exact h.1; exact Nat.le_trans (HB2.out.alloc HB2.out.size (.cells #[.int .u8 97, .int .u8 98, .int .u8 99] 5 (3, 4))).size h) HB3.out.size)); clear hd5 hf5) | (go_at_call 24; (with_reducible refine (day_read _ g _ HD5.out).mono ?_); rintro e w6 ⟨v, rfl, hv6, hb6⟩; obtain ⟨A6, c6, rfl, _⟩ := hv6.slice; have hconv : (convert 37 9 (.slice A6 1 c6)).run Try.prog w6 = .ok (.string (strOfNums [97])) w6 := Kd.C_string Try.underlying37 Try.underlying5 Try.underlying9 hv6.C8; rw [day_str] at hconv; have HB6 := Aside0.mk (below_then HB5.out HB5.out.size hb6); clear hv6 hb6))
  go_ret
  exact ⟨rfl, HB6.out⟩
set_option maxHeartbeats 8000000 in
set_option maxRecDepth 100000 in
theorem diskNil_calls (file n : Int) (A : Option Addr) (m c : Nat) (w : World) : Calls Try.prog 7 #[.int .i64 file, .int .i64 n, .slice A m c] w fun e w' => e = .returned (.bool true) ∧ Below w.heap.size w w' := by
  go_enter Try.func7, Try.ntmps7
  go_wp2_with (first | (go_at_call 15; (with_reducible refine (disk_awake.calls _).mono ?_); rintro e w1 ⟨rfl, hb1⟩; have HB1 := Aside0.mk hb1; clear hb1) | (go_at_call 27; (with_reducible refine (disk_Fuse.away _ _).mono ?_); rintro e wx ⟨rfl, hwx⟩; have hwy := hwx.symm; clear hwx; subst hwy) | (go_at_call 22; (with_reducible refine (disk_Crash.away _ _).mono ?_); rintro e wx ⟨rfl, hwx⟩; have hwy := hwx.symm; clear hwx; subst hwy) | (go_at_call 24; (with_reducible refine (disk_Read.away _ _).mono ?_); rintro e wx ⟨rfl, hwx⟩; have hwy := hwx.symm; clear hwx; subst hwy) | (go_at_call 18; (with_reducible refine (disk_Append.away _ _ _).mono ?_); rintro e wx ⟨rfl, hwx⟩; have hwy := hwx.symm; clear hwx; subst hwy) | (go_at_call 25; (with_reducible refine (disk_Cut.away _ _ _).mono ?_); rintro e wx ⟨rfl, hwx⟩; have hwy := hwx.symm; clear hwx; subst hwy) | (go_at_call 19; (with_reducible refine (disk_Sync.away _).mono ?_); rintro e wx ⟨rfl, hwx⟩; have hwy := hwx.symm; clear hwx; subst hwy) | (go_at_call 30; (with_reducible refine (disk_Size.away _ _).mono ?_); rintro e wx ⟨rfl, hwx⟩; have hwy := hwx.symm; clear hwx; subst hwy) | (go_at_call 31; (with_reducible refine (disk_Left.away _).mono ?_); rintro e wx ⟨rfl, hwx⟩; have hwy := hwx.symm; clear hwx; subst hwy) | (go_at_call 32; (with_reducible refine (disk_Room.away _).mono ?_); rintro e wx ⟨rfl, hwx⟩; have hwy := hwx.symm; clear hwx; subst hwy) | (go_at_call 29; (with_reducible refine (disk_Dark.away _).mono ?_); rintro e wx ⟨rfl, hwx⟩; have hwy := hwx.symm; clear hwx; subst hwy) | (go_at_call 28; (with_reducible refine (disk_Waits.away _).mono ?_); rintro e wx ⟨rfl, hwx⟩; have hwy := hwx.symm; clear hwx; subst hwy) | (go_at_call 33; (with_reducible refine (disk_Deeds.away _).mono ?_); rintro e wx ⟨rfl, hwx⟩; have hwy := hwx.symm; clear hwx; subst hwy))
  go_ret
  exact ⟨rfl, HB1.out⟩
end Go.Proofs.Ytfkkekdpfkglbaa.Q
