/- A disk's methods, more: the room that is left, the fuse, the sync, a new one. Conditions: as typed. -/
import Derived.Test.YtfkkekdpfkglbaaDiskA
namespace Go.Proofs.Ytfkkekdpfkglbaa.Q
open Go.RowKit Go.Proofs.YtfkkekdpfkglbaaW.PrintWords Go.Proofs.YtfkkekdpfkglbaaW.PrintLast Go.Proofs.YtfkkekdpfkglbaaW.PrintMore
set_option linter.unusedVariables false
set_option linter.unusedSimpArgs false
def Dsk.leftN (D : Dsk) : Nat → Int
  | 0 => D.room
  | k + 1 => wrap64 (D.leftN k - ((D.files k).length : Int))
theorem hasB_nat {n : Nat} (h : n < 4) : hasB (n : Int) = true := decide_eq_true (by omega)
set_option maxHeartbeats 4000000 in
set_option maxRecDepth 100000 in
theorem disk_Left.calls (S : Nat → Prop) (g : Nat) (D : Dsk) (w : World) (h : DiskAt S w g D) : Calls Try.prog 31 #[.pointer (some ⟨g, 0, none⟩)] w fun e w' => e = .returned (.int .i64 (D.leftN 4)) ∧ w' = w := by
  have HD := Aside0.mk h
  clear h
  go_enter Try.func31, Try.ntmps31
  go_wp2_with (go_at_call 32; (with_reducible refine (disk_Room.calls S g D _ HD.out).mono ?_); rintro e w1 ⟨rfl, hw1⟩; have hw2 := hw1.symm; clear hw1; subst hw2)
  go_loopg [3, 7] 4 (fun kq v3 v7 w' => ∃ k : Nat, v3 = .int .i64 (D.leftN k) ∧ v7 = .int .i64 (k : Int) ∧ Aside0 (k + kq = 4) ∧ Aside0 (w' = w))
  case atStart => exact ⟨0, rfl, rfl, ⟨by omega⟩, ⟨rfl⟩⟩
  case round =>
    obtain ⟨k, rfl, rfl, HI, HW⟩ := hrel
    obtain rfl := HW.out
    by_cases ck : k < 4
    · have c0 : decide ((k : Int) < 4) = true := decide_eq_true (by omega)
      obtain ⟨k1, rfl⟩ : ∃ k1, gk = k1 + 1 := ⟨gk - 1, by have := HI.out; omega⟩
      have HH := Aside0.mk (hasB_nat ck)
      have HK := Aside0.mk ck
      have HN := Aside0.mk (show D.leftN (k + 1) = wrap64 (D.leftN k - ((D.files k).length : Int)) from rfl)
      clear ck
      go_wp2_with (go_at_call 30; (with_reducible refine (disk_Size.calls S g D (k : Int) _ HD.out).mono ?_); rintro e w1 ⟨rfl, hw1⟩; have hw2 := hw1.symm; clear hw1; subst hw2; rw [HH.out, if_pos rfl, Int.toNat_natCast])
      go_roundg k1
      case measure => omega
      case rel => exact ⟨k + 1, by rw [HN.out], by first | rfl | (congr 1; have := HK.out; unfold wrap64; omega), ⟨by have := HI.out; omega⟩, ⟨rfl⟩⟩
    · have c0 : decide ((k : Int) < 4) = false := decide_eq_false (by omega)
      have hk : k = 4 := by have := HI.out; omega
      subst hk
      go_wp2
      go_ret
      exact ⟨rfl, rfl⟩
set_option maxHeartbeats 4000000 in
set_option maxRecDepth 100000 in
theorem disk_Left.away (w : World) : Calls Try.prog 31 #[.pointer none] w fun e w' => e = .returned (.int .i64 0) ∧ w' = w := by
  go_enter Try.func31, Try.ntmps31
  go_wp2_with (go_at_call 32; (with_reducible refine (disk_Room.away _).mono ?_); rintro e w1 ⟨rfl, hw1⟩; have hw2 := hw1.symm; clear hw1; subst hw2)
  go_loopg [3, 7] 4 (fun kq v3 v7 w' => ∃ k : Nat, v3 = .int .i64 0 ∧ v7 = .int .i64 (k : Int) ∧ Aside0 (k + kq = 4) ∧ Aside0 (w' = w))
  case atStart => exact ⟨0, rfl, rfl, ⟨by omega⟩, ⟨rfl⟩⟩
  case round =>
    obtain ⟨k, rfl, rfl, HI, HW⟩ := hrel
    obtain rfl := HW.out
    by_cases ck : k < 4
    · have c0 : decide ((k : Int) < 4) = true := decide_eq_true (by omega)
      obtain ⟨k1, rfl⟩ : ∃ k1, gk = k1 + 1 := ⟨gk - 1, by have := HI.out; omega⟩
      have HK := Aside0.mk ck
      clear ck
      go_wp2_with (go_at_call 30; (with_reducible refine (disk_Size.away (k : Int) _).mono ?_); rintro e w1 ⟨rfl, hw1⟩; have hw2 := hw1.symm; clear hw1; subst hw2)
      go_roundg k1
      case measure => omega
      case rel => exact ⟨k + 1, by first | rfl | (congr 1), by first | rfl | (congr 1; have := HK.out; unfold wrap64; omega), ⟨by have := HI.out; omega⟩, ⟨rfl⟩⟩
    · have c0 : decide ((k : Int) < 4) = false := decide_eq_false (by omega)
      have hk : k = 4 := by have := HI.out; omega
      subst hk
      go_wp2
      go_ret
      exact ⟨rfl, rfl⟩
set_option maxHeartbeats 4000000 in
set_option maxRecDepth 100000 in
theorem disk_Fuse.calls (S : Nat → Prop) (g : Nat) (D : Dsk) (n : Int) (w : World) (h : DiskAt S w g D) : Calls Try.prog 27 #[.pointer (some ⟨g, 0, none⟩), .int .i64 n] w fun e w' => e = .returned (.tuple #[]) ∧ DiskAt S w' g { D with fuse := if n < -1 then -1 else n } ∧ Foot (fun k => k = g) w w' ∧ w'.heap.size = w.heap.size := by
  obtain ⟨f, wv, DW, M⟩ := h.out
  have HM := Aside0.mk M
  have k7 : w.cell? ⟨g, 7, none⟩ = some (.int .i64 D.fuse) := M.cell 7
  have f7 := M.frozen 7
  clear M h
  by_cases c : n < -1
  · have d : decide (n < -1) = true := decide_eq_true c
    have d2 : decide (-1 < n) = false := decide_eq_false (by omega)
    have hm : max n (-1) = -1 := by omega
    rw [if_pos c]
    clear c
    go_enter Try.func27, Try.ntmps27
    go_wp2
    go_end0
    exact ⟨rfl, ⟨f, wv, DW, HM.out.reg _ (blk_set HM.out.blk 7 (.int .i64 (-1))) (fun k hk => Below.heap_setCell w ⟨g, 7, none⟩ _ k hk) rfl rfl⟩, foot1 g 7 w _⟩
  · have d : decide (n < -1) = false := decide_eq_false c
    have hm : max n (-1) = n := by omega
    rw [if_neg c]
    clear c
    go_enter Try.func27, Try.ntmps27
    go_wp2
    go_end0
    exact ⟨rfl, ⟨f, wv, DW, HM.out.reg _ (blk_set HM.out.blk 7 (.int .i64 n)) (fun k hk => Below.heap_setCell w ⟨g, 7, none⟩ _ k hk) rfl rfl⟩, foot1 g 7 w _⟩
set_option maxHeartbeats 4000000 in
set_option maxRecDepth 100000 in
theorem disk_Fuse.away (n : Int) (w : World) : Calls Try.prog 27 #[.pointer none, .int .i64 n] w fun e w' => e = .returned (.tuple #[]) ∧ w' = w := by
  go_enter Try.func27, Try.ntmps27
  go_wp2
  go_end0
  exact ⟨rfl, rfl⟩
set_option maxHeartbeats 4000000 in
set_option maxRecDepth 100000 in
theorem disk_Crash.away (n : Int) (w : World) : Calls Try.prog 22 #[.pointer none, .int .i64 n] w fun e w' => e = .returned (.tuple #[]) ∧ w' = w := by
  go_enter Try.func22, Try.ntmps22
  go_wp2
  ((try simp only [Exit.inBlock, Exit.then]); refine bodyPost_ret (results_none rfl _ _ _) rfl ?_)
  exact ⟨rfl, rfl⟩
set_option maxHeartbeats 4000000 in
set_option maxRecDepth 100000 in
theorem disk_Read.away (n : Int) (w : World) : Calls Try.prog 24 #[.pointer none, .int .i64 n] w fun e w' => e = .returned (.tuple #[.slice none 0 0, .int .i64 1]) ∧ w' = w := by
  go_enter Try.func24, Try.ntmps24
  go_wp2
  go_ret2
  exact ⟨rfl, rfl⟩
theorem disk_Append.away (n : Int) (v : Value) (w : World) : Calls Try.prog 18 #[.pointer none, .int .i64 n, v] w fun e w' => e = .returned (.int .i64 1) ∧ w' = w := by
  go_enter Try.func18, Try.ntmps18
  go_wp2
  go_ret
  exact ⟨rfl, rfl⟩
theorem disk_Cut.away (n m : Int) (w : World) : Calls Try.prog 25 #[.pointer none, .int .i64 n, .int .i64 m] w fun e w' => e = .returned (.int .i64 1) ∧ w' = w := by
  go_enter Try.func25, Try.ntmps25
  go_wp2
  go_ret
  exact ⟨rfl, rfl⟩
set_option maxHeartbeats 4000000 in
set_option maxRecDepth 100000 in
theorem disk_Sync.calls (S : Nat → Prop) (g : Nat) (D : Dsk) (w : World) (h : DiskAt S w g D) : Calls Try.prog 19 #[.pointer (some ⟨g, 0, none⟩)] w fun e w' => e = .returned (.int .i64 (if D.gone then 10 else 0)) ∧ DiskAt S w' g (if D.gone then (if D.dark then D else D.step) else { D.step with wait := [] }) ∧ Foot (fun k => k = g) w w' ∧ w'.heap.size = w.heap.size := by
  obtain ⟨f, wv, DW, M⟩ := h.out
  have HM := Aside0.mk M
  have k8 : w.cell? ⟨g, 8, none⟩ = some (.bool D.dark) := M.cell 8
  clear M h
  cases hd : D.dark with
  | true =>
    have hg : D.gone = true := by unfold Dsk.gone; rw [hd]; rfl
    rw [hg, if_pos rfl, if_pos rfl, if_pos rfl]
    rw [hd] at k8
    clear hg hd
    go_enter Try.func19, Try.ntmps19
    go_wp2
    go_ret
    exact ⟨rfl, ⟨f, wv, DW, HM.out⟩, Foot.refl _ w, rfl⟩
  | false =>
    rw [hd] at k8
    cases hg : D.gone with
    | true =>
      rw [if_pos rfl, if_pos rfl, if_neg (by simp)]
      have HG := Aside0.mk hg
      clear hg hd
      go_enter Try.func19, Try.ntmps19
      go_wp2_with (go_at_call 62; (with_reducible refine (disk_step.mem S g D f wv DW _ HM.out).mono ?_); rintro e w1 ⟨rfl, m1, hf1, hz1⟩; rw [HG.out]; have M1 := Aside0.mk m1; have HF1 := Aside0.mk (And.intro hf1 hz1); clear m1 hf1 hz1)
      go_ret
      exact ⟨rfl, ⟨f, wv, DW, M1.out⟩, HF1.out⟩
    | false =>
      rw [if_neg (by simp), if_neg (by simp)]
      have HG := Aside0.mk hg
      clear hg hd
      go_enter Try.func19, Try.ntmps19
      go_wp2_with (go_at_call 62; (with_reducible refine (disk_step.mem S g D f wv DW _ HM.out).mono ?_); rintro e w1 ⟨rfl, m1, hf1, hz1⟩; rw [HG.out]; have M1 := Aside0.mk m1; have HF1 := Aside0.mk (And.intro hf1 hz1); have c5 := m1.cell 5; have f5 := m1.frozen 5; change _ = some wv at c5; clear m1 hf1 hz1)
      go_ret
      refine ⟨rfl, ⟨f, .slice none 0 0, [], M1.out.setWait (.slice none 0 0) [] [] rfl (blk_set M1.out.blk 5 (.slice none 0 0)) (Buf.nil _ _ _) (fun k hk => by simp [Value.ownBlock] at hk) (fun k hk _ _ _ => Below.heap_setCell _ ⟨g, 5, none⟩ _ k hk) (fun p hp => by cases hp)⟩, ?_⟩
      obtain ⟨h1, h2⟩ := HF1.out
      exact ⟨h1.setCell (p := ⟨g, 5, none⟩) rfl _, by rw [← h2]; simp [World.setCell]⟩
theorem built_disk (room : Int) : Try.prog.built 104 [(1, .int .i64 room), (4, .int .i64 (-1))] = some #[.slice none 0 0, .slice none 0 0, .slice none 0 0, .slice none 0 0, .int .i64 room, .slice none 0 0, .int .i64 0, .int .i64 (-1), .bool false] := by kernel_rfl
set_option maxHeartbeats 4000000 in
set_option maxRecDepth 100000 in
theorem disk_New.calls (room : Int) (w : World) (h1 : 1 ≤ room) (h2 : room ≤ 200000) : Calls Try.prog 17 #[.int .i64 room] w fun e w' => ∃ g, e = .returned (.tuple #[.pointer (some ⟨g, 0, none⟩), .int .i64 0]) ∧ DiskAt (fun k => w.heap.size ≤ k) w' g (newDisk room) ∧ Below w.heap.size w w' := by
  have d1 : decide (room < 1) = false := decide_eq_false (by omega)
  have d2 : decide (200000 < room) = false := decide_eq_false (by omega)
  have hbd := built_disk room
  clear h1 h2
  go_enter Try.func17, Try.ntmps17
  go_wp2
  go_ret2
  have hb := blk_new w (.cells (diskCells (fun _ => .slice none 0 0) (.slice none 0 0) (newDisk room)) 104)
  refine ⟨w.heap.size, rfl, ⟨fun _ => .slice none 0 0, .slice none 0 0, [], ⟨hb, fun i hi => Buf.nil _ _ _, fun i j _ _ _ k hk => (by simp [Value.ownBlock] at hk), Buf.nil _ _ _, rfl, fun p hp => (by cases hp), Nat.le_refl _, fun i hi k hk => (by simp [Value.ownBlock] at hk), fun k hk => (by simp [Value.ownBlock] at hk), fun p hp => (by cases hp), fun d hd => (by cases hd)⟩⟩, below_alloc (Below.refl _ w) _⟩
end Go.Proofs.Ytfkkekdpfkglbaa.Q
