/- Both disks behind the same appends, in plain Lean. Conditions: as typed. -/
import Derived.Test.YtfkkekdpfkglbaaRefC
namespace Go.Proofs.Ytfkkekdpfkglbaa.Q
open Go.RowKit Go.Proofs.YtfkkekdpfkglbaaW.PrintWords Go.Proofs.YtfkkekdpfkglbaaW.PrintLast Go.Proofs.YtfkkekdpfkglbaaW.PrintMore
set_option linter.unusedVariables false
set_option linter.unusedSimpArgs false
def log1 (L : List (Nat × Int)) (x : ActV) : List (Nat × Int) := if x.kind = 1 ∧ hasB x.file = true then L ++ x.b.map (fun c => (x.file.toNat, c)) else L
def logAt (l : List ActV) (i : Nat) : List (Nat × Int) := (l.take i).foldl log1 []
theorem logAt_succ {l : List ActV} {i : Nat} {x : ActV} (h : l[i]? = some x) : logAt l (i + 1) = log1 (logAt l i) x := by
  unfold logAt
  rw [List.take_add_one, h, Option.toList_some, List.foldl_append]
  rfl
def actA (D : Dsk) (x : ActV) : Dsk := if x.kind = 1 then (D.app x.file x.b).2 else D
structure Twin (k : Nat) (D : Dsk) (L : List (Nat × Int)) : Prop where
  came : Came (fun _ => []) D L
  dark : D.dark = false
  fuse : D.fuse = -1
  room : D.room = 200000
  len : L.length ≤ 300 * k
theorem Twin.files {k : Nat} {D : Dsk} {L : List (Nat × Int)} (h : Twin k D L) (i : Nat) : D.files i = logB L i := by rw [h.came.files]; rfl
theorem Twin.flen {k : Nat} {D : Dsk} {L : List (Nat × Int)} (h : Twin k D L) (i : Nat) : (D.files i).length ≤ 300 * k := by
  rw [h.files]
  have h1 := logB_length L i
  have h2 := h.len
  omega
theorem Twin.wlen {k : Nat} {D : Dsk} {L : List (Nat × Int)} (h : Twin k D L) : D.wait.length ≤ 300 * k := by
  rw [h.came.wait, logW_length]
  exact h.len
theorem Twin.gone {k : Nat} {D : Dsk} {L : List (Nat × Int)} (h : Twin k D L) : D.gone = false := by
  unfold Dsk.gone
  rw [h.dark, h.fuse]
  rfl
theorem Twin.next {k : Nat} {D : Dsk} {L : List (Nat × Int)} (h : Twin k D L) (hk : k ≤ 60) (x : ActV) (hb : x.b.length ≤ 300) : Twin (k + 1) (actA D x) (log1 L x) := by
  have hsame : Twin (k + 1) D L := ⟨h.came, h.dark, h.fuse, h.room, by have := h.len; omega⟩
  unfold actA log1
  by_cases c1 : x.kind = 1
  · rw [if_pos c1]
    cases hh : hasB x.file with
    | false =>
      rw [if_neg (by simp)]
      unfold Dsk.app
      rw [if_pos hh]
      exact hsame
    | true =>
      rw [if_pos ⟨c1, rfl⟩]
      have hn : 0 ≤ x.file ∧ x.file < 4 := of_decide_eq_true hh
      have hll := left_some h.room (M := 18000) (fun i _ => by have := h.flen i; omega) (by omega)
      unfold Dsk.app
      rw [if_neg (by rw [hh]; simp), if_neg (by rw [h.dark]; simp), if_neg (by omega)]
      obtain ⟨m, h1, h2, h3, h4⟩ := h.came.appL x.file.toNat (by omega) x.b
      obtain ⟨r1, r2, r3, _, _⟩ := appL_fresh x.file.toNat x.b h.dark h.fuse
      have hm := h3 r1
      rw [hm, List.take_length] at h2
      exact ⟨h2, r1, r2, r3.trans h.room, by rw [List.length_append, List.length_map]; have := h.len; omega⟩
  · rw [if_neg c1, if_neg (fun h2 => c1 h2.1)]
    exact hsame
theorem twin_new : Twin 0 (newDisk 200000) [] := ⟨⟨rfl, fun i => rfl, fun p hp => by cases hp⟩, rfl, rfl, rfl, Nat.le_refl _⟩
theorem log1_len {k : Nat} {L : List (Nat × Int)} {x : ActV} (h : L.length ≤ 300 * k) (hb : x.b.length ≤ 300) : (log1 L x).length ≤ 300 * (k + 1) := by
  unfold log1
  split
  · rw [List.length_append, List.length_map]; omega
  · omega
theorem refLeft_some {L : List (Nat × Int)} (h : L.length ≤ 18000) : ¬ refLeft L < 300 + 1 := by
  have l0 := logB_length L 0
  have l1 := logB_length L 1
  have l2 := logB_length L 2
  have l3 := logB_length L 3
  have e1 : wrap64 (200000 - ((logB L 0).length : Int)) = 200000 - ((logB L 0).length : Int) := by unfold wrap64; omega
  have e2 : wrap64 (200000 - ((logB L 0).length : Int) - ((logB L 1).length : Int)) = 200000 - ((logB L 0).length : Int) - ((logB L 1).length : Int) := by clear e1; unfold wrap64; omega
  have e3 : wrap64 (200000 - ((logB L 0).length : Int) - ((logB L 1).length : Int) - ((logB L 2).length : Int)) = 200000 - ((logB L 0).length : Int) - ((logB L 1).length : Int) - ((logB L 2).length : Int) := by clear e1 e2; unfold wrap64; omega
  have e4 : wrap64 (200000 - ((logB L 0).length : Int) - ((logB L 1).length : Int) - ((logB L 2).length : Int) - ((logB L 3).length : Int)) = 200000 - ((logB L 0).length : Int) - ((logB L 1).length : Int) - ((logB L 2).length : Int) - ((logB L 3).length : Int) := by clear e1 e2 e3; unfold wrap64; omega
  have e5 : refLeft L = 200000 - ((logB L 0).length : Int) - ((logB L 1).length : Int) - ((logB L 2).length : Int) - ((logB L 3).length : Int) := by
    unfold refLeft
    rw [e1, e2, e3, e4]
  clear e1 e2 e3 e4
  omega
/-- Behind a sync and a crash. -/
theorem again_crash {k : Nat} {D : Dsk} {L : List (Nat × Int)} (h : Twin k D L) (keep : Int) : (({ D.step with wait := [] } : Dsk).crash keep).files = logB L ∧ (({ D.step with wait := [] } : Dsk).crash keep).dark = false := by
  refine ⟨?_, rfl⟩
  unfold Dsk.crash
  show (undoK (([] : List Deed).length - keep.toNat) _).files = _
  rw [List.length_nil, Nat.zero_sub]
  show D.step.files = _
  rw [(step_of h.gone).1]
  funext i
  exact h.files i
theorem again_fits {k : Nat} {D : Dsk} {L : List (Nat × Int)} (h : Twin k D L) (hk : k ≤ 60) : Fits 1099511627776 { D.step with wait := [] } := by
  refine ⟨trivial, fun i hi => ?_, Nat.zero_le _⟩
  show (D.step.files i).length + offs [] ≤ _
  rw [(step_of h.gone).1]
  have := h.flen i
  have e : offs [] = 0 := rfl
  omega
end Go.Proofs.Ytfkkekdpfkglbaa.Q
