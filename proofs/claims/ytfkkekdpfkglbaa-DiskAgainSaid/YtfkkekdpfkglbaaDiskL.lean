/- A disk behind calls ahead of a sync, in plain Lean; texts in arrays. Conditions: as typed. -/
import Derived.Test.YtfkkekdpfkglbaaDiskK
namespace Go.Proofs.Ytfkkekdpfkglbaa.Q
open Go.RowKit Go.Proofs.YtfkkekdpfkglbaaW.PrintWords Go.Proofs.YtfkkekdpfkglbaaW.PrintLast Go.Proofs.YtfkkekdpfkglbaaW.PrintMore
set_option linter.unusedVariables false
set_option linter.unusedSimpArgs false
def act1 (D : Dsk) (x : ActV) : Dsk := if x.kind = 1 then (D.app x.file x.b).2 else if x.kind = 2 then (D.cutD x.file x.n).2 else D
/-- Never dark, with room: behind k calls. -/
structure Fresh (k : Nat) (D : Dsk) : Prop where
  dark : D.dark = false
  fuse : D.fuse = -1
  room : D.room = 200000
  len : ∀ i, i < 4 → (D.files i).length ≤ 300 * k
  wlen : D.wait.length ≤ 301 * k
theorem Fresh.gone {k : Nat} {D : Dsk} (h : Fresh k D) : D.gone = false := by
  unfold Dsk.gone
  rw [h.dark, h.fuse]
  rfl
theorem step_fuse {D : Dsk} (hg : D.gone = false) (hf : D.fuse = -1) : D.step.fuse = -1 := by
  unfold Dsk.step
  rw [if_neg (by rw [hg]; simp)]
  show (if 0 < D.fuse then _ else D.fuse) = -1
  rw [hf]
  rfl
theorem appL_fresh (i : Nat) (b : List Int) : ∀ {D : Dsk}, D.dark = false → D.fuse = -1 → (appL i D b).1.dark = false ∧ (appL i D b).1.fuse = -1 ∧ (appL i D b).1.room = D.room ∧ (∀ j, ((appL i D b).1.files j).length ≤ (D.files j).length + b.length) ∧ (appL i D b).1.wait.length ≤ D.wait.length + b.length := by
  induction b with
  | nil => intro D h1 h2; exact ⟨h1, h2, rfl, fun j => Nat.le_refl _, Nat.le_refl _⟩
  | cons c cs ih =>
    intro D h1 h2
    have hg : D.gone = false := by unfold Dsk.gone; rw [h1, h2]; rfl
    obtain ⟨s1, s2, s3, s4⟩ := step_of hg
    unfold appL
    rw [if_neg (by rw [hg]; simp)]
    obtain ⟨r1, r2, r3, r4, r5⟩ := ih (D := D.appOne i c) (by unfold Dsk.appOne; rw [← h1]; exact s4) (by unfold Dsk.appOne; exact step_fuse hg h2)
    refine ⟨r1, r2, by rw [r3]; exact s3, fun j => ?_, ?_⟩
    · have h3 := r4 j
      have h4 : ((D.appOne i c).files j).length ≤ (D.files j).length + 1 := by
        unfold Dsk.appOne
        show (upd D.step.files i (D.step.files i ++ [c]) j).length ≤ _
        rw [s1]
        by_cases e : j = i
        · subst e
          rw [upd_same, List.length_append]
          exact Nat.le_refl _
        · rw [upd_ne _ _ e]
          omega
      simp only [List.length_cons]
      omega
    · have h4 : (D.appOne i c).wait.length = D.wait.length + 1 := by
        unfold Dsk.appOne
        simp only [List.length_cons, s2]
      simp only [List.length_cons]
      omega
theorem Fresh.next {k : Nat} {D : Dsk} (h : Fresh k D) (x : ActV) (hb : x.b.length ≤ 300) : Fresh (k + 1) (act1 D x) := by
  have hsame : Fresh (k + 1) D := ⟨h.dark, h.fuse, h.room, fun i hi => by have := h.len i hi; omega, by have := h.wlen; omega⟩
  unfold act1
  by_cases c1 : x.kind = 1
  · rw [if_pos c1]
    unfold Dsk.app
    by_cases c2 : hasB x.file = false
    · rw [if_pos c2]; exact hsame
    · rw [if_neg c2, if_neg (by rw [h.dark]; simp)]
      by_cases c3 : D.leftN 4 < (x.b.length : Int)
      · rw [if_pos c3]; exact hsame
      · rw [if_neg c3]
        obtain ⟨r1, r2, r3, r4, r5⟩ := appL_fresh x.file.toNat x.b h.dark h.fuse
        exact ⟨r1, r2, r3.trans h.room, fun i hi => by have := r4 i; have := h.len i hi; show ((appL x.file.toNat D x.b).1.files i).length ≤ _; omega, by have := h.wlen; show (appL x.file.toNat D x.b).1.wait.length ≤ _; omega⟩
  · rw [if_neg c1]
    by_cases c2 : x.kind = 2
    · rw [if_pos c2]
      unfold Dsk.cutD
      cases hc : cutBad D x.file x.n with
      | true => rw [if_pos rfl]; exact hsame
      | false =>
        rw [if_neg (by simp), if_neg (by rw [h.dark]; simp), if_neg (by rw [h.gone]; simp)]
        obtain ⟨s1, s2, s3, s4⟩ := step_of h.gone
        refine ⟨s4.trans h.dark, step_fuse h.gone h.fuse, s3.trans h.room, fun i hi => ?_, ?_⟩
        · show (upd D.step.files x.file.toNat ((D.step.files x.file.toNat).take x.n.toNat) i).length ≤ _
          rw [s1]
          have h5 := h.len i hi
          by_cases e : i = x.file.toNat
          · rw [e, upd_same, List.length_take, ← e]
            omega
          · rw [upd_ne _ _ e]
            omega
        · show (_ :: D.step.wait).length ≤ _
          rw [s2, List.length_cons]
          have := h.wlen
          omega
    · rw [if_neg c2]; exact hsame
theorem fresh_new : Fresh 0 (newDisk 200000) := ⟨rfl, rfl, rfl, fun i _ => Nat.zero_le _, Nat.zero_le _⟩
/-- Behind the sync. -/
theorem since_sync {k : Nat} {D : Dsk} (h : Fresh k D) (f : Int) : Since D.step.files 0 { ({ D.step with wait := [] } : Dsk) with fuse := f } (fun _ => []) [] :=
  ⟨⟨rfl, fun i => by show D.step.files i = D.step.files i ++ []; rw [List.append_nil], fun p hp => by cases hp⟩, fun i => ⟨[], rfl⟩, fun _ i => rfl, (step_of h.gone).2.2.1.trans h.room, Nat.le_refl _, fun i => Nat.le_refl _⟩
theorem Since.skip {F : Nat → List Int} {k : Nat} {D : Dsk} {C : Nat → List Int} {L : List (Nat × Int)} (h : Since F k D C L) : Since F (k + 1) D C L :=
  ⟨h.came, h.pre, h.full, h.room, by have := h.len; omega, fun i => by have := h.clen i; omega⟩
def sumQ (q : Nat → Nat) : Nat → Nat
  | 0 => 0
  | i + 1 => sumQ q i + q i
theorem sumQ_le (q : Nat → Nat) (i M : Nat) (h : ∀ j, j < i → q j ≤ M) : sumQ q i ≤ M * i := by
  induction i with
  | zero => exact Nat.zero_le _
  | succ i ih =>
    have h1 := ih (fun j hj => h j (by omega))
    have h2 := h i (by omega)
    show sumQ q i + q i ≤ M * (i + 1)
    rw [Nat.mul_succ]
    omega
theorem sum_wrap (a b : Nat) (h : a + b ≤ 1099511627776) : wrap64 ((a : Int) + (b : Int)) = ((a + b : Nat) : Int) := by
  rw [← Int.natCast_add]
  exact wrap_small h
theorem str_cut (xs : List Int) (k : Nat) : (strOfNums xs).extract 0 k = strOfNums (xs.take k) := by
  apply ByteArray.ext
  simp [strOfNums, List.map_take]
/-! texts -/
def strs (F : Nat → List Int) : Array Value := #[.string (strOfNums (F 0)), .string (strOfNums (F 1)), .string (strOfNums (F 2)), .string (strOfNums (F 3))]
theorem strArr_strs (F : Nat → List Int) : strArr F 4 = strs F := rfl
theorem strs_get (F : Nat → List Int) (i : Nat) (hi : i < 4) : (strs F)[i]? = some (.string (strOfNums (F i))) := by
  rcases (show i = 0 ∨ i = 1 ∨ i = 2 ∨ i = 3 by omega) with rfl | rfl | rfl | rfl <;> rfl
theorem strs_put (F : Nat → List Int) (i : Nat) (hi : i < 4) (x : List Int) : (strs F).setIfInBounds i (.string (strOfNums x)) = strs (upd F i x) := by
  rcases (show i = 0 ∨ i = 1 ∨ i = 2 ∨ i = 3 by omega) with rfl | rfl | rfl | rfl <;> rfl
theorem strOfNums_append (a b : List Int) : strOfNums (a ++ b) = strOfNums a ++ strOfNums b := by
  unfold strOfNums
  apply ByteArray.ext
  simp
theorem strOfNums_size (a : List Int) : (strOfNums a).size = a.length := by
  unfold strOfNums
  simp [ByteArray.size]
end Go.Proofs.Ytfkkekdpfkglbaa.Q
