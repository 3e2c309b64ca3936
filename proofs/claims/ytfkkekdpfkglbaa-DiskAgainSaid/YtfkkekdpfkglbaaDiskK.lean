/- What a disk keeps of what came since a sync, in plain Lean. Conditions: as typed. -/
import Derived.Test.YtfkkekdpfkglbaaDiskJ
namespace Go.Proofs.Ytfkkekdpfkglbaa.Q
open Go.RowKit Go.Proofs.YtfkkekdpfkglbaaW.PrintWords Go.Proofs.YtfkkekdpfkglbaaW.PrintLast Go.Proofs.YtfkkekdpfkglbaaW.PrintMore
set_option linter.unusedVariables false
set_option linter.unusedSimpArgs false
/-- The bytes of a log that came to file i. -/
def logB (L : List (Nat × Int)) (i : Nat) : List Int := (L.filter fun p => p.1 == i).map fun p => p.2
def logW (L : List (Nat × Int)) : List Deed := (L.map fun p => (⟨p.1, false, []⟩ : Deed)).reverse
theorem logB_snoc (L : List (Nat × Int)) (j : Nat) (c : Int) (i : Nat) : logB (L ++ [(j, c)]) i = if i = j then logB L i ++ [c] else logB L i := by
  unfold logB
  rw [List.filter_append, List.map_append]
  by_cases h : i = j
  · subst h
    simp
  · rw [if_neg h]
    have : (j == i) = false := by simp; omega
    simp [this]
theorem logW_snoc (L : List (Nat × Int)) (j : Nat) (c : Int) : logW (L ++ [(j, c)]) = ⟨j, false, []⟩ :: logW L := by
  unfold logW
  rw [List.map_append, List.reverse_append]
  rfl
/-- Behind a sync that left the files F: what came is the log. -/
structure Came (F : Nat → List Int) (D : Dsk) (L : List (Nat × Int)) : Prop where
  wait : D.wait = logW L
  files : ∀ i, D.files i = F i ++ logB L i
  nam : ∀ p ∈ L, p.1 < 4
theorem step_of {D : Dsk} (hg : D.gone = false) : D.step.files = D.files ∧ D.step.wait = D.wait ∧ D.step.room = D.room ∧ D.step.dark = D.dark := by
  unfold Dsk.step
  rw [if_neg (by rw [hg]; simp)]
  exact ⟨rfl, rfl, rfl, rfl⟩
theorem step_gone {D : Dsk} (hg : D.gone = true) : D.step = { D with dark := true } := by
  unfold Dsk.step
  rw [if_pos hg]
theorem Came.one {F : Nat → List Int} {D : Dsk} {L : List (Nat × Int)} (h : Came F D L) (hg : D.gone = false) (i : Nat) (hi : i < 4) (c : Int) : Came F (D.appOne i c) (L ++ [(i, c)]) := by
  obtain ⟨s1, s2, _, _⟩ := step_of hg
  refine ⟨?_, fun j => ?_, fun p hp => ?_⟩
  · rw [logW_snoc]
    unfold Dsk.appOne
    rw [s2, h.wait]
  · rw [logB_snoc]
    unfold Dsk.appOne
    show upd D.step.files i (D.step.files i ++ [c]) j = _
    rw [s1]
    by_cases e : j = i
    · subst e
      rw [upd_same, if_pos rfl, h.files, List.append_assoc]
    · rw [upd_ne _ _ e, if_neg e, h.files]
  · rcases List.mem_append.1 hp with h1 | h1
    · exact h.nam p h1
    · rw [List.mem_singleton.1 h1]
      exact hi
/-- Of bytes that are appended one by one a beginning comes; all of them, unless it is dark then. -/
theorem Came.appL {F : Nat → List Int} (i : Nat) (hi : i < 4) (b : List Int) : ∀ {D : Dsk} {L : List (Nat × Int)}, Came F D L → ∃ k, k ≤ b.length ∧ Came F (appL i D b).1 (L ++ (b.take k).map fun c => (i, c)) ∧ ((appL i D b).1.dark = false → k = b.length) ∧ (appL i D b).1.room = D.room := by
  induction b with
  | nil => intro D L h; exact ⟨0, Nat.le_refl _, by rw [List.take_nil, List.map_nil, List.append_nil]; exact h, fun _ => rfl, rfl⟩
  | cons c cs ih =>
    intro D L h
    unfold Q.appL
    cases hg : D.gone with
    | true =>
      rw [if_pos rfl]
      have hs := step_gone hg
      refine ⟨0, Nat.zero_le _, ?_, fun hd => ?_, by rw [hs]⟩
      · rw [hs]
        exact ⟨by simpa using h.wait, fun j => by simpa using h.files j, fun p hp => h.nam p (by simpa using hp)⟩
      · exfalso
        have hd2 : D.step.dark = false := hd
        rw [hs] at hd2
        cases hd2
    | false =>
      rw [if_neg (by simp)]
      obtain ⟨k, h1, h2, h3, h4⟩ := ih (h.one hg i hi c)
      refine ⟨k + 1, by simp only [List.length_cons]; omega, ?_, fun hd => by rw [h3 hd]; rfl, ?_⟩
      · rw [List.append_assoc] at h2
        simpa using h2
      · rw [h4]
        unfold Dsk.appOne
        exact (step_of hg).2.2.1
theorem logB_map (L : List (Nat × Int)) (i j : Nat) (b : List Int) : logB (L ++ b.map fun c => (i, c)) j = if j = i then logB L j ++ b else logB L j := by
  unfold logB
  rw [List.filter_append, List.map_append]
  by_cases h : j = i
  · subst h
    rw [if_pos rfl]
    congr 1
    rw [List.filter_eq_self.2 (fun p hp => by obtain ⟨c, _, rfl⟩ := List.mem_map.1 hp; simp), List.map_map]
    exact List.map_id _
  · have e : ((b.map fun c => (i, c)).filter fun p => p.1 == j) = [] := List.filter_eq_nil_iff.2 (fun p hp => by obtain ⟨c, _, rfl⟩ := List.mem_map.1 hp; simp; omega)
    rw [if_neg h, e, List.map_nil, List.append_nil]
theorem logB_length (L : List (Nat × Int)) (i : Nat) : (logB L i).length ≤ L.length := by
  unfold logB
  rw [List.length_map]
  exact List.length_filter_le _ _
/-- So much room is left. -/
theorem left_some {D : Dsk} {M : Nat} (hr : D.room = 200000) (hl : ∀ i, i < 4 → (D.files i).length ≤ M) (hM : M ≤ 40000) : ¬ D.leftN 4 < 40000 := by
  have l0 := hl 0 (by omega)
  have l1 := hl 1 (by omega)
  have l2 := hl 2 (by omega)
  have l3 := hl 3 (by omega)
  have e1 : D.leftN 1 = 200000 - ((D.files 0).length : Int) := by
    rw [show D.leftN 1 = wrap64 (D.room - ((D.files 0).length : Int)) from rfl, hr]; unfold wrap64; omega
  have e2 : D.leftN 2 = 200000 - ((D.files 0).length : Int) - ((D.files 1).length : Int) := by
    rw [show D.leftN 2 = wrap64 (D.leftN 1 - ((D.files 1).length : Int)) from rfl, e1]; unfold wrap64; omega
  have e3 : D.leftN 3 = 200000 - ((D.files 0).length : Int) - ((D.files 1).length : Int) - ((D.files 2).length : Int) := by
    rw [show D.leftN 3 = wrap64 (D.leftN 2 - ((D.files 2).length : Int)) from rfl, e2]; unfold wrap64; omega
  have e4 : D.leftN 4 = 200000 - ((D.files 0).length : Int) - ((D.files 1).length : Int) - ((D.files 2).length : Int) - ((D.files 3).length : Int) := by
    rw [show D.leftN 4 = wrap64 (D.leftN 3 - ((D.files 3).length : Int)) from rfl, e3]; unfold wrap64; omega
  omega
/-- The appends since: what came, and what it was meant to be. -/
structure Since (F : Nat → List Int) (k : Nat) (D : Dsk) (C : Nat → List Int) (L : List (Nat × Int)) : Prop where
  came : Came F D L
  pre : ∀ i, ∃ r, C i = logB L i ++ r
  full : D.dark = false → ∀ i, logB L i = C i
  room : D.room = 200000
  len : L.length ≤ 300 * k
  clen : ∀ i, (C i).length ≤ 300 * k
theorem Since.next {F : Nat → List Int} {k : Nat} {D : Dsk} {C : Nat → List Int} {L : List (Nat × Int)} (h : Since F k D C L) (hF : ∀ i, i < 4 → (F i).length ≤ 18000) (hk : k ≤ 60) (i : Nat) (hi : i < 4) (b : List Int) (hb : b.length ≤ 300) :
    ∃ L', Since F (k + 1) (D.app (i : Int) b).2 (upd C i (C i ++ b)) L' := by
  have hfl : ∀ j, j < 4 → (D.files j).length ≤ 36000 := by
    intro j hj
    rw [h.came.files, List.length_append]
    have h1 := hF j hj
    have h2 := logB_length L j
    have h3 := h.len
    omega
  have hll := left_some h.room hfl (by omega)
  have hnl : ¬ D.leftN 4 < (b.length : Int) := by omega
  have hcl : ∀ j, (upd C i (C i ++ b) j).length ≤ 300 * (k + 1) := by
    intro j
    have h3 := h.clen j
    have h4 := h.clen i
    by_cases e : j = i
    · subst e
      rw [upd_same, List.length_append]
      omega
    · rw [upd_ne _ _ e]
      omega
  unfold Dsk.app
  rw [if_neg (by rw [hasB_nat hi]; simp)]
  cases hd : D.dark with
  | true =>
    rw [if_pos rfl]
    refine ⟨L, h.came, fun j => ?_, fun h2 => ?_, h.room, by have := h.len; omega, hcl⟩
    · obtain ⟨r, hr⟩ := h.pre j
      by_cases e : j = i
      · subst e
        rw [upd_same]
        exact ⟨r ++ b, by rw [hr, List.append_assoc]⟩
      · rw [upd_ne _ _ e]
        exact ⟨r, hr⟩
    · have h3 : D.dark = false := h2
      rw [hd] at h3
      cases h3
  | false =>
    rw [if_neg (by simp), if_neg hnl, Int.toNat_natCast]
    obtain ⟨m, h1, h2, h3, h4⟩ := h.came.appL i hi b
    have hful := h.full hd
    refine ⟨_, h2, fun j => ?_, fun hdk j => ?_, by rw [← h.room]; exact h4, ?_, hcl⟩
    · rw [logB_map]
      by_cases e : j = i
      · subst e
        rw [upd_same, if_pos rfl, hful j]
        exact ⟨b.drop m, by rw [List.append_assoc, List.take_append_drop]⟩
      · rw [upd_ne _ _ e, if_neg e, hful j]
        exact ⟨[], by simp⟩
    · rw [logB_map, h3 hdk, List.take_length]
      by_cases e : j = i
      · subst e
        rw [upd_same, if_pos rfl, hful j]
      · rw [upd_ne _ _ e, if_neg e, hful j]
    · have h5 := h.len
      rw [List.length_append, List.length_map, List.length_take]
      omega
theorem Came.undo {F : Nat → List Int} {D : Dsk} {L : List (Nat × Int)} {p : Nat × Int} (h : Came F D (L ++ [p])) : Came F D.undo L := by
  have hw := h.wait
  rw [logW_snoc L p.1 p.2] at hw
  unfold Dsk.undo
  rw [hw]
  refine ⟨rfl, fun i => ?_, fun q hq => h.nam q (List.mem_append_left _ hq)⟩
  show undoF D.files ⟨p.1, false, []⟩ i = _
  unfold undoF
  rw [if_neg (by simp)]
  have h2 := h.files i
  rw [logB_snoc L p.1 p.2] at h2
  by_cases e : i = p.1
  · subst e
    rw [upd_same, h2, if_pos rfl, ← List.append_assoc, List.dropLast_concat]
  · rw [upd_ne _ _ e, h2, if_neg e]
theorem Came.undoK {F : Nat → List Int} (q : Nat) : ∀ (k : Nat) {D : Dsk} {L : List (Nat × Int)}, Came F D L → k = L.length - q → Came F (undoK k D) (L.take q) := by
  intro k
  induction k with
  | zero =>
    intro D L h hk
    rw [List.take_of_length_le (by omega)]
    exact h
  | succ k ih =>
    intro D L h hk
    rcases List.eq_nil_or_concat L with rfl | ⟨L', p, rfl⟩
    · simp at hk
    · rw [List.concat_eq_append] at h hk ⊢
      rw [List.length_append] at hk
      simp only [List.length_cons, List.length_nil] at hk
      have := ih h.undo (by omega)
      rw [List.take_append_of_le_length (by omega)]
      exact this
theorem logW_length (L : List (Nat × Int)) : (logW L).length = L.length := by unfold logW; rw [List.length_reverse, List.length_map]
theorem offs_logW (L : List (Nat × Int)) : offs (logW L) = 0 := by
  unfold offs logW
  rw [List.map_reverse, List.map_map, List.sum_reverse]
  induction L with
  | nil => rfl
  | cons p L ih => simp [ih]
theorem UndoOk.log {F : Nat → List Int} : ∀ (n : Nat) (L : List (Nat × Int)) (G : Nat → List Int), L.length = n → (∀ i, G i = F i ++ logB L i) → UndoOk (logW L) G := by
  intro n
  induction n with
  | zero =>
    intro L G hL hG
    rw [List.eq_nil_of_length_eq_zero hL]
    trivial
  | succ n ih =>
    intro L G hL hG
    rcases List.eq_nil_or_concat L with rfl | ⟨L', p, rfl⟩
    · trivial
    · rw [List.concat_eq_append] at hL hG ⊢
      rw [List.length_append] at hL
      simp only [List.length_cons, List.length_nil] at hL
      rw [logW_snoc L' p.1 p.2]
      refine ⟨fun _ => ?_, ih L' _ (by omega) (fun i => ?_)⟩
      · have := hG p.1
        rw [logB_snoc L' p.1 p.2, if_pos rfl] at this
        show G p.1 ≠ []
        rw [this]
        simp
      · unfold undoF
        rw [if_neg (by simp)]
        have h2 := hG i
        rw [logB_snoc L' p.1 p.2] at h2
        show upd G p.1 (G p.1).dropLast i = _
        by_cases e : i = p.1
        · subst e
          rw [upd_same, h2, if_pos rfl, ← List.append_assoc, List.dropLast_concat]
        · rw [upd_ne _ _ e, h2, if_neg e]
theorem Since.fits {F : Nat → List Int} {k : Nat} {D : Dsk} {C : Nat → List Int} {L : List (Nat × Int)} (h : Since F k D C L) (hF : ∀ i, i < 4 → (F i).length ≤ 18000) (hk : k ≤ 60) : Fits 1099511627776 D := by
  have h3 := h.len
  refine ⟨?_, fun i hi => ?_, ?_⟩
  · rw [h.came.wait]
    exact UndoOk.log _ L _ rfl h.came.files
  · rw [h.came.wait, offs_logW, h.came.files, List.length_append]
    have h1 := hF i hi
    have h2 := logB_length L i
    omega
  · rw [h.came.wait, logW_length]
    omega
theorem logB_sum (L : List (Nat × Int)) (hn : ∀ p ∈ L, p.1 < 4) : (logB L 0).length + (logB L 1).length + (logB L 2).length + (logB L 3).length = L.length := by
  induction L with
  | nil => rfl
  | cons p L ih =>
    have h1 := ih (fun q hq => hn q (List.mem_cons_of_mem _ hq))
    have h2 := hn p List.mem_cons_self
    obtain ⟨a, c⟩ := p
    have h3 : a < 4 := h2
    unfold logB at h1 ⊢
    rcases (show a = 0 ∨ a = 1 ∨ a = 2 ∨ a = 3 by omega) with rfl | rfl | rfl | rfl <;> simp at h1 ⊢ <;> omega
theorem logB_take (L : List (Nat × Int)) (q i : Nat) : ∃ r, logB L i = logB (L.take q) i ++ r := by
  refine ⟨logB (L.drop q) i, ?_⟩
  unfold logB
  rw [← List.map_append, ← List.filter_append, List.take_append_drop]
/-- WHAT A CRASH LEAVES. -/
theorem Since.lasts {F : Nat → List Int} {k : Nat} {D : Dsk} {C : Nat → List Int} {L : List (Nat × Int)} (h : Since F k D C L) (keep : Int) :
    ∃ q : Nat → Nat, (∀ i, (D.crash keep).files i = F i ++ (C i).take (q i) ∧ q i ≤ (C i).length) ∧ q 0 + q 1 + q 2 + q 3 ≤ keep.toNat ∧ (D.crash keep).wait = [] ∧ (D.crash keep).dark = false := by
  have hc : Came F (undoK (D.wait.length - keep.toNat) D) (L.take keep.toNat) := h.came.undoK keep.toNat _ (by rw [h.came.wait, logW_length])
  refine ⟨fun i => (logB (L.take keep.toNat) i).length, fun i => ?_, ?_, rfl, rfl⟩
  · obtain ⟨r, hr⟩ := h.pre i
    obtain ⟨r2, hr2⟩ := logB_take L keep.toNat i
    have e : C i = logB (L.take keep.toNat) i ++ (r2 ++ r) := by rw [hr, hr2, List.append_assoc]
    refine ⟨?_, ?_⟩
    · show (undoK (D.wait.length - keep.toNat) D).files i = _
      rw [hc.files i, e, List.take_left]
    · show (logB (L.take keep.toNat) i).length ≤ (C i).length
      rw [e, List.length_append]; omega
  · have := logB_sum (L.take keep.toNat) hc.nam
    rw [List.length_take] at this
    show (logB (L.take keep.toNat) 0).length + (logB (L.take keep.toNat) 1).length + (logB (L.take keep.toNat) 2).length + (logB (L.take keep.toNat) 3).length ≤ _
    omega
end Go.Proofs.Ytfkkekdpfkglbaa.Q
