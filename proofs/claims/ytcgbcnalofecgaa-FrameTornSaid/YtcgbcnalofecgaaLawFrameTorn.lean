/- The row of the law FrameTorn: whatever table, texts and place it is given, it returns true, and its arguments read as they did. No condition beyond those typed. -/
import Derived.Test.YtcgbcnalofecgaaRows
import Derived.Test.YtcgbcnalofecgaaQ29
import Derived.Test.YtcgbcnalofecgaaPureFrameTorn
import Derived.WalkKit
import Derived.ProofKit
import Derived.OpenShut
import Derived.ShutString
import Derived.ChangeOld
import Derived.Below
import Derived.SizedLaws
import Derived.Deep.Slices
namespace Go.Proofs.Ytcgbcnalofecgaa.frameTorn
open Go.ChangeShapes Go.WideShapes Go.ChangeAt Go.RowKit Go.Deep Go.Proofs.YtcgbcnalofecgaaW.PrintWords
set_option linter.unusedVariables false
theorem own : ownKnob Try.prog.godebug = none := by kernel_rfl
theorem laidOut : laidOutB Try.prog = true := by kernel_rfl
theorem one_row {H : Type} {enc : TypeId × Value → H} {W : World} {n : Nat} {v : Value} {x : DataW H × List MemPlace} (h : DataW.trod enc Try.prog W 0 (fun _ => true) true n 25 [v] = some x) :
    ∃ p : List Int, Sum.Bytes p ∧ ∃ A c, v = .slice A p.length c ∧ p.length ≤ c ∧ Kd.C (Kd.int .u8) W A p.length p := by
  rcases open_ints Try.underlying25 Try.underlying5 (by kernel_rfl) h with ⟨hcs, _⟩ | ⟨a, l, c, zs, hcs, _, hl, hm, hz, _, hcell, hwz⟩
  · obtain rfl : v = .slice none 0 0 := by simpa using hcs
    exact ⟨[], fun _ hx => by simp at hx, none, 0, rfl, Nat.le_refl _, Kd.C_nil _ _⟩
  · obtain rfl : v = .slice (some a) l c := by simpa using hcs
    obtain ⟨p, rfl, hr, hm2, hw, hc⟩ := ReadsInt.ofRowC (.inr ⟨a, rfl, hl, hm, by simpa using hz, hcell, hwz⟩)
    exact ⟨p, Sum.bytes_wf hw, _, _, rfl, hc, Kd.C_of_reads (d := (0 : Int)) (h1 := fun _ => rfl) hr⟩
theorem open_rows {H : Type} {enc : TypeId × Value → H} {W : World} {n : Nat} {A : Option Addr} {len cap : Nat} {x : DataW H × List MemPlace} (h : DataW.trod enc Try.prog W 0 (fun _ => true) true n 43 [.slice A len cap] = some x) :
    ∃ zs : List (List Int), (∀ b ∈ zs, Sum.Bytes b) ∧ len = zs.length ∧ len ≤ cap ∧ Kd.C (Kd.slice 5 (Kd.int .u8)) W A zs.length zs := by
  rcases open_slice1 Try.underlying43 (by kernel_rfl) h with ⟨hcs, _⟩ | ⟨a, l, c, m, n', V, D, Pl, hcs, _, hl, hm, hmm, _, hx⟩
  · simp at hcs
    obtain ⟨rfl, rfl, rfl⟩ := hcs
    exact ⟨[], fun _ hb => by simp at hb, rfl, Nat.le_refl _, Kd.C_nil _ _⟩
  · simp at hcs
    obtain ⟨rfl, rfl, rfl⟩ := hcs
    have hmc : len ≤ m := by rw [hmm]; simpa using hl
    have hp : ∀ i, i < len → ∃ p : List Int, Sum.Bytes p ∧ ∃ A c, V i = .slice A p.length c ∧ p.length ≤ c ∧ Kd.C (Kd.int .u8) W A p.length p := fun i hi => one_row (hx i (by omega)).2
    let f : Nat → List Int := fun i => if hi : i < len then Classical.choose (hp i hi) else []
    have hf : ∀ i, i < len → Sum.Bytes (f i) ∧ ∃ A c, V i = .slice A (f i).length c ∧ (f i).length ≤ c ∧ Kd.C (Kd.int .u8) W A (f i).length (f i) := by
      intro i hi
      show Sum.Bytes (if hi : i < len then Classical.choose (hp i hi) else []) ∧ _
      have e : f i = Classical.choose (hp i hi) := dif_pos hi
      rw [dif_pos hi]
      rw [e]
      exact Classical.choose_spec (hp i hi)
    have hm2 : cap ≤ 9223372036854775807 := hm
    refine ⟨(List.range len).map f, ?_, by simp, hl, ?_⟩
    · intro b hb
      obtain ⟨i, hi, rfl⟩ := List.mem_map.1 hb
      exact (hf i (List.mem_range.1 hi)).1
    · refine ⟨rfl, by simp; omega, fun _ => ⟨a, rfl, ?_⟩⟩
      intro j p hj
      have hjl : j < len := by
        have := (List.getElem?_eq_some_iff.1 hj).1
        simpa using this
      have hpj : p = f j := by
        rw [List.getElem?_map, List.getElem?_range hjl] at hj
        exact (Option.some.inj hj).symm
      subst hpj
      refine ⟨[V j], rfl, ?_, ?_⟩
      · obtain ⟨_, A, c, hv, hlc, hC⟩ := hf j hjl
        exact ⟨A, c, by rw [hv], hlc, hC⟩
      · intro i u hu
        match i, hu with
        | 0, hu =>
          have e : j * (Kd.slice 5 (Kd.int .u8)).sz + 0 = j := by show j * 1 + 0 = j; omega
          rw [e, (hx j (by omega)).1]
          exact hu
        | i + 1, hu => simp at hu
set_option maxRecDepth 100000 in
theorem lifted (os : Os) (started : os.Started) (H : Type) (enc : TypeId × Value → H) :
    ReturnsInHanded {} Try.checked os 9 .any (Rows.frameTornSpec.pre6 enc Try.prog Try.f9 Rows.frameTornRow.domain false) (Rows.frameTornSpec.post enc Try.prog Try.f9 false true false false) := by
  refine returnsInHanded_of_change_sized (C := Try.checked) own started (by kernel_rfl) Try.func9
    (ChangeSpec.witness6 (enc := enc) (C := Try.checked) false ⟨#[], #[.agg (List.replicate 256 (.int .u32 0)).toArray, .slice none 0 0, .int .i64 0], []⟩ 8 (by kernel_rfl) (by kernel_rfl) (by kernel_rfl) (by kernel_rfl)) ?_
  intro W base args ds gs before hval0 hW hcnd hsz0 _
  have hval : ∀ (j : Nat) t v, Try.f9.params[j]? = some t → args[j]? = some v → Value.okWide Try.prog W .any base t v := hval0
  have hW' := hW
  obtain ⟨p, q, hA0, hV, rfl, hfz, hnd⟩ := hW
  have hA : DataW.TrodAll enc Try.prog W 0 (fun _ => true) true Try.f9.params.toList args.toList ds p := hA0
  rw [Try.params9] at hA hval
  obtain ⟨v0, vs0, d0, ds0, p0, q0, hargs, rfl, rfl, h0, r0⟩ := trodAll_cons hA
  obtain ⟨v1, vs1, d1, ds1, p1, q1, rfl, rfl, rfl, h1, r1⟩ := trodAll_cons r0
  obtain ⟨v2, vs2, d2, ds2, p2, q2, rfl, rfl, rfl, h2, r2⟩ := trodAll_cons r1
  obtain ⟨rfl, rfl, rfl⟩ := trodAll_nil r2
  obtain rfl : args = #[v0, v1, v2] := by cases args; simp_all
  obtain ⟨rfl, rfl⟩ := trodVars_none hV
  obtain ⟨a0, rfl⟩ := open_tab Try.underlying24 Try.underlying22 (by kernel_rfl) (by kernel_rfl) (hval 0 24 v0 rfl rfl)
  have k0 := h0
  have lt0 : ∀ x ∈ p0, x.block < W.heap.size := by obtain ⟨m, hm⟩ := k0; exact DataW.trod_lt m _ _ _ hm
  obtain ⟨a1, len1, cap1, rfl⟩ := okWide_slice Try.underlying43 (hval 1 43 v1 rfl rfl)
  have k1 := h1
  have lt1 : ∀ x ∈ p1, x.block < W.heap.size := by obtain ⟨m, hm⟩ := k1; exact DataW.trod_lt m _ _ _ hm
  obtain ⟨z1, hb1, rfl, c1, w1⟩ : ∃ zs : List (List Int), (∀ b ∈ zs, Sum.Bytes b) ∧ len1 = zs.length ∧ len1 ≤ cap1 ∧ Kd.C (Kd.slice 5 (Kd.int .u8)) W a1 zs.length zs := by
    obtain ⟨fuel, hf⟩ := h1
    exact open_rows hf
  obtain ⟨a2, rfl, rfl, rfl, w2⟩ := open_int Try.underlying3 (hval 2 3 v2 rfl rfl) h2
  clear hA0 hval0 hsz0
  obtain ⟨k, hk⟩ := Pure.FrameTorn a0 z1 a2 hb1
  refine (Q.punnetlaw07_FrameTorn.calls k a0 a1 cap1 z1 a2 true W w1 c1 hk).mono fun e W' ⟨he, bel⟩ => ?_
  subst he
  exact ⟨_, rfl, _, _, _, [], _, [], hW', trodAll_mk1 (shut_bool Try.underlying4 _), (trodAll_cons_mk (Below.trod laidOut (by kernel_rfl) (of_decide_eq_true (by kernel_rfl)) k0 bel lt0) (trodAll_cons_mk (Below.trod laidOut (by kernel_rfl) (of_decide_eq_true (by kernel_rfl)) k1 bel lt1) (trodAll_cons_mk (shut_int Try.underlying3 w2) trodAll_mk0))), rfl, bel.frame _, fun h => by cases h⟩
theorem over : Rows.frameTornRow.holds Try.pinned (OpenSpec.ofChange Rows.frameTornSpec) :=
  OpenClaim.holds_of_wide 9 Try.f9 rfl rfl rfl rfl rfl rfl rfl ⟨rfl, rfl, rfl, rfl, rfl⟩ rfl rfl rfl rfl rfl (by kernel_rfl) Try.func9 (by kernel_rfl)
    (of_decide_eq_true (by kernel_rfl)) (by unfold Func.isWrapper; first | (rw [if_pos (by decide +kernel)]; kernel_rfl) | (rw [if_neg (by decide +kernel)]; exact ⟨rfl, rfl⟩))
    (fun os started H enc _ => lifted os started H enc)
theorem proved : Rows.FrameTornSaid := over
end Go.Proofs.Ytcgbcnalofecgaa.frameTorn
namespace Go.Proofs.Ytcgbcnalofecgaa
/-- The row, under a short name, for the claim. -/
theorem frameTorn_holds : Rows.FrameTornSaid := frameTorn.proved
end Go.Proofs.Ytcgbcnalofecgaa
