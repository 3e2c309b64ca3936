/- The row of the law NameJoins: whatever list of words it is given, it returns true, and the list reads as it did. No condition beyond those typed. -/
import Derived.Test.YtmmofckknopaaaaRows
import Derived.Test.YtmmofckknopaaaaQ52
import Derived.Test.YtmmofckknopaaaaPureNameJoins
import Derived.WalkKit
import Derived.ProofKit
import Derived.OpenShut
import Derived.ShutString
import Derived.ChangeOld
import Derived.Below
import Derived.SizedLaws
import Derived.SliceStrings
namespace Go.Proofs.Ytmmofckknopaaaa.nameJoins
open Go.ChangeShapes Go.WideShapes Go.ChangeAt Go.RowKit Go.Proofs.YtmmofckknopaaaaW.PrintWords
set_option linter.unusedVariables false
theorem own : ownKnob Try.prog.godebug = none := by kernel_rfl
theorem laidOut : laidOutB Try.prog = true := by kernel_rfl
theorem reads {w : World} {a : Addr} {ss : List ByteArray} {len : Nat} (hl : len ≤ ss.length) (hm : len ≤ maxLen) (h : ∀ i, i < ss.length → w.cell? (a.add i) = some (.string (ss.getD i ByteArray.empty))) : Kd.C Kd.string w (some a) (ss.take len).length (ss.take len) := by
  have hm2 : len ≤ 9223372036854775807 := hm
  refine ⟨rfl, by rw [List.length_take]; omega, fun _ => ⟨a, rfl, ?_⟩⟩
  intro j p hp
  refine ⟨[.string p], rfl, rfl, ?_⟩
  intro i u hu
  have hj : j < len ∧ j < ss.length := by
    have := (List.getElem?_eq_some_iff.1 hp).1
    rw [List.length_take] at this
    omega
  rw [List.getElem?_take_of_lt hj.1] at hp
  match i, hu with
  | 0, hu =>
    have e : j * Kd.string.sz + 0 = j := by show j * 1 + 0 = j; omega
    rw [e, h j hj.2, List.getD_eq_getElem?_getD, hp]
    exact hu
  | i + 1, hu => simp at hu
set_option maxRecDepth 100000 in
theorem lifted (os : Os) (started : os.Started) (H : Type) (enc : TypeId × Value → H) :
    ReturnsInHanded {} Try.checked os 10 .any (Rows.nameJoinsSpec.pre6 enc Try.prog Try.f10 Rows.nameJoinsRow.domain false) (Rows.nameJoinsSpec.post enc Try.prog Try.f10 false true false false) := by
  refine returnsInHanded_of_change_sized (C := Try.checked) own started (by kernel_rfl) Try.func10
    (ChangeSpec.witness6 (enc := enc) (C := Try.checked) false ⟨#[], #[.slice none 0 0], []⟩ 8 (by kernel_rfl) (by kernel_rfl) (by kernel_rfl) (by kernel_rfl)) ?_
  intro W base args ds gs before hval0 hW hcnd hsz0 _
  have hval : ∀ (j : Nat) t v, Try.f10.params[j]? = some t → args[j]? = some v → Value.okWide Try.prog W .any base t v := hval0
  have hW' := hW
  obtain ⟨p, q, hA0, hV, rfl, hfz, hnd⟩ := hW
  have hA : DataW.TrodAll enc Try.prog W 0 (fun _ => true) true Try.f10.params.toList args.toList ds p := hA0
  rw [Try.params10] at hA hval
  obtain ⟨v0, vs0, d0, ds0, p0, q0, hargs, rfl, rfl, h0, r0⟩ := trodAll_cons hA
  obtain ⟨rfl, rfl, rfl⟩ := trodAll_nil r0
  obtain rfl : args = #[v0] := by cases args; simp_all
  obtain ⟨rfl, rfl⟩ := trodVars_none hV
  obtain ⟨a0, len0, cap0, rfl⟩ := okWide_slice Try.underlying44 (hval 0 44 v0 rfl rfl)
  have k0 := h0
  have lt0 : ∀ x ∈ p0, x.block < W.heap.size := by obtain ⟨m, hm⟩ := k0; exact DataW.trod_lt m _ _ _ hm
  obtain ⟨z0, w0, c0⟩ : ∃ zs : List ByteArray, Kd.C Kd.string W a0 zs.length zs ∧ len0 = zs.length ∧ len0 ≤ cap0 := by
    obtain ⟨fuel, hf⟩ := h0
    rcases open_strings Try.underlying44 Try.underlying9 (by kernel_rfl) hf with ⟨hcs, _⟩ | ⟨x, l, c, zs, hcs, _, hl, hm, hz, _, hcell, _⟩
    · simp [Value.cells] at hcs
      obtain ⟨rfl, rfl, rfl⟩ := hcs
      exact ⟨[], Kd.C_nil _ _, rfl, Nat.le_refl _⟩
    · simp [Value.cells] at hcs
      obtain ⟨rfl, rfl, rfl⟩ := hcs
      have hz2 : zs.length = cap0 := by simpa using hz
      exact ⟨zs.take len0, reads (by omega) (Nat.le_trans hl hm) hcell, by rw [List.length_take]; omega, hl⟩
  obtain ⟨rfl, c0⟩ := c0
  clear hA0 hval0 hsz0
  obtain ⟨k, hk⟩ := Pure.NameJoins z0
  refine (Q.punnetlaw05_NameJoins.calls k a0 cap0 z0 true W w0 c0 hk).mono fun e W' ⟨he, bel⟩ => ?_
  subst he
  exact ⟨_, rfl, _, _, _, [], _, [], hW', trodAll_mk1 (shut_bool Try.underlying4 _), (trodAll_cons_mk (Below.trod laidOut (by kernel_rfl) (of_decide_eq_true (by kernel_rfl)) k0 bel lt0) trodAll_mk0), rfl, bel.frame _, fun h => by cases h⟩
theorem over : Rows.nameJoinsRow.holds Try.pinned (OpenSpec.ofChange Rows.nameJoinsSpec) :=
  OpenClaim.holds_of_wide 10 Try.f10 rfl rfl rfl rfl rfl rfl rfl ⟨rfl, rfl, rfl, rfl, rfl⟩ rfl rfl rfl rfl rfl (by kernel_rfl) Try.func10 (by kernel_rfl)
    (of_decide_eq_true (by kernel_rfl)) (by unfold Func.isWrapper; first | (rw [if_pos (by decide +kernel)]; kernel_rfl) | (rw [if_neg (by decide +kernel)]; exact ⟨rfl, rfl⟩))
    (fun os started H enc _ => lifted os started H enc)
theorem proved : Rows.NameJoinsSaid := over
end Go.Proofs.Ytmmofckknopaaaa.nameJoins
namespace Go.Proofs.Ytmmofckknopaaaa
/-- The row, under a short name, for the claim. -/
theorem nameJoins_holds : Rows.NameJoinsSaid := nameJoins.proved
end Go.Proofs.Ytmmofckknopaaaa
