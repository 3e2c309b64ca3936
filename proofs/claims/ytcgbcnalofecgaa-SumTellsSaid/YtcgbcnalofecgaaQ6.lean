/- A function of the program or a law's row comes to what the Lean function beside it says; no condition beyond those typed. Written by a program of this workplace; Lean checks it. -/
import Derived.Test.YtcgbcnalofecgaaQ0
import Derived.Test.YtcgbcnalofecgaaQ3
import Derived.Test.YtcgbcnalofecgaaQ5
namespace Go.Proofs.Ytcgbcnalofecgaa.Q
open Go.RowKit Go.Proofs.YtcgbcnalofecgaaW.PrintWords Go.Proofs.YtcgbcnalofecgaaW.PrintLast Go.Proofs.YtcgbcnalofecgaaW.PrintMore
attribute [local go_sem] max2_int min2_int max_two min_two max_three min_three max_four min_four   -- for this text's walks alone
set_option linter.unusedVariables false
set_option linter.unusedSimpArgs false

/-! ### punnetlaw06_awake: function 10 -/
theorem convert_bytes {P : Program} {w : World} {s e T : TypeId} {g n c : Nat} {cs : Array Value} {fr : Nat × Nat} (hu : P.underlying s = some (.slice e)) (he : P.underlying e = some (.int .u8)) (hg : w.heap[g]? = some (.cells cs T fr)) :
    (convert s s (.slice (some ⟨g, 0, none⟩) n c)).run P w = .ok (.slice (some ⟨g, 0, none⟩) n c) (w.freeze ⟨g, cs.size, none⟩ 1) := by
  have hs : w.shape? g = some (T, cs.size) := by simp [World.shape?, hg]
  simp [convert, run_underlying hu, run_underlying he, markStringish, hs]
theorem reads_freeze {enc : Int → Value} {d : Int} {h1 : ∀ x, (enc x).oneCell' = true} {w : World} {A : Option Addr} {n : Nat} {xs : List Int} (h : (Kd.scalar enc h1).C w A n xs) (p : Addr) (m : Nat) : (Kd.scalar enc h1).C (w.freeze p m) A n xs := by
  refine Kd.C_of_reads (d := d) ?_
  have h2 := Kd.reads_of_C (d := d) h
  refine ⟨h2.1, h2.2.1, fun hn => ?_⟩
  obtain ⟨ad, e, hc⟩ := h2.2.2 hn
  exact ⟨ad, e, fun j hj => by rw [cell_freeze]; exact hc j hj⟩
def digits9 : List Int := [49, 50, 51, 52, 53, 54, 55, 56, 57]
def cells9 : Array Value := #[.int .u8 49, .int .u8 50, .int .u8 51, .int .u8 52, .int .u8 53, .int .u8 54, .int .u8 55, .int .u8 56, .int .u8 57]
theorem C_nine {w : World} {g : Nat} (h : w.heap[g]? = some (.cells cells9 5 (0, 0))) : (Kd.int .u8).C w (some ⟨g, 0, none⟩) 9 digits9 := by
  refine Kd.C_of_reads (d := 0) (h1 := fun _ => rfl) ⟨rfl, by omega, fun _ => ⟨_, rfl, fun j hj => ?_⟩⟩
  have hj9 : j < 9 := hj
  rw [show (⟨g, 0, none⟩ : Addr).add j = ⟨g, j, none⟩ by unfold Addr.add; split <;> simp_all, cell_of_row w g j _ 5 (0, 0) h]
  match j, hj9 with
  | 0, _ => rfl
  | 1, _ => rfl
  | 2, _ => rfl
  | 3, _ => rfl
  | 4, _ => rfl
  | 5, _ => rfl
  | 6, _ => rfl
  | 7, _ => rfl
  | 8, _ => rfl
theorem awake_sum : sum_Of.f 12 madeTab digits9 = some 3421780262 := by decide +kernel
def punnetlaw06_awake.f : Option Bool := some true
set_option maxHeartbeats 2000000 in
set_option maxRecDepth 100000 in
theorem punnetlaw06_awake.calls (r : Bool) (w : World) (h : punnetlaw06_awake.f = some r) :
    Calls Try.prog 10 #[] w fun e w' => e = .returned (.bool r) ∧ Below w.heap.size w w' := by
  have hr : r = true := (Option.some.inj h).symm
  subst hr
  clear h
  go_enter Try.func10, Try.ntmps10
  go_wp2_with ((with_reducible refine gate_callee (f := 16) rfl ?_); refine goesL_ (some 1) rfl rfl Try.func16 (by kernel_rfl) rfl #[] rfl (by (try simp only [List.map_toArray, List.map_cons, List.map_nil]); first | done | rfl) ?_; (with_reducible refine (sum_Make.calls madeTab _ rfl).mono ?_); rintro e w1 ⟨rfl, hb⟩; refine ⟨_, rfl, ?_⟩; have H1 := Aside0.mk hb; clear hb)
  have hb1 := blk_new w1 (.cells cells9 5)
  have hB1 : Below w.heap.size w (w1.alloc (.cells cells9 5)) := below_alloc H1.out _
  generalize hW : w1.alloc (.cells cells9 5) = w2 at hb1 hB1
  rw [show w1.alloc (.cells #[.int .u8 49, .int .u8 50, .int .u8 51, .int .u8 52, .int .u8 53, .int .u8 54, .int .u8 55, .int .u8 56, .int .u8 57] 5) = w2 from hW, convert_bytes Try.underlying25 Try.underlying5 hb1]
  simp only [Result.andThen]
  rw [Oper.upon_value]
  have hC := Aside0.mk (reads_freeze (d := 0) (C_nine hb1) ⟨w1.heap.size, cells9.size, none⟩ 1)
  have hB2 := Aside0.mk (Lib.below_freeze hB1 (p := ⟨w1.heap.size, cells9.size, none⟩) H1.out.size 1)
  clear hb1 hB1 hW
  generalize w2.freeze ⟨w1.heap.size, cells9.size, none⟩ 1 = w3 at hC hB2 ⊢
  go_wp2_with (with_reducible refine gate_callee (f := 99999) rfl ?_)
  refine (sum_Of.calls 12 madeTab (some ⟨w1.heap.size, 0, none⟩) 9 digits9 _ w3 hC.out (by decide) awake_sum).mono ?_
  rintro e w4 ⟨rfl, hb⟩
  have H2 := Aside0.mk (below_step hB2.out hb)
  clear hb
  dsimp only
  go_wp2
  go_ret
  exact ⟨rfl, H2.out⟩

end Go.Proofs.Ytcgbcnalofecgaa.Q
