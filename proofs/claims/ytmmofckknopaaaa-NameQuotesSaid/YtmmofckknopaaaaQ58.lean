/- A function of the program or a law's row comes to what the Lean function beside it says; no condition beyond those typed. Written by a program of this workplace; Lean checks it. -/
import Derived.Test.YtmmofckknopaaaaQ0
import Derived.Test.YtmmofckknopaaaaQ33
import Derived.Test.YtmmofckknopaaaaQ53
namespace Go.Proofs.Ytmmofckknopaaaa.Q
open Go.RowKit Go.Proofs.YtmmofckknopaaaaW.PrintWords Go.Proofs.YtmmofckknopaaaaW.PrintLast Go.Proofs.YtmmofckknopaaaaW.PrintMore
attribute [local go_sem] max2_int min2_int max_two min_two max_three min_three max_four min_four   -- for this text's walks alone
set_option linter.unusedVariables false
set_option linter.unusedSimpArgs false

/-! ### name_Quote: function 37 -/
set_option maxHeartbeats 1000000 in
set_option maxRecDepth 100000 in
theorem builder_check_used (b : Nat) (w : World) (h0 : w.cell? ⟨b, 0, none⟩ = some (.pointer (some ⟨b, 0, none⟩))) :
    Calls Try.prog 61 #[.pointer (some ⟨b, 0, none⟩)] w fun e w' => e = .returned (.tuple #[]) ∧ w' = w := by
  obtain ⟨j, hj, _⟩ := Option.map_eq_some_iff.1 (show (Try.prog.info? 70).map (·.size) = some 2 from by kernel_rfl)
  go_enter Try.func61, Try.ntmps61
  go_wp2
  rw [Lib.run_neq_ptr_same w _ Try.underlying68 hj]
  go_wp2
  go_end0
  exact ⟨rfl, rfl⟩
set_option maxHeartbeats 1000000 in
set_option maxRecDepth 100000 in
theorem builder_check_fresh (b : Nat) (w : World) (h0 : w.cell? ⟨b, 0, none⟩ = some (.pointer none)) (hsh : w.shape? b = some (70, 2)) (hfz : w.frozen? ⟨b, 0, none⟩ = false) :
    Calls Try.prog 61 #[.pointer (some ⟨b, 0, none⟩)] w fun e w' => e = .returned (.tuple #[]) ∧ w' = w.setCell ⟨b, 0, none⟩ (.pointer (some ⟨b, 0, none⟩)) := by
  obtain ⟨j, hj, hjs⟩ := Option.map_eq_some_iff.1 (show (Try.prog.info? 70).map (·.size) = some 2 from by kernel_rfl)
  go_enter Try.func61, Try.ntmps61
  go_wp2
  rw [Lib.run_to_unsafe w ⟨b, 0, none⟩ Try.underlying68 Try.underlying82 hj (by rw [hjs]; decide) hsh (Nat.zero_lt_succ 1)]
  simp only [Result.andThen]
  rw [Oper.upon_value]
  go_wp2
  rw [run_callFunc_extern Try.func64 (by kernel_rfl) (by kernel_rfl) (by kernel_rfl) (e := Extern.AbiNoEscape.same) (by kernel_rfl)]
  rw [Lib.run_noEscape]
  simp only [Result.andThen]
  rw [Oper.upon_value]
  go_wp2
  rw [Lib.run_from_unsafe w ⟨b, 0, none⟩ Try.underlying82 Try.underlying68 hj hsh (by kernel_rfl)]
  simp only [Result.andThen]
  rw [Oper.upon_value]
  go_wp2
  go_end0
  exact ⟨rfl, rfl⟩
theorem builder_check (B b : Nat) (bs : List Value) (w : World) (h : Lib.IsBuilder 70 5 B b bs w) :
    Calls Try.prog 61 #[.pointer (some ⟨b, 0, none⟩)] w fun e w' => e = .returned (.tuple #[]) ∧ (Lib.BuilderAt 70 5 B b (.pointer (some ⟨b, 0, none⟩)) bs w' ∧ Below B w w') := by
  rcases h with h | h
  · refine (builder_check_fresh b w h.cell0 h.shape h.frozen0).mono ?_
    rintro e w' ⟨rfl, rfl⟩
    exact ⟨rfl, h.used _, (Below.refl B w).setCell (p := ⟨b, 0, none⟩) h.1 _⟩
  · refine (builder_check_used b w h.cell0).mono ?_
    rintro e w' ⟨rfl, rfl⟩
    exact ⟨rfl, h, Below.refl B _⟩
set_option maxHeartbeats 2000000 in
set_option maxRecDepth 100000 in
theorem builder_write (B b : Nat) (bs : List Value) (c : Int) (w : World) (h : Lib.IsBuilder 70 5 B b bs w) (hlen : bs.length + 1 ≤ 140737488355328) (hBw : B ≤ w.heap.size) :
    Calls Try.prog 54 #[.pointer (some ⟨b, 0, none⟩), .int .u8 c] w fun e w' => e = .returned .nilIface ∧ (Lib.BuilderAt 70 5 B b (.pointer (some ⟨b, 0, none⟩)) (bs ++ [.int .u8 c]) w' ∧ Below B w w') := by
  obtain ⟨i0, hi, hz0, hz1, hz2⟩ := info_parts (show (Try.prog.info? 5).map (fun i => (i.zero, i.size, i.bytes)) = some (some (.int .u8 0), 1, 1) from by kernel_rfl)
  go_enter Try.func54, Try.ntmps54
  go_wp2_with ((with_reducible refine gate_callee (f := 61) rfl ?_); refine goesL_ (some 6) rfl rfl Try.func61 (by kernel_rfl) rfl #[.pointer (some ⟨b, 0, none⟩)] rfl (by (try simp only [List.map_toArray, List.map_cons, List.map_nil]); first | done | rfl) ?_; (refine (builder_check B b bs _ h).mono ?_))
  rintro e w1 ⟨rfl, h1, hb1⟩
  refine ⟨_, rfl, ?_⟩
  obtain ⟨hB, v, hbk, hown, hne⟩ := h1
  have c0 : w1.cell? ⟨b, 0, none⟩ = some (.pointer (some ⟨b, 0, none⟩)) := by rw [Lib.cell_of_heap hbk]; rfl
  have c1 : w1.cell? ⟨b, 1, none⟩ = some v := by rw [Lib.cell_of_heap hbk]; rfl
  go_wp2_with (at_builtin; refine wpList_append_own _ rfl _ _ 29 rfl B 5 i0 (.int .u8 0) 1 1 Try.underlying29 hi hz0 hz1 hz2 rfl (by decide) _ _ _ rfl (hown.alloc _) ⟨w1.heap.size, 0, none⟩ 1 1 [.int .u8 c] rfl rfl ?c1 ?c2 ?c3 ?c4 ?c5 ?_)
  case c1 =>
    intro j u hj
    match j, hj with
    | 0, hj => simp at hj; subst hj; simp [Addr.add]
  case c2 => intro u hu; simp at hu; subst hu; rfl
  case c3 => unfold maxLen; omega
  case c4 => omega
  case c5 => have := hb1.size; simp; omega
  intro v' w2 hown' hgrow _
  have hlt : b < w1.heap.size := by
    rcases Nat.lt_or_ge b w1.heap.size with h' | h'
    · exact h'
    · simp [Array.getElem?_eq_none h'] at hbk
  have hb2 : w2.heap[b]? = some (.cells #[.pointer (some ⟨b, 0, none⟩), v] 70 (0, 0)) := by
    rw [hgrow.block b (by simp; omega) (fun e => hne e.symm), Lib.alloc_old w1 _ b hlt]
    exact hbk
  have d0 : w2.cell? ⟨b, 0, none⟩ = some (.pointer (some ⟨b, 0, none⟩)) := by rw [Lib.cell_of_heap hb2]; rfl
  have d1 : w2.cell? ⟨b, 1, none⟩ = some v := by rw [Lib.cell_of_heap hb2]; rfl
  have f1 : w2.frozen? ⟨b, 1, none⟩ = false := Lib.frozen_of_heap hb2 1
  obtain ⟨g, cap, rfl⟩ : ∃ g cap, v' = .slice (some ⟨g, 0, none⟩) (bs.length + 1) cap := by
    rcases hown'.2 with ⟨_, h0⟩ | ⟨g, cap, cur, hv, _⟩
    · omega
    · exact ⟨g, cap, hv⟩
  go_wp2
  go_ret
  refine ⟨rfl, ?_, ?_⟩
  · exact Lib.BuilderAt.put (T := 70) (e := 5) hB hb2 (bs' := bs ++ [.int .u8 c]) (by simpa using hown') (by decide)
  · exact ((hb1.alloc (by have := hb1.size; omega) _).grown hgrow (by have := hb1.size; simp; omega) (fun k hk => (hown.lt k hk).1)).setCell (p := ⟨b, 1, none⟩) hB _
set_option maxHeartbeats 1000000 in
set_option maxRecDepth 100000 in
theorem builder_string (B b : Nat) (l : List UInt8) (w : World) (h : Lib.IsBuilder 70 5 B b (Lib.byteCells l) w) (h0 : l ≠ []) :
    Calls Try.prog 56 #[.pointer (some ⟨b, 0, none⟩)] w fun e w' => e = .returned (.string ⟨l.toArray⟩) ∧ Below B w w' := by
  obtain ⟨p, hB, v, hbk, hown, hne⟩ : ∃ p, Lib.BuilderAt 70 5 B b p (Lib.byteCells l) w := by
    rcases h with h | h
    · exact ⟨_, h⟩
    · exact ⟨_, h⟩
  have hl0 : l.length ≠ 0 := by simpa using h0
  rw [Lib.byteCells_length] at hown
  obtain ⟨g, cap, cur, rfl, hbg, hg, hnc, hcm, hcs, htake⟩ : ∃ g cap cur, v = .slice (some ⟨g, 0, none⟩) l.length cap ∧ B ≤ g ∧ w.heap[g]? = some (.cells cur 5 (0, 0)) ∧ l.length ≤ cap ∧ cap ≤ maxLen ∧ cur.size = cap * 1 ∧ cur.toList.take (l.length * 1) = Lib.byteCells l := by
    rcases hown.2 with ⟨_, hz⟩ | ⟨g, cap, cur, hv, r⟩
    · exact absurd hz hl0
    · exact ⟨g, cap, cur, hv, r⟩
  have c1 : w.drew.cell? ⟨b, 1, none⟩ = some (.slice (some ⟨g, 0, none⟩) l.length cap) := by
    have : w.drew.heap[b]? = some (.cells #[p, .slice (some ⟨g, 0, none⟩) l.length cap] 70 (0, 0)) := hbk
    rw [Lib.cell_of_heap this]; rfl
  have hSD : (Builtin.unsafeSliceData_ #[29] 79 #[.slice (some ⟨g, 0, none⟩) l.length cap]).run Try.prog w.drew = .ok (.pointer (some ⟨g, 0, none⟩)) w.drew :=
    Lib.run_unsafeSliceData_row _ _ _ _ _ _ (by omega)
  have hUS : (Builtin.unsafeString_ #[79, 3] 9 #[.pointer (some ⟨g, 0, none⟩), .int .i64 l.length]).run Try.prog w.drew = .ok (.string ⟨l.toArray⟩) (w.drew.freeze ⟨g, 0, none⟩ l.length) := by
    refine Lib.run_unsafeString_row w.drew 79 3 9 5 Try.underlying79 (by kernel_rfl) g cur.size (by have hg' : w.drew.heap[g]? = some (.cells cur 5 (0, 0)) := hg; simp [World.shape?, hg']) l h0 (by omega) (by unfold maxLen at hcm; omega) ?_
    intro j x hx
    have := hown.cells (g := g) rfl j (.int .u8 x.toNat) (by simp [Lib.byteCells, hx])
    exact this
  go_enter Try.func56, Try.ntmps56
  go_wp2
  go_region
  rename_i hK
  refine hK _ _ ?_
  all_goals (try go_wp2
             go_ret; exact ⟨rfl, Lib.below_freeze (Below.drew (Below.refl B w)) (p := ⟨g, 0, none⟩) hbg _⟩)

def qd (n : Int) : Int := bt (⟨#[48, 49, 50, 51, 52, 53, 54, 55, 56, 57, 97, 98, 99, 100, 101, 102]⟩ : ByteArray) n
def qenc (c : Int) : List Int := if 32 ≤ c ∧ c ≤ 126 ∧ c ≠ 34 ∧ c ≠ 92 then [c] else [92, qd (c / 16), qd (c % 16)]
def qout (s : ByteArray) : Nat → List Int
  | 0 => [34]
  | i + 1 => qout s i ++ qenc (bt s (i : Int))
theorem qout_step {s : ByteArray} {i : Int} (h : 0 ≤ i) : qout s (i + 1).toNat = qout s i.toNat ++ qenc (bt s i) := by
  rw [show (i + 1).toNat = i.toNat + 1 by omega, qout, show ((i.toNat : Nat) : Int) = i by omega]
theorem qenc_len (c : Int) : (qenc c).length ≤ 3 := by unfold qenc; split <;> simp
theorem qout_len (s : ByteArray) : ∀ i, (qout s i).length ≤ 3 * i + 1
  | 0 => by simp [qout]
  | i + 1 => by have := qout_len s i; have := qenc_len (bt s (i : Int)); rw [qout, List.length_append]; omega
theorem qenc_bytes {c : Int} (h : 0 ≤ c ∧ c ≤ 255) : ∀ x ∈ qenc c, 0 ≤ x ∧ x < 256 := by
  intro x hx
  unfold qenc at hx
  split at hx
  · rw [List.mem_singleton.1 hx]; omega
  · simp only [List.mem_cons, List.not_mem_nil, or_false] at hx
    rcases hx with rfl | rfl | rfl
    · omega
    · have := bt_range (⟨#[48, 49, 50, 51, 52, 53, 54, 55, 56, 57, 97, 98, 99, 100, 101, 102]⟩ : ByteArray) (c / 16); unfold qd; omega
    · have := bt_range (⟨#[48, 49, 50, 51, 52, 53, 54, 55, 56, 57, 97, 98, 99, 100, 101, 102]⟩ : ByteArray) (c % 16); unfold qd; omega
theorem qout_bytes (s : ByteArray) : ∀ i, ∀ x ∈ qout s i, 0 ≤ x ∧ x < 256
  | 0, x, hx => by rw [List.mem_singleton.1 hx]; omega
  | i + 1, x, hx => by
    rw [qout] at hx
    rcases List.mem_append.1 hx with hx | hx
    · exact qout_bytes s i x hx
    · exact qenc_bytes (bt_range s (i : Int)) x hx
theorem bytes_snoc {o : List Int} (h : ∀ x ∈ o, 0 ≤ x ∧ x < 256) : ∀ x ∈ o ++ [34], 0 ≤ x ∧ x < 256 := by
  intro x hx
  rcases List.mem_append.1 hx with hx | hx
  · exact h x hx
  · rw [List.mem_singleton.1 hx]; omega
/-- The builder of this call, in its block, holds these bytes. -/
structure Bu (b : Nat) (o : List Int) (w : World) : Prop where
  mk :: (out : Lib.IsBuilder 70 5 b b (o.map (Value.int .u8)) w)
theorem Bu.drewN {b : Nat} {o : List Int} {w : World} (h : Bu b o w) (n : Nat) : Bu b o (w.drewN n) := ⟨h.out⟩
theorem Bu.write {b : Nat} {o : List Int} {w : World} (h : Bu b o w) (c : Int) (hl : o.length ≤ 1000) :
    Calls Try.prog 54 #[.pointer (some ⟨b, 0, none⟩), .int .u8 c] w fun e w' => e = .returned .nilIface ∧ Bu b (o ++ [c]) w' ∧ Below b w w' := by
  have hlt : b < w.heap.size := by rcases h.out with k | k <;> exact k.lt
  refine (builder_write b b _ c w h.out (by rw [List.length_map]; omega) (by omega)).mono ?_
  rintro e w' ⟨rfl, h1, h2⟩
  refine ⟨rfl, ⟨.inr ?_⟩, h2⟩
  rw [List.map_append]
  exact h1
theorem Bu.string {b : Nat} {o : List Int} {w : World} (h : Bu b o w) (hb : ∀ x ∈ o, 0 ≤ x ∧ x < 256) (hne : o ≠ []) :
    Calls Try.prog 56 #[.pointer (some ⟨b, 0, none⟩)] w fun e w' => e = .returned (.string (strOfNums o)) ∧ Below b w w' := by
  have e : o.map (Value.int .u8) = Lib.byteCells (o.map fun n => UInt8.ofNat n.toNat) := by
    unfold Lib.byteCells
    rw [List.map_map]
    apply List.map_congr_left
    intro x hx
    have := hb x hx
    simp only [Function.comp_apply, UInt8.toNat_ofNat']
    congr 1
    omega
  have h1 := h.out
  rw [e] at h1
  exact builder_string b b _ w h1 (by simpa using hne)
theorem plain_if (c : Int) : name_plain.f c = some (decide (32 ≤ c ∧ c ≤ 126 ∧ c ≠ 34 ∧ c ≠ 92)) := by
  unfold name_plain.f
  by_cases h1 : c ≥ 32
  · rw [if_pos h1]
    have h1' : 32 ≤ c := h1
    by_cases h2 : c ≤ 126
    · rw [if_pos h2]
      by_cases h3 : c = 34
      · rw [if_pos h3]; simp [h3]
      · rw [if_neg h3]
        by_cases h4 : c = 92 <;> simp [*]
    · rw [if_neg h2]; simp [h2]
  · rw [if_neg h1]; have h1' : ¬ (32 ≤ c) := h1; simp [h1']
theorem fresh_bu (w : World) (nd : Nat) : Bu w.heap.size [] ((w.drewN nd).alloc (.cells #[.pointer none, .slice none 0 0] 70)) := ⟨Lib.fresh_isBuilder 70 5 (w.drewN nd)⟩
theorem fresh_below (w : World) (nd : Nat) (o : Obj) : Below w.heap.size w ((w.drewN nd).alloc o) := below_alloc (pw_below_drewN (Below.refl _ _) nd) _
set_option maxHeartbeats 2000000 in
set_option maxRecDepth 100000 in
theorem name_Quote.calls_fine (a0 : ByteArray) (w : World) (h40 : a0.size ≤ 40) :
    Calls Try.prog 37 #[.string a0] w fun e w' => e = .returned (.tuple #[.string (strOfNums (qout a0 a0.size ++ [34])), .int .i64 0]) ∧ Below w.heap.size w w' := by
  have hT : name_Text.f a0 = some true := by unfold name_Text.f; rw [decide_eq_true (by omega)]
  go_enter Try.func37, Try.ntmps37
  go_wp2_with (first | ((with_reducible refine gate_callee (f := 39) rfl ?_); refine goesL_ (some 7) rfl rfl Try.func39 (by kernel_rfl) rfl #[.string a0] rfl (by (try simp only [List.map_toArray, List.map_cons, List.map_nil]); first | done | rfl) ?_; (with_reducible refine (name_Text.calls a0 true _ hT).mono ?_); rintro e w' ⟨rfl, ⟨nd, rfl⟩⟩; refine ⟨_, rfl, ?_⟩) | ((with_reducible refine gate_callee (f := 54) rfl ?_); refine goesL_ (some 9) rfl rfl Try.func54 (by kernel_rfl) rfl #[.pointer (some ⟨w.heap.size, 0, none⟩), .int .u8 34] rfl (by (try simp only [List.map_toArray, List.map_cons, List.map_nil]); first | done | rfl) ?_; (refine (Bu.write (fresh_bu w nd) 34 (by simp)).mono ?_)))
  rintro e w1 ⟨rfl, B1, L1⟩
  refine ⟨_, rfl, ?_⟩
  have HB := Aside0.mk (Below.trans (fresh_below w _ _) L1)
  have HBu := Aside0.mk B1
  clear B1 L1
  go_wp2
  go_loopg [12] a0.size (fun kq v12 w' => ∃ i : Int, v12 = .int .i64 i ∧ Aside0 (0 ≤ i ∧ i + kq = a0.size) ∧ Aside0 (Bu w.heap.size (qout a0 i.toNat) w') ∧ Aside0 (Below w.heap.size w w'))
  case atStart => exact ⟨0, rfl, ⟨by omega⟩, HBu, HB⟩
  case round =>
    clear HB HBu
    obtain ⟨i, rfl, HK, HBu, HB⟩ := hrel
    by_cases ci : i < (a0.size : Int)
    · have c0 : decide (i < (a0.size : Int)) = true := decide_eq_true ci
      have hx4 := bt_at a0 i
      have p4 : (0 ≤ i) = True := eq_true HK.out.1
      have q4 : (i < (a0.size : Int)) = True := eq_true ci
      obtain ⟨k1, rfl⟩ : ∃ k1, gk = k1 + 1 := ⟨gk - 1, by have := HK.out; omega⟩
      have hl0 : (qout a0 i.toNat).length ≤ 130 := by have := qout_len a0 i.toNat; omega
      by_cases cp : 32 ≤ bt a0 i ∧ bt a0 i ≤ 126 ∧ bt a0 i ≠ 34 ∧ bt a0 i ≠ 92
      · have hP : name_plain.f (bt a0 i) = some true := by rw [plain_if, decide_eq_true cp]
        go_wp2_with (first | ((with_reducible refine gate_callee (f := 55) rfl ?_); refine goesL_ (some 18) rfl rfl Try.func55 (by kernel_rfl) rfl #[.int .u8 (bt a0 i)] rfl (by (try simp only [List.map_toArray, List.map_cons, List.map_nil]); first | done | rfl) ?_; (with_reducible refine (name_plain.calls (bt a0 i) true _ hP).mono ?_); rintro e w' ⟨rfl, ⟨nd2, rfl⟩⟩; refine ⟨_, rfl, ?_⟩) | ((with_reducible refine gate_callee (f := 54) rfl ?_); refine goesL_ (some 22) rfl rfl Try.func54 (by kernel_rfl) rfl #[.pointer (some ⟨w.heap.size, 0, none⟩), .int .u8 (bt a0 i)] rfl (by (try simp only [List.map_toArray, List.map_cons, List.map_nil]); first | done | rfl) ?_; (refine (Bu.write (Bu.drewN HBu.out nd2) (bt a0 i) (by (try simp only [List.length_append, List.length_cons, List.length_nil]); omega)).mono ?_); rintro e w2 ⟨rfl, B2, L2⟩; refine ⟨_, rfl, ?_⟩; have L3 := Aside0.mk (Below.trans (pw_below_drewN HB.out nd2) L2); have B3 := Aside0.mk B2; clear HBu HB B2 L2; have HBu := B3; have HB := L3; clear B3 L3))
        go_roundg k1
        case measure => omega
        case rel => exact ⟨i + 1, by first | rfl | (congr 1; have := HK.out; unfold wrap64; omega), ⟨by have := HK.out; omega⟩, ⟨by have := HBu.out; rw [qout_step HK.out.1, qenc, if_pos cp]; exact this⟩, HB⟩
      · have hP : name_plain.f (bt a0 i) = some false := by rw [plain_if, decide_eq_false cp]
        have hr := bt_range a0 i
        have g1 : (0 ≤ bt a0 i / 16) = True := eq_true (by omega)
        have g2 : (bt a0 i / 16 < 16) = True := eq_true (by omega)
        have g3 := bt_at (⟨#[48, 49, 50, 51, 52, 53, 54, 55, 56, 57, 97, 98, 99, 100, 101, 102]⟩ : ByteArray) (bt a0 i / 16)
        have g4 : (0 ≤ bt a0 i % 16) = True := eq_true (by omega)
        have g5 : (bt a0 i % 16 < 16) = True := eq_true (by omega)
        have g6 := bt_at (⟨#[48, 49, 50, 51, 52, 53, 54, 55, 56, 57, 97, 98, 99, 100, 101, 102]⟩ : ByteArray) (bt a0 i % 16)
        go_wp2_with (first | ((with_reducible refine gate_callee (f := 55) rfl ?_); refine goesL_ (some 18) rfl rfl Try.func55 (by kernel_rfl) rfl #[.int .u8 (bt a0 i)] rfl (by (try simp only [List.map_toArray, List.map_cons, List.map_nil]); first | done | rfl) ?_; (with_reducible refine (name_plain.calls (bt a0 i) false _ hP).mono ?_); rintro e w' ⟨rfl, ⟨nd2, rfl⟩⟩; refine ⟨_, rfl, ?_⟩) | ((with_reducible refine gate_callee (f := 54) rfl ?_); refine goesL_ (some 23) rfl rfl Try.func54 (by kernel_rfl) rfl #[.pointer (some ⟨w.heap.size, 0, none⟩), .int .u8 (92)] rfl (by (try simp only [List.map_toArray, List.map_cons, List.map_nil]); first | done | rfl) ?_; (refine (Bu.write (Bu.drewN HBu.out nd2) (92) (by (try simp only [List.length_append, List.length_cons, List.length_nil]); omega)).mono ?_); rintro e w2 ⟨rfl, B2, L2⟩; refine ⟨_, rfl, ?_⟩; have L3 := Aside0.mk (Below.trans (pw_below_drewN HB.out nd2) L2); have B3 := Aside0.mk B2; clear HBu HB B2 L2; have HBu := B3; have HB := L3; clear B3 L3) | ((with_reducible refine gate_callee (f := 54) rfl ?_); refine goesL_ (some 29) rfl rfl Try.func54 (by kernel_rfl) rfl #[.pointer (some ⟨w.heap.size, 0, none⟩), .int .u8 (qd (bt a0 i / 16))] rfl (by (try simp only [List.map_toArray, List.map_cons, List.map_nil]); first | done | rfl) ?_; (refine (Bu.write HBu.out (qd (bt a0 i / 16)) (by (try simp only [List.length_append, List.length_cons, List.length_nil]); omega)).mono ?_); rintro e w3 ⟨rfl, B2, L2⟩; refine ⟨_, rfl, ?_⟩; have L3 := Aside0.mk (Below.trans HB.out L2); have B3 := Aside0.mk B2; clear HBu HB B2 L2; have HBu := B3; have HB := L3; clear B3 L3) | ((with_reducible refine gate_callee (f := 54) rfl ?_); refine goesL_ (some 35) rfl rfl Try.func54 (by kernel_rfl) rfl #[.pointer (some ⟨w.heap.size, 0, none⟩), .int .u8 (qd (bt a0 i % 16))] rfl (by (try simp only [List.map_toArray, List.map_cons, List.map_nil]); first | done | rfl) ?_; (refine (Bu.write HBu.out (qd (bt a0 i % 16)) (by (try simp only [List.length_append, List.length_cons, List.length_nil]); omega)).mono ?_); rintro e w3 ⟨rfl, B2, L2⟩; refine ⟨_, rfl, ?_⟩; have L3 := Aside0.mk (Below.trans HB.out L2); have B3 := Aside0.mk B2; clear HBu HB B2 L2; have HBu := B3; have HB := L3; clear B3 L3))
        go_roundg k1
        case measure => omega
        case rel => exact ⟨i + 1, by first | rfl | (congr 1; have := HK.out; unfold wrap64; omega), ⟨by have := HK.out; omega⟩, ⟨by have := HBu.out; rw [qout_step HK.out.1, qenc, if_neg cp]; simpa [List.append_assoc] using this⟩, HB⟩
    · have hi : i = (a0.size : Int) := by have := HK.out; omega
      have c0 : decide (i < (a0.size : Int)) = false := decide_eq_false ci
      have hl0 : (qout a0 a0.size).length ≤ 130 := by have := qout_len a0 a0.size; omega
      have hb := qout_bytes a0 a0.size
      rw [show i.toNat = a0.size by omega] at HBu
      clear hi
      go_wp2_with (first | ((with_reducible refine gate_callee (f := 54) rfl ?_); refine goesL_ (some 37) rfl rfl Try.func54 (by kernel_rfl) rfl #[.pointer (some ⟨w.heap.size, 0, none⟩), .int .u8 (34)] rfl (by (try simp only [List.map_toArray, List.map_cons, List.map_nil]); first | done | rfl) ?_; (refine (Bu.write HBu.out (34) (by omega)).mono ?_); rintro e w2 ⟨rfl, B2, L2⟩; refine ⟨_, rfl, ?_⟩; have L3 := Aside0.mk (Below.trans HB.out L2); have B3 := Aside0.mk B2; clear HBu HB B2 L2; have HBu := B3; have HB := L3; clear B3 L3) | ((with_reducible refine gate_callee (f := 56) rfl ?_); refine goesL_ (some 38) rfl rfl Try.func56 (by kernel_rfl) rfl #[.pointer (some ⟨w.heap.size, 0, none⟩)] rfl (by (try simp only [List.map_toArray, List.map_cons, List.map_nil]); first | done | rfl) ?_; (refine (Bu.string HBu.out (bytes_snoc hb) (by simp)).mono ?_); rintro e w3 ⟨rfl, L2⟩; refine ⟨_, rfl, ?_⟩; have L3 := Aside0.mk (Below.trans HB.out L2); clear HBu HB L2; have HB := L3; clear L3))
      go_ret2
      exact ⟨rfl, HB.out⟩
set_option maxHeartbeats 2000000 in
set_option maxRecDepth 100000 in
theorem name_Quote.calls_long (a0 : ByteArray) (w : World) (h40 : ¬ a0.size ≤ 40) :
    Calls Try.prog 37 #[.string a0] w fun e w' => e = .returned (.tuple #[.string (⟨#[]⟩ : ByteArray), .int .i64 14]) ∧ Below w.heap.size w w' := by
  have hT : name_Text.f a0 = some false := by unfold name_Text.f; rw [decide_eq_false (by omega)]
  go_enter Try.func37, Try.ntmps37
  go_wp2_with ((with_reducible refine gate_callee (f := 39) rfl ?_); refine goesL_ (some 7) rfl rfl Try.func39 (by kernel_rfl) rfl #[.string a0] rfl (by (try simp only [List.map_toArray, List.map_cons, List.map_nil]); first | done | rfl) ?_; (with_reducible refine (name_Text.calls a0 false _ hT).mono ?_); rintro e w' ⟨rfl, ⟨nd, rfl⟩⟩; refine ⟨_, rfl, ?_⟩)
  go_ret2
  exact ⟨rfl, pw_below_drewN (Below.refl _ _) nd⟩
/-- A text quoted, or why not. -/
def name_Quote.f (a0 : ByteArray) : Option (ByteArray × Int) := some (if a0.size ≤ 40 then (strOfNums (qout a0 a0.size ++ [34]), 0) else ((⟨#[]⟩ : ByteArray), 14))
theorem name_Quote.calls (a0 : ByteArray) (r1 : ByteArray) (r2 : Int) (w : World) (h : name_Quote.f a0 = some (r1, r2)) :
    Calls Try.prog 37 #[.string a0] w fun e w' => e = .returned (.tuple #[.string r1, .int .i64 r2]) ∧ Below w.heap.size w w' := by
  unfold name_Quote.f at h
  by_cases h40 : a0.size ≤ 40
  · rw [if_pos h40] at h
    obtain ⟨rfl, rfl⟩ := Prod.mk.inj (Option.some.inj h)
    exact name_Quote.calls_fine a0 w h40
  · rw [if_neg h40] at h
    obtain ⟨rfl, rfl⟩ := Prod.mk.inj (Option.some.inj h)
    exact name_Quote.calls_long a0 w h40

end Go.Proofs.Ytmmofckknopaaaa.Q
