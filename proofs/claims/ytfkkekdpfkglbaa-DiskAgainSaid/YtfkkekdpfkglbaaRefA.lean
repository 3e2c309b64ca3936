/- The document's disk, of which only appends were asked: its files behind what waits. Conditions: as typed. -/
import Derived.Test.YtfkkekdpfkglbaaDiskL
namespace Go.Proofs.Ytfkkekdpfkglbaa.Q
open Go.RowKit Go.Proofs.YtfkkekdpfkglbaaW.PrintWords Go.Proofs.YtfkkekdpfkglbaaW.PrintLast Go.Proofs.YtfkkekdpfkglbaaW.PrintMore
set_option linter.unusedVariables false
set_option linter.unusedSimpArgs false
def ref3 (p : Nat × Int) : List Value := [.int .i64 (p.1 : Int), .int .u8 p.2, .int .i64 (-1)]
def refCells (wv : Value) (deeds : Int) : Array Value := #[.slice none 0 0, .slice none 0 0, .slice none 0 0, .slice none 0 0, wv, .int .i64 200000, .int .i64 deeds, .int .i64 (-1), .bool false]
structure RefMem (S : Nat → Prop) (w : World) (g : Nat) (L : List (Nat × Int)) (wv : Value) (deeds : Int) : Prop where
  blk : w.heap[g]? = some (.cells (refCells wv deeds) 109 (0, 0))
  wai : Buf 111 3 w wv L.length (L.flatMap ref3)
  nam : ∀ p ∈ L, p.1 < 4
  sg : S g
  sw : ∀ k, wv.ownBlock = some k → S k
structure RefAt (S : Nat → Prop) (w : World) (g : Nat) (L : List (Nat × Int)) : Prop where
  mk :: (out : ∃ wv deeds, RefMem S w g L wv deeds)
section
variable {S S' : Nat → Prop} {w w1 : World} {g : Nat} {L : List (Nat × Int)} {wv : Value} {deeds : Int}
theorem RefMem.lt (M : RefMem S w g L wv deeds) : g < w.heap.size := blk_lt M.blk
theorem RefMem.move (M : RefMem S w g L wv deeds) (hk : ∀ k, S k → k < w.heap.size → w1.heap[k]? = w.heap[k]?) : RefMem S w1 g L wv deeds :=
  ⟨(hk g M.sg M.lt).trans M.blk, M.wai.same (fun k h2 => hk k (M.sw k h2) (M.wai.lt k h2)), M.nam, M.sg, M.sw⟩
theorem RefMem.mono (M : RefMem S w g L wv deeds) (hs : ∀ k, S k → S' k) : RefMem S' w g L wv deeds := ⟨M.blk, M.wai, M.nam, hs g M.sg, fun k hk => hs k (M.sw k hk)⟩
theorem RefAt.move (h : RefAt S w g L) (hk : ∀ k, S k → k < w.heap.size → w1.heap[k]? = w.heap[k]?) : RefAt S w1 g L := by
  obtain ⟨wv, deeds, M⟩ := h.out
  exact ⟨wv, deeds, M.move hk⟩
theorem RefAt.below (h : RefAt S w g L) (hb : Below w.heap.size w w1) : RefAt S w1 g L := h.move (fun k _ hk => hb.block k hk)
theorem RefAt.mono (h : RefAt S w g L) (hs : ∀ k, S k → S' k) : RefAt S' w g L := by
  obtain ⟨wv, deeds, M⟩ := h.out
  exact ⟨wv, deeds, M.mono hs⟩
theorem RefAt.bound (h : RefAt S w g L) : RefAt (fun k => S k ∧ k < w.heap.size) w g L := by
  obtain ⟨wv, deeds, M⟩ := h.out
  exact ⟨wv, deeds, M.blk, M.wai, M.nam, ⟨M.sg, M.lt⟩, fun k hk => ⟨M.sw k hk, M.wai.lt k hk⟩⟩
end
theorem ref_len (l : List (Nat × Int)) : (l.flatMap ref3).length = l.length * 3 := by
  induction l with
  | nil => rfl
  | cons p l ih => rw [List.flatMap_cons, List.length_append, ih, List.length_cons]; show 3 + _ = _; omega
theorem ref_get (l : List (Nat × Int)) (i : Nat) (p : Nat × Int) (hp : l[i]? = some p) (j : Nat) (hj : j < 3) : (l.flatMap ref3)[i * 3 + j]? = (ref3 p)[j]? := by
  induction l generalizing i with
  | nil => simp at hp
  | cons q l ih =>
    rw [List.flatMap_cons]
    cases i with
    | zero =>
      simp at hp
      subst hp
      rw [List.getElem?_append_left (by show 0 * 3 + j < 3; omega)]
      congr 1
      omega
    | succ i =>
      rw [List.getElem?_append_right (by show 3 ≤ (i + 1) * 3 + j; omega)]
      have := ih i (by simpa using hp)
      rw [← this]
      congr 1
      show (i + 1) * 3 + j - 3 = _
      omega
/-- Four rows of bytes in an array. -/
def arr4 (V : Nat → Value) : Array Value := #[V 0, V 1, V 2, V 3]
theorem arr4_get (V : Nat → Value) (i : Nat) (hi : i < 4) : (arr4 V)[i]? = some (V i) := by
  rcases (show i = 0 ∨ i = 1 ∨ i = 2 ∨ i = 3 by omega) with rfl | rfl | rfl | rfl <;> rfl
theorem arr4_put (V : Nat → Value) (i : Nat) (hi : i < 4) (v : Value) : (arr4 V).setIfInBounds i v = arr4 (updV V i v) := by
  rcases (show i = 0 ∨ i = 1 ∨ i = 2 ∨ i = 3 by omega) with rfl | rfl | rfl | rfl <;> rfl
structure Four (B : Nat) (w : World) (V : Nat → Value) (F : Nat → List Int) : Prop where
  row : ∀ i, i < 4 → Buf 5 1 w (V i) (F i).length (nums .u8 (F i))
  fresh : ∀ i, i < 4 → ∀ k, (V i).ownBlock = some k → B ≤ k
  dis : ∀ i j, i < 4 → j < 4 → i ≠ j → ∀ k, (V i).ownBlock = some k → (V j).ownBlock ≠ some k
theorem Four.move {B : Nat} {w w1 : World} {V : Nat → Value} {F : Nat → List Int} (h : Four B w V F) (hk : ∀ i, i < 4 → ∀ k, (V i).ownBlock = some k → w1.heap[k]? = w.heap[k]?) : Four B w1 V F :=
  ⟨fun i hi => (h.row i hi).same (hk i hi), h.fresh, h.dis⟩
theorem Four.nil (B : Nat) (w : World) : Four B w (fun _ => .slice none 0 0) (fun _ => []) := ⟨fun _ _ => Buf.nil _ _ _, fun _ _ k hk => by simp [Value.ownBlock] at hk, fun _ _ _ _ _ k hk => by simp [Value.ownBlock] at hk⟩
/-- One of them is appended to. -/
theorem Four.put {B : Nat} {w w1 : World} {V : Nat → Value} {F : Nat → List Int} (h : Four B w V F) (i : Nat) (hi : i < 4) (v : Value) (x : List Int) (hB : B ≤ w.heap.size) (hg : w.grownBy w1 (V i).ownBlock) (hv : Buf 5 1 w1 v x.length (nums .u8 x)) (hat : v.ownBlock = (V i).ownBlock ∨ ∃ b, v.ownBlock = some b ∧ w.heap.size ≤ b) :
    Four B w1 (updV V i v) (upd F i x) := by
  have hd : ∀ k, v.ownBlock = some k → (V i).ownBlock = some k ∨ w.heap.size ≤ k := by
    intro k hk
    rcases hat with h | ⟨b, h1, h2⟩
    · exact .inl (by rw [← h]; exact hk)
    · rw [h1] at hk
      injection hk with hk
      exact .inr (by omega)
  have hdis : ∀ j, j < 4 → j ≠ i → ∀ k, v.ownBlock = some k → (V j).ownBlock ≠ some k := by
    intro j hj hji k hk2 hk3
    rcases hd k hk2 with h1 | h1
    · exact h.dis i j hi hj (Ne.symm hji) k h1 hk3
    · have := (h.row j hj).lt k hk3; omega
  refine ⟨fun j hj => ?_, fun j hj k hk => ?_, fun j l hj hl hjl k h1 h2 => ?_⟩
  · by_cases e : j = i
    · subst e
      rw [updV_same, upd_same]
      exact hv
    · rw [updV_ne V v e, upd_ne F x e]
      exact (h.row j hj).grown hg (fun k hk hk2 => h.dis j i hj hi e k hk hk2.symm)
  · by_cases e : j = i
    · subst e
      rw [updV_same] at hk
      rcases hd k hk with h1 | h1
      · exact h.fresh j hj k h1
      · omega
    · rw [updV_ne V v e] at hk
      exact h.fresh j hj k hk
  · by_cases e1 : j = i
    · subst e1
      rw [updV_same] at h1
      rw [updV_ne V v (Ne.symm hjl)] at h2
      exact hdis l hl (Ne.symm hjl) k h1 h2
    · rw [updV_ne V v e1] at h1
      by_cases e2 : l = i
      · subst e2
        rw [updV_same] at h2
        exact hdis j hj e1 k h2 h1
      · rw [updV_ne V v e2] at h2
        exact h.dis j l hj hl hjl k h1 h2
theorem nil_app {o : Oper} {a : Act} (s x : Operand) (ho : o.op = .call { callee := .builtin .append, args := #[s, x], argTypes := #[37, 37] }) (w : World) (hs : a.eval s = .slice none 0 0) (hx : a.eval x = .slice none 0 0) :
    (execOp a.eval o).run Try.prog w = .ok (.value (.slice none 0 0)) w := by
  obtain ⟨i5, hi5, _⟩ := info_parts info5
  have hr := run_append_none (P := Try.prog) (w := w) 37 o.type 5 i5 1 Try.underlying37 hi5 (.slice none 0 0) 0 [] (Buf.nil _ _ _)
  unfold execOp
  simp only [ho, resolve, invoke, builtin, Sem.run_bind, Sem.run_pure, Result.andThen_ok, List.map_toArray, List.map_cons, List.map_nil, hs, hx, hr]
set_option maxHeartbeats 8000000 in
set_option maxRecDepth 100000 in
theorem ref_Files.calls (S : Nat → Prop) (g : Nat) (L : List (Nat × Int)) (w : World) (h : RefAt S w g L) (hL : L.length ≤ 1099511627776) :
    Calls Try.prog 66 #[.pointer (some ⟨g, 0, none⟩), .int .i64 (L.length : Int)] w fun e w' => ∃ V, e = .returned (.agg (arr4 V)) ∧ Four w.heap.size w' V (logB L) ∧ Below w.heap.size w w' := by
  obtain ⟨wv, deeds, m⟩ := h.out
  have M := Aside0.mk m
  have HL := Aside0.mk hL
  clear h m hL
  obtain ⟨N, hN⟩ : ∃ N, N = L.length := ⟨_, rfl⟩
  have HN := Aside0.mk hN
  rw [← hN]
  clear hN
  go_enter Try.func66, Try.ntmps66
  go_upto_region 2 with fail
  obtain ⟨LR, hLR⟩ : ∃ l, l = w.heap.size := ⟨_, rfl⟩
  obtain ⟨LO, hLO⟩ : ∃ l, l = w.heap.size + 1 := ⟨_, rfl⟩
  rw [← hLO, ← hLR]
  obtain ⟨w2, hw2⟩ : ∃ W, W = (w.alloc (.cells #[.slice none 0 0, .slice none 0 0, .slice none 0 0, .slice none 0 0] 45)).alloc (.cells #[.slice none 0 0, .slice none 0 0, .slice none 0 0, .slice none 0 0] 45) := ⟨_, rfl⟩
  rw [← hw2]
  have HBa : Aside0 (Below w.heap.size w w2) := ⟨by rw [hw2]; exact below_alloc (below_alloc (Below.refl _ _) _) _⟩
  have HRb : Aside0 (w2.heap[LR]? = some (.cells (arr4 (fun _ => .slice none 0 0)) 45 (0, 0))) := ⟨by rw [hw2, hLR]; exact blk_alloc (blk_new w _) _⟩
  have HOb : Aside0 (w2.heap[LO]? = some (.cells (arr4 (fun _ => .slice none 0 0)) 45 (0, 0))) := ⟨by
    have h := blk_new (w.alloc (.cells #[.slice none 0 0, .slice none 0 0, .slice none 0 0, .slice none 0 0] 45)) (.cells (arr4 (fun _ => .slice none 0 0)) 45)
    rw [show (w.alloc (.cells #[.slice none 0 0, .slice none 0 0, .slice none 0 0, .slice none 0 0] 45)).heap.size = LO by rw [hLO]; exact Array.size_push _] at h
    rw [hw2]
    exact h⟩
  have HLL := Aside0.mk (show LR ≠ LO ∧ w.heap.size ≤ LR ∧ w.heap.size ≤ LO by omega)
  clear hw2 hLR hLO
  go_wp2_with fail
  go_loopg [6] 4 (fun kq v6 w' => ∃ i : Nat, v6 = .int .i64 (i : Int) ∧ Aside0 (i + kq = 4) ∧ Aside0 (Below w.heap.size w w') ∧ Aside0 (w'.heap[LR]? = some (.cells (arr4 (fun _ => .slice none 0 0)) 45 (0, 0))) ∧ Aside0 (w'.heap[LO]? = some (.cells (arr4 (fun _ => .slice none 0 0)) 45 (0, 0))))
  case atStart => exact ⟨0, rfl, ⟨by omega⟩, HBa, HRb, HOb⟩
  case round =>
    clear HBa HRb HOb
    obtain ⟨i, rfl, HI, HB, HR, HO⟩ := hrel
    by_cases ci : i < 4
    · have c0 : decide ((i : Int) < 4) = true := decide_eq_true (by omega)
      have c0' : decide (i < 4) = true := decide_eq_true ci
      have p0 : (0 ≤ (i : Int)) = True := eq_true (by omega)
      have q0 : ((i : Int) < 4) = True := eq_true (by omega)
      have q1 : (i < 4) = True := eq_true ci
      obtain ⟨k1, rfl⟩ : ∃ k1, gk = k1 + 1 := ⟨gk - 1, by have := HI.out; omega⟩
      have HCI := Aside0.mk ci
      have kO : wr.cell? ⟨LO, i, none⟩ = some (.slice none 0 0) := (blk_cell HO.out i).trans (arr4_get _ i ci)
      have zO : wr.frozen? ⟨LO, i, none⟩ = false := blk_frozen HO.out i
      have kB : wr.cell? ⟨g, i, none⟩ = some (.slice none 0 0) := by
        rw [blk_cell ((HB.out.block g M.out.lt).trans M.out.blk)]
        rcases (show i = 0 ∨ i = 1 ∨ i = 2 ∨ i = 3 by omega) with rfl | rfl | rfl | rfl <;> rfl
      clear ci
      go_wp2_with fail
      refine start_ (n := 13) (S := fun w' => w'.cell? ⟨LO, i, none⟩ = some (.slice none 0 0) ∧ w'.cell? ⟨g, i, none⟩ = some (.slice none 0 0)) (ds := [10, 12]) #[false, false, false, false, false, false, false, false, false, false, false, false, false] (by kernel_rfl) rfl rfl ⟨kO, kB⟩ (fun hHeld => ?_)
      refine pure_ (i := 0) (N := some 14) (v := ?_) (a' := ?_) #[true, false, false, false, false, false, false, false, false, false, false, false, false] rfl rfl (by kernel_rfl) (fun _ _ _ h => h) (Or.inl ⟨by rfl, ?_⟩) ?_ ?_
      rotate_left
      · intro w'
        go_simp
        with_reducible rfl
      rotate_left
      · simp only [Act.put, List.setIfInBounds_toArray, List.set_cons_zero, List.set_cons_succ, i64_w, i32_w]
        rfl
      refine pure_ (i := 1) (N := some 15) (v := ?_) (a' := ?_) #[true, true, false, false, false, false, false, false, false, false, false, false, false] rfl rfl (by kernel_rfl) (fun _ _ _ h => h) (Or.inl ⟨by rfl, ?_⟩) ?_ ?_
      rotate_left
      · intro w'
        go_simp
        with_reducible rfl
      rotate_left
      · simp only [Act.put, List.setIfInBounds_toArray, List.set_cons_zero, List.set_cons_succ, i64_w, i32_w]
        rfl
      refine pure_ (i := 2) (N := some 16) (v := ?_) (a' := ?_) #[true, true, true, false, false, false, false, false, false, false, false, false, false] rfl rfl (by kernel_rfl) (fun _ _ _ h => h) (Or.inl ⟨by rfl, ?_⟩) ?_ ?_
      rotate_left
      · intro w'
        go_simp
        with_reducible rfl
      rotate_left
      · simp only [Act.put, List.setIfInBounds_toArray, List.set_cons_zero, List.set_cons_succ, i64_w, i32_w]
        rfl
      refine pure_ (i := 4) (N := some 18) (v := ?_) (a' := ?_) #[true, true, true, false, true, false, false, false, false, false, false, false, false] rfl rfl (by kernel_rfl) (fun _ _ _ h => h) (Or.inl ⟨by rfl, ?_⟩) ?_ ?_
      rotate_left
      · intro w'
        go_simp
        with_reducible rfl
      rotate_left
      · simp only [Act.put, List.setIfInBounds_toArray, List.set_cons_zero, List.set_cons_succ, i64_w, i32_w]
        rfl
      refine pure_ (i := 5) (N := some 19) (v := ?_) (a' := ?_) #[true, true, true, false, true, true, false, false, false, false, false, false, false] rfl rfl (by kernel_rfl) (fun _ _ _ h => h) (Or.inl ⟨by rfl, ?_⟩) ?_ ?_
      rotate_left
      · intro w'
        go_simp
        with_reducible rfl
      rotate_left
      · simp only [Act.put, List.setIfInBounds_toArray, List.set_cons_zero, List.set_cons_succ, i64_w, i32_w]
        rfl
      refine pure_ (i := 6) (N := some 20) (v := ?_) (a' := ?_) #[true, true, true, false, true, true, true, false, false, false, false, false, false] rfl rfl (by kernel_rfl) (fun _ _ _ h => h) (Or.inl ⟨by rfl, ?_⟩) ?_ ?_
      rotate_left
      · intro w'
        go_simp
        with_reducible rfl
      rotate_left
      · simp only [Act.put, List.setIfInBounds_toArray, List.set_cons_zero, List.set_cons_succ, i64_w, i32_w]
        rfl
      refine pure_ (i := 7) (N := some 21) (v := ?_) (a' := ?_) #[true, true, true, false, true, true, true, true, false, false, false, false, false] rfl rfl (by kernel_rfl) (fun _ _ _ h => h) (Or.inl ⟨by rfl, ?_⟩) ?_ ?_
      rotate_left
      · intro w'
        go_simp
        with_reducible rfl
      rotate_left
      · simp only [Act.put, List.setIfInBounds_toArray, List.set_cons_zero, List.set_cons_succ, i64_w, i32_w]
        rfl
      refine pure_ (i := 8) (N := some 22) (v := ?_) (a' := ?_) #[true, true, true, false, true, true, true, true, true, false, false, false, false] rfl rfl (by kernel_rfl) (fun _ _ _ h => h) (Or.inl ⟨by rfl, ?_⟩) ?_ ?_
      rotate_left
      · intro w'
        go_simp
        with_reducible rfl
      rotate_left
      · simp only [Act.put, List.setIfInBounds_toArray, List.set_cons_zero, List.set_cons_succ, i64_w, i32_w]
        rfl
      refine take_ (i := 3) (N := some 17) (v := ?_) (a' := ?_) #[true, true, true, true, true, true, true, true, true, false, false, false, false] rfl rfl (by kernel_rfl) (fun _ _ _ h => h) (Or.inl ⟨by rfl, ?_⟩) hHeld ?_ ?_
      rotate_left
      · rintro w' ⟨s0, s1⟩
        go_simp
        with_reducible rfl
      rotate_left
      · simp only [Act.put, List.setIfInBounds_toArray, List.set_cons_zero, List.set_cons_succ, i64_w, i32_w]
        rfl
      refine take_ (i := 9) (N := some 23) (v := ?_) (a' := ?_) #[true, true, true, true, true, true, true, true, true, true, false, false, false] rfl rfl (by kernel_rfl) (fun _ _ _ h => h) (Or.inl ⟨by rfl, ?_⟩) hHeld ?_ ?_
      rotate_left
      · rintro w' ⟨s0, s1⟩
        go_simp
        with_reducible rfl
      rotate_left
      · simp only [Act.put, List.setIfInBounds_toArray, List.set_cons_zero, List.set_cons_succ, i64_w, i32_w]
        rfl
      refine last_ (i := 10) (N := some 24) #[true, true, true, true, true, true, true, true, true, true, true, false, false] rfl rfl (by kernel_rfl) (by decide) (fun K hK => ?_)
      refine event_step (v := .slice none 0 0) (w1 := _) (by rfl) (nil_app _ _ rfl _ rfl rfl) ?_
      refine hK.out _ _ ?_
      clear hK K
      refine norm_ (a' := ?_) ?_ ?_
      rotate_left
      · show Act.put _ (some 24) _ = _
        simp only [Act.put, List.setIfInBounds_toArray, List.set_cons_zero, List.set_cons_succ, i64_w, i32_w]
        rfl
      refine pure_ (i := 11) (N := some 25) (v := ?_) (a' := ?_) #[true, true, true, true, true, true, true, true, true, true, true, true, false] rfl rfl (by kernel_rfl) (fun _ _ _ h => h) (Or.inl ⟨by rfl, ?_⟩) ?_ ?_
      rotate_left
      · intro w'
        go_simp
        with_reducible rfl
      rotate_left
      · simp only [Act.put, List.setIfInBounds_toArray, List.set_cons_zero, List.set_cons_succ, i64_w, i32_w]
        rfl
      refine last_ (i := 12) (N := none) #[true, true, true, true, true, true, true, true, true, true, true, true, true] rfl rfl (by kernel_rfl) (by decide) (fun K hK => ?_)
      refine skip_ (w1 := ?_) (by rfl) rfl ?_ ?_
      rotate_left
      · go_simp
        rfl
      refine hK.out _ _ ?_
      clear hK K
      refine done_ (by kernel_rfl) ?_
      go_wp2_with fail
      go_roundg k1
      case measure => omega
      case rel =>
        have hs := blk_set HO.out i (.slice none 0 0)
        rw [arr4_put _ i HCI.out, show updV (fun _ => Value.slice none 0 0) i (.slice none 0 0) = fun _ => Value.slice none 0 0 from funext fun j => by unfold updV; split <;> rfl] at hs
        exact ⟨i + 1, by first | rfl | (congr 1; have := HCI.out; unfold wrap64; omega), ⟨by have := HI.out; omega⟩, ⟨pw_below_drewN (HB.out.setCell (p := ⟨LO, i, none⟩) HLL.out.2.2 _) 1⟩, ⟨(Below.heap_setCell _ ⟨LO, i, none⟩ _ LR HLL.out.1).trans HR.out⟩, ⟨hs⟩⟩
    · have c0 : decide ((i : Int) < 4) = false := decide_eq_false (by omega)
      have c0' : decide (i < 4) = false := decide_eq_false ci
      clear ci
      go_wp2_with fail
      go_loopg [7] N (fun kq v7 w' => ∃ (i : Nat) (V : Nat → Value), v7 = .int .i64 (i : Int) ∧ Aside0 (i + kq = N) ∧ Aside0 (Below w.heap.size w w') ∧ Aside0 (w'.heap[LR]? = some (.cells (arr4 (fun _ => .slice none 0 0)) 45 (0, 0))) ∧ Aside0 (w'.heap[LO]? = some (.cells (arr4 V) 45 (0, 0))) ∧ Aside0 (Four w.heap.size w' V (logB (L.take i))))
      case atStart => exact ⟨0, _, rfl, ⟨by omega⟩, HB, HR, HO, ⟨Four.nil _ _⟩⟩
      case round =>
        clear HB HR HO HI
        obtain ⟨i, V, rfl, HI, HB, HR, HO, HV⟩ := hrel
        have kwv : wr.cell? ⟨g, 4, none⟩ = some wv := blk_cell ((HB.out.block g M.out.lt).trans M.out.blk) 4
        obtain ⟨Aw, cw, hwe, _, hAw⟩ := M.out.wai.slice
        rw [← HN.out] at hwe
        rw [hwe] at kwv
        have HWE := Aside0.mk (And.intro hwe hAw)
        clear hwe hAw
        by_cases ci : i < N
        · have c0 : decide ((i : Int) < (N : Int)) = true := decide_eq_true (by omega)
          have c0' : decide (i < N) = true := decide_eq_true ci
          have p0 : (0 ≤ (i : Int)) = True := eq_true (by omega)
          have q0 : ((i : Int) < (N : Int)) = True := eq_true (by omega)
          obtain ⟨k1, rfl⟩ : ∃ k1, gk = k1 + 1 := ⟨gk - 1, by have := HI.out; omega⟩
          obtain ⟨ad, hA⟩ : ∃ ad, Aw = some ad := by
            cases Aw with
            | none => have := (HWE.out.2 rfl).1; have := HN.out; omega
            | some ad => exact ⟨ad, rfl⟩
          subst hA
          obtain ⟨⟨n, c⟩, hp⟩ : ∃ p, L[i]? = some p := ⟨L[i]'(by have := HN.out; omega), List.getElem?_eq_getElem _⟩
          have hn4 : n < 4 := M.out.nam (n, c) (List.mem_of_getElem? hp)
          have hwb : Buf 111 3 wr (.slice (some ad) N cw) N (L.flatMap ref3) := by
            have h := M.out.wai.below HB.out
            rw [HWE.out.1, ← HN.out] at h
            exact h
          have g0 := hwb.cells ad rfl (i * 3 + 0) _ (ref_get L i (n, c) hp 0 (by omega))
          have g1 := hwb.cells ad rfl (i * 3 + 1) _ (ref_get L i (n, c) hp 1 (by omega))
          have g2 := hwb.cells ad rfl (i * 3 + 2) _ (ref_get L i (n, c) hp 2 (by omega))
          rw [Nat.add_zero] at g0
          rw [add_field _ _ _ (by omega)] at g1 g2
          change _ = some (Value.int .i64 (n : Int)) at g0
          change _ = some (Value.int .u8 c) at g1
          change _ = some (Value.int .i64 (-1)) at g2
          have HN4 := Aside0.mk hn4
          have HP := Aside0.mk hp
          have HCI := Aside0.mk (show i < N from ci)
          have r0 : (0 ≤ (n : Int)) = True := eq_true (by omega)
          have r1 : ((n : Int) < 4) = True := eq_true (by omega)
          have r2 : (n < 4) = True := eq_true hn4
          clear hn4 hp hwb ci
          go_upto_region 10 with fail
          obtain ⟨Lw, hLw⟩ : ∃ l, l = wr.heap.size := ⟨_, rfl⟩
          rw [← hLw]
          obtain ⟨w1, hw1⟩ : ∃ W, W = wr.alloc (.cells #[.int .i64 (n : Int), .int .u8 c, .int .i64 (-1)] 111) := ⟨_, rfl⟩
          rw [← hw1]
          have HB1 : Aside0 (Below wr.heap.size wr w1) := ⟨by rw [hw1]; exact below_alloc (Below.refl _ _) _⟩
          have bw : w1.heap[Lw]? = some (.cells #[.int .i64 (n : Int), .int .u8 c, .int .i64 (-1)] 111 (0, 0)) := by rw [hw1, hLw]; exact blk_new wr _
          have BW := Aside0.mk bw
          have HO1 := Aside0.mk (blk_below HO.out HB1.out)
          have HV1 := Aside0.mk (HV.out.move (fun i hi k hk => HB1.out.block k ((HV.out.row i hi).lt k hk)))
          clear g0 g1 g2 kwv hw1 hLw
          have l0 : w1.cell? ⟨Lw, 0, none⟩ = some (.int .i64 (n : Int)) := blk_cell bw 0
          have l1 : w1.cell? ⟨Lw, 1, none⟩ = some (.int .u8 c) := blk_cell bw 1
          have l2 : w1.cell? ⟨Lw, 2, none⟩ = some (.int .i64 (-1)) := blk_cell bw 2
          have kO : w1.cell? ⟨LO, n, none⟩ = some (V n) := (blk_cell HO1.out n).trans (arr4_get V n HN4.out)
          clear bw
          go_wp2_with fail
          have KL : ∀ o, (w1.drew.alloc o).cell? ⟨Lw, 0, none⟩ = some (.int .i64 (n : Int)) := fun o => ((below_alloc (below_drew (Below.refl w1.heap.size w1)) o).cell (p := ⟨Lw, 0, none⟩) (blk_lt BW.out)).trans l0
          have KL1 : ∀ o, (w1.drew.alloc o).cell? ⟨Lw, 1, none⟩ = some (.int .u8 c) := fun o => ((below_alloc (below_drew (Below.refl w1.heap.size w1)) o).cell (p := ⟨Lw, 1, none⟩) (blk_lt BW.out)).trans l1
          have KO : ∀ o, (w1.drew.alloc o).cell? ⟨LO, n, none⟩ = some (V n) := fun o => ((below_alloc (below_drew (Below.refl w1.heap.size w1)) o).cell (p := ⟨LO, n, none⟩) (blk_lt HO1.out)).trans kO
          refine start_ (n := 12) (S := fun w' => w'.cell? ⟨Lw, 0, none⟩ = some (.int .i64 (n : Int)) ∧ w'.cell? ⟨LO, n, none⟩ = some (V n) ∧ w'.cell? ⟨Lw, 1, none⟩ = some (.int .u8 c)) (ds := [11]) #[false, false, false, false, false, false, false, false, false, false, false, false] (by kernel_rfl) rfl rfl ⟨l0, kO, l1⟩ (fun hHeld => ?_)
          refine pure_ (i := 0) (N := some 50) (v := ?_) (a' := ?_) #[true, false, false, false, false, false, false, false, false, false, false, false] rfl rfl (by kernel_rfl) (fun _ _ _ h => h) (Or.inl ⟨by rfl, ?_⟩) ?_ ?_
          rotate_left
          · intro w'
            go_simp
            with_reducible rfl
          rotate_left
          · simp only [Act.put, List.setIfInBounds_toArray, List.set_cons_zero, List.set_cons_succ, i64_w, i32_w]
            rfl
          refine pure_ (i := 2) (N := some 52) (v := ?_) (a' := ?_) #[true, false, true, false, false, false, false, false, false, false, false, false] rfl rfl (by kernel_rfl) (fun _ _ _ h => h) (Or.inl ⟨by rfl, ?_⟩) ?_ ?_
          rotate_left
          · intro w'
            go_simp
            with_reducible rfl
          rotate_left
          · simp only [Act.put, List.setIfInBounds_toArray, List.set_cons_zero, List.set_cons_succ, i64_w, i32_w]
            rfl
          refine pure_ (i := 6) (N := some 56) (v := ?_) (a' := ?_) #[true, false, true, false, false, false, true, false, false, false, false, false] rfl rfl (by kernel_rfl) (fun _ _ _ h => h) (Or.inl ⟨by rfl, ?_⟩) ?_ ?_
          rotate_left
          · intro w'
            go_simp
            with_reducible rfl
          rotate_left
          · simp only [Act.put, List.setIfInBounds_toArray, List.set_cons_zero, List.set_cons_succ, i64_w, i32_w]
            rfl
          refine take_ (i := 1) (N := some 51) (v := ?_) (a' := ?_) #[true, true, true, false, false, false, true, false, false, false, false, false] rfl rfl (by kernel_rfl) (fun _ _ _ h => h) (Or.inl ⟨by rfl, ?_⟩) hHeld ?_ ?_
          rotate_left
          · rintro w' ⟨s0, s1, s2⟩
            go_simp
            with_reducible rfl
          rotate_left
          · simp only [Act.put, List.setIfInBounds_toArray, List.set_cons_zero, List.set_cons_succ, i64_w, i32_w]
            rfl
          refine take_ (i := 3) (N := some 53) (v := ?_) (a' := ?_) #[true, true, true, true, false, false, true, false, false, false, false, false] rfl rfl (by kernel_rfl) (fun _ _ _ h => h) (Or.inl ⟨by rfl, ?_⟩) hHeld ?_ ?_
          rotate_left
          · rintro w' ⟨s0, s1, s2⟩
            go_simp
            with_reducible rfl
          rotate_left
          · simp only [Act.put, List.setIfInBounds_toArray, List.set_cons_zero, List.set_cons_succ, i64_w, i32_w]
            rfl
          refine pure_ (i := 4) (N := some 54) (v := ?_) (a' := ?_) #[true, true, true, true, true, false, true, false, false, false, false, false] rfl rfl (by kernel_rfl) (fun _ _ _ h => h) (Or.inl ⟨by rfl, ?_⟩) ?_ ?_
          rotate_left
          · intro w'
            go_simp
            with_reducible rfl
          rotate_left
          · simp only [Act.put, List.setIfInBounds_toArray, List.set_cons_zero, List.set_cons_succ, i64_w, i32_w]
            rfl
          refine take_ (i := 5) (N := some 55) (v := ?_) (a' := ?_) #[true, true, true, true, true, true, true, false, false, false, false, false] rfl rfl (by kernel_rfl) (fun _ _ _ h => h) (Or.inl ⟨by rfl, ?_⟩) hHeld ?_ ?_
          rotate_left
          · rintro w' ⟨s0, s1, s2⟩
            go_simp
            with_reducible rfl
          rotate_left
          · simp only [Act.put, List.setIfInBounds_toArray, List.set_cons_zero, List.set_cons_succ, i64_w, i32_w]
            rfl
          refine take_ (i := 7) (N := some 57) (v := ?_) (a' := ?_) #[true, true, true, true, true, true, true, true, false, false, false, false] rfl rfl (by kernel_rfl) (fun _ _ _ h => h) (Or.inl ⟨by rfl, ?_⟩) hHeld ?_ ?_
          rotate_left
          · rintro w' ⟨s0, s1, s2⟩
            go_simp
            with_reducible rfl
          rotate_left
          · simp only [Act.put, List.setIfInBounds_toArray, List.set_cons_zero, List.set_cons_succ, i64_w, i32_w]
            rfl
          refine one_ (i := 8) (N := some 58) #[true, true, true, true, true, true, true, true, true, false, false, false] rfl rfl (by kernel_rfl) (by decide) (fun K hK => ?_)
          refine value_ (w1 := ?_) (v := ?_) (by rfl) rfl ?_ ?_
          rotate_left 2
          · go_simp
            constructor
            · rfl
            · rfl
          refine hK.out _ _ ⟨(KL _), (KO _), (KL1 _)⟩ (fun hHeld => ?_)
          clear hK K
          refine norm_ (a' := ?_) ?_ ?_
          rotate_left
          · show Act.put _ (some 58) _ = _
            simp only [Act.put, List.setIfInBounds_toArray, List.set_cons_zero, List.set_cons_succ, i64_w, i32_w]
            rfl
          refine one_ (i := 9) (N := some 59) #[true, true, true, true, true, true, true, true, true, true, false, false] rfl rfl (by kernel_rfl) (by decide) (fun K hK => ?_)
          refine Buf.append_step 37 5 (.int .u8 0) 1 1 (by rfl) (.tmp 55) (.tmp 58) rfl Try.underlying37 info5 rfl (by decide) (by decide) (V n) _ _ (((HV1.out.row n HN4.out).drewN 1).below (below_alloc (Below.refl _ _) (.cells #[.int .u8 c] 5))) (some ⟨w1.heap.size, 0, none⟩) 1 1 [.int .u8 c] rfl (by simp) (news_one w1.drew _ 5) (by simp [Value.oneCell']) (by have h1 := logB_length (L.take i) n; rw [List.length_take] at h1; have h2 := HL.out; omega) rfl rfl ?_
          intro v3 w3 hv3 hg3 hat3
          have HV3 := Aside0.mk hv3
          have HG3 := Aside0.mk hg3
          have HA3 := Aside0.mk hat3
          have hb0 := below_alloc (below_drew (Below.refl w1.heap.size w1)) (.cells #[.int .u8 c] 5)
          have bLw : w3.heap[Lw]? = some (.cells #[.int .i64 (n : Int), .int .u8 c, .int .i64 (-1)] 111 (0, 0)) := (hg3.block Lw (Nat.lt_of_lt_of_le (blk_lt BW.out) hb0.size) (fun h => own_ne (HV1.out.row n HN4.out) BW.out (by decide) Lw h.symm rfl)).trans ((hb0.block Lw (blk_lt BW.out)).trans BW.out)
          have bLO : w3.heap[LO]? = some (.cells (arr4 V) 45 (0, 0)) := (hg3.block LO (Nat.lt_of_lt_of_le (blk_lt HO1.out) hb0.size) (fun h => own_ne (HV1.out.row n HN4.out) HO1.out (by decide) LO h.symm rfl)).trans ((hb0.block LO (blk_lt HO1.out)).trans HO1.out)
          have m0 : w3.cell? ⟨Lw, 0, none⟩ = some (.int .i64 (n : Int)) := blk_cell bLw 0
          have m1 : w3.cell? ⟨Lw, 1, none⟩ = some (.int .u8 c) := blk_cell bLw 1
          have mO : w3.cell? ⟨LO, n, none⟩ = some (V n) := (blk_cell bLO n).trans (arr4_get V n HN4.out)
          have mZ : w3.frozen? ⟨LO, n, none⟩ = false := blk_frozen bLO n
          have BLO := Aside0.mk bLO
          obtain ⟨A3, c3, hv3e, _⟩ := hv3.slice
          subst hv3e
          clear hv3 hg3 hat3 hb0 bLw bLO
          refine hK.out _ _ ⟨m0, mO, m1⟩ (fun hHeld => ?_)
          clear hK K
          refine norm_ (a' := ?_) ?_ ?_
          rotate_left
          · show Act.put _ (some 59) _ = _
            simp only [Act.put, List.setIfInBounds_toArray, List.set_cons_zero, List.set_cons_succ, i64_w, i32_w]
            rfl
          refine pure_ (i := 10) (N := some 60) (v := ?_) (a' := ?_) #[true, true, true, true, true, true, true, true, true, true, true, false] rfl rfl (by kernel_rfl) (fun _ _ _ h => h) (Or.inl ⟨by rfl, ?_⟩) ?_ ?_
          rotate_left
          · intro w'
            go_simp
            with_reducible rfl
          rotate_left
          · simp only [Act.put, List.setIfInBounds_toArray, List.set_cons_zero, List.set_cons_succ, i64_w, i32_w]
            rfl
          refine last_ (i := 11) (N := none) #[true, true, true, true, true, true, true, true, true, true, true, true] rfl rfl (by kernel_rfl) (by decide) (fun K hK => ?_)
          refine skip_ (w1 := ?_) (by rfl) rfl ?_ ?_
          rotate_left
          · go_simp
            rfl
          refine hK.out _ _ ?_
          clear hK K
          refine done_ (by kernel_rfl) ?_
          clear KL KL1 KO
          go_wp2_with fail
          go_roundg k1
          case measure => omega
          case rel =>
            have hb0 : Below w1.heap.size w1 (w1.drew.alloc (.cells #[.int .u8 c] 5)) := below_alloc (below_drew (Below.refl w1.heap.size w1)) _
            have hB1 : Below w.heap.size w w1 := below_then HB.out HB.out.size HB1.out
            have hBa : Below w.heap.size w (w1.drew.alloc (.cells #[.int .u8 c] 5)) := below_then hB1 hB1.size hb0
            have hB3 : Below w.heap.size w w3 := hBa.grown HG3.out hBa.size (fun k hk => HV.out.fresh n HN4.out k hk)
            have hR3 : w3.heap[LR]? = some (.cells (arr4 (fun _ => .slice none 0 0)) 45 (0, 0)) := (HG3.out.block LR (Nat.lt_of_lt_of_le (blk_lt HR.out) (Nat.le_trans HB1.out.size hb0.size)) (fun h => own_ne (HV.out.row n HN4.out) HR.out (by decide) LR h.symm rfl)).trans (blk_below (blk_below HR.out HB1.out) hb0)
            have hs := blk_set BLO.out n (.slice A3 ((logB (L.take i) n).length + 1) c3)
            rw [arr4_put V n HN4.out] at hs
            have hfa : Four w.heap.size (w1.drew.alloc (.cells #[.int .u8 c] 5)) V (logB (L.take i)) := HV1.out.move (fun j hj k hk => hb0.block k ((HV1.out.row j hj).lt k hk))
            have hput := hfa.put n HN4.out (.slice A3 ((logB (L.take i) n).length + 1) c3) (logB (L.take i) n ++ [c]) hBa.size HG3.out (by have h := HV3.out; rw [List.length_append, nums_append]; exact h) HA3.out
            have hlog : upd (logB (L.take i)) n (logB (L.take i) n ++ [c]) = logB (L.take (i + 1)) := by
              funext j
              rw [List.take_add_one, HP.out]
              show _ = logB (L.take i ++ [(n, c)]) j
              rw [logB_snoc]
              unfold upd
              by_cases e : j = n
              · simp [e]
              · simp [e]
            rw [hlog] at hput
            refine ⟨i + 1, updV V n (.slice A3 ((logB (L.take i) n).length + 1) c3), by first | rfl | (congr 1; have := HCI.out; have := HN.out; have := HL.out; unfold wrap64; omega), ⟨by have := HI.out; omega⟩, ⟨hB3.setCell (p := ⟨LO, n, none⟩) HLL.out.2.2 _⟩, ⟨(Below.heap_setCell _ ⟨LO, n, none⟩ _ LR HLL.out.1).trans hR3⟩, ⟨hs⟩, ⟨hput.move (fun j hj k hk => Below.heap_setCell _ ⟨LO, n, none⟩ _ k (own_ne (hput.row j hj) BLO.out (by decide) k hk))⟩⟩
        · have c0 : decide ((i : Int) < (N : Int)) = false := decide_eq_false (by omega)
          have c0' : decide (i < N) = false := decide_eq_false ci
          have hi : i = N := by have := HI.out; omega
          have HVF := Aside0.mk (show Four w.heap.size wr V (logB L) by have h := HV.out; rw [hi, HN.out, List.take_length] at h; exact h)
          obtain ⟨A0, d0, e0, _⟩ := (HVF.out.row 0 (by omega)).slice
          obtain ⟨A1, d1, e1, _⟩ := (HVF.out.row 1 (by omega)).slice
          obtain ⟨A2, d2, e2, _⟩ := (HVF.out.row 2 (by omega)).slice
          obtain ⟨A3, d3, e3, _⟩ := (HVF.out.row 3 (by omega)).slice
          have a0 : wr.cell? ⟨LO, 0, none⟩ = some (V 0) := blk_cell HO.out 0
          have a1 : wr.cell? ⟨LO, 1, none⟩ = some (V 1) := blk_cell HO.out 1
          have a2 : wr.cell? ⟨LO, 2, none⟩ = some (V 2) := blk_cell HO.out 2
          have a3 : wr.cell? ⟨LO, 3, none⟩ = some (V 3) := blk_cell HO.out 3
          rw [e0] at a0
          rw [e1] at a1
          rw [e2] at a2
          rw [e3] at a3
          have y0 : wr.cell? ⟨LR, 0, none⟩ = some (.slice none 0 0) := blk_cell HR.out 0
          have y1 : wr.cell? ⟨LR, 1, none⟩ = some (.slice none 0 0) := blk_cell HR.out 1
          have y2 : wr.cell? ⟨LR, 2, none⟩ = some (.slice none 0 0) := blk_cell HR.out 2
          have y3 : wr.cell? ⟨LR, 3, none⟩ = some (.slice none 0 0) := blk_cell HR.out 3
          have z0 := blk_frozen HR.out 0
          have z1 := blk_frozen HR.out 1
          have z2 := blk_frozen HR.out 2
          have z3 := blk_frozen HR.out 3
          have HE0 := Aside0.mk (And.intro e0 (And.intro e1 (And.intro e2 e3)))
          clear ci hi e0 e1 e2 e3
          go_wp2
          have hw := blk_set (blk_set (blk_set (blk_set HR.out 0 (V 0)) 1 (V 1)) 2 (V 2)) 3 (V 3)
          rw [HE0.out.1, HE0.out.2.1, HE0.out.2.2.1, HE0.out.2.2.2] at hw
          ((try simp only [Exit.inBlock, Exit.then]); refine bodyPost_ret (results_cell_row rfl _ _ LR 45 #[.slice A0 (logB L 0).length d0, .slice A1 (logB L 1).length d1, .slice A2 (logB L 2).length d2, .slice A3 (logB L 3).length d3] (0, 0) _ rfl hw Try.underlying45 rfl (by kernel_rfl)) rfl ?_)
          refine ⟨V, by unfold arr4; rw [HE0.out.1, HE0.out.2.1, HE0.out.2.2.1, HE0.out.2.2.2], ?_, (((HB.out.setCell (p := ⟨LR, 0, none⟩) HLL.out.2.1 _).setCell (p := ⟨LR, 1, none⟩) HLL.out.2.1 _).setCell (p := ⟨LR, 2, none⟩) HLL.out.2.1 _).setCell (p := ⟨LR, 3, none⟩) HLL.out.2.1 _⟩
          refine HVF.out.move (fun j hj k hk => ?_)
          have hne := own_ne (HVF.out.row j hj) HR.out (by decide) k hk
          exact (Below.heap_setCell _ ⟨LR, 3, none⟩ _ k hne).trans ((Below.heap_setCell _ ⟨LR, 2, none⟩ _ k hne).trans ((Below.heap_setCell _ ⟨LR, 1, none⟩ _ k hne).trans (Below.heap_setCell _ ⟨LR, 0, none⟩ _ k hne)))
end Go.Proofs.Ytfkkekdpfkglbaa.Q
