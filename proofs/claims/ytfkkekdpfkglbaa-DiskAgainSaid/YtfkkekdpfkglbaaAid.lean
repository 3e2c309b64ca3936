/- A scope with one label: from a relation that bears a number, which every jump lowers, the run comes to its end. No condition. -/
import Derived.ScopeJumps
import Derived.WalkMore
import Derived.Deep.LoopGhost
import Derived.Deep.WholeRow
import Derived.Laws.CopyOwn
import Derived.Laws.StructEq
import Derived.Test.YtfkkekdpfkglbaaWWords
import Derived.Test.YtfkkekdpfkglbaaWMore
namespace Go.Proofs.YtfkkekdpfkglbaaW.PrintWords
open Go.RowKit Go.Proofs.YtfkkekdpfkglbaaW.PrintMore
/-- The walk's simp doesn't look into it: from every place that the relation I allows the rest runs to Q; whoever jumps hands I on at a smaller number. -/
structure Scoped (P : Program) (rest : Code) (l : Nat) (Q : Exit → Act → World → Prop) (J : Act → World → Prop) : Prop where
  mk :: (out : ∀ I : Nat → Act → World → Prop, (∀ n a w, I n a w → ∀ (J' : Nat → Act → World → Prop) (K : Act → World → Prop), (∀ k a' w', I k a' w' → J' k a' w') → (∀ a' w', Handed J' n a' w' → K a' w') → rest.wp P (Exit.jump l K Q) a w) → ∀ n a w, I n a w → rest.wp P (Exit.jump l J Q) a w)

theorem wp_scope_sem {P : Program} {a : Act} {w : World} {Q : Exit → Act → World → Prop} {c rest : Code} (l : Nat) (hf : findLabel c l = some (.seq .skip rest))
    (H : ∀ J, Scoped P rest l Q J → c.wp P (Exit.jump l J Q) a w) : (Code.scope c).wp P Q a w := by
  let J : Act → World → Prop := fun a w => ∀ b k cs, ∃ e a' w', Q e a' w' ∧ Arrives P (lone (b.at a (.code (.seq .skip rest) :: .inScope c :: k)) cs w) b k cs e a' w'
  have hg : ∀ k, gotoIn l (.inScope c :: k) = some (.code (.seq .skip rest) :: .inScope c :: k) := fun k => by simp [gotoIn, hf]
  have hS : Scoped P rest l Q J := ⟨by
    intro I round
    have key : ∀ n a w, I n a w → J a w := by
      intro n
      induction n using Nat.strongRecOn with
      | _ n ih =>
        intro a w hI b k cs
        obtain ⟨e, a₁, w₁, hq, harr⟩ := wp_seq (wp_skip (Q := Exit.then (rest.wp P (Exit.jump l (fun a' w' => Handed I n a' w') Q)) (Exit.jump l (fun a' w' => Handed I n a' w') Q)) (round n a w hI I (fun a' w' => Handed I n a' w') (fun _ _ _ h => h) (fun _ _ h => h))) b (.inScope c :: k) cs
        cases e with
        | normal => exact ⟨.normal, a₁, w₁, hq, Steps.trans harr (.one step_inScope)⟩
        | exit id => exact ⟨.exit id, a₁, w₁, hq, fun k' hk => harr k' (by simp [exitTo, hk])⟩
        | goto l' =>
          obtain ⟨rfl, m, hlt, hI'⟩ := hq
          obtain ⟨e₂, a₂, w₂, hq₂, harr₂⟩ := ih m hlt a₁ w₁ hI' b k cs
          exact ⟨e₂, a₂, w₂, hq₂, .of_steps (harr _ (hg k)) harr₂⟩
        | ret => exact ⟨_, a₁, w₁, hq, harr⟩
        | panic ch => exact ⟨_, a₁, w₁, hq, harr⟩
        | outgrown => exact ⟨_, a₁, w₁, hq, harr⟩
    intro n a w hI
    refine wp_mono (round n a w hI I (fun a' w' => J a' w') (fun _ _ _ h => h) (fun a' w' ⟨m, _, h⟩ => key m a' w' h)) ?_
    intro e a' w' hq
    exact hq⟩
  have first := H J hS
  intro b k cs
  obtain ⟨e, a₁, w₁, hq, harr⟩ := first b (.inScope c :: k) cs
  cases e with
  | normal => exact ⟨.normal, a₁, w₁, hq, .head step_scope (Steps.trans harr (.one step_inScope))⟩
  | exit id => exact ⟨.exit id, a₁, w₁, hq, fun k' hk => .head step_scope (harr k' (by simp [exitTo, hk]))⟩
  | goto l' =>
    obtain ⟨rfl, hJ'⟩ := hq
    obtain ⟨e₂, a₂, w₂, hq₂, harr₂⟩ := hJ' b k cs
    exact ⟨e₂, a₂, w₂, hq₂, .of_steps (.head step_scope (harr _ (hg k))) harr₂⟩
  | ret => exact ⟨_, a₁, w₁, hq, .of_steps (.one step_scope) harr⟩
  | panic ch => exact ⟨_, a₁, w₁, hq, .of_steps (.one step_scope) harr⟩
  | outgrown => exact ⟨_, a₁, w₁, hq, .of_steps (.one step_scope) harr⟩

theorem own_string_q {P : Program} {w : World} {base n : Nat} {e' src dst e : TypeId} {v : Value} {xs : List Int} (q : Nat) (hs : P.underlying src = some (.slice e)) (he : P.underlying e = some (.int .u8)) (hd : P.underlying dst = some .string)
    (h : w.ownsRow base e' 1 v n (nums .u8 xs)) : (convert src dst v).run P (w.drewN q) = .ok (.string (strOfNums xs)) (w.drewN q) :=
  own_string hs he hd (show (w.drewN q).ownsRow base e' 1 v n (nums .u8 xs) from h)
theorem C_string_q {P : Program} {w : World} {src dst e : TypeId} {A : Option Addr} {n c : Nat} {xs : List Int} (q : Nat) (hs : P.underlying src = some (.slice e)) (he : P.underlying e = some (.int .u8)) (hd : P.underlying dst = some .string)
    (h : Kd.C (Kd.int .u8) w A n xs) : (convert src dst (.slice A n c)).run P (w.drewN q) = .ok (.string (strOfNums xs)) (w.drewN q) :=
  Kd.C_string hs he hd (Kd.C_below h (pw_below_drewN (Below.refl _ _) q))
theorem C_string_q_mid {P : Program} {w : World} {src dst e : TypeId} {A : Option Addr} {c : Nat} {l : List Int} {a b : Int} (q : Nat) (hs : P.underlying src = some (.slice e)) (he : P.underlying e = some (.int .u8)) (hd : P.underlying dst = some .string)
    (hb : b ≤ (l.length : Int)) (h : Kd.C (Kd.int .u8) w A ((l.take b.toNat).drop a.toNat).length ((l.take b.toNat).drop a.toNat)) :
    (convert src dst (.slice A (b.toNat - a.toNat) c)).run P (w.drewN q) = .ok (.string (strOfNums ((l.take b.toNat).drop a.toNat))) (w.drewN q) := by
  have hl : ((l.take b.toNat).drop a.toNat).length = b.toNat - a.toNat := by
    rw [List.length_drop, List.length_take]; omega
  have h1 := C_string_q (c := c) q hs he hd h
  rw [hl] at h1
  exact h1
theorem C_string_mid {P : Program} {w : World} {src dst e : TypeId} {A : Option Addr} {c : Nat} {l : List Int} {a b : Int} (hs : P.underlying src = some (.slice e)) (he : P.underlying e = some (.int .u8)) (hd : P.underlying dst = some .string)
    (hb : b ≤ (l.length : Int)) (h : Kd.C (Kd.int .u8) w A ((l.take b.toNat).drop a.toNat).length ((l.take b.toNat).drop a.toNat)) :
    (convert src dst (.slice A (b.toNat - a.toNat) c)).run P w = .ok (.string (strOfNums ((l.take b.toNat).drop a.toNat))) w := by
  have hl : ((l.take b.toNat).drop a.toNat).length = b.toNat - a.toNat := by
    rw [List.length_drop, List.length_take]; omega
  have h1 := Kd.C_string (c := c) hs he hd h
  rw [hl] at h1
  exact h1
/-- An array of 256 numbers of 32 bits, by value. -/
structure Tab where
  l : List Int
  len : l.length = 256
  ok : ∀ x ∈ l, 0 ≤ x ∧ x < 4294967296
deriving DecidableEq
def tabC (t : Tab) : Array Value := (t.l.map (Value.int .u32)).toArray
theorem tabC_size (t : Tab) : (tabC t).size = 256 := by simp [tabC, t.len]
theorem tabC_get (t : Tab) (i : Nat) (h : i < 256) : (tabC t)[i]? = some (.int .u32 (t.l.getD i 0)) := by
  unfold tabC
  have : i < t.l.length := by rw [t.len]; exact h
  simp [List.getElem?_eq_getElem this, List.getD_eq_getElem?_getD]
theorem tab_ext {t u : Tab} (h : t.l = u.l) : t = u := by cases t; cases u; simp only at h; subst h; rfl
theorem tabC_inj {t u : Tab} (h : tabC t = tabC u) : t = u := by
  apply tab_ext
  have h1 := congrArg Array.toList h
  simp only [tabC] at h1
  exact (List.map_inj_right (fun a b e => by injection e)).1 h1
theorem tab_loadVar {P : Program} {w : World} {g ty e T : TypeId} {t : Tab} {fr : Nat × Nat} (hu : P.underlying ty = some (.array 256 e)) (hi : (P.info? ty).map (·.size) = some 256)
    (h : w.heap[g]? = some (.cells (tabC t) T fr)) : (loadVar ty ⟨g, 0, none⟩).run P w = .ok (.agg (tabC t)) w :=
  run_loadVar_row w g T ty (tabC t) fr _ h hu rfl (by rw [tabC_size]; exact hi)
theorem tab_loadAt {P : Program} {w : World} {g ty e T : TypeId} {t : Tab} {fr : Nat × Nat} (hu : P.underlying ty = some (.array 256 e)) (hi : (P.info? ty).map (·.size) = some 256)
    (h : w.heap[g]? = some (.cells (tabC t) T fr)) : (Instr.loadAt ty (.pointer (some ⟨g, 0, none⟩))).run P w = .ok (.agg (tabC t)) w := by
  simp only [Instr.loadAt, Instr.sureAddr, Sem.run_bind, Sem.run_pure, Result.andThen_ok, tab_loadVar hu hi h]
theorem tabC_one (t : Tab) : (tabC t).all (·.oneCell') = true :=
  Array.all_eq_true_iff_forall_mem.2 (fun v hv => by
    simp only [tabC, List.mem_toArray, List.mem_map] at hv
    obtain ⟨x, _, rfl⟩ := hv
    rfl)
/-- A variable is laid out, and a whole table put into it. -/
theorem tab_alloc_event {P : Program} {ops : Array Oper} {rest : List Oper} {o o2 : Oper} {a : Act} {Q : Exit → Act → World → Prop} {W : World} {t : TypeId} {N : Tmp} {y : Operand} {x : Tab}
    (ho : o.op = .alloc t) (hod : o.dst = some N) (hog : o.guard = none) (ho2 : o2.op = .store t (.tmp N) y) (ho2d : o2.dst = none) (ho2g : o2.guard = none)
    (hx : (a.put (some N) (.pointer (some ⟨W.heap.size, 0, none⟩))).eval y = .agg (tabC x)) (hp : (a.put (some N) (.pointer (some ⟨W.heap.size, 0, none⟩))).eval (.tmp N) = .pointer (some ⟨W.heap.size, 0, none⟩))
    (hz : (P.info? t).map (fun i => (i.zero.map (·.cells.size), i.size)) = some (some 256, 256))
    (h : ∀ g, g = W.heap.size → ∀ w1, w1.heap[g]? = some (.cells (tabC x) t (0, 0)) → Below W.heap.size W w1 → wpList P ops Q rest (a.put (some N) (.pointer (some ⟨g, 0, none⟩))) w1) : wpList P ops Q (o :: o2 :: rest) a W := by
  obtain ⟨i0, z, hi, hz1, hz2, hz3⟩ : ∃ i0 z, P.info? t = some i0 ∧ i0.zero = some z ∧ i0.size = 256 ∧ z.cells.size = 256 := by
    cases hq : P.info? t with
    | none => simp [hq] at hz
    | some i0 =>
      cases hr : i0.zero with
      | none => simp [hq, hr] at hz
      | some z => simp [hq, hr] at hz; exact ⟨i0, z, rfl, hr, hz.2, hz.1⟩
  have hsz : (P.info? t).map (·.size) = some 256 := by rw [hi]; simp [hz2]
  refine Kd.event_run hog (v := .pointer (some ⟨W.heap.size, 0, none⟩)) (w1 := W.alloc (.cells z.cells t)) ?_ ?_
  · have : (zeroValue t).run P W = .ok z W := by simp [zeroValue, typeInfo, hi, hz1]
    unfold execOp
    simp [ho, Instr.alloc, newVar, newRow, newObj, this]
    rfl
  · have hs := run_storeAt_new (P := P) W t z.cells (tabC x) (by rw [tabC_size]; exact hsz) (by rw [tabC_size, hz3]) (tabC_one x)
    rw [hod]
    refine wpList_plain ho2g fun K hK => ?_
    unfold Oper.wp execOp
    simp only [ho2, hx, hp, hs, Sem.run_bind, Result.andThen_ok, Sem.run_pure]
    have hk := hK ((a.put (some N) (.pointer (some ⟨W.heap.size, 0, none⟩))).put o2.dst undef) (W.alloc (.cells (tabC x) t))
    rw [ho2d] at hk
    show K ((a.put (some N) (.pointer (some ⟨W.heap.size, 0, none⟩))).put o2.dst undef) (W.alloc (.cells (tabC x) t))
    rw [ho2d]
    exact hk (h _ rfl _ (blk_new W _) (below_alloc (Below.refl _ _) _))
theorem tab_cell {w : World} {g T : TypeId} {t : Tab} {fr : Nat × Nat} (h : w.heap[g]? = some (.cells (tabC t) T fr)) (i : Int) (h0 : 0 ≤ i) (h1 : i < 256) : w.cell? ⟨g, i.toNat, none⟩ = some (.int .u32 (rd t.l i)) := by
  rw [cell_of_row w g _ _ T fr h, tabC_get t _ (by omega)]
  rfl
theorem tab_exec {P : Program} {a : Act} {o : Oper} {t : TypeId} {x : Operand} {v v' : Value} {w : World} (ho : o.op = .load t x) (hx : a.eval x = v) (h : (Instr.loadAt t v).run P w = .ok v' w) : (execOp a.eval o).run P w = .ok (.value v') w := by
  unfold execOp
  simp [ho, hx, h]
theorem C_len {α : Type} {d : Kd α} {w : World} {A : Option Addr} {n : Nat} {xs : List α} (h : d.C w A xs.length xs) (e : xs.length = n) : d.C w A n xs := e ▸ h
/-- A variable of 256 cells is laid out. -/
theorem tab_zero_event {P : Program} {ops : Array Oper} {rest : List Oper} {o : Oper} {a : Act} {Q : Exit → Act → World → Prop} {W : World} {t : TypeId} {N : Tmp}
    (ho : o.op = .alloc t) (hod : o.dst = some N) (hog : o.guard = none) (hz : (P.info? t).map (fun i => (i.zero.map (·.cells.size), i.size)) = some (some 256, 256))
    (h : ∀ g, g = W.heap.size → ∀ w1, (∃ z : Array Value, w1.heap[g]? = some (.cells z t (0, 0)) ∧ z.size = 256) → Below W.heap.size W w1 → wpList P ops Q rest (a.put (some N) (.pointer (some ⟨g, 0, none⟩))) w1) : wpList P ops Q (o :: rest) a W := by
  obtain ⟨i0, z, hi, hz1, hz2, hz3⟩ : ∃ i0 z, P.info? t = some i0 ∧ i0.zero = some z ∧ i0.size = 256 ∧ z.cells.size = 256 := by
    cases hq : P.info? t with
    | none => simp [hq] at hz
    | some i0 =>
      cases hr : i0.zero with
      | none => simp [hq, hr] at hz
      | some z => simp [hq, hr] at hz; exact ⟨i0, z, rfl, hr, hz.2, hz.1⟩
  refine Kd.event_run hog (v := .pointer (some ⟨W.heap.size, 0, none⟩)) (w1 := W.alloc (.cells z.cells t)) ?_ ?_
  · have : (zeroValue t).run P W = .ok z W := by simp [zeroValue, typeInfo, hi, hz1]
    unfold execOp
    simp [ho, Instr.alloc, newVar, newRow, newObj, this]
    rfl
  · rw [hod]
    exact h _ rfl _ ⟨z.cells, blk_new W _, hz3⟩ (below_alloc (Below.refl _ _) _)
/-- A whole table is put into a variable. -/
theorem tab_store_event {P : Program} {ops : Array Oper} {rest : List Oper} {o : Oper} {a : Act} {Q : Exit → Act → World → Prop} {W : World} {t : TypeId} {x y : Operand} {g : Nat} {T : Tab} {c : Array Value}
    (ho : o.op = .store t x y) (hod : o.dst = none) (hog : o.guard = none) (hx : a.eval x = .pointer (some ⟨g, 0, none⟩)) (hy : a.eval y = .agg (tabC T))
    (hb : W.heap[g]? = some (.cells c t (0, 0))) (hc : c.size = 256) (hi : (P.info? t).map (·.size) = some 256)
    (h : ∀ w1, w1.heap[g]? = some (.cells (tabC T) t (0, 0)) → (∀ B, B ≤ g → Below B W w1) → wpList P ops Q rest a w1) : wpList P ops Q (o :: rest) a W := by
  refine wpList_plain hog fun K hK => ?_
  have hs := run_storeVar_row (P := P) W g t t c (tabC T) hb (by rw [tabC_size]; exact hi) (by rw [tabC_size, hc]) (tabC_one T)
  unfold Oper.wp execOp
  simp only [ho, hx, hy, Instr.storeAt, Instr.sureAddr, hs, Sem.run_bind, Result.andThen_ok, Sem.run_pure]
  show K (a.put o.dst undef) (W.setRow g (tabC T))
  rw [hod]
  exact hK _ _ (h _ (setRow_heap W g c _ t (0, 0) hb) (fun B hB => below_setRow (Below.refl _ _) hB _))
theorem all_range_int : ∀ (xs ys : List Int), xs.length = ys.length → ((List.range xs.length).all fun i => xs.getD i 0 == ys.getD i 0) = (xs == ys)
  | [], [], _ => rfl
  | x :: xs, y :: ys, h => by
    have ih := all_range_int xs ys (by simpa using h)
    rw [List.length_cons, List.range_succ_eq_map, List.all_cons, List.all_map]
    simp only [List.getD_cons_zero, Function.comp_def, List.getD_cons_succ, ih]
    simp [List.cons_beq_cons]
  | [], _ :: _, h => by simp at h
  | _ :: _, [], h => by simp at h
theorem equalIn_ints {P : Program} (w : World) (d : Nat) (t e : TypeId) (n : Nat) (ht : P.underlying t = some (.array n e)) (he : P.underlying e = some (.int .u32)) (hsz : ∀ w, (sizeOf e).run P w = .ok 1 w)
    (xs ys : List Int) (hx : xs.length = n) (hy : ys.length = n) :
    (Op.equalIn (d + 2) t (.agg (xs.map (Value.int .u32)).toArray) (.agg (ys.map (Value.int .u32)).toArray)).run P w = .ok (xs == ys) w := by
  rw [← all_range_int xs ys (hx.trans hy.symm), hx, List.range_eq_range', Op.equalIn]
  simp only [Sem.run_bind, run_underlying ht, Result.andThen_ok, hsz, Std.Legacy.Range.forIn_eq_forIn_range', Std.Legacy.Range.size, Nat.sub_zero, Nat.add_sub_cancel, Nat.div_one]
  have hl : ∀ i ∈ List.range' 0 n 1, i < n := fun i hi => by simpa using (List.mem_range'_1.1 hi).2
  generalize List.range' 0 n 1 = l at hl ⊢
  induction l with
  | nil => simp
  | cons i l ih =>
    have hi : i < n := hl i (by simp)
    have px : (part e (xs.map (Value.int .u32)).toArray (i * 1)).run P w = .ok (.int .u32 (xs.getD i 0)) w := by
      simp [part, isAgg, run_underlying he, List.getD, List.getElem?_eq_getElem (show i < xs.length by omega)]
    have py : (part e (ys.map (Value.int .u32)).toArray (i * 1)).run P w = .ok (.int .u32 (ys.getD i 0)) w := by
      simp [part, isAgg, run_underlying he, List.getD, List.getElem?_eq_getElem (show i < ys.length by omega)]
    have pe : (Op.equalIn (d + 1) e (.int .u32 (xs.getD i 0)) (.int .u32 (ys.getD i 0))).run P w = .ok (xs.getD i 0 == ys.getD i 0) w := by
      rw [run_equalIn_int w d e .u32 .u32 _ _ he]
    simp only [List.forIn_cons, Sem.run_bind, px, py, pe, Result.andThen_ok, List.all_cons]
    cases hb : (xs.getD i 0 == ys.getD i 0)
    · simp
    · simp only [Bool.not_true, Bool.false_eq_true, if_false, Sem.run_pure, Result.andThen_ok, Bool.true_and]
      exact ih fun j hj => hl j (by simp [hj])
/-- A table is told from another. -/
theorem tab_equal {P : Program} (w : World) {t e : TypeId} {x y : Tab} (hu : P.underlying t = some (.array 256 e)) (he : P.underlying e = some (.int .u32)) (hi : (P.info? e).map (·.size) = some 1) : (Op.equalIn 10000 t (.agg (tabC x)) (.agg (tabC y))).run P w = .ok (x == y) w := by
  have hsz : ∀ w, (sizeOf e).run P w = .ok 1 w := fun w => by
    obtain ⟨i, hi, h1⟩ := Option.map_eq_some_iff.1 hi
    simp [sizeOf, typeInfo, hi, h1]
  unfold tabC
  rw [equalIn_ints w 9998 t e 256 hu he hsz x.l y.l x.len y.len]
  have : (x.l == y.l) = (x == y) := by
    rw [Bool.eq_iff_iff, beq_iff_eq, beq_iff_eq]
    exact ⟨tab_ext, fun h => by rw [h]⟩
  rw [this]
theorem cell_freeze (w : World) (p : Addr) (n : Nat) (q : Addr) : (w.freeze p n).cell? q = w.cell? q := by
  unfold World.freeze
  split
  · rfl
  · simp only [World.cell?, Array.getElem?_modify]
    by_cases h : p.block = q.block
    · simp only [h, if_true]
      cases hq : w.heap[q.block]? with
      | none => simp
      | some o => cases o <;> simp
    · simp [h]
def numOf : Value → Int
  | .int _ n => n
  | _ => 0
/-- A table argument, opened. -/
theorem open_tab {P : Program} {w : World} {r : Reach} {b0 : Nat} {t e : TypeId} {v : Value} (ht : P.underlying t = some (.array 256 e)) (he : P.underlying e = some (.int .u32)) (hc : P.cellsOf t = 256)
    (hts : (P.cellTypes P.depth t).map (·.all (· == e)) = some true) (hval : Value.okWide P w r b0 t v) : ∃ a : Tab, v = .agg (tabC a) := by
  simp only [Value.okWide, ht] at hval
  obtain ⟨cs, rfl, hs, ts, hcts, _, hcell⟩ := hval
  have hall : ts.all (· == e) = true := by simpa [hcts] using hts
  have hv : ∀ (i : Nat) (x : Value), cs[i]? = some x → ∃ n, x = Value.int .u32 n ∧ 0 ≤ n ∧ n < 4294967296 := by
    intro i x hx
    obtain ⟨u, hu, hok⟩ := hcell i x hx
    have hue : u = e := by
      have := (List.all_eq_true.1 hall) u (List.mem_of_getElem? hu)
      simpa using this
    subst hue
    unfold Cell.okWide at hok
    simp only [he] at hok
    cases x <;> simp [Cell.ok, he] at hok
    obtain ⟨rfl, hk⟩ := hok
    refine ⟨_, rfl, ?_⟩
    have hk2 : IntKind.min .u32 ≤ _ ∧ _ ≤ IntKind.max .u32 := hk
    have e0 : IntKind.min .u32 = 0 := by decide
    have e1 : IntKind.max .u32 = 4294967295 := by decide
    rw [e0, e1] at hk2
    omega
  refine ⟨⟨cs.toList.map numOf, by simp [hs, hc], ?_⟩, ?_⟩
  · intro x hx
    obtain ⟨y, hy, rfl⟩ := List.mem_map.1 hx
    obtain ⟨i, hi⟩ := List.getElem?_of_mem hy
    obtain ⟨n, rfl, h0, h1⟩ := hv i y (by simpa using hi)
    exact ⟨h0, h1⟩
  · congr 1
    apply Array.ext_getElem?
    intro i
    simp only [tabC, List.getElem?_toArray, List.map_map, List.getElem?_map, Array.getElem?_toList]
    cases hx : cs[i]? with
    | none => simp
    | some x =>
      obtain ⟨n, rfl, _⟩ := hv i x hx
      simp [numOf]
theorem V_string {P : Program} {w : World} {base : Nat} {ok : Nat → Prop} {e' src dst e : TypeId} {v : Value} {xs : List Int} (hs : P.underlying src = some (.slice e)) (he : P.underlying e = some (.int .u8)) (hd : P.underlying dst = some .string)
    (h : Kd.V (Kd.int .u8) e' w base ok v xs) : (convert src dst v).run P w = .ok (.string (strOfNums xs)) w := by
  obtain ⟨A, c, rfl⟩ := Kd.V_slice h
  exact Kd.C_string hs he hd (Kd.V_reads' h).2.2
theorem V_string_q {P : Program} {w : World} {base : Nat} {ok : Nat → Prop} {e' src dst e : TypeId} {v : Value} {xs : List Int} (q : Nat) (hs : P.underlying src = some (.slice e)) (he : P.underlying e = some (.int .u8)) (hd : P.underlying dst = some .string)
    (h : Kd.V (Kd.int .u8) e' w base ok v xs) : (convert src dst v).run P (w.drewN q) = .ok (.string (strOfNums xs)) (w.drewN q) :=
  V_string hs he hd (Kd.V_drewN h q)
end Go.Proofs.YtfkkekdpfkglbaaW.PrintWords
