/- A row that is a function's own, whose room may end ahead of its block's end: how it is read, cut, and appended to. Conditions: as typed. -/
import Derived.Test.YtfkkekdpfkglbaaRow
import Derived.ArgAppend
namespace Go.Proofs.Ytfkkekdpfkglbaa.Q
open Go.RowKit Go.Proofs.YtfkkekdpfkglbaaW.PrintWords Go.Proofs.YtfkkekdpfkglbaaW.PrintLast Go.Proofs.YtfkkekdpfkglbaaW.PrintMore
set_option linter.unusedVariables false
set_option linter.unusedSimpArgs false
/-- v is a slice of n elements whose cells are xs; it begins its block. -/
def Buf (e size : Nat) (w : World) (v : Value) (n : Nat) (xs : List Value) : Prop :=
  xs.length = n * size ∧ ((v = .slice none 0 0 ∧ n = 0) ∨ ∃ b cap cur, v = .slice (some ⟨b, 0, none⟩) n cap ∧ w.heap[b]? = some (.cells cur e (0, 0)) ∧ n ≤ cap ∧ cap ≤ maxLen ∧ cap * size ≤ cur.size ∧ cur.toList.take (n * size) = xs)
section
variable {e size n : Nat} {w w1 : World} {v : Value} {xs : List Value}
theorem Buf.of_own {base : Nat} (h : w.ownsRow base e size v n xs) : Buf e size w v n xs := by
  refine ⟨h.1, ?_⟩
  rcases h.2 with h2 | ⟨g, cap, cur, rfl, hg, hh, h3, h4, h5, h6⟩
  · exact .inl h2
  · exact .inr ⟨g, cap, cur, rfl, hh, h3, h4, by rw [h5]; exact Nat.le_refl _, h6⟩
theorem Buf.nil (e size : Nat) (w : World) : Buf e size w (.slice none 0 0) 0 [] := ⟨by simp, .inl ⟨rfl, rfl⟩⟩
theorem Buf.same (h : Buf e size w v n xs) (hm : ∀ k, v.ownBlock = some k → w1.heap[k]? = w.heap[k]?) : Buf e size w1 v n xs := by
  refine ⟨h.1, ?_⟩
  rcases h.2 with h2 | ⟨b, cap, cur, rfl, hh, r⟩
  · exact .inl h2
  · exact .inr ⟨b, cap, cur, rfl, (hm b (by simp [Value.ownBlock])).trans hh, r⟩
theorem Buf.lt (h : Buf e size w v n xs) (k : Nat) (hk : v.ownBlock = some k) : k < w.heap.size := by
  rcases h.2 with ⟨rfl, _⟩ | ⟨b, cap, cur, rfl, hh, r⟩
  · simp [Value.ownBlock] at hk
  · simp [Value.ownBlock] at hk
    subst hk
    exact blk_lt hh
theorem Buf.typed (h : Buf e size w v n xs) (k : Nat) (hk : v.ownBlock = some k) : ∃ cells, w.heap[k]? = some (.cells cells e (0, 0)) := by
  rcases h.2 with ⟨rfl, _⟩ | ⟨b, cap, cur, rfl, hh, r⟩
  · simp [Value.ownBlock] at hk
  · simp [Value.ownBlock] at hk
    subst hk
    exact ⟨cur, hh⟩
theorem Buf.drewN (h : Buf e size w v n xs) (m : Nat) : Buf e size (w.drewN m) v n xs := h
theorem Buf.slice (h : Buf e size w v n xs) : ∃ A c, v = .slice A n c ∧ n ≤ c ∧ (A = none → n = 0 ∧ c = 0) := by
  rcases h.2 with ⟨rfl, rfl⟩ | ⟨b, cap, cur, rfl, _, h3, _⟩
  · exact ⟨none, 0, rfl, Nat.le_refl _, fun _ => ⟨rfl, rfl⟩⟩
  · exact ⟨_, _, rfl, h3, fun h => by cases h⟩
theorem Buf.one (h : Buf e size w v n xs) : v.oneCell' = true := by
  rcases h.2 with ⟨rfl, _⟩ | ⟨b, cap, cur, rfl, _⟩ <;> rfl
theorem Buf.small (h : Buf e size w v n xs) : n ≤ maxLen := by
  rcases h.2 with ⟨_, rfl⟩ | ⟨b, cap, cur, rfl, _, h3, h4, _⟩
  · simp [maxLen]
  · exact Nat.le_trans h3 h4
theorem Buf.far (h : Buf e size w v n xs) {p : Addr} (hp : v.ownBlock ≠ some p.block) (u : Value) : Buf e size (w.setCell p u) v n xs :=
  h.same (fun k hk => Below.heap_setCell w p u k (fun e => hp (by rw [hk, e])))
theorem Buf.grown {row : Option Nat} (h : Buf e size w v n xs) (hg : w.grownBy w1 row) (hr : ∀ k, v.ownBlock = some k → some k ≠ row) : Buf e size w1 v n xs :=
  h.same (fun k hk => hg.block k (h.lt k hk) (hr k hk))
/-- The cells, where v is not nil. -/
theorem Buf.cells {A : Option Addr} {c : Nat} (h : Buf e size w (.slice A n c) n xs) : ∀ ad, A = some ad → ∀ j u, xs[j]? = some u → w.cell? (ad.add j) = some u := by
  rintro ad rfl j u hj
  rcases h.2 with ⟨h1, _⟩ | ⟨b, cap, cur, h1, hh, h3, h4, h5, h6⟩
  · cases h1
  · injection h1 with h1 _ _
    injection h1 with h1
    subst h1
    rw [add_at, Nat.zero_add, blk_cell hh, ← Array.getElem?_toList]
    rw [← h6, List.getElem?_take] at hj
    split at hj
    · exact hj
    · cases hj
/-- A beginning, with its room or without. -/
theorem Buf.take {A : Option Addr} {c : Nat} (h : Buf e size w (.slice A n c) n xs) (k c' : Nat) (hk : k ≤ n) (h1 : k ≤ c') (h2 : c' ≤ c) : Buf e size w (.slice A k c') k (xs.take (k * size)) := by
  have hks : k * size ≤ n * size := Nat.mul_le_mul_right _ hk
  refine ⟨by rw [List.length_take, h.1, Nat.min_eq_left hks], ?_⟩
  rcases h.2 with ⟨e1, e2⟩ | ⟨b, cap, cur, e1, hh, h3, h4, h5, h6⟩
  · injection e1 with e1 e3 e4
    subst e1
    have : k = 0 := by omega
    have : c' = 0 := by omega
    subst k; subst c'
    exact .inl ⟨rfl, rfl⟩
  · injection e1 with e1 _ e4
    subst e1; subst e4
    refine .inr ⟨b, c', cur, rfl, hh, h1, Nat.le_trans h2 h4, Nat.le_trans (Nat.mul_le_mul_right _ h2) h5, ?_⟩
    rw [← h6, List.take_take, Nat.min_eq_left hks]
end
section
variable {P : Program} {w : World}
theorem run_append_none (t ty e : TypeId) (i : TypeInfo) (size : Nat) (ht : P.underlying t = some (.slice e)) (hi : P.info? e = some i) (v : Value) (n : Nat) (xs : List Value) (h : Buf e size w v n xs) :
    (Builtin.append_ #[t, t] ty #[v, .slice none 0 0]).run P w = .ok v w := by
  obtain ⟨A, c, rfl, hc, ha⟩ := h.slice
  cases A with
  | none =>
    obtain ⟨rfl, rfl⟩ := ha rfl
    simp [Builtin.append_, run_underlying ht, sizeOf, typeInfo, hi, Builtin.lenOf, Builtin.firstCells]
  | some ad => simp [Builtin.append_, run_underlying ht, sizeOf, typeInfo, hi, Builtin.lenOf, Builtin.firstCells, hc, storeCells]
theorem Buf.append (t ty e : TypeId) (z : Value) (size bytes : Nat) (ht : P.underlying t = some (.slice e)) (hinfo : (P.info? e).map (fun i => (i.zero, i.size, i.bytes)) = some (some z, size, bytes)) (hz : z.cells.size = size) (hs : 0 < size) (hb : 0 < bytes)
    (v : Value) (n : Nat) (xs : List Value) (h : Buf e size w v n xs) (A : Option Addr) (m c : Nat) (news : List Value) (hl : news.length = m * size) (hA : A = none → m = 0 ∧ c = 0) (hnews : ∀ ad, A = some ad → ∀ j u, news[j]? = some u → w.cell? (ad.add j) = some u) (h1 : ∀ u ∈ news, u.oneCell' = true)
    (hbytes : (n + m) * bytes ≤ 140737488355328) :
    ∃ v' w', (Builtin.append_ #[t, t] ty #[v, .slice A m c]).run P w = .ok v' w' ∧ Buf e size w' v' (n + m) (xs ++ news) ∧ w.grownBy w' v.ownBlock ∧ (v'.ownBlock = v.ownBlock ∨ ∃ b, v'.ownBlock = some b ∧ w.heap.size ≤ b) := by
  obtain ⟨i, hi, hz0, hz1, hz2⟩ := info_parts hinfo
  have hnm : n + m ≤ 140737488355328 := Nat.le_trans (Nat.le_mul_of_pos_right _ hb) hbytes
  have hmax : n + m ≤ maxLen := by simp only [maxLen]; omega
  cases A with
  | none =>
    obtain ⟨rfl, rfl⟩ := hA rfl
    have hn0 : news = [] := List.eq_nil_of_length_eq_zero (by omega)
    subst hn0
    exact ⟨v, w, run_append_none t ty e i size ht hi v n xs h, by rw [List.append_nil]; exact h, ⟨rfl, rfl, rfl, Nat.le_refl _, fun _ _ _ => rfl⟩, .inl rfl⟩
  | some ad =>
    rcases h.2 with ⟨rfl, rfl⟩ | ⟨b, cap, cur, rfl, hh, h3, h4, h5, h6⟩
    · have hx0 : xs = [] := List.eq_nil_of_length_eq_zero (by rw [h.1]; omega)
      subst hx0
      obtain ⟨v', w', hr, hown, hg, _, hat⟩ := run_append_own_at (P := P) w w.heap.size t ty e i z size bytes ht hi hz0 hz1 hz2 hz hs (.slice none 0 0) 0 [] (World.ownsRow_nil _ _ _ _) ad m c news hl (hnews ad rfl) h1 hmax hbytes (Nat.le_refl _)
      refine ⟨v', w', hr, Buf.of_own hown, hg, ?_⟩
      rcases hat with hat | hat
      · exact .inl hat
      · exact .inr ⟨_, hat, Nat.le_refl _⟩
    · have hsz : i.size = size := hz1
      by_cases hr : n + m ≤ cap
      · have hfit : n * size + news.length ≤ cur.size := by
          rw [hl, ← Nat.add_mul]
          exact Nat.le_trans (Nat.mul_le_mul_right _ hr) h5
        have hrun := run_append_room_cells (P := P) w t ty e i ht hi b 0 n cap ad m c news (by rw [hsz]; exact hl) (hnews ad rfl) h1 hr
          (fun j hj => by rw [hsz, blk_cell hh, Array.getElem?_eq_getElem (by omega)]; rfl) (fun j hj => blk_frozen hh _)
        rw [hsz, Nat.zero_add] at hrun
        obtain ⟨cur', k1, k2, k3⟩ := setCells_row news (n * size) w cur hh hfit
        obtain ⟨s1, s2, s3, s4⟩ := setCells_same b news (n * size) w
        refine ⟨_, _, hrun, ⟨by rw [List.length_append, h.1, hl, Nat.add_mul], .inr ⟨b, cap, cur', rfl, k1, hr, h4, by rw [k2]; exact h5, ?_⟩⟩, ⟨s1, s2, s3, by rw [s4]; exact Nat.le_refl _, fun k _ hk => setCells_far news _ k (fun e => hk (by rw [e]; rfl))⟩, .inl rfl⟩
        rw [k3, h6, Nat.add_mul, ← hl, ← h.1, ← List.length_append]
        exact List.take_left
      · obtain ⟨v', w', hrun, r1, r2⟩ := run_append_arg_grows (P := P) w t ty e i z size bytes ht hi hz0 hz1 hz2 hz hs ⟨b, 0, none⟩ n cap xs h.1 (fun j u hj => h.cells _ rfl j u hj) ad m c news hl (hnews ad rfl) (by omega) hmax hbytes
        refine ⟨v', w', hrun, Buf.of_own r1, ⟨r2.os, r2.tape, r2.output, r2.size, fun k hk _ => r2.block k hk (by simp)⟩, ?_⟩
        rcases r1.2 with ⟨rfl, hn0⟩ | ⟨g, _, _, rfl, hg, _⟩
        · omega
        · exact .inr ⟨g, rfl, hg⟩
end
section
variable {P : Program} {ops : Array Oper} {rest : List Oper} {o : Oper} {a : Act} {Q : Exit → Act → World → Prop} {Kc : Act → World → Prop} {w : World}
/-- append as an operation. -/
theorem Buf.append_op (t e : TypeId) (z : Value) (size bytes : Nat) (s x : Operand) (ho : o.op = .call { callee := .builtin .append, args := #[s, x], argTypes := #[t, t] })
    (ht : P.underlying t = some (.slice e)) (hinfo : (P.info? e).map (fun i => (i.zero, i.size, i.bytes)) = some (some z, size, bytes)) (hz : z.cells.size = size) (hs0 : 0 < size) (hb : 0 < bytes)
    (v : Value) (n : Nat) (xs : List Value) (h : Buf e size w v n xs) (A : Option Addr) (m c : Nat) (news : List Value) (hl : news.length = m * size) (hA : A = none → m = 0 ∧ c = 0) (hnews : ∀ ad, A = some ad → ∀ j u, news[j]? = some u → w.cell? (ad.add j) = some u) (h1 : ∀ u ∈ news, u.oneCell' = true)
    (hbytes : (n + m) * bytes ≤ 140737488355328) (hs : a.eval s = v) (hx : a.eval x = .slice A m c) :
    ∃ v' w', (execOp a.eval o).run P w = .ok (.value v') w' ∧ Buf e size w' v' (n + m) (xs ++ news) ∧ w.grownBy w' v.ownBlock ∧ (v'.ownBlock = v.ownBlock ∨ ∃ b, v'.ownBlock = some b ∧ w.heap.size ≤ b) := by
  obtain ⟨v', w', hr, r⟩ := Buf.append (P := P) (w := w) t o.type e z size bytes ht hinfo hz hs0 hb v n xs h A m c news hl hA hnews h1 hbytes
  refine ⟨v', w', ?_, r⟩
  unfold execOp
  simp only [ho, resolve, invoke, builtin, Sem.run_bind, Sem.run_pure, Result.andThen_ok, List.map_toArray, List.map_cons, List.map_nil, hs, hx, hr]
end
end Go.Proofs.Ytfkkekdpfkglbaa.Q
