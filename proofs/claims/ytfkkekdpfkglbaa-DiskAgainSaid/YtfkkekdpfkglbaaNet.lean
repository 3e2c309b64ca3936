/- The net: places, and a line: what New, Cut and Apart do. Conditions: as typed. -/
import Derived.Test.YtfkkekdpfkglbaaQ0
import Derived.Test.YtfkkekdpfkglbaaQ1
import Derived.Test.YtfkkekdpfkglbaaQ11
import Derived.Test.YtfkkekdpfkglbaaQ13
namespace Go.Proofs.Ytfkkekdpfkglbaa.Q
open Go.RowKit Go.Proofs.YtfkkekdpfkglbaaW.PrintWords Go.Proofs.YtfkkekdpfkglbaaW.PrintLast Go.Proofs.YtfkkekdpfkglbaaW.PrintMore
set_option linter.unusedVariables false
set_option linter.unusedSimpArgs false
def repB (n : Nat) (a : Int) : Bool := decide (1 ≤ a ∧ a ≤ (n : Int))
set_option maxHeartbeats 1000000 in
set_option maxRecDepth 100000 in
theorem net_replica.calls (g : Nat) (a : Int) (A : Option Addr) (n c : Nat) (w : World) (h : w.cell? ⟨g, 0, none⟩ = some (.slice A n c)) :
    Calls Try.prog 59 #[.pointer (some ⟨g, 0, none⟩), .int .i64 a] w fun e w' => e = .returned (.bool (repB n a)) ∧ w' = w := by
  unfold repB
  by_cases c1 : 1 ≤ a
  · have d1 : decide (1 ≤ a) = true := decide_eq_true c1
    go_enter Try.func59, Try.ntmps59
    go_wp2
    go_ret
    exact ⟨by simp [c1], rfl⟩
  · have d1 : decide (1 ≤ a) = false := decide_eq_false c1
    go_enter Try.func59, Try.ntmps59
    go_wp2
    go_ret
    exact ⟨by simp [c1], rfl⟩
set_option maxHeartbeats 1000000 in
set_option maxRecDepth 100000 in
theorem net_replica.none (a : Int) (w : World) :
    Calls Try.prog 59 #[.pointer none, .int .i64 a] w fun e w' => e = .returned (.bool false) ∧ w' = w := by
  go_enter Try.func59, Try.ntmps59
  go_wp2
  go_ret
  exact ⟨rfl, rfl⟩
def cv (z : Nat × Nat) : Value := .complex .f64 z.1 z.2
/-- A net in memory: its struct at block g, its places' row behind. -/
structure NetAt (w : World) (g : Nat) (ps : List (Nat × Nat)) (way : Nat × Nat) (off : Int) : Prop where
  mk :: (out : ∃ v, w.heap[g]? = some (.cells #[v, .slice none 0 0, .complex .f64 way.1 way.2, .int .i64 off] 95 (0, 0)) ∧ w.ownsRow (g + 1) 78 1 v ps.length (ps.map cv))
theorem NetAt.lt {w : World} {g : Nat} {ps : List (Nat × Nat)} {way : Nat × Nat} {off : Int} (h : NetAt w g ps way off) : g < w.heap.size := by
  obtain ⟨v, h1, h2⟩ := h.out
  exact blk_lt h1
theorem NetAt.below {w w1 : World} {g : Nat} {ps : List (Nat × Nat)} {way : Nat × Nat} {off : Int} (h : NetAt w g ps way off) (hb : Below w.heap.size w w1) : NetAt w1 g ps way off := by
  obtain ⟨v, h1, h2⟩ := h.out
  exact ⟨v, blk_below h1 hb, own_move h2 (fun k hk => hb.block k (h2.lt k hk).2)⟩
theorem NetAt.drewN {w : World} {g : Nat} {ps : List (Nat × Nat)} {way : Nat × Nat} {off : Int} (h : NetAt w g ps way off) (n : Nat) : NetAt (w.drewN n) g ps way off := ⟨h.out⟩
theorem NetAt.cell {w : World} {g : Nat} {ps : List (Nat × Nat)} {way : Nat × Nat} {off : Int} (h : NetAt w g ps way off) :
    ∃ v, w.ownsRow (g + 1) 78 1 v ps.length (ps.map cv) ∧ w.cell? ⟨g, 0, none⟩ = some v ∧ w.cell? ⟨g, 1, none⟩ = some (.slice none 0 0) ∧ w.cell? ⟨g, 2, none⟩ = some (.complex .f64 way.1 way.2) ∧ w.cell? ⟨g, 3, none⟩ = some (.int .i64 off) ∧ ∀ k, w.frozen? ⟨g, k, none⟩ = false := by
  obtain ⟨v, h1, h2⟩ := h.out
  refine ⟨v, h2, ?_, ?_, ?_, ?_, fun k => frozen_of_row w g k _ 95 h1⟩
  all_goals rw [cell_of_row w g _ _ 95 (0, 0) h1]; rfl
theorem NetAt.cut {w : World} {g : Nat} {ps : List (Nat × Nat)} {way : Nat × Nat} {off : Int} (h : NetAt w g ps way off) (z : Nat × Nat) (o : Int) :
    NetAt ((w.setCell ⟨g, 2, none⟩ (.complex .f64 z.1 z.2)).setCell ⟨g, 3, none⟩ (.int .i64 o)) g ps z o := by
  obtain ⟨v, h1, h2⟩ := h.out
  have e1 := heap_setCell_same w g 2 _ 95 (.complex .f64 z.1 z.2) h1
  have e2 := heap_setCell_same _ g 3 _ 95 (.int .i64 o) e1
  exact ⟨v, e2, ownsRow_setCell_below (ownsRow_setCell_below h2 (a := ⟨g, 2, none⟩) (by show g < g + 1; omega) _) (a := ⟨g, 3, none⟩) (by show g < g + 1; omega) _⟩
def cutOk (c : Int) (s : Bool) : Bool := decide (c = 0) && s
set_option maxHeartbeats 2000000 in
set_option maxRecDepth 100000 in
theorem net_Cut.calls (g : Nat) (re im off off0 : Int) (ps : List (Nat × Nat)) (way z : Nat × Nat) (c : Int) (s : Bool) (w : World) (h : NetAt w g ps way off0) (hO : plane_Of.f re im = some (z, c)) (hS : plane_Small.f z = some s) :
    Calls Try.prog 13 #[.pointer (some ⟨g, 0, none⟩), .int .i64 re, .int .i64 im, .int .i64 off] w fun e w' =>
      e = .returned (.int .i64 (if cutOk c s = true then 0 else 5)) ∧ NetAt w' g ps (if cutOk c s = true then z else way) (if cutOk c s = true then off else off0) ∧ Below g w w' := by
  have HN := Aside0.mk h
  have HS := Aside0.mk hS
  clear h hS
  have HB : ∀ n : Nat, Below g w (w.drewN n) := fun n => (pw_below_drewN (Below.refl w.heap.size w) n).mono (Nat.le_of_lt HN.out.lt)
  have HB' := Aside0.mk HB
  clear HB
  by_cases c1 : c = 0
  · subst c1
    cases s with
    | true =>
      obtain ⟨v, _, _, _, k2, k3, kf⟩ := HN.out.cell
      have hst := fun (r i : Nat) (a : Addr) (m : Mode) (W : World) => (run_store Try.prog W a (.complex .f64 r i) m rfl : (store a (.complex .f64 r i) m).run Try.prog W = stored Try.prog W a (.complex .f64 r i) m)
      have kf2 := kf 2
      have kf3 := kf 3
      clear kf
      go_enter Try.func13, Try.ntmps13
      go_wp2_with (first | ((with_reducible refine gate_callee (f := 57) rfl ?_); refine goesL_ (some 16) rfl rfl Try.func57 (by kernel_rfl) rfl #[.int .i64 re, .int .i64 im] rfl (by (try simp only [List.map_toArray, List.map_cons, List.map_nil]); first | done | rfl) ?_; (with_reducible refine (plane_Of.calls re im z 0 _ hO).mono ?_); rintro e w1 ⟨rfl, ⟨nd, rfl⟩⟩; refine ⟨_, rfl, ?_⟩) | (go_at_call 58; (with_reducible refine (plane_Small.calls z true _ HS.out).mono ?_); rintro e w2 ⟨rfl, ⟨nd2, rfl⟩⟩))
      go_wp2
      go_ret
      exact ⟨rfl, (HN.out.drewN (nd + nd2)).cut z off, ((HB'.out (nd + nd2)).setCell (p := ⟨g, 2, none⟩) (Nat.le_refl _) _).setCell (p := ⟨g, 3, none⟩) (Nat.le_refl _) _⟩
    | false =>
      go_enter Try.func13, Try.ntmps13
      go_wp2_with (first | ((with_reducible refine gate_callee (f := 57) rfl ?_); refine goesL_ (some 16) rfl rfl Try.func57 (by kernel_rfl) rfl #[.int .i64 re, .int .i64 im] rfl (by (try simp only [List.map_toArray, List.map_cons, List.map_nil]); first | done | rfl) ?_; (with_reducible refine (plane_Of.calls re im z 0 _ hO).mono ?_); rintro e w1 ⟨rfl, ⟨nd, rfl⟩⟩; refine ⟨_, rfl, ?_⟩) | (go_at_call 58; (with_reducible refine (plane_Small.calls z false _ HS.out).mono ?_); rintro e w2 ⟨rfl, ⟨nd2, rfl⟩⟩))
      go_wp2
      go_ret
      exact ⟨rfl, HN.out.drewN (nd + nd2), HB'.out (nd + nd2)⟩
  · have d1 : (c == 0) = false := beq_eq_false_iff_ne.2 c1
    have e1 : cutOk c s = false := by unfold cutOk; rw [decide_eq_false c1]; rfl
    rw [e1]
    go_enter Try.func13, Try.ntmps13
    go_wp2_with ((with_reducible refine gate_callee (f := 57) rfl ?_); refine goesL_ (some 16) rfl rfl Try.func57 (by kernel_rfl) rfl #[.int .i64 re, .int .i64 im] rfl (by (try simp only [List.map_toArray, List.map_cons, List.map_nil]); first | done | rfl) ?_; (with_reducible refine (plane_Of.calls re im z c _ hO).mono ?_); rintro e w1 ⟨rfl, ⟨nd, rfl⟩⟩; refine ⟨_, rfl, ?_⟩)
    go_ret
    exact ⟨rfl, HN.out.drewN nd, (HB'.out nd)⟩
theorem NetAt.place {w : World} {g : Nat} {ps : List (Nat × Nat)} {v : Value} (h : w.ownsRow (g + 1) 78 1 v ps.length (ps.map cv)) (a : Int) (h0 : 1 ≤ a) (h1 : a ≤ (ps.length : Int)) :
    ∃ b c, v = .slice (some ⟨b, 0, none⟩) ps.length c ∧ b < w.heap.size ∧ w.cell? ⟨b, (a - 1).toNat, none⟩ = some (cv (ps.getD (a - 1).toNat (0, 0))) := by
  obtain ⟨b, c, rfl, _, hb⟩ := h.form (by omega)
  refine ⟨b, c, rfl, hb, ?_⟩
  rw [h.cellAt _ (by omega), List.getElem?_map, List.getD_eq_getElem?_getD, List.getElem?_eq_getElem (by omega)]
  rfl
theorem quiet_drawn {P : Program} {f : FuncId} {args : Array Value} {w : World} {n : Nat} {v : Value} (h : Calls P f args (w.drewN n) fun e w' => e = .returned v ∧ Drawn0 (w.drewN n) w') : Calls P f args (w.drewN n) fun e w'' => e = .returned v ∧ ∃ m, w'' = w.drewN m :=
  Calls.quiet_of (h.mono fun _ _ ⟨he, ⟨hd⟩⟩ => ⟨he, hd⟩)
theorem quiet_drawn2 {P : Program} {f : FuncId} {args : Array Value} {w : World} {q n : Nat} {v : Value} (h : Calls P f args (w.drewN (q + n)) fun e w' => e = .returned v ∧ Drawn0 (w.drewN (q + n)) w') : Calls P f args (w.drewN (q + n)) fun e w'' => e = .returned v ∧ ∃ m, w'' = w.drewN (q + m) :=
  h.mono fun _ _ ⟨he, ⟨k, hk⟩⟩ => ⟨he, n + k, by rw [hk, World.drewN_drewN, Nat.add_assoc]⟩
def apB (sd : Nat × Nat → Int) (ps : List (Nat × Nat)) (a b : Int) : Bool := repB ps.length a && (repB ps.length b && (sd (ps.getD (a - 1).toNat (0, 0)) != sd (ps.getD (b - 1).toNat (0, 0))))
theorem getD_mem {ps : List (Nat × Nat)} {i : Nat} (h : i < ps.length) : ps.getD i (0, 0) ∈ ps := by
  rw [List.getD_eq_getElem?_getD, List.getElem?_eq_getElem h]
  exact List.getElem_mem h
set_option maxHeartbeats 4000000 in
set_option maxRecDepth 100000 in
theorem net_Apart.calls (g : Nat) (a b off : Int) (ps : List (Nat × Nat)) (way : Nat × Nat) (sd : Nat × Nat → Int) (w : World) (h : NetAt w g ps way off) (hs : ∀ z ∈ ps, ∃ c, plane_Side.f 2 way off z = some (sd z, c)) :
    Calls Try.prog 14 #[.pointer (some ⟨g, 0, none⟩), .int .i64 a, .int .i64 b] w fun e w' => e = .returned (.bool (apB sd ps a b)) ∧ Drawn0 w w' := by
  obtain ⟨v, ho, k0, _, k2, k3, _⟩ := h.cell
  have HN := Aside0.mk h
  have HO := Aside0.mk ho
  have HS := Aside0.mk hs
  clear h ho hs
  obtain ⟨A, c, rfl⟩ : ∃ A c, v = .slice A ps.length c := by
    rcases HO.out.2 with ⟨rfl, h⟩ | ⟨b, cap, cur, rfl, _⟩
    · exact ⟨none, 0, by rw [h]⟩
    · exact ⟨_, _, rfl⟩
  obtain ⟨n, hn⟩ : ∃ n, n = ps.length := ⟨_, rfl⟩
  rw [← hn] at k0 HO
  unfold apB
  rw [← hn]
  have HL := Aside0.mk hn
  clear hn
  cases ca : repB n a with
  | false =>
    go_enter Try.func14, Try.ntmps14
    go_wp2_with ((with_reducible refine gate_callee (f := 59) rfl ?_); refine goesL_ (some 13) rfl rfl Try.func59 (by kernel_rfl) rfl #[.pointer (some ⟨g, 0, none⟩), .int .i64 a] rfl (by (try simp only [List.map_toArray, List.map_cons, List.map_nil]); first | done | rfl) ?_; (with_reducible refine (net_replica.calls g a _ _ _ _ k0).mono ?_); rintro e w1 ⟨rfl, rfl⟩; refine ⟨_, rfl, ?_⟩)
    go_ret
    exact ⟨rfl, Drawn0.refl _⟩
  | true =>
    cases cb : repB n b with
    | false =>
      go_enter Try.func14, Try.ntmps14
      go_wp2_with (first | ((with_reducible refine gate_callee (f := 59) rfl ?_); refine goesL_ (some 13) rfl rfl Try.func59 (by kernel_rfl) rfl #[.pointer (some ⟨g, 0, none⟩), .int .i64 a] rfl (by (try simp only [List.map_toArray, List.map_cons, List.map_nil]); first | done | rfl) ?_; (with_reducible refine (net_replica.calls g a _ _ _ _ k0).mono ?_); rintro e w1 ⟨rfl, rfl⟩; refine ⟨_, rfl, ?_⟩) | (go_at_call 59; (with_reducible refine (net_replica.calls g b _ _ _ _ k0).mono ?_); rintro e w1 ⟨rfl, rfl⟩))
      go_ret
      exact ⟨rfl, Drawn0.refl _⟩
    | true =>
      have ea : 1 ≤ a ∧ a ≤ (n : Int) := of_decide_eq_true ca
      have eb : 1 ≤ b ∧ b ≤ (n : Int) := of_decide_eq_true cb
      have la : (a - 1).toNat < ps.length := by rw [← HL.out]; omega
      have lb : (b - 1).toNat < ps.length := by rw [← HL.out]; omega
      obtain ⟨c1, s1⟩ := HS.out _ (getD_mem la)
      obtain ⟨c2, s2⟩ := HS.out _ (getD_mem lb)
      have S1 := Aside0.mk s1
      have S2 := Aside0.mk s2
      obtain ⟨A', c', e1, hlt, xa⟩ := NetAt.place (g := g) (HL.out ▸ HO.out) a ea.1 (by rw [← HL.out]; exact ea.2)
      cases e1
      obtain ⟨A2, c'', e2, _, xb⟩ := NetAt.place (g := g) (HL.out ▸ HO.out) b eb.1 (by rw [← HL.out]; exact eb.2)
      cases e2
      clear s1 s2 la lb
      generalize ps.getD (a - 1).toNat (0, 0) = za at *
      generalize ps.getD (b - 1).toNat (0, 0) = zb at *
      have hmax : n ≤ 9223372036854775807 := by
        rcases HO.out.2 with ⟨h, _⟩ | ⟨_, cap, _, _, _, _, h1, h2, _⟩
        · simp at h
        · simp only [maxLen] at h2; omega
      have wa : IntKind.i64.wrap (a - 1) = a - 1 := by rw [IntKind.wrap_i64]; omega
      have wb : IntKind.i64.wrap (b - 1) = b - 1 := by rw [IntKind.wrap_i64]; omega
      obtain ⟨i, hi⟩ : ∃ i, i = a - 1 := ⟨_, rfl⟩
      obtain ⟨j, hj⟩ : ∃ j, j = b - 1 := ⟨_, rfl⟩
      have pa : (0 ≤ i) = True := eq_true (by omega)
      have qa : (i < (n : Int)) = True := eq_true (by omega)
      have pb : (0 ≤ j) = True := eq_true (by omega)
      have qb : (j < (n : Int)) = True := eq_true (by omega)
      rw [← hi] at xa
      rw [← hj] at xb
      replace wa : IntKind.i64.wrap (a - 1) = i := wa.trans hi.symm
      replace wb : IntKind.i64.wrap (b - 1) = j := wb.trans hj.symm
      clear hi hj
      unfold cv at xa xb
      clear hmax
      clear ea eb
      go_enter Try.func14, Try.ntmps14
      go_wp2_with (first | ((with_reducible refine gate_callee (f := 59) rfl ?_); refine goesL_ (some 13) rfl rfl Try.func59 (by kernel_rfl) rfl #[.pointer (some ⟨g, 0, none⟩), .int .i64 a] rfl (by (try simp only [List.map_toArray, List.map_cons, List.map_nil]); first | done | rfl) ?_; (with_reducible refine (net_replica.calls g a _ _ _ _ k0).mono ?_); rintro e w1 ⟨rfl, rfl⟩; refine ⟨_, rfl, ?_⟩) | (go_at_call 59; (with_reducible refine (net_replica.calls g b _ _ _ _ k0).mono ?_); rintro e w1 ⟨rfl, rfl⟩))
      go_quiet (exact quiet_drawn (plane_Side.calls 2 way off za _ _ _ S1.out))
      go_wp2
      go_quiet (exact quiet_drawn2 (plane_Side.calls 2 way off zb _ _ _ S2.out))
      go_wp2
      go_ret
      exact ⟨by simp, ⟨⟨_, rfl⟩⟩⟩
end Go.Proofs.Ytfkkekdpfkglbaa.Q
