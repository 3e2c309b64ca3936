/- A point of the plane whose parts are whole numbers of at most 2^52, or one that is none: what the program and the document say of it. Conditions: as typed. -/
import Derived.Test.YtjaefcinaackeaaPart
import Derived.Test.YtjaefcinaackeaaQ11
import Derived.Test.YtjaefcinaackeaaQ16
import Derived.Test.YtjaefcinaackeaaQ18
set_option linter.unusedSimpArgs false
namespace Go.Proofs.Ytjaefcinaackeaa.Ieee
open Go Go.RowKit
open _root_.Ieee
open Go.Proofs.Ytjaefcinaackeaa.Q Go.Proofs.YtjaefcinaackeaaW.PrintWords Go.Proofs.YtjaefcinaackeaaW.PrintLast

/-- A whole point, with its parts. -/
def IsC (z : Nat × Nat) (a b : Int) : Prop := Is z.1 a ∧ Is z.2 b ∧ nearI a ∧ nearI b
/-- No whole point. -/
def Told (x : Nat) : Prop := (∃ n, Is x n ∧ nearI n) ∨ Far x
def FarC (z : Nat × Nat) : Prop := Told z.1 ∧ Told z.2 ∧ (Far z.1 ∨ Far z.2)
def inB (M a b : Int) : Bool := decide ((-M ≤ a ∧ a ≤ M) ∧ (-M ≤ b ∧ b ≤ M))
theorem point_cases {x y : Nat} (hx : (Lit.float .f64 x).wf = true) (hy : (Lit.float .f64 y).wf = true) : (∃ a b, IsC (x, y) a b) ∨ FarC (x, y) := by
  have tx : Told x := float_cases (float_wf hx)
  have ty : Told y := float_cases (float_wf hy)
  rcases tx with ⟨a, ha, na⟩ | hf
  · rcases ty with ⟨b, hb, nb⟩ | hf
    · exact .inl ⟨a, b, ha, hb, na, nb⟩
    · exact .inr ⟨.inl ⟨a, ha, na⟩, .inr hf, .inr hf⟩
  · exact .inr ⟨.inr hf, ty, .inl hf⟩
theorem both_big {z : Nat × Nat} {a b : Int} (h1 : Is z.1 a) (h2 : Is z.2 b) (n1 : bigI a) (n2 : bigI b) {m : Nat} {M : Int} (hm : Is m M) : plane_both.f z m = some (inB M a b) := by
  unfold plane_both.f plane_within.f inB
  rw [Option.bind_some, wthn_is h1 hm n1, wthn_is h2 hm n2]
  by_cases c : -M ≤ a ∧ a ≤ M
  · rw [decide_eq_true c, if_pos rfl, Option.bind_some]
    congr 1
    exact decide_eq_decide.2 ⟨fun c2 => ⟨c, c2⟩, fun c2 => c2.2⟩
  · rw [decide_eq_false c, if_neg (by simp), decide_eq_false (fun c2 => c c2.1)]
theorem both_is {z : Nat × Nat} {a b : Int} (h : IsC z a b) {m : Nat} {M : Int} (hm : Is m M) : plane_both.f z m = some (inB M a b) := both_big h.1 h.2.1 h.2.2.1.big h.2.2.2.big hm
theorem both_far {z : Nat × Nat} (h : FarC z) {m : Nat} {M : Int} (hm : Is m M) (h0 : 0 ≤ M) (h1 : M ≤ 4503599627370496) : plane_both.f z m = some false := by
  unfold plane_both.f plane_within.f
  rcases h.2.2 with h | h
  · rw [Option.bind_some, h.1 M m hm h0 h1, if_neg (by simp)]
  · rw [Option.bind_some, h.1 M m hm h0 h1, Option.bind_some]
    by_cases c : wthn z.1 m = true
    · rw [if_pos c]
    · rw [if_neg c]
theorem inB_near {a b : Int} (h1 : nearI a) (h2 : nearI b) : inB 4503599627370496 a b = true := decide_eq_true ⟨h1, h2⟩
theorem whole_is {z : Nat × Nat} {a b : Int} (h : IsC z a b) : plane_Whole.f z = some true := by
  unfold plane_Whole.f
  rw [both_is h pos52, Option.bind_some, inB_near h.2.2.1 h.2.2.2]
theorem whole_big {z : Nat × Nat} {a b : Int} (h1 : Is z.1 a) (h2 : Is z.2 b) (n1 : bigI a) (n2 : bigI b) : plane_Whole.f z = some (inB 4503599627370496 a b) := by
  unfold plane_Whole.f
  rw [both_big h1 h2 n1 n2 pos52, Option.bind_some]
theorem whole_far {z : Nat × Nat} (h : FarC z) : plane_Whole.f z = some false := by
  unfold plane_Whole.f
  rw [both_far h pos52 (by omega) (by omega), Option.bind_some]
theorem small_is {z : Nat × Nat} {a b : Int} (h : IsC z a b) : plane_Small.f z = some (inB 33554432 a b) := by
  unfold plane_Small.f
  rw [both_is h pos25, Option.bind_some]
theorem small_far {z : Nat × Nat} (h : FarC z) : plane_Small.f z = some false := by
  unfold plane_Small.f
  rw [both_far h pos25 (by omega) (by omega), Option.bind_some]
theorem refParts_is {z : Nat × Nat} {a b : Int} (h : IsC z a b) {M : Int} (h0 : 0 ≤ M) (h1 : M ≤ 4503599627370496) : punnetref01_Parts.f z M = some (if inB M a b = true then (a, b, true) else (0, 0, false)) := by
  obtain ⟨i1, i2, n1, n2⟩ := h
  unfold punnetref01_Parts.f inB
  rw [part_is i1 n1 h0 h1, Option.bind_some, part_is i2 n2 h0 h1, Option.bind_some]
  by_cases c : -M ≤ a ∧ a ≤ M
  · by_cases d : -M ≤ b ∧ b ≤ M
    · rw [decide_eq_true c, if_pos rfl, decide_eq_true d, if_pos rfl, decide_eq_true ⟨c, d⟩, if_pos rfl]
    · rw [decide_eq_true c, if_pos rfl, decide_eq_false d, if_neg (by simp), decide_eq_false (fun e => d e.2), if_neg (by simp)]
  · rw [decide_eq_false c, if_neg (by simp), decide_eq_false (fun e => c e.1), if_neg (by simp)]
theorem part_some {x : Nat} (h : Told x) {M : Int} (h0 : 0 ≤ M) (h1 : M ≤ 4503599627370496) : ∃ n b, punnetref01_part.f x M = some (n, b) := by
  rcases h with ⟨n, hn, nn⟩ | h
  · exact ⟨_, _, part_is hn nn h0 h1⟩
  · obtain ⟨n, hn⟩ := h.2 M
    exact ⟨_, _, hn⟩
theorem refParts_far {z : Nat × Nat} (h : FarC z) {M : Int} (h0 : 0 ≤ M) (h1 : M ≤ 4503599627370496) : punnetref01_Parts.f z M = some (0, 0, false) := by
  unfold punnetref01_Parts.f
  obtain ⟨n1, b1, e1⟩ := part_some h.1 h0 h1
  obtain ⟨n2, b2, e2⟩ := part_some h.2.1 h0 h1
  have hb : ¬ (b1 = true ∧ b2 = true) := by
    rcases h.2.2 with h | h
    · obtain ⟨n, hn⟩ := h.2 M
      rw [hn] at e1
      intro c
      have := congrArg (fun o : Option (Int × Bool) => (o.getD (0, true)).2) e1
      simp [c.1] at this
    · obtain ⟨n, hn⟩ := h.2 M
      rw [hn] at e2
      intro c
      have := congrArg (fun o : Option (Int × Bool) => (o.getD (0, true)).2) e2
      simp [c.2] at this
  rw [e1, Option.bind_some, e2, Option.bind_some]
  by_cases c : b1 = true
  · rw [if_pos c, if_neg (fun d => hb ⟨c, d⟩)]
  · rw [if_neg c]
theorem parts_is {z : Nat × Nat} {a b : Int} (h : IsC z a b) : plane_Parts.f z = some (a, b, 0) := by
  unfold plane_Parts.f
  obtain ⟨f1, f2⟩ := is_f2i h.1 (by have := h.2.2.1; unfold nearI at this; omega) (by have := h.2.2.1; unfold nearI at this; omega)
  obtain ⟨g1, g2⟩ := is_f2i h.2.1 (by have := h.2.2.2; unfold nearI at this; omega) (by have := h.2.2.2; unfold nearI at this; omega)
  rw [whole_is h, Option.bind_some, if_pos rfl, if_pos f1, if_pos g1, f2, g2]
theorem parts_far {z : Nat × Nat} (h : FarC z) : plane_Parts.f z = some (0, 0, 5) := by
  unfold plane_Parts.f
  rw [whole_far h, Option.bind_some, if_neg (by simp)]
theorem is_zero : Is 0 0 := by
  have := is_int (n := 0) (by omega) (by omega)
  rwa [show floatOfInt .f64 0 = 0 by decide +kernel] at this
theorem zero_eq : (FloatKind.f64.format.order 0 0 == some Ordering.eq) = true := by rw [is_eq is_zero is_zero]; rfl
theorem pair_eq {z z' : Nat × Nat} {a b a' b' : Int} (h1 : Is z.1 a) (h2 : Is z.2 b) (h1' : Is z'.1 a') (h2' : Is z'.2 b') : ((FloatKind.f64.format.order z.1 z'.1 == some Ordering.eq) && (FloatKind.f64.format.order z.2 z'.2 == some Ordering.eq)) = decide (a = a' ∧ b = b') := by
  rw [is_eq h1 h1', is_eq h2 h2']
  exact (Bool.decide_and _ _).symm
theorem of_is {a b : Int} (ha : nearI a) (hb : nearI b) : IsC (floatOfInt .f64 a, floatOfInt .f64 b) a b := by
  have ha' := ha
  have hb' := hb
  unfold nearI at ha' hb'
  exact ⟨is_int (by omega) (by omega), is_int (by omega) (by omega), ha, hb⟩
/-- The product of two points, by parts. -/
theorem cmul_is {x y u v : Nat} {a b c d : Int} (h1 : Is x a) (h2 : Is y b) (h3 : Is u c) (h4 : Is v d) (g1 : bigI (a * c)) (g2 : bigI (b * d)) (g3 : bigI (a * c - b * d)) (g4 : bigI (a * d)) (g5 : bigI (b * c)) (g6 : bigI (a * d + b * c)) :
    cmulOk x y u v = true ∧ Is (cmulR x y u v) (a * c - b * d) ∧ Is (cmulI x y u v) (a * d + b * c) := by
  obtain ⟨r1, e1, i1⟩ := is_mul h1 h3 g1.1 g1.2
  obtain ⟨r2, e2, i2⟩ := is_mul h2 h4 g2.1 g2.2
  obtain ⟨r3, e3, i3⟩ := is_sub i1 i2 g3.1 g3.2
  obtain ⟨r4, e4, i4⟩ := is_mul h1 h4 g4.1 g4.2
  obtain ⟨r5, e5, i5⟩ := is_mul h2 h3 g5.1 g5.2
  obtain ⟨r6, e6, i6⟩ := is_add i4 i5 g6.1 g6.2
  have e : cMulBits x y u v = some (r3, r6) := by
    unfold cMulBits
    simp only [e1, e2, e3, e4, e5, e6, Option.bind_some]
  unfold cmulOk cmulR cmulI
  rw [e]
  exact ⟨rfl, i3, i6⟩
theorem cadd_is {x y u v : Nat} {a b c d : Int} (h1 : Is x a) (h2 : Is y b) (h3 : Is u c) (h4 : Is v d) (g1 : bigI (a + c)) (g2 : bigI (b + d)) :
    csumOk .add x y u v = true ∧ Is (csumR .add x y u v) (a + c) ∧ Is (csumI .add x y u v) (b + d) := by
  obtain ⟨r1, e1, i1⟩ := is_add h1 h3 g1.1 g1.2
  obtain ⟨r2, e2, i2⟩ := is_add h2 h4 g2.1 g2.2
  have e : cSumBits .add .f64 x y u v = some (r1, r2) := by
    unfold cSumBits
    simp only [e1, e2, Option.bind_some]
  unfold csumOk csumR csumI
  rw [e]
  exact ⟨rfl, i1, i2⟩
theorem csub_is {x y u v : Nat} {a b c d : Int} (h1 : Is x a) (h2 : Is y b) (h3 : Is u c) (h4 : Is v d) (g1 : bigI (a - c)) (g2 : bigI (b - d)) :
    csumOk .sub x y u v = true ∧ Is (csumR .sub x y u v) (a - c) ∧ Is (csumI .sub x y u v) (b - d) := by
  obtain ⟨r1, e1, i1⟩ := is_sub h1 h3 g1.1 g1.2
  obtain ⟨r2, e2, i2⟩ := is_sub h2 h4 g2.1 g2.2
  have e : cSumBits .sub .f64 x y u v = some (r1, r2) := by
    unfold cSumBits
    simp only [e1, e2, Option.bind_some]
  unfold csumOk csumR csumI
  rw [e]
  exact ⟨rfl, i1, i2⟩
/-- Products of small whole numbers. -/
theorem mul_small {M a b : Int} (h0 : -M ≤ a) (h1 : a ≤ M) (h2 : -M ≤ b) (h3 : b ≤ M) : -(M * M) ≤ a * b ∧ a * b ≤ M * M := by
  have p1 : 0 ≤ (M - a) * (M + b) := Int.mul_nonneg (by omega) (by omega)
  have p2 : 0 ≤ (M + a) * (M - b) := Int.mul_nonneg (by omega) (by omega)
  have p3 : 0 ≤ (M - a) * (M - b) := Int.mul_nonneg (by omega) (by omega)
  have p4 : 0 ≤ (M + a) * (M + b) := Int.mul_nonneg (by omega) (by omega)
  rw [Int.sub_mul, Int.mul_add, Int.mul_add] at p1
  rw [Int.add_mul, Int.mul_sub, Int.mul_sub] at p2
  rw [Int.sub_mul, Int.mul_sub, Int.mul_sub] at p3
  rw [Int.add_mul, Int.mul_add, Int.mul_add] at p4
  constructor <;> omega
theorem inB_iff {M a b : Int} : inB M a b = true ↔ (-M ≤ a ∧ a ≤ M) ∧ (-M ≤ b ∧ b ≤ M) := decide_eq_true_iff
/-- What the program says of a product: told, or too great. -/
theorem times_is {z z' : Nat × Nat} {a b c d : Int} (h : IsC z a b) (h' : IsC z' c d) (s : inB 33554432 a b = true) (s' : inB 33554432 c d = true) :
    ∃ r, plane_Times.f z z' = some (r, 0) ∧ Is r.1 (a * c - b * d) ∧ Is r.2 (a * d + b * c) := by
  have s0 := inB_iff.1 s
  have s1 := inB_iff.1 s'
  have p1 := mul_small (M := 33554432) s0.1.1 s0.1.2 s1.1.1 s1.1.2
  have p2 := mul_small (M := 33554432) s0.2.1 s0.2.2 s1.2.1 s1.2.2
  have p3 := mul_small (M := 33554432) s0.1.1 s0.1.2 s1.2.1 s1.2.2
  have p4 := mul_small (M := 33554432) s0.2.1 s0.2.2 s1.1.1 s1.1.2
  obtain ⟨k1, k2, k3⟩ := cmul_is h.1 h.2.1 h'.1 h'.2.1 (by unfold bigI; omega) (by unfold bigI; omega) (by unfold bigI; omega) (by unfold bigI; omega) (by unfold bigI; omega) (by unfold bigI; omega)
  refine ⟨(cmulR z.1 z.2 z'.1 z'.2, cmulI z.1 z.2 z'.1 z'.2), ?_, k2, k3⟩
  unfold plane_Times.f
  rw [small_is h, s, Option.bind_some, if_pos rfl, small_is h', s', Option.bind_some, if_pos rfl, if_pos k1]
theorem times_not {z z' : Nat × Nat} {q q' : Bool} (h : plane_Small.f z = some q) (h' : plane_Small.f z' = some q') (n : (q && q') = false) : plane_Times.f z z' = some ((0, 0), 5) := by
  unfold plane_Times.f
  rw [h, Option.bind_some]
  cases q
  · rfl
  · rw [if_pos rfl, h', Option.bind_some]
    cases q'
    · rfl
    · simp at n
/-- What a function tells: a point and a code. -/
def Tells (o : Option ((Nat × Nat) × Int)) (c p q : Int) : Prop := ∃ v, o = some v ∧ v.2 = c ∧ Is v.1.1 p ∧ Is v.1.2 q
def Same (o o' : Option ((Nat × Nat) × Int)) : Prop := ∃ c p q, Tells o c p q ∧ Tells o' c p q
theorem tells_none {c : Int} : Tells (some ((0, 0), c)) c 0 0 := ⟨_, rfl, rfl, is_zero, is_zero⟩
theorem times_tells {z z' : Nat × Nat} {a b c d : Int} (h : IsC z a b) (h' : IsC z' c d) (s : inB 33554432 a b = true) (s' : inB 33554432 c d = true) :
    Tells (plane_Times.f z z') 0 (a * c - b * d) (a * d + b * c) := by
  obtain ⟨r, e, i1, i2⟩ := times_is h h' s s'
  exact ⟨_, e, rfl, i1, i2⟩
theorem bind_eq {v v' : (Nat × Nat) × Int} {c p q : Int} (h : v.2 = c ∧ Is v.1.1 p ∧ Is v.1.2 q) (h' : v'.2 = c ∧ Is v'.1.1 p ∧ Is v'.1.2 q) :
    ((FloatKind.f64.format.order v.1.1 v'.1.1 == some Ordering.eq) && (FloatKind.f64.format.order v.1.2 v'.1.2 == some Ordering.eq)) = true ∧ v.2 = v'.2 := by
  refine ⟨?_, h.1.trans h'.1.symm⟩
  rw [pair_eq h.2.1 h.2.2 h'.2.1 h'.2.2]
  exact decide_eq_true ⟨rfl, rfl⟩
end Go.Proofs.Ytjaefcinaackeaa.Ieee
