/- What a whole point comes to by a factor: what the program says of it. Conditions: as typed. -/
import Derived.Test.YtjaefcinaackeaaQ38
import Derived.Test.YtjaefcinaackeaaPair
set_option linter.unusedSimpArgs false
namespace Go.Proofs.Ytjaefcinaackeaa.Ieee
open Go Go.RowKit
open _root_.Ieee
open Go.Proofs.Ytjaefcinaackeaa.Q Go.Proofs.YtjaefcinaackeaaW.PrintWords Go.Proofs.YtjaefcinaackeaaW.PrintLast
def NumInf (d : Datum) : Prop := (∃ s m e, d = .number s m e) ∨ ∃ s, d = .infinity s
theorem read_le (s : Bool) {r : Nat} (hr : r ≤ 9218868437227405312) : NumInf (double.read (double.word s r)) := by
  have hw : double.signWeight = 9223372036854775808 := by decide
  have hi : double.infRung = 9218868437227405312 := by decide
  unfold Format.read Format.word
  rw [hw, hi]
  have key : ∀ w : Nat, w % 9223372036854775808 = r →
      NumInf (let neg := w / 9223372036854775808 % 2 == 1
       let rung := w % 9223372036854775808
       if rung < double.binade then Datum.number neg rung double.leastPlace
       else if rung < 9218868437227405312 then .number neg (double.binade + rung % double.binade) (double.leastPlace + (rung / double.binade - 1 : Nat))
       else if rung = 9218868437227405312 then .infinity neg else .nan neg (rung - 9218868437227405312)) := by
    intro w h1
    dsimp only
    rw [h1]
    by_cases c1 : r < double.binade
    · rw [if_pos c1]; exact .inl ⟨_, _, _, rfl⟩
    · rw [if_neg c1]
      by_cases c2 : r < 9218868437227405312
      · rw [if_pos c2]; exact .inl ⟨_, _, _, rfl⟩
      · rw [if_neg c2, if_pos (by omega)]; exact .inr ⟨_, rfl⟩
  cases s
  · exact key _ (by rw [if_neg (by simp)]; omega)
  · exact key _ (by rw [if_pos rfl]; omega)
theorem nearest_le (s : Bool) (m : Nat) (e : Int) : NumInf (double.read (double.nearest s m e)) := by
  have hi : double.infRung = 9218868437227405312 := by decide
  unfold Format.nearest
  by_cases h : m = 0
  · rw [if_pos h]; exact read_le s (by omega)
  · rw [if_neg h, hi]; exact read_le s (Nat.min_le_right _ _)
/-- A product of two whole numbers is told, however great. -/
theorem mul_some {x y : Nat} {a b : Int} (hx : Is x a) (hy : Is y b) : ∃ r, floatBits .mul .f64 x y = some r ∧ NumInf (double.read r) := by
  obtain ⟨_, s, m, i, M, rx, mx, rfl⟩ := hx
  obtain ⟨_, t, n, j, N, ry, my, rfl⟩ := hy
  refine ⟨double.nearest (s ^^ t) (m * n) (i + j), ?_, nearest_le _ _ _⟩
  show double.mul x y = _
  unfold Format.mul
  rw [rx, ry]
  rfl
theorem add_some {x y : Nat} {b : Int} (hx : NumInf (double.read x)) (hy : Is y b) : ∃ r, floatBits .add .f64 x y = some r := by
  obtain ⟨_, t, n, j, N, ry, my, rfl⟩ := hy
  show ∃ r, double.add x y = some r
  unfold Format.add
  rw [ry]
  rcases hx with ⟨s, m, e, hx⟩ | ⟨s, hx⟩
  · rw [hx]; exact ⟨_, rfl⟩
  · rw [hx]; exact ⟨_, rfl⟩
theorem cmul_re {x y u v : Nat} {a b c d : Int} (h1 : Is x a) (h2 : Is y b) (h3 : Is u c) (h4 : Is v d) (g1 : bigI (a * c)) (g2 : bigI (b * d)) (g3 : bigI (a * c - b * d)) (g5 : bigI (b * c)) :
    cmulOk x y u v = true ∧ Is (cmulR x y u v) (a * c - b * d) := by
  obtain ⟨r1, e1, i1⟩ := is_mul h1 h3 g1.1 g1.2
  obtain ⟨r2, e2, i2⟩ := is_mul h2 h4 g2.1 g2.2
  obtain ⟨r3, e3, i3⟩ := is_sub i1 i2 g3.1 g3.2
  obtain ⟨r4, e4, i4⟩ := mul_some h1 h4
  obtain ⟨r5, e5, i5⟩ := is_mul h2 h3 g5.1 g5.2
  obtain ⟨r6, e6⟩ := add_some i4 i5
  have e : cMulBits x y u v = some (r3, r6) := by
    unfold cMulBits
    simp only [e1, e2, e3, e4, e5, e6, Option.bind_some]
  unfold cmulOk cmulR
  rw [e]
  exact ⟨rfl, i3⟩
theorem w64j {x : Int} (h0 : -9223372036854775808 ≤ x) (h1 : x < 9223372036854775808) : wrap64 x = x := by unfold wrap64; omega
def factB (g : Int) : Bool := decide (2 ≤ g ∧ g ≤ 1000)
def nearB (n : Int) : Bool := decide (-4503599627370496 ≤ n ∧ n ≤ 4503599627370496)
theorem nearB_iff {n : Int} : nearB n = true ↔ nearI n := decide_eq_true_iff
theorem factor_is (g : Int) : pack_Factor.f g = some (factB g) := by
  unfold pack_Factor.f factB
  by_cases h : g ≥ 2
  · rw [if_pos h]
    congr 1
    exact decide_eq_decide.2 ⟨fun c => ⟨h, c⟩, fun c => c.2⟩
  · rw [if_neg h, decide_eq_false (fun c => h c.1)]
theorem far_is (n : Int) : pack_far.f n = some (!nearB n) := by
  unfold pack_far.f nearB
  by_cases h : n > 4503599627370496
  · rw [if_pos h, decide_eq_false (by omega)]; rfl
  · rw [if_neg h]
    by_cases h2 : n < -4503599627370496
    · rw [decide_eq_true h2, decide_eq_false (by omega)]; rfl
    · rw [decide_eq_false h2, decide_eq_true (by omega)]; rfl
def joinI (a b g : Int) : Int × Int := if nearB (b * g) = true then (if nearB (a + b * g) = true then (a + b * g, 0) else (0, 3)) else (0, 3)
theorem one_is : Is 4607182418800017408 1 := by
  have := is_int (n := 1) (by omega) (by omega)
  rwa [show floatOfInt .f64 1 = 4607182418800017408 by decide +kernel] at this
theorem reach {b g : Int} (hb : nearI b) (hg : 2 ≤ g ∧ g ≤ 1000) : -4503599627370496000 ≤ b * g ∧ b * g ≤ 4503599627370496000 := by
  unfold nearI at hb
  have p1 : 0 ≤ (4503599627370496 - b) * g := Int.mul_nonneg (by omega) (by omega)
  have p2 : 0 ≤ (4503599627370496 + b) * g := Int.mul_nonneg (by omega) (by omega)
  rw [Int.sub_mul] at p1
  rw [Int.add_mul] at p2
  omega
theorem join_is {z : Nat × Nat} {a b : Int} (h : IsC z a b) (g : Int) : pack_Join.f z g = some (if factB g = true then joinI a b g else (0, 2)) := by
  unfold pack_Join.f
  rw [parts_is h, Option.bind_some, factor_is, Option.bind_some]
  by_cases c : factB g = true
  · rw [if_pos c, if_pos c, if_pos rfl]
    have hg : 2 ≤ g ∧ g ≤ 1000 := of_decide_eq_true c
    have hr := reach h.2.2.2 hg
    have e : wrap64 (b * g) = b * g := w64j (by omega) (by omega)
    unfold joinI
    simp only [e]
    rw [far_is, Option.bind_some]
    by_cases c1 : nearB (b * g) = true
    · rw [if_pos c1, if_neg (by rw [c1]; simp)]
      have n1 := nearB_iff.1 c1
      have na := h.2.2.1
      have nb := h.2.2.2
      unfold nearI at n1 na nb
      obtain ⟨k1, k2⟩ := cmul_re h.1 h.2.1 one_is (is_neg (is_int (n := g) (by omega) (by omega))) (by unfold bigI; omega) (by unfold bigI; rw [Int.mul_neg]; omega) (by unfold bigI; rw [Int.mul_neg]; omega) (by unfold bigI; omega)
      rw [show a * 1 - b * -g = a + b * g by rw [Int.mul_neg]; omega] at k2
      obtain ⟨f1, f2⟩ := is_f2i k2 (by omega) (by omega)
      rw [if_pos k1, if_pos f1, f2, far_is, Option.bind_some]
      by_cases c2 : nearB (a + b * g) = true
      · rw [if_pos c2, if_neg (by rw [c2]; simp)]
      · rw [if_neg c2, if_pos (by simpa using c2)]
    · rw [if_neg c1, if_pos (by simpa using c1)]
  · rw [if_neg c, if_neg c]
theorem join_far {z : Nat × Nat} (h : FarC z) (g : Int) : pack_Join.f z g = some (if factB g = true then (0, 5) else (0, 2)) := by
  unfold pack_Join.f
  rw [parts_far h, Option.bind_some, factor_is, Option.bind_some]
  by_cases c : factB g = true
  · rw [if_pos c, if_pos c, if_neg (by simp)]
  · rw [if_neg c, if_neg c]
theorem joinI_code (a b g : Int) : (joinI a b g).2 = 0 ∧ (joinI a b g).1 = a + b * g ∧ nearI (b * g) ∧ nearI (a + b * g) ∨ (joinI a b g) = (0, 3) ∧ ¬ (nearI (b * g) ∧ nearI (a + b * g)) := by
  unfold joinI
  by_cases c1 : nearB (b * g) = true
  · rw [if_pos c1]
    by_cases c2 : nearB (a + b * g) = true
    · rw [if_pos c2]; exact .inl ⟨rfl, rfl, nearB_iff.1 c1, nearB_iff.1 c2⟩
    · rw [if_neg c2]; exact .inr ⟨rfl, fun c => c2 (nearB_iff.2 c.2)⟩
  · rw [if_neg c1]; exact .inr ⟨rfl, fun c => c1 (nearB_iff.2 c.1)⟩
end Go.Proofs.Ytjaefcinaackeaa.Ieee
