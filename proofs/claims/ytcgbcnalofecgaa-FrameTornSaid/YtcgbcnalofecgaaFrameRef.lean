/- The document's frame is the program's, and the chapter's example. Conditions: texts aren't longer than a frame bears. -/
import Derived.Test.YtcgbcnalofecgaaQ20
import Derived.Test.YtcgbcnalofecgaaQ18
import Derived.Test.YtcgbcnalofecgaaFrame
namespace Go.Proofs.Ytcgbcnalofecgaa.Frame
open Go.RowKit Go.Proofs.Ytcgbcnalofecgaa.Q Go.Proofs.Ytcgbcnalofecgaa.Sum Go.Proofs.YtcgbcnalofecgaaW.PrintWords Go.Proofs.YtcgbcnalofecgaaW.PrintLast Go.Proofs.YtcgbcnalofecgaaW.PrintMore

theorem four_step (k : Nat) (x : Int) (l : List Int) (j : Int) (h0 : 0 ≤ j) (h1 : j < 4) (hl : l.length < 100) (hx0 : 0 ≤ x) (hx1 : x < 4294967296) : punnetref07_four.l0 (k + 1) x l j = punnetref07_four.l0 k (x / 256) (l ++ [x % 256]) (j + 1) := by
  rw [punnetref07_four.l0, if_pos h1, if_pos (by omega), Int.tdiv_eq_ediv_of_nonneg hx0, Int.tmod_eq_emod_of_nonneg hx0, show x / 256 % 4294967296 = x / 256 by omega, show x % 256 % 256 = x % 256 by omega, show wrap64 (j + 1) = j + 1 by unfold wrap64; omega]
theorem four_is {n : Int} (h0 : 0 ≤ n) (h1 : n < 4294967296) {k : Nat} (hk : 5 ≤ k) : punnetref07_four.f k n = some (le4 n) := by
  obtain ⟨k, rfl⟩ : ∃ m, k = m + 1 + 1 + 1 + 1 + 1 := ⟨k - 5, by omega⟩
  unfold punnetref07_four.f
  rw [four_step _ _ _ _ (by omega) (by omega) (by simp) h0 h1, four_step _ _ _ _ (by omega) (by omega) (by simp) (by omega) (by omega), four_step _ _ _ _ (by omega) (by omega) (by simp) (by omega) (by omega), four_step _ _ _ _ (by omega) (by omega) (by simp) (by omega) (by omega)]
  rw [punnetref07_four.l0, if_neg (by omega)]
  unfold le4
  simp only [List.nil_append, List.cons_append]
  rw [show n / 256 / 256 = n / 65536 by omega, show n / 65536 / 256 = n / 16777216 by omega]
theorem refFrame_is (t : Tab) {b : List Int} (hb : Bytes b) (hlen : b.length ≤ 60000) {k : Nat} (hk : b.length + 10 < k) : punnetref07_Frame.f k t b = some (fr t b) := by
  have hs := su_lt t (le4 b.length ++ b)
  unfold punnetref07_Frame.f
  rw [show ((b.length : Int)) % 4294967296 = b.length by omega, four_is (by omega) (by omega) (by omega), Option.bind_some, Option.bind_some, if_pos (by simp [le4_len]), Option.bind_some, List.nil_append, if_pos (by rw [le4_len]; omega)]
  rw [refOf_is t ((le4_bytes _).append hb) (by rw [List.length_append, le4_len]; omega) (by rw [List.length_append, le4_len]; omega), Option.bind_some, four_is hs.1 hs.2 (by omega), Option.bind_some, if_pos (by simp [le4_len]), Option.bind_some, if_pos (by rw [List.length_append, le4_len, le4_len]; omega)]
  simp only [fr, List.append_assoc]
theorem awake07_12 : punnetlaw07_awake.f 12 = some true := by decide +kernel
theorem awake07 {k : Nat} (hk : 12 ≤ k) : punnetlaw07_awake.f k = some true := at_rounds punnetlaw07_awake.mono hk awake07_12
end Go.Proofs.Ytcgbcnalofecgaa.Frame
