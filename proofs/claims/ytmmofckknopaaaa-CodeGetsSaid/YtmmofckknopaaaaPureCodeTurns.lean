/- Turning numbers and turning them back: the program's functions and the document's come to the same, for all numbers of 64 bits. -/
import Derived.Test.YtmmofckknopaaaaQ8
import Derived.Test.YtmmofckknopaaaaBits
namespace Go.Proofs.Ytmmofckknopaaaa.Pure
open Go.RowKit Go.Proofs.Ytmmofckknopaaaa.Q Go.Proofs.Ytmmofckknopaaaa.Bits Go.Proofs.YtmmofckknopaaaaW.PrintWords Go.Proofs.YtmmofckknopaaaaW.PrintLast

theorem code_Turn_is {n : Int} (h : -9223372036854775808 ≤ n ∧ n ≤ 9223372036854775807) : code_Turn.f n = some (tn n) := by
  unfold code_Turn.f tn
  congr 1
  by_cases h0 : 0 ≤ n
  · rw [if_pos h0, wrap_u64, wrap_u64, wrap_u64]
    rw [show n % 18446744073709551616 * 2 % 18446744073709551616 = 2 * n by omega, show n / 9223372036854775808 % 18446744073709551616 = 0 by omega]
    exact xor_zero _ (by omega) (by omega)
  · rw [if_neg h0, wrap_u64, wrap_u64, wrap_u64]
    rw [show n % 18446744073709551616 * 2 % 18446744073709551616 = 2 * n + 18446744073709551616 by omega, show n / 9223372036854775808 % 18446744073709551616 = 18446744073709551615 by omega]
    rw [xor_ones _ (by omega) (by omega)]; omega
theorem ref_Turn_is {n : Int} (h : -9223372036854775808 ≤ n ∧ n ≤ 9223372036854775807) : punnetref04_Turn.f n = some (tn n) := by
  unfold punnetref04_Turn.f tn
  simp only [wrap_u64, wrap64]
  by_cases h0 : 0 ≤ n
  · rw [if_pos h0, if_pos h0]; congr 1; omega
  · rw [if_neg (show ¬ n ≥ 0 from h0), if_neg h0]; congr 1; omega
theorem code_Back_is {u : Int} (h : 0 ≤ u ∧ u < 18446744073709551616) : code_Back.f u = some (bk u) := by
  unfold code_Back.f bk
  congr 1
  rw [and_one u h.1 h.2]
  simp only [wrap64]
  by_cases h0 : u % 2 = 0
  · rw [if_pos h0, h0, show (u / 2 + 9223372036854775808) % 18446744073709551616 - 9223372036854775808 = u / 2 by omega]
    exact i64_xor_zero _ (by omega) (by omega)
  · rw [if_neg h0, show u % 2 = 1 by omega, show (u / 2 + 9223372036854775808) % 18446744073709551616 - 9223372036854775808 = u / 2 by omega]
    exact i64_xor_ones _ (by omega) (by omega)
theorem ref_Back_is {u : Int} (h : 0 ≤ u ∧ u < 18446744073709551616) : punnetref04_Back.f u = some (bk u) := by
  unfold punnetref04_Back.f bk
  rw [Int.tmod_eq_emod_of_nonneg h.1, Int.tdiv_eq_ediv_of_nonneg h.1]
  simp only [wrap_u64, wrap64]
  by_cases h0 : u % 2 = 0
  · rw [if_pos h0, if_pos h0]; congr 1; omega
  · rw [if_neg h0, if_neg h0]; congr 1; omega
theorem awake04 : punnetlaw04_awake.f 20 = some true := by kernel_rfl
theorem awake04_more (k : Nat) : punnetlaw04_awake.f (20 + k) = some true := by
  induction k with
  | zero => exact awake04
  | succ k ih => exact punnetlaw04_awake.mono (20 + k) _ ih
theorem CodeTurns : punnetlaw04_CodeTurns.Pure := by
  intro n m u hn hm hu
  have hn := i64_wf hn
  have hm := i64_wf hm
  have hu := u64_wf hu
  refine ⟨20, ?_⟩
  unfold punnetlaw04_CodeTurns.f
  rw [awake04]
  simp only [Option.bind_some, if_true]
  rw [code_Turn_is hn, ref_Turn_is hn, code_Back_is hu, ref_Back_is hu]
  simp only [Option.bind_some, if_true]
  rw [code_Back_is (tn_range hn), bk_tn]
  simp only [Option.bind_some, if_true]
  rw [code_Turn_is (bk_range hu), tn_bk hu.1]
  simp only [Option.bind_some]
  have e : (u != u) = false := by simp
  rw [e]
  simp only [punnetlaw04_CodeTurns.j0, Bool.false_eq_true, if_false]
  by_cases h0 : n < 0
  · rw [if_pos h0]
  · rw [if_neg h0]
    by_cases h1 : m < n
    · rw [if_pos h1]
    · rw [if_neg h1, code_Turn_is hn, code_Turn_is hm]
      simp only [Option.bind_some, Option.some.injEq, decide_eq_true_eq]
      unfold tn
      rw [if_pos (by omega), if_pos (by omega)]; omega
end Go.Proofs.Ytmmofckknopaaaa.Pure
