/- Texts: what stands from a place on; numbers that need no wrap; joined texts. No condition beyond those typed. -/
import Derived.Test.YtmmofckknopaaaaStr
namespace Go.Proofs.Ytmmofckknopaaaa.Txt
open Go.RowKit Go.Proofs.Ytmmofckknopaaaa.Q Go.Proofs.Ytmmofckknopaaaa.Str Go.Proofs.YtmmofckknopaaaaW.PrintWords Go.Proofs.YtmmofckknopaaaaW.PrintLast
theorem w64 {x : Int} (h0 : -9223372036854775808 ≤ x) (h1 : x ≤ 9223372036854775807) : wrap64 x = x := by unfold wrap64; omega
theorem L_drop {s : ByteArray} {i : Nat} (h : i < s.size) : (L s).drop i = bt s (i : Int) :: (L s).drop (i + 1) := by
  rw [List.drop_eq_getElem_cons (by rw [L_len]; exact h), bt_L, List.getD_eq_getElem?_getD, List.getElem?_eq_getElem (by rw [L_len]; exact h)]
  rfl
theorem L_drop_end {s : ByteArray} {i : Nat} (h : s.size ≤ i) : (L s).drop i = [] := List.drop_eq_nil_of_le (by rw [L_len]; exact h)
theorem strOfNums_append (a b : List Int) : strOfNums (a ++ b) = strOfNums a ++ strOfNums b := by
  apply ByteArray.ext
  simp [strOfNums]
end Go.Proofs.Ytmmofckknopaaaa.Txt
