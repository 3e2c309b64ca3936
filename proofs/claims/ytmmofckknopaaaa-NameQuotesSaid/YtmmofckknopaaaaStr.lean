/- A text as the list of its bytes' numbers: length, places, cuts and joins. No condition beyond those typed. -/
import Derived.Test.YtmmofckknopaaaaQ0
import Derived.Lib.Bytes
import Derived.Lib.IndexBytes
namespace Go.Proofs.Ytmmofckknopaaaa.Str
open Go.RowKit Go.Proofs.YtmmofckknopaaaaW.PrintWords Go.Proofs.YtmmofckknopaaaaW.PrintLast

def L (s : ByteArray) : List Int := s.data.toList.map fun b => (b.toNat : Int)
def Bytes (l : List Int) : Prop := ∀ x ∈ l, 0 ≤ x ∧ x < 256
theorem L_len (s : ByteArray) : (L s).length = s.size := by unfold L; rw [List.length_map, Array.length_toList]; rfl
theorem L_bytes (s : ByteArray) : Bytes (L s) := by
  intro x hx
  obtain ⟨b, _, rfl⟩ := List.mem_map.1 hx
  have := b.toNat_lt
  omega
theorem bt_L (s : ByteArray) (i : Nat) : bt s (i : Int) = (L s).getD i 0 := by
  unfold bt L
  rw [Int.toNat_natCast]
  by_cases h : i < s.size
  · rw [dif_pos h, List.getD_eq_getElem?_getD, List.getElem?_map, Lib.data_getElem? s i h]
    rfl
  · rw [dif_neg h, List.getD_eq_getElem?_getD, List.getElem?_eq_none (by rw [List.length_map, Array.length_toList]; exact Nat.le_of_not_lt h)]
    rfl
theorem L_append (a b : ByteArray) : L (a ++ b) = L a ++ L b := by unfold L; rw [ByteArray.data_append, Array.toList_append, List.map_append]
theorem L_inj {a b : ByteArray} (h : L a = L b) : a = b := by
  have h1 : a.data.toList = b.data.toList := by
    unfold L at h
    have := congrArg (List.map fun x : Int => UInt8.ofNat x.toNat) h
    simpa [List.map_map, Function.comp_def] using this
  apply ByteArray.ext
  exact Array.toList_inj.1 h1
theorem toList_iff (a b : ByteArray) : a.toList = b.toList ↔ a = b := by
  constructor
  · intro h
    rw [Lib.toList_data, Lib.toList_data] at h
    apply ByteArray.ext
    exact Array.toList_inj.1 h
  · rintro rfl; rfl
theorem L_strOfNums {l : List Int} (h : Bytes l) : L (strOfNums l) = l := by
  unfold L strOfNums
  simp only [List.map_map]
  conv => rhs; rw [← List.map_id l]
  apply List.map_congr_left
  intro x hx
  have := h x hx
  simp only [Function.comp_apply, UInt8.toNat_ofNat', id]
  omega
theorem strOfNums_L (s : ByteArray) : strOfNums (L s) = s := L_inj (L_strOfNums (L_bytes s))
theorem L_extract (s : ByteArray) (i j : Nat) : L (s.extract i j) = ((L s).take j).drop i := by
  unfold L
  rw [ByteArray.data_extract, Array.toList_extract, List.extract_eq_take_drop, List.map_take, List.map_drop, List.drop_take]
end Go.Proofs.Ytmmofckknopaaaa.Str
