/- Bytes as a text: joined texts, and when two are alike. Condition: the numbers are bytes. -/
import Derived.Test.YtcgbcnalofecgaaSum
import Derived.Lib.Bytes
namespace Go.Proofs.Ytcgbcnalofecgaa.Text
open Go.RowKit Go.Proofs.Ytcgbcnalofecgaa.Sum Go.Proofs.YtcgbcnalofecgaaW.PrintWords Go.Proofs.YtcgbcnalofecgaaW.PrintLast

def L (s : ByteArray) : List Int := s.data.toList.map fun b => (b.toNat : Int)
theorem L_append (a b : ByteArray) : L (a ++ b) = L a ++ L b := by unfold L; rw [ByteArray.data_append, Array.toList_append, List.map_append]
theorem L_inj {a b : ByteArray} (h : L a = L b) : a = b := by
  have h1 : a.data.toList = b.data.toList := by
    unfold L at h
    have := congrArg (List.map fun x : Int => UInt8.ofNat x.toNat) h
    simpa [List.map_map, Function.comp_def] using this
  apply ByteArray.ext
  exact Array.toList_inj.1 h1
theorem toList_iff (a b : ByteArray) : a.toList = b.toList ↔ a = b := by
  constructor
  · intro h
    rw [Lib.toList_data, Lib.toList_data] at h
    apply ByteArray.ext
    exact Array.toList_inj.1 h
  · rintro rfl; rfl
theorem L_strOfNums {l : List Int} (h : Bytes l) : L (strOfNums l) = l := by
  unfold L strOfNums
  simp only [List.map_map]
  conv => rhs; rw [← List.map_id l]
  apply List.map_congr_left
  intro x hx
  have := h x hx
  simp only [Function.comp_apply, UInt8.toNat_ofNat', id]
  omega
theorem strOfNums_append (l m : List Int) : strOfNums l ++ strOfNums m = strOfNums (l ++ m) := by
  unfold strOfNums
  apply ByteArray.ext
  rw [ByteArray.data_append]
  simp
theorem strOfNums_size (l : List Int) : (strOfNums l).size = l.length := by
  unfold strOfNums
  show (List.toArray _).size = _
  simp
theorem alike {l m : List Int} (hl : Bytes l) (hm : Bytes m) : ((strOfNums l).toList = (strOfNums m).toList) ↔ l = m := by
  rw [toList_iff]
  constructor
  · intro h
    rw [← L_strOfNums hl, ← L_strOfNums hm, h]
  · rintro rfl; rfl
end Go.Proofs.Ytcgbcnalofecgaa.Text
