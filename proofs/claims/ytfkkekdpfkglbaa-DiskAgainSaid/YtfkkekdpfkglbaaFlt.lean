/- Arithmetic on floats and complex numbers as plain functions of the bits, where it is valid; what a walk meets. Conditions: as typed. -/
import Derived.WalkLawsBesides
namespace Go
def cmulOk (a b c d : Nat) : Bool := (cMulBits a b c d).isSome
def cmulR (a b c d : Nat) : Nat := ((cMulBits a b c d).getD (0, 0)).1
def cmulI (a b c d : Nat) : Nat := ((cMulBits a b c d).getD (0, 0)).2
def csumOk (o : BinOp) (a b c d : Nat) : Bool := (cSumBits o .f64 a b c d).isSome
def csumR (o : BinOp) (a b c d : Nat) : Nat := ((cSumBits o .f64 a b c d).getD (0, 0)).1
def csumI (o : BinOp) (a b c d : Nat) : Nat := ((cSumBits o .f64 a b c d).getD (0, 0)).2
def f2iOk (b : Nat) : Bool := (floatToIntVal .f64 b .i64).isSome
def f2i (b : Nat) : Int := (floatToIntVal .f64 b .i64).getD 0
theorem run_cmul {P : Program} (w : World) (t : TypeId) (a b c d : Nat) (h : cmulOk a b c d = true) : (binOp .mul t (.complex .f64 a b) (.complex .f64 c d)).run P w = .ok (.complex .f64 (cmulR a b c d) (cmulI a b c d)) w := by
  obtain ⟨⟨x, y⟩, hx⟩ := Option.isSome_iff_exists.1 h
  rw [run_complex_mul w t a b c d x y hx]
  simp [cmulR, cmulI, hx]
theorem run_csum {P : Program} (w : World) (t : TypeId) (o : BinOp) (ho : o = .add ∨ o = .sub) (a b c d : Nat) (h : csumOk o a b c d = true) : (binOp o t (.complex .f64 a b) (.complex .f64 c d)).run P w = .ok (.complex .f64 (csumR o a b c d) (csumI o a b c d)) w := by
  obtain ⟨⟨x, y⟩, hx⟩ := Option.isSome_iff_exists.1 h
  rw [run_complex_sum w o ho t .f64 a b c d x y hx]
  simp [csumR, csumI, hx]
theorem run_f2i {P : Program} (w : World) (src dst : TypeId) (b : Nat) (hs : (P.underlying src).isSome = true) (hd : P.underlying dst = some (.int .i64)) (h : f2iOk b = true) : (convert src dst (.float .f64 b)).run P w = .ok (.int .i64 (f2i b)) w := by
  obtain ⟨n, hn⟩ := Option.isSome_iff_exists.1 h
  rw [run_convert_float_int w src dst .f64 .i64 b n hs hd hn]
  simp [f2i, hn]
end Go
