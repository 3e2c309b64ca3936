/-
  No cell of these rows narrows 'for every input' (looked for: loops, veiled, ifaces, maps, wideKeys, modest, calm, conditions, laid).
  DERIVED. THE GIVEN ROWS OF THIS SEAT. 9 by the template 'for every input the law returns true; each argument reads behind the call as it read before'; 0 by the template 'total and deterministic' (their statements: YtjaefcinaackeaaTotals.lean).
  GIVEN WITH THE SEED: the statements are not yours to turn. If you find one false, say at which input.
  Laid BY PROGRAM, IN A SANDBOX (cutbox-rows.mjs): the forced cells as the released guide's own fill.sh prints them over the translation 1572e1a906beb745… (all of the seat's roots in one cut). By AI agents, Wed Nov 11 2026. No macro, syntax, notation, axiom, sorry.
-/
import Derived.Test.YtjaefcinaackeaaChecked
import GoSem.Claim
import GoSem.ClaimJoined
import GoSem.ClaimMapViews
import Derived.JoinedTies
import Derived.KernelRfl
namespace Go.Proofs.Ytjaefcinaackeaa
/- THE CELL 'sum', in the pinned program and in every row, IS THE sha256 OF THE DUMP (.gsa) THAT YtjaefcinaackeaaProg.lean LOADS. Nothing in Lean hashes anything: it is a label: what it is worth is what the hold of that sum in a sandbox is worth. -/
noncomputable def Try.pinned : Pinned := { name := "ytjaefcinaackeaa", sum := "1572e1a906beb7456b65760133f185e240d42497b62c5703d496a644e32ca12b", checked := Try.checked }
namespace Rows
def none {H : Type} : Left H := { results := [], args := [] }

/-- 'punnetlaw01.PlaneParts': WHATEVER THE INPUT: true; the input reads as it did. -/
def planePartsSpec : ChangeSpec := { name := "planeParts", fn := fun _ => fun
  | [d1, d2, d3, d4] => { results := [.lit (.bool true)], args := [d1, d2, d3, d4] }
  | _ => none }
def planePartsRow : OpenClaim := { program := "ytjaefcinaackeaa", sum := "1572e1a906beb7456b65760133f185e240d42497b62c5703d496a644e32ca12b", func := "punnet/punnetlaw01.PlaneParts", spec := "planeParts", inPlace := ["math.archTrunc", "math.Float64bits", "math.Float64frombits"], apart := false }
def PlanePartsSaid : Prop := planePartsRow.holds Try.pinned (OpenSpec.ofChange planePartsSpec)

/-- ITS FALSE NEIGHBOUR: 'it returns false'. Refute it at one input. -/
def planePartsWrong : ChangeSpec := { name := "planeParts", fn := fun _ => fun
  | [d1, d2, d3, d4] => { results := [.lit (.bool false)], args := [d1, d2, d3, d4] }
  | _ => none }
def PlanePartsWrongFalsely : Prop := planePartsRow.holds Try.pinned (OpenSpec.ofChange planePartsWrong)

/-- 'punnetlaw01.PlaneTurns': WHATEVER THE INPUT: true; the input reads as it did. -/
def planeTurnsSpec : ChangeSpec := { name := "planeTurns", fn := fun _ => fun
  | [d1, d2, d3] => { results := [.lit (.bool true)], args := [d1, d2, d3] }
  | _ => none }
def planeTurnsRow : OpenClaim := { program := "ytjaefcinaackeaa", sum := "1572e1a906beb7456b65760133f185e240d42497b62c5703d496a644e32ca12b", func := "punnet/punnetlaw01.PlaneTurns", spec := "planeTurns", inPlace := ["math.archTrunc", "math.Float64bits", "math.Float64frombits"], apart := false }
def PlaneTurnsSaid : Prop := planeTurnsRow.holds Try.pinned (OpenSpec.ofChange planeTurnsSpec)

/-- ITS FALSE NEIGHBOUR: 'it returns false'. Refute it at one input. -/
def planeTurnsWrong : ChangeSpec := { name := "planeTurns", fn := fun _ => fun
  | [d1, d2, d3] => { results := [.lit (.bool false)], args := [d1, d2, d3] }
  | _ => none }
def PlaneTurnsWrongFalsely : Prop := planeTurnsRow.holds Try.pinned (OpenSpec.ofChange planeTurnsWrong)

/-- 'punnetlaw01.PlaneNorms': WHATEVER THE INPUT: true; the input reads as it did. -/
def planeNormsSpec : ChangeSpec := { name := "planeNorms", fn := fun _ => fun
  | [d1, d2, d3, d4, d5] => { results := [.lit (.bool true)], args := [d1, d2, d3, d4, d5] }
  | _ => none }
def planeNormsRow : OpenClaim := { program := "ytjaefcinaackeaa", sum := "1572e1a906beb7456b65760133f185e240d42497b62c5703d496a644e32ca12b", func := "punnet/punnetlaw01.PlaneNorms", spec := "planeNorms", inPlace := ["math.archTrunc", "math.Float64bits", "math.Float64frombits"], apart := false }
def PlaneNormsSaid : Prop := planeNormsRow.holds Try.pinned (OpenSpec.ofChange planeNormsSpec)

/-- ITS FALSE NEIGHBOUR: 'it returns false'. Refute it at one input. -/
def planeNormsWrong : ChangeSpec := { name := "planeNorms", fn := fun _ => fun
  | [d1, d2, d3, d4, d5] => { results := [.lit (.bool false)], args := [d1, d2, d3, d4, d5] }
  | _ => none }
def PlaneNormsWrongFalsely : Prop := planeNormsRow.holds Try.pinned (OpenSpec.ofChange planeNormsWrong)

/-- 'punnetlaw01.PlaneSums': WHATEVER THE INPUT: true; the input reads as it did. -/
def planeSumsSpec : ChangeSpec := { name := "planeSums", fn := fun _ => fun
  | [d1, d2, d3, d4] => { results := [.lit (.bool true)], args := [d1, d2, d3, d4] }
  | _ => none }
def planeSumsRow : OpenClaim := { program := "ytjaefcinaackeaa", sum := "1572e1a906beb7456b65760133f185e240d42497b62c5703d496a644e32ca12b", func := "punnet/punnetlaw01.PlaneSums", spec := "planeSums", inPlace := ["math.archTrunc", "math.Float64bits", "math.Float64frombits"], apart := false }
def PlaneSumsSaid : Prop := planeSumsRow.holds Try.pinned (OpenSpec.ofChange planeSumsSpec)

/-- ITS FALSE NEIGHBOUR: 'it returns false'. Refute it at one input. -/
def planeSumsWrong : ChangeSpec := { name := "planeSums", fn := fun _ => fun
  | [d1, d2, d3, d4] => { results := [.lit (.bool false)], args := [d1, d2, d3, d4] }
  | _ => none }
def PlaneSumsWrongFalsely : Prop := planeSumsRow.holds Try.pinned (OpenSpec.ofChange planeSumsWrong)

/-- 'punnetlaw01.PlaneSides': WHATEVER THE INPUT: true; the input reads as it did. -/
def planeSidesSpec : ChangeSpec := { name := "planeSides", fn := fun _ => fun
  | [d1, d2, d3, d4, d5, d6] => { results := [.lit (.bool true)], args := [d1, d2, d3, d4, d5, d6] }
  | _ => none }
def planeSidesRow : OpenClaim := { program := "ytjaefcinaackeaa", sum := "1572e1a906beb7456b65760133f185e240d42497b62c5703d496a644e32ca12b", func := "punnet/punnetlaw01.PlaneSides", spec := "planeSides", inPlace := ["math.archTrunc", "math.Float64bits", "math.Float64frombits"], apart := false }
def PlaneSidesSaid : Prop := planeSidesRow.holds Try.pinned (OpenSpec.ofChange planeSidesSpec)

/-- ITS FALSE NEIGHBOUR: 'it returns false'. Refute it at one input. -/
def planeSidesWrong : ChangeSpec := { name := "planeSides", fn := fun _ => fun
  | [d1, d2, d3, d4, d5, d6] => { results := [.lit (.bool false)], args := [d1, d2, d3, d4, d5, d6] }
  | _ => none }
def PlaneSidesWrongFalsely : Prop := planeSidesRow.holds Try.pinned (OpenSpec.ofChange planeSidesWrong)

/-- 'punnetlaw02.PackJoins': WHATEVER THE INPUT: true; the input reads as it did. -/
def packJoinsSpec : ChangeSpec := { name := "packJoins", fn := fun _ => fun
  | [d1, d2, d3] => { results := [.lit (.bool true)], args := [d1, d2, d3] }
  | _ => none }
def packJoinsRow : OpenClaim := { program := "ytjaefcinaackeaa", sum := "1572e1a906beb7456b65760133f185e240d42497b62c5703d496a644e32ca12b", func := "punnet/punnetlaw02.PackJoins", spec := "packJoins", inPlace := ["math.archTrunc", "math.Float64bits", "math.Float64frombits"], apart := false }
def PackJoinsSaid : Prop := packJoinsRow.holds Try.pinned (OpenSpec.ofChange packJoinsSpec)

/-- ITS FALSE NEIGHBOUR: 'it returns false'. Refute it at one input. -/
def packJoinsWrong : ChangeSpec := { name := "packJoins", fn := fun _ => fun
  | [d1, d2, d3] => { results := [.lit (.bool false)], args := [d1, d2, d3] }
  | _ => none }
def PackJoinsWrongFalsely : Prop := packJoinsRow.holds Try.pinned (OpenSpec.ofChange packJoinsWrong)

/-- 'punnetlaw02.PackParts': WHATEVER THE INPUT: true; the input reads as it did. -/
def packPartsSpec : ChangeSpec := { name := "packParts", fn := fun _ => fun
  | [d1, d2] => { results := [.lit (.bool true)], args := [d1, d2] }
  | _ => none }
def packPartsRow : OpenClaim := { program := "ytjaefcinaackeaa", sum := "1572e1a906beb7456b65760133f185e240d42497b62c5703d496a644e32ca12b", func := "punnet/punnetlaw02.PackParts", spec := "packParts", inPlace := ["math.archTrunc", "math.Float64bits", "math.Float64frombits"], apart := false }
def PackPartsSaid : Prop := packPartsRow.holds Try.pinned (OpenSpec.ofChange packPartsSpec)

/-- ITS FALSE NEIGHBOUR: 'it returns false'. Refute it at one input. -/
def packPartsWrong : ChangeSpec := { name := "packParts", fn := fun _ => fun
  | [d1, d2] => { results := [.lit (.bool false)], args := [d1, d2] }
  | _ => none }
def PackPartsWrongFalsely : Prop := packPartsRow.holds Try.pinned (OpenSpec.ofChange packPartsWrong)

/-- 'punnetlaw02.PackWorths': WHATEVER THE INPUT: true; the input reads as it did. -/
def packWorthsSpec : ChangeSpec := { name := "packWorths", fn := fun _ => fun
  | [d1, d2] => { results := [.lit (.bool true)], args := [d1, d2] }
  | _ => none }
def packWorthsRow : OpenClaim := { program := "ytjaefcinaackeaa", sum := "1572e1a906beb7456b65760133f185e240d42497b62c5703d496a644e32ca12b", func := "punnet/punnetlaw02.PackWorths", spec := "packWorths", inPlace := ["math.archTrunc", "math.Float64bits", "math.Float64frombits"], apart := false }
def PackWorthsSaid : Prop := packWorthsRow.holds Try.pinned (OpenSpec.ofChange packWorthsSpec)

/-- ITS FALSE NEIGHBOUR: 'it returns false'. Refute it at one input. -/
def packWorthsWrong : ChangeSpec := { name := "packWorths", fn := fun _ => fun
  | [d1, d2] => { results := [.lit (.bool false)], args := [d1, d2] }
  | _ => none }
def PackWorthsWrongFalsely : Prop := packWorthsRow.holds Try.pinned (OpenSpec.ofChange packWorthsWrong)

/-- 'punnetlaw02.PackAdds': WHATEVER THE INPUT: true; the input reads as it did. -/
def packAddsSpec : ChangeSpec := { name := "packAdds", fn := fun _ => fun
  | [d1, d2, d3, d4, d5] => { results := [.lit (.bool true)], args := [d1, d2, d3, d4, d5] }
  | _ => none }
def packAddsRow : OpenClaim := { program := "ytjaefcinaackeaa", sum := "1572e1a906beb7456b65760133f185e240d42497b62c5703d496a644e32ca12b", func := "punnet/punnetlaw02.PackAdds", spec := "packAdds", inPlace := ["math.archTrunc", "math.Float64bits", "math.Float64frombits"], apart := false }
def PackAddsSaid : Prop := packAddsRow.holds Try.pinned (OpenSpec.ofChange packAddsSpec)

/-- ITS FALSE NEIGHBOUR: 'it returns false'. Refute it at one input. -/
def packAddsWrong : ChangeSpec := { name := "packAdds", fn := fun _ => fun
  | [d1, d2, d3, d4, d5] => { results := [.lit (.bool false)], args := [d1, d2, d3, d4, d5] }
  | _ => none }
def PackAddsWrongFalsely : Prop := packAddsRow.holds Try.pinned (OpenSpec.ofChange packAddsWrong)

/- THE SECOND FORM. 'bulk': how many values and letters a reading holds, each counted each time it is reached (what is shared counts as often as it is met; a slice's spare places count too). A statement '..UptoSaid' is the law's where the arguments, and the package variables that the reading takes, are together of bulk at most 1048576: NARROWER than '..Said'. Prove '..Said' where nothing that the law and all that it calls make is longer than what came in: it says more and counts as full. Else prove '..UptoSaid'. A law counts once. -/
mutual
def uptoBulk {H : Type} : DataW H → Nat
  | .lit (.string bytes) => bytes.length + 1
  | .lit _ => 1
  | .nil => 1
  | .ptr d => uptoBulk d + 1
  | .slice elems spare => uptoBulkAll elems + uptoBulkAll spare + 1
  | .agg parts => uptoBulkAll parts + 1
  | .iface _ d => uptoBulk d + 1
  | .map entries => uptoBulkEntries entries + 1
  | .held _ => 1
def uptoBulkAll {H : Type} : List (DataW H) → Nat
  | [] => 0
  | d :: r => uptoBulk d + uptoBulkAll r
def uptoBulkEntries {H : Type} : List (Lit × DataW H) → Nat
  | [] => 0
  | x :: r => uptoBulkEntry x + uptoBulkEntries r
def uptoBulkEntry {H : Type} : Lit × DataW H → Nat
  | (.string bytes, d) => bytes.length + uptoBulk d + 1
  | (_, d) => uptoBulk d + 1
 end
def uptoSmall : (H : Type) → List (DataW H) → Bool := fun _ ds => decide (uptoBulkAll ds ≤ 1048576)
def OpenSpec.upto (s : _root_.Go.ChangeSpec) : _root_.Go.OpenSpec := { _root_.Go.OpenSpec.ofChange s with cond := some uptoSmall }

/-- 'punnetlaw01.PlaneParts', WHERE WHAT IT READS IS OF BULK AT MOST 1048576: true; the input reads as it did. -/
def planePartsUptoRow : OpenClaim := { program := "ytjaefcinaackeaa", sum := "1572e1a906beb7456b65760133f185e240d42497b62c5703d496a644e32ca12b", func := "punnet/punnetlaw01.PlaneParts", spec := "planeParts", inPlace := ["math.archTrunc", "math.Float64bits", "math.Float64frombits"], apart := false, narrowed := true }
def PlanePartsUptoSaid : Prop := planePartsUptoRow.holds Try.pinned (OpenSpec.upto planePartsSpec)

/-- 'punnetlaw01.PlaneTurns', WHERE WHAT IT READS IS OF BULK AT MOST 1048576: true; the input reads as it did. -/
def planeTurnsUptoRow : OpenClaim := { program := "ytjaefcinaackeaa", sum := "1572e1a906beb7456b65760133f185e240d42497b62c5703d496a644e32ca12b", func := "punnet/punnetlaw01.PlaneTurns", spec := "planeTurns", inPlace := ["math.archTrunc", "math.Float64bits", "math.Float64frombits"], apart := false, narrowed := true }
def PlaneTurnsUptoSaid : Prop := planeTurnsUptoRow.holds Try.pinned (OpenSpec.upto planeTurnsSpec)

/-- 'punnetlaw01.PlaneNorms', WHERE WHAT IT READS IS OF BULK AT MOST 1048576: true; the input reads as it did. -/
def planeNormsUptoRow : OpenClaim := { program := "ytjaefcinaackeaa", sum := "1572e1a906beb7456b65760133f185e240d42497b62c5703d496a644e32ca12b", func := "punnet/punnetlaw01.PlaneNorms", spec := "planeNorms", inPlace := ["math.archTrunc", "math.Float64bits", "math.Float64frombits"], apart := false, narrowed := true }
def PlaneNormsUptoSaid : Prop := planeNormsUptoRow.holds Try.pinned (OpenSpec.upto planeNormsSpec)

/-- 'punnetlaw01.PlaneSums', WHERE WHAT IT READS IS OF BULK AT MOST 1048576: true; the input reads as it did. -/
def planeSumsUptoRow : OpenClaim := { program := "ytjaefcinaackeaa", sum := "1572e1a906beb7456b65760133f185e240d42497b62c5703d496a644e32ca12b", func := "punnet/punnetlaw01.PlaneSums", spec := "planeSums", inPlace := ["math.archTrunc", "math.Float64bits", "math.Float64frombits"], apart := false, narrowed := true }
def PlaneSumsUptoSaid : Prop := planeSumsUptoRow.holds Try.pinned (OpenSpec.upto planeSumsSpec)

/-- 'punnetlaw01.PlaneSides', WHERE WHAT IT READS IS OF BULK AT MOST 1048576: true; the input reads as it did. -/
def planeSidesUptoRow : OpenClaim := { program := "ytjaefcinaackeaa", sum := "1572e1a906beb7456b65760133f185e240d42497b62c5703d496a644e32ca12b", func := "punnet/punnetlaw01.PlaneSides", spec := "planeSides", inPlace := ["math.archTrunc", "math.Float64bits", "math.Float64frombits"], apart := false, narrowed := true }
def PlaneSidesUptoSaid : Prop := planeSidesUptoRow.holds Try.pinned (OpenSpec.upto planeSidesSpec)

/-- 'punnetlaw02.PackJoins', WHERE WHAT IT READS IS OF BULK AT MOST 1048576: true; the input reads as it did. -/
def packJoinsUptoRow : OpenClaim := { program := "ytjaefcinaackeaa", sum := "1572e1a906beb7456b65760133f185e240d42497b62c5703d496a644e32ca12b", func := "punnet/punnetlaw02.PackJoins", spec := "packJoins", inPlace := ["math.archTrunc", "math.Float64bits", "math.Float64frombits"], apart := false, narrowed := true }
def PackJoinsUptoSaid : Prop := packJoinsUptoRow.holds Try.pinned (OpenSpec.upto packJoinsSpec)

/-- 'punnetlaw02.PackParts', WHERE WHAT IT READS IS OF BULK AT MOST 1048576: true; the input reads as it did. -/
def packPartsUptoRow : OpenClaim := { program := "ytjaefcinaackeaa", sum := "1572e1a906beb7456b65760133f185e240d42497b62c5703d496a644e32ca12b", func := "punnet/punnetlaw02.PackParts", spec := "packParts", inPlace := ["math.archTrunc", "math.Float64bits", "math.Float64frombits"], apart := false, narrowed := true }
def PackPartsUptoSaid : Prop := packPartsUptoRow.holds Try.pinned (OpenSpec.upto packPartsSpec)

/-- 'punnetlaw02.PackWorths', WHERE WHAT IT READS IS OF BULK AT MOST 1048576: true; the input reads as it did. -/
def packWorthsUptoRow : OpenClaim := { program := "ytjaefcinaackeaa", sum := "1572e1a906beb7456b65760133f185e240d42497b62c5703d496a644e32ca12b", func := "punnet/punnetlaw02.PackWorths", spec := "packWorths", inPlace := ["math.archTrunc", "math.Float64bits", "math.Float64frombits"], apart := false, narrowed := true }
def PackWorthsUptoSaid : Prop := packWorthsUptoRow.holds Try.pinned (OpenSpec.upto packWorthsSpec)

/-- 'punnetlaw02.PackAdds', WHERE WHAT IT READS IS OF BULK AT MOST 1048576: true; the input reads as it did. -/
def packAddsUptoRow : OpenClaim := { program := "ytjaefcinaackeaa", sum := "1572e1a906beb7456b65760133f185e240d42497b62c5703d496a644e32ca12b", func := "punnet/punnetlaw02.PackAdds", spec := "packAdds", inPlace := ["math.archTrunc", "math.Float64bits", "math.Float64frombits"], apart := false, narrowed := true }
def PackAddsUptoSaid : Prop := packAddsUptoRow.holds Try.pinned (OpenSpec.upto packAddsSpec)

end Rows
end Go.Proofs.Ytjaefcinaackeaa
