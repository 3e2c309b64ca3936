/- A function of the program or a law's row comes to what the Lean function beside it says; no condition beyond those typed. Written by a program of this workplace; Lean checks it. -/
import Derived.Test.YtmmofckknopaaaaProg
import Derived.Below
import Derived.Deep.Draws
import Derived.Deep.AppendLies
import Derived.Maps.AppendAt
import Derived.OwnWalk
import Derived.Laws.BytesArg
import Derived.Laws.MakeOwn
import Derived.Laws.OwnMore
import Derived.Deep.OwnRows
import Derived.Tactics
import Derived.Lib.ConvBytes
import Derived.Laws.Slices
import Derived.WalkKit
import Derived.KernelRfl
import Derived.RowKit3
import Derived.Deep.LoopGhost
import Derived.Deep.QuietTactic
import Derived.BigQuiet
import Derived.WideLaws
import Derived.Deep.DeepCutAuto
import Derived.Deep.CutBlock
import Derived.Deep.RegionHeld3
import Derived.Laws.Rows
import Derived.Lib.AppendStr
import Derived.ArgAppend
import Derived.Laws.IdiomCopy
import Derived.OrdersHeld
import Derived.Laws.BitsLemmas
import Derived.RowKit
import Derived.Laws.RangeString
import Derived.LoopTactic
import Derived.WalkLawsBesides
import Derived.Lib.Bytealg
import Derived.Lib.Strings
import Derived.Lib.Slices
import Derived.Lib.Walk
import Derived.Lib.Builder
import Derived.Lib.UnsafeStr
import Derived.Laws.Externs
import Derived.Test.YtmmofckknopaaaaWWords
import Derived.Test.YtmmofckknopaaaaWLast
import Derived.Test.YtmmofckknopaaaaWTab
import Derived.Test.YtmmofckknopaaaaWFour
import Derived.Test.YtmmofckknopaaaaWQPut
import Derived.Test.YtmmofckknopaaaaWApart
import Derived.Test.YtmmofckknopaaaaWArr
import Derived.Test.YtmmofckknopaaaaWZeros
import Derived.Test.YtmmofckknopaaaaWFoot
import Derived.Test.YtmmofckknopaaaaWKept
import Derived.Test.YtmmofckknopaaaaWShare
import Derived.Test.YtmmofckknopaaaaWN
import Derived.Test.YtmmofckknopaaaaWFootNe
import Derived.Test.YtmmofckknopaaaaWAt
import Derived.Test.YtmmofckknopaaaaWEqStruct
import Derived.Test.YtmmofckknopaaaaWRepsOne
import Derived.Test.YtmmofckknopaaaaWInv
import Derived.Test.YtmmofckknopaaaaWInvWords
import Derived.Test.YtmmofckknopaaaaWGuard
import Derived.Test.YtmmofckknopaaaaWNEv
import Derived.Test.YtmmofckknopaaaaWMore
import Derived.Test.YtmmofckknopaaaaAid
namespace Go.Proofs.Ytmmofckknopaaaa.Q
open Go.RowKit Go.Proofs.YtmmofckknopaaaaW.PrintWords Go.Proofs.YtmmofckknopaaaaW.PrintLast Go.Proofs.YtmmofckknopaaaaW.PrintMore
attribute [local go_sem] max2_int min2_int max_two min_two max_three min_three max_four min_four   -- for this text's walks alone
set_option linter.unusedVariables false
set_option linter.unusedSimpArgs false



def errW : Option Int → Value
  | none => .nilIface
  | some c => .iface 0 (.int .i64 c)
theorem errW_none : errW none = .nilIface := rfl
theorem errW_some (c : Int) : errW (some c) = .iface 0 (.int .i64 c) := rfl

theorem info5 : (Try.prog.info? 5).map (fun i => (i.zero, i.size, i.bytes)) = some (some (.int .u8 0), 1, 1) := by kernel_rfl
theorem info9 : (Try.prog.info? 9).map (fun i => (i.zero, i.size, i.bytes)) = some (some (.string ⟨#[]⟩), 1, 16) := by kernel_rfl
-- the values' own types

end Go.Proofs.Ytmmofckknopaaaa.Q
