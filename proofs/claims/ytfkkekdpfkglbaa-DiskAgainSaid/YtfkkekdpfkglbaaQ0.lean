/- A function of the program or a law's row comes to what the Lean function beside it says; no condition beyond those typed. Written by a program of this workplace; Lean checks it. -/
import Derived.Test.YtfkkekdpfkglbaaProg
import Derived.Below
import Derived.Deep.Draws
import Derived.Deep.AppendLies
import Derived.Maps.AppendAt
import Derived.OwnWalk
import Derived.Laws.BytesArg
import Derived.Laws.MakeOwn
import Derived.Laws.OwnMore
import Derived.Deep.OwnRows
import Derived.Tactics
import Derived.Lib.ConvBytes
import Derived.Laws.Slices
import Derived.WalkKit
import Derived.KernelRfl
import Derived.RowKit3
import Derived.Deep.LoopGhost
import Derived.Deep.QuietTactic
import Derived.BigQuiet
import Derived.WideLaws
import Derived.Deep.DeepCutAuto
import Derived.Deep.CutBlock
import Derived.Deep.RegionHeld3
import Derived.Laws.Rows
import Derived.Lib.AppendStr
import Derived.ArgAppend
import Derived.Laws.IdiomCopy
import Derived.OrdersHeld
import Derived.Laws.BitsLemmas
import Derived.RowKit
import Derived.Laws.RangeString
import Derived.LoopTactic
import Derived.WalkLawsBesides
import Derived.Lib.Bytealg
import Derived.Lib.Strings
import Derived.Lib.Slices
import Derived.Lib.Walk
import Derived.Lib.Builder
import Derived.Lib.UnsafeStr
import Derived.Laws.Externs
import Derived.Test.YtfkkekdpfkglbaaFlt
import Derived.Test.YtfkkekdpfkglbaaWWords
import Derived.Test.YtfkkekdpfkglbaaWLast
import Derived.Test.YtfkkekdpfkglbaaWTab
import Derived.Test.YtfkkekdpfkglbaaWFour
import Derived.Test.YtfkkekdpfkglbaaWQPut
import Derived.Test.YtfkkekdpfkglbaaWApart
import Derived.Test.YtfkkekdpfkglbaaWArr
import Derived.Test.YtfkkekdpfkglbaaWZeros
import Derived.Test.YtfkkekdpfkglbaaWFoot
import Derived.Test.YtfkkekdpfkglbaaWKept
import Derived.Test.YtfkkekdpfkglbaaWShare
import Derived.Test.YtfkkekdpfkglbaaWN
import Derived.Test.YtfkkekdpfkglbaaWFootNe
import Derived.Test.YtfkkekdpfkglbaaWAt
import Derived.Test.YtfkkekdpfkglbaaWEqStruct
import Derived.Test.YtfkkekdpfkglbaaWRepsOne
import Derived.Test.YtfkkekdpfkglbaaWInv
import Derived.Test.YtfkkekdpfkglbaaWInvWords
import Derived.Test.YtfkkekdpfkglbaaWGuard
import Derived.Test.YtfkkekdpfkglbaaWNEv
import Derived.Test.YtfkkekdpfkglbaaWMore
import Derived.Test.YtfkkekdpfkglbaaAid
namespace Go.Proofs.Ytfkkekdpfkglbaa.Q
open Go.RowKit Go.Proofs.YtfkkekdpfkglbaaW.PrintWords Go.Proofs.YtfkkekdpfkglbaaW.PrintLast Go.Proofs.YtfkkekdpfkglbaaW.PrintMore
attribute [local go_sem] max2_int min2_int max_two min_two max_three min_three max_four min_four   -- for this text's walks alone
set_option linter.unusedVariables false
set_option linter.unusedSimpArgs false



def errW : Option Int → Value
  | none => .nilIface
  | some c => .iface 0 (.int .i64 c)
theorem errW_none : errW none = .nilIface := rfl
theorem errW_some (c : Int) : errW (some c) = .iface 0 (.int .i64 c) := rfl

-- the values' own types

end Go.Proofs.Ytfkkekdpfkglbaa.Q
