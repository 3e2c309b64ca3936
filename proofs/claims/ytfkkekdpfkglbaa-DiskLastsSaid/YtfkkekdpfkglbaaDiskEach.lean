/- The law's walk, for any lists of calls. Conditions: as typed. -/
import Derived.Test.YtfkkekdpfkglbaaDiskLasts
namespace Go.Proofs.Ytfkkekdpfkglbaa.Q
open Go.RowKit Go.Proofs.YtfkkekdpfkglbaaW.PrintWords Go.Proofs.YtfkkekdpfkglbaaW.PrintLast Go.Proofs.YtfkkekdpfkglbaaW.PrintMore
theorem diskLasts_calls (A0 A1 : Option Addr) (c0 c1 : Nat) (l more : List ActV) (fuse keep : Int) (w : World) (h0 : Acts w A0 l) (h1 : Acts w A1 more) : Calls Try.prog 6 #[.slice A0 l.length c0, .slice A1 more.length c1, .int .i64 fuse, .int .i64 keep] w fun e w' => e = .returned (.bool true) ∧ Below w.heap.size w w' := by
  cases hl0 : longB l with
  | true => exact diskLasts_long A0 A1 c0 c1 l more fuse keep w h0 h1 (.inl hl0)
  | false =>
    cases hl1 : longB more with
    | true => exact diskLasts_long A0 A1 c0 c1 l more fuse keep w h0 h1 (.inr hl1)
    | false => exact diskLasts_short A0 A1 c0 c1 l more fuse keep w h0 h1 hl0 hl1
end Go.Proofs.Ytfkkekdpfkglbaa.Q
