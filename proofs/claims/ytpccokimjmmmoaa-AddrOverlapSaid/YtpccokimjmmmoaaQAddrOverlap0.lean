/- AddrOverlap: part 0 of the walk, written by gen_addr.py. -/
import Derived.Test.YtpccokimjmmmoaaProg
import Derived.Test.YtpccokimjmmmoaaSpan
import Derived.Below
import Derived.Deep.Draws
import Derived.Deep.AppendLies
import Derived.Maps.AppendAt
import Derived.OwnWalk
import Derived.Laws.BytesArg
import Derived.Laws.MakeOwn
import Derived.Laws.OwnMore
import Derived.Deep.OwnRows
import Derived.Tactics
import Derived.Lib.ConvBytes
import Derived.Laws.Slices
import Derived.WalkKit
import Derived.KernelRfl
import Derived.RowKit3
import Derived.Deep.LoopGhost
import Derived.Deep.QuietTactic
import Derived.BigQuiet
import Derived.WideLaws
import Derived.Deep.DeepCutAuto
import Derived.Deep.CutBlock
import Derived.Deep.RegionHeld3
import Derived.Laws.Rows
import Derived.Lib.AppendStr
import Derived.ArgAppend
import Derived.Laws.IdiomCopy
import Derived.OrdersHeld
import Derived.Laws.BitsLemmas
import Derived.RowKit
import Derived.Test.YtpccokimjmmmoaaWWords
import Derived.Test.YtpccokimjmmmoaaWLast
import Derived.Test.YtpccokimjmmmoaaWTab
import Derived.Test.YtpccokimjmmmoaaWFour
import Derived.Test.YtpccokimjmmmoaaWQPut
import Derived.Test.YtpccokimjmmmoaaWApart
import Derived.Test.YtpccokimjmmmoaaWArr
import Derived.Test.YtpccokimjmmmoaaWZeros
import Derived.Test.YtpccokimjmmmoaaWFoot
import Derived.Test.YtpccokimjmmmoaaWKept
import Derived.Test.YtpccokimjmmmoaaWShare
import Derived.Test.YtpccokimjmmmoaaWN
import Derived.Test.YtpccokimjmmmoaaWFootNe
import Derived.Test.YtpccokimjmmmoaaWAt
import Derived.Test.YtpccokimjmmmoaaWEqStruct
import Derived.Test.YtpccokimjmmmoaaWRepsOne
import Derived.Test.YtpccokimjmmmoaaWInv
import Derived.Test.YtpccokimjmmmoaaWInvWords
import Derived.Test.YtpccokimjmmmoaaWGuard
import Derived.Test.YtpccokimjmmmoaaWNEv
import Derived.Test.YtpccokimjmmmoaaWMore
namespace Go.Proofs.Ytpccokimjmmmoaa.PAddrOverlap
open Go.RowKit Go.Proofs.YtpccokimjmmmoaaW.PrintWords Go.Proofs.YtpccokimjmmmoaaW.PrintLast Go.Proofs.YtpccokimjmmmoaaW.PrintMore
attribute [local go_sem] max2_int min2_int max_two min_two max_three min_three max_four min_four   -- for this text's walks alone
set_option linter.unusedVariables false
set_option linter.unusedSimpArgs false



def errW : Option Int → Value
  | none => .nilIface
  | some c => .iface 0 (.int .i64 c)
theorem errW_none : errW none = .nilIface := rfl
theorem errW_some (c : Int) : errW (some c) = .iface 0 (.int .i64 c) := rfl

theorem info3 : (Try.prog.info? 3).map (fun i => (i.zero, i.size, i.bytes)) = some (some (.int .i64 0), 1, 8) := by kernel_rfl
-- the values' own types

end Go.Proofs.Ytpccokimjmmmoaa.PAddrOverlap
