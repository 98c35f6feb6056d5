-- Printed by wip/tools/pp.py.
import Derived.Test.YtlpkbekpdhaplaaProg
import Derived.Below
import Derived.Deep.Draws
import Derived.Deep.AppendLies
import Derived.Maps.AppendAt
import Derived.OwnWalk
import Derived.Laws.BytesArg
import Derived.Laws.MakeOwn
import Derived.Laws.OwnMore
import Derived.Deep.OwnRows
import Derived.Tactics
import Derived.Lib.ConvBytes
import Derived.Laws.Slices
import Derived.WalkKit
import Derived.KernelRfl
import Derived.RowKit3
import Derived.Deep.LoopGhost
import Derived.Deep.QuietTactic
import Derived.BigQuiet
import Derived.WideLaws
import Derived.Deep.DeepCutAuto
import Derived.Deep.CutBlock
import Derived.Deep.RegionHeld3
import Derived.Laws.Rows
import Derived.Lib.AppendStr
import Derived.ArgAppend
import Derived.Laws.IdiomCopy
import Derived.OrdersHeld
import Derived.Laws.BitsLemmas
import Derived.RowKit
import Derived.Test.YtlpkbekpdhaplaaWWords
import Derived.Test.YtlpkbekpdhaplaaWLast
import Derived.Test.YtlpkbekpdhaplaaWTab
import Derived.Test.YtlpkbekpdhaplaaWFour
import Derived.Test.YtlpkbekpdhaplaaWQPut
import Derived.Test.YtlpkbekpdhaplaaWApart
import Derived.Test.YtlpkbekpdhaplaaWArr
import Derived.Test.YtlpkbekpdhaplaaWZeros
import Derived.Test.YtlpkbekpdhaplaaWFoot
import Derived.Test.YtlpkbekpdhaplaaWKept
import Derived.Test.YtlpkbekpdhaplaaWShare
import Derived.Test.YtlpkbekpdhaplaaWN
import Derived.Test.YtlpkbekpdhaplaaWFootNe
import Derived.Test.YtlpkbekpdhaplaaWAt
import Derived.Test.YtlpkbekpdhaplaaWEqStruct
import Derived.Test.YtlpkbekpdhaplaaWRepsOne
import Derived.Test.YtlpkbekpdhaplaaWInv
import Derived.Test.YtlpkbekpdhaplaaWInvWords
import Derived.Test.YtlpkbekpdhaplaaWGuard
import Derived.Test.YtlpkbekpdhaplaaWNEv
import Derived.Test.YtlpkbekpdhaplaaWMore
namespace Go.Proofs.Ytlpkbekpdhaplaa.P
open Go.RowKit Go.Proofs.YtlpkbekpdhaplaaW.PrintWords Go.Proofs.YtlpkbekpdhaplaaW.PrintLast Go.Proofs.YtlpkbekpdhaplaaW.PrintMore
attribute [local go_sem] max2_int min2_int max_two min_two max_three min_three max_four min_four   -- for this text's walks alone
set_option linter.unusedVariables false
set_option linter.unusedSimpArgs false



def errW : Option Int → Value
  | none => .nilIface
  | some c => .iface 0 (.int .i64 c)
theorem errW_none : errW none = .nilIface := rfl
theorem errW_some (c : Int) : errW (some c) = .iface 0 (.int .i64 c) := rfl

theorem info3 : (Try.prog.info? 3).map (fun i => (i.zero, i.size, i.bytes)) = some (some (.int .i64 0), 1, 8) := by kernel_rfl
-- the values' own types

end Go.Proofs.Ytlpkbekpdhaplaa.P
