-- Written by a program of this session (wip/xprint/xprint.py runs the kit's print with hand-proved externs).
import Derived.Test.YtbaklgemdljmeaaProg
import Derived.Below
import Derived.Deep.Draws
import Derived.Deep.AppendLies
import Derived.Maps.AppendAt
import Derived.OwnWalk
import Derived.Laws.BytesArg
import Derived.Laws.MakeOwn
import Derived.Laws.OwnMore
import Derived.Deep.OwnRows
import Derived.Tactics
import Derived.Lib.ConvBytes
import Derived.Laws.Slices
import Derived.WalkKit
import Derived.KernelRfl
import Derived.RowKit3
import Derived.Deep.LoopGhost
import Derived.Deep.QuietTactic
import Derived.BigQuiet
import Derived.WideLaws
import Derived.Deep.DeepCutAuto
import Derived.Deep.CutBlock
import Derived.Deep.RegionHeld3
import Derived.Laws.Rows
import Derived.Lib.AppendStr
import Derived.ArgAppend
import Derived.Laws.IdiomCopy
import Derived.OrdersHeld
import Derived.Laws.BitsLemmas
import Derived.RowKit
import Derived.Test.YtbaklgemdljmeaaWWords
import Derived.Test.YtbaklgemdljmeaaWLast
import Derived.Test.YtbaklgemdljmeaaWTab
import Derived.Test.YtbaklgemdljmeaaWFour
import Derived.Test.YtbaklgemdljmeaaWQPut
import Derived.Test.YtbaklgemdljmeaaWApart
import Derived.Test.YtbaklgemdljmeaaWArr
import Derived.Test.YtbaklgemdljmeaaWZeros
import Derived.Test.YtbaklgemdljmeaaWFoot
import Derived.Test.YtbaklgemdljmeaaWKept
import Derived.Test.YtbaklgemdljmeaaWShare
import Derived.Test.YtbaklgemdljmeaaWN
import Derived.Test.YtbaklgemdljmeaaWFootNe
import Derived.Test.YtbaklgemdljmeaaWAt
import Derived.Test.YtbaklgemdljmeaaWEqStruct
import Derived.Test.YtbaklgemdljmeaaWRepsOne
import Derived.Test.YtbaklgemdljmeaaWInv
import Derived.Test.YtbaklgemdljmeaaWInvWords
import Derived.Test.YtbaklgemdljmeaaWGuard
import Derived.Test.YtbaklgemdljmeaaWNEv
import Derived.Test.YtbaklgemdljmeaaWMore
namespace Go.Proofs.Ytbaklgemdljmeaa.X
open Go.RowKit Go.Proofs.YtbaklgemdljmeaaW.PrintWords Go.Proofs.YtbaklgemdljmeaaW.PrintLast Go.Proofs.YtbaklgemdljmeaaW.PrintMore
attribute [local go_sem] max2_int min2_int max_two min_two max_three min_three max_four min_four   -- for this text's walks alone
set_option linter.unusedVariables false
set_option linter.unusedSimpArgs false



def errW : Option Int → Value
  | none => .nilIface
  | some c => .iface 0 (.int .i64 c)
theorem errW_none : errW none = .nilIface := rfl
theorem errW_some (c : Int) : errW (some c) = .iface 0 (.int .i64 c) := rfl

theorem info3 : (Try.prog.info? 3).map (fun i => (i.zero, i.size, i.bytes)) = some (some (.int .i64 0), 1, 8) := by kernel_rfl
-- the values' own types

end Go.Proofs.Ytbaklgemdljmeaa.X
