-- Written by a program of this session (wip/tools/xprint.py) for this claim.
import Derived.Test.YtffanpfimhldhaaProg
import Derived.Below
import Derived.Deep.Draws
import Derived.Deep.AppendLies
import Derived.Maps.AppendAt
import Derived.OwnWalk
import Derived.Laws.BytesArg
import Derived.Laws.MakeOwn
import Derived.Laws.OwnMore
import Derived.Deep.OwnRows
import Derived.Tactics
import Derived.Lib.ConvBytes
import Derived.Laws.Slices
import Derived.WalkKit
import Derived.KernelRfl
import Derived.RowKit3
import Derived.Deep.LoopGhost
import Derived.Deep.QuietTactic
import Derived.BigQuiet
import Derived.WideLaws
import Derived.Deep.DeepCutAuto
import Derived.Deep.CutBlock
import Derived.Deep.RegionHeld3
import Derived.Laws.Rows
import Derived.Lib.AppendStr
import Derived.ArgAppend
import Derived.Laws.IdiomCopy
import Derived.OrdersHeld
import Derived.Laws.BitsLemmas
import Derived.RowKit
import Derived.Lib.Hide
import Derived.Lib.ItoaNum
import Derived.Laws.BitsAllLaws
import Derived.Laws.Externs
import Derived.Test.YtffanpfimhldhaaShelf
import Derived.Test.YtffanpfimhldhaaNum
import Derived.Test.YtffanpfimhldhaaWWords
import Derived.Test.YtffanpfimhldhaaWLast
import Derived.Test.YtffanpfimhldhaaWTab
import Derived.Test.YtffanpfimhldhaaWFour
import Derived.Test.YtffanpfimhldhaaWQPut
import Derived.Test.YtffanpfimhldhaaWApart
import Derived.Test.YtffanpfimhldhaaWArr
import Derived.Test.YtffanpfimhldhaaWZeros
import Derived.Test.YtffanpfimhldhaaWFoot
import Derived.Test.YtffanpfimhldhaaWKept
import Derived.Test.YtffanpfimhldhaaWShare
import Derived.Test.YtffanpfimhldhaaWN
import Derived.Test.YtffanpfimhldhaaWFootNe
import Derived.Test.YtffanpfimhldhaaWAt
import Derived.Test.YtffanpfimhldhaaWEqStruct
import Derived.Test.YtffanpfimhldhaaWRepsOne
import Derived.Test.YtffanpfimhldhaaWInv
import Derived.Test.YtffanpfimhldhaaWInvWords
import Derived.Test.YtffanpfimhldhaaWGuard
import Derived.Test.YtffanpfimhldhaaWNEv
import Derived.Test.YtffanpfimhldhaaWMore
namespace Go.Proofs.Ytffanpfimhldhaa.PFix
open Go.RowKit Go.Proofs.YtffanpfimhldhaaW.PrintWords Go.Proofs.YtffanpfimhldhaaW.PrintLast Go.Proofs.YtffanpfimhldhaaW.PrintMore
attribute [local go_sem] max2_int min2_int max_two min_two max_three min_three max_four min_four   -- for this text's walks alone
set_option linter.unusedVariables false
set_option linter.unusedSimpArgs false



def errW : Option Int → Value
  | none => .nilIface
  | some c => .iface 0 (.int .i64 c)
theorem errW_none : errW none = .nilIface := rfl
theorem errW_some (c : Int) : errW (some c) = .iface 0 (.int .i64 c) := rfl

-- the values' own types

end Go.Proofs.Ytffanpfimhldhaa.PFix
