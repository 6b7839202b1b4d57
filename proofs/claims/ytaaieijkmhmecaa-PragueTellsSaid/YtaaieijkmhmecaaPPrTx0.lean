-- Written by a program of this session (wip/tools/xprint.py) for this claim.
import Derived.Test.YtaaieijkmhmecaaProg
import Derived.Below
import Derived.Deep.Draws
import Derived.Deep.AppendLies
import Derived.Maps.AppendAt
import Derived.OwnWalk
import Derived.Laws.BytesArg
import Derived.Laws.MakeOwn
import Derived.Laws.OwnMore
import Derived.Deep.OwnRows
import Derived.Tactics
import Derived.Lib.ConvBytes
import Derived.Laws.Slices
import Derived.WalkKit
import Derived.KernelRfl
import Derived.RowKit3
import Derived.Deep.LoopGhost
import Derived.Deep.QuietTactic
import Derived.BigQuiet
import Derived.WideLaws
import Derived.Deep.DeepCutAuto
import Derived.Deep.CutBlock
import Derived.Deep.RegionHeld3
import Derived.Laws.Rows
import Derived.Lib.AppendStr
import Derived.ArgAppend
import Derived.Laws.IdiomCopy
import Derived.OrdersHeld
import Derived.Laws.BitsLemmas
import Derived.RowKit
import Derived.Outline
import Derived.Deep.RegionWith
import Derived.Lib.Hide
import Derived.Lib.ItoaNum
import Derived.Laws.BitsAllLaws
import Derived.Laws.Externs
import Derived.Test.YtaaieijkmhmecaaShelf
import Derived.Test.YtaaieijkmhmecaaNum
import Derived.Test.YtaaieijkmhmecaaWWords
import Derived.Test.YtaaieijkmhmecaaWLast
import Derived.Test.YtaaieijkmhmecaaWTab
import Derived.Test.YtaaieijkmhmecaaWFour
import Derived.Test.YtaaieijkmhmecaaWQPut
import Derived.Test.YtaaieijkmhmecaaWApart
import Derived.Test.YtaaieijkmhmecaaWArr
import Derived.Test.YtaaieijkmhmecaaWZeros
import Derived.Test.YtaaieijkmhmecaaWFoot
import Derived.Test.YtaaieijkmhmecaaWKept
import Derived.Test.YtaaieijkmhmecaaWShare
import Derived.Test.YtaaieijkmhmecaaWN
import Derived.Test.YtaaieijkmhmecaaWFootNe
import Derived.Test.YtaaieijkmhmecaaWAt
import Derived.Test.YtaaieijkmhmecaaWEqStruct
import Derived.Test.YtaaieijkmhmecaaWRepsOne
import Derived.Test.YtaaieijkmhmecaaWInv
import Derived.Test.YtaaieijkmhmecaaWInvWords
import Derived.Test.YtaaieijkmhmecaaWGuard
import Derived.Test.YtaaieijkmhmecaaWNEv
import Derived.Test.YtaaieijkmhmecaaWMore
namespace Go.Proofs.Ytaaieijkmhmecaa.PPrT
open Go.RowKit Go.Proofs.YtaaieijkmhmecaaW.PrintWords Go.Proofs.YtaaieijkmhmecaaW.PrintLast Go.Proofs.YtaaieijkmhmecaaW.PrintMore
attribute [local go_sem] max2_int min2_int max_two min_two max_three min_three max_four min_four   -- for this text's walks alone
set_option linter.unusedVariables false
set_option linter.unusedSimpArgs false



def errW : Option Int → Value
  | none => .nilIface
  | some c => .iface 0 (.int .i64 c)
theorem errW_none : errW none = .nilIface := rfl
theorem errW_some (c : Int) : errW (some c) = .iface 0 (.int .i64 c) := rfl

-- the values' own types

end Go.Proofs.Ytaaieijkmhmecaa.PPrT
