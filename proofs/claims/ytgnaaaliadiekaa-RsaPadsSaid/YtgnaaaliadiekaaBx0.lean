/- Written by xp.py, a program of this session, over the print of the kit: what it says is checked by its build. -/
import Derived.Test.YtgnaaaliadiekaaProg
import Derived.Below
import Derived.Deep.Draws
import Derived.Deep.AppendLies
import Derived.Maps.AppendAt
import Derived.OwnWalk
import Derived.Laws.BytesArg
import Derived.Laws.MakeOwn
import Derived.Laws.OwnMore
import Derived.Deep.OwnRows
import Derived.Tactics
import Derived.Lib.ConvBytes
import Derived.Laws.Slices
import Derived.WalkKit
import Derived.KernelRfl
import Derived.RowKit3
import Derived.Deep.LoopGhost
import Derived.Deep.QuietTactic
import Derived.BigQuiet
import Derived.WideLaws
import Derived.Deep.DeepCutAuto
import Derived.Deep.CutBlock
import Derived.Deep.RegionHeld3
import Derived.Laws.Rows
import Derived.Lib.AppendStr
import Derived.ArgAppend
import Derived.Laws.IdiomCopy
import Derived.OrdersHeld
import Derived.Laws.BitsLemmas
import Derived.RowKit
import Derived.Test.YtgnaaaliadiekaaWWords
import Derived.Test.YtgnaaaliadiekaaWLast
import Derived.Test.YtgnaaaliadiekaaWTab
import Derived.Test.YtgnaaaliadiekaaWFour
import Derived.Test.YtgnaaaliadiekaaWQPut
import Derived.Test.YtgnaaaliadiekaaWApart
import Derived.Test.YtgnaaaliadiekaaWArr
import Derived.Test.YtgnaaaliadiekaaWZeros
import Derived.Test.YtgnaaaliadiekaaWFoot
import Derived.Test.YtgnaaaliadiekaaWKept
import Derived.Test.YtgnaaaliadiekaaWShare
import Derived.Test.YtgnaaaliadiekaaWN
import Derived.Test.YtgnaaaliadiekaaWFootNe
import Derived.Test.YtgnaaaliadiekaaWAt
import Derived.Test.YtgnaaaliadiekaaWEqStruct
import Derived.Test.YtgnaaaliadiekaaWRepsOne
import Derived.Test.YtgnaaaliadiekaaWInv
import Derived.Test.YtgnaaaliadiekaaWInvWords
import Derived.Test.YtgnaaaliadiekaaWGuard
import Derived.Test.YtgnaaaliadiekaaWNEv
import Derived.Test.YtgnaaaliadiekaaWMore
import Derived.Test.YtgnaaaliadiekaaSIntr
namespace Go.Proofs.Ytgnaaaliadiekaa.B
open Go.RowKit Go.Proofs.YtgnaaaliadiekaaW.PrintWords Go.Proofs.YtgnaaaliadiekaaW.PrintLast Go.Proofs.YtgnaaaliadiekaaW.PrintMore
attribute [local go_sem] max2_int min2_int max_two min_two max_three min_three max_four min_four   -- for this text's walks alone
attribute [local go_sem] run_Add64 run_Add64_0 run_Sub64 run_Sub64_0
set_option linter.unusedVariables false
set_option linter.unusedSimpArgs false



def errW : Option Int → Value
  | none => .nilIface
  | some c => .iface 0 (.int .i64 c)
theorem errW_none : errW none = .nilIface := rfl
theorem errW_some (c : Int) : errW (some c) = .iface 0 (.int .i64 c) := rfl

-- the values' own types

end Go.Proofs.Ytgnaaaliadiekaa.B
