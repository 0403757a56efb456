/- Walks of the functions that a law of seat Ytppggjkffgjhkaa reaches, each against a Lean function, printed by this session's wip/myprint.py; no condition of their own. -/
import Derived.Test.YtppggjkffgjhkaaProg
import Derived.Below
import Derived.Deep.Draws
import Derived.Deep.AppendLies
import Derived.Maps.AppendAt
import Derived.OwnWalk
import Derived.Laws.BytesArg
import Derived.Laws.MakeOwn
import Derived.Laws.OwnMore
import Derived.Deep.OwnRows
import Derived.Tactics
import Derived.Lib.ConvBytes
import Derived.Laws.Slices
import Derived.WalkKit
import Derived.KernelRfl
import Derived.RowKit3
import Derived.Deep.LoopGhost
import Derived.Deep.QuietTactic
import Derived.BigQuiet
import Derived.WideLaws
import Derived.Deep.DeepCutAuto
import Derived.Deep.CutBlock
import Derived.Deep.RegionHeld3
import Derived.Laws.Rows
import Derived.Lib.AppendStr
import Derived.ArgAppend
import Derived.Laws.IdiomCopy
import Derived.OrdersHeld
import Derived.Laws.BitsLemmas
import Derived.RowKit
import Derived.Test.YtppggjkffgjhkaaWWords
import Derived.Test.YtppggjkffgjhkaaWLast
import Derived.Test.YtppggjkffgjhkaaWTab
import Derived.Test.YtppggjkffgjhkaaWFour
import Derived.Test.YtppggjkffgjhkaaWQPut
import Derived.Test.YtppggjkffgjhkaaWApart
import Derived.Test.YtppggjkffgjhkaaWArr
import Derived.Test.YtppggjkffgjhkaaWZeros
import Derived.Test.YtppggjkffgjhkaaWFoot
import Derived.Test.YtppggjkffgjhkaaWKept
import Derived.Test.YtppggjkffgjhkaaWShare
import Derived.Test.YtppggjkffgjhkaaWN
import Derived.Test.YtppggjkffgjhkaaWFootNe
import Derived.Test.YtppggjkffgjhkaaWAt
import Derived.Test.YtppggjkffgjhkaaWEqStruct
import Derived.Test.YtppggjkffgjhkaaWRepsOne
import Derived.Test.YtppggjkffgjhkaaWInv
import Derived.Test.YtppggjkffgjhkaaWInvWords
import Derived.Test.YtppggjkffgjhkaaWGuard
import Derived.Test.YtppggjkffgjhkaaWNEv
import Derived.Test.YtppggjkffgjhkaaWMore
namespace Go.Proofs.Ytppggjkffgjhkaa.PFnExactQcFirst
open Go.RowKit Go.Proofs.YtppggjkffgjhkaaW.PrintWords Go.Proofs.YtppggjkffgjhkaaW.PrintLast Go.Proofs.YtppggjkffgjhkaaW.PrintMore
attribute [local go_sem] max2_int min2_int max_two min_two max_three min_three max_four min_four   -- for this text's walks alone
set_option linter.unusedVariables false
set_option linter.unusedSimpArgs false



def errW : Option Int → Value
  | none => .nilIface
  | some c => .iface 0 (.int .i64 c)
theorem errW_none : errW none = .nilIface := rfl
theorem errW_some (c : Int) : errW (some c) = .iface 0 (.int .i64 c) := rfl

-- the values' own types

end Go.Proofs.Ytppggjkffgjhkaa.PFnExactQcFirst
