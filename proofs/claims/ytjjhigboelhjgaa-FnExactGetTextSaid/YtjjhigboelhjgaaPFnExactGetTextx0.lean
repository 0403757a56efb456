/- Walks of the functions that a law of seat Ytjjhigboelhjgaa reaches, each against a Lean function, printed by this session's wip/myprint.py; no condition of their own. -/
import Derived.Test.YtjjhigboelhjgaaProg
import Derived.Below
import Derived.Deep.Draws
import Derived.Deep.AppendLies
import Derived.Maps.AppendAt
import Derived.OwnWalk
import Derived.Laws.BytesArg
import Derived.Laws.MakeOwn
import Derived.Laws.OwnMore
import Derived.Deep.OwnRows
import Derived.Tactics
import Derived.Lib.ConvBytes
import Derived.Laws.Slices
import Derived.WalkKit
import Derived.KernelRfl
import Derived.RowKit3
import Derived.Deep.LoopGhost
import Derived.Deep.QuietTactic
import Derived.BigQuiet
import Derived.WideLaws
import Derived.Deep.DeepCutAuto
import Derived.Deep.CutBlock
import Derived.Deep.RegionHeld3
import Derived.Laws.Rows
import Derived.Lib.AppendStr
import Derived.ArgAppend
import Derived.Laws.IdiomCopy
import Derived.OrdersHeld
import Derived.Laws.BitsLemmas
import Derived.RowKit
import Derived.Test.YtjjhigboelhjgaaWWords
import Derived.Test.YtjjhigboelhjgaaWLast
import Derived.Test.YtjjhigboelhjgaaWTab
import Derived.Test.YtjjhigboelhjgaaWFour
import Derived.Test.YtjjhigboelhjgaaWQPut
import Derived.Test.YtjjhigboelhjgaaWApart
import Derived.Test.YtjjhigboelhjgaaWArr
import Derived.Test.YtjjhigboelhjgaaWZeros
import Derived.Test.YtjjhigboelhjgaaWFoot
import Derived.Test.YtjjhigboelhjgaaWKept
import Derived.Test.YtjjhigboelhjgaaWShare
import Derived.Test.YtjjhigboelhjgaaWN
import Derived.Test.YtjjhigboelhjgaaWFootNe
import Derived.Test.YtjjhigboelhjgaaWAt
import Derived.Test.YtjjhigboelhjgaaWEqStruct
import Derived.Test.YtjjhigboelhjgaaWRepsOne
import Derived.Test.YtjjhigboelhjgaaWInv
import Derived.Test.YtjjhigboelhjgaaWInvWords
import Derived.Test.YtjjhigboelhjgaaWGuard
import Derived.Test.YtjjhigboelhjgaaWNEv
import Derived.Test.YtjjhigboelhjgaaWMore
namespace Go.Proofs.Ytjjhigboelhjgaa.PFnExactGetText
open Go.RowKit Go.Proofs.YtjjhigboelhjgaaW.PrintWords Go.Proofs.YtjjhigboelhjgaaW.PrintLast Go.Proofs.YtjjhigboelhjgaaW.PrintMore
attribute [local go_sem] max2_int min2_int max_two min_two max_three min_three max_four min_four   -- for this text's walks alone
set_option linter.unusedVariables false
set_option linter.unusedSimpArgs false



def errW : Option Int → Value
  | none => .nilIface
  | some c => .iface 0 (.int .i64 c)
theorem errW_none : errW none = .nilIface := rfl
theorem errW_some (c : Int) : errW (some c) = .iface 0 (.int .i64 c) := rfl

theorem info5 : (Try.prog.info? 5).map (fun i => (i.zero, i.size, i.bytes)) = some (some (.int .u8 0), 1, 1) := by kernel_rfl
-- the values' own types

end Go.Proofs.Ytjjhigboelhjgaa.PFnExactGetText
