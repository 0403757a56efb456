/- Walks of the functions that a law of seat YtjjhigboelhjgaaDoor reaches, each against a Lean function, printed by this session's wip/myprint.py; no condition of their own. -/
import Derived.Test.YtjjhigboelhjgaaDoorProg
import Derived.Below
import Derived.Deep.Draws
import Derived.Deep.AppendLies
import Derived.Maps.AppendAt
import Derived.OwnWalk
import Derived.Laws.BytesArg
import Derived.Laws.MakeOwn
import Derived.Laws.OwnMore
import Derived.Deep.OwnRows
import Derived.Tactics
import Derived.Lib.ConvBytes
import Derived.Laws.Slices
import Derived.WalkKit
import Derived.KernelRfl
import Derived.RowKit3
import Derived.Deep.LoopGhost
import Derived.Deep.QuietTactic
import Derived.BigQuiet
import Derived.WideLaws
import Derived.Deep.DeepCutAuto
import Derived.Deep.CutBlock
import Derived.Deep.RegionHeld3
import Derived.Laws.Rows
import Derived.Lib.AppendStr
import Derived.ArgAppend
import Derived.Laws.IdiomCopy
import Derived.OrdersHeld
import Derived.Laws.BitsLemmas
import Derived.RowKit
import Derived.Test.YtjjhigboelhjgaaDoorShelf
import Derived.WalkSmall
import Derived.Lib.Join
import Derived.Lib.LastIndexByte
import Derived.StillTailTactics
import Derived.Test.YtjjhigboelhjgaaDoorH
import Derived.Test.YtjjhigboelhjgaaDoorWWords
import Derived.Test.YtjjhigboelhjgaaDoorWLast
import Derived.Test.YtjjhigboelhjgaaDoorWTab
import Derived.Test.YtjjhigboelhjgaaDoorWFour
import Derived.Test.YtjjhigboelhjgaaDoorWQPut
import Derived.Test.YtjjhigboelhjgaaDoorWApart
import Derived.Test.YtjjhigboelhjgaaDoorWArr
import Derived.Test.YtjjhigboelhjgaaDoorWZeros
import Derived.Test.YtjjhigboelhjgaaDoorWFoot
import Derived.Test.YtjjhigboelhjgaaDoorWKept
import Derived.Test.YtjjhigboelhjgaaDoorWShare
import Derived.Test.YtjjhigboelhjgaaDoorWN
import Derived.Test.YtjjhigboelhjgaaDoorWFootNe
import Derived.Test.YtjjhigboelhjgaaDoorWAt
import Derived.Test.YtjjhigboelhjgaaDoorWEqStruct
import Derived.Test.YtjjhigboelhjgaaDoorWRepsOne
import Derived.Test.YtjjhigboelhjgaaDoorWInv
import Derived.Test.YtjjhigboelhjgaaDoorWInvWords
import Derived.Test.YtjjhigboelhjgaaDoorWGuard
import Derived.Test.YtjjhigboelhjgaaDoorWNEv
import Derived.Test.YtjjhigboelhjgaaDoorWMore
namespace Go.Proofs.YtjjhigboelhjgaaDoor.PFnExactTxOf
open Go.RowKit Go.Proofs.YtjjhigboelhjgaaDoorW.PrintWords Go.Proofs.YtjjhigboelhjgaaDoorW.PrintLast Go.Proofs.YtjjhigboelhjgaaDoorW.PrintMore
attribute [local go_sem] max2_int min2_int max_two min_two max_three min_three max_four min_four   -- for this text's walks alone
set_option linter.unusedVariables false
set_option linter.unusedSimpArgs false



def errW : Option Int → Value
  | none => .nilIface
  | some c => .iface 0 (.int .i64 c)
theorem errW_none : errW none = .nilIface := rfl
theorem errW_some (c : Int) : errW (some c) = .iface 0 (.int .i64 c) := rfl

theorem info5 : (Tryd.prog.info? 5).map (fun i => (i.zero, i.size, i.bytes)) = some (some (.int .u8 0), 1, 1) := by kernel_rfl
-- the values' own types

end Go.Proofs.YtjjhigboelhjgaaDoor.PFnExactTxOf
