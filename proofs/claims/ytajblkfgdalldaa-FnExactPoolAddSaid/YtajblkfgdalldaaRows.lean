/-
  No cell of these rows narrows 'for every input' (looked for: loops, veiled, ifaces, maps, wideKeys, modest, calm, conditions, laid).
  DERIVED. THE GIVEN ROWS OF THIS SEAT. 12 by the template 'for every input the law returns true; each argument reads behind the call as it read before'; 0 by the template 'total and deterministic' (their statements: YtajblkfgdalldaaTotals.lean).
  GIVEN WITH THE SEED: the statements are not yours to turn. If you find one false, say at which input.
  Laid BY PROGRAM, IN A SANDBOX (cutbox-rows.mjs): the forced cells as the released guide's own fill.sh prints them over the translation 12caa9375a264bcf… (all of the seat's roots in one cut). By AI agents, Wed Nov 11 2026. No macro, syntax, notation, axiom, sorry.
-/
import Derived.Test.YtajblkfgdalldaaChecked
import GoSem.Claim
import GoSem.ClaimJoined
import GoSem.ClaimMapViews
import Derived.JoinedTies
import Derived.KernelRfl
namespace Go.Proofs.Ytajblkfgdalldaa
/- THE CELL 'sum', in the pinned program and in every row, IS THE sha256 OF THE DUMP (.gsa) THAT YtajblkfgdalldaaProg.lean LOADS. Nothing in Lean hashes anything: it is a label: what it is worth is what the hold of that sum in a sandbox is worth. -/
noncomputable def Try.pinned : Pinned := { name := "ytajblkfgdalldaa", sum := "12caa9375a264bcffc788973dc20116d7e1bd0ce4dd66ec703d1222458a549cb", checked := Try.checked }
namespace Rows
def none {H : Type} : Left H := { results := [], args := [] }

/-- 'laws.FnExactTotal': WHATEVER THE INPUT: true; the input reads as it did. -/
def fnExactTotalSpec : ChangeSpec := { name := "fnExactTotal", fn := fun _ => fun
  | [d] => { results := [.lit (.bool true)], args := [d] }
  | _ => none }
def fnExactTotalRow : OpenClaim := { program := "ytajblkfgdalldaa", sum := "12caa9375a264bcffc788973dc20116d7e1bd0ce4dd66ec703d1222458a549cb", func := "loop.example/g00448/laws.FnExactTotal", spec := "fnExactTotal", apart := false }
def FnExactTotalSaid : Prop := fnExactTotalRow.holds Try.pinned (OpenSpec.ofChange fnExactTotalSpec)

/-- ITS FALSE NEIGHBOUR: 'it returns false'. Refute it at one input. -/
def fnExactTotalWrong : ChangeSpec := { name := "fnExactTotal", fn := fun _ => fun
  | [d] => { results := [.lit (.bool false)], args := [d] }
  | _ => none }
def FnExactTotalWrongFalsely : Prop := fnExactTotalRow.holds Try.pinned (OpenSpec.ofChange fnExactTotalWrong)

/-- 'laws.FnExactLedgerNew': WHATEVER THE INPUT: true; the input reads as it did. -/
def fnExactLedgerNewSpec : ChangeSpec := { name := "fnExactLedgerNew", fn := fun _ => fun
  | [] => { results := [.lit (.bool true)], args := [] }
  | _ => none }
def fnExactLedgerNewRow : OpenClaim := { program := "ytajblkfgdalldaa", sum := "12caa9375a264bcffc788973dc20116d7e1bd0ce4dd66ec703d1222458a549cb", func := "loop.example/g00448/laws.FnExactLedgerNew", spec := "fnExactLedgerNew", apart := false }
def FnExactLedgerNewSaid : Prop := fnExactLedgerNewRow.holds Try.pinned (OpenSpec.ofChange fnExactLedgerNewSpec)

/-- ITS FALSE NEIGHBOUR: 'it returns false'. Refute it at one input. -/
def fnExactLedgerNewWrong : ChangeSpec := { name := "fnExactLedgerNew", fn := fun _ => fun
  | [] => { results := [.lit (.bool false)], args := [] }
  | _ => none }
def FnExactLedgerNewWrongFalsely : Prop := fnExactLedgerNewRow.holds Try.pinned (OpenSpec.ofChange fnExactLedgerNewWrong)

/-- 'laws.FnExactLedgerOk': WHATEVER THE INPUT: true; the input reads as it did. -/
def fnExactLedgerOkSpec : ChangeSpec := { name := "fnExactLedgerOk", fn := fun _ => fun
  | [d] => { results := [.lit (.bool true)], args := [d] }
  | _ => none }
def fnExactLedgerOkRow : OpenClaim := { program := "ytajblkfgdalldaa", sum := "12caa9375a264bcffc788973dc20116d7e1bd0ce4dd66ec703d1222458a549cb", func := "loop.example/g00448/laws.FnExactLedgerOk", spec := "fnExactLedgerOk", apart := false }
def FnExactLedgerOkSaid : Prop := fnExactLedgerOkRow.holds Try.pinned (OpenSpec.ofChange fnExactLedgerOkSpec)

/-- ITS FALSE NEIGHBOUR: 'it returns false'. Refute it at one input. -/
def fnExactLedgerOkWrong : ChangeSpec := { name := "fnExactLedgerOk", fn := fun _ => fun
  | [d] => { results := [.lit (.bool false)], args := [d] }
  | _ => none }
def FnExactLedgerOkWrongFalsely : Prop := fnExactLedgerOkRow.holds Try.pinned (OpenSpec.ofChange fnExactLedgerOkWrong)

/-- 'laws.FnExactPoolOk': WHATEVER THE INPUT: true; the input reads as it did. -/
def fnExactPoolOkSpec : ChangeSpec := { name := "fnExactPoolOk", fn := fun _ => fun
  | [d] => { results := [.lit (.bool true)], args := [d] }
  | _ => none }
def fnExactPoolOkRow : OpenClaim := { program := "ytajblkfgdalldaa", sum := "12caa9375a264bcffc788973dc20116d7e1bd0ce4dd66ec703d1222458a549cb", func := "loop.example/g00448/laws.FnExactPoolOk", spec := "fnExactPoolOk", apart := false }
def FnExactPoolOkSaid : Prop := fnExactPoolOkRow.holds Try.pinned (OpenSpec.ofChange fnExactPoolOkSpec)

/-- ITS FALSE NEIGHBOUR: 'it returns false'. Refute it at one input. -/
def fnExactPoolOkWrong : ChangeSpec := { name := "fnExactPoolOk", fn := fun _ => fun
  | [d] => { results := [.lit (.bool false)], args := [d] }
  | _ => none }
def FnExactPoolOkWrongFalsely : Prop := fnExactPoolOkRow.holds Try.pinned (OpenSpec.ofChange fnExactPoolOkWrong)

/-- 'laws.FnMoves': WHATEVER THE INPUT: true; the input reads as it did. -/
def fnMovesSpec : ChangeSpec := { name := "fnMoves", fn := fun _ => fun
  | [d] => { results := [.lit (.bool true)], args := [d] }
  | _ => none }
def fnMovesRow : OpenClaim := { program := "ytajblkfgdalldaa", sum := "12caa9375a264bcffc788973dc20116d7e1bd0ce4dd66ec703d1222458a549cb", func := "loop.example/g00448/laws.FnMoves", spec := "fnMoves", apart := false }
def FnMovesSaid : Prop := fnMovesRow.holds Try.pinned (OpenSpec.ofChange fnMovesSpec)

/-- ITS FALSE NEIGHBOUR: 'it returns false'. Refute it at one input. -/
def fnMovesWrong : ChangeSpec := { name := "fnMoves", fn := fun _ => fun
  | [d] => { results := [.lit (.bool false)], args := [d] }
  | _ => none }
def FnMovesWrongFalsely : Prop := fnMovesRow.holds Try.pinned (OpenSpec.ofChange fnMovesWrong)

/-- 'laws.FnExactPay': WHATEVER THE INPUT: true; the input reads as it did. -/
def fnExactPaySpec : ChangeSpec := { name := "fnExactPay", fn := fun _ => fun
  | [d1, d2] => { results := [.lit (.bool true)], args := [d1, d2] }
  | _ => none }
def fnExactPayRow : OpenClaim := { program := "ytajblkfgdalldaa", sum := "12caa9375a264bcffc788973dc20116d7e1bd0ce4dd66ec703d1222458a549cb", func := "loop.example/g00448/laws.FnExactPay", spec := "fnExactPay", apart := false }
def FnExactPaySaid : Prop := fnExactPayRow.holds Try.pinned (OpenSpec.ofChange fnExactPaySpec)

/-- ITS FALSE NEIGHBOUR: 'it returns false'. Refute it at one input. -/
def fnExactPayWrong : ChangeSpec := { name := "fnExactPay", fn := fun _ => fun
  | [d1, d2] => { results := [.lit (.bool false)], args := [d1, d2] }
  | _ => none }
def FnExactPayWrongFalsely : Prop := fnExactPayRow.holds Try.pinned (OpenSpec.ofChange fnExactPayWrong)

/-- 'laws.FnPoor': WHATEVER THE INPUT: true; the input reads as it did. -/
def fnPoorSpec : ChangeSpec := { name := "fnPoor", fn := fun _ => fun
  | [d] => { results := [.lit (.bool true)], args := [d] }
  | _ => none }
def fnPoorRow : OpenClaim := { program := "ytajblkfgdalldaa", sum := "12caa9375a264bcffc788973dc20116d7e1bd0ce4dd66ec703d1222458a549cb", func := "loop.example/g00448/laws.FnPoor", spec := "fnPoor", apart := false }
def FnPoorSaid : Prop := fnPoorRow.holds Try.pinned (OpenSpec.ofChange fnPoorSpec)

/-- ITS FALSE NEIGHBOUR: 'it returns false'. Refute it at one input. -/
def fnPoorWrong : ChangeSpec := { name := "fnPoor", fn := fun _ => fun
  | [d] => { results := [.lit (.bool false)], args := [d] }
  | _ => none }
def FnPoorWrongFalsely : Prop := fnPoorRow.holds Try.pinned (OpenSpec.ofChange fnPoorWrong)

/-- 'laws.FnLedgers': WHATEVER THE INPUT: true; the input reads as it did. -/
def fnLedgersSpec : ChangeSpec := { name := "fnLedgers", fn := fun _ => fun
  | [d] => { results := [.lit (.bool true)], args := [d] }
  | _ => none }
def fnLedgersRow : OpenClaim := { program := "ytajblkfgdalldaa", sum := "12caa9375a264bcffc788973dc20116d7e1bd0ce4dd66ec703d1222458a549cb", func := "loop.example/g00448/laws.FnLedgers", spec := "fnLedgers", apart := false }
def FnLedgersSaid : Prop := fnLedgersRow.holds Try.pinned (OpenSpec.ofChange fnLedgersSpec)

/-- ITS FALSE NEIGHBOUR: 'it returns false'. Refute it at one input. -/
def fnLedgersWrong : ChangeSpec := { name := "fnLedgers", fn := fun _ => fun
  | [d] => { results := [.lit (.bool false)], args := [d] }
  | _ => none }
def FnLedgersWrongFalsely : Prop := fnLedgersRow.holds Try.pinned (OpenSpec.ofChange fnLedgersWrong)

/-- 'laws.FnExactPoolDrop': WHATEVER THE INPUT: true; the input reads as it did. -/
def fnExactPoolDropSpec : ChangeSpec := { name := "fnExactPoolDrop", fn := fun _ => fun
  | [d1, d2] => { results := [.lit (.bool true)], args := [d1, d2] }
  | _ => none }
def fnExactPoolDropRow : OpenClaim := { program := "ytajblkfgdalldaa", sum := "12caa9375a264bcffc788973dc20116d7e1bd0ce4dd66ec703d1222458a549cb", func := "loop.example/g00448/laws.FnExactPoolDrop", spec := "fnExactPoolDrop", apart := false }
def FnExactPoolDropSaid : Prop := fnExactPoolDropRow.holds Try.pinned (OpenSpec.ofChange fnExactPoolDropSpec)

/-- ITS FALSE NEIGHBOUR: 'it returns false'. Refute it at one input. -/
def fnExactPoolDropWrong : ChangeSpec := { name := "fnExactPoolDrop", fn := fun _ => fun
  | [d1, d2] => { results := [.lit (.bool false)], args := [d1, d2] }
  | _ => none }
def FnExactPoolDropWrongFalsely : Prop := fnExactPoolDropRow.holds Try.pinned (OpenSpec.ofChange fnExactPoolDropWrong)

/-- 'laws.FnExactPayAll': WHATEVER THE INPUT: true; the input reads as it did. -/
def fnExactPayAllSpec : ChangeSpec := { name := "fnExactPayAll", fn := fun _ => fun
  | [d1, d2] => { results := [.lit (.bool true)], args := [d1, d2] }
  | _ => none }
def fnExactPayAllRow : OpenClaim := { program := "ytajblkfgdalldaa", sum := "12caa9375a264bcffc788973dc20116d7e1bd0ce4dd66ec703d1222458a549cb", func := "loop.example/g00448/laws.FnExactPayAll", spec := "fnExactPayAll", apart := false }
def FnExactPayAllSaid : Prop := fnExactPayAllRow.holds Try.pinned (OpenSpec.ofChange fnExactPayAllSpec)

/-- ITS FALSE NEIGHBOUR: 'it returns false'. Refute it at one input. -/
def fnExactPayAllWrong : ChangeSpec := { name := "fnExactPayAll", fn := fun _ => fun
  | [d1, d2] => { results := [.lit (.bool false)], args := [d1, d2] }
  | _ => none }
def FnExactPayAllWrongFalsely : Prop := fnExactPayAllRow.holds Try.pinned (OpenSpec.ofChange fnExactPayAllWrong)

/-- 'laws.FnExactPoolTake': WHATEVER THE INPUT: true; the input reads as it did. -/
def fnExactPoolTakeSpec : ChangeSpec := { name := "fnExactPoolTake", fn := fun _ => fun
  | [d1, d2] => { results := [.lit (.bool true)], args := [d1, d2] }
  | _ => none }
def fnExactPoolTakeRow : OpenClaim := { program := "ytajblkfgdalldaa", sum := "12caa9375a264bcffc788973dc20116d7e1bd0ce4dd66ec703d1222458a549cb", func := "loop.example/g00448/laws.FnExactPoolTake", spec := "fnExactPoolTake", apart := false }
def FnExactPoolTakeSaid : Prop := fnExactPoolTakeRow.holds Try.pinned (OpenSpec.ofChange fnExactPoolTakeSpec)

/-- ITS FALSE NEIGHBOUR: 'it returns false'. Refute it at one input. -/
def fnExactPoolTakeWrong : ChangeSpec := { name := "fnExactPoolTake", fn := fun _ => fun
  | [d1, d2] => { results := [.lit (.bool false)], args := [d1, d2] }
  | _ => none }
def FnExactPoolTakeWrongFalsely : Prop := fnExactPoolTakeRow.holds Try.pinned (OpenSpec.ofChange fnExactPoolTakeWrong)

/-- 'laws.FnExactPoolAdd': WHATEVER THE INPUT: true; the input reads as it did. -/
def fnExactPoolAddSpec : ChangeSpec := { name := "fnExactPoolAdd", fn := fun _ => fun
  | [d1, d2] => { results := [.lit (.bool true)], args := [d1, d2] }
  | _ => none }
def fnExactPoolAddRow : OpenClaim := { program := "ytajblkfgdalldaa", sum := "12caa9375a264bcffc788973dc20116d7e1bd0ce4dd66ec703d1222458a549cb", func := "loop.example/g00448/laws.FnExactPoolAdd", spec := "fnExactPoolAdd", inPlace := ["slices.overlaps[loop.example/g00448/impl.Tx]"], unfollowed := true, recurses := true, apart := false }
def FnExactPoolAddSaid : Prop := fnExactPoolAddRow.holds Try.pinned (OpenSpec.ofChange fnExactPoolAddSpec)

/-- ITS FALSE NEIGHBOUR: 'it returns false'. Refute it at one input. -/
def fnExactPoolAddWrong : ChangeSpec := { name := "fnExactPoolAdd", fn := fun _ => fun
  | [d1, d2] => { results := [.lit (.bool false)], args := [d1, d2] }
  | _ => none }
def FnExactPoolAddWrongFalsely : Prop := fnExactPoolAddRow.holds Try.pinned (OpenSpec.ofChange fnExactPoolAddWrong)

/- THE SECOND FORM. 'bulk': how many values and letters a reading holds, each counted each time it is reached (what is shared counts as often as it is met; a slice's spare places count too). A statement '..UptoSaid' is the law's where the arguments, and the package variables that the reading takes, are together of bulk at most 1048576: NARROWER than '..Said'. Prove '..Said' where nothing that the law and all that it calls make is longer than what came in: it says more and counts as full. Else prove '..UptoSaid'. A law counts once. -/
mutual
def uptoBulk {H : Type} : DataW H → Nat
  | .lit (.string bytes) => bytes.length + 1
  | .lit _ => 1
  | .nil => 1
  | .ptr d => uptoBulk d + 1
  | .slice elems spare => uptoBulkAll elems + uptoBulkAll spare + 1
  | .agg parts => uptoBulkAll parts + 1
  | .iface _ d => uptoBulk d + 1
  | .map entries => uptoBulkEntries entries + 1
  | .held _ => 1
def uptoBulkAll {H : Type} : List (DataW H) → Nat
  | [] => 0
  | d :: r => uptoBulk d + uptoBulkAll r
def uptoBulkEntries {H : Type} : List (Lit × DataW H) → Nat
  | [] => 0
  | x :: r => uptoBulkEntry x + uptoBulkEntries r
def uptoBulkEntry {H : Type} : Lit × DataW H → Nat
  | (.string bytes, d) => bytes.length + uptoBulk d + 1
  | (_, d) => uptoBulk d + 1
 end
def uptoSmall : (H : Type) → List (DataW H) → Bool := fun _ ds => decide (uptoBulkAll ds ≤ 1048576)
def OpenSpec.upto (s : _root_.Go.ChangeSpec) : _root_.Go.OpenSpec := { _root_.Go.OpenSpec.ofChange s with cond := some uptoSmall }

/-- 'laws.FnExactTotal', WHERE WHAT IT READS IS OF BULK AT MOST 1048576: true; the input reads as it did. -/
def fnExactTotalUptoRow : OpenClaim := { program := "ytajblkfgdalldaa", sum := "12caa9375a264bcffc788973dc20116d7e1bd0ce4dd66ec703d1222458a549cb", func := "loop.example/g00448/laws.FnExactTotal", spec := "fnExactTotal", apart := false, narrowed := true }
def FnExactTotalUptoSaid : Prop := fnExactTotalUptoRow.holds Try.pinned (OpenSpec.upto fnExactTotalSpec)

/-- 'laws.FnExactLedgerNew', WHERE WHAT IT READS IS OF BULK AT MOST 1048576: true; the input reads as it did. -/
def fnExactLedgerNewUptoRow : OpenClaim := { program := "ytajblkfgdalldaa", sum := "12caa9375a264bcffc788973dc20116d7e1bd0ce4dd66ec703d1222458a549cb", func := "loop.example/g00448/laws.FnExactLedgerNew", spec := "fnExactLedgerNew", apart := false, narrowed := true }
def FnExactLedgerNewUptoSaid : Prop := fnExactLedgerNewUptoRow.holds Try.pinned (OpenSpec.upto fnExactLedgerNewSpec)

/-- 'laws.FnExactLedgerOk', WHERE WHAT IT READS IS OF BULK AT MOST 1048576: true; the input reads as it did. -/
def fnExactLedgerOkUptoRow : OpenClaim := { program := "ytajblkfgdalldaa", sum := "12caa9375a264bcffc788973dc20116d7e1bd0ce4dd66ec703d1222458a549cb", func := "loop.example/g00448/laws.FnExactLedgerOk", spec := "fnExactLedgerOk", apart := false, narrowed := true }
def FnExactLedgerOkUptoSaid : Prop := fnExactLedgerOkUptoRow.holds Try.pinned (OpenSpec.upto fnExactLedgerOkSpec)

/-- 'laws.FnExactPoolOk', WHERE WHAT IT READS IS OF BULK AT MOST 1048576: true; the input reads as it did. -/
def fnExactPoolOkUptoRow : OpenClaim := { program := "ytajblkfgdalldaa", sum := "12caa9375a264bcffc788973dc20116d7e1bd0ce4dd66ec703d1222458a549cb", func := "loop.example/g00448/laws.FnExactPoolOk", spec := "fnExactPoolOk", apart := false, narrowed := true }
def FnExactPoolOkUptoSaid : Prop := fnExactPoolOkUptoRow.holds Try.pinned (OpenSpec.upto fnExactPoolOkSpec)

/-- 'laws.FnMoves', WHERE WHAT IT READS IS OF BULK AT MOST 1048576: true; the input reads as it did. -/
def fnMovesUptoRow : OpenClaim := { program := "ytajblkfgdalldaa", sum := "12caa9375a264bcffc788973dc20116d7e1bd0ce4dd66ec703d1222458a549cb", func := "loop.example/g00448/laws.FnMoves", spec := "fnMoves", apart := false, narrowed := true }
def FnMovesUptoSaid : Prop := fnMovesUptoRow.holds Try.pinned (OpenSpec.upto fnMovesSpec)

/-- 'laws.FnExactPay', WHERE WHAT IT READS IS OF BULK AT MOST 1048576: true; the input reads as it did. -/
def fnExactPayUptoRow : OpenClaim := { program := "ytajblkfgdalldaa", sum := "12caa9375a264bcffc788973dc20116d7e1bd0ce4dd66ec703d1222458a549cb", func := "loop.example/g00448/laws.FnExactPay", spec := "fnExactPay", apart := false, narrowed := true }
def FnExactPayUptoSaid : Prop := fnExactPayUptoRow.holds Try.pinned (OpenSpec.upto fnExactPaySpec)

/-- 'laws.FnPoor', WHERE WHAT IT READS IS OF BULK AT MOST 1048576: true; the input reads as it did. -/
def fnPoorUptoRow : OpenClaim := { program := "ytajblkfgdalldaa", sum := "12caa9375a264bcffc788973dc20116d7e1bd0ce4dd66ec703d1222458a549cb", func := "loop.example/g00448/laws.FnPoor", spec := "fnPoor", apart := false, narrowed := true }
def FnPoorUptoSaid : Prop := fnPoorUptoRow.holds Try.pinned (OpenSpec.upto fnPoorSpec)

/-- 'laws.FnLedgers', WHERE WHAT IT READS IS OF BULK AT MOST 1048576: true; the input reads as it did. -/
def fnLedgersUptoRow : OpenClaim := { program := "ytajblkfgdalldaa", sum := "12caa9375a264bcffc788973dc20116d7e1bd0ce4dd66ec703d1222458a549cb", func := "loop.example/g00448/laws.FnLedgers", spec := "fnLedgers", apart := false, narrowed := true }
def FnLedgersUptoSaid : Prop := fnLedgersUptoRow.holds Try.pinned (OpenSpec.upto fnLedgersSpec)

/-- 'laws.FnExactPoolDrop', WHERE WHAT IT READS IS OF BULK AT MOST 1048576: true; the input reads as it did. -/
def fnExactPoolDropUptoRow : OpenClaim := { program := "ytajblkfgdalldaa", sum := "12caa9375a264bcffc788973dc20116d7e1bd0ce4dd66ec703d1222458a549cb", func := "loop.example/g00448/laws.FnExactPoolDrop", spec := "fnExactPoolDrop", apart := false, narrowed := true }
def FnExactPoolDropUptoSaid : Prop := fnExactPoolDropUptoRow.holds Try.pinned (OpenSpec.upto fnExactPoolDropSpec)

/-- 'laws.FnExactPayAll', WHERE WHAT IT READS IS OF BULK AT MOST 1048576: true; the input reads as it did. -/
def fnExactPayAllUptoRow : OpenClaim := { program := "ytajblkfgdalldaa", sum := "12caa9375a264bcffc788973dc20116d7e1bd0ce4dd66ec703d1222458a549cb", func := "loop.example/g00448/laws.FnExactPayAll", spec := "fnExactPayAll", apart := false, narrowed := true }
def FnExactPayAllUptoSaid : Prop := fnExactPayAllUptoRow.holds Try.pinned (OpenSpec.upto fnExactPayAllSpec)

/-- 'laws.FnExactPoolTake', WHERE WHAT IT READS IS OF BULK AT MOST 1048576: true; the input reads as it did. -/
def fnExactPoolTakeUptoRow : OpenClaim := { program := "ytajblkfgdalldaa", sum := "12caa9375a264bcffc788973dc20116d7e1bd0ce4dd66ec703d1222458a549cb", func := "loop.example/g00448/laws.FnExactPoolTake", spec := "fnExactPoolTake", apart := false, narrowed := true }
def FnExactPoolTakeUptoSaid : Prop := fnExactPoolTakeUptoRow.holds Try.pinned (OpenSpec.upto fnExactPoolTakeSpec)

/-- 'laws.FnExactPoolAdd', WHERE WHAT IT READS IS OF BULK AT MOST 1048576: true; the input reads as it did. -/
def fnExactPoolAddUptoRow : OpenClaim := { program := "ytajblkfgdalldaa", sum := "12caa9375a264bcffc788973dc20116d7e1bd0ce4dd66ec703d1222458a549cb", func := "loop.example/g00448/laws.FnExactPoolAdd", spec := "fnExactPoolAdd", inPlace := ["slices.overlaps[loop.example/g00448/impl.Tx]"], unfollowed := true, recurses := true, apart := false, narrowed := true }
def FnExactPoolAddUptoSaid : Prop := fnExactPoolAddUptoRow.holds Try.pinned (OpenSpec.upto fnExactPoolAddSpec)

end Rows
end Go.Proofs.Ytajblkfgdalldaa
