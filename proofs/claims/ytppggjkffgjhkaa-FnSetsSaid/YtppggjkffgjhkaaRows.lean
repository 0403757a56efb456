/-
  No cell of these rows narrows 'for every input' (looked for: loops, veiled, ifaces, maps, wideKeys, modest, calm, conditions, laid).
  DERIVED. THE GIVEN ROWS OF THIS SEAT. 12 by the template 'for every input the law returns true; each argument reads behind the call as it read before'; 0 by the template 'total and deterministic' (their statements: YtppggjkffgjhkaaTotals.lean).
  GIVEN WITH THE SEED: the statements are not yours to turn. If you find one false, say at which input.
  Laid BY PROGRAM, IN A SANDBOX (cutbox-rows.mjs): the forced cells as the released guide's own fill.sh prints them over the translation 894b5094cbd47872… (all of the seat's roots in one cut). By AI agents, Wed Nov 11 2026. No macro, syntax, notation, axiom, sorry.
-/
import Derived.Test.YtppggjkffgjhkaaChecked
import GoSem.Claim
import GoSem.ClaimJoined
import GoSem.ClaimMapViews
import Derived.JoinedTies
import Derived.KernelRfl
namespace Go.Proofs.Ytppggjkffgjhkaa
/- THE CELL 'sum', in the pinned program and in every row, IS THE sha256 OF THE DUMP (.gsa) THAT YtppggjkffgjhkaaProg.lean LOADS. Nothing in Lean hashes anything: it is a label: what it is worth is what the hold of that sum in a sandbox is worth. -/
noncomputable def Try.pinned : Pinned := { name := "ytppggjkffgjhkaa", sum := "894b5094cbd47872f0f04ce6710b20cdc7f2df49ce54e54d464ac2e55e565f0b", checked := Try.checked }
namespace Rows
def none {H : Type} : Left H := { results := [], args := [] }

/-- 'laws.FnExactConstants': WHATEVER THE INPUT: true; the input reads as it did. -/
def fnExactConstantsSpec : ChangeSpec := { name := "fnExactConstants", fn := fun _ => fun
  | [] => { results := [.lit (.bool true)], args := [] }
  | _ => none }
def fnExactConstantsRow : OpenClaim := { program := "ytppggjkffgjhkaa", sum := "894b5094cbd47872f0f04ce6710b20cdc7f2df49ce54e54d464ac2e55e565f0b", func := "loop.example/g00448/laws.FnExactConstants", spec := "fnExactConstants", apart := false }
def FnExactConstantsSaid : Prop := fnExactConstantsRow.holds Try.pinned (OpenSpec.ofChange fnExactConstantsSpec)

/-- ITS FALSE NEIGHBOUR: 'it returns false'. Refute it at one input. -/
def fnExactConstantsWrong : ChangeSpec := { name := "fnExactConstants", fn := fun _ => fun
  | [] => { results := [.lit (.bool false)], args := [] }
  | _ => none }
def FnExactConstantsWrongFalsely : Prop := fnExactConstantsRow.holds Try.pinned (OpenSpec.ofChange fnExactConstantsWrong)

/-- 'laws.FnExactConfOk': WHATEVER THE INPUT: true; the input reads as it did. -/
def fnExactConfOkSpec : ChangeSpec := { name := "fnExactConfOk", fn := fun _ => fun
  | [d] => { results := [.lit (.bool true)], args := [d] }
  | _ => none }
def fnExactConfOkRow : OpenClaim := { program := "ytppggjkffgjhkaa", sum := "894b5094cbd47872f0f04ce6710b20cdc7f2df49ce54e54d464ac2e55e565f0b", func := "loop.example/g00448/laws.FnExactConfOk", spec := "fnExactConfOk", apart := false }
def FnExactConfOkSaid : Prop := fnExactConfOkRow.holds Try.pinned (OpenSpec.ofChange fnExactConfOkSpec)

/-- ITS FALSE NEIGHBOUR: 'it returns false'. Refute it at one input. -/
def fnExactConfOkWrong : ChangeSpec := { name := "fnExactConfOk", fn := fun _ => fun
  | [d] => { results := [.lit (.bool false)], args := [d] }
  | _ => none }
def FnExactConfOkWrongFalsely : Prop := fnExactConfOkRow.holds Try.pinned (OpenSpec.ofChange fnExactConfOkWrong)

/-- 'laws.FnExactTxOk': WHATEVER THE INPUT: true; the input reads as it did. -/
def fnExactTxOkSpec : ChangeSpec := { name := "fnExactTxOk", fn := fun _ => fun
  | [d] => { results := [.lit (.bool true)], args := [d] }
  | _ => none }
def fnExactTxOkRow : OpenClaim := { program := "ytppggjkffgjhkaa", sum := "894b5094cbd47872f0f04ce6710b20cdc7f2df49ce54e54d464ac2e55e565f0b", func := "loop.example/g00448/laws.FnExactTxOk", spec := "fnExactTxOk", apart := false }
def FnExactTxOkSaid : Prop := fnExactTxOkRow.holds Try.pinned (OpenSpec.ofChange fnExactTxOkSpec)

/-- ITS FALSE NEIGHBOUR: 'it returns false'. Refute it at one input. -/
def fnExactTxOkWrong : ChangeSpec := { name := "fnExactTxOk", fn := fun _ => fun
  | [d] => { results := [.lit (.bool false)], args := [d] }
  | _ => none }
def FnExactTxOkWrongFalsely : Prop := fnExactTxOkRow.holds Try.pinned (OpenSpec.ofChange fnExactTxOkWrong)

/-- 'laws.FnExactFaults': WHATEVER THE INPUT: true; the input reads as it did. -/
def fnExactFaultsSpec : ChangeSpec := { name := "fnExactFaults", fn := fun _ => fun
  | [d] => { results := [.lit (.bool true)], args := [d] }
  | _ => none }
def fnExactFaultsRow : OpenClaim := { program := "ytppggjkffgjhkaa", sum := "894b5094cbd47872f0f04ce6710b20cdc7f2df49ce54e54d464ac2e55e565f0b", func := "loop.example/g00448/laws.FnExactFaults", spec := "fnExactFaults", apart := false }
def FnExactFaultsSaid : Prop := fnExactFaultsRow.holds Try.pinned (OpenSpec.ofChange fnExactFaultsSpec)

/-- ITS FALSE NEIGHBOUR: 'it returns false'. Refute it at one input. -/
def fnExactFaultsWrong : ChangeSpec := { name := "fnExactFaults", fn := fun _ => fun
  | [d] => { results := [.lit (.bool false)], args := [d] }
  | _ => none }
def FnExactFaultsWrongFalsely : Prop := fnExactFaultsRow.holds Try.pinned (OpenSpec.ofChange fnExactFaultsWrong)

/-- 'laws.FnExactQuorum': WHATEVER THE INPUT: true; the input reads as it did. -/
def fnExactQuorumSpec : ChangeSpec := { name := "fnExactQuorum", fn := fun _ => fun
  | [d] => { results := [.lit (.bool true)], args := [d] }
  | _ => none }
def fnExactQuorumRow : OpenClaim := { program := "ytppggjkffgjhkaa", sum := "894b5094cbd47872f0f04ce6710b20cdc7f2df49ce54e54d464ac2e55e565f0b", func := "loop.example/g00448/laws.FnExactQuorum", spec := "fnExactQuorum", apart := false }
def FnExactQuorumSaid : Prop := fnExactQuorumRow.holds Try.pinned (OpenSpec.ofChange fnExactQuorumSpec)

/-- ITS FALSE NEIGHBOUR: 'it returns false'. Refute it at one input. -/
def fnExactQuorumWrong : ChangeSpec := { name := "fnExactQuorum", fn := fun _ => fun
  | [d] => { results := [.lit (.bool false)], args := [d] }
  | _ => none }
def FnExactQuorumWrongFalsely : Prop := fnExactQuorumRow.holds Try.pinned (OpenSpec.ofChange fnExactQuorumWrong)

/-- 'laws.FnExactSetOk': WHATEVER THE INPUT: true; the input reads as it did. -/
def fnExactSetOkSpec : ChangeSpec := { name := "fnExactSetOk", fn := fun _ => fun
  | [d1, d2] => { results := [.lit (.bool true)], args := [d1, d2] }
  | _ => none }
def fnExactSetOkRow : OpenClaim := { program := "ytppggjkffgjhkaa", sum := "894b5094cbd47872f0f04ce6710b20cdc7f2df49ce54e54d464ac2e55e565f0b", func := "loop.example/g00448/laws.FnExactSetOk", spec := "fnExactSetOk", apart := false }
def FnExactSetOkSaid : Prop := fnExactSetOkRow.holds Try.pinned (OpenSpec.ofChange fnExactSetOkSpec)

/-- ITS FALSE NEIGHBOUR: 'it returns false'. Refute it at one input. -/
def fnExactSetOkWrong : ChangeSpec := { name := "fnExactSetOk", fn := fun _ => fun
  | [d1, d2] => { results := [.lit (.bool false)], args := [d1, d2] }
  | _ => none }
def FnExactSetOkWrongFalsely : Prop := fnExactSetOkRow.holds Try.pinned (OpenSpec.ofChange fnExactSetOkWrong)

/-- 'laws.FnExactSetHas': WHATEVER THE INPUT: true; the input reads as it did. -/
def fnExactSetHasSpec : ChangeSpec := { name := "fnExactSetHas", fn := fun _ => fun
  | [d1, d2] => { results := [.lit (.bool true)], args := [d1, d2] }
  | _ => none }
def fnExactSetHasRow : OpenClaim := { program := "ytppggjkffgjhkaa", sum := "894b5094cbd47872f0f04ce6710b20cdc7f2df49ce54e54d464ac2e55e565f0b", func := "loop.example/g00448/laws.FnExactSetHas", spec := "fnExactSetHas", apart := false }
def FnExactSetHasSaid : Prop := fnExactSetHasRow.holds Try.pinned (OpenSpec.ofChange fnExactSetHasSpec)

/-- ITS FALSE NEIGHBOUR: 'it returns false'. Refute it at one input. -/
def fnExactSetHasWrong : ChangeSpec := { name := "fnExactSetHas", fn := fun _ => fun
  | [d1, d2] => { results := [.lit (.bool false)], args := [d1, d2] }
  | _ => none }
def FnExactSetHasWrongFalsely : Prop := fnExactSetHasRow.holds Try.pinned (OpenSpec.ofChange fnExactSetHasWrong)

/-- 'laws.FnExactQcFirst': WHATEVER THE INPUT: true; the input reads as it did. -/
def fnExactQcFirstSpec : ChangeSpec := { name := "fnExactQcFirst", fn := fun _ => fun
  | [] => { results := [.lit (.bool true)], args := [] }
  | _ => none }
def fnExactQcFirstRow : OpenClaim := { program := "ytppggjkffgjhkaa", sum := "894b5094cbd47872f0f04ce6710b20cdc7f2df49ce54e54d464ac2e55e565f0b", func := "loop.example/g00448/laws.FnExactQcFirst", spec := "fnExactQcFirst", apart := false }
def FnExactQcFirstSaid : Prop := fnExactQcFirstRow.holds Try.pinned (OpenSpec.ofChange fnExactQcFirstSpec)

/-- ITS FALSE NEIGHBOUR: 'it returns false'. Refute it at one input. -/
def fnExactQcFirstWrong : ChangeSpec := { name := "fnExactQcFirst", fn := fun _ => fun
  | [] => { results := [.lit (.bool false)], args := [] }
  | _ => none }
def FnExactQcFirstWrongFalsely : Prop := fnExactQcFirstRow.holds Try.pinned (OpenSpec.ofChange fnExactQcFirstWrong)

/-- 'laws.FnExactCommon': WHATEVER THE INPUT: true; the input reads as it did. -/
def fnExactCommonSpec : ChangeSpec := { name := "fnExactCommon", fn := fun _ => fun
  | [d1, d2] => { results := [.lit (.bool true)], args := [d1, d2] }
  | _ => none }
def fnExactCommonRow : OpenClaim := { program := "ytppggjkffgjhkaa", sum := "894b5094cbd47872f0f04ce6710b20cdc7f2df49ce54e54d464ac2e55e565f0b", func := "loop.example/g00448/laws.FnExactCommon", spec := "fnExactCommon", apart := false }
def FnExactCommonSaid : Prop := fnExactCommonRow.holds Try.pinned (OpenSpec.ofChange fnExactCommonSpec)

/-- ITS FALSE NEIGHBOUR: 'it returns false'. Refute it at one input. -/
def fnExactCommonWrong : ChangeSpec := { name := "fnExactCommon", fn := fun _ => fun
  | [d1, d2] => { results := [.lit (.bool false)], args := [d1, d2] }
  | _ => none }
def FnExactCommonWrongFalsely : Prop := fnExactCommonRow.holds Try.pinned (OpenSpec.ofChange fnExactCommonWrong)

/-- 'laws.FnExactSetAdd': WHATEVER THE INPUT: true; the input reads as it did. -/
def fnExactSetAddSpec : ChangeSpec := { name := "fnExactSetAdd", fn := fun _ => fun
  | [d1, d2] => { results := [.lit (.bool true)], args := [d1, d2] }
  | _ => none }
def fnExactSetAddRow : OpenClaim := { program := "ytppggjkffgjhkaa", sum := "894b5094cbd47872f0f04ce6710b20cdc7f2df49ce54e54d464ac2e55e565f0b", func := "loop.example/g00448/laws.FnExactSetAdd", spec := "fnExactSetAdd", inPlace := ["slices.overlaps[int]"], unfollowed := true, recurses := true, apart := false }
def FnExactSetAddSaid : Prop := fnExactSetAddRow.holds Try.pinned (OpenSpec.ofChange fnExactSetAddSpec)

/-- ITS FALSE NEIGHBOUR: 'it returns false'. Refute it at one input. -/
def fnExactSetAddWrong : ChangeSpec := { name := "fnExactSetAdd", fn := fun _ => fun
  | [d1, d2] => { results := [.lit (.bool false)], args := [d1, d2] }
  | _ => none }
def FnExactSetAddWrongFalsely : Prop := fnExactSetAddRow.holds Try.pinned (OpenSpec.ofChange fnExactSetAddWrong)

/-- 'laws.FnExactSetJoin': WHATEVER THE INPUT: true; the input reads as it did. -/
def fnExactSetJoinSpec : ChangeSpec := { name := "fnExactSetJoin", fn := fun _ => fun
  | [d1, d2] => { results := [.lit (.bool true)], args := [d1, d2] }
  | _ => none }
def fnExactSetJoinRow : OpenClaim := { program := "ytppggjkffgjhkaa", sum := "894b5094cbd47872f0f04ce6710b20cdc7f2df49ce54e54d464ac2e55e565f0b", func := "loop.example/g00448/laws.FnExactSetJoin", spec := "fnExactSetJoin", inPlace := ["slices.overlaps[int]"], unfollowed := true, recurses := true, apart := false }
def FnExactSetJoinSaid : Prop := fnExactSetJoinRow.holds Try.pinned (OpenSpec.ofChange fnExactSetJoinSpec)

/-- ITS FALSE NEIGHBOUR: 'it returns false'. Refute it at one input. -/
def fnExactSetJoinWrong : ChangeSpec := { name := "fnExactSetJoin", fn := fun _ => fun
  | [d1, d2] => { results := [.lit (.bool false)], args := [d1, d2] }
  | _ => none }
def FnExactSetJoinWrongFalsely : Prop := fnExactSetJoinRow.holds Try.pinned (OpenSpec.ofChange fnExactSetJoinWrong)

/-- 'laws.FnSets': WHATEVER THE INPUT: true; the input reads as it did. -/
def fnSetsSpec : ChangeSpec := { name := "fnSets", fn := fun _ => fun
  | [d] => { results := [.lit (.bool true)], args := [d] }
  | _ => none }
def fnSetsRow : OpenClaim := { program := "ytppggjkffgjhkaa", sum := "894b5094cbd47872f0f04ce6710b20cdc7f2df49ce54e54d464ac2e55e565f0b", func := "loop.example/g00448/laws.FnSets", spec := "fnSets", inPlace := ["slices.overlaps[int]"], unfollowed := true, recurses := true, apart := false }
def FnSetsSaid : Prop := fnSetsRow.holds Try.pinned (OpenSpec.ofChange fnSetsSpec)

/-- ITS FALSE NEIGHBOUR: 'it returns false'. Refute it at one input. -/
def fnSetsWrong : ChangeSpec := { name := "fnSets", fn := fun _ => fun
  | [d] => { results := [.lit (.bool false)], args := [d] }
  | _ => none }
def FnSetsWrongFalsely : Prop := fnSetsRow.holds Try.pinned (OpenSpec.ofChange fnSetsWrong)

/- THE SECOND FORM. 'bulk': how many values and letters a reading holds, each counted each time it is reached (what is shared counts as often as it is met; a slice's spare places count too). A statement '..UptoSaid' is the law's where the arguments, and the package variables that the reading takes, are together of bulk at most 1048576: NARROWER than '..Said'. Prove '..Said' where nothing that the law and all that it calls make is longer than what came in: it says more and counts as full. Else prove '..UptoSaid'. A law counts once. -/
mutual
def uptoBulk {H : Type} : DataW H → Nat
  | .lit (.string bytes) => bytes.length + 1
  | .lit _ => 1
  | .nil => 1
  | .ptr d => uptoBulk d + 1
  | .slice elems spare => uptoBulkAll elems + uptoBulkAll spare + 1
  | .agg parts => uptoBulkAll parts + 1
  | .iface _ d => uptoBulk d + 1
  | .map entries => uptoBulkEntries entries + 1
  | .held _ => 1
def uptoBulkAll {H : Type} : List (DataW H) → Nat
  | [] => 0
  | d :: r => uptoBulk d + uptoBulkAll r
def uptoBulkEntries {H : Type} : List (Lit × DataW H) → Nat
  | [] => 0
  | x :: r => uptoBulkEntry x + uptoBulkEntries r
def uptoBulkEntry {H : Type} : Lit × DataW H → Nat
  | (.string bytes, d) => bytes.length + uptoBulk d + 1
  | (_, d) => uptoBulk d + 1
 end
def uptoSmall : (H : Type) → List (DataW H) → Bool := fun _ ds => decide (uptoBulkAll ds ≤ 1048576)
def OpenSpec.upto (s : _root_.Go.ChangeSpec) : _root_.Go.OpenSpec := { _root_.Go.OpenSpec.ofChange s with cond := some uptoSmall }

/-- 'laws.FnExactConstants', WHERE WHAT IT READS IS OF BULK AT MOST 1048576: true; the input reads as it did. -/
def fnExactConstantsUptoRow : OpenClaim := { program := "ytppggjkffgjhkaa", sum := "894b5094cbd47872f0f04ce6710b20cdc7f2df49ce54e54d464ac2e55e565f0b", func := "loop.example/g00448/laws.FnExactConstants", spec := "fnExactConstants", apart := false, narrowed := true }
def FnExactConstantsUptoSaid : Prop := fnExactConstantsUptoRow.holds Try.pinned (OpenSpec.upto fnExactConstantsSpec)

/-- 'laws.FnExactConfOk', WHERE WHAT IT READS IS OF BULK AT MOST 1048576: true; the input reads as it did. -/
def fnExactConfOkUptoRow : OpenClaim := { program := "ytppggjkffgjhkaa", sum := "894b5094cbd47872f0f04ce6710b20cdc7f2df49ce54e54d464ac2e55e565f0b", func := "loop.example/g00448/laws.FnExactConfOk", spec := "fnExactConfOk", apart := false, narrowed := true }
def FnExactConfOkUptoSaid : Prop := fnExactConfOkUptoRow.holds Try.pinned (OpenSpec.upto fnExactConfOkSpec)

/-- 'laws.FnExactTxOk', WHERE WHAT IT READS IS OF BULK AT MOST 1048576: true; the input reads as it did. -/
def fnExactTxOkUptoRow : OpenClaim := { program := "ytppggjkffgjhkaa", sum := "894b5094cbd47872f0f04ce6710b20cdc7f2df49ce54e54d464ac2e55e565f0b", func := "loop.example/g00448/laws.FnExactTxOk", spec := "fnExactTxOk", apart := false, narrowed := true }
def FnExactTxOkUptoSaid : Prop := fnExactTxOkUptoRow.holds Try.pinned (OpenSpec.upto fnExactTxOkSpec)

/-- 'laws.FnExactFaults', WHERE WHAT IT READS IS OF BULK AT MOST 1048576: true; the input reads as it did. -/
def fnExactFaultsUptoRow : OpenClaim := { program := "ytppggjkffgjhkaa", sum := "894b5094cbd47872f0f04ce6710b20cdc7f2df49ce54e54d464ac2e55e565f0b", func := "loop.example/g00448/laws.FnExactFaults", spec := "fnExactFaults", apart := false, narrowed := true }
def FnExactFaultsUptoSaid : Prop := fnExactFaultsUptoRow.holds Try.pinned (OpenSpec.upto fnExactFaultsSpec)

/-- 'laws.FnExactQuorum', WHERE WHAT IT READS IS OF BULK AT MOST 1048576: true; the input reads as it did. -/
def fnExactQuorumUptoRow : OpenClaim := { program := "ytppggjkffgjhkaa", sum := "894b5094cbd47872f0f04ce6710b20cdc7f2df49ce54e54d464ac2e55e565f0b", func := "loop.example/g00448/laws.FnExactQuorum", spec := "fnExactQuorum", apart := false, narrowed := true }
def FnExactQuorumUptoSaid : Prop := fnExactQuorumUptoRow.holds Try.pinned (OpenSpec.upto fnExactQuorumSpec)

/-- 'laws.FnExactSetOk', WHERE WHAT IT READS IS OF BULK AT MOST 1048576: true; the input reads as it did. -/
def fnExactSetOkUptoRow : OpenClaim := { program := "ytppggjkffgjhkaa", sum := "894b5094cbd47872f0f04ce6710b20cdc7f2df49ce54e54d464ac2e55e565f0b", func := "loop.example/g00448/laws.FnExactSetOk", spec := "fnExactSetOk", apart := false, narrowed := true }
def FnExactSetOkUptoSaid : Prop := fnExactSetOkUptoRow.holds Try.pinned (OpenSpec.upto fnExactSetOkSpec)

/-- 'laws.FnExactSetHas', WHERE WHAT IT READS IS OF BULK AT MOST 1048576: true; the input reads as it did. -/
def fnExactSetHasUptoRow : OpenClaim := { program := "ytppggjkffgjhkaa", sum := "894b5094cbd47872f0f04ce6710b20cdc7f2df49ce54e54d464ac2e55e565f0b", func := "loop.example/g00448/laws.FnExactSetHas", spec := "fnExactSetHas", apart := false, narrowed := true }
def FnExactSetHasUptoSaid : Prop := fnExactSetHasUptoRow.holds Try.pinned (OpenSpec.upto fnExactSetHasSpec)

/-- 'laws.FnExactQcFirst', WHERE WHAT IT READS IS OF BULK AT MOST 1048576: true; the input reads as it did. -/
def fnExactQcFirstUptoRow : OpenClaim := { program := "ytppggjkffgjhkaa", sum := "894b5094cbd47872f0f04ce6710b20cdc7f2df49ce54e54d464ac2e55e565f0b", func := "loop.example/g00448/laws.FnExactQcFirst", spec := "fnExactQcFirst", apart := false, narrowed := true }
def FnExactQcFirstUptoSaid : Prop := fnExactQcFirstUptoRow.holds Try.pinned (OpenSpec.upto fnExactQcFirstSpec)

/-- 'laws.FnExactCommon', WHERE WHAT IT READS IS OF BULK AT MOST 1048576: true; the input reads as it did. -/
def fnExactCommonUptoRow : OpenClaim := { program := "ytppggjkffgjhkaa", sum := "894b5094cbd47872f0f04ce6710b20cdc7f2df49ce54e54d464ac2e55e565f0b", func := "loop.example/g00448/laws.FnExactCommon", spec := "fnExactCommon", apart := false, narrowed := true }
def FnExactCommonUptoSaid : Prop := fnExactCommonUptoRow.holds Try.pinned (OpenSpec.upto fnExactCommonSpec)

/-- 'laws.FnExactSetAdd', WHERE WHAT IT READS IS OF BULK AT MOST 1048576: true; the input reads as it did. -/
def fnExactSetAddUptoRow : OpenClaim := { program := "ytppggjkffgjhkaa", sum := "894b5094cbd47872f0f04ce6710b20cdc7f2df49ce54e54d464ac2e55e565f0b", func := "loop.example/g00448/laws.FnExactSetAdd", spec := "fnExactSetAdd", inPlace := ["slices.overlaps[int]"], unfollowed := true, recurses := true, apart := false, narrowed := true }
def FnExactSetAddUptoSaid : Prop := fnExactSetAddUptoRow.holds Try.pinned (OpenSpec.upto fnExactSetAddSpec)

/-- 'laws.FnExactSetJoin', WHERE WHAT IT READS IS OF BULK AT MOST 1048576: true; the input reads as it did. -/
def fnExactSetJoinUptoRow : OpenClaim := { program := "ytppggjkffgjhkaa", sum := "894b5094cbd47872f0f04ce6710b20cdc7f2df49ce54e54d464ac2e55e565f0b", func := "loop.example/g00448/laws.FnExactSetJoin", spec := "fnExactSetJoin", inPlace := ["slices.overlaps[int]"], unfollowed := true, recurses := true, apart := false, narrowed := true }
def FnExactSetJoinUptoSaid : Prop := fnExactSetJoinUptoRow.holds Try.pinned (OpenSpec.upto fnExactSetJoinSpec)

/-- 'laws.FnSets', WHERE WHAT IT READS IS OF BULK AT MOST 1048576: true; the input reads as it did. -/
def fnSetsUptoRow : OpenClaim := { program := "ytppggjkffgjhkaa", sum := "894b5094cbd47872f0f04ce6710b20cdc7f2df49ce54e54d464ac2e55e565f0b", func := "loop.example/g00448/laws.FnSets", spec := "fnSets", inPlace := ["slices.overlaps[int]"], unfollowed := true, recurses := true, apart := false, narrowed := true }
def FnSetsUptoSaid : Prop := fnSetsUptoRow.holds Try.pinned (OpenSpec.upto fnSetsSpec)

end Rows
end Go.Proofs.Ytppggjkffgjhkaa
