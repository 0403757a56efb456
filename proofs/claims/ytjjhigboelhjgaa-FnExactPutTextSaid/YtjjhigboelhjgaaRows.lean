/-
  No cell of these rows narrows 'for every input' (looked for: loops, veiled, ifaces, maps, wideKeys, modest, calm, conditions, laid).
  DERIVED. THE GIVEN ROWS OF THIS SEAT. 4 by the template 'for every input the law returns true; each argument reads behind the call as it read before'; 0 by the template 'total and deterministic' (their statements: YtjjhigboelhjgaaTotals.lean).
  GIVEN WITH THE SEED: the statements are not yours to turn. If you find one false, say at which input.
  Laid BY PROGRAM, IN A SANDBOX (cutbox-rows.mjs): the forced cells as the released guide's own fill.sh prints them over the translation ec5389c404f54271… (all of the seat's roots in one cut). By AI agents, Wed Nov 11 2026. No macro, syntax, notation, axiom, sorry.
-/
import Derived.Test.YtjjhigboelhjgaaChecked
import GoSem.Claim
import GoSem.ClaimJoined
import GoSem.ClaimMapViews
import Derived.JoinedTies
import Derived.KernelRfl
namespace Go.Proofs.Ytjjhigboelhjgaa
/- THE CELL 'sum', in the pinned program and in every row, IS THE sha256 OF THE DUMP (.gsa) THAT YtjjhigboelhjgaaProg.lean LOADS. Nothing in Lean hashes anything: it is a label: what it is worth is what the hold of that sum in a sandbox is worth. -/
noncomputable def Try.pinned : Pinned := { name := "ytjjhigboelhjgaa", sum := "ec5389c404f54271fb5ec4a5694d7e0b41393bab647719210bf5a6c7d423daa3", checked := Try.checked }
namespace Rows
def none {H : Type} : Left H := { results := [], args := [] }

/-- 'laws.FnExactPutNum': WHATEVER THE INPUT: true; the input reads as it did. -/
def fnExactPutNumSpec : ChangeSpec := { name := "fnExactPutNum", fn := fun _ => fun
  | [d] => { results := [.lit (.bool true)], args := [d] }
  | _ => none }
def fnExactPutNumRow : OpenClaim := { program := "ytjjhigboelhjgaa", sum := "ec5389c404f54271fb5ec4a5694d7e0b41393bab647719210bf5a6c7d423daa3", func := "loop.example/g00448/laws.FnExactPutNum", spec := "fnExactPutNum", apart := false }
def FnExactPutNumSaid : Prop := fnExactPutNumRow.holds Try.pinned (OpenSpec.ofChange fnExactPutNumSpec)

/-- ITS FALSE NEIGHBOUR: 'it returns false'. Refute it at one input. -/
def fnExactPutNumWrong : ChangeSpec := { name := "fnExactPutNum", fn := fun _ => fun
  | [d] => { results := [.lit (.bool false)], args := [d] }
  | _ => none }
def FnExactPutNumWrongFalsely : Prop := fnExactPutNumRow.holds Try.pinned (OpenSpec.ofChange fnExactPutNumWrong)

/-- 'laws.FnExactPutText': WHATEVER THE INPUT: true; the input reads as it did. -/
def fnExactPutTextSpec : ChangeSpec := { name := "fnExactPutText", fn := fun _ => fun
  | [d] => { results := [.lit (.bool true)], args := [d] }
  | _ => none }
def fnExactPutTextRow : OpenClaim := { program := "ytjjhigboelhjgaa", sum := "ec5389c404f54271fb5ec4a5694d7e0b41393bab647719210bf5a6c7d423daa3", func := "loop.example/g00448/laws.FnExactPutText", spec := "fnExactPutText", apart := false }
def FnExactPutTextSaid : Prop := fnExactPutTextRow.holds Try.pinned (OpenSpec.ofChange fnExactPutTextSpec)

/-- ITS FALSE NEIGHBOUR: 'it returns false'. Refute it at one input. -/
def fnExactPutTextWrong : ChangeSpec := { name := "fnExactPutText", fn := fun _ => fun
  | [d] => { results := [.lit (.bool false)], args := [d] }
  | _ => none }
def FnExactPutTextWrongFalsely : Prop := fnExactPutTextRow.holds Try.pinned (OpenSpec.ofChange fnExactPutTextWrong)

/-- 'laws.FnExactGetNum': WHATEVER THE INPUT: true; the input reads as it did. -/
def fnExactGetNumSpec : ChangeSpec := { name := "fnExactGetNum", fn := fun _ => fun
  | [d1, d2] => { results := [.lit (.bool true)], args := [d1, d2] }
  | _ => none }
def fnExactGetNumRow : OpenClaim := { program := "ytjjhigboelhjgaa", sum := "ec5389c404f54271fb5ec4a5694d7e0b41393bab647719210bf5a6c7d423daa3", func := "loop.example/g00448/laws.FnExactGetNum", spec := "fnExactGetNum", apart := false }
def FnExactGetNumSaid : Prop := fnExactGetNumRow.holds Try.pinned (OpenSpec.ofChange fnExactGetNumSpec)

/-- ITS FALSE NEIGHBOUR: 'it returns false'. Refute it at one input. -/
def fnExactGetNumWrong : ChangeSpec := { name := "fnExactGetNum", fn := fun _ => fun
  | [d1, d2] => { results := [.lit (.bool false)], args := [d1, d2] }
  | _ => none }
def FnExactGetNumWrongFalsely : Prop := fnExactGetNumRow.holds Try.pinned (OpenSpec.ofChange fnExactGetNumWrong)

/-- 'laws.FnExactGetText': WHATEVER THE INPUT: true; the input reads as it did. -/
def fnExactGetTextSpec : ChangeSpec := { name := "fnExactGetText", fn := fun _ => fun
  | [d1, d2] => { results := [.lit (.bool true)], args := [d1, d2] }
  | _ => none }
def fnExactGetTextRow : OpenClaim := { program := "ytjjhigboelhjgaa", sum := "ec5389c404f54271fb5ec4a5694d7e0b41393bab647719210bf5a6c7d423daa3", func := "loop.example/g00448/laws.FnExactGetText", spec := "fnExactGetText", apart := false }
def FnExactGetTextSaid : Prop := fnExactGetTextRow.holds Try.pinned (OpenSpec.ofChange fnExactGetTextSpec)

/-- ITS FALSE NEIGHBOUR: 'it returns false'. Refute it at one input. -/
def fnExactGetTextWrong : ChangeSpec := { name := "fnExactGetText", fn := fun _ => fun
  | [d1, d2] => { results := [.lit (.bool false)], args := [d1, d2] }
  | _ => none }
def FnExactGetTextWrongFalsely : Prop := fnExactGetTextRow.holds Try.pinned (OpenSpec.ofChange fnExactGetTextWrong)

/- THE SECOND FORM. 'bulk': how many values and letters a reading holds, each counted each time it is reached (what is shared counts as often as it is met; a slice's spare places count too). A statement '..UptoSaid' is the law's where the arguments, and the package variables that the reading takes, are together of bulk at most 1048576: NARROWER than '..Said'. Prove '..Said' where nothing that the law and all that it calls make is longer than what came in: it says more and counts as full. Else prove '..UptoSaid'. A law counts once. -/
mutual
def uptoBulk {H : Type} : DataW H → Nat
  | .lit (.string bytes) => bytes.length + 1
  | .lit _ => 1
  | .nil => 1
  | .ptr d => uptoBulk d + 1
  | .slice elems spare => uptoBulkAll elems + uptoBulkAll spare + 1
  | .agg parts => uptoBulkAll parts + 1
  | .iface _ d => uptoBulk d + 1
  | .map entries => uptoBulkEntries entries + 1
  | .held _ => 1
def uptoBulkAll {H : Type} : List (DataW H) → Nat
  | [] => 0
  | d :: r => uptoBulk d + uptoBulkAll r
def uptoBulkEntries {H : Type} : List (Lit × DataW H) → Nat
  | [] => 0
  | x :: r => uptoBulkEntry x + uptoBulkEntries r
def uptoBulkEntry {H : Type} : Lit × DataW H → Nat
  | (.string bytes, d) => bytes.length + uptoBulk d + 1
  | (_, d) => uptoBulk d + 1
 end
def uptoSmall : (H : Type) → List (DataW H) → Bool := fun _ ds => decide (uptoBulkAll ds ≤ 1048576)
def OpenSpec.upto (s : _root_.Go.ChangeSpec) : _root_.Go.OpenSpec := { _root_.Go.OpenSpec.ofChange s with cond := some uptoSmall }

/-- 'laws.FnExactPutNum', WHERE WHAT IT READS IS OF BULK AT MOST 1048576: true; the input reads as it did. -/
def fnExactPutNumUptoRow : OpenClaim := { program := "ytjjhigboelhjgaa", sum := "ec5389c404f54271fb5ec4a5694d7e0b41393bab647719210bf5a6c7d423daa3", func := "loop.example/g00448/laws.FnExactPutNum", spec := "fnExactPutNum", apart := false, narrowed := true }
def FnExactPutNumUptoSaid : Prop := fnExactPutNumUptoRow.holds Try.pinned (OpenSpec.upto fnExactPutNumSpec)

/-- 'laws.FnExactPutText', WHERE WHAT IT READS IS OF BULK AT MOST 1048576: true; the input reads as it did. -/
def fnExactPutTextUptoRow : OpenClaim := { program := "ytjjhigboelhjgaa", sum := "ec5389c404f54271fb5ec4a5694d7e0b41393bab647719210bf5a6c7d423daa3", func := "loop.example/g00448/laws.FnExactPutText", spec := "fnExactPutText", apart := false, narrowed := true }
def FnExactPutTextUptoSaid : Prop := fnExactPutTextUptoRow.holds Try.pinned (OpenSpec.upto fnExactPutTextSpec)

/-- 'laws.FnExactGetNum', WHERE WHAT IT READS IS OF BULK AT MOST 1048576: true; the input reads as it did. -/
def fnExactGetNumUptoRow : OpenClaim := { program := "ytjjhigboelhjgaa", sum := "ec5389c404f54271fb5ec4a5694d7e0b41393bab647719210bf5a6c7d423daa3", func := "loop.example/g00448/laws.FnExactGetNum", spec := "fnExactGetNum", apart := false, narrowed := true }
def FnExactGetNumUptoSaid : Prop := fnExactGetNumUptoRow.holds Try.pinned (OpenSpec.upto fnExactGetNumSpec)

/-- 'laws.FnExactGetText', WHERE WHAT IT READS IS OF BULK AT MOST 1048576: true; the input reads as it did. -/
def fnExactGetTextUptoRow : OpenClaim := { program := "ytjjhigboelhjgaa", sum := "ec5389c404f54271fb5ec4a5694d7e0b41393bab647719210bf5a6c7d423daa3", func := "loop.example/g00448/laws.FnExactGetText", spec := "fnExactGetText", apart := false, narrowed := true }
def FnExactGetTextUptoSaid : Prop := fnExactGetTextUptoRow.holds Try.pinned (OpenSpec.upto fnExactGetTextSpec)

end Rows
end Go.Proofs.Ytjjhigboelhjgaa
