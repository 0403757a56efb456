/-
  NARROWER THAN 'FOR EVERY INPUT', by the rows' own cells (each row's printed sentence says how): FnExactDigits: laid · FnExactNumber: laid · FnExactTxText: laid · FnExactTxsText: laid · FnExactSplit: laid · FnExactTxOf: laid · FnExactTxsOf: laid · FnNumbers: laid.
  DERIVED. THE GIVEN ROWS OF THIS SEAT. 8 by the template 'for every input the law returns true; each argument reads behind the call as it read before'; 0 by the template 'total and deterministic' (their statements: YtjjhigboelhjgaaDoorTotals.lean).
  GIVEN WITH THE SEED: the statements are not yours to turn. If you find one false, say at which input.
  Laid BY PROGRAM, IN A SANDBOX (cutbox-rows.mjs): the forced cells as the released guide's own fill.sh prints them over the translation 44a6e718cd466e32… (all of the seat's roots in one cut). By AI agents, Wed Nov 11 2026. No macro, syntax, notation, axiom, sorry.
-/
import Derived.Test.YtjjhigboelhjgaaDoorChecked
import GoSem.PinnedTables
import GoSem.Claim
import GoSem.ClaimJoined
import GoSem.ClaimMapViews
import Derived.JoinedTies
import Derived.KernelRfl
namespace Go.Proofs.YtjjhigboelhjgaaDoor
/- THE CELL 'sum', in the pinned program and in every row, IS THE sha256 OF THE DUMP (.gsa) THAT YtjjhigboelhjgaaDoorProg.lean LOADS. Nothing in Lean hashes anything: it is a label: what it is worth is what the hold of that sum in a sandbox is worth. -/
noncomputable def Tryd.pinned : Pinned := { name := "ytjjhigboelhjgaadoor", sum := "44a6e718cd466e32719038d6b86088c0ad0232d24cf646a9bb857c895113fc33", checked := Tryd.checked }
namespace Rows
def none {H : Type} : Left H := { results := [], args := [] }

/- WHAT THE LISTED PACKAGE-LEVEL VARIABLES READ AS WHEN THE CALL BEGINS. Each datum BY PROGRAM (the guide's laid-datum.mjs) off the statement by which the dump's own 'gosem.cut.vars' lays the variable. In a bare row this is a premise. The card (YtjjhigboelhjgaaDoorCards.lean) ties it to the program's text. -/
def laid_math_bits_deBruijn32tab {H : Type} : DataW H := .agg [.lit (.int .u8 0), .lit (.int .u8 1), .lit (.int .u8 28), .lit (.int .u8 2), .lit (.int .u8 29), .lit (.int .u8 14), .lit (.int .u8 24), .lit (.int .u8 3), .lit (.int .u8 30), .lit (.int .u8 22), .lit (.int .u8 20), .lit (.int .u8 15), .lit (.int .u8 25), .lit (.int .u8 17), .lit (.int .u8 4), .lit (.int .u8 8), .lit (.int .u8 31), .lit (.int .u8 27), .lit (.int .u8 13), .lit (.int .u8 23), .lit (.int .u8 21), .lit (.int .u8 19), .lit (.int .u8 16), .lit (.int .u8 7), .lit (.int .u8 26), .lit (.int .u8 12), .lit (.int .u8 18), .lit (.int .u8 6), .lit (.int .u8 11), .lit (.int .u8 5), .lit (.int .u8 10), .lit (.int .u8 9)]
def laid_math_bits_deBruijn64tab {H : Type} : DataW H := .agg [.lit (.int .u8 0), .lit (.int .u8 1), .lit (.int .u8 56), .lit (.int .u8 2), .lit (.int .u8 57), .lit (.int .u8 49), .lit (.int .u8 28), .lit (.int .u8 3), .lit (.int .u8 61), .lit (.int .u8 58), .lit (.int .u8 42), .lit (.int .u8 50), .lit (.int .u8 38), .lit (.int .u8 29), .lit (.int .u8 17), .lit (.int .u8 4), .lit (.int .u8 62), .lit (.int .u8 47), .lit (.int .u8 59), .lit (.int .u8 36), .lit (.int .u8 45), .lit (.int .u8 43), .lit (.int .u8 51), .lit (.int .u8 22), .lit (.int .u8 53), .lit (.int .u8 39), .lit (.int .u8 33), .lit (.int .u8 30), .lit (.int .u8 24), .lit (.int .u8 18), .lit (.int .u8 12), .lit (.int .u8 5), .lit (.int .u8 63), .lit (.int .u8 55), .lit (.int .u8 48), .lit (.int .u8 27), .lit (.int .u8 60), .lit (.int .u8 41), .lit (.int .u8 37), .lit (.int .u8 16), .lit (.int .u8 46), .lit (.int .u8 35), .lit (.int .u8 44), .lit (.int .u8 21), .lit (.int .u8 52), .lit (.int .u8 32), .lit (.int .u8 23), .lit (.int .u8 11), .lit (.int .u8 54), .lit (.int .u8 26), .lit (.int .u8 40), .lit (.int .u8 15), .lit (.int .u8 34), .lit (.int .u8 20), .lit (.int .u8 31), .lit (.int .u8 10), .lit (.int .u8 25), .lit (.int .u8 14), .lit (.int .u8 19), .lit (.int .u8 9), .lit (.int .u8 13), .lit (.int .u8 8), .lit (.int .u8 7), .lit (.int .u8 6)]
def laid_internal_strconv_uint64pow10 {H : Type} : DataW H := .agg [.lit (.int .u64 1), .lit (.int .u64 10), .lit (.int .u64 100), .lit (.int .u64 1000), .lit (.int .u64 10000), .lit (.int .u64 100000), .lit (.int .u64 1000000), .lit (.int .u64 10000000), .lit (.int .u64 100000000), .lit (.int .u64 1000000000), .lit (.int .u64 10000000000), .lit (.int .u64 100000000000), .lit (.int .u64 1000000000000), .lit (.int .u64 10000000000000), .lit (.int .u64 100000000000000), .lit (.int .u64 1000000000000000), .lit (.int .u64 10000000000000000), .lit (.int .u64 100000000000000000), .lit (.int .u64 1000000000000000000), .lit (.int .u64 10000000000000000000)]
def laid_unicode_utf8_acceptRanges {H : Type} : DataW H := .agg [.agg [.lit (.int .u8 128), .lit (.int .u8 191)], .agg [.lit (.int .u8 160), .lit (.int .u8 191)], .agg [.lit (.int .u8 128), .lit (.int .u8 159)], .agg [.lit (.int .u8 144), .lit (.int .u8 191)], .agg [.lit (.int .u8 128), .lit (.int .u8 143)], .agg [.lit (.int .u8 0), .lit (.int .u8 0)], .agg [.lit (.int .u8 0), .lit (.int .u8 0)], .agg [.lit (.int .u8 0), .lit (.int .u8 0)], .agg [.lit (.int .u8 0), .lit (.int .u8 0)], .agg [.lit (.int .u8 0), .lit (.int .u8 0)], .agg [.lit (.int .u8 0), .lit (.int .u8 0)], .agg [.lit (.int .u8 0), .lit (.int .u8 0)], .agg [.lit (.int .u8 0), .lit (.int .u8 0)], .agg [.lit (.int .u8 0), .lit (.int .u8 0)], .agg [.lit (.int .u8 0), .lit (.int .u8 0)], .agg [.lit (.int .u8 0), .lit (.int .u8 0)]]
/-- One of Go's own tables, pinned by name: the form's constant. -/
def laid_unicode_utf8_first : DataW Unit := Go.Pinned.utf8First

/-- 'laws.FnExactDigits': WHATEVER THE INPUT: true; the input reads as it did. -/
def fnExactDigitsSpec : ChangeSpec := { name := "fnExactDigits", fn := fun _ => fun
  | [d] => { results := [.lit (.bool true)], args := [d] }
  | _ => none }
def fnExactDigitsRow : OpenClaim := { program := "ytjjhigboelhjgaadoor", sum := "44a6e718cd466e32719038d6b86088c0ad0232d24cf646a9bb857c895113fc33", func := "loop.example/g00448/laws.FnExactDigits", spec := "fnExactDigits", named := ["internal/strconv.uint64pow10", "math/bits.deBruijn32tab", "math/bits.deBruijn64tab"], apart := false, laid := [("math/bits.deBruijn32tab", laid_math_bits_deBruijn32tab), ("math/bits.deBruijn64tab", laid_math_bits_deBruijn64tab), ("internal/strconv.uint64pow10", laid_internal_strconv_uint64pow10)] }
def FnExactDigitsSaid : Prop := fnExactDigitsRow.holds Tryd.pinned (OpenSpec.ofChange fnExactDigitsSpec)

/-- ITS FALSE NEIGHBOUR: 'it returns false'. Refute it at one input. -/
def fnExactDigitsWrong : ChangeSpec := { name := "fnExactDigits", fn := fun _ => fun
  | [d] => { results := [.lit (.bool false)], args := [d] }
  | _ => none }
def FnExactDigitsWrongFalsely : Prop := fnExactDigitsRow.holds Tryd.pinned (OpenSpec.ofChange fnExactDigitsWrong)

/-- 'laws.FnExactNumber': WHATEVER THE INPUT: true; the input reads as it did. -/
def fnExactNumberSpec : ChangeSpec := { name := "fnExactNumber", fn := fun _ => fun
  | [d] => { results := [.lit (.bool true)], args := [d] }
  | _ => none }
def fnExactNumberRow : OpenClaim := { program := "ytjjhigboelhjgaadoor", sum := "44a6e718cd466e32719038d6b86088c0ad0232d24cf646a9bb857c895113fc33", func := "loop.example/g00448/laws.FnExactNumber", spec := "fnExactNumber", named := ["internal/strconv.uint64pow10", "math/bits.deBruijn32tab", "math/bits.deBruijn64tab"], apart := false, laid := [("math/bits.deBruijn32tab", laid_math_bits_deBruijn32tab), ("math/bits.deBruijn64tab", laid_math_bits_deBruijn64tab), ("internal/strconv.uint64pow10", laid_internal_strconv_uint64pow10)] }
def FnExactNumberSaid : Prop := fnExactNumberRow.holds Tryd.pinned (OpenSpec.ofChange fnExactNumberSpec)

/-- ITS FALSE NEIGHBOUR: 'it returns false'. Refute it at one input. -/
def fnExactNumberWrong : ChangeSpec := { name := "fnExactNumber", fn := fun _ => fun
  | [d] => { results := [.lit (.bool false)], args := [d] }
  | _ => none }
def FnExactNumberWrongFalsely : Prop := fnExactNumberRow.holds Tryd.pinned (OpenSpec.ofChange fnExactNumberWrong)

/-- 'laws.FnExactTxText': WHATEVER THE INPUT: true; the input reads as it did. -/
def fnExactTxTextSpec : ChangeSpec := { name := "fnExactTxText", fn := fun _ => fun
  | [d] => { results := [.lit (.bool true)], args := [d] }
  | _ => none }
def fnExactTxTextRow : OpenClaim := { program := "ytjjhigboelhjgaadoor", sum := "44a6e718cd466e32719038d6b86088c0ad0232d24cf646a9bb857c895113fc33", func := "loop.example/g00448/laws.FnExactTxText", spec := "fnExactTxText", named := ["internal/strconv.uint64pow10", "math/bits.deBruijn32tab", "math/bits.deBruijn64tab"], apart := false, laid := [("math/bits.deBruijn32tab", laid_math_bits_deBruijn32tab), ("math/bits.deBruijn64tab", laid_math_bits_deBruijn64tab), ("internal/strconv.uint64pow10", laid_internal_strconv_uint64pow10)] }
def FnExactTxTextSaid : Prop := fnExactTxTextRow.holds Tryd.pinned (OpenSpec.ofChange fnExactTxTextSpec)

/-- ITS FALSE NEIGHBOUR: 'it returns false'. Refute it at one input. -/
def fnExactTxTextWrong : ChangeSpec := { name := "fnExactTxText", fn := fun _ => fun
  | [d] => { results := [.lit (.bool false)], args := [d] }
  | _ => none }
def FnExactTxTextWrongFalsely : Prop := fnExactTxTextRow.holds Tryd.pinned (OpenSpec.ofChange fnExactTxTextWrong)

/-- 'laws.FnExactTxsText': WHATEVER THE INPUT: true; the input reads as it did. -/
def fnExactTxsTextSpec : ChangeSpec := { name := "fnExactTxsText", fn := fun _ => fun
  | [d] => { results := [.lit (.bool true)], args := [d] }
  | _ => none }
def fnExactTxsTextRow : OpenClaim := { program := "ytjjhigboelhjgaadoor", sum := "44a6e718cd466e32719038d6b86088c0ad0232d24cf646a9bb857c895113fc33", func := "loop.example/g00448/laws.FnExactTxsText", spec := "fnExactTxsText", inPlace := ["internal/abi.NoEscape", "internal/bytealg.MakeNoZero"], named := ["internal/strconv.uint64pow10", "math/bits.deBruijn32tab", "math/bits.deBruijn64tab"], apart := false, laid := [("math/bits.deBruijn32tab", laid_math_bits_deBruijn32tab), ("math/bits.deBruijn64tab", laid_math_bits_deBruijn64tab), ("internal/strconv.uint64pow10", laid_internal_strconv_uint64pow10)] }
def FnExactTxsTextSaid : Prop := fnExactTxsTextRow.holds Tryd.pinned (OpenSpec.ofChange fnExactTxsTextSpec)

/-- ITS FALSE NEIGHBOUR: 'it returns false'. Refute it at one input. -/
def fnExactTxsTextWrong : ChangeSpec := { name := "fnExactTxsText", fn := fun _ => fun
  | [d] => { results := [.lit (.bool false)], args := [d] }
  | _ => none }
def FnExactTxsTextWrongFalsely : Prop := fnExactTxsTextRow.holds Tryd.pinned (OpenSpec.ofChange fnExactTxsTextWrong)

/-- 'laws.FnExactSplit': WHATEVER THE INPUT: true; the input reads as it did. -/
def fnExactSplitSpec : ChangeSpec := { name := "fnExactSplit", fn := fun _ => fun
  | [d1, d2] => { results := [.lit (.bool true)], args := [d1, d2] }
  | _ => none }
def fnExactSplitRow : OpenClaim := { program := "ytjjhigboelhjgaadoor", sum := "44a6e718cd466e32719038d6b86088c0ad0232d24cf646a9bb857c895113fc33", func := "loop.example/g00448/laws.FnExactSplit", spec := "fnExactSplit", inPlace := ["internal/bytealg.CountString", "internal/bytealg.IndexByteString", "internal/bytealg.IndexString"], named := ["unicode/utf8.first", "unicode/utf8.acceptRanges", "internal/bytealg.MaxLen"], apart := false, laid := [("unicode/utf8.acceptRanges", laid_unicode_utf8_acceptRanges), ("unicode/utf8.first", laid_unicode_utf8_first)] }
def FnExactSplitSaid : Prop := fnExactSplitRow.holds Tryd.pinned (OpenSpec.ofChange fnExactSplitSpec)

/-- ITS FALSE NEIGHBOUR: 'it returns false'. Refute it at one input. -/
def fnExactSplitWrong : ChangeSpec := { name := "fnExactSplit", fn := fun _ => fun
  | [d1, d2] => { results := [.lit (.bool false)], args := [d1, d2] }
  | _ => none }
def FnExactSplitWrongFalsely : Prop := fnExactSplitRow.holds Tryd.pinned (OpenSpec.ofChange fnExactSplitWrong)

/-- 'laws.FnExactTxOf': WHATEVER THE INPUT: true; the input reads as it did. -/
def fnExactTxOfSpec : ChangeSpec := { name := "fnExactTxOf", fn := fun _ => fun
  | [d] => { results := [.lit (.bool true)], args := [d] }
  | _ => none }
def fnExactTxOfRow : OpenClaim := { program := "ytjjhigboelhjgaadoor", sum := "44a6e718cd466e32719038d6b86088c0ad0232d24cf646a9bb857c895113fc33", func := "loop.example/g00448/laws.FnExactTxOf", spec := "fnExactTxOf", inPlace := ["internal/bytealg.IndexByteString", "internal/bytealg.IndexString"], named := ["internal/bytealg.MaxLen", "internal/strconv.uint64pow10", "math/bits.deBruijn32tab", "math/bits.deBruijn64tab"], apart := false, laid := [("math/bits.deBruijn32tab", laid_math_bits_deBruijn32tab), ("math/bits.deBruijn64tab", laid_math_bits_deBruijn64tab), ("internal/strconv.uint64pow10", laid_internal_strconv_uint64pow10)] }
def FnExactTxOfSaid : Prop := fnExactTxOfRow.holds Tryd.pinned (OpenSpec.ofChange fnExactTxOfSpec)

/-- ITS FALSE NEIGHBOUR: 'it returns false'. Refute it at one input. -/
def fnExactTxOfWrong : ChangeSpec := { name := "fnExactTxOf", fn := fun _ => fun
  | [d] => { results := [.lit (.bool false)], args := [d] }
  | _ => none }
def FnExactTxOfWrongFalsely : Prop := fnExactTxOfRow.holds Tryd.pinned (OpenSpec.ofChange fnExactTxOfWrong)

/-- 'laws.FnExactTxsOf': WHATEVER THE INPUT: true; the input reads as it did. -/
def fnExactTxsOfSpec : ChangeSpec := { name := "fnExactTxsOf", fn := fun _ => fun
  | [d] => { results := [.lit (.bool true)], args := [d] }
  | _ => none }
def fnExactTxsOfRow : OpenClaim := { program := "ytjjhigboelhjgaadoor", sum := "44a6e718cd466e32719038d6b86088c0ad0232d24cf646a9bb857c895113fc33", func := "loop.example/g00448/laws.FnExactTxsOf", spec := "fnExactTxsOf", inPlace := ["internal/bytealg.CountString", "internal/bytealg.IndexByteString", "internal/bytealg.IndexString"], named := ["unicode/utf8.first", "unicode/utf8.acceptRanges", "internal/bytealg.MaxLen", "internal/strconv.uint64pow10", "math/bits.deBruijn32tab", "math/bits.deBruijn64tab"], apart := false, laid := [("math/bits.deBruijn32tab", laid_math_bits_deBruijn32tab), ("math/bits.deBruijn64tab", laid_math_bits_deBruijn64tab), ("internal/strconv.uint64pow10", laid_internal_strconv_uint64pow10), ("unicode/utf8.acceptRanges", laid_unicode_utf8_acceptRanges), ("unicode/utf8.first", laid_unicode_utf8_first)] }
def FnExactTxsOfSaid : Prop := fnExactTxsOfRow.holds Tryd.pinned (OpenSpec.ofChange fnExactTxsOfSpec)

/-- ITS FALSE NEIGHBOUR: 'it returns false'. Refute it at one input. -/
def fnExactTxsOfWrong : ChangeSpec := { name := "fnExactTxsOf", fn := fun _ => fun
  | [d] => { results := [.lit (.bool false)], args := [d] }
  | _ => none }
def FnExactTxsOfWrongFalsely : Prop := fnExactTxsOfRow.holds Tryd.pinned (OpenSpec.ofChange fnExactTxsOfWrong)

/-- 'laws.FnNumbers': WHATEVER THE INPUT: true; the input reads as it did. -/
def fnNumbersSpec : ChangeSpec := { name := "fnNumbers", fn := fun _ => fun
  | [d] => { results := [.lit (.bool true)], args := [d] }
  | _ => none }
def fnNumbersRow : OpenClaim := { program := "ytjjhigboelhjgaadoor", sum := "44a6e718cd466e32719038d6b86088c0ad0232d24cf646a9bb857c895113fc33", func := "loop.example/g00448/laws.FnNumbers", spec := "fnNumbers", inPlace := ["internal/bytealg.CountString", "internal/bytealg.IndexByteString", "internal/bytealg.IndexString"], named := ["internal/strconv.uint64pow10", "math/bits.deBruijn32tab", "math/bits.deBruijn64tab", "unicode/utf8.first", "unicode/utf8.acceptRanges", "internal/bytealg.MaxLen"], apart := false, laid := [("math/bits.deBruijn32tab", laid_math_bits_deBruijn32tab), ("math/bits.deBruijn64tab", laid_math_bits_deBruijn64tab), ("internal/strconv.uint64pow10", laid_internal_strconv_uint64pow10), ("unicode/utf8.acceptRanges", laid_unicode_utf8_acceptRanges), ("unicode/utf8.first", laid_unicode_utf8_first)] }
def FnNumbersSaid : Prop := fnNumbersRow.holds Tryd.pinned (OpenSpec.ofChange fnNumbersSpec)

/-- ITS FALSE NEIGHBOUR: 'it returns false'. Refute it at one input. -/
def fnNumbersWrong : ChangeSpec := { name := "fnNumbers", fn := fun _ => fun
  | [d] => { results := [.lit (.bool false)], args := [d] }
  | _ => none }
def FnNumbersWrongFalsely : Prop := fnNumbersRow.holds Tryd.pinned (OpenSpec.ofChange fnNumbersWrong)

/- THE SECOND FORM. 'bulk': how many values and letters a reading holds, each counted each time it is reached (what is shared counts as often as it is met; a slice's spare places count too). A statement '..UptoSaid' is the law's where the arguments, and the package variables that the reading takes, are together of bulk at most 1048576: NARROWER than '..Said'. Prove '..Said' where nothing that the law and all that it calls make is longer than what came in: it says more and counts as full. Else prove '..UptoSaid'. A law counts once. -/
mutual
def uptoBulk {H : Type} : DataW H → Nat
  | .lit (.string bytes) => bytes.length + 1
  | .lit _ => 1
  | .nil => 1
  | .ptr d => uptoBulk d + 1
  | .slice elems spare => uptoBulkAll elems + uptoBulkAll spare + 1
  | .agg parts => uptoBulkAll parts + 1
  | .iface _ d => uptoBulk d + 1
  | .map entries => uptoBulkEntries entries + 1
  | .held _ => 1
def uptoBulkAll {H : Type} : List (DataW H) → Nat
  | [] => 0
  | d :: r => uptoBulk d + uptoBulkAll r
def uptoBulkEntries {H : Type} : List (Lit × DataW H) → Nat
  | [] => 0
  | x :: r => uptoBulkEntry x + uptoBulkEntries r
def uptoBulkEntry {H : Type} : Lit × DataW H → Nat
  | (.string bytes, d) => bytes.length + uptoBulk d + 1
  | (_, d) => uptoBulk d + 1
 end
def uptoSmall : (H : Type) → List (DataW H) → Bool := fun _ ds => decide (uptoBulkAll ds ≤ 1048576)
def OpenSpec.upto (s : _root_.Go.ChangeSpec) : _root_.Go.OpenSpec := { _root_.Go.OpenSpec.ofChange s with cond := some uptoSmall }

/-- 'laws.FnExactDigits', WHERE WHAT IT READS IS OF BULK AT MOST 1048576: true; the input reads as it did. -/
def fnExactDigitsUptoRow : OpenClaim := { program := "ytjjhigboelhjgaadoor", sum := "44a6e718cd466e32719038d6b86088c0ad0232d24cf646a9bb857c895113fc33", func := "loop.example/g00448/laws.FnExactDigits", spec := "fnExactDigits", named := ["internal/strconv.uint64pow10", "math/bits.deBruijn32tab", "math/bits.deBruijn64tab"], apart := false, laid := [("math/bits.deBruijn32tab", laid_math_bits_deBruijn32tab), ("math/bits.deBruijn64tab", laid_math_bits_deBruijn64tab), ("internal/strconv.uint64pow10", laid_internal_strconv_uint64pow10)], narrowed := true }
def FnExactDigitsUptoSaid : Prop := fnExactDigitsUptoRow.holds Tryd.pinned (OpenSpec.upto fnExactDigitsSpec)

/-- 'laws.FnExactNumber', WHERE WHAT IT READS IS OF BULK AT MOST 1048576: true; the input reads as it did. -/
def fnExactNumberUptoRow : OpenClaim := { program := "ytjjhigboelhjgaadoor", sum := "44a6e718cd466e32719038d6b86088c0ad0232d24cf646a9bb857c895113fc33", func := "loop.example/g00448/laws.FnExactNumber", spec := "fnExactNumber", named := ["internal/strconv.uint64pow10", "math/bits.deBruijn32tab", "math/bits.deBruijn64tab"], apart := false, laid := [("math/bits.deBruijn32tab", laid_math_bits_deBruijn32tab), ("math/bits.deBruijn64tab", laid_math_bits_deBruijn64tab), ("internal/strconv.uint64pow10", laid_internal_strconv_uint64pow10)], narrowed := true }
def FnExactNumberUptoSaid : Prop := fnExactNumberUptoRow.holds Tryd.pinned (OpenSpec.upto fnExactNumberSpec)

/-- 'laws.FnExactTxText', WHERE WHAT IT READS IS OF BULK AT MOST 1048576: true; the input reads as it did. -/
def fnExactTxTextUptoRow : OpenClaim := { program := "ytjjhigboelhjgaadoor", sum := "44a6e718cd466e32719038d6b86088c0ad0232d24cf646a9bb857c895113fc33", func := "loop.example/g00448/laws.FnExactTxText", spec := "fnExactTxText", named := ["internal/strconv.uint64pow10", "math/bits.deBruijn32tab", "math/bits.deBruijn64tab"], apart := false, laid := [("math/bits.deBruijn32tab", laid_math_bits_deBruijn32tab), ("math/bits.deBruijn64tab", laid_math_bits_deBruijn64tab), ("internal/strconv.uint64pow10", laid_internal_strconv_uint64pow10)], narrowed := true }
def FnExactTxTextUptoSaid : Prop := fnExactTxTextUptoRow.holds Tryd.pinned (OpenSpec.upto fnExactTxTextSpec)

/-- 'laws.FnExactTxsText', WHERE WHAT IT READS IS OF BULK AT MOST 1048576: true; the input reads as it did. -/
def fnExactTxsTextUptoRow : OpenClaim := { program := "ytjjhigboelhjgaadoor", sum := "44a6e718cd466e32719038d6b86088c0ad0232d24cf646a9bb857c895113fc33", func := "loop.example/g00448/laws.FnExactTxsText", spec := "fnExactTxsText", inPlace := ["internal/abi.NoEscape", "internal/bytealg.MakeNoZero"], named := ["internal/strconv.uint64pow10", "math/bits.deBruijn32tab", "math/bits.deBruijn64tab"], apart := false, laid := [("math/bits.deBruijn32tab", laid_math_bits_deBruijn32tab), ("math/bits.deBruijn64tab", laid_math_bits_deBruijn64tab), ("internal/strconv.uint64pow10", laid_internal_strconv_uint64pow10)], narrowed := true }
def FnExactTxsTextUptoSaid : Prop := fnExactTxsTextUptoRow.holds Tryd.pinned (OpenSpec.upto fnExactTxsTextSpec)

/-- 'laws.FnExactSplit', WHERE WHAT IT READS IS OF BULK AT MOST 1048576: true; the input reads as it did. -/
def fnExactSplitUptoRow : OpenClaim := { program := "ytjjhigboelhjgaadoor", sum := "44a6e718cd466e32719038d6b86088c0ad0232d24cf646a9bb857c895113fc33", func := "loop.example/g00448/laws.FnExactSplit", spec := "fnExactSplit", inPlace := ["internal/bytealg.CountString", "internal/bytealg.IndexByteString", "internal/bytealg.IndexString"], named := ["unicode/utf8.first", "unicode/utf8.acceptRanges", "internal/bytealg.MaxLen"], apart := false, laid := [("unicode/utf8.acceptRanges", laid_unicode_utf8_acceptRanges), ("unicode/utf8.first", laid_unicode_utf8_first)], narrowed := true }
def FnExactSplitUptoSaid : Prop := fnExactSplitUptoRow.holds Tryd.pinned (OpenSpec.upto fnExactSplitSpec)

/-- 'laws.FnExactTxOf', WHERE WHAT IT READS IS OF BULK AT MOST 1048576: true; the input reads as it did. -/
def fnExactTxOfUptoRow : OpenClaim := { program := "ytjjhigboelhjgaadoor", sum := "44a6e718cd466e32719038d6b86088c0ad0232d24cf646a9bb857c895113fc33", func := "loop.example/g00448/laws.FnExactTxOf", spec := "fnExactTxOf", inPlace := ["internal/bytealg.IndexByteString", "internal/bytealg.IndexString"], named := ["internal/bytealg.MaxLen", "internal/strconv.uint64pow10", "math/bits.deBruijn32tab", "math/bits.deBruijn64tab"], apart := false, laid := [("math/bits.deBruijn32tab", laid_math_bits_deBruijn32tab), ("math/bits.deBruijn64tab", laid_math_bits_deBruijn64tab), ("internal/strconv.uint64pow10", laid_internal_strconv_uint64pow10)], narrowed := true }
def FnExactTxOfUptoSaid : Prop := fnExactTxOfUptoRow.holds Tryd.pinned (OpenSpec.upto fnExactTxOfSpec)

/-- 'laws.FnExactTxsOf', WHERE WHAT IT READS IS OF BULK AT MOST 1048576: true; the input reads as it did. -/
def fnExactTxsOfUptoRow : OpenClaim := { program := "ytjjhigboelhjgaadoor", sum := "44a6e718cd466e32719038d6b86088c0ad0232d24cf646a9bb857c895113fc33", func := "loop.example/g00448/laws.FnExactTxsOf", spec := "fnExactTxsOf", inPlace := ["internal/bytealg.CountString", "internal/bytealg.IndexByteString", "internal/bytealg.IndexString"], named := ["unicode/utf8.first", "unicode/utf8.acceptRanges", "internal/bytealg.MaxLen", "internal/strconv.uint64pow10", "math/bits.deBruijn32tab", "math/bits.deBruijn64tab"], apart := false, laid := [("math/bits.deBruijn32tab", laid_math_bits_deBruijn32tab), ("math/bits.deBruijn64tab", laid_math_bits_deBruijn64tab), ("internal/strconv.uint64pow10", laid_internal_strconv_uint64pow10), ("unicode/utf8.acceptRanges", laid_unicode_utf8_acceptRanges), ("unicode/utf8.first", laid_unicode_utf8_first)], narrowed := true }
def FnExactTxsOfUptoSaid : Prop := fnExactTxsOfUptoRow.holds Tryd.pinned (OpenSpec.upto fnExactTxsOfSpec)

/-- 'laws.FnNumbers', WHERE WHAT IT READS IS OF BULK AT MOST 1048576: true; the input reads as it did. -/
def fnNumbersUptoRow : OpenClaim := { program := "ytjjhigboelhjgaadoor", sum := "44a6e718cd466e32719038d6b86088c0ad0232d24cf646a9bb857c895113fc33", func := "loop.example/g00448/laws.FnNumbers", spec := "fnNumbers", inPlace := ["internal/bytealg.CountString", "internal/bytealg.IndexByteString", "internal/bytealg.IndexString"], named := ["internal/strconv.uint64pow10", "math/bits.deBruijn32tab", "math/bits.deBruijn64tab", "unicode/utf8.first", "unicode/utf8.acceptRanges", "internal/bytealg.MaxLen"], apart := false, laid := [("math/bits.deBruijn32tab", laid_math_bits_deBruijn32tab), ("math/bits.deBruijn64tab", laid_math_bits_deBruijn64tab), ("internal/strconv.uint64pow10", laid_internal_strconv_uint64pow10), ("unicode/utf8.acceptRanges", laid_unicode_utf8_acceptRanges), ("unicode/utf8.first", laid_unicode_utf8_first)], narrowed := true }
def FnNumbersUptoSaid : Prop := fnNumbersUptoRow.holds Tryd.pinned (OpenSpec.upto fnNumbersSpec)

end Rows
end Go.Proofs.YtjjhigboelhjgaaDoor
