/-
  DERIVED. GIVEN WITH THE SEED: THE CARDS: each row of YtkeplglaiikfhaaDoorRows.lean that lists a variable, with what it lists TIED to the program's text (the seventh form; the later family's looks); each row that meets fmt, with fmt's text TOLD by the authors' own Lean function (tested against real Go, not proved from fmt's source: count such statements apart). THE CARD IS WHAT COUNTS. Prove the row's statement (the work); the ties are given (YtkeplglaiikfhaaDoorTie.lean); close each card by the builder's one call (the guide's Derived/Test/ToyasCard.lean, 'card_holds'). Laid BY PROGRAM, IN A SANDBOX (cutbox-door.mjs). By AI agents, Wed Nov 11 2026. No macro, syntax, notation, axiom, sorry.
-/
import Derived.Test.YtkeplglaiikfhaaDoorRows
import GoSem.ClaimSeven
namespace Go.Proofs.YtkeplglaiikfhaaDoor
namespace Rows

/-- THE TIED CARD OF 'laws.FnExactSteps'. -/
def fnExactStepsCard : Claim7 := { stood := { row := fnExactStepsRow, standIns := [], harness := (true, "37547c0bf3a8d73583541c214f7b75afaa26d672fae320cc2ef1233e3fb98e6a"), looks := false }, kinds := [], alts := [], laidByText := true, laidKinds := [.data, .data, .data, .data, .pinned], laidTests := true, laidLooks := .later }
def FnExactStepsCardSaid : Prop := Claim7.holds Tryd.pinned (.plain (OpenSpec.ofChange fnExactStepsSpec)) fnExactStepsCard

/-- THE SECOND FORM's CARD OF 'laws.FnExactSteps'. -/
def fnExactStepsUptoCard : Claim7 := { stood := { row := fnExactStepsUptoRow, standIns := [], harness := (true, "37547c0bf3a8d73583541c214f7b75afaa26d672fae320cc2ef1233e3fb98e6a"), looks := false }, kinds := [], alts := [], laidByText := true, laidKinds := [.data, .data, .data, .data, .pinned], laidTests := true, laidLooks := .later }
def FnExactStepsUptoCardSaid : Prop := Claim7.holds Tryd.pinned (.plain (OpenSpec.upto fnExactStepsSpec)) fnExactStepsUptoCard
end Rows
end Go.Proofs.YtkeplglaiikfhaaDoor
