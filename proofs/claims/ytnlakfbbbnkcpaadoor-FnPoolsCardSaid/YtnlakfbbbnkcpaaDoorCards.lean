/-
  DERIVED. GIVEN WITH THE SEED: THE CARDS: each row of YtnlakfbbbnkcpaaDoorRows.lean that lists a variable, with what it lists TIED to the program's text (the seventh form; the later family's looks); each row that meets fmt, with fmt's text TOLD by the authors' own Lean function (tested against real Go, not proved from fmt's source: count such statements apart). THE CARD IS WHAT COUNTS. Prove the row's statement (the work); the ties are given (YtnlakfbbbnkcpaaDoorTie.lean); close each card by the builder's one call (the guide's Derived/Test/ToyasCard.lean, 'card_holds'). Laid BY PROGRAM, IN A SANDBOX (cutbox-door.mjs). By AI agents, Wed Nov 11 2026. No macro, syntax, notation, axiom, sorry.
-/
import Derived.Test.YtnlakfbbbnkcpaaDoorRows
import GoSem.ClaimSeven
namespace Go.Proofs.YtnlakfbbbnkcpaaDoor
namespace Rows

/-- THE TIED CARD OF 'laws.FnPools'. -/
def fnPoolsCard : Claim7 := { stood := { row := fnPoolsRow, standIns := [], harness := (true, "5f1d025a388d5ac7b02912e0a2b1d53b8d069d4b37e93c41334cf80e2dfbf9e2"), looks := false }, kinds := [], alts := [], laidByText := true, laidKinds := [.data, .data, .data], laidTests := true, laidLooks := .later }
def FnPoolsCardSaid : Prop := Claim7.holds Tryd.pinned (.plain (OpenSpec.ofChange fnPoolsSpec)) fnPoolsCard

/-- THE SECOND FORM's CARD OF 'laws.FnPools'. -/
def fnPoolsUptoCard : Claim7 := { stood := { row := fnPoolsUptoRow, standIns := [], harness := (true, "5f1d025a388d5ac7b02912e0a2b1d53b8d069d4b37e93c41334cf80e2dfbf9e2"), looks := false }, kinds := [], alts := [], laidByText := true, laidKinds := [.data, .data, .data], laidTests := true, laidLooks := .later }
def FnPoolsUptoCardSaid : Prop := Claim7.holds Tryd.pinned (.plain (OpenSpec.upto fnPoolsSpec)) fnPoolsUptoCard
end Rows
end Go.Proofs.YtnlakfbbbnkcpaaDoor
