/-
  DERIVED. GIVEN WITH THE SEED: THE CARDS: each row of YtjjhigboelhjgaaDoorRows.lean that lists a variable, with what it lists TIED to the program's text (the seventh form; the later family's looks); each row that meets fmt, with fmt's text TOLD by the authors' own Lean function (tested against real Go, not proved from fmt's source: count such statements apart). THE CARD IS WHAT COUNTS. Prove the row's statement (the work); the ties are given (YtjjhigboelhjgaaDoorTie.lean); close each card by the builder's one call (the guide's Derived/Test/ToyasCard.lean, 'card_holds'). Laid BY PROGRAM, IN A SANDBOX (cutbox-door.mjs). By AI agents, Wed Nov 11 2026. No macro, syntax, notation, axiom, sorry.
-/
import Derived.Test.YtjjhigboelhjgaaDoorRows
import GoSem.ClaimSeven
namespace Go.Proofs.YtjjhigboelhjgaaDoor
namespace Rows

/-- THE TIED CARD OF 'laws.FnExactDigits'. -/
def fnExactDigitsCard : Claim7 := { stood := { row := fnExactDigitsRow, standIns := [], harness := (true, "c5d537935ad3e707463a532fb4fa18c38224f26d6d1cf2bfd3573282f972fb3f"), looks := false }, kinds := [], alts := [], laidByText := true, laidKinds := [.data, .data, .data], laidTests := true, laidLooks := .later }
def FnExactDigitsCardSaid : Prop := Claim7.holds Tryd.pinned (.plain (OpenSpec.ofChange fnExactDigitsSpec)) fnExactDigitsCard

/-- THE TIED CARD OF 'laws.FnExactNumber'. -/
def fnExactNumberCard : Claim7 := { stood := { row := fnExactNumberRow, standIns := [], harness := (true, "c5d537935ad3e707463a532fb4fa18c38224f26d6d1cf2bfd3573282f972fb3f"), looks := false }, kinds := [], alts := [], laidByText := true, laidKinds := [.data, .data, .data], laidTests := true, laidLooks := .later }
def FnExactNumberCardSaid : Prop := Claim7.holds Tryd.pinned (.plain (OpenSpec.ofChange fnExactNumberSpec)) fnExactNumberCard

/-- THE TIED CARD OF 'laws.FnExactTxText'. -/
def fnExactTxTextCard : Claim7 := { stood := { row := fnExactTxTextRow, standIns := [], harness := (true, "c5d537935ad3e707463a532fb4fa18c38224f26d6d1cf2bfd3573282f972fb3f"), looks := false }, kinds := [], alts := [], laidByText := true, laidKinds := [.data, .data, .data], laidTests := true, laidLooks := .later }
def FnExactTxTextCardSaid : Prop := Claim7.holds Tryd.pinned (.plain (OpenSpec.ofChange fnExactTxTextSpec)) fnExactTxTextCard

/-- THE TIED CARD OF 'laws.FnExactTxsText'. -/
def fnExactTxsTextCard : Claim7 := { stood := { row := fnExactTxsTextRow, standIns := [], harness := (true, "c5d537935ad3e707463a532fb4fa18c38224f26d6d1cf2bfd3573282f972fb3f"), looks := false }, kinds := [], alts := [], laidByText := true, laidKinds := [.data, .data, .data], laidTests := true, laidLooks := .later }
def FnExactTxsTextCardSaid : Prop := Claim7.holds Tryd.pinned (.plain (OpenSpec.ofChange fnExactTxsTextSpec)) fnExactTxsTextCard

/-- THE TIED CARD OF 'laws.FnExactSplit'. -/
def fnExactSplitCard : Claim7 := { stood := { row := fnExactSplitRow, standIns := [], harness := (true, "c5d537935ad3e707463a532fb4fa18c38224f26d6d1cf2bfd3573282f972fb3f"), looks := false }, kinds := [], alts := [], laidByText := true, laidKinds := [.data, .pinned], laidTests := true, laidLooks := .later }
def FnExactSplitCardSaid : Prop := Claim7.holds Tryd.pinned (.plain (OpenSpec.ofChange fnExactSplitSpec)) fnExactSplitCard

/-- THE TIED CARD OF 'laws.FnExactTxOf'. -/
def fnExactTxOfCard : Claim7 := { stood := { row := fnExactTxOfRow, standIns := [], harness := (true, "c5d537935ad3e707463a532fb4fa18c38224f26d6d1cf2bfd3573282f972fb3f"), looks := false }, kinds := [], alts := [], laidByText := true, laidKinds := [.data, .data, .data], laidTests := true, laidLooks := .later }
def FnExactTxOfCardSaid : Prop := Claim7.holds Tryd.pinned (.plain (OpenSpec.ofChange fnExactTxOfSpec)) fnExactTxOfCard

/-- THE TIED CARD OF 'laws.FnExactTxsOf'. -/
def fnExactTxsOfCard : Claim7 := { stood := { row := fnExactTxsOfRow, standIns := [], harness := (true, "c5d537935ad3e707463a532fb4fa18c38224f26d6d1cf2bfd3573282f972fb3f"), looks := false }, kinds := [], alts := [], laidByText := true, laidKinds := [.data, .data, .data, .data, .pinned], laidTests := true, laidLooks := .later }
def FnExactTxsOfCardSaid : Prop := Claim7.holds Tryd.pinned (.plain (OpenSpec.ofChange fnExactTxsOfSpec)) fnExactTxsOfCard

/-- THE TIED CARD OF 'laws.FnNumbers'. -/
def fnNumbersCard : Claim7 := { stood := { row := fnNumbersRow, standIns := [], harness := (true, "c5d537935ad3e707463a532fb4fa18c38224f26d6d1cf2bfd3573282f972fb3f"), looks := false }, kinds := [], alts := [], laidByText := true, laidKinds := [.data, .data, .data, .data, .pinned], laidTests := true, laidLooks := .later }
def FnNumbersCardSaid : Prop := Claim7.holds Tryd.pinned (.plain (OpenSpec.ofChange fnNumbersSpec)) fnNumbersCard

/-- THE SECOND FORM's CARD OF 'laws.FnExactDigits'. -/
def fnExactDigitsUptoCard : Claim7 := { stood := { row := fnExactDigitsUptoRow, standIns := [], harness := (true, "c5d537935ad3e707463a532fb4fa18c38224f26d6d1cf2bfd3573282f972fb3f"), looks := false }, kinds := [], alts := [], laidByText := true, laidKinds := [.data, .data, .data], laidTests := true, laidLooks := .later }
def FnExactDigitsUptoCardSaid : Prop := Claim7.holds Tryd.pinned (.plain (OpenSpec.upto fnExactDigitsSpec)) fnExactDigitsUptoCard

/-- THE SECOND FORM's CARD OF 'laws.FnExactNumber'. -/
def fnExactNumberUptoCard : Claim7 := { stood := { row := fnExactNumberUptoRow, standIns := [], harness := (true, "c5d537935ad3e707463a532fb4fa18c38224f26d6d1cf2bfd3573282f972fb3f"), looks := false }, kinds := [], alts := [], laidByText := true, laidKinds := [.data, .data, .data], laidTests := true, laidLooks := .later }
def FnExactNumberUptoCardSaid : Prop := Claim7.holds Tryd.pinned (.plain (OpenSpec.upto fnExactNumberSpec)) fnExactNumberUptoCard

/-- THE SECOND FORM's CARD OF 'laws.FnExactTxText'. -/
def fnExactTxTextUptoCard : Claim7 := { stood := { row := fnExactTxTextUptoRow, standIns := [], harness := (true, "c5d537935ad3e707463a532fb4fa18c38224f26d6d1cf2bfd3573282f972fb3f"), looks := false }, kinds := [], alts := [], laidByText := true, laidKinds := [.data, .data, .data], laidTests := true, laidLooks := .later }
def FnExactTxTextUptoCardSaid : Prop := Claim7.holds Tryd.pinned (.plain (OpenSpec.upto fnExactTxTextSpec)) fnExactTxTextUptoCard

/-- THE SECOND FORM's CARD OF 'laws.FnExactTxsText'. -/
def fnExactTxsTextUptoCard : Claim7 := { stood := { row := fnExactTxsTextUptoRow, standIns := [], harness := (true, "c5d537935ad3e707463a532fb4fa18c38224f26d6d1cf2bfd3573282f972fb3f"), looks := false }, kinds := [], alts := [], laidByText := true, laidKinds := [.data, .data, .data], laidTests := true, laidLooks := .later }
def FnExactTxsTextUptoCardSaid : Prop := Claim7.holds Tryd.pinned (.plain (OpenSpec.upto fnExactTxsTextSpec)) fnExactTxsTextUptoCard

/-- THE SECOND FORM's CARD OF 'laws.FnExactSplit'. -/
def fnExactSplitUptoCard : Claim7 := { stood := { row := fnExactSplitUptoRow, standIns := [], harness := (true, "c5d537935ad3e707463a532fb4fa18c38224f26d6d1cf2bfd3573282f972fb3f"), looks := false }, kinds := [], alts := [], laidByText := true, laidKinds := [.data, .pinned], laidTests := true, laidLooks := .later }
def FnExactSplitUptoCardSaid : Prop := Claim7.holds Tryd.pinned (.plain (OpenSpec.upto fnExactSplitSpec)) fnExactSplitUptoCard

/-- THE SECOND FORM's CARD OF 'laws.FnExactTxOf'. -/
def fnExactTxOfUptoCard : Claim7 := { stood := { row := fnExactTxOfUptoRow, standIns := [], harness := (true, "c5d537935ad3e707463a532fb4fa18c38224f26d6d1cf2bfd3573282f972fb3f"), looks := false }, kinds := [], alts := [], laidByText := true, laidKinds := [.data, .data, .data], laidTests := true, laidLooks := .later }
def FnExactTxOfUptoCardSaid : Prop := Claim7.holds Tryd.pinned (.plain (OpenSpec.upto fnExactTxOfSpec)) fnExactTxOfUptoCard

/-- THE SECOND FORM's CARD OF 'laws.FnExactTxsOf'. -/
def fnExactTxsOfUptoCard : Claim7 := { stood := { row := fnExactTxsOfUptoRow, standIns := [], harness := (true, "c5d537935ad3e707463a532fb4fa18c38224f26d6d1cf2bfd3573282f972fb3f"), looks := false }, kinds := [], alts := [], laidByText := true, laidKinds := [.data, .data, .data, .data, .pinned], laidTests := true, laidLooks := .later }
def FnExactTxsOfUptoCardSaid : Prop := Claim7.holds Tryd.pinned (.plain (OpenSpec.upto fnExactTxsOfSpec)) fnExactTxsOfUptoCard

/-- THE SECOND FORM's CARD OF 'laws.FnNumbers'. -/
def fnNumbersUptoCard : Claim7 := { stood := { row := fnNumbersUptoRow, standIns := [], harness := (true, "c5d537935ad3e707463a532fb4fa18c38224f26d6d1cf2bfd3573282f972fb3f"), looks := false }, kinds := [], alts := [], laidByText := true, laidKinds := [.data, .data, .data, .data, .pinned], laidTests := true, laidLooks := .later }
def FnNumbersUptoCardSaid : Prop := Claim7.holds Tryd.pinned (.plain (OpenSpec.upto fnNumbersSpec)) fnNumbersUptoCard
end Rows
end Go.Proofs.YtjjhigboelhjgaaDoor
