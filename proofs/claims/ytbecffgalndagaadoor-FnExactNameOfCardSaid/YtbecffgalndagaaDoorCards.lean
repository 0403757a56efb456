/-
  DERIVED. GIVEN WITH THE SEED: THE CARDS: each row of YtbecffgalndagaaDoorRows.lean that lists a variable, with what it lists TIED to the program's text (the seventh form; the later family's looks); each row that meets fmt, with fmt's text TOLD by the authors' own Lean function (tested against real Go, not proved from fmt's source: count such statements apart). THE CARD IS WHAT COUNTS. Prove the row's statement (the work); the ties are given (YtbecffgalndagaaDoorTie.lean); close each card by the builder's one call (the guide's Derived/Test/ToyasCard.lean, 'card_holds'). Laid BY PROGRAM, IN A SANDBOX (cutbox-door.mjs). By AI agents, Wed Nov 11 2026. No macro, syntax, notation, axiom, sorry.
-/
import Derived.Test.YtbecffgalndagaaDoorRows
import GoSem.ClaimSeven
namespace Go.Proofs.YtbecffgalndagaaDoor
namespace Rows

/-- THE TIED CARD OF 'laws.FnExactNameOf'. -/
def fnExactNameOfCard : Claim7 := { stood := { row := fnExactNameOfRow, standIns := [], harness := (true, "3f74801d2d9fb7c21dcd7e114ef549f4036c60fffa1bbd53d032773eaaff98a8"), looks := false }, kinds := [], alts := [], laidByText := true, laidKinds := [.data, .data, .data, .data, .pinned], laidTests := true, laidLooks := .later }
def FnExactNameOfCardSaid : Prop := Claim7.holds Tryd.pinned (.plain (OpenSpec.ofChange fnExactNameOfSpec)) fnExactNameOfCard

/-- THE TIED CARD OF 'laws.FnExactNameOk'. -/
def fnExactNameOkCard : Claim7 := { stood := { row := fnExactNameOkRow, standIns := [], harness := (true, "3f74801d2d9fb7c21dcd7e114ef549f4036c60fffa1bbd53d032773eaaff98a8"), looks := false }, kinds := [], alts := [], laidByText := true, laidKinds := [.data, .data, .data, .data, .pinned], laidTests := true, laidLooks := .later }
def FnExactNameOkCardSaid : Prop := Claim7.holds Tryd.pinned (.plain (OpenSpec.ofChange fnExactNameOkSpec)) fnExactNameOkCard

/-- THE TIED CARD OF 'laws.FnExactHeight'. -/
def fnExactHeightCard : Claim7 := { stood := { row := fnExactHeightRow, standIns := [], harness := (true, "3f74801d2d9fb7c21dcd7e114ef549f4036c60fffa1bbd53d032773eaaff98a8"), looks := false }, kinds := [], alts := [], laidByText := true, laidKinds := [.data, .data, .data, .data, .pinned], laidTests := true, laidLooks := .later }
def FnExactHeightCardSaid : Prop := Claim7.holds Tryd.pinned (.plain (OpenSpec.ofChange fnExactHeightSpec)) fnExactHeightCard

/-- THE TIED CARD OF 'laws.FnExactViewOf'. -/
def fnExactViewOfCard : Claim7 := { stood := { row := fnExactViewOfRow, standIns := [], harness := (true, "3f74801d2d9fb7c21dcd7e114ef549f4036c60fffa1bbd53d032773eaaff98a8"), looks := false }, kinds := [], alts := [], laidByText := true, laidKinds := [.data, .data, .data, .data, .pinned], laidTests := true, laidLooks := .later }
def FnExactViewOfCardSaid : Prop := Claim7.holds Tryd.pinned (.plain (OpenSpec.ofChange fnExactViewOfSpec)) fnExactViewOfCard

/-- THE TIED CARD OF 'laws.FnExactExtends'. -/
def fnExactExtendsCard : Claim7 := { stood := { row := fnExactExtendsRow, standIns := [], harness := (true, "3f74801d2d9fb7c21dcd7e114ef549f4036c60fffa1bbd53d032773eaaff98a8"), looks := false }, kinds := [], alts := [], laidByText := true, laidKinds := [.data, .data, .data, .data, .pinned], laidTests := true, laidLooks := .later }
def FnExactExtendsCardSaid : Prop := Claim7.holds Tryd.pinned (.plain (OpenSpec.ofChange fnExactExtendsSpec)) fnExactExtendsCard

/-- THE TIED CARD OF 'laws.FnExactMeets'. -/
def fnExactMeetsCard : Claim7 := { stood := { row := fnExactMeetsRow, standIns := [], harness := (true, "3f74801d2d9fb7c21dcd7e114ef549f4036c60fffa1bbd53d032773eaaff98a8"), looks := false }, kinds := [], alts := [], laidByText := true, laidKinds := [.data, .data, .data, .data, .pinned], laidTests := true, laidLooks := .later }
def FnExactMeetsCardSaid : Prop := Claim7.holds Tryd.pinned (.plain (OpenSpec.ofChange fnExactMeetsSpec)) fnExactMeetsCard

/-- THE TIED CARD OF 'laws.FnExactUpOf'. -/
def fnExactUpOfCard : Claim7 := { stood := { row := fnExactUpOfRow, standIns := [], harness := (true, "3f74801d2d9fb7c21dcd7e114ef549f4036c60fffa1bbd53d032773eaaff98a8"), looks := false }, kinds := [], alts := [], laidByText := true, laidKinds := [.data, .data, .data, .data, .pinned], laidTests := true, laidLooks := .later }
def FnExactUpOfCardSaid : Prop := Claim7.holds Tryd.pinned (.plain (OpenSpec.ofChange fnExactUpOfSpec)) fnExactUpOfCard

/-- THE TIED CARD OF 'laws.FnExactTxsIn'. -/
def fnExactTxsInCard : Claim7 := { stood := { row := fnExactTxsInRow, standIns := [], harness := (true, "3f74801d2d9fb7c21dcd7e114ef549f4036c60fffa1bbd53d032773eaaff98a8"), looks := false }, kinds := [], alts := [], laidByText := true, laidKinds := [.data, .data, .data, .data, .pinned], laidTests := true, laidLooks := .later }
def FnExactTxsInCardSaid : Prop := Claim7.holds Tryd.pinned (.plain (OpenSpec.ofChange fnExactTxsInSpec)) fnExactTxsInCard

/-- THE TIED CARD OF 'laws.FnExactSteps'. -/
def fnExactStepsCard : Claim7 := { stood := { row := fnExactStepsRow, standIns := [], harness := (true, "3f74801d2d9fb7c21dcd7e114ef549f4036c60fffa1bbd53d032773eaaff98a8"), looks := false }, kinds := [], alts := [], laidByText := true, laidKinds := [.data, .data, .data, .data, .pinned], laidTests := true, laidLooks := .later }
def FnExactStepsCardSaid : Prop := Claim7.holds Tryd.pinned (.plain (OpenSpec.ofChange fnExactStepsSpec)) fnExactStepsCard

/-- THE TIED CARD OF 'laws.FnHeights'. -/
def fnHeightsCard : Claim7 := { stood := { row := fnHeightsRow, standIns := [], harness := (true, "3f74801d2d9fb7c21dcd7e114ef549f4036c60fffa1bbd53d032773eaaff98a8"), looks := false }, kinds := [], alts := [], laidByText := true, laidKinds := [.data, .data, .data, .data, .pinned], laidTests := true, laidLooks := .later }
def FnHeightsCardSaid : Prop := Claim7.holds Tryd.pinned (.plain (OpenSpec.ofChange fnHeightsSpec)) fnHeightsCard

/-- THE TIED CARD OF 'laws.FnTxs'. -/
def fnTxsCard : Claim7 := { stood := { row := fnTxsRow, standIns := [], harness := (true, "3f74801d2d9fb7c21dcd7e114ef549f4036c60fffa1bbd53d032773eaaff98a8"), looks := false }, kinds := [], alts := [], laidByText := true, laidKinds := [.data, .data, .data, .data, .pinned], laidTests := true, laidLooks := .later }
def FnTxsCardSaid : Prop := Claim7.holds Tryd.pinned (.plain (OpenSpec.ofChange fnTxsSpec)) fnTxsCard

/-- THE SECOND FORM's CARD OF 'laws.FnExactNameOf'. -/
def fnExactNameOfUptoCard : Claim7 := { stood := { row := fnExactNameOfUptoRow, standIns := [], harness := (true, "3f74801d2d9fb7c21dcd7e114ef549f4036c60fffa1bbd53d032773eaaff98a8"), looks := false }, kinds := [], alts := [], laidByText := true, laidKinds := [.data, .data, .data, .data, .pinned], laidTests := true, laidLooks := .later }
def FnExactNameOfUptoCardSaid : Prop := Claim7.holds Tryd.pinned (.plain (OpenSpec.upto fnExactNameOfSpec)) fnExactNameOfUptoCard

/-- THE SECOND FORM's CARD OF 'laws.FnExactNameOk'. -/
def fnExactNameOkUptoCard : Claim7 := { stood := { row := fnExactNameOkUptoRow, standIns := [], harness := (true, "3f74801d2d9fb7c21dcd7e114ef549f4036c60fffa1bbd53d032773eaaff98a8"), looks := false }, kinds := [], alts := [], laidByText := true, laidKinds := [.data, .data, .data, .data, .pinned], laidTests := true, laidLooks := .later }
def FnExactNameOkUptoCardSaid : Prop := Claim7.holds Tryd.pinned (.plain (OpenSpec.upto fnExactNameOkSpec)) fnExactNameOkUptoCard

/-- THE SECOND FORM's CARD OF 'laws.FnExactHeight'. -/
def fnExactHeightUptoCard : Claim7 := { stood := { row := fnExactHeightUptoRow, standIns := [], harness := (true, "3f74801d2d9fb7c21dcd7e114ef549f4036c60fffa1bbd53d032773eaaff98a8"), looks := false }, kinds := [], alts := [], laidByText := true, laidKinds := [.data, .data, .data, .data, .pinned], laidTests := true, laidLooks := .later }
def FnExactHeightUptoCardSaid : Prop := Claim7.holds Tryd.pinned (.plain (OpenSpec.upto fnExactHeightSpec)) fnExactHeightUptoCard

/-- THE SECOND FORM's CARD OF 'laws.FnExactViewOf'. -/
def fnExactViewOfUptoCard : Claim7 := { stood := { row := fnExactViewOfUptoRow, standIns := [], harness := (true, "3f74801d2d9fb7c21dcd7e114ef549f4036c60fffa1bbd53d032773eaaff98a8"), looks := false }, kinds := [], alts := [], laidByText := true, laidKinds := [.data, .data, .data, .data, .pinned], laidTests := true, laidLooks := .later }
def FnExactViewOfUptoCardSaid : Prop := Claim7.holds Tryd.pinned (.plain (OpenSpec.upto fnExactViewOfSpec)) fnExactViewOfUptoCard

/-- THE SECOND FORM's CARD OF 'laws.FnExactExtends'. -/
def fnExactExtendsUptoCard : Claim7 := { stood := { row := fnExactExtendsUptoRow, standIns := [], harness := (true, "3f74801d2d9fb7c21dcd7e114ef549f4036c60fffa1bbd53d032773eaaff98a8"), looks := false }, kinds := [], alts := [], laidByText := true, laidKinds := [.data, .data, .data, .data, .pinned], laidTests := true, laidLooks := .later }
def FnExactExtendsUptoCardSaid : Prop := Claim7.holds Tryd.pinned (.plain (OpenSpec.upto fnExactExtendsSpec)) fnExactExtendsUptoCard

/-- THE SECOND FORM's CARD OF 'laws.FnExactMeets'. -/
def fnExactMeetsUptoCard : Claim7 := { stood := { row := fnExactMeetsUptoRow, standIns := [], harness := (true, "3f74801d2d9fb7c21dcd7e114ef549f4036c60fffa1bbd53d032773eaaff98a8"), looks := false }, kinds := [], alts := [], laidByText := true, laidKinds := [.data, .data, .data, .data, .pinned], laidTests := true, laidLooks := .later }
def FnExactMeetsUptoCardSaid : Prop := Claim7.holds Tryd.pinned (.plain (OpenSpec.upto fnExactMeetsSpec)) fnExactMeetsUptoCard

/-- THE SECOND FORM's CARD OF 'laws.FnExactUpOf'. -/
def fnExactUpOfUptoCard : Claim7 := { stood := { row := fnExactUpOfUptoRow, standIns := [], harness := (true, "3f74801d2d9fb7c21dcd7e114ef549f4036c60fffa1bbd53d032773eaaff98a8"), looks := false }, kinds := [], alts := [], laidByText := true, laidKinds := [.data, .data, .data, .data, .pinned], laidTests := true, laidLooks := .later }
def FnExactUpOfUptoCardSaid : Prop := Claim7.holds Tryd.pinned (.plain (OpenSpec.upto fnExactUpOfSpec)) fnExactUpOfUptoCard

/-- THE SECOND FORM's CARD OF 'laws.FnExactTxsIn'. -/
def fnExactTxsInUptoCard : Claim7 := { stood := { row := fnExactTxsInUptoRow, standIns := [], harness := (true, "3f74801d2d9fb7c21dcd7e114ef549f4036c60fffa1bbd53d032773eaaff98a8"), looks := false }, kinds := [], alts := [], laidByText := true, laidKinds := [.data, .data, .data, .data, .pinned], laidTests := true, laidLooks := .later }
def FnExactTxsInUptoCardSaid : Prop := Claim7.holds Tryd.pinned (.plain (OpenSpec.upto fnExactTxsInSpec)) fnExactTxsInUptoCard

/-- THE SECOND FORM's CARD OF 'laws.FnExactSteps'. -/
def fnExactStepsUptoCard : Claim7 := { stood := { row := fnExactStepsUptoRow, standIns := [], harness := (true, "3f74801d2d9fb7c21dcd7e114ef549f4036c60fffa1bbd53d032773eaaff98a8"), looks := false }, kinds := [], alts := [], laidByText := true, laidKinds := [.data, .data, .data, .data, .pinned], laidTests := true, laidLooks := .later }
def FnExactStepsUptoCardSaid : Prop := Claim7.holds Tryd.pinned (.plain (OpenSpec.upto fnExactStepsSpec)) fnExactStepsUptoCard

/-- THE SECOND FORM's CARD OF 'laws.FnHeights'. -/
def fnHeightsUptoCard : Claim7 := { stood := { row := fnHeightsUptoRow, standIns := [], harness := (true, "3f74801d2d9fb7c21dcd7e114ef549f4036c60fffa1bbd53d032773eaaff98a8"), looks := false }, kinds := [], alts := [], laidByText := true, laidKinds := [.data, .data, .data, .data, .pinned], laidTests := true, laidLooks := .later }
def FnHeightsUptoCardSaid : Prop := Claim7.holds Tryd.pinned (.plain (OpenSpec.upto fnHeightsSpec)) fnHeightsUptoCard

/-- THE SECOND FORM's CARD OF 'laws.FnTxs'. -/
def fnTxsUptoCard : Claim7 := { stood := { row := fnTxsUptoRow, standIns := [], harness := (true, "3f74801d2d9fb7c21dcd7e114ef549f4036c60fffa1bbd53d032773eaaff98a8"), looks := false }, kinds := [], alts := [], laidByText := true, laidKinds := [.data, .data, .data, .data, .pinned], laidTests := true, laidLooks := .later }
def FnTxsUptoCardSaid : Prop := Claim7.holds Tryd.pinned (.plain (OpenSpec.upto fnTxsSpec)) fnTxsUptoCard
end Rows
end Go.Proofs.YtbecffgalndagaaDoor
