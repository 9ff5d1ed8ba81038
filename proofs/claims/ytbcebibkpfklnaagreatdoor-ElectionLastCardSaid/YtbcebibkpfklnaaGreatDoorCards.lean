/-
  DERIVED. GIVEN WITH THE SEED: THE CARDS: each row of YtbcebibkpfklnaaGreatDoorRows.lean that lists a variable, with what it lists TIED to the program's text (the seventh form; the later family's looks); each row that meets fmt, with fmt's text TOLD by the authors' own Lean function (tested against real Go, not proved from fmt's source: count such statements apart). THE CARD IS WHAT COUNTS. Prove the row's statement (the work); the ties are given (YtbcebibkpfklnaaGreatDoorTie.lean); close each card by the builder's one call (the guide's Derived/Test/ToyasCard.lean, 'card_holds'). Laid BY PROGRAM, IN A SANDBOX (cutbox-door.mjs). By AI agents, Wed Nov 11 2026. No macro, syntax, notation, axiom, sorry.
-/
import Derived.Test.YtbcebibkpfklnaaGreatDoorRows
import GoSem.ClaimSeven
namespace Go.Proofs.YtbcebibkpfklnaaGreatDoor
namespace Rows

/-- THE TIED CARD OF 'tranchelaw32.ElectionChoices'. -/
def electionChoicesCard : Claim7 := { stood := { row := electionChoicesRow, standIns := [], harness := (true, "7b23bc3307cb42b07c6c569f2bde701c7c3de4df0b4f220963f02219fb386636"), looks := true }, kinds := [], alts := [], laidByText := true, laidKinds := [.data, .data, .data, .data, .sentinel, .sentinel, .pinned], laidTests := true, laidLooks := .later }
def ElectionChoicesCardSaid : Prop := Claim7.holds Tryz.pinned (.plain (OpenSpec.ofChange electionChoicesSpec)) electionChoicesCard

/-- THE TIED CARD OF 'tranchelaw32.ElectionResolves'. -/
def electionResolvesCard : Claim7 := { stood := { row := electionResolvesRow, standIns := [], harness := (true, "7b23bc3307cb42b07c6c569f2bde701c7c3de4df0b4f220963f02219fb386636"), looks := true }, kinds := [], alts := [], laidByText := true, laidKinds := [.data, .data, .data, .data, .sentinel, .sentinel, .pinned], laidTests := true, laidLooks := .later }
def ElectionResolvesCardSaid : Prop := Claim7.holds Tryz.pinned (.plain (OpenSpec.ofChange electionResolvesSpec)) electionResolvesCard

/-- THE TIED CARD OF 'tranchelaw32.ElectionDefault'. -/
def electionDefaultCard : Claim7 := { stood := { row := electionDefaultRow, standIns := [], harness := (true, "7b23bc3307cb42b07c6c569f2bde701c7c3de4df0b4f220963f02219fb386636"), looks := true }, kinds := [], alts := [], laidByText := true, laidKinds := [.data, .data, .data, .data, .sentinel, .sentinel, .pinned], laidTests := true, laidLooks := .later }
def ElectionDefaultCardSaid : Prop := Claim7.holds Tryz.pinned (.plain (OpenSpec.ofChange electionDefaultSpec)) electionDefaultCard

/-- THE TIED CARD OF 'tranchelaw32.ElectionCounts'. -/
def electionCountsCard : Claim7 := { stood := { row := electionCountsRow, standIns := [], harness := (true, "7b23bc3307cb42b07c6c569f2bde701c7c3de4df0b4f220963f02219fb386636"), looks := true }, kinds := [], alts := [], laidByText := true, laidKinds := [.data, .data, .data, .data, .sentinel, .sentinel, .pinned], laidTests := true, laidLooks := .later }
def ElectionCountsCardSaid : Prop := Claim7.holds Tryz.pinned (.plain (OpenSpec.ofChange electionCountsSpec)) electionCountsCard

/-- THE TIED CARD OF 'tranchelaw32.ElectionLists'. -/
def electionListsCard : Claim7 := { stood := { row := electionListsRow, standIns := [], harness := (true, "7b23bc3307cb42b07c6c569f2bde701c7c3de4df0b4f220963f02219fb386636"), looks := true }, kinds := [], alts := [], laidByText := true, laidKinds := [.data, .data, .data, .data, .sentinel, .sentinel, .pinned], laidTests := true, laidLooks := .later }
def ElectionListsCardSaid : Prop := Claim7.holds Tryz.pinned (.plain (OpenSpec.ofChange electionListsSpec)) electionListsCard

/-- THE TIED CARD OF 'tranchelaw32.ElectionLast'. -/
def electionLastCard : Claim7 := { stood := { row := electionLastRow, standIns := [], harness := (true, "7b23bc3307cb42b07c6c569f2bde701c7c3de4df0b4f220963f02219fb386636"), looks := true }, kinds := [], alts := [], laidByText := true, laidKinds := [.data, .data, .data, .data, .sentinel, .sentinel, .pinned], laidTests := true, laidLooks := .later }
def ElectionLastCardSaid : Prop := Claim7.holds Tryz.pinned (.plain (OpenSpec.ofChange electionLastSpec)) electionLastCard

/-- THE TIED CARD OF 'tranchelaw32.ElectionOthers'. -/
def electionOthersCard : Claim7 := { stood := { row := electionOthersRow, standIns := [], harness := (true, "7b23bc3307cb42b07c6c569f2bde701c7c3de4df0b4f220963f02219fb386636"), looks := true }, kinds := [], alts := [], laidByText := true, laidKinds := [.data, .data, .data, .data, .sentinel, .sentinel, .pinned], laidTests := true, laidLooks := .later }
def ElectionOthersCardSaid : Prop := Claim7.holds Tryz.pinned (.plain (OpenSpec.ofChange electionOthersSpec)) electionOthersCard

/-- THE SECOND FORM's CARD OF 'tranchelaw32.ElectionChoices'. -/
def electionChoicesUptoCard : Claim7 := { stood := { row := electionChoicesUptoRow, standIns := [], harness := (true, "7b23bc3307cb42b07c6c569f2bde701c7c3de4df0b4f220963f02219fb386636"), looks := true }, kinds := [], alts := [], laidByText := true, laidKinds := [.data, .data, .data, .data, .sentinel, .sentinel, .pinned], laidTests := true, laidLooks := .later }
def ElectionChoicesUptoCardSaid : Prop := Claim7.holds Tryz.pinned (.plain (OpenSpec.upto electionChoicesSpec)) electionChoicesUptoCard

/-- THE SECOND FORM's CARD OF 'tranchelaw32.ElectionResolves'. -/
def electionResolvesUptoCard : Claim7 := { stood := { row := electionResolvesUptoRow, standIns := [], harness := (true, "7b23bc3307cb42b07c6c569f2bde701c7c3de4df0b4f220963f02219fb386636"), looks := true }, kinds := [], alts := [], laidByText := true, laidKinds := [.data, .data, .data, .data, .sentinel, .sentinel, .pinned], laidTests := true, laidLooks := .later }
def ElectionResolvesUptoCardSaid : Prop := Claim7.holds Tryz.pinned (.plain (OpenSpec.upto electionResolvesSpec)) electionResolvesUptoCard

/-- THE SECOND FORM's CARD OF 'tranchelaw32.ElectionDefault'. -/
def electionDefaultUptoCard : Claim7 := { stood := { row := electionDefaultUptoRow, standIns := [], harness := (true, "7b23bc3307cb42b07c6c569f2bde701c7c3de4df0b4f220963f02219fb386636"), looks := true }, kinds := [], alts := [], laidByText := true, laidKinds := [.data, .data, .data, .data, .sentinel, .sentinel, .pinned], laidTests := true, laidLooks := .later }
def ElectionDefaultUptoCardSaid : Prop := Claim7.holds Tryz.pinned (.plain (OpenSpec.upto electionDefaultSpec)) electionDefaultUptoCard

/-- THE SECOND FORM's CARD OF 'tranchelaw32.ElectionCounts'. -/
def electionCountsUptoCard : Claim7 := { stood := { row := electionCountsUptoRow, standIns := [], harness := (true, "7b23bc3307cb42b07c6c569f2bde701c7c3de4df0b4f220963f02219fb386636"), looks := true }, kinds := [], alts := [], laidByText := true, laidKinds := [.data, .data, .data, .data, .sentinel, .sentinel, .pinned], laidTests := true, laidLooks := .later }
def ElectionCountsUptoCardSaid : Prop := Claim7.holds Tryz.pinned (.plain (OpenSpec.upto electionCountsSpec)) electionCountsUptoCard

/-- THE SECOND FORM's CARD OF 'tranchelaw32.ElectionLists'. -/
def electionListsUptoCard : Claim7 := { stood := { row := electionListsUptoRow, standIns := [], harness := (true, "7b23bc3307cb42b07c6c569f2bde701c7c3de4df0b4f220963f02219fb386636"), looks := true }, kinds := [], alts := [], laidByText := true, laidKinds := [.data, .data, .data, .data, .sentinel, .sentinel, .pinned], laidTests := true, laidLooks := .later }
def ElectionListsUptoCardSaid : Prop := Claim7.holds Tryz.pinned (.plain (OpenSpec.upto electionListsSpec)) electionListsUptoCard

/-- THE SECOND FORM's CARD OF 'tranchelaw32.ElectionLast'. -/
def electionLastUptoCard : Claim7 := { stood := { row := electionLastUptoRow, standIns := [], harness := (true, "7b23bc3307cb42b07c6c569f2bde701c7c3de4df0b4f220963f02219fb386636"), looks := true }, kinds := [], alts := [], laidByText := true, laidKinds := [.data, .data, .data, .data, .sentinel, .sentinel, .pinned], laidTests := true, laidLooks := .later }
def ElectionLastUptoCardSaid : Prop := Claim7.holds Tryz.pinned (.plain (OpenSpec.upto electionLastSpec)) electionLastUptoCard

/-- THE SECOND FORM's CARD OF 'tranchelaw32.ElectionOthers'. -/
def electionOthersUptoCard : Claim7 := { stood := { row := electionOthersUptoRow, standIns := [], harness := (true, "7b23bc3307cb42b07c6c569f2bde701c7c3de4df0b4f220963f02219fb386636"), looks := true }, kinds := [], alts := [], laidByText := true, laidKinds := [.data, .data, .data, .data, .sentinel, .sentinel, .pinned], laidTests := true, laidLooks := .later }
def ElectionOthersUptoCardSaid : Prop := Claim7.holds Tryz.pinned (.plain (OpenSpec.upto electionOthersSpec)) electionOthersUptoCard
end Rows
end Go.Proofs.YtbcebibkpfklnaaGreatDoor
