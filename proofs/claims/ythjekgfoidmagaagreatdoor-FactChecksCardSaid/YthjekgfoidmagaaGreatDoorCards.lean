/-
  DERIVED. GIVEN WITH THE SEED: THE CARDS: each row of YthjekgfoidmagaaGreatDoorRows.lean that lists a variable, with what it lists TIED to the program's text (the seventh form; the later family's looks); each row that meets fmt, with fmt's text TOLD by the authors' own Lean function (tested against real Go, not proved from fmt's source: count such statements apart). THE CARD IS WHAT COUNTS. Prove the row's statement (the work); the ties are given (YthjekgfoidmagaaGreatDoorTie.lean); close each card by the builder's one call (the guide's Derived/Test/ToyasCard.lean, 'card_holds'). Laid BY PROGRAM, IN A SANDBOX (cutbox-door.mjs). By AI agents, Wed Nov 11 2026. No macro, syntax, notation, axiom, sorry.
-/
import Derived.Test.YthjekgfoidmagaaGreatDoorRows
import GoSem.ClaimSeven
namespace Go.Proofs.YthjekgfoidmagaaGreatDoor
namespace Rows

/-- THE TIED CARD OF 'tranchelaw13.FactChecks'. -/
def factChecksCard : Claim7 := { stood := { row := factChecksRow, standIns := [], harness := (true, "f4deaa46a174d87ca2aec7fbff3bef83792e722d57136ba1340704b251e2b98b"), looks := true }, kinds := [], alts := [], laidByText := true, laidKinds := [.data, .data, .data, .data, .sentinel, .sentinel, .pinned], laidTests := true, laidLooks := .later }
def FactChecksCardSaid : Prop := Claim7.holds Tryz.pinned (.plain (OpenSpec.ofChange factChecksSpec)) factChecksCard

/-- THE TIED CARD OF 'tranchelaw13.FactReads'. -/
def factReadsCard : Claim7 := { stood := { row := factReadsRow, standIns := [], harness := (true, "f4deaa46a174d87ca2aec7fbff3bef83792e722d57136ba1340704b251e2b98b"), looks := true }, kinds := [], alts := [], laidByText := true, laidKinds := [.data, .data, .data, .data, .sentinel, .sentinel, .pinned], laidTests := true, laidLooks := .later }
def FactReadsCardSaid : Prop := Claim7.holds Tryz.pinned (.plain (OpenSpec.ofChange factReadsSpec)) factReadsCard

/-- THE TIED CARD OF 'tranchelaw13.FactOrder'. -/
def factOrderCard : Claim7 := { stood := { row := factOrderRow, standIns := [], harness := (true, "f4deaa46a174d87ca2aec7fbff3bef83792e722d57136ba1340704b251e2b98b"), looks := true }, kinds := [], alts := [], laidByText := true, laidKinds := [.data, .data, .data, .data, .sentinel, .sentinel, .pinned], laidTests := true, laidLooks := .later }
def FactOrderCardSaid : Prop := Claim7.holds Tryz.pinned (.plain (OpenSpec.ofChange factOrderSpec)) factOrderCard

/-- THE TIED CARD OF 'tranchelaw13.FactFields'. -/
def factFieldsCard : Claim7 := { stood := { row := factFieldsRow, standIns := [], harness := (true, "f4deaa46a174d87ca2aec7fbff3bef83792e722d57136ba1340704b251e2b98b"), looks := true }, kinds := [], alts := [], laidByText := true, laidKinds := [.data, .data, .data, .data, .sentinel, .sentinel, .pinned], laidTests := true, laidLooks := .later }
def FactFieldsCardSaid : Prop := Claim7.holds Tryz.pinned (.plain (OpenSpec.ofChange factFieldsSpec)) factFieldsCard

/-- THE TIED CARD OF 'tranchelaw13.FactEqual'. -/
def factEqualCard : Claim7 := { stood := { row := factEqualRow, standIns := [], harness := (true, "f4deaa46a174d87ca2aec7fbff3bef83792e722d57136ba1340704b251e2b98b"), looks := true }, kinds := [], alts := [], laidByText := true, laidKinds := [.data, .data, .data, .data, .sentinel, .sentinel, .pinned], laidTests := true, laidLooks := .later }
def FactEqualCardSaid : Prop := Claim7.holds Tryz.pinned (.plain (OpenSpec.ofChange factEqualSpec)) factEqualCard

/-- THE TIED CARD OF 'tranchelaw13.FactTexts'. -/
def factTextsCard : Claim7 := { stood := { row := factTextsRow, standIns := [], harness := (true, "f4deaa46a174d87ca2aec7fbff3bef83792e722d57136ba1340704b251e2b98b"), looks := true }, kinds := [], alts := [], laidByText := true, laidKinds := [.data, .data, .data, .data, .sentinel, .sentinel, .pinned], laidTests := true, laidLooks := .later }
def FactTextsCardSaid : Prop := Claim7.holds Tryz.pinned (.plain (OpenSpec.ofChange factTextsSpec)) factTextsCard

/-- THE TIED CARD OF 'tranchelaw13.FactNames'. -/
def factNamesCard : Claim7 := { stood := { row := factNamesRow, standIns := [], harness := (true, "f4deaa46a174d87ca2aec7fbff3bef83792e722d57136ba1340704b251e2b98b"), looks := true }, kinds := [], alts := [], laidByText := true, laidKinds := [.data, .data, .data, .data, .sentinel, .sentinel, .pinned], laidTests := true, laidLooks := .later }
def FactNamesCardSaid : Prop := Claim7.holds Tryz.pinned (.plain (OpenSpec.ofChange factNamesSpec)) factNamesCard

/-- THE SECOND FORM's CARD OF 'tranchelaw13.FactChecks'. -/
def factChecksUptoCard : Claim7 := { stood := { row := factChecksUptoRow, standIns := [], harness := (true, "f4deaa46a174d87ca2aec7fbff3bef83792e722d57136ba1340704b251e2b98b"), looks := true }, kinds := [], alts := [], laidByText := true, laidKinds := [.data, .data, .data, .data, .sentinel, .sentinel, .pinned], laidTests := true, laidLooks := .later }
def FactChecksUptoCardSaid : Prop := Claim7.holds Tryz.pinned (.plain (OpenSpec.upto factChecksSpec)) factChecksUptoCard

/-- THE SECOND FORM's CARD OF 'tranchelaw13.FactReads'. -/
def factReadsUptoCard : Claim7 := { stood := { row := factReadsUptoRow, standIns := [], harness := (true, "f4deaa46a174d87ca2aec7fbff3bef83792e722d57136ba1340704b251e2b98b"), looks := true }, kinds := [], alts := [], laidByText := true, laidKinds := [.data, .data, .data, .data, .sentinel, .sentinel, .pinned], laidTests := true, laidLooks := .later }
def FactReadsUptoCardSaid : Prop := Claim7.holds Tryz.pinned (.plain (OpenSpec.upto factReadsSpec)) factReadsUptoCard

/-- THE SECOND FORM's CARD OF 'tranchelaw13.FactOrder'. -/
def factOrderUptoCard : Claim7 := { stood := { row := factOrderUptoRow, standIns := [], harness := (true, "f4deaa46a174d87ca2aec7fbff3bef83792e722d57136ba1340704b251e2b98b"), looks := true }, kinds := [], alts := [], laidByText := true, laidKinds := [.data, .data, .data, .data, .sentinel, .sentinel, .pinned], laidTests := true, laidLooks := .later }
def FactOrderUptoCardSaid : Prop := Claim7.holds Tryz.pinned (.plain (OpenSpec.upto factOrderSpec)) factOrderUptoCard

/-- THE SECOND FORM's CARD OF 'tranchelaw13.FactFields'. -/
def factFieldsUptoCard : Claim7 := { stood := { row := factFieldsUptoRow, standIns := [], harness := (true, "f4deaa46a174d87ca2aec7fbff3bef83792e722d57136ba1340704b251e2b98b"), looks := true }, kinds := [], alts := [], laidByText := true, laidKinds := [.data, .data, .data, .data, .sentinel, .sentinel, .pinned], laidTests := true, laidLooks := .later }
def FactFieldsUptoCardSaid : Prop := Claim7.holds Tryz.pinned (.plain (OpenSpec.upto factFieldsSpec)) factFieldsUptoCard

/-- THE SECOND FORM's CARD OF 'tranchelaw13.FactEqual'. -/
def factEqualUptoCard : Claim7 := { stood := { row := factEqualUptoRow, standIns := [], harness := (true, "f4deaa46a174d87ca2aec7fbff3bef83792e722d57136ba1340704b251e2b98b"), looks := true }, kinds := [], alts := [], laidByText := true, laidKinds := [.data, .data, .data, .data, .sentinel, .sentinel, .pinned], laidTests := true, laidLooks := .later }
def FactEqualUptoCardSaid : Prop := Claim7.holds Tryz.pinned (.plain (OpenSpec.upto factEqualSpec)) factEqualUptoCard

/-- THE SECOND FORM's CARD OF 'tranchelaw13.FactTexts'. -/
def factTextsUptoCard : Claim7 := { stood := { row := factTextsUptoRow, standIns := [], harness := (true, "f4deaa46a174d87ca2aec7fbff3bef83792e722d57136ba1340704b251e2b98b"), looks := true }, kinds := [], alts := [], laidByText := true, laidKinds := [.data, .data, .data, .data, .sentinel, .sentinel, .pinned], laidTests := true, laidLooks := .later }
def FactTextsUptoCardSaid : Prop := Claim7.holds Tryz.pinned (.plain (OpenSpec.upto factTextsSpec)) factTextsUptoCard

/-- THE SECOND FORM's CARD OF 'tranchelaw13.FactNames'. -/
def factNamesUptoCard : Claim7 := { stood := { row := factNamesUptoRow, standIns := [], harness := (true, "f4deaa46a174d87ca2aec7fbff3bef83792e722d57136ba1340704b251e2b98b"), looks := true }, kinds := [], alts := [], laidByText := true, laidKinds := [.data, .data, .data, .data, .sentinel, .sentinel, .pinned], laidTests := true, laidLooks := .later }
def FactNamesUptoCardSaid : Prop := Claim7.holds Tryz.pinned (.plain (OpenSpec.upto factNamesSpec)) factNamesUptoCard
end Rows
end Go.Proofs.YthjekgfoidmagaaGreatDoor
