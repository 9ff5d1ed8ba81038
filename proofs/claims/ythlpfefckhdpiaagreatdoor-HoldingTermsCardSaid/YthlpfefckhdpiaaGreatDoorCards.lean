/-
  DERIVED. GIVEN WITH THE SEED: THE CARDS: each row of YthlpfefckhdpiaaGreatDoorRows.lean that lists a variable, with what it lists TIED to the program's text (the seventh form; the later family's looks); each row that meets fmt, with fmt's text TOLD by the authors' own Lean function (tested against real Go, not proved from fmt's source: count such statements apart). THE CARD IS WHAT COUNTS. Prove the row's statement (the work); the ties are given (YthlpfefckhdpiaaGreatDoorTie.lean); close each card by the builder's one call (the guide's Derived/Test/ToyasCard.lean, 'card_holds'). Laid BY PROGRAM, IN A SANDBOX (cutbox-door.mjs). By AI agents, Wed Nov 11 2026. No macro, syntax, notation, axiom, sorry.
-/
import Derived.Test.YthlpfefckhdpiaaGreatDoorRows
import GoSem.ClaimSeven
namespace Go.Proofs.YthlpfefckhdpiaaGreatDoor
namespace Rows

/-- THE TIED CARD OF 'tranchelaw23.HoldingAges'. -/
def holdingAgesCard : Claim7 := { stood := { row := holdingAgesRow, standIns := [], harness := (true, "521242207385731951c9b353a422a140c30b9178756a06e8ef2b75cd57ac69f0"), looks := true }, kinds := [], alts := [], laidByText := true, laidKinds := [.data, .data, .data, .data, .sentinel, .sentinel, .pinned], laidTests := true, laidLooks := .later }
def HoldingAgesCardSaid : Prop := Claim7.holds Tryz.pinned (.plain (OpenSpec.ofChange holdingAgesSpec)) holdingAgesCard

/-- THE TIED CARD OF 'tranchelaw23.HoldingAging'. -/
def holdingAgingCard : Claim7 := { stood := { row := holdingAgingRow, standIns := [], harness := (true, "521242207385731951c9b353a422a140c30b9178756a06e8ef2b75cd57ac69f0"), looks := true }, kinds := [], alts := [], laidByText := true, laidKinds := [.data, .data, .data, .data, .sentinel, .sentinel, .pinned], laidTests := true, laidLooks := .later }
def HoldingAgingCardSaid : Prop := Claim7.holds Tryz.pinned (.plain (OpenSpec.ofChange holdingAgingSpec)) holdingAgingCard

/-- THE TIED CARD OF 'tranchelaw23.HoldingParts'. -/
def holdingPartsCard : Claim7 := { stood := { row := holdingPartsRow, standIns := [], harness := (true, "521242207385731951c9b353a422a140c30b9178756a06e8ef2b75cd57ac69f0"), looks := true }, kinds := [], alts := [], laidByText := true, laidKinds := [.data, .data, .data, .data, .sentinel, .sentinel, .pinned], laidTests := true, laidLooks := .later }
def HoldingPartsCardSaid : Prop := Claim7.holds Tryz.pinned (.plain (OpenSpec.ofChange holdingPartsSpec)) holdingPartsCard

/-- THE TIED CARD OF 'tranchelaw23.HoldingGains'. -/
def holdingGainsCard : Claim7 := { stood := { row := holdingGainsRow, standIns := [], harness := (true, "521242207385731951c9b353a422a140c30b9178756a06e8ef2b75cd57ac69f0"), looks := true }, kinds := [], alts := [], laidByText := true, laidKinds := [.data, .data, .data, .data, .sentinel, .sentinel, .pinned], laidTests := true, laidLooks := .later }
def HoldingGainsCardSaid : Prop := Claim7.holds Tryz.pinned (.plain (OpenSpec.ofChange holdingGainsSpec)) holdingGainsCard

/-- THE TIED CARD OF 'tranchelaw23.HoldingTerms'. -/
def holdingTermsCard : Claim7 := { stood := { row := holdingTermsRow, standIns := [], harness := (true, "521242207385731951c9b353a422a140c30b9178756a06e8ef2b75cd57ac69f0"), looks := true }, kinds := [], alts := [], laidByText := true, laidKinds := [.data, .data, .data, .data, .sentinel, .sentinel, .pinned], laidTests := true, laidLooks := .later }
def HoldingTermsCardSaid : Prop := Claim7.holds Tryz.pinned (.plain (OpenSpec.ofChange holdingTermsSpec)) holdingTermsCard

/-- THE SECOND FORM's CARD OF 'tranchelaw23.HoldingAges'. -/
def holdingAgesUptoCard : Claim7 := { stood := { row := holdingAgesUptoRow, standIns := [], harness := (true, "521242207385731951c9b353a422a140c30b9178756a06e8ef2b75cd57ac69f0"), looks := true }, kinds := [], alts := [], laidByText := true, laidKinds := [.data, .data, .data, .data, .sentinel, .sentinel, .pinned], laidTests := true, laidLooks := .later }
def HoldingAgesUptoCardSaid : Prop := Claim7.holds Tryz.pinned (.plain (OpenSpec.upto holdingAgesSpec)) holdingAgesUptoCard

/-- THE SECOND FORM's CARD OF 'tranchelaw23.HoldingAging'. -/
def holdingAgingUptoCard : Claim7 := { stood := { row := holdingAgingUptoRow, standIns := [], harness := (true, "521242207385731951c9b353a422a140c30b9178756a06e8ef2b75cd57ac69f0"), looks := true }, kinds := [], alts := [], laidByText := true, laidKinds := [.data, .data, .data, .data, .sentinel, .sentinel, .pinned], laidTests := true, laidLooks := .later }
def HoldingAgingUptoCardSaid : Prop := Claim7.holds Tryz.pinned (.plain (OpenSpec.upto holdingAgingSpec)) holdingAgingUptoCard

/-- THE SECOND FORM's CARD OF 'tranchelaw23.HoldingParts'. -/
def holdingPartsUptoCard : Claim7 := { stood := { row := holdingPartsUptoRow, standIns := [], harness := (true, "521242207385731951c9b353a422a140c30b9178756a06e8ef2b75cd57ac69f0"), looks := true }, kinds := [], alts := [], laidByText := true, laidKinds := [.data, .data, .data, .data, .sentinel, .sentinel, .pinned], laidTests := true, laidLooks := .later }
def HoldingPartsUptoCardSaid : Prop := Claim7.holds Tryz.pinned (.plain (OpenSpec.upto holdingPartsSpec)) holdingPartsUptoCard

/-- THE SECOND FORM's CARD OF 'tranchelaw23.HoldingGains'. -/
def holdingGainsUptoCard : Claim7 := { stood := { row := holdingGainsUptoRow, standIns := [], harness := (true, "521242207385731951c9b353a422a140c30b9178756a06e8ef2b75cd57ac69f0"), looks := true }, kinds := [], alts := [], laidByText := true, laidKinds := [.data, .data, .data, .data, .sentinel, .sentinel, .pinned], laidTests := true, laidLooks := .later }
def HoldingGainsUptoCardSaid : Prop := Claim7.holds Tryz.pinned (.plain (OpenSpec.upto holdingGainsSpec)) holdingGainsUptoCard

/-- THE SECOND FORM's CARD OF 'tranchelaw23.HoldingTerms'. -/
def holdingTermsUptoCard : Claim7 := { stood := { row := holdingTermsUptoRow, standIns := [], harness := (true, "521242207385731951c9b353a422a140c30b9178756a06e8ef2b75cd57ac69f0"), looks := true }, kinds := [], alts := [], laidByText := true, laidKinds := [.data, .data, .data, .data, .sentinel, .sentinel, .pinned], laidTests := true, laidLooks := .later }
def HoldingTermsUptoCardSaid : Prop := Claim7.holds Tryz.pinned (.plain (OpenSpec.upto holdingTermsSpec)) holdingTermsUptoCard
end Rows
end Go.Proofs.YthlpfefckhdpiaaGreatDoor
