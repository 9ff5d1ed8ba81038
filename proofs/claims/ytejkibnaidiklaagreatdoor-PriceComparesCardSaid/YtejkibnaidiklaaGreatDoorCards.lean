/-
  DERIVED. GIVEN WITH THE SEED: THE CARDS: each row of YtejkibnaidiklaaGreatDoorRows.lean that lists a variable, with what it lists TIED to the program's text (the seventh form; the later family's looks); each row that meets fmt, with fmt's text TOLD by the authors' own Lean function (tested against real Go, not proved from fmt's source: count such statements apart). THE CARD IS WHAT COUNTS. Prove the row's statement (the work); the ties are given (YtejkibnaidiklaaGreatDoorTie.lean); close each card by the builder's one call (the guide's Derived/Test/ToyasCard.lean, 'card_holds'). Laid BY PROGRAM, IN A SANDBOX (cutbox-door.mjs). By AI agents, Wed Nov 11 2026. No macro, syntax, notation, axiom, sorry.
-/
import Derived.Test.YtejkibnaidiklaaGreatDoorRows
import GoSem.ClaimSeven
namespace Go.Proofs.YtejkibnaidiklaaGreatDoor
namespace Rows

/-- THE TIED CARD OF 'tranchelaw17.PriceChains'. -/
def priceChainsCard : Claim7 := { stood := { row := priceChainsRow, standIns := [], harness := (true, "e3899d69620016fe2f16575124793fc0d3ba09b0cf1d51b2e7ffa6033e41a14c"), looks := true }, kinds := [], alts := [], laidByText := true, laidKinds := [.data, .data, .data, .data, .sentinel, .sentinel, .pinned], laidTests := true, laidLooks := .later }
def PriceChainsCardSaid : Prop := Claim7.holds Tryz.pinned (.plain (OpenSpec.ofChange priceChainsSpec)) priceChainsCard

/-- THE TIED CARD OF 'tranchelaw17.PriceValues'. -/
def priceValuesCard : Claim7 := { stood := { row := priceValuesRow, standIns := [], harness := (true, "e3899d69620016fe2f16575124793fc0d3ba09b0cf1d51b2e7ffa6033e41a14c"), looks := true }, kinds := [], alts := [], laidByText := true, laidKinds := [.data, .data, .data, .data, .sentinel, .sentinel, .pinned], laidTests := true, laidLooks := .later }
def PriceValuesCardSaid : Prop := Claim7.holds Tryz.pinned (.plain (OpenSpec.ofChange priceValuesSpec)) priceValuesCard

/-- THE TIED CARD OF 'tranchelaw17.PriceLatest'. -/
def priceLatestCard : Claim7 := { stood := { row := priceLatestRow, standIns := [], harness := (true, "e3899d69620016fe2f16575124793fc0d3ba09b0cf1d51b2e7ffa6033e41a14c"), looks := true }, kinds := [], alts := [], laidByText := true, laidKinds := [.data, .data, .data, .data, .sentinel, .sentinel, .pinned], laidTests := true, laidLooks := .later }
def PriceLatestCardSaid : Prop := Claim7.holds Tryz.pinned (.plain (OpenSpec.ofChange priceLatestSpec)) priceLatestCard

/-- THE TIED CARD OF 'tranchelaw17.PriceRemains'. -/
def priceRemainsCard : Claim7 := { stood := { row := priceRemainsRow, standIns := [], harness := (true, "e3899d69620016fe2f16575124793fc0d3ba09b0cf1d51b2e7ffa6033e41a14c"), looks := true }, kinds := [], alts := [], laidByText := true, laidKinds := [.data, .data, .data, .data, .sentinel, .sentinel, .pinned], laidTests := true, laidLooks := .later }
def PriceRemainsCardSaid : Prop := Claim7.holds Tryz.pinned (.plain (OpenSpec.ofChange priceRemainsSpec)) priceRemainsCard

/-- THE TIED CARD OF 'tranchelaw17.PriceFresh'. -/
def priceFreshCard : Claim7 := { stood := { row := priceFreshRow, standIns := [], harness := (true, "e3899d69620016fe2f16575124793fc0d3ba09b0cf1d51b2e7ffa6033e41a14c"), looks := true }, kinds := [], alts := [], laidByText := true, laidKinds := [.data, .data, .data, .data, .sentinel, .sentinel, .pinned], laidTests := true, laidLooks := .later }
def PriceFreshCardSaid : Prop := Claim7.holds Tryz.pinned (.plain (OpenSpec.ofChange priceFreshSpec)) priceFreshCard

/-- THE TIED CARD OF 'tranchelaw17.PriceCompares'. -/
def priceComparesCard : Claim7 := { stood := { row := priceComparesRow, standIns := [], harness := (true, "e3899d69620016fe2f16575124793fc0d3ba09b0cf1d51b2e7ffa6033e41a14c"), looks := true }, kinds := [], alts := [], laidByText := true, laidKinds := [.data, .data, .data, .data, .sentinel, .sentinel, .pinned], laidTests := true, laidLooks := .later }
def PriceComparesCardSaid : Prop := Claim7.holds Tryz.pinned (.plain (OpenSpec.ofChange priceComparesSpec)) priceComparesCard

/-- THE TIED CARD OF 'tranchelaw17.PriceExtremes'. -/
def priceExtremesCard : Claim7 := { stood := { row := priceExtremesRow, standIns := [], harness := (true, "e3899d69620016fe2f16575124793fc0d3ba09b0cf1d51b2e7ffa6033e41a14c"), looks := true }, kinds := [], alts := [], laidByText := true, laidKinds := [.data, .data, .data, .data, .sentinel, .sentinel, .pinned], laidTests := true, laidLooks := .later }
def PriceExtremesCardSaid : Prop := Claim7.holds Tryz.pinned (.plain (OpenSpec.ofChange priceExtremesSpec)) priceExtremesCard

/-- THE TIED CARD OF 'tranchelaw17.PriceLater'. -/
def priceLaterCard : Claim7 := { stood := { row := priceLaterRow, standIns := [], harness := (true, "e3899d69620016fe2f16575124793fc0d3ba09b0cf1d51b2e7ffa6033e41a14c"), looks := true }, kinds := [], alts := [], laidByText := true, laidKinds := [.data, .data, .data, .data, .sentinel, .sentinel, .pinned], laidTests := true, laidLooks := .later }
def PriceLaterCardSaid : Prop := Claim7.holds Tryz.pinned (.plain (OpenSpec.ofChange priceLaterSpec)) priceLaterCard

/-- THE SECOND FORM's CARD OF 'tranchelaw17.PriceChains'. -/
def priceChainsUptoCard : Claim7 := { stood := { row := priceChainsUptoRow, standIns := [], harness := (true, "e3899d69620016fe2f16575124793fc0d3ba09b0cf1d51b2e7ffa6033e41a14c"), looks := true }, kinds := [], alts := [], laidByText := true, laidKinds := [.data, .data, .data, .data, .sentinel, .sentinel, .pinned], laidTests := true, laidLooks := .later }
def PriceChainsUptoCardSaid : Prop := Claim7.holds Tryz.pinned (.plain (OpenSpec.upto priceChainsSpec)) priceChainsUptoCard

/-- THE SECOND FORM's CARD OF 'tranchelaw17.PriceValues'. -/
def priceValuesUptoCard : Claim7 := { stood := { row := priceValuesUptoRow, standIns := [], harness := (true, "e3899d69620016fe2f16575124793fc0d3ba09b0cf1d51b2e7ffa6033e41a14c"), looks := true }, kinds := [], alts := [], laidByText := true, laidKinds := [.data, .data, .data, .data, .sentinel, .sentinel, .pinned], laidTests := true, laidLooks := .later }
def PriceValuesUptoCardSaid : Prop := Claim7.holds Tryz.pinned (.plain (OpenSpec.upto priceValuesSpec)) priceValuesUptoCard

/-- THE SECOND FORM's CARD OF 'tranchelaw17.PriceLatest'. -/
def priceLatestUptoCard : Claim7 := { stood := { row := priceLatestUptoRow, standIns := [], harness := (true, "e3899d69620016fe2f16575124793fc0d3ba09b0cf1d51b2e7ffa6033e41a14c"), looks := true }, kinds := [], alts := [], laidByText := true, laidKinds := [.data, .data, .data, .data, .sentinel, .sentinel, .pinned], laidTests := true, laidLooks := .later }
def PriceLatestUptoCardSaid : Prop := Claim7.holds Tryz.pinned (.plain (OpenSpec.upto priceLatestSpec)) priceLatestUptoCard

/-- THE SECOND FORM's CARD OF 'tranchelaw17.PriceRemains'. -/
def priceRemainsUptoCard : Claim7 := { stood := { row := priceRemainsUptoRow, standIns := [], harness := (true, "e3899d69620016fe2f16575124793fc0d3ba09b0cf1d51b2e7ffa6033e41a14c"), looks := true }, kinds := [], alts := [], laidByText := true, laidKinds := [.data, .data, .data, .data, .sentinel, .sentinel, .pinned], laidTests := true, laidLooks := .later }
def PriceRemainsUptoCardSaid : Prop := Claim7.holds Tryz.pinned (.plain (OpenSpec.upto priceRemainsSpec)) priceRemainsUptoCard

/-- THE SECOND FORM's CARD OF 'tranchelaw17.PriceFresh'. -/
def priceFreshUptoCard : Claim7 := { stood := { row := priceFreshUptoRow, standIns := [], harness := (true, "e3899d69620016fe2f16575124793fc0d3ba09b0cf1d51b2e7ffa6033e41a14c"), looks := true }, kinds := [], alts := [], laidByText := true, laidKinds := [.data, .data, .data, .data, .sentinel, .sentinel, .pinned], laidTests := true, laidLooks := .later }
def PriceFreshUptoCardSaid : Prop := Claim7.holds Tryz.pinned (.plain (OpenSpec.upto priceFreshSpec)) priceFreshUptoCard

/-- THE SECOND FORM's CARD OF 'tranchelaw17.PriceCompares'. -/
def priceComparesUptoCard : Claim7 := { stood := { row := priceComparesUptoRow, standIns := [], harness := (true, "e3899d69620016fe2f16575124793fc0d3ba09b0cf1d51b2e7ffa6033e41a14c"), looks := true }, kinds := [], alts := [], laidByText := true, laidKinds := [.data, .data, .data, .data, .sentinel, .sentinel, .pinned], laidTests := true, laidLooks := .later }
def PriceComparesUptoCardSaid : Prop := Claim7.holds Tryz.pinned (.plain (OpenSpec.upto priceComparesSpec)) priceComparesUptoCard

/-- THE SECOND FORM's CARD OF 'tranchelaw17.PriceExtremes'. -/
def priceExtremesUptoCard : Claim7 := { stood := { row := priceExtremesUptoRow, standIns := [], harness := (true, "e3899d69620016fe2f16575124793fc0d3ba09b0cf1d51b2e7ffa6033e41a14c"), looks := true }, kinds := [], alts := [], laidByText := true, laidKinds := [.data, .data, .data, .data, .sentinel, .sentinel, .pinned], laidTests := true, laidLooks := .later }
def PriceExtremesUptoCardSaid : Prop := Claim7.holds Tryz.pinned (.plain (OpenSpec.upto priceExtremesSpec)) priceExtremesUptoCard

/-- THE SECOND FORM's CARD OF 'tranchelaw17.PriceLater'. -/
def priceLaterUptoCard : Claim7 := { stood := { row := priceLaterUptoRow, standIns := [], harness := (true, "e3899d69620016fe2f16575124793fc0d3ba09b0cf1d51b2e7ffa6033e41a14c"), looks := true }, kinds := [], alts := [], laidByText := true, laidKinds := [.data, .data, .data, .data, .sentinel, .sentinel, .pinned], laidTests := true, laidLooks := .later }
def PriceLaterUptoCardSaid : Prop := Claim7.holds Tryz.pinned (.plain (OpenSpec.upto priceLaterSpec)) priceLaterUptoCard
end Rows
end Go.Proofs.YtejkibnaidiklaaGreatDoor
