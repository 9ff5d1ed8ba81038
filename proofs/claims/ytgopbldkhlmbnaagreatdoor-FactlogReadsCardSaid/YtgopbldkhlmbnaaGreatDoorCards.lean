/-
  DERIVED. GIVEN WITH THE SEED: THE CARDS: each row of YtgopbldkhlmbnaaGreatDoorRows.lean that lists a variable, with what it lists TIED to the program's text (the seventh form; the later family's looks); each row that meets fmt, with fmt's text TOLD by the authors' own Lean function (tested against real Go, not proved from fmt's source: count such statements apart). THE CARD IS WHAT COUNTS. Prove the row's statement (the work); the ties are given (YtgopbldkhlmbnaaGreatDoorTie.lean); close each card by the builder's one call (the guide's Derived/Test/ToyasCard.lean, 'card_holds'). Laid BY PROGRAM, IN A SANDBOX (cutbox-door.mjs). By AI agents, Wed Nov 11 2026. No macro, syntax, notation, axiom, sorry.
-/
import Derived.Test.YtgopbldkhlmbnaaGreatDoorRows
import GoSem.ClaimSeven
namespace Go.Proofs.YtgopbldkhlmbnaaGreatDoor
namespace Rows

/-- THE TIED CARD OF 'tranchelaw14.FactlogTimes'. -/
def factlogTimesCard : Claim7 := { stood := { row := factlogTimesRow, standIns := [], harness := (true, "a82622970b99195a5ecf79ce6a81f5ffb868b1a2fa913467cd8ec97bc0e484e0"), looks := true }, kinds := [], alts := [], laidByText := true, laidKinds := [.data, .data, .data, .data, .sentinel, .sentinel, .pinned], laidTests := true, laidLooks := .later }
def FactlogTimesCardSaid : Prop := Claim7.holds Tryz.pinned (.plain (OpenSpec.ofChange factlogTimesSpec)) factlogTimesCard

/-- THE TIED CARD OF 'tranchelaw14.FactlogChecks'. -/
def factlogChecksCard : Claim7 := { stood := { row := factlogChecksRow, standIns := [], harness := (true, "a82622970b99195a5ecf79ce6a81f5ffb868b1a2fa913467cd8ec97bc0e484e0"), looks := true }, kinds := [], alts := [], laidByText := true, laidKinds := [.data, .data, .data, .data, .sentinel, .sentinel, .pinned], laidTests := true, laidLooks := .later }
def FactlogChecksCardSaid : Prop := Claim7.holds Tryz.pinned (.plain (OpenSpec.ofChange factlogChecksSpec)) factlogChecksCard

/-- THE TIED CARD OF 'tranchelaw14.FactlogAppends'. -/
def factlogAppendsCard : Claim7 := { stood := { row := factlogAppendsRow, standIns := [], harness := (true, "a82622970b99195a5ecf79ce6a81f5ffb868b1a2fa913467cd8ec97bc0e484e0"), looks := true }, kinds := [], alts := [], laidByText := true, laidKinds := [.data, .data, .data, .data, .sentinel, .sentinel, .pinned], laidTests := true, laidLooks := .later }
def FactlogAppendsCardSaid : Prop := Claim7.holds Tryz.pinned (.plain (OpenSpec.ofChange factlogAppendsSpec)) factlogAppendsCard

/-- THE TIED CARD OF 'tranchelaw14.FactlogHistory'. -/
def factlogHistoryCard : Claim7 := { stood := { row := factlogHistoryRow, standIns := [], harness := (true, "a82622970b99195a5ecf79ce6a81f5ffb868b1a2fa913467cd8ec97bc0e484e0"), looks := true }, kinds := [], alts := [], laidByText := true, laidKinds := [.data, .data, .data, .data, .sentinel, .sentinel, .pinned], laidTests := true, laidLooks := .later }
def FactlogHistoryCardSaid : Prop := Claim7.holds Tryz.pinned (.plain (OpenSpec.ofChange factlogHistorySpec)) factlogHistoryCard

/-- THE TIED CARD OF 'tranchelaw14.FactlogReads'. -/
def factlogReadsCard : Claim7 := { stood := { row := factlogReadsRow, standIns := [], harness := (true, "a82622970b99195a5ecf79ce6a81f5ffb868b1a2fa913467cd8ec97bc0e484e0"), looks := true }, kinds := [], alts := [], laidByText := true, laidKinds := [.data, .data, .data, .data, .sentinel, .sentinel, .pinned], laidTests := true, laidLooks := .later }
def FactlogReadsCardSaid : Prop := Claim7.holds Tryz.pinned (.plain (OpenSpec.ofChange factlogReadsSpec)) factlogReadsCard

/-- THE TIED CARD OF 'tranchelaw14.FactlogLater'. -/
def factlogLaterCard : Claim7 := { stood := { row := factlogLaterRow, standIns := [], harness := (true, "a82622970b99195a5ecf79ce6a81f5ffb868b1a2fa913467cd8ec97bc0e484e0"), looks := true }, kinds := [], alts := [], laidByText := true, laidKinds := [.data, .data, .data, .data, .sentinel, .sentinel, .pinned], laidTests := true, laidLooks := .later }
def FactlogLaterCardSaid : Prop := Claim7.holds Tryz.pinned (.plain (OpenSpec.ofChange factlogLaterSpec)) factlogLaterCard

/-- THE TIED CARD OF 'tranchelaw14.FactlogKeys'. -/
def factlogKeysCard : Claim7 := { stood := { row := factlogKeysRow, standIns := [], harness := (true, "a82622970b99195a5ecf79ce6a81f5ffb868b1a2fa913467cd8ec97bc0e484e0"), looks := true }, kinds := [], alts := [], laidByText := true, laidKinds := [.data, .data, .data, .data, .sentinel, .sentinel, .pinned], laidTests := true, laidLooks := .later }
def FactlogKeysCardSaid : Prop := Claim7.holds Tryz.pinned (.plain (OpenSpec.ofChange factlogKeysSpec)) factlogKeysCard

/-- THE SECOND FORM's CARD OF 'tranchelaw14.FactlogTimes'. -/
def factlogTimesUptoCard : Claim7 := { stood := { row := factlogTimesUptoRow, standIns := [], harness := (true, "a82622970b99195a5ecf79ce6a81f5ffb868b1a2fa913467cd8ec97bc0e484e0"), looks := true }, kinds := [], alts := [], laidByText := true, laidKinds := [.data, .data, .data, .data, .sentinel, .sentinel, .pinned], laidTests := true, laidLooks := .later }
def FactlogTimesUptoCardSaid : Prop := Claim7.holds Tryz.pinned (.plain (OpenSpec.upto factlogTimesSpec)) factlogTimesUptoCard

/-- THE SECOND FORM's CARD OF 'tranchelaw14.FactlogChecks'. -/
def factlogChecksUptoCard : Claim7 := { stood := { row := factlogChecksUptoRow, standIns := [], harness := (true, "a82622970b99195a5ecf79ce6a81f5ffb868b1a2fa913467cd8ec97bc0e484e0"), looks := true }, kinds := [], alts := [], laidByText := true, laidKinds := [.data, .data, .data, .data, .sentinel, .sentinel, .pinned], laidTests := true, laidLooks := .later }
def FactlogChecksUptoCardSaid : Prop := Claim7.holds Tryz.pinned (.plain (OpenSpec.upto factlogChecksSpec)) factlogChecksUptoCard

/-- THE SECOND FORM's CARD OF 'tranchelaw14.FactlogAppends'. -/
def factlogAppendsUptoCard : Claim7 := { stood := { row := factlogAppendsUptoRow, standIns := [], harness := (true, "a82622970b99195a5ecf79ce6a81f5ffb868b1a2fa913467cd8ec97bc0e484e0"), looks := true }, kinds := [], alts := [], laidByText := true, laidKinds := [.data, .data, .data, .data, .sentinel, .sentinel, .pinned], laidTests := true, laidLooks := .later }
def FactlogAppendsUptoCardSaid : Prop := Claim7.holds Tryz.pinned (.plain (OpenSpec.upto factlogAppendsSpec)) factlogAppendsUptoCard

/-- THE SECOND FORM's CARD OF 'tranchelaw14.FactlogHistory'. -/
def factlogHistoryUptoCard : Claim7 := { stood := { row := factlogHistoryUptoRow, standIns := [], harness := (true, "a82622970b99195a5ecf79ce6a81f5ffb868b1a2fa913467cd8ec97bc0e484e0"), looks := true }, kinds := [], alts := [], laidByText := true, laidKinds := [.data, .data, .data, .data, .sentinel, .sentinel, .pinned], laidTests := true, laidLooks := .later }
def FactlogHistoryUptoCardSaid : Prop := Claim7.holds Tryz.pinned (.plain (OpenSpec.upto factlogHistorySpec)) factlogHistoryUptoCard

/-- THE SECOND FORM's CARD OF 'tranchelaw14.FactlogReads'. -/
def factlogReadsUptoCard : Claim7 := { stood := { row := factlogReadsUptoRow, standIns := [], harness := (true, "a82622970b99195a5ecf79ce6a81f5ffb868b1a2fa913467cd8ec97bc0e484e0"), looks := true }, kinds := [], alts := [], laidByText := true, laidKinds := [.data, .data, .data, .data, .sentinel, .sentinel, .pinned], laidTests := true, laidLooks := .later }
def FactlogReadsUptoCardSaid : Prop := Claim7.holds Tryz.pinned (.plain (OpenSpec.upto factlogReadsSpec)) factlogReadsUptoCard

/-- THE SECOND FORM's CARD OF 'tranchelaw14.FactlogLater'. -/
def factlogLaterUptoCard : Claim7 := { stood := { row := factlogLaterUptoRow, standIns := [], harness := (true, "a82622970b99195a5ecf79ce6a81f5ffb868b1a2fa913467cd8ec97bc0e484e0"), looks := true }, kinds := [], alts := [], laidByText := true, laidKinds := [.data, .data, .data, .data, .sentinel, .sentinel, .pinned], laidTests := true, laidLooks := .later }
def FactlogLaterUptoCardSaid : Prop := Claim7.holds Tryz.pinned (.plain (OpenSpec.upto factlogLaterSpec)) factlogLaterUptoCard

/-- THE SECOND FORM's CARD OF 'tranchelaw14.FactlogKeys'. -/
def factlogKeysUptoCard : Claim7 := { stood := { row := factlogKeysUptoRow, standIns := [], harness := (true, "a82622970b99195a5ecf79ce6a81f5ffb868b1a2fa913467cd8ec97bc0e484e0"), looks := true }, kinds := [], alts := [], laidByText := true, laidKinds := [.data, .data, .data, .data, .sentinel, .sentinel, .pinned], laidTests := true, laidLooks := .later }
def FactlogKeysUptoCardSaid : Prop := Claim7.holds Tryz.pinned (.plain (OpenSpec.upto factlogKeysSpec)) factlogKeysUptoCard
end Rows
end Go.Proofs.YtgopbldkhlmbnaaGreatDoor
