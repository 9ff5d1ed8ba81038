/-
  DERIVED. GIVEN WITH THE SEED: THE CARDS: each row of YtiloklnjjfaagaaGreatDoorRows.lean that lists a variable, with what it lists TIED to the program's text (the seventh form; the later family's looks); each row that meets fmt, with fmt's text TOLD by the authors' own Lean function (tested against real Go, not proved from fmt's source: count such statements apart). THE CARD IS WHAT COUNTS. Prove the row's statement (the work); the ties are given (YtiloklnjjfaagaaGreatDoorTie.lean); close each card by the builder's one call (the guide's Derived/Test/ToyasCard.lean, 'card_holds'). Laid BY PROGRAM, IN A SANDBOX (cutbox-door.mjs). By AI agents, Wed Nov 11 2026. No macro, syntax, notation, axiom, sorry.
-/
import Derived.Test.YtiloklnjjfaagaaGreatDoorRows
import GoSem.ClaimSeven
namespace Go.Proofs.YtiloklnjjfaagaaGreatDoor
namespace Rows

/-- THE TIED CARD OF 'tranchelaw25.WashsaleApplies'. -/
def washsaleAppliesCard : Claim7 := { stood := { row := washsaleAppliesRow, standIns := [], harness := (true, "8364b862a2ebcae9ae0d94170e5c0aa88e0960a99b671a3da09d1c879d996463"), looks := true }, kinds := [], alts := [], laidByText := true, laidKinds := [.data, .data, .data, .data, .sentinel, .sentinel, .pinned], laidTests := true, laidLooks := .later }
def WashsaleAppliesCardSaid : Prop := Claim7.holds Tryz.pinned (.plain (OpenSpec.ofChange washsaleAppliesSpec)) washsaleAppliesCard

/-- THE TIED CARD OF 'tranchelaw25.WashsaleOnce'. -/
def washsaleOnceCard : Claim7 := { stood := { row := washsaleOnceRow, standIns := [], harness := (true, "8364b862a2ebcae9ae0d94170e5c0aa88e0960a99b671a3da09d1c879d996463"), looks := true }, kinds := [], alts := [], laidByText := true, laidKinds := [.data, .data, .data, .data, .sentinel, .sentinel, .pinned], laidTests := true, laidLooks := .later }
def WashsaleOnceCardSaid : Prop := Claim7.holds Tryz.pinned (.plain (OpenSpec.ofChange washsaleOnceSpec)) washsaleOnceCard

/-- THE TIED CARD OF 'tranchelaw25.WashsalePeriods'. -/
def washsalePeriodsCard : Claim7 := { stood := { row := washsalePeriodsRow, standIns := [], harness := (true, "8364b862a2ebcae9ae0d94170e5c0aa88e0960a99b671a3da09d1c879d996463"), looks := true }, kinds := [], alts := [], laidByText := true, laidKinds := [.data, .data, .data, .data, .sentinel, .sentinel, .pinned], laidTests := true, laidLooks := .later }
def WashsalePeriodsCardSaid : Prop := Claim7.holds Tryz.pinned (.plain (OpenSpec.ofChange washsalePeriodsSpec)) washsalePeriodsCard

/-- THE TIED CARD OF 'tranchelaw25.WashsaleComplete'. -/
def washsaleCompleteCard : Claim7 := { stood := { row := washsaleCompleteRow, standIns := [], harness := (true, "8364b862a2ebcae9ae0d94170e5c0aa88e0960a99b671a3da09d1c879d996463"), looks := true }, kinds := [], alts := [], laidByText := true, laidKinds := [.data, .data, .data, .data, .sentinel, .sentinel, .pinned], laidTests := true, laidLooks := .later }
def WashsaleCompleteCardSaid : Prop := Claim7.holds Tryz.pinned (.plain (OpenSpec.ofChange washsaleCompleteSpec)) washsaleCompleteCard

/-- THE TIED CARD OF 'tranchelaw25.WashsaleKeeps'. -/
def washsaleKeepsCard : Claim7 := { stood := { row := washsaleKeepsRow, standIns := [], harness := (true, "8364b862a2ebcae9ae0d94170e5c0aa88e0960a99b671a3da09d1c879d996463"), looks := true }, kinds := [], alts := [], laidByText := true, laidKinds := [.data, .data, .data, .data, .sentinel, .sentinel, .pinned], laidTests := true, laidLooks := .later }
def WashsaleKeepsCardSaid : Prop := Claim7.holds Tryz.pinned (.plain (OpenSpec.ofChange washsaleKeepsSpec)) washsaleKeepsCard

/-- THE TIED CARD OF 'tranchelaw25.WashsaleFinds'. -/
def washsaleFindsCard : Claim7 := { stood := { row := washsaleFindsRow, standIns := [], harness := (true, "8364b862a2ebcae9ae0d94170e5c0aa88e0960a99b671a3da09d1c879d996463"), looks := true }, kinds := [], alts := [], laidByText := true, laidKinds := [.data, .data, .data, .data, .sentinel, .sentinel, .pinned], laidTests := true, laidLooks := .later }
def WashsaleFindsCardSaid : Prop := Claim7.holds Tryz.pinned (.plain (OpenSpec.ofChange washsaleFindsSpec)) washsaleFindsCard

/-- THE SECOND FORM's CARD OF 'tranchelaw25.WashsaleApplies'. -/
def washsaleAppliesUptoCard : Claim7 := { stood := { row := washsaleAppliesUptoRow, standIns := [], harness := (true, "8364b862a2ebcae9ae0d94170e5c0aa88e0960a99b671a3da09d1c879d996463"), looks := true }, kinds := [], alts := [], laidByText := true, laidKinds := [.data, .data, .data, .data, .sentinel, .sentinel, .pinned], laidTests := true, laidLooks := .later }
def WashsaleAppliesUptoCardSaid : Prop := Claim7.holds Tryz.pinned (.plain (OpenSpec.upto washsaleAppliesSpec)) washsaleAppliesUptoCard

/-- THE SECOND FORM's CARD OF 'tranchelaw25.WashsaleOnce'. -/
def washsaleOnceUptoCard : Claim7 := { stood := { row := washsaleOnceUptoRow, standIns := [], harness := (true, "8364b862a2ebcae9ae0d94170e5c0aa88e0960a99b671a3da09d1c879d996463"), looks := true }, kinds := [], alts := [], laidByText := true, laidKinds := [.data, .data, .data, .data, .sentinel, .sentinel, .pinned], laidTests := true, laidLooks := .later }
def WashsaleOnceUptoCardSaid : Prop := Claim7.holds Tryz.pinned (.plain (OpenSpec.upto washsaleOnceSpec)) washsaleOnceUptoCard

/-- THE SECOND FORM's CARD OF 'tranchelaw25.WashsalePeriods'. -/
def washsalePeriodsUptoCard : Claim7 := { stood := { row := washsalePeriodsUptoRow, standIns := [], harness := (true, "8364b862a2ebcae9ae0d94170e5c0aa88e0960a99b671a3da09d1c879d996463"), looks := true }, kinds := [], alts := [], laidByText := true, laidKinds := [.data, .data, .data, .data, .sentinel, .sentinel, .pinned], laidTests := true, laidLooks := .later }
def WashsalePeriodsUptoCardSaid : Prop := Claim7.holds Tryz.pinned (.plain (OpenSpec.upto washsalePeriodsSpec)) washsalePeriodsUptoCard

/-- THE SECOND FORM's CARD OF 'tranchelaw25.WashsaleComplete'. -/
def washsaleCompleteUptoCard : Claim7 := { stood := { row := washsaleCompleteUptoRow, standIns := [], harness := (true, "8364b862a2ebcae9ae0d94170e5c0aa88e0960a99b671a3da09d1c879d996463"), looks := true }, kinds := [], alts := [], laidByText := true, laidKinds := [.data, .data, .data, .data, .sentinel, .sentinel, .pinned], laidTests := true, laidLooks := .later }
def WashsaleCompleteUptoCardSaid : Prop := Claim7.holds Tryz.pinned (.plain (OpenSpec.upto washsaleCompleteSpec)) washsaleCompleteUptoCard

/-- THE SECOND FORM's CARD OF 'tranchelaw25.WashsaleKeeps'. -/
def washsaleKeepsUptoCard : Claim7 := { stood := { row := washsaleKeepsUptoRow, standIns := [], harness := (true, "8364b862a2ebcae9ae0d94170e5c0aa88e0960a99b671a3da09d1c879d996463"), looks := true }, kinds := [], alts := [], laidByText := true, laidKinds := [.data, .data, .data, .data, .sentinel, .sentinel, .pinned], laidTests := true, laidLooks := .later }
def WashsaleKeepsUptoCardSaid : Prop := Claim7.holds Tryz.pinned (.plain (OpenSpec.upto washsaleKeepsSpec)) washsaleKeepsUptoCard

/-- THE SECOND FORM's CARD OF 'tranchelaw25.WashsaleFinds'. -/
def washsaleFindsUptoCard : Claim7 := { stood := { row := washsaleFindsUptoRow, standIns := [], harness := (true, "8364b862a2ebcae9ae0d94170e5c0aa88e0960a99b671a3da09d1c879d996463"), looks := true }, kinds := [], alts := [], laidByText := true, laidKinds := [.data, .data, .data, .data, .sentinel, .sentinel, .pinned], laidTests := true, laidLooks := .later }
def WashsaleFindsUptoCardSaid : Prop := Claim7.holds Tryz.pinned (.plain (OpenSpec.upto washsaleFindsSpec)) washsaleFindsUptoCard
end Rows
end Go.Proofs.YtiloklnjjfaagaaGreatDoor
