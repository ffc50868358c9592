/-
  DERIVED. GIVEN WITH THE SEED: THE CARDS: each row of YtdiaejphgcoknaaGreatDoorRows.lean that lists a variable, with what it lists TIED to the program's text (the seventh form; the later family's looks); each row that meets fmt, with fmt's text TOLD by the authors' own Lean function (tested against real Go, not proved from fmt's source: count such statements apart). THE CARD IS WHAT COUNTS. Prove the row's statement (the work); the ties are given (YtdiaejphgcoknaaGreatDoorTie.lean); close each card by the builder's one call (the guide's Derived/Test/ToyasCard.lean, 'card_holds'). Laid BY PROGRAM, IN A SANDBOX (cutbox-door.mjs). By AI agents, Wed Nov 11 2026. No macro, syntax, notation, axiom, sorry.
-/
import Derived.Test.YtdiaejphgcoknaaGreatDoorRows
import GoSem.ClaimSeven
namespace Go.Proofs.YtdiaejphgcoknaaGreatDoor
namespace Rows

/-- THE TIED CARD OF 'kinlaw5.DiskApart'. -/
def diskApartCard : Claim7 := { stood := { row := diskApartRow, standIns := [], harness := (true, "79d9c2a37cec0ca03f62e0816f2be36fd7fbfd44a0365439a3b6b3c60a197bd5"), looks := true }, kinds := [], alts := [], laidByText := true, laidKinds := [.handle], laidTests := true, laidLooks := .later }
def DiskApartCardSaid : Prop := Claim7.holds Tryz.pinned (.plain (OpenSpec.ofChange diskApartSpec)) diskApartCard

/-- THE TIED CARD OF 'kinlaw5.DiskPlays'. -/
def diskPlaysCard : Claim7 := { stood := { row := diskPlaysRow, standIns := [], harness := (true, "79d9c2a37cec0ca03f62e0816f2be36fd7fbfd44a0365439a3b6b3c60a197bd5"), looks := true }, kinds := [], alts := [], laidByText := true, laidKinds := [.handle], laidTests := true, laidLooks := .later }
def DiskPlaysCardSaid : Prop := Claim7.holds Tryz.pinned (.plain (OpenSpec.ofChange diskPlaysSpec)) diskPlaysCard

/-- THE SECOND FORM's CARD OF 'kinlaw5.DiskApart'. -/
def diskApartUptoCard : Claim7 := { stood := { row := diskApartUptoRow, standIns := [], harness := (true, "79d9c2a37cec0ca03f62e0816f2be36fd7fbfd44a0365439a3b6b3c60a197bd5"), looks := true }, kinds := [], alts := [], laidByText := true, laidKinds := [.handle], laidTests := true, laidLooks := .later }
def DiskApartUptoCardSaid : Prop := Claim7.holds Tryz.pinned (.plain (OpenSpec.upto diskApartSpec)) diskApartUptoCard

/-- THE SECOND FORM's CARD OF 'kinlaw5.DiskPlays'. -/
def diskPlaysUptoCard : Claim7 := { stood := { row := diskPlaysUptoRow, standIns := [], harness := (true, "79d9c2a37cec0ca03f62e0816f2be36fd7fbfd44a0365439a3b6b3c60a197bd5"), looks := true }, kinds := [], alts := [], laidByText := true, laidKinds := [.handle], laidTests := true, laidLooks := .later }
def DiskPlaysUptoCardSaid : Prop := Claim7.holds Tryz.pinned (.plain (OpenSpec.upto diskPlaysSpec)) diskPlaysUptoCard
end Rows
end Go.Proofs.YtdiaejphgcoknaaGreatDoor
