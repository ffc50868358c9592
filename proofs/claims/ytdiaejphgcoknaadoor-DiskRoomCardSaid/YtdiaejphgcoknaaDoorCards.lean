/-
  DERIVED. GIVEN WITH THE SEED: THE CARDS: each row of YtdiaejphgcoknaaDoorRows.lean that lists a variable, with what it lists TIED to the program's text (the seventh form; the later family's looks); each row that meets fmt, with fmt's text TOLD by the authors' own Lean function (tested against real Go, not proved from fmt's source: count such statements apart). THE CARD IS WHAT COUNTS. Prove the row's statement (the work); the ties are given (YtdiaejphgcoknaaDoorTie.lean); close each card by the builder's one call (the guide's Derived/Test/ToyasCard.lean, 'card_holds'). Laid BY PROGRAM, IN A SANDBOX (cutbox-door.mjs). By AI agents, Wed Nov 11 2026. No macro, syntax, notation, axiom, sorry.
-/
import Derived.Test.YtdiaejphgcoknaaDoorRows
import GoSem.ClaimSeven
namespace Go.Proofs.YtdiaejphgcoknaaDoor
namespace Rows

/-- THE TIED CARD OF 'kinlaw5.DiskRefused'. -/
def diskRefusedCard : Claim7 := { stood := { row := diskRefusedRow, standIns := [], harness := (true, "51d4f03f38c4a5b13ae614dd213ffab068b28404f6c00ad1537b045ce78f86c3"), looks := true }, kinds := [], alts := [], laidByText := true, laidKinds := [.handle], laidTests := true, laidLooks := .later }
def DiskRefusedCardSaid : Prop := Claim7.holds Tryd.pinned (.plain (OpenSpec.ofChange diskRefusedSpec)) diskRefusedCard

/-- THE TIED CARD OF 'kinlaw5.DiskFalls'. -/
def diskFallsCard : Claim7 := { stood := { row := diskFallsRow, standIns := [], harness := (true, "51d4f03f38c4a5b13ae614dd213ffab068b28404f6c00ad1537b045ce78f86c3"), looks := true }, kinds := [], alts := [], laidByText := true, laidKinds := [.handle], laidTests := true, laidLooks := .later }
def DiskFallsCardSaid : Prop := Claim7.holds Tryd.pinned (.plain (OpenSpec.ofChange diskFallsSpec)) diskFallsCard

/-- THE TIED CARD OF 'kinlaw5.DiskKept'. -/
def diskKeptCard : Claim7 := { stood := { row := diskKeptRow, standIns := [], harness := (true, "51d4f03f38c4a5b13ae614dd213ffab068b28404f6c00ad1537b045ce78f86c3"), looks := true }, kinds := [], alts := [], laidByText := true, laidKinds := [.handle], laidTests := true, laidLooks := .later }
def DiskKeptCardSaid : Prop := Claim7.holds Tryd.pinned (.plain (OpenSpec.ofChange diskKeptSpec)) diskKeptCard

/-- THE TIED CARD OF 'kinlaw5.DiskEither'. -/
def diskEitherCard : Claim7 := { stood := { row := diskEitherRow, standIns := [], harness := (true, "51d4f03f38c4a5b13ae614dd213ffab068b28404f6c00ad1537b045ce78f86c3"), looks := true }, kinds := [], alts := [], laidByText := true, laidKinds := [.handle], laidTests := true, laidLooks := .later }
def DiskEitherCardSaid : Prop := Claim7.holds Tryd.pinned (.plain (OpenSpec.ofChange diskEitherSpec)) diskEitherCard

/-- THE TIED CARD OF 'kinlaw5.DiskRoom'. -/
def diskRoomCard : Claim7 := { stood := { row := diskRoomRow, standIns := [], harness := (true, "51d4f03f38c4a5b13ae614dd213ffab068b28404f6c00ad1537b045ce78f86c3"), looks := true }, kinds := [], alts := [], laidByText := true, laidKinds := [.handle], laidTests := true, laidLooks := .later }
def DiskRoomCardSaid : Prop := Claim7.holds Tryd.pinned (.plain (OpenSpec.ofChange diskRoomSpec)) diskRoomCard

/-- THE SECOND FORM's CARD OF 'kinlaw5.DiskRefused'. -/
def diskRefusedUptoCard : Claim7 := { stood := { row := diskRefusedUptoRow, standIns := [], harness := (true, "51d4f03f38c4a5b13ae614dd213ffab068b28404f6c00ad1537b045ce78f86c3"), looks := true }, kinds := [], alts := [], laidByText := true, laidKinds := [.handle], laidTests := true, laidLooks := .later }
def DiskRefusedUptoCardSaid : Prop := Claim7.holds Tryd.pinned (.plain (OpenSpec.upto diskRefusedSpec)) diskRefusedUptoCard

/-- THE SECOND FORM's CARD OF 'kinlaw5.DiskFalls'. -/
def diskFallsUptoCard : Claim7 := { stood := { row := diskFallsUptoRow, standIns := [], harness := (true, "51d4f03f38c4a5b13ae614dd213ffab068b28404f6c00ad1537b045ce78f86c3"), looks := true }, kinds := [], alts := [], laidByText := true, laidKinds := [.handle], laidTests := true, laidLooks := .later }
def DiskFallsUptoCardSaid : Prop := Claim7.holds Tryd.pinned (.plain (OpenSpec.upto diskFallsSpec)) diskFallsUptoCard

/-- THE SECOND FORM's CARD OF 'kinlaw5.DiskKept'. -/
def diskKeptUptoCard : Claim7 := { stood := { row := diskKeptUptoRow, standIns := [], harness := (true, "51d4f03f38c4a5b13ae614dd213ffab068b28404f6c00ad1537b045ce78f86c3"), looks := true }, kinds := [], alts := [], laidByText := true, laidKinds := [.handle], laidTests := true, laidLooks := .later }
def DiskKeptUptoCardSaid : Prop := Claim7.holds Tryd.pinned (.plain (OpenSpec.upto diskKeptSpec)) diskKeptUptoCard

/-- THE SECOND FORM's CARD OF 'kinlaw5.DiskEither'. -/
def diskEitherUptoCard : Claim7 := { stood := { row := diskEitherUptoRow, standIns := [], harness := (true, "51d4f03f38c4a5b13ae614dd213ffab068b28404f6c00ad1537b045ce78f86c3"), looks := true }, kinds := [], alts := [], laidByText := true, laidKinds := [.handle], laidTests := true, laidLooks := .later }
def DiskEitherUptoCardSaid : Prop := Claim7.holds Tryd.pinned (.plain (OpenSpec.upto diskEitherSpec)) diskEitherUptoCard

/-- THE SECOND FORM's CARD OF 'kinlaw5.DiskRoom'. -/
def diskRoomUptoCard : Claim7 := { stood := { row := diskRoomUptoRow, standIns := [], harness := (true, "51d4f03f38c4a5b13ae614dd213ffab068b28404f6c00ad1537b045ce78f86c3"), looks := true }, kinds := [], alts := [], laidByText := true, laidKinds := [.handle], laidTests := true, laidLooks := .later }
def DiskRoomUptoCardSaid : Prop := Claim7.holds Tryd.pinned (.plain (OpenSpec.upto diskRoomSpec)) diskRoomUptoCard
end Rows
end Go.Proofs.YtdiaejphgcoknaaDoor
