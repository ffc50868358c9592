/-
  DERIVED. GIVEN WITH THE SEED: THE CARDS: each row of YtmmhlojjipbceaaDoorRows.lean that lists a variable, with what it lists TIED to the program's text (the seventh form; the later family's looks); each row that meets fmt, with fmt's text TOLD by the authors' own Lean function (tested against real Go, not proved from fmt's source: count such statements apart). THE CARD IS WHAT COUNTS. Prove the row's statement (the work); the ties are given (YtmmhlojjipbceaaDoorTie.lean); close each card by the builder's one call (the guide's Derived/Test/ToyasCard.lean, 'card_holds'). Laid BY PROGRAM, IN A SANDBOX (cutbox-door.mjs). By AI agents, Wed Nov 11 2026. No macro, syntax, notation, axiom, sorry.
-/
import Derived.Test.YtmmhlojjipbceaaDoorRows
import GoSem.ClaimSeven
namespace Go.Proofs.YtmmhlojjipbceaaDoor
namespace Rows

/-- THE TIED CARD OF 'kinlaw8.WhtTurns'. -/
def whtTurnsCard : Claim7 := { stood := { row := whtTurnsRow, standIns := [], harness := (true, "e990a98a16d87561d6087115bcebe0e15480e602929ba006886c0c3c20e0be8c"), looks := true }, kinds := [], alts := [], laidByText := true, laidKinds := [.handle], laidTests := true, laidLooks := .later }
def WhtTurnsCardSaid : Prop := Claim7.holds Tryd.pinned (.plain (OpenSpec.ofChange whtTurnsSpec)) whtTurnsCard

/-- THE TIED CARD OF 'kinlaw8.WhtSigns'. -/
def whtSignsCard : Claim7 := { stood := { row := whtSignsRow, standIns := [], harness := (true, "e990a98a16d87561d6087115bcebe0e15480e602929ba006886c0c3c20e0be8c"), looks := true }, kinds := [], alts := [], laidByText := true, laidKinds := [.handle], laidTests := true, laidLooks := .later }
def WhtSignsCardSaid : Prop := Claim7.holds Tryd.pinned (.plain (OpenSpec.ofChange whtSignsSpec)) whtSignsCard

/-- THE TIED CARD OF 'kinlaw8.WhtBack'. -/
def whtBackCard : Claim7 := { stood := { row := whtBackRow, standIns := [], harness := (true, "e990a98a16d87561d6087115bcebe0e15480e602929ba006886c0c3c20e0be8c"), looks := true }, kinds := [], alts := [], laidByText := true, laidKinds := [.handle], laidTests := true, laidLooks := .later }
def WhtBackCardSaid : Prop := Claim7.holds Tryd.pinned (.plain (OpenSpec.ofChange whtBackSpec)) whtBackCard

/-- THE TIED CARD OF 'kinlaw8.WhtSmall'. -/
def whtSmallCard : Claim7 := { stood := { row := whtSmallRow, standIns := [], harness := (true, "e990a98a16d87561d6087115bcebe0e15480e602929ba006886c0c3c20e0be8c"), looks := true }, kinds := [], alts := [], laidByText := true, laidKinds := [.handle], laidTests := true, laidLooks := .later }
def WhtSmallCardSaid : Prop := Claim7.holds Tryd.pinned (.plain (OpenSpec.ofChange whtSmallSpec)) whtSmallCard

/-- THE TIED CARD OF 'kinlaw8.WhtSums'. -/
def whtSumsCard : Claim7 := { stood := { row := whtSumsRow, standIns := [], harness := (true, "e990a98a16d87561d6087115bcebe0e15480e602929ba006886c0c3c20e0be8c"), looks := true }, kinds := [], alts := [], laidByText := true, laidKinds := [.handle], laidTests := true, laidLooks := .later }
def WhtSumsCardSaid : Prop := Claim7.holds Tryd.pinned (.plain (OpenSpec.ofChange whtSumsSpec)) whtSumsCard

/-- THE TIED CARD OF 'kinlaw8.WhtFlat'. -/
def whtFlatCard : Claim7 := { stood := { row := whtFlatRow, standIns := [], harness := (true, "e990a98a16d87561d6087115bcebe0e15480e602929ba006886c0c3c20e0be8c"), looks := true }, kinds := [], alts := [], laidByText := true, laidKinds := [.handle], laidTests := true, laidLooks := .later }
def WhtFlatCardSaid : Prop := Claim7.holds Tryd.pinned (.plain (OpenSpec.ofChange whtFlatSpec)) whtFlatCard

/-- THE SECOND FORM's CARD OF 'kinlaw8.WhtTurns'. -/
def whtTurnsUptoCard : Claim7 := { stood := { row := whtTurnsUptoRow, standIns := [], harness := (true, "e990a98a16d87561d6087115bcebe0e15480e602929ba006886c0c3c20e0be8c"), looks := true }, kinds := [], alts := [], laidByText := true, laidKinds := [.handle], laidTests := true, laidLooks := .later }
def WhtTurnsUptoCardSaid : Prop := Claim7.holds Tryd.pinned (.plain (OpenSpec.upto whtTurnsSpec)) whtTurnsUptoCard

/-- THE SECOND FORM's CARD OF 'kinlaw8.WhtSigns'. -/
def whtSignsUptoCard : Claim7 := { stood := { row := whtSignsUptoRow, standIns := [], harness := (true, "e990a98a16d87561d6087115bcebe0e15480e602929ba006886c0c3c20e0be8c"), looks := true }, kinds := [], alts := [], laidByText := true, laidKinds := [.handle], laidTests := true, laidLooks := .later }
def WhtSignsUptoCardSaid : Prop := Claim7.holds Tryd.pinned (.plain (OpenSpec.upto whtSignsSpec)) whtSignsUptoCard

/-- THE SECOND FORM's CARD OF 'kinlaw8.WhtBack'. -/
def whtBackUptoCard : Claim7 := { stood := { row := whtBackUptoRow, standIns := [], harness := (true, "e990a98a16d87561d6087115bcebe0e15480e602929ba006886c0c3c20e0be8c"), looks := true }, kinds := [], alts := [], laidByText := true, laidKinds := [.handle], laidTests := true, laidLooks := .later }
def WhtBackUptoCardSaid : Prop := Claim7.holds Tryd.pinned (.plain (OpenSpec.upto whtBackSpec)) whtBackUptoCard

/-- THE SECOND FORM's CARD OF 'kinlaw8.WhtSmall'. -/
def whtSmallUptoCard : Claim7 := { stood := { row := whtSmallUptoRow, standIns := [], harness := (true, "e990a98a16d87561d6087115bcebe0e15480e602929ba006886c0c3c20e0be8c"), looks := true }, kinds := [], alts := [], laidByText := true, laidKinds := [.handle], laidTests := true, laidLooks := .later }
def WhtSmallUptoCardSaid : Prop := Claim7.holds Tryd.pinned (.plain (OpenSpec.upto whtSmallSpec)) whtSmallUptoCard

/-- THE SECOND FORM's CARD OF 'kinlaw8.WhtSums'. -/
def whtSumsUptoCard : Claim7 := { stood := { row := whtSumsUptoRow, standIns := [], harness := (true, "e990a98a16d87561d6087115bcebe0e15480e602929ba006886c0c3c20e0be8c"), looks := true }, kinds := [], alts := [], laidByText := true, laidKinds := [.handle], laidTests := true, laidLooks := .later }
def WhtSumsUptoCardSaid : Prop := Claim7.holds Tryd.pinned (.plain (OpenSpec.upto whtSumsSpec)) whtSumsUptoCard

/-- THE SECOND FORM's CARD OF 'kinlaw8.WhtFlat'. -/
def whtFlatUptoCard : Claim7 := { stood := { row := whtFlatUptoRow, standIns := [], harness := (true, "e990a98a16d87561d6087115bcebe0e15480e602929ba006886c0c3c20e0be8c"), looks := true }, kinds := [], alts := [], laidByText := true, laidKinds := [.handle], laidTests := true, laidLooks := .later }
def WhtFlatUptoCardSaid : Prop := Claim7.holds Tryd.pinned (.plain (OpenSpec.upto whtFlatSpec)) whtFlatUptoCard
end Rows
end Go.Proofs.YtmmhlojjipbceaaDoor
