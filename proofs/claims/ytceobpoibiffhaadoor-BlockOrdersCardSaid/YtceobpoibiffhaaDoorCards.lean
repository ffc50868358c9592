/-
  DERIVED. GIVEN WITH THE SEED: THE CARDS: each row of YtceobpoibiffhaaDoorRows.lean that lists a variable, with what it lists TIED to the program's text (the seventh form; the later family's looks); each row that meets fmt, with fmt's text TOLD by the authors' own Lean function (tested against real Go, not proved from fmt's source: count such statements apart). THE CARD IS WHAT COUNTS. Prove the row's statement (the work); the ties are given (YtceobpoibiffhaaDoorTie.lean); close each card by the builder's one call (the guide's Derived/Test/ToyasCard.lean, 'card_holds'). Laid BY PROGRAM, IN A SANDBOX (cutbox-door.mjs). By AI agents, Wed Nov 11 2026. No macro, syntax, notation, axiom, sorry.
-/
import Derived.Test.YtceobpoibiffhaaDoorRows
import GoSem.ClaimSeven
namespace Go.Proofs.YtceobpoibiffhaaDoor
namespace Rows

/-- THE TIED CARD OF 'kinlaw7.BlockTwo'. -/
def blockTwoCard : Claim7 := { stood := { row := blockTwoRow, standIns := [], harness := (true, "e5cb54ab046d15887533166d22592e531859da44a53b6c09ce64b1d5bfb9ecb7"), looks := true }, kinds := [], alts := [], laidByText := true, laidKinds := [.handle], laidTests := true, laidLooks := .later }
def BlockTwoCardSaid : Prop := Claim7.holds Tryd.pinned (.plain (OpenSpec.ofChange blockTwoSpec)) blockTwoCard

/-- THE TIED CARD OF 'kinlaw7.BlockOrders'. -/
def blockOrdersCard : Claim7 := { stood := { row := blockOrdersRow, standIns := [], harness := (true, "e5cb54ab046d15887533166d22592e531859da44a53b6c09ce64b1d5bfb9ecb7"), looks := true }, kinds := [], alts := [], laidByText := true, laidKinds := [.handle], laidTests := true, laidLooks := .later }
def BlockOrdersCardSaid : Prop := Claim7.holds Tryd.pinned (.plain (OpenSpec.ofChange blockOrdersSpec)) blockOrdersCard

/-- THE TIED CARD OF 'kinlaw7.BlockSads'. -/
def blockSadsCard : Claim7 := { stood := { row := blockSadsRow, standIns := [], harness := (true, "e5cb54ab046d15887533166d22592e531859da44a53b6c09ce64b1d5bfb9ecb7"), looks := true }, kinds := [], alts := [], laidByText := true, laidKinds := [.handle], laidTests := true, laidLooks := .later }
def BlockSadsCardSaid : Prop := Claim7.holds Tryd.pinned (.plain (OpenSpec.ofChange blockSadsSpec)) blockSadsCard

/-- THE TIED CARD OF 'kinlaw7.BlockQuarters'. -/
def blockQuartersCard : Claim7 := { stood := { row := blockQuartersRow, standIns := [], harness := (true, "e5cb54ab046d15887533166d22592e531859da44a53b6c09ce64b1d5bfb9ecb7"), looks := true }, kinds := [], alts := [], laidByText := true, laidKinds := [.handle], laidTests := true, laidLooks := .later }
def BlockQuartersCardSaid : Prop := Claim7.holds Tryd.pinned (.plain (OpenSpec.ofChange blockQuartersSpec)) blockQuartersCard

/-- THE TIED CARD OF 'kinlaw7.BlockParts'. -/
def blockPartsCard : Claim7 := { stood := { row := blockPartsRow, standIns := [], harness := (true, "e5cb54ab046d15887533166d22592e531859da44a53b6c09ce64b1d5bfb9ecb7"), looks := true }, kinds := [], alts := [], laidByText := true, laidKinds := [.handle], laidTests := true, laidLooks := .later }
def BlockPartsCardSaid : Prop := Claim7.holds Tryd.pinned (.plain (OpenSpec.ofChange blockPartsSpec)) blockPartsCard

/-- THE TIED CARD OF 'kinlaw7.BlockBack'. -/
def blockBackCard : Claim7 := { stood := { row := blockBackRow, standIns := [], harness := (true, "e5cb54ab046d15887533166d22592e531859da44a53b6c09ce64b1d5bfb9ecb7"), looks := true }, kinds := [], alts := [], laidByText := true, laidKinds := [.handle], laidTests := true, laidLooks := .later }
def BlockBackCardSaid : Prop := Claim7.holds Tryd.pinned (.plain (OpenSpec.ofChange blockBackSpec)) blockBackCard

/-- THE SECOND FORM's CARD OF 'kinlaw7.BlockTwo'. -/
def blockTwoUptoCard : Claim7 := { stood := { row := blockTwoUptoRow, standIns := [], harness := (true, "e5cb54ab046d15887533166d22592e531859da44a53b6c09ce64b1d5bfb9ecb7"), looks := true }, kinds := [], alts := [], laidByText := true, laidKinds := [.handle], laidTests := true, laidLooks := .later }
def BlockTwoUptoCardSaid : Prop := Claim7.holds Tryd.pinned (.plain (OpenSpec.upto blockTwoSpec)) blockTwoUptoCard

/-- THE SECOND FORM's CARD OF 'kinlaw7.BlockOrders'. -/
def blockOrdersUptoCard : Claim7 := { stood := { row := blockOrdersUptoRow, standIns := [], harness := (true, "e5cb54ab046d15887533166d22592e531859da44a53b6c09ce64b1d5bfb9ecb7"), looks := true }, kinds := [], alts := [], laidByText := true, laidKinds := [.handle], laidTests := true, laidLooks := .later }
def BlockOrdersUptoCardSaid : Prop := Claim7.holds Tryd.pinned (.plain (OpenSpec.upto blockOrdersSpec)) blockOrdersUptoCard

/-- THE SECOND FORM's CARD OF 'kinlaw7.BlockSads'. -/
def blockSadsUptoCard : Claim7 := { stood := { row := blockSadsUptoRow, standIns := [], harness := (true, "e5cb54ab046d15887533166d22592e531859da44a53b6c09ce64b1d5bfb9ecb7"), looks := true }, kinds := [], alts := [], laidByText := true, laidKinds := [.handle], laidTests := true, laidLooks := .later }
def BlockSadsUptoCardSaid : Prop := Claim7.holds Tryd.pinned (.plain (OpenSpec.upto blockSadsSpec)) blockSadsUptoCard

/-- THE SECOND FORM's CARD OF 'kinlaw7.BlockQuarters'. -/
def blockQuartersUptoCard : Claim7 := { stood := { row := blockQuartersUptoRow, standIns := [], harness := (true, "e5cb54ab046d15887533166d22592e531859da44a53b6c09ce64b1d5bfb9ecb7"), looks := true }, kinds := [], alts := [], laidByText := true, laidKinds := [.handle], laidTests := true, laidLooks := .later }
def BlockQuartersUptoCardSaid : Prop := Claim7.holds Tryd.pinned (.plain (OpenSpec.upto blockQuartersSpec)) blockQuartersUptoCard

/-- THE SECOND FORM's CARD OF 'kinlaw7.BlockParts'. -/
def blockPartsUptoCard : Claim7 := { stood := { row := blockPartsUptoRow, standIns := [], harness := (true, "e5cb54ab046d15887533166d22592e531859da44a53b6c09ce64b1d5bfb9ecb7"), looks := true }, kinds := [], alts := [], laidByText := true, laidKinds := [.handle], laidTests := true, laidLooks := .later }
def BlockPartsUptoCardSaid : Prop := Claim7.holds Tryd.pinned (.plain (OpenSpec.upto blockPartsSpec)) blockPartsUptoCard

/-- THE SECOND FORM's CARD OF 'kinlaw7.BlockBack'. -/
def blockBackUptoCard : Claim7 := { stood := { row := blockBackUptoRow, standIns := [], harness := (true, "e5cb54ab046d15887533166d22592e531859da44a53b6c09ce64b1d5bfb9ecb7"), looks := true }, kinds := [], alts := [], laidByText := true, laidKinds := [.handle], laidTests := true, laidLooks := .later }
def BlockBackUptoCardSaid : Prop := Claim7.holds Tryd.pinned (.plain (OpenSpec.upto blockBackSpec)) blockBackUptoCard
end Rows
end Go.Proofs.YtceobpoibiffhaaDoor
