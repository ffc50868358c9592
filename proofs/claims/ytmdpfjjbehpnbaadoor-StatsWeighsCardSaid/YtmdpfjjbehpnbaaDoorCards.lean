/-
  DERIVED. GIVEN WITH THE SEED: THE CARDS: each row of YtmdpfjjbehpnbaaDoorRows.lean that lists a variable, with what it lists TIED to the program's text (the seventh form; the later family's looks); each row that meets fmt, with fmt's text TOLD by the authors' own Lean function (tested against real Go, not proved from fmt's source: count such statements apart). THE CARD IS WHAT COUNTS. Prove the row's statement (the work); the ties are given (YtmdpfjjbehpnbaaDoorTie.lean); close each card by the builder's one call (the guide's Derived/Test/ToyasCard.lean, 'card_holds'). Laid BY PROGRAM, IN A SANDBOX (cutbox-door.mjs). By AI agents, Wed Nov 11 2026. No macro, syntax, notation, axiom, sorry.
-/
import Derived.Test.YtmdpfjjbehpnbaaDoorRows
import GoSem.ClaimSeven
namespace Go.Proofs.YtmdpfjjbehpnbaaDoor
namespace Rows

/-- THE TIED CARD OF 'kinlaw17.StatsTells'. -/
def statsTellsCard : Claim7 := { stood := { row := statsTellsRow, standIns := [], harness := (true, "5f66828496d3edf607aea38ac5570af59c6148422ba4f856a565d54ceb6bae55"), looks := true }, kinds := [], alts := [], laidByText := true, laidKinds := [.handle], laidTests := true, laidLooks := .later }
def StatsTellsCardSaid : Prop := Claim7.holds Tryd.pinned (.plain (OpenSpec.ofChange statsTellsSpec)) statsTellsCard

/-- THE TIED CARD OF 'kinlaw17.StatsWeighs'. -/
def statsWeighsCard : Claim7 := { stood := { row := statsWeighsRow, standIns := [], harness := (true, "5f66828496d3edf607aea38ac5570af59c6148422ba4f856a565d54ceb6bae55"), looks := true }, kinds := [], alts := [], laidByText := true, laidKinds := [.handle], laidTests := true, laidLooks := .later }
def StatsWeighsCardSaid : Prop := Claim7.holds Tryd.pinned (.plain (OpenSpec.ofChange statsWeighsSpec)) statsWeighsCard

/-- THE TIED CARD OF 'kinlaw17.StatsLeast'. -/
def statsLeastCard : Claim7 := { stood := { row := statsLeastRow, standIns := [], harness := (true, "5f66828496d3edf607aea38ac5570af59c6148422ba4f856a565d54ceb6bae55"), looks := true }, kinds := [], alts := [], laidByText := true, laidKinds := [.handle], laidTests := true, laidLooks := .later }
def StatsLeastCardSaid : Prop := Claim7.holds Tryd.pinned (.plain (OpenSpec.ofChange statsLeastSpec)) statsLeastCard

/-- THE TIED CARD OF 'kinlaw17.StatsApart'. -/
def statsApartCard : Claim7 := { stood := { row := statsApartRow, standIns := [], harness := (true, "5f66828496d3edf607aea38ac5570af59c6148422ba4f856a565d54ceb6bae55"), looks := true }, kinds := [], alts := [], laidByText := true, laidKinds := [.handle], laidTests := true, laidLooks := .later }
def StatsApartCardSaid : Prop := Claim7.holds Tryd.pinned (.plain (OpenSpec.ofChange statsApartSpec)) statsApartCard

/-- THE TIED CARD OF 'kinlaw17.StatsFlat'. -/
def statsFlatCard : Claim7 := { stood := { row := statsFlatRow, standIns := [], harness := (true, "5f66828496d3edf607aea38ac5570af59c6148422ba4f856a565d54ceb6bae55"), looks := true }, kinds := [], alts := [], laidByText := true, laidKinds := [.handle], laidTests := true, laidLooks := .later }
def StatsFlatCardSaid : Prop := Claim7.holds Tryd.pinned (.plain (OpenSpec.ofChange statsFlatSpec)) statsFlatCard

/-- THE SECOND FORM's CARD OF 'kinlaw17.StatsTells'. -/
def statsTellsUptoCard : Claim7 := { stood := { row := statsTellsUptoRow, standIns := [], harness := (true, "5f66828496d3edf607aea38ac5570af59c6148422ba4f856a565d54ceb6bae55"), looks := true }, kinds := [], alts := [], laidByText := true, laidKinds := [.handle], laidTests := true, laidLooks := .later }
def StatsTellsUptoCardSaid : Prop := Claim7.holds Tryd.pinned (.plain (OpenSpec.upto statsTellsSpec)) statsTellsUptoCard

/-- THE SECOND FORM's CARD OF 'kinlaw17.StatsWeighs'. -/
def statsWeighsUptoCard : Claim7 := { stood := { row := statsWeighsUptoRow, standIns := [], harness := (true, "5f66828496d3edf607aea38ac5570af59c6148422ba4f856a565d54ceb6bae55"), looks := true }, kinds := [], alts := [], laidByText := true, laidKinds := [.handle], laidTests := true, laidLooks := .later }
def StatsWeighsUptoCardSaid : Prop := Claim7.holds Tryd.pinned (.plain (OpenSpec.upto statsWeighsSpec)) statsWeighsUptoCard

/-- THE SECOND FORM's CARD OF 'kinlaw17.StatsLeast'. -/
def statsLeastUptoCard : Claim7 := { stood := { row := statsLeastUptoRow, standIns := [], harness := (true, "5f66828496d3edf607aea38ac5570af59c6148422ba4f856a565d54ceb6bae55"), looks := true }, kinds := [], alts := [], laidByText := true, laidKinds := [.handle], laidTests := true, laidLooks := .later }
def StatsLeastUptoCardSaid : Prop := Claim7.holds Tryd.pinned (.plain (OpenSpec.upto statsLeastSpec)) statsLeastUptoCard

/-- THE SECOND FORM's CARD OF 'kinlaw17.StatsApart'. -/
def statsApartUptoCard : Claim7 := { stood := { row := statsApartUptoRow, standIns := [], harness := (true, "5f66828496d3edf607aea38ac5570af59c6148422ba4f856a565d54ceb6bae55"), looks := true }, kinds := [], alts := [], laidByText := true, laidKinds := [.handle], laidTests := true, laidLooks := .later }
def StatsApartUptoCardSaid : Prop := Claim7.holds Tryd.pinned (.plain (OpenSpec.upto statsApartSpec)) statsApartUptoCard

/-- THE SECOND FORM's CARD OF 'kinlaw17.StatsFlat'. -/
def statsFlatUptoCard : Claim7 := { stood := { row := statsFlatUptoRow, standIns := [], harness := (true, "5f66828496d3edf607aea38ac5570af59c6148422ba4f856a565d54ceb6bae55"), looks := true }, kinds := [], alts := [], laidByText := true, laidKinds := [.handle], laidTests := true, laidLooks := .later }
def StatsFlatUptoCardSaid : Prop := Claim7.holds Tryd.pinned (.plain (OpenSpec.upto statsFlatSpec)) statsFlatUptoCard
end Rows
end Go.Proofs.YtmdpfjjbehpnbaaDoor
