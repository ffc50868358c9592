/-
  DERIVED. GIVEN WITH THE SEED: THE CARDS: each row of YtammgbohaaiicaaDoorRows.lean that lists a variable, with what it lists TIED to the program's text (the seventh form; the later family's looks); each row that meets fmt, with fmt's text TOLD by the authors' own Lean function (tested against real Go, not proved from fmt's source: count such statements apart). THE CARD IS WHAT COUNTS. Prove the row's statement (the work); the ties are given (YtammgbohaaiicaaDoorTie.lean); close each card by the builder's one call (the guide's Derived/Test/ToyasCard.lean, 'card_holds'). Laid BY PROGRAM, IN A SANDBOX (cutbox-door.mjs). By AI agents, Wed Nov 11 2026. No macro, syntax, notation, axiom, sorry.
-/
import Derived.Test.YtammgbohaaiicaaDoorRows
import GoSem.ClaimSeven
namespace Go.Proofs.YtammgbohaaiicaaDoor
namespace Rows

/-- THE TIED CARD OF 'kinlaw10.IntraPredicts'. -/
def intraPredictsCard : Claim7 := { stood := { row := intraPredictsRow, standIns := [], harness := (true, "1a58ee692b55e70395bb7d6d73fd620b5d828d1651ce478f39d086f5f4a1d2a4"), looks := true }, kinds := [], alts := [], laidByText := true, laidKinds := [.handle], laidTests := true, laidLooks := .later }
def IntraPredictsCardSaid : Prop := Claim7.holds Tryd.pinned (.plain (OpenSpec.ofChange intraPredictsSpec)) intraPredictsCard

/-- THE TIED CARD OF 'kinlaw10.IntraSamples'. -/
def intraSamplesCard : Claim7 := { stood := { row := intraSamplesRow, standIns := [], harness := (true, "1a58ee692b55e70395bb7d6d73fd620b5d828d1651ce478f39d086f5f4a1d2a4"), looks := true }, kinds := [], alts := [], laidByText := true, laidKinds := [.handle], laidTests := true, laidLooks := .later }
def IntraSamplesCardSaid : Prop := Claim7.holds Tryd.pinned (.plain (OpenSpec.ofChange intraSamplesSpec)) intraSamplesCard

/-- THE TIED CARD OF 'kinlaw10.IntraTurned'. -/
def intraTurnedCard : Claim7 := { stood := { row := intraTurnedRow, standIns := [], harness := (true, "1a58ee692b55e70395bb7d6d73fd620b5d828d1651ce478f39d086f5f4a1d2a4"), looks := true }, kinds := [], alts := [], laidByText := true, laidKinds := [.handle], laidTests := true, laidLooks := .later }
def IntraTurnedCardSaid : Prop := Claim7.holds Tryd.pinned (.plain (OpenSpec.ofChange intraTurnedSpec)) intraTurnedCard

/-- THE TIED CARD OF 'kinlaw10.IntraEdges'. -/
def intraEdgesCard : Claim7 := { stood := { row := intraEdgesRow, standIns := [], harness := (true, "1a58ee692b55e70395bb7d6d73fd620b5d828d1651ce478f39d086f5f4a1d2a4"), looks := true }, kinds := [], alts := [], laidByText := true, laidKinds := [.handle], laidTests := true, laidLooks := .later }
def IntraEdgesCardSaid : Prop := Claim7.holds Tryd.pinned (.plain (OpenSpec.ofChange intraEdgesSpec)) intraEdgesCard

/-- THE TIED CARD OF 'kinlaw10.IntraGrey'. -/
def intraGreyCard : Claim7 := { stood := { row := intraGreyRow, standIns := [], harness := (true, "1a58ee692b55e70395bb7d6d73fd620b5d828d1651ce478f39d086f5f4a1d2a4"), looks := true }, kinds := [], alts := [], laidByText := true, laidKinds := [.handle], laidTests := true, laidLooks := .later }
def IntraGreyCardSaid : Prop := Claim7.holds Tryd.pinned (.plain (OpenSpec.ofChange intraGreySpec)) intraGreyCard

/-- THE TIED CARD OF 'kinlaw10.IntraChooses'. -/
def intraChoosesCard : Claim7 := { stood := { row := intraChoosesRow, standIns := [], harness := (true, "1a58ee692b55e70395bb7d6d73fd620b5d828d1651ce478f39d086f5f4a1d2a4"), looks := true }, kinds := [], alts := [], laidByText := true, laidKinds := [.handle], laidTests := true, laidLooks := .later }
def IntraChoosesCardSaid : Prop := Claim7.holds Tryd.pinned (.plain (OpenSpec.ofChange intraChoosesSpec)) intraChoosesCard

/-- THE TIED CARD OF 'kinlaw10.IntraLeast'. -/
def intraLeastCard : Claim7 := { stood := { row := intraLeastRow, standIns := [], harness := (true, "1a58ee692b55e70395bb7d6d73fd620b5d828d1651ce478f39d086f5f4a1d2a4"), looks := true }, kinds := [], alts := [], laidByText := true, laidKinds := [.handle], laidTests := true, laidLooks := .later }
def IntraLeastCardSaid : Prop := Claim7.holds Tryd.pinned (.plain (OpenSpec.ofChange intraLeastSpec)) intraLeastCard

/-- THE SECOND FORM's CARD OF 'kinlaw10.IntraPredicts'. -/
def intraPredictsUptoCard : Claim7 := { stood := { row := intraPredictsUptoRow, standIns := [], harness := (true, "1a58ee692b55e70395bb7d6d73fd620b5d828d1651ce478f39d086f5f4a1d2a4"), looks := true }, kinds := [], alts := [], laidByText := true, laidKinds := [.handle], laidTests := true, laidLooks := .later }
def IntraPredictsUptoCardSaid : Prop := Claim7.holds Tryd.pinned (.plain (OpenSpec.upto intraPredictsSpec)) intraPredictsUptoCard

/-- THE SECOND FORM's CARD OF 'kinlaw10.IntraSamples'. -/
def intraSamplesUptoCard : Claim7 := { stood := { row := intraSamplesUptoRow, standIns := [], harness := (true, "1a58ee692b55e70395bb7d6d73fd620b5d828d1651ce478f39d086f5f4a1d2a4"), looks := true }, kinds := [], alts := [], laidByText := true, laidKinds := [.handle], laidTests := true, laidLooks := .later }
def IntraSamplesUptoCardSaid : Prop := Claim7.holds Tryd.pinned (.plain (OpenSpec.upto intraSamplesSpec)) intraSamplesUptoCard

/-- THE SECOND FORM's CARD OF 'kinlaw10.IntraTurned'. -/
def intraTurnedUptoCard : Claim7 := { stood := { row := intraTurnedUptoRow, standIns := [], harness := (true, "1a58ee692b55e70395bb7d6d73fd620b5d828d1651ce478f39d086f5f4a1d2a4"), looks := true }, kinds := [], alts := [], laidByText := true, laidKinds := [.handle], laidTests := true, laidLooks := .later }
def IntraTurnedUptoCardSaid : Prop := Claim7.holds Tryd.pinned (.plain (OpenSpec.upto intraTurnedSpec)) intraTurnedUptoCard

/-- THE SECOND FORM's CARD OF 'kinlaw10.IntraEdges'. -/
def intraEdgesUptoCard : Claim7 := { stood := { row := intraEdgesUptoRow, standIns := [], harness := (true, "1a58ee692b55e70395bb7d6d73fd620b5d828d1651ce478f39d086f5f4a1d2a4"), looks := true }, kinds := [], alts := [], laidByText := true, laidKinds := [.handle], laidTests := true, laidLooks := .later }
def IntraEdgesUptoCardSaid : Prop := Claim7.holds Tryd.pinned (.plain (OpenSpec.upto intraEdgesSpec)) intraEdgesUptoCard

/-- THE SECOND FORM's CARD OF 'kinlaw10.IntraGrey'. -/
def intraGreyUptoCard : Claim7 := { stood := { row := intraGreyUptoRow, standIns := [], harness := (true, "1a58ee692b55e70395bb7d6d73fd620b5d828d1651ce478f39d086f5f4a1d2a4"), looks := true }, kinds := [], alts := [], laidByText := true, laidKinds := [.handle], laidTests := true, laidLooks := .later }
def IntraGreyUptoCardSaid : Prop := Claim7.holds Tryd.pinned (.plain (OpenSpec.upto intraGreySpec)) intraGreyUptoCard

/-- THE SECOND FORM's CARD OF 'kinlaw10.IntraChooses'. -/
def intraChoosesUptoCard : Claim7 := { stood := { row := intraChoosesUptoRow, standIns := [], harness := (true, "1a58ee692b55e70395bb7d6d73fd620b5d828d1651ce478f39d086f5f4a1d2a4"), looks := true }, kinds := [], alts := [], laidByText := true, laidKinds := [.handle], laidTests := true, laidLooks := .later }
def IntraChoosesUptoCardSaid : Prop := Claim7.holds Tryd.pinned (.plain (OpenSpec.upto intraChoosesSpec)) intraChoosesUptoCard

/-- THE SECOND FORM's CARD OF 'kinlaw10.IntraLeast'. -/
def intraLeastUptoCard : Claim7 := { stood := { row := intraLeastUptoRow, standIns := [], harness := (true, "1a58ee692b55e70395bb7d6d73fd620b5d828d1651ce478f39d086f5f4a1d2a4"), looks := true }, kinds := [], alts := [], laidByText := true, laidKinds := [.handle], laidTests := true, laidLooks := .later }
def IntraLeastUptoCardSaid : Prop := Claim7.holds Tryd.pinned (.plain (OpenSpec.upto intraLeastSpec)) intraLeastUptoCard
end Rows
end Go.Proofs.YtammgbohaaiicaaDoor
