/-
  DERIVED. GIVEN WITH THE SEED: THE CARDS: each row of YtkiigodkbmcpfaaDoorRows.lean that lists a variable, with what it lists TIED to the program's text (the seventh form; the later family's looks); each row that meets fmt, with fmt's text TOLD by the authors' own Lean function (tested against real Go, not proved from fmt's source: count such statements apart). THE CARD IS WHAT COUNTS. Prove the row's statement (the work); the ties are given (YtkiigodkbmcpfaaDoorTie.lean); close each card by the builder's one call (the guide's Derived/Test/ToyasCard.lean, 'card_holds'). Laid BY PROGRAM, IN A SANDBOX (cutbox-door.mjs). By AI agents, Wed Nov 11 2026. No macro, syntax, notation, axiom, sorry.
-/
import Derived.Test.YtkiigodkbmcpfaaDoorRows
import GoSem.ClaimSeven
namespace Go.Proofs.YtkiigodkbmcpfaaDoor
namespace Rows

/-- THE TIED CARD OF 'kinlaw9.QuantOne'. -/
def quantOneCard : Claim7 := { stood := { row := quantOneRow, standIns := [], harness := (true, "7b513d437b0da634e089b3fb6f7af92345ba7554b244a9f9abf43324324d169f"), looks := true }, kinds := [], alts := [], laidByText := true, laidKinds := [.handle], laidTests := true, laidLooks := .later }
def QuantOneCardSaid : Prop := Claim7.holds Tryd.pinned (.plain (OpenSpec.ofChange quantOneSpec)) quantOneCard

/-- THE TIED CARD OF 'kinlaw9.QuantBound'. -/
def quantBoundCard : Claim7 := { stood := { row := quantBoundRow, standIns := [], harness := (true, "7b513d437b0da634e089b3fb6f7af92345ba7554b244a9f9abf43324324d169f"), looks := true }, kinds := [], alts := [], laidByText := true, laidKinds := [.handle], laidTests := true, laidLooks := .later }
def QuantBoundCardSaid : Prop := Claim7.holds Tryd.pinned (.plain (OpenSpec.ofChange quantBoundSpec)) quantBoundCard

/-- THE TIED CARD OF 'kinlaw9.QuantRises'. -/
def quantRisesCard : Claim7 := { stood := { row := quantRisesRow, standIns := [], harness := (true, "7b513d437b0da634e089b3fb6f7af92345ba7554b244a9f9abf43324324d169f"), looks := true }, kinds := [], alts := [], laidByText := true, laidKinds := [.handle], laidTests := true, laidLooks := .later }
def QuantRisesCardSaid : Prop := Claim7.holds Tryd.pinned (.plain (OpenSpec.ofChange quantRisesSpec)) quantRisesCard

/-- THE TIED CARD OF 'kinlaw9.QuantFixed'. -/
def quantFixedCard : Claim7 := { stood := { row := quantFixedRow, standIns := [], harness := (true, "7b513d437b0da634e089b3fb6f7af92345ba7554b244a9f9abf43324324d169f"), looks := true }, kinds := [], alts := [], laidByText := true, laidKinds := [.handle], laidTests := true, laidLooks := .later }
def QuantFixedCardSaid : Prop := Claim7.holds Tryd.pinned (.plain (OpenSpec.ofChange quantFixedSpec)) quantFixedCard

/-- THE TIED CARD OF 'kinlaw9.QuantLists'. -/
def quantListsCard : Claim7 := { stood := { row := quantListsRow, standIns := [], harness := (true, "7b513d437b0da634e089b3fb6f7af92345ba7554b244a9f9abf43324324d169f"), looks := true }, kinds := [], alts := [], laidByText := true, laidKinds := [.handle], laidTests := true, laidLooks := .later }
def QuantListsCardSaid : Prop := Claim7.holds Tryd.pinned (.plain (OpenSpec.ofChange quantListsSpec)) quantListsCard

/-- THE TIED CARD OF 'kinlaw9.QuantPeak'. -/
def quantPeakCard : Claim7 := { stood := { row := quantPeakRow, standIns := [], harness := (true, "7b513d437b0da634e089b3fb6f7af92345ba7554b244a9f9abf43324324d169f"), looks := true }, kinds := [], alts := [], laidByText := true, laidKinds := [.handle], laidTests := true, laidLooks := .later }
def QuantPeakCardSaid : Prop := Claim7.holds Tryd.pinned (.plain (OpenSpec.ofChange quantPeakSpec)) quantPeakCard

/-- THE SECOND FORM's CARD OF 'kinlaw9.QuantOne'. -/
def quantOneUptoCard : Claim7 := { stood := { row := quantOneUptoRow, standIns := [], harness := (true, "7b513d437b0da634e089b3fb6f7af92345ba7554b244a9f9abf43324324d169f"), looks := true }, kinds := [], alts := [], laidByText := true, laidKinds := [.handle], laidTests := true, laidLooks := .later }
def QuantOneUptoCardSaid : Prop := Claim7.holds Tryd.pinned (.plain (OpenSpec.upto quantOneSpec)) quantOneUptoCard

/-- THE SECOND FORM's CARD OF 'kinlaw9.QuantBound'. -/
def quantBoundUptoCard : Claim7 := { stood := { row := quantBoundUptoRow, standIns := [], harness := (true, "7b513d437b0da634e089b3fb6f7af92345ba7554b244a9f9abf43324324d169f"), looks := true }, kinds := [], alts := [], laidByText := true, laidKinds := [.handle], laidTests := true, laidLooks := .later }
def QuantBoundUptoCardSaid : Prop := Claim7.holds Tryd.pinned (.plain (OpenSpec.upto quantBoundSpec)) quantBoundUptoCard

/-- THE SECOND FORM's CARD OF 'kinlaw9.QuantRises'. -/
def quantRisesUptoCard : Claim7 := { stood := { row := quantRisesUptoRow, standIns := [], harness := (true, "7b513d437b0da634e089b3fb6f7af92345ba7554b244a9f9abf43324324d169f"), looks := true }, kinds := [], alts := [], laidByText := true, laidKinds := [.handle], laidTests := true, laidLooks := .later }
def QuantRisesUptoCardSaid : Prop := Claim7.holds Tryd.pinned (.plain (OpenSpec.upto quantRisesSpec)) quantRisesUptoCard

/-- THE SECOND FORM's CARD OF 'kinlaw9.QuantFixed'. -/
def quantFixedUptoCard : Claim7 := { stood := { row := quantFixedUptoRow, standIns := [], harness := (true, "7b513d437b0da634e089b3fb6f7af92345ba7554b244a9f9abf43324324d169f"), looks := true }, kinds := [], alts := [], laidByText := true, laidKinds := [.handle], laidTests := true, laidLooks := .later }
def QuantFixedUptoCardSaid : Prop := Claim7.holds Tryd.pinned (.plain (OpenSpec.upto quantFixedSpec)) quantFixedUptoCard

/-- THE SECOND FORM's CARD OF 'kinlaw9.QuantLists'. -/
def quantListsUptoCard : Claim7 := { stood := { row := quantListsUptoRow, standIns := [], harness := (true, "7b513d437b0da634e089b3fb6f7af92345ba7554b244a9f9abf43324324d169f"), looks := true }, kinds := [], alts := [], laidByText := true, laidKinds := [.handle], laidTests := true, laidLooks := .later }
def QuantListsUptoCardSaid : Prop := Claim7.holds Tryd.pinned (.plain (OpenSpec.upto quantListsSpec)) quantListsUptoCard

/-- THE SECOND FORM's CARD OF 'kinlaw9.QuantPeak'. -/
def quantPeakUptoCard : Claim7 := { stood := { row := quantPeakUptoRow, standIns := [], harness := (true, "7b513d437b0da634e089b3fb6f7af92345ba7554b244a9f9abf43324324d169f"), looks := true }, kinds := [], alts := [], laidByText := true, laidKinds := [.handle], laidTests := true, laidLooks := .later }
def QuantPeakUptoCardSaid : Prop := Claim7.holds Tryd.pinned (.plain (OpenSpec.upto quantPeakSpec)) quantPeakUptoCard
end Rows
end Go.Proofs.YtkiigodkbmcpfaaDoor
