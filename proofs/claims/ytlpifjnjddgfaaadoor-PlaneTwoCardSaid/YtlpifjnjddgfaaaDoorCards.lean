/-
  DERIVED. GIVEN WITH THE SEED: THE CARDS: each row of YtlpifjnjddgfaaaDoorRows.lean that lists a variable, with what it lists TIED to the program's text (the seventh form; the later family's looks); each row that meets fmt, with fmt's text TOLD by the authors' own Lean function (tested against real Go, not proved from fmt's source: count such statements apart). THE CARD IS WHAT COUNTS. Prove the row's statement (the work); the ties are given (YtlpifjnjddgfaaaDoorTie.lean); close each card by the builder's one call (the guide's Derived/Test/ToyasCard.lean, 'card_holds'). Laid BY PROGRAM, IN A SANDBOX (cutbox-door.mjs). By AI agents, Wed Nov 11 2026. No macro, syntax, notation, axiom, sorry.
-/
import Derived.Test.YtlpifjnjddgfaaaDoorRows
import GoSem.ClaimSeven
namespace Go.Proofs.YtlpifjnjddgfaaaDoor
namespace Rows

/-- THE TIED CARD OF 'kinlaw6.PlaneMakes'. -/
def planeMakesCard : Claim7 := { stood := { row := planeMakesRow, standIns := [], harness := (true, "9f9d2845ab05ab97c58d10f0fd7014a3fd4c636a6d2bca6a6ffba57f8c4a437f"), looks := true }, kinds := [], alts := [], laidByText := true, laidKinds := [.handle], laidTests := true, laidLooks := .later }
def PlaneMakesCardSaid : Prop := Claim7.holds Tryd.pinned (.plain (OpenSpec.ofChange planeMakesSpec)) planeMakesCard

/-- THE TIED CARD OF 'kinlaw6.PlanePuts'. -/
def planePutsCard : Claim7 := { stood := { row := planePutsRow, standIns := [], harness := (true, "9f9d2845ab05ab97c58d10f0fd7014a3fd4c636a6d2bca6a6ffba57f8c4a437f"), looks := true }, kinds := [], alts := [], laidByText := true, laidKinds := [.handle], laidTests := true, laidLooks := .later }
def PlanePutsCardSaid : Prop := Claim7.holds Tryd.pinned (.plain (OpenSpec.ofChange planePutsSpec)) planePutsCard

/-- THE TIED CARD OF 'kinlaw6.PlaneBack'. -/
def planeBackCard : Claim7 := { stood := { row := planeBackRow, standIns := [], harness := (true, "9f9d2845ab05ab97c58d10f0fd7014a3fd4c636a6d2bca6a6ffba57f8c4a437f"), looks := true }, kinds := [], alts := [], laidByText := true, laidKinds := [.handle], laidTests := true, laidLooks := .later }
def PlaneBackCardSaid : Prop := Claim7.holds Tryd.pinned (.plain (OpenSpec.ofChange planeBackSpec)) planeBackCard

/-- THE TIED CARD OF 'kinlaw6.PlaneAsks'. -/
def planeAsksCard : Claim7 := { stood := { row := planeAsksRow, standIns := [], harness := (true, "9f9d2845ab05ab97c58d10f0fd7014a3fd4c636a6d2bca6a6ffba57f8c4a437f"), looks := true }, kinds := [], alts := [], laidByText := true, laidKinds := [.handle], laidTests := true, laidLooks := .later }
def PlaneAsksCardSaid : Prop := Claim7.holds Tryd.pinned (.plain (OpenSpec.ofChange planeAsksSpec)) planeAsksCard

/-- THE TIED CARD OF 'kinlaw6.PlanePeaks'. -/
def planePeaksCard : Claim7 := { stood := { row := planePeaksRow, standIns := [], harness := (true, "9f9d2845ab05ab97c58d10f0fd7014a3fd4c636a6d2bca6a6ffba57f8c4a437f"), looks := true }, kinds := [], alts := [], laidByText := true, laidKinds := [.handle], laidTests := true, laidLooks := .later }
def PlanePeaksCardSaid : Prop := Claim7.holds Tryd.pinned (.plain (OpenSpec.ofChange planePeaksSpec)) planePeaksCard

/-- THE TIED CARD OF 'kinlaw6.PlaneTwo'. -/
def planeTwoCard : Claim7 := { stood := { row := planeTwoRow, standIns := [], harness := (true, "9f9d2845ab05ab97c58d10f0fd7014a3fd4c636a6d2bca6a6ffba57f8c4a437f"), looks := true }, kinds := [], alts := [], laidByText := true, laidKinds := [.handle], laidTests := true, laidLooks := .later }
def PlaneTwoCardSaid : Prop := Claim7.holds Tryd.pinned (.plain (OpenSpec.ofChange planeTwoSpec)) planeTwoCard

/-- THE SECOND FORM's CARD OF 'kinlaw6.PlaneMakes'. -/
def planeMakesUptoCard : Claim7 := { stood := { row := planeMakesUptoRow, standIns := [], harness := (true, "9f9d2845ab05ab97c58d10f0fd7014a3fd4c636a6d2bca6a6ffba57f8c4a437f"), looks := true }, kinds := [], alts := [], laidByText := true, laidKinds := [.handle], laidTests := true, laidLooks := .later }
def PlaneMakesUptoCardSaid : Prop := Claim7.holds Tryd.pinned (.plain (OpenSpec.upto planeMakesSpec)) planeMakesUptoCard

/-- THE SECOND FORM's CARD OF 'kinlaw6.PlanePuts'. -/
def planePutsUptoCard : Claim7 := { stood := { row := planePutsUptoRow, standIns := [], harness := (true, "9f9d2845ab05ab97c58d10f0fd7014a3fd4c636a6d2bca6a6ffba57f8c4a437f"), looks := true }, kinds := [], alts := [], laidByText := true, laidKinds := [.handle], laidTests := true, laidLooks := .later }
def PlanePutsUptoCardSaid : Prop := Claim7.holds Tryd.pinned (.plain (OpenSpec.upto planePutsSpec)) planePutsUptoCard

/-- THE SECOND FORM's CARD OF 'kinlaw6.PlaneBack'. -/
def planeBackUptoCard : Claim7 := { stood := { row := planeBackUptoRow, standIns := [], harness := (true, "9f9d2845ab05ab97c58d10f0fd7014a3fd4c636a6d2bca6a6ffba57f8c4a437f"), looks := true }, kinds := [], alts := [], laidByText := true, laidKinds := [.handle], laidTests := true, laidLooks := .later }
def PlaneBackUptoCardSaid : Prop := Claim7.holds Tryd.pinned (.plain (OpenSpec.upto planeBackSpec)) planeBackUptoCard

/-- THE SECOND FORM's CARD OF 'kinlaw6.PlaneAsks'. -/
def planeAsksUptoCard : Claim7 := { stood := { row := planeAsksUptoRow, standIns := [], harness := (true, "9f9d2845ab05ab97c58d10f0fd7014a3fd4c636a6d2bca6a6ffba57f8c4a437f"), looks := true }, kinds := [], alts := [], laidByText := true, laidKinds := [.handle], laidTests := true, laidLooks := .later }
def PlaneAsksUptoCardSaid : Prop := Claim7.holds Tryd.pinned (.plain (OpenSpec.upto planeAsksSpec)) planeAsksUptoCard

/-- THE SECOND FORM's CARD OF 'kinlaw6.PlanePeaks'. -/
def planePeaksUptoCard : Claim7 := { stood := { row := planePeaksUptoRow, standIns := [], harness := (true, "9f9d2845ab05ab97c58d10f0fd7014a3fd4c636a6d2bca6a6ffba57f8c4a437f"), looks := true }, kinds := [], alts := [], laidByText := true, laidKinds := [.handle], laidTests := true, laidLooks := .later }
def PlanePeaksUptoCardSaid : Prop := Claim7.holds Tryd.pinned (.plain (OpenSpec.upto planePeaksSpec)) planePeaksUptoCard

/-- THE SECOND FORM's CARD OF 'kinlaw6.PlaneTwo'. -/
def planeTwoUptoCard : Claim7 := { stood := { row := planeTwoUptoRow, standIns := [], harness := (true, "9f9d2845ab05ab97c58d10f0fd7014a3fd4c636a6d2bca6a6ffba57f8c4a437f"), looks := true }, kinds := [], alts := [], laidByText := true, laidKinds := [.handle], laidTests := true, laidLooks := .later }
def PlaneTwoUptoCardSaid : Prop := Claim7.holds Tryd.pinned (.plain (OpenSpec.upto planeTwoSpec)) planeTwoUptoCard
end Rows
end Go.Proofs.YtlpifjnjddgfaaaDoor
