/-
  DERIVED. GIVEN WITH THE SEED: THE CARDS: each row of YtjmkcbagedflkaaDoorRows.lean that lists a variable, with what it lists TIED to the program's text (the seventh form; the later family's looks); each row that meets fmt, with fmt's text TOLD by the authors' own Lean function (tested against real Go, not proved from fmt's source: count such statements apart). THE CARD IS WHAT COUNTS. Prove the row's statement (the work); the ties are given (YtjmkcbagedflkaaDoorTie.lean); close each card by the builder's one call (the guide's Derived/Test/ToyasCard.lean, 'card_holds'). Laid BY PROGRAM, IN A SANDBOX (cutbox-door.mjs). By AI agents, Wed Nov 11 2026. No macro, syntax, notation, axiom, sorry.
-/
import Derived.Test.YtjmkcbagedflkaaDoorRows
import GoSem.ClaimSeven
namespace Go.Proofs.YtjmkcbagedflkaaDoor
namespace Rows

/-- THE TIED CARD OF 'kinlaw11.MotionHalves'. -/
def motionHalvesCard : Claim7 := { stood := { row := motionHalvesRow, standIns := [], harness := (true, "fb2e8c3ae021c03a8a78855b86fbc611a30fa6afc4e3b4e21ab62e34f3ff5e68"), looks := true }, kinds := [], alts := [], laidByText := true, laidKinds := [.handle], laidTests := true, laidLooks := .later }
def MotionHalvesCardSaid : Prop := Claim7.holds Tryd.pinned (.plain (OpenSpec.ofChange motionHalvesSpec)) motionHalvesCard

/-- THE TIED CARD OF 'kinlaw11.MotionCosts'. -/
def motionCostsCard : Claim7 := { stood := { row := motionCostsRow, standIns := [], harness := (true, "fb2e8c3ae021c03a8a78855b86fbc611a30fa6afc4e3b4e21ab62e34f3ff5e68"), looks := true }, kinds := [], alts := [], laidByText := true, laidKinds := [.handle], laidTests := true, laidLooks := .later }
def MotionCostsCardSaid : Prop := Claim7.holds Tryd.pinned (.plain (OpenSpec.ofChange motionCostsSpec)) motionCostsCard

/-- THE TIED CARD OF 'kinlaw11.MotionSearches'. -/
def motionSearchesCard : Claim7 := { stood := { row := motionSearchesRow, standIns := [], harness := (true, "fb2e8c3ae021c03a8a78855b86fbc611a30fa6afc4e3b4e21ab62e34f3ff5e68"), looks := true }, kinds := [], alts := [], laidByText := true, laidKinds := [.handle], laidTests := true, laidLooks := .later }
def MotionSearchesCardSaid : Prop := Claim7.holds Tryd.pinned (.plain (OpenSpec.ofChange motionSearchesSpec)) motionSearchesCard

/-- THE TIED CARD OF 'kinlaw11.MotionBest'. -/
def motionBestCard : Claim7 := { stood := { row := motionBestRow, standIns := [], harness := (true, "fb2e8c3ae021c03a8a78855b86fbc611a30fa6afc4e3b4e21ab62e34f3ff5e68"), looks := true }, kinds := [], alts := [], laidByText := true, laidKinds := [.handle], laidTests := true, laidLooks := .later }
def MotionBestCardSaid : Prop := Claim7.holds Tryd.pinned (.plain (OpenSpec.ofChange motionBestSpec)) motionBestCard

/-- THE TIED CARD OF 'kinlaw11.MotionSamples'. -/
def motionSamplesCard : Claim7 := { stood := { row := motionSamplesRow, standIns := [], harness := (true, "fb2e8c3ae021c03a8a78855b86fbc611a30fa6afc4e3b4e21ab62e34f3ff5e68"), looks := true }, kinds := [], alts := [], laidByText := true, laidKinds := [.handle], laidTests := true, laidLooks := .later }
def MotionSamplesCardSaid : Prop := Claim7.holds Tryd.pinned (.plain (OpenSpec.ofChange motionSamplesSpec)) motionSamplesCard

/-- THE TIED CARD OF 'kinlaw11.MotionWhole'. -/
def motionWholeCard : Claim7 := { stood := { row := motionWholeRow, standIns := [], harness := (true, "fb2e8c3ae021c03a8a78855b86fbc611a30fa6afc4e3b4e21ab62e34f3ff5e68"), looks := true }, kinds := [], alts := [], laidByText := true, laidKinds := [.handle], laidTests := true, laidLooks := .later }
def MotionWholeCardSaid : Prop := Claim7.holds Tryd.pinned (.plain (OpenSpec.ofChange motionWholeSpec)) motionWholeCard

/-- THE SECOND FORM's CARD OF 'kinlaw11.MotionHalves'. -/
def motionHalvesUptoCard : Claim7 := { stood := { row := motionHalvesUptoRow, standIns := [], harness := (true, "fb2e8c3ae021c03a8a78855b86fbc611a30fa6afc4e3b4e21ab62e34f3ff5e68"), looks := true }, kinds := [], alts := [], laidByText := true, laidKinds := [.handle], laidTests := true, laidLooks := .later }
def MotionHalvesUptoCardSaid : Prop := Claim7.holds Tryd.pinned (.plain (OpenSpec.upto motionHalvesSpec)) motionHalvesUptoCard

/-- THE SECOND FORM's CARD OF 'kinlaw11.MotionCosts'. -/
def motionCostsUptoCard : Claim7 := { stood := { row := motionCostsUptoRow, standIns := [], harness := (true, "fb2e8c3ae021c03a8a78855b86fbc611a30fa6afc4e3b4e21ab62e34f3ff5e68"), looks := true }, kinds := [], alts := [], laidByText := true, laidKinds := [.handle], laidTests := true, laidLooks := .later }
def MotionCostsUptoCardSaid : Prop := Claim7.holds Tryd.pinned (.plain (OpenSpec.upto motionCostsSpec)) motionCostsUptoCard

/-- THE SECOND FORM's CARD OF 'kinlaw11.MotionSearches'. -/
def motionSearchesUptoCard : Claim7 := { stood := { row := motionSearchesUptoRow, standIns := [], harness := (true, "fb2e8c3ae021c03a8a78855b86fbc611a30fa6afc4e3b4e21ab62e34f3ff5e68"), looks := true }, kinds := [], alts := [], laidByText := true, laidKinds := [.handle], laidTests := true, laidLooks := .later }
def MotionSearchesUptoCardSaid : Prop := Claim7.holds Tryd.pinned (.plain (OpenSpec.upto motionSearchesSpec)) motionSearchesUptoCard

/-- THE SECOND FORM's CARD OF 'kinlaw11.MotionBest'. -/
def motionBestUptoCard : Claim7 := { stood := { row := motionBestUptoRow, standIns := [], harness := (true, "fb2e8c3ae021c03a8a78855b86fbc611a30fa6afc4e3b4e21ab62e34f3ff5e68"), looks := true }, kinds := [], alts := [], laidByText := true, laidKinds := [.handle], laidTests := true, laidLooks := .later }
def MotionBestUptoCardSaid : Prop := Claim7.holds Tryd.pinned (.plain (OpenSpec.upto motionBestSpec)) motionBestUptoCard

/-- THE SECOND FORM's CARD OF 'kinlaw11.MotionSamples'. -/
def motionSamplesUptoCard : Claim7 := { stood := { row := motionSamplesUptoRow, standIns := [], harness := (true, "fb2e8c3ae021c03a8a78855b86fbc611a30fa6afc4e3b4e21ab62e34f3ff5e68"), looks := true }, kinds := [], alts := [], laidByText := true, laidKinds := [.handle], laidTests := true, laidLooks := .later }
def MotionSamplesUptoCardSaid : Prop := Claim7.holds Tryd.pinned (.plain (OpenSpec.upto motionSamplesSpec)) motionSamplesUptoCard

/-- THE SECOND FORM's CARD OF 'kinlaw11.MotionWhole'. -/
def motionWholeUptoCard : Claim7 := { stood := { row := motionWholeUptoRow, standIns := [], harness := (true, "fb2e8c3ae021c03a8a78855b86fbc611a30fa6afc4e3b4e21ab62e34f3ff5e68"), looks := true }, kinds := [], alts := [], laidByText := true, laidKinds := [.handle], laidTests := true, laidLooks := .later }
def MotionWholeUptoCardSaid : Prop := Claim7.holds Tryd.pinned (.plain (OpenSpec.upto motionWholeSpec)) motionWholeUptoCard
end Rows
end Go.Proofs.YtjmkcbagedflkaaDoor
