/-
  DERIVED. GIVEN WITH THE SEED: THE CARDS: each row of YtajkpgaheechmaaGreatDoorRows.lean that lists a variable, with what it lists TIED to the program's text (the seventh form; the later family's looks); each row that meets fmt, with fmt's text TOLD by the authors' own Lean function (tested against real Go, not proved from fmt's source: count such statements apart). THE CARD IS WHAT COUNTS. Prove the row's statement (the work); the ties are given (YtajkpgaheechmaaGreatDoorTie.lean); close each card by the builder's one call (the guide's Derived/Test/ToyasCard.lean, 'card_holds'). Laid BY PROGRAM, IN A SANDBOX (cutbox-door.mjs). By AI agents, Wed Nov 11 2026. No macro, syntax, notation, axiom, sorry.
-/
import Derived.Test.YtajkpgaheechmaaGreatDoorRows
import GoSem.ClaimSeven
namespace Go.Proofs.YtajkpgaheechmaaGreatDoor
namespace Rows

/-- THE TIED CARD OF 'kintop.TopRests'. -/
def topRestsCard : Claim7 := { stood := { row := topRestsRow, standIns := [], harness := (true, "21722514b6ddc7cab803452d395e6faab21a498019ac6ff2e99267725b2dbcf5"), looks := true }, kinds := [], alts := [], laidByText := true, laidKinds := [.handle], laidTests := true, laidLooks := .later }
def TopRestsCardSaid : Prop := Claim7.holds Tryz.pinned (.plain (OpenSpec.ofChange topRestsSpec)) topRestsCard

/-- THE TIED CARD OF 'kintop.TopFails'. -/
def topFailsCard : Claim7 := { stood := { row := topFailsRow, standIns := [], harness := (true, "21722514b6ddc7cab803452d395e6faab21a498019ac6ff2e99267725b2dbcf5"), looks := true }, kinds := [], alts := [], laidByText := true, laidKinds := [.handle], laidTests := true, laidLooks := .later }
def TopFailsCardSaid : Prop := Claim7.holds Tryz.pinned (.plain (OpenSpec.ofChange topFailsSpec)) topFailsCard

/-- THE TIED CARD OF 'kintop.TopFalls'. -/
def topFallsCard : Claim7 := { stood := { row := topFallsRow, standIns := [], harness := (true, "21722514b6ddc7cab803452d395e6faab21a498019ac6ff2e99267725b2dbcf5"), looks := true }, kinds := [], alts := [], laidByText := true, laidKinds := [.handle], laidTests := true, laidLooks := .later }
def TopFallsCardSaid : Prop := Claim7.holds Tryz.pinned (.plain (OpenSpec.ofChange topFallsSpec)) topFallsCard

/-- THE SECOND FORM's CARD OF 'kintop.TopRests'. -/
def topRestsUptoCard : Claim7 := { stood := { row := topRestsUptoRow, standIns := [], harness := (true, "21722514b6ddc7cab803452d395e6faab21a498019ac6ff2e99267725b2dbcf5"), looks := true }, kinds := [], alts := [], laidByText := true, laidKinds := [.handle], laidTests := true, laidLooks := .later }
def TopRestsUptoCardSaid : Prop := Claim7.holds Tryz.pinned (.plain (OpenSpec.upto topRestsSpec)) topRestsUptoCard

/-- THE SECOND FORM's CARD OF 'kintop.TopFails'. -/
def topFailsUptoCard : Claim7 := { stood := { row := topFailsUptoRow, standIns := [], harness := (true, "21722514b6ddc7cab803452d395e6faab21a498019ac6ff2e99267725b2dbcf5"), looks := true }, kinds := [], alts := [], laidByText := true, laidKinds := [.handle], laidTests := true, laidLooks := .later }
def TopFailsUptoCardSaid : Prop := Claim7.holds Tryz.pinned (.plain (OpenSpec.upto topFailsSpec)) topFailsUptoCard

/-- THE SECOND FORM's CARD OF 'kintop.TopFalls'. -/
def topFallsUptoCard : Claim7 := { stood := { row := topFallsUptoRow, standIns := [], harness := (true, "21722514b6ddc7cab803452d395e6faab21a498019ac6ff2e99267725b2dbcf5"), looks := true }, kinds := [], alts := [], laidByText := true, laidKinds := [.handle], laidTests := true, laidLooks := .later }
def TopFallsUptoCardSaid : Prop := Claim7.holds Tryz.pinned (.plain (OpenSpec.upto topFallsSpec)) topFallsUptoCard
end Rows
end Go.Proofs.YtajkpgaheechmaaGreatDoor
