/-
  DERIVED. GIVEN WITH THE SEED: THE CARDS: each row of YtpdhhnhpaahenaaDoorRows.lean that lists a variable, with what it lists TIED to the program's text (the seventh form; the later family's looks); each row that meets fmt, with fmt's text TOLD by the authors' own Lean function (tested against real Go, not proved from fmt's source: count such statements apart). THE CARD IS WHAT COUNTS. Prove the row's statement (the work); the ties are given (YtpdhhnhpaahenaaDoorTie.lean); close each card by the builder's one call (the guide's Derived/Test/ToyasCard.lean, 'card_holds'). Laid BY PROGRAM, IN A SANDBOX (cutbox-door.mjs). By AI agents, Wed Nov 11 2026. No macro, syntax, notation, axiom, sorry.
-/
import Derived.Test.YtpdhhnhpaahenaaDoorRows
import GoSem.ClaimSeven
namespace Go.Proofs.YtpdhhnhpaahenaaDoor
namespace Rows

/-- THE TIED CARD OF 'kinlaw16.SceneUnlikes'. -/
def sceneUnlikesCard : Claim7 := { stood := { row := sceneUnlikesRow, standIns := [], harness := (true, "ae540ab837e51676c0e2335b71cac97526004bf0a6ff063308c674555d054499"), looks := true }, kinds := [], alts := [], laidByText := true, laidKinds := [.handle], laidTests := true, laidLooks := .later }
def SceneUnlikesCardSaid : Prop := Claim7.holds Tryd.pinned (.plain (OpenSpec.ofChange sceneUnlikesSpec)) sceneUnlikesCard

/-- THE TIED CARD OF 'kinlaw16.SceneGroups'. -/
def sceneGroupsCard : Claim7 := { stood := { row := sceneGroupsRow, standIns := [], harness := (true, "ae540ab837e51676c0e2335b71cac97526004bf0a6ff063308c674555d054499"), looks := true }, kinds := [], alts := [], laidByText := true, laidKinds := [.handle], laidTests := true, laidLooks := .later }
def SceneGroupsCardSaid : Prop := Claim7.holds Tryd.pinned (.plain (OpenSpec.ofChange sceneGroupsSpec)) sceneGroupsCard

/-- THE TIED CARD OF 'kinlaw16.SceneOnce'. -/
def sceneOnceCard : Claim7 := { stood := { row := sceneOnceRow, standIns := [], harness := (true, "ae540ab837e51676c0e2335b71cac97526004bf0a6ff063308c674555d054499"), looks := true }, kinds := [], alts := [], laidByText := true, laidKinds := [.handle], laidTests := true, laidLooks := .later }
def SceneOnceCardSaid : Prop := Claim7.holds Tryd.pinned (.plain (OpenSpec.ofChange sceneOnceSpec)) sceneOnceCard

/-- THE TIED CARD OF 'kinlaw16.SceneTurned'. -/
def sceneTurnedCard : Claim7 := { stood := { row := sceneTurnedRow, standIns := [], harness := (true, "ae540ab837e51676c0e2335b71cac97526004bf0a6ff063308c674555d054499"), looks := true }, kinds := [], alts := [], laidByText := true, laidKinds := [.handle], laidTests := true, laidLooks := .later }
def SceneTurnedCardSaid : Prop := Claim7.holds Tryd.pinned (.plain (OpenSpec.ofChange sceneTurnedSpec)) sceneTurnedCard

/-- THE TIED CARD OF 'kinlaw16.SceneCuts'. -/
def sceneCutsCard : Claim7 := { stood := { row := sceneCutsRow, standIns := [], harness := (true, "ae540ab837e51676c0e2335b71cac97526004bf0a6ff063308c674555d054499"), looks := true }, kinds := [], alts := [], laidByText := true, laidKinds := [.handle], laidTests := true, laidLooks := .later }
def SceneCutsCardSaid : Prop := Claim7.holds Tryd.pinned (.plain (OpenSpec.ofChange sceneCutsSpec)) sceneCutsCard

/-- THE SECOND FORM's CARD OF 'kinlaw16.SceneUnlikes'. -/
def sceneUnlikesUptoCard : Claim7 := { stood := { row := sceneUnlikesUptoRow, standIns := [], harness := (true, "ae540ab837e51676c0e2335b71cac97526004bf0a6ff063308c674555d054499"), looks := true }, kinds := [], alts := [], laidByText := true, laidKinds := [.handle], laidTests := true, laidLooks := .later }
def SceneUnlikesUptoCardSaid : Prop := Claim7.holds Tryd.pinned (.plain (OpenSpec.upto sceneUnlikesSpec)) sceneUnlikesUptoCard

/-- THE SECOND FORM's CARD OF 'kinlaw16.SceneGroups'. -/
def sceneGroupsUptoCard : Claim7 := { stood := { row := sceneGroupsUptoRow, standIns := [], harness := (true, "ae540ab837e51676c0e2335b71cac97526004bf0a6ff063308c674555d054499"), looks := true }, kinds := [], alts := [], laidByText := true, laidKinds := [.handle], laidTests := true, laidLooks := .later }
def SceneGroupsUptoCardSaid : Prop := Claim7.holds Tryd.pinned (.plain (OpenSpec.upto sceneGroupsSpec)) sceneGroupsUptoCard

/-- THE SECOND FORM's CARD OF 'kinlaw16.SceneOnce'. -/
def sceneOnceUptoCard : Claim7 := { stood := { row := sceneOnceUptoRow, standIns := [], harness := (true, "ae540ab837e51676c0e2335b71cac97526004bf0a6ff063308c674555d054499"), looks := true }, kinds := [], alts := [], laidByText := true, laidKinds := [.handle], laidTests := true, laidLooks := .later }
def SceneOnceUptoCardSaid : Prop := Claim7.holds Tryd.pinned (.plain (OpenSpec.upto sceneOnceSpec)) sceneOnceUptoCard

/-- THE SECOND FORM's CARD OF 'kinlaw16.SceneTurned'. -/
def sceneTurnedUptoCard : Claim7 := { stood := { row := sceneTurnedUptoRow, standIns := [], harness := (true, "ae540ab837e51676c0e2335b71cac97526004bf0a6ff063308c674555d054499"), looks := true }, kinds := [], alts := [], laidByText := true, laidKinds := [.handle], laidTests := true, laidLooks := .later }
def SceneTurnedUptoCardSaid : Prop := Claim7.holds Tryd.pinned (.plain (OpenSpec.upto sceneTurnedSpec)) sceneTurnedUptoCard

/-- THE SECOND FORM's CARD OF 'kinlaw16.SceneCuts'. -/
def sceneCutsUptoCard : Claim7 := { stood := { row := sceneCutsUptoRow, standIns := [], harness := (true, "ae540ab837e51676c0e2335b71cac97526004bf0a6ff063308c674555d054499"), looks := true }, kinds := [], alts := [], laidByText := true, laidKinds := [.handle], laidTests := true, laidLooks := .later }
def SceneCutsUptoCardSaid : Prop := Claim7.holds Tryd.pinned (.plain (OpenSpec.upto sceneCutsSpec)) sceneCutsUptoCard
end Rows
end Go.Proofs.YtpdhhnhpaahenaaDoor
