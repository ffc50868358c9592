/-
  NARROWER THAN 'FOR EVERY INPUT', by the rows' own cells (each row's printed sentence says how): SceneUnlikes: laid · SceneGroups: laid · SceneOnce: laid · SceneTurned: laid · SceneCuts: laid.
  DERIVED. THE GIVEN ROWS OF THIS SEAT. 5 by the template 'for every input the law returns true; each argument reads behind the call as it read before'; 0 by the template 'total and deterministic' (their statements: YtpdhhnhpaahenaaDoorTotals.lean).
  GIVEN WITH THE SEED: the statements are not yours to turn. If you find one false, say at which input.
  Laid BY PROGRAM, IN A SANDBOX (cutbox-rows.mjs): the forced cells as the released guide's own fill.sh prints them over the translation 0365b6816e87b5c1… (all of the seat's roots in one cut). By AI agents, Wed Nov 11 2026. No macro, syntax, notation, axiom, sorry.
-/
import Derived.Test.YtpdhhnhpaahenaaDoorChecked
import GoSem.Claim
import GoSem.ClaimJoined
import GoSem.ClaimMapViews
import Derived.JoinedTies
import Derived.KernelRfl
namespace Go.Proofs.YtpdhhnhpaahenaaDoor
/- THE CELL 'sum', in the pinned program and in every row, IS THE sha256 OF THE DUMP (.gsa) THAT YtpdhhnhpaahenaaDoorProg.lean LOADS. Nothing in Lean hashes anything: it is a label: what it is worth is what the hold of that sum in a sandbox is worth. -/
noncomputable def Tryd.pinned : Pinned := { name := "ytpdhhnhpaahenaadoor", sum := "0365b6816e87b5c1071a0dbbf292a5f0b6ef9857ccb41631550cba2a4d1686ce", checked := Tryd.checked }
namespace Rows
def none {H : Type} : Left H := { results := [], args := [] }

/- WHAT THE LISTED PACKAGE-LEVEL VARIABLES READ AS WHEN THE CALL BEGINS. Each datum BY PROGRAM (the guide's laid-datum.mjs) off the statement by which the dump's own 'gosem.cut.vars' lays the variable. In a bare row this is a premise. The card (YtpdhhnhpaahenaaDoorCards.lean) ties it to the program's text. -/
def laid_errors_errorType {H : Type} : DataW H := .iface "internal/reflectlite.rtype" (.agg [.ptr (.lit (.string [101, 114, 114, 111, 114]))])

/-- 'kinlaw16.SceneUnlikes': WHATEVER THE INPUT: true; the input reads as it did. -/
def sceneUnlikesSpec : ChangeSpec := { name := "sceneUnlikes", fn := fun _ => fun
  | [d1, d2] => { results := [.lit (.bool true)], args := [d1, d2] }
  | _ => none }
def sceneUnlikesRow : OpenClaim := { program := "ytpdhhnhpaahenaadoor", sum := "0365b6816e87b5c1071a0dbbf292a5f0b6ef9857ccb41631550cba2a4d1686ce", func := "kinescope/kinlaw16.SceneUnlikes", spec := "sceneUnlikes", inPlace := ["internal/reflectlite.ValueOf", "(internal/reflectlite.Value).Type", "(internal/reflectlite.Value).IsNil", "internal/reflectlite.TypeOf", "(internal/reflectlite.Value).Elem", "(internal/reflectlite.Value).Set"], unfollowed := true, recurses := true, named := ["errors.errorType"], apart := false, laid := [("errors.errorType", laid_errors_errorType)] }
def SceneUnlikesSaid : Prop := sceneUnlikesRow.holds Tryd.pinned (OpenSpec.ofChange sceneUnlikesSpec)

/-- ITS FALSE NEIGHBOUR: 'it returns false'. Refute it at one input. -/
def sceneUnlikesWrong : ChangeSpec := { name := "sceneUnlikes", fn := fun _ => fun
  | [d1, d2] => { results := [.lit (.bool false)], args := [d1, d2] }
  | _ => none }
def SceneUnlikesWrongFalsely : Prop := sceneUnlikesRow.holds Tryd.pinned (OpenSpec.ofChange sceneUnlikesWrong)

/-- 'kinlaw16.SceneGroups': WHATEVER THE INPUT: true; the input reads as it did. -/
def sceneGroupsSpec : ChangeSpec := { name := "sceneGroups", fn := fun _ => fun
  | [d1, d2, d3] => { results := [.lit (.bool true)], args := [d1, d2, d3] }
  | _ => none }
def sceneGroupsRow : OpenClaim := { program := "ytpdhhnhpaahenaadoor", sum := "0365b6816e87b5c1071a0dbbf292a5f0b6ef9857ccb41631550cba2a4d1686ce", func := "kinescope/kinlaw16.SceneGroups", spec := "sceneGroups", inPlace := ["internal/reflectlite.ValueOf", "(internal/reflectlite.Value).Type", "(internal/reflectlite.Value).IsNil", "internal/reflectlite.TypeOf", "(internal/reflectlite.Value).Elem", "(internal/reflectlite.Value).Set"], unfollowed := true, recurses := true, named := ["errors.errorType"], apart := false, laid := [("errors.errorType", laid_errors_errorType)] }
def SceneGroupsSaid : Prop := sceneGroupsRow.holds Tryd.pinned (OpenSpec.ofChange sceneGroupsSpec)

/-- ITS FALSE NEIGHBOUR: 'it returns false'. Refute it at one input. -/
def sceneGroupsWrong : ChangeSpec := { name := "sceneGroups", fn := fun _ => fun
  | [d1, d2, d3] => { results := [.lit (.bool false)], args := [d1, d2, d3] }
  | _ => none }
def SceneGroupsWrongFalsely : Prop := sceneGroupsRow.holds Tryd.pinned (OpenSpec.ofChange sceneGroupsWrong)

/-- 'kinlaw16.SceneOnce': WHATEVER THE INPUT: true; the input reads as it did. -/
def sceneOnceSpec : ChangeSpec := { name := "sceneOnce", fn := fun _ => fun
  | [d1, d2, d3] => { results := [.lit (.bool true)], args := [d1, d2, d3] }
  | _ => none }
def sceneOnceRow : OpenClaim := { program := "ytpdhhnhpaahenaadoor", sum := "0365b6816e87b5c1071a0dbbf292a5f0b6ef9857ccb41631550cba2a4d1686ce", func := "kinescope/kinlaw16.SceneOnce", spec := "sceneOnce", inPlace := ["internal/reflectlite.ValueOf", "(internal/reflectlite.Value).Type", "(internal/reflectlite.Value).IsNil", "internal/reflectlite.TypeOf", "(internal/reflectlite.Value).Elem", "(internal/reflectlite.Value).Set"], unfollowed := true, recurses := true, named := ["errors.errorType"], apart := false, laid := [("errors.errorType", laid_errors_errorType)] }
def SceneOnceSaid : Prop := sceneOnceRow.holds Tryd.pinned (OpenSpec.ofChange sceneOnceSpec)

/-- ITS FALSE NEIGHBOUR: 'it returns false'. Refute it at one input. -/
def sceneOnceWrong : ChangeSpec := { name := "sceneOnce", fn := fun _ => fun
  | [d1, d2, d3] => { results := [.lit (.bool false)], args := [d1, d2, d3] }
  | _ => none }
def SceneOnceWrongFalsely : Prop := sceneOnceRow.holds Tryd.pinned (OpenSpec.ofChange sceneOnceWrong)

/-- 'kinlaw16.SceneTurned': WHATEVER THE INPUT: true; the input reads as it did. -/
def sceneTurnedSpec : ChangeSpec := { name := "sceneTurned", fn := fun _ => fun
  | [d1, d2] => { results := [.lit (.bool true)], args := [d1, d2] }
  | _ => none }
def sceneTurnedRow : OpenClaim := { program := "ytpdhhnhpaahenaadoor", sum := "0365b6816e87b5c1071a0dbbf292a5f0b6ef9857ccb41631550cba2a4d1686ce", func := "kinescope/kinlaw16.SceneTurned", spec := "sceneTurned", inPlace := ["internal/reflectlite.ValueOf", "(internal/reflectlite.Value).Type", "(internal/reflectlite.Value).IsNil", "internal/reflectlite.TypeOf", "(internal/reflectlite.Value).Elem", "(internal/reflectlite.Value).Set"], unfollowed := true, recurses := true, named := ["errors.errorType"], apart := false, laid := [("errors.errorType", laid_errors_errorType)] }
def SceneTurnedSaid : Prop := sceneTurnedRow.holds Tryd.pinned (OpenSpec.ofChange sceneTurnedSpec)

/-- ITS FALSE NEIGHBOUR: 'it returns false'. Refute it at one input. -/
def sceneTurnedWrong : ChangeSpec := { name := "sceneTurned", fn := fun _ => fun
  | [d1, d2] => { results := [.lit (.bool false)], args := [d1, d2] }
  | _ => none }
def SceneTurnedWrongFalsely : Prop := sceneTurnedRow.holds Tryd.pinned (OpenSpec.ofChange sceneTurnedWrong)

/-- 'kinlaw16.SceneCuts': WHATEVER THE INPUT: true; the input reads as it did. -/
def sceneCutsSpec : ChangeSpec := { name := "sceneCuts", fn := fun _ => fun
  | [d1, d2, d3] => { results := [.lit (.bool true)], args := [d1, d2, d3] }
  | _ => none }
def sceneCutsRow : OpenClaim := { program := "ytpdhhnhpaahenaadoor", sum := "0365b6816e87b5c1071a0dbbf292a5f0b6ef9857ccb41631550cba2a4d1686ce", func := "kinescope/kinlaw16.SceneCuts", spec := "sceneCuts", inPlace := ["internal/reflectlite.ValueOf", "(internal/reflectlite.Value).Type", "(internal/reflectlite.Value).IsNil", "internal/reflectlite.TypeOf", "(internal/reflectlite.Value).Elem", "(internal/reflectlite.Value).Set"], unfollowed := true, recurses := true, named := ["errors.errorType"], apart := false, laid := [("errors.errorType", laid_errors_errorType)] }
def SceneCutsSaid : Prop := sceneCutsRow.holds Tryd.pinned (OpenSpec.ofChange sceneCutsSpec)

/-- ITS FALSE NEIGHBOUR: 'it returns false'. Refute it at one input. -/
def sceneCutsWrong : ChangeSpec := { name := "sceneCuts", fn := fun _ => fun
  | [d1, d2, d3] => { results := [.lit (.bool false)], args := [d1, d2, d3] }
  | _ => none }
def SceneCutsWrongFalsely : Prop := sceneCutsRow.holds Tryd.pinned (OpenSpec.ofChange sceneCutsWrong)

/- THE SECOND FORM. 'bulk': how many values and letters a reading holds, each counted each time it is reached (what is shared counts as often as it is met; a slice's spare places count too). A statement '..UptoSaid' is the law's where the arguments, and the package variables that the reading takes, are together of bulk at most 1048576: NARROWER than '..Said'. Prove '..Said' where nothing that the law and all that it calls make is longer than what came in: it says more and counts as full. Else prove '..UptoSaid'. A law counts once. -/
mutual
def uptoBulk {H : Type} : DataW H → Nat
  | .lit (.string bytes) => bytes.length + 1
  | .lit _ => 1
  | .nil => 1
  | .ptr d => uptoBulk d + 1
  | .slice elems spare => uptoBulkAll elems + uptoBulkAll spare + 1
  | .agg parts => uptoBulkAll parts + 1
  | .iface _ d => uptoBulk d + 1
  | .map entries => uptoBulkEntries entries + 1
  | .held _ => 1
def uptoBulkAll {H : Type} : List (DataW H) → Nat
  | [] => 0
  | d :: r => uptoBulk d + uptoBulkAll r
def uptoBulkEntries {H : Type} : List (Lit × DataW H) → Nat
  | [] => 0
  | x :: r => uptoBulkEntry x + uptoBulkEntries r
def uptoBulkEntry {H : Type} : Lit × DataW H → Nat
  | (.string bytes, d) => bytes.length + uptoBulk d + 1
  | (_, d) => uptoBulk d + 1
 end
def uptoSmall : (H : Type) → List (DataW H) → Bool := fun _ ds => decide (uptoBulkAll ds ≤ 1048576)
def OpenSpec.upto (s : _root_.Go.ChangeSpec) : _root_.Go.OpenSpec := { _root_.Go.OpenSpec.ofChange s with cond := some uptoSmall }

/-- 'kinlaw16.SceneUnlikes', WHERE WHAT IT READS IS OF BULK AT MOST 1048576: true; the input reads as it did. -/
def sceneUnlikesUptoRow : OpenClaim := { program := "ytpdhhnhpaahenaadoor", sum := "0365b6816e87b5c1071a0dbbf292a5f0b6ef9857ccb41631550cba2a4d1686ce", func := "kinescope/kinlaw16.SceneUnlikes", spec := "sceneUnlikes", inPlace := ["internal/reflectlite.ValueOf", "(internal/reflectlite.Value).Type", "(internal/reflectlite.Value).IsNil", "internal/reflectlite.TypeOf", "(internal/reflectlite.Value).Elem", "(internal/reflectlite.Value).Set"], unfollowed := true, recurses := true, named := ["errors.errorType"], apart := false, laid := [("errors.errorType", laid_errors_errorType)], narrowed := true }
def SceneUnlikesUptoSaid : Prop := sceneUnlikesUptoRow.holds Tryd.pinned (OpenSpec.upto sceneUnlikesSpec)

/-- 'kinlaw16.SceneGroups', WHERE WHAT IT READS IS OF BULK AT MOST 1048576: true; the input reads as it did. -/
def sceneGroupsUptoRow : OpenClaim := { program := "ytpdhhnhpaahenaadoor", sum := "0365b6816e87b5c1071a0dbbf292a5f0b6ef9857ccb41631550cba2a4d1686ce", func := "kinescope/kinlaw16.SceneGroups", spec := "sceneGroups", inPlace := ["internal/reflectlite.ValueOf", "(internal/reflectlite.Value).Type", "(internal/reflectlite.Value).IsNil", "internal/reflectlite.TypeOf", "(internal/reflectlite.Value).Elem", "(internal/reflectlite.Value).Set"], unfollowed := true, recurses := true, named := ["errors.errorType"], apart := false, laid := [("errors.errorType", laid_errors_errorType)], narrowed := true }
def SceneGroupsUptoSaid : Prop := sceneGroupsUptoRow.holds Tryd.pinned (OpenSpec.upto sceneGroupsSpec)

/-- 'kinlaw16.SceneOnce', WHERE WHAT IT READS IS OF BULK AT MOST 1048576: true; the input reads as it did. -/
def sceneOnceUptoRow : OpenClaim := { program := "ytpdhhnhpaahenaadoor", sum := "0365b6816e87b5c1071a0dbbf292a5f0b6ef9857ccb41631550cba2a4d1686ce", func := "kinescope/kinlaw16.SceneOnce", spec := "sceneOnce", inPlace := ["internal/reflectlite.ValueOf", "(internal/reflectlite.Value).Type", "(internal/reflectlite.Value).IsNil", "internal/reflectlite.TypeOf", "(internal/reflectlite.Value).Elem", "(internal/reflectlite.Value).Set"], unfollowed := true, recurses := true, named := ["errors.errorType"], apart := false, laid := [("errors.errorType", laid_errors_errorType)], narrowed := true }
def SceneOnceUptoSaid : Prop := sceneOnceUptoRow.holds Tryd.pinned (OpenSpec.upto sceneOnceSpec)

/-- 'kinlaw16.SceneTurned', WHERE WHAT IT READS IS OF BULK AT MOST 1048576: true; the input reads as it did. -/
def sceneTurnedUptoRow : OpenClaim := { program := "ytpdhhnhpaahenaadoor", sum := "0365b6816e87b5c1071a0dbbf292a5f0b6ef9857ccb41631550cba2a4d1686ce", func := "kinescope/kinlaw16.SceneTurned", spec := "sceneTurned", inPlace := ["internal/reflectlite.ValueOf", "(internal/reflectlite.Value).Type", "(internal/reflectlite.Value).IsNil", "internal/reflectlite.TypeOf", "(internal/reflectlite.Value).Elem", "(internal/reflectlite.Value).Set"], unfollowed := true, recurses := true, named := ["errors.errorType"], apart := false, laid := [("errors.errorType", laid_errors_errorType)], narrowed := true }
def SceneTurnedUptoSaid : Prop := sceneTurnedUptoRow.holds Tryd.pinned (OpenSpec.upto sceneTurnedSpec)

/-- 'kinlaw16.SceneCuts', WHERE WHAT IT READS IS OF BULK AT MOST 1048576: true; the input reads as it did. -/
def sceneCutsUptoRow : OpenClaim := { program := "ytpdhhnhpaahenaadoor", sum := "0365b6816e87b5c1071a0dbbf292a5f0b6ef9857ccb41631550cba2a4d1686ce", func := "kinescope/kinlaw16.SceneCuts", spec := "sceneCuts", inPlace := ["internal/reflectlite.ValueOf", "(internal/reflectlite.Value).Type", "(internal/reflectlite.Value).IsNil", "internal/reflectlite.TypeOf", "(internal/reflectlite.Value).Elem", "(internal/reflectlite.Value).Set"], unfollowed := true, recurses := true, named := ["errors.errorType"], apart := false, laid := [("errors.errorType", laid_errors_errorType)], narrowed := true }
def SceneCutsUptoSaid : Prop := sceneCutsUptoRow.holds Tryd.pinned (OpenSpec.upto sceneCutsSpec)

end Rows
end Go.Proofs.YtpdhhnhpaahenaaDoor
