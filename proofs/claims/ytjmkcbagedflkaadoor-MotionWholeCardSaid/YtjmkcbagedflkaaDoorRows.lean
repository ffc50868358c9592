/-
  NARROWER THAN 'FOR EVERY INPUT', by the rows' own cells (each row's printed sentence says how): MotionHalves: laid · MotionCosts: laid · MotionSearches: laid · MotionBest: laid · MotionSamples: laid · MotionWhole: laid.
  DERIVED. THE GIVEN ROWS OF THIS SEAT. 6 by the template 'for every input the law returns true; each argument reads behind the call as it read before'; 0 by the template 'total and deterministic' (their statements: YtjmkcbagedflkaaDoorTotals.lean).
  GIVEN WITH THE SEED: the statements are not yours to turn. If you find one false, say at which input.
  Laid BY PROGRAM, IN A SANDBOX (cutbox-rows.mjs): the forced cells as the released guide's own fill.sh prints them over the translation be5974a3d5f02b46… (all of the seat's roots in one cut). By AI agents, Wed Nov 11 2026. No macro, syntax, notation, axiom, sorry.
-/
import Derived.Test.YtjmkcbagedflkaaDoorChecked
import GoSem.Claim
import GoSem.ClaimJoined
import GoSem.ClaimMapViews
import Derived.JoinedTies
import Derived.KernelRfl
namespace Go.Proofs.YtjmkcbagedflkaaDoor
/- THE CELL 'sum', in the pinned program and in every row, IS THE sha256 OF THE DUMP (.gsa) THAT YtjmkcbagedflkaaDoorProg.lean LOADS. Nothing in Lean hashes anything: it is a label: what it is worth is what the hold of that sum in a sandbox is worth. -/
noncomputable def Tryd.pinned : Pinned := { name := "ytjmkcbagedflkaadoor", sum := "be5974a3d5f02b46472f60c6e0671fdc32f4b9b1bf50ae13f89459d7093a887a", checked := Tryd.checked }
namespace Rows
def none {H : Type} : Left H := { results := [], args := [] }

/- WHAT THE LISTED PACKAGE-LEVEL VARIABLES READ AS WHEN THE CALL BEGINS. Each datum BY PROGRAM (the guide's laid-datum.mjs) off the statement by which the dump's own 'gosem.cut.vars' lays the variable. In a bare row this is a premise. The card (YtjmkcbagedflkaaDoorCards.lean) ties it to the program's text. -/
def laid_errors_errorType {H : Type} : DataW H := .iface "internal/reflectlite.rtype" (.agg [.ptr (.lit (.string [101, 114, 114, 111, 114]))])

/-- 'kinlaw11.MotionHalves': WHATEVER THE INPUT: true; the input reads as it did. -/
def motionHalvesSpec : ChangeSpec := { name := "motionHalves", fn := fun _ => fun
  | [d1, d2, d3, d4, d5, d6, d7] => { results := [.lit (.bool true)], args := [d1, d2, d3, d4, d5, d6, d7] }
  | _ => none }
def motionHalvesRow : OpenClaim := { program := "ytjmkcbagedflkaadoor", sum := "be5974a3d5f02b46472f60c6e0671fdc32f4b9b1bf50ae13f89459d7093a887a", func := "kinescope/kinlaw11.MotionHalves", spec := "motionHalves", inPlace := ["internal/reflectlite.ValueOf", "(internal/reflectlite.Value).Type", "(internal/reflectlite.Value).IsNil", "internal/reflectlite.TypeOf", "(internal/reflectlite.Value).Elem", "(internal/reflectlite.Value).Set"], unfollowed := true, recurses := true, named := ["errors.errorType"], apart := false, laid := [("errors.errorType", laid_errors_errorType)] }
def MotionHalvesSaid : Prop := motionHalvesRow.holds Tryd.pinned (OpenSpec.ofChange motionHalvesSpec)

/-- ITS FALSE NEIGHBOUR: 'it returns false'. Refute it at one input. -/
def motionHalvesWrong : ChangeSpec := { name := "motionHalves", fn := fun _ => fun
  | [d1, d2, d3, d4, d5, d6, d7] => { results := [.lit (.bool false)], args := [d1, d2, d3, d4, d5, d6, d7] }
  | _ => none }
def MotionHalvesWrongFalsely : Prop := motionHalvesRow.holds Tryd.pinned (OpenSpec.ofChange motionHalvesWrong)

/-- 'kinlaw11.MotionCosts': WHATEVER THE INPUT: true; the input reads as it did. -/
def motionCostsSpec : ChangeSpec := { name := "motionCosts", fn := fun _ => fun
  | [d1, d2, d3] => { results := [.lit (.bool true)], args := [d1, d2, d3] }
  | _ => none }
def motionCostsRow : OpenClaim := { program := "ytjmkcbagedflkaadoor", sum := "be5974a3d5f02b46472f60c6e0671fdc32f4b9b1bf50ae13f89459d7093a887a", func := "kinescope/kinlaw11.MotionCosts", spec := "motionCosts", inPlace := ["internal/reflectlite.ValueOf", "(internal/reflectlite.Value).Type", "(internal/reflectlite.Value).IsNil", "internal/reflectlite.TypeOf", "(internal/reflectlite.Value).Elem", "(internal/reflectlite.Value).Set"], unfollowed := true, recurses := true, named := ["errors.errorType"], apart := false, laid := [("errors.errorType", laid_errors_errorType)] }
def MotionCostsSaid : Prop := motionCostsRow.holds Tryd.pinned (OpenSpec.ofChange motionCostsSpec)

/-- ITS FALSE NEIGHBOUR: 'it returns false'. Refute it at one input. -/
def motionCostsWrong : ChangeSpec := { name := "motionCosts", fn := fun _ => fun
  | [d1, d2, d3] => { results := [.lit (.bool false)], args := [d1, d2, d3] }
  | _ => none }
def MotionCostsWrongFalsely : Prop := motionCostsRow.holds Tryd.pinned (OpenSpec.ofChange motionCostsWrong)

/-- 'kinlaw11.MotionSearches': WHATEVER THE INPUT: true; the input reads as it did. -/
def motionSearchesSpec : ChangeSpec := { name := "motionSearches", fn := fun _ => fun
  | [d1, d2, d3, d4, d5] => { results := [.lit (.bool true)], args := [d1, d2, d3, d4, d5] }
  | _ => none }
def motionSearchesRow : OpenClaim := { program := "ytjmkcbagedflkaadoor", sum := "be5974a3d5f02b46472f60c6e0671fdc32f4b9b1bf50ae13f89459d7093a887a", func := "kinescope/kinlaw11.MotionSearches", spec := "motionSearches", inPlace := ["internal/reflectlite.ValueOf", "(internal/reflectlite.Value).Type", "(internal/reflectlite.Value).IsNil", "internal/reflectlite.TypeOf", "(internal/reflectlite.Value).Elem", "(internal/reflectlite.Value).Set"], unfollowed := true, recurses := true, named := ["errors.errorType"], apart := false, laid := [("errors.errorType", laid_errors_errorType)] }
def MotionSearchesSaid : Prop := motionSearchesRow.holds Tryd.pinned (OpenSpec.ofChange motionSearchesSpec)

/-- ITS FALSE NEIGHBOUR: 'it returns false'. Refute it at one input. -/
def motionSearchesWrong : ChangeSpec := { name := "motionSearches", fn := fun _ => fun
  | [d1, d2, d3, d4, d5] => { results := [.lit (.bool false)], args := [d1, d2, d3, d4, d5] }
  | _ => none }
def MotionSearchesWrongFalsely : Prop := motionSearchesRow.holds Tryd.pinned (OpenSpec.ofChange motionSearchesWrong)

/-- 'kinlaw11.MotionBest': WHATEVER THE INPUT: true; the input reads as it did. -/
def motionBestSpec : ChangeSpec := { name := "motionBest", fn := fun _ => fun
  | [d1, d2, d3, d4, d5, d6] => { results := [.lit (.bool true)], args := [d1, d2, d3, d4, d5, d6] }
  | _ => none }
def motionBestRow : OpenClaim := { program := "ytjmkcbagedflkaadoor", sum := "be5974a3d5f02b46472f60c6e0671fdc32f4b9b1bf50ae13f89459d7093a887a", func := "kinescope/kinlaw11.MotionBest", spec := "motionBest", inPlace := ["internal/reflectlite.ValueOf", "(internal/reflectlite.Value).Type", "(internal/reflectlite.Value).IsNil", "internal/reflectlite.TypeOf", "(internal/reflectlite.Value).Elem", "(internal/reflectlite.Value).Set"], unfollowed := true, recurses := true, named := ["errors.errorType"], apart := false, laid := [("errors.errorType", laid_errors_errorType)] }
def MotionBestSaid : Prop := motionBestRow.holds Tryd.pinned (OpenSpec.ofChange motionBestSpec)

/-- ITS FALSE NEIGHBOUR: 'it returns false'. Refute it at one input. -/
def motionBestWrong : ChangeSpec := { name := "motionBest", fn := fun _ => fun
  | [d1, d2, d3, d4, d5, d6] => { results := [.lit (.bool false)], args := [d1, d2, d3, d4, d5, d6] }
  | _ => none }
def MotionBestWrongFalsely : Prop := motionBestRow.holds Tryd.pinned (OpenSpec.ofChange motionBestWrong)

/-- 'kinlaw11.MotionSamples': WHATEVER THE INPUT: true; the input reads as it did. -/
def motionSamplesSpec : ChangeSpec := { name := "motionSamples", fn := fun _ => fun
  | [d1, d2, d3, d4, d5] => { results := [.lit (.bool true)], args := [d1, d2, d3, d4, d5] }
  | _ => none }
def motionSamplesRow : OpenClaim := { program := "ytjmkcbagedflkaadoor", sum := "be5974a3d5f02b46472f60c6e0671fdc32f4b9b1bf50ae13f89459d7093a887a", func := "kinescope/kinlaw11.MotionSamples", spec := "motionSamples", inPlace := ["internal/reflectlite.ValueOf", "(internal/reflectlite.Value).Type", "(internal/reflectlite.Value).IsNil", "internal/reflectlite.TypeOf", "(internal/reflectlite.Value).Elem", "(internal/reflectlite.Value).Set"], unfollowed := true, recurses := true, named := ["errors.errorType"], apart := false, laid := [("errors.errorType", laid_errors_errorType)] }
def MotionSamplesSaid : Prop := motionSamplesRow.holds Tryd.pinned (OpenSpec.ofChange motionSamplesSpec)

/-- ITS FALSE NEIGHBOUR: 'it returns false'. Refute it at one input. -/
def motionSamplesWrong : ChangeSpec := { name := "motionSamples", fn := fun _ => fun
  | [d1, d2, d3, d4, d5] => { results := [.lit (.bool false)], args := [d1, d2, d3, d4, d5] }
  | _ => none }
def MotionSamplesWrongFalsely : Prop := motionSamplesRow.holds Tryd.pinned (OpenSpec.ofChange motionSamplesWrong)

/-- 'kinlaw11.MotionWhole': WHATEVER THE INPUT: true; the input reads as it did. -/
def motionWholeSpec : ChangeSpec := { name := "motionWhole", fn := fun _ => fun
  | [d1, d2, d3, d4, d5] => { results := [.lit (.bool true)], args := [d1, d2, d3, d4, d5] }
  | _ => none }
def motionWholeRow : OpenClaim := { program := "ytjmkcbagedflkaadoor", sum := "be5974a3d5f02b46472f60c6e0671fdc32f4b9b1bf50ae13f89459d7093a887a", func := "kinescope/kinlaw11.MotionWhole", spec := "motionWhole", inPlace := ["internal/reflectlite.ValueOf", "(internal/reflectlite.Value).Type", "(internal/reflectlite.Value).IsNil", "internal/reflectlite.TypeOf", "(internal/reflectlite.Value).Elem", "(internal/reflectlite.Value).Set"], unfollowed := true, recurses := true, named := ["errors.errorType"], apart := false, laid := [("errors.errorType", laid_errors_errorType)] }
def MotionWholeSaid : Prop := motionWholeRow.holds Tryd.pinned (OpenSpec.ofChange motionWholeSpec)

/-- ITS FALSE NEIGHBOUR: 'it returns false'. Refute it at one input. -/
def motionWholeWrong : ChangeSpec := { name := "motionWhole", fn := fun _ => fun
  | [d1, d2, d3, d4, d5] => { results := [.lit (.bool false)], args := [d1, d2, d3, d4, d5] }
  | _ => none }
def MotionWholeWrongFalsely : Prop := motionWholeRow.holds Tryd.pinned (OpenSpec.ofChange motionWholeWrong)

/- THE SECOND FORM. 'bulk': how many values and letters a reading holds, each counted each time it is reached (what is shared counts as often as it is met; a slice's spare places count too). A statement '..UptoSaid' is the law's where the arguments, and the package variables that the reading takes, are together of bulk at most 1048576: NARROWER than '..Said'. Prove '..Said' where nothing that the law and all that it calls make is longer than what came in: it says more and counts as full. Else prove '..UptoSaid'. A law counts once. -/
mutual
def uptoBulk {H : Type} : DataW H → Nat
  | .lit (.string bytes) => bytes.length + 1
  | .lit _ => 1
  | .nil => 1
  | .ptr d => uptoBulk d + 1
  | .slice elems spare => uptoBulkAll elems + uptoBulkAll spare + 1
  | .agg parts => uptoBulkAll parts + 1
  | .iface _ d => uptoBulk d + 1
  | .map entries => uptoBulkEntries entries + 1
  | .held _ => 1
def uptoBulkAll {H : Type} : List (DataW H) → Nat
  | [] => 0
  | d :: r => uptoBulk d + uptoBulkAll r
def uptoBulkEntries {H : Type} : List (Lit × DataW H) → Nat
  | [] => 0
  | x :: r => uptoBulkEntry x + uptoBulkEntries r
def uptoBulkEntry {H : Type} : Lit × DataW H → Nat
  | (.string bytes, d) => bytes.length + uptoBulk d + 1
  | (_, d) => uptoBulk d + 1
 end
def uptoSmall : (H : Type) → List (DataW H) → Bool := fun _ ds => decide (uptoBulkAll ds ≤ 1048576)
def OpenSpec.upto (s : _root_.Go.ChangeSpec) : _root_.Go.OpenSpec := { _root_.Go.OpenSpec.ofChange s with cond := some uptoSmall }

/-- 'kinlaw11.MotionHalves', WHERE WHAT IT READS IS OF BULK AT MOST 1048576: true; the input reads as it did. -/
def motionHalvesUptoRow : OpenClaim := { program := "ytjmkcbagedflkaadoor", sum := "be5974a3d5f02b46472f60c6e0671fdc32f4b9b1bf50ae13f89459d7093a887a", func := "kinescope/kinlaw11.MotionHalves", spec := "motionHalves", inPlace := ["internal/reflectlite.ValueOf", "(internal/reflectlite.Value).Type", "(internal/reflectlite.Value).IsNil", "internal/reflectlite.TypeOf", "(internal/reflectlite.Value).Elem", "(internal/reflectlite.Value).Set"], unfollowed := true, recurses := true, named := ["errors.errorType"], apart := false, laid := [("errors.errorType", laid_errors_errorType)], narrowed := true }
def MotionHalvesUptoSaid : Prop := motionHalvesUptoRow.holds Tryd.pinned (OpenSpec.upto motionHalvesSpec)

/-- 'kinlaw11.MotionCosts', WHERE WHAT IT READS IS OF BULK AT MOST 1048576: true; the input reads as it did. -/
def motionCostsUptoRow : OpenClaim := { program := "ytjmkcbagedflkaadoor", sum := "be5974a3d5f02b46472f60c6e0671fdc32f4b9b1bf50ae13f89459d7093a887a", func := "kinescope/kinlaw11.MotionCosts", spec := "motionCosts", inPlace := ["internal/reflectlite.ValueOf", "(internal/reflectlite.Value).Type", "(internal/reflectlite.Value).IsNil", "internal/reflectlite.TypeOf", "(internal/reflectlite.Value).Elem", "(internal/reflectlite.Value).Set"], unfollowed := true, recurses := true, named := ["errors.errorType"], apart := false, laid := [("errors.errorType", laid_errors_errorType)], narrowed := true }
def MotionCostsUptoSaid : Prop := motionCostsUptoRow.holds Tryd.pinned (OpenSpec.upto motionCostsSpec)

/-- 'kinlaw11.MotionSearches', WHERE WHAT IT READS IS OF BULK AT MOST 1048576: true; the input reads as it did. -/
def motionSearchesUptoRow : OpenClaim := { program := "ytjmkcbagedflkaadoor", sum := "be5974a3d5f02b46472f60c6e0671fdc32f4b9b1bf50ae13f89459d7093a887a", func := "kinescope/kinlaw11.MotionSearches", spec := "motionSearches", inPlace := ["internal/reflectlite.ValueOf", "(internal/reflectlite.Value).Type", "(internal/reflectlite.Value).IsNil", "internal/reflectlite.TypeOf", "(internal/reflectlite.Value).Elem", "(internal/reflectlite.Value).Set"], unfollowed := true, recurses := true, named := ["errors.errorType"], apart := false, laid := [("errors.errorType", laid_errors_errorType)], narrowed := true }
def MotionSearchesUptoSaid : Prop := motionSearchesUptoRow.holds Tryd.pinned (OpenSpec.upto motionSearchesSpec)

/-- 'kinlaw11.MotionBest', WHERE WHAT IT READS IS OF BULK AT MOST 1048576: true; the input reads as it did. -/
def motionBestUptoRow : OpenClaim := { program := "ytjmkcbagedflkaadoor", sum := "be5974a3d5f02b46472f60c6e0671fdc32f4b9b1bf50ae13f89459d7093a887a", func := "kinescope/kinlaw11.MotionBest", spec := "motionBest", inPlace := ["internal/reflectlite.ValueOf", "(internal/reflectlite.Value).Type", "(internal/reflectlite.Value).IsNil", "internal/reflectlite.TypeOf", "(internal/reflectlite.Value).Elem", "(internal/reflectlite.Value).Set"], unfollowed := true, recurses := true, named := ["errors.errorType"], apart := false, laid := [("errors.errorType", laid_errors_errorType)], narrowed := true }
def MotionBestUptoSaid : Prop := motionBestUptoRow.holds Tryd.pinned (OpenSpec.upto motionBestSpec)

/-- 'kinlaw11.MotionSamples', WHERE WHAT IT READS IS OF BULK AT MOST 1048576: true; the input reads as it did. -/
def motionSamplesUptoRow : OpenClaim := { program := "ytjmkcbagedflkaadoor", sum := "be5974a3d5f02b46472f60c6e0671fdc32f4b9b1bf50ae13f89459d7093a887a", func := "kinescope/kinlaw11.MotionSamples", spec := "motionSamples", inPlace := ["internal/reflectlite.ValueOf", "(internal/reflectlite.Value).Type", "(internal/reflectlite.Value).IsNil", "internal/reflectlite.TypeOf", "(internal/reflectlite.Value).Elem", "(internal/reflectlite.Value).Set"], unfollowed := true, recurses := true, named := ["errors.errorType"], apart := false, laid := [("errors.errorType", laid_errors_errorType)], narrowed := true }
def MotionSamplesUptoSaid : Prop := motionSamplesUptoRow.holds Tryd.pinned (OpenSpec.upto motionSamplesSpec)

/-- 'kinlaw11.MotionWhole', WHERE WHAT IT READS IS OF BULK AT MOST 1048576: true; the input reads as it did. -/
def motionWholeUptoRow : OpenClaim := { program := "ytjmkcbagedflkaadoor", sum := "be5974a3d5f02b46472f60c6e0671fdc32f4b9b1bf50ae13f89459d7093a887a", func := "kinescope/kinlaw11.MotionWhole", spec := "motionWhole", inPlace := ["internal/reflectlite.ValueOf", "(internal/reflectlite.Value).Type", "(internal/reflectlite.Value).IsNil", "internal/reflectlite.TypeOf", "(internal/reflectlite.Value).Elem", "(internal/reflectlite.Value).Set"], unfollowed := true, recurses := true, named := ["errors.errorType"], apart := false, laid := [("errors.errorType", laid_errors_errorType)], narrowed := true }
def MotionWholeUptoSaid : Prop := motionWholeUptoRow.holds Tryd.pinned (OpenSpec.upto motionWholeSpec)

end Rows
end Go.Proofs.YtjmkcbagedflkaaDoor
