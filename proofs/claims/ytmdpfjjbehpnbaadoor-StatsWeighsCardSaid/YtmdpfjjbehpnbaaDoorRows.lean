/-
  NARROWER THAN 'FOR EVERY INPUT', by the rows' own cells (each row's printed sentence says how): StatsTells: laid · StatsWeighs: laid · StatsLeast: laid · StatsApart: laid · StatsFlat: laid.
  DERIVED. THE GIVEN ROWS OF THIS SEAT. 5 by the template 'for every input the law returns true; each argument reads behind the call as it read before'; 0 by the template 'total and deterministic' (their statements: YtmdpfjjbehpnbaaDoorTotals.lean).
  GIVEN WITH THE SEED: the statements are not yours to turn. If you find one false, say at which input.
  Laid BY PROGRAM, IN A SANDBOX (cutbox-rows.mjs): the forced cells as the released guide's own fill.sh prints them over the translation ad4764232e86c05c… (all of the seat's roots in one cut). By AI agents, Wed Nov 11 2026. No macro, syntax, notation, axiom, sorry.
-/
import Derived.Test.YtmdpfjjbehpnbaaDoorChecked
import GoSem.Claim
import GoSem.ClaimJoined
import GoSem.ClaimMapViews
import Derived.JoinedTies
import Derived.KernelRfl
namespace Go.Proofs.YtmdpfjjbehpnbaaDoor
/- THE CELL 'sum', in the pinned program and in every row, IS THE sha256 OF THE DUMP (.gsa) THAT YtmdpfjjbehpnbaaDoorProg.lean LOADS. Nothing in Lean hashes anything: it is a label: what it is worth is what the hold of that sum in a sandbox is worth. -/
noncomputable def Tryd.pinned : Pinned := { name := "ytmdpfjjbehpnbaadoor", sum := "ad4764232e86c05c351c07eb5a1c3918ee6b2325d8655a10ad90176f0a97d3f7", checked := Tryd.checked }
namespace Rows
def none {H : Type} : Left H := { results := [], args := [] }

/- WHAT THE LISTED PACKAGE-LEVEL VARIABLES READ AS WHEN THE CALL BEGINS. Each datum BY PROGRAM (the guide's laid-datum.mjs) off the statement by which the dump's own 'gosem.cut.vars' lays the variable. In a bare row this is a premise. The card (YtmdpfjjbehpnbaaDoorCards.lean) ties it to the program's text. -/
def laid_errors_errorType {H : Type} : DataW H := .iface "internal/reflectlite.rtype" (.agg [.ptr (.lit (.string [101, 114, 114, 111, 114]))])

/-- 'kinlaw17.StatsTells': WHATEVER THE INPUT: true; the input reads as it did. -/
def statsTellsSpec : ChangeSpec := { name := "statsTells", fn := fun _ => fun
  | [d1, d2] => { results := [.lit (.bool true)], args := [d1, d2] }
  | _ => none }
def statsTellsRow : OpenClaim := { program := "ytmdpfjjbehpnbaadoor", sum := "ad4764232e86c05c351c07eb5a1c3918ee6b2325d8655a10ad90176f0a97d3f7", func := "kinescope/kinlaw17.StatsTells", spec := "statsTells", inPlace := ["internal/reflectlite.ValueOf", "(internal/reflectlite.Value).Type", "(internal/reflectlite.Value).IsNil", "internal/reflectlite.TypeOf", "(internal/reflectlite.Value).Elem", "(internal/reflectlite.Value).Set"], unfollowed := true, recurses := true, named := ["errors.errorType"], apart := false, laid := [("errors.errorType", laid_errors_errorType)] }
def StatsTellsSaid : Prop := statsTellsRow.holds Tryd.pinned (OpenSpec.ofChange statsTellsSpec)

/-- ITS FALSE NEIGHBOUR: 'it returns false'. Refute it at one input. -/
def statsTellsWrong : ChangeSpec := { name := "statsTells", fn := fun _ => fun
  | [d1, d2] => { results := [.lit (.bool false)], args := [d1, d2] }
  | _ => none }
def StatsTellsWrongFalsely : Prop := statsTellsRow.holds Tryd.pinned (OpenSpec.ofChange statsTellsWrong)

/-- 'kinlaw17.StatsWeighs': WHATEVER THE INPUT: true; the input reads as it did. -/
def statsWeighsSpec : ChangeSpec := { name := "statsWeighs", fn := fun _ => fun
  | [d1, d2] => { results := [.lit (.bool true)], args := [d1, d2] }
  | _ => none }
def statsWeighsRow : OpenClaim := { program := "ytmdpfjjbehpnbaadoor", sum := "ad4764232e86c05c351c07eb5a1c3918ee6b2325d8655a10ad90176f0a97d3f7", func := "kinescope/kinlaw17.StatsWeighs", spec := "statsWeighs", inPlace := ["internal/reflectlite.ValueOf", "(internal/reflectlite.Value).Type", "(internal/reflectlite.Value).IsNil", "internal/reflectlite.TypeOf", "(internal/reflectlite.Value).Elem", "(internal/reflectlite.Value).Set"], unfollowed := true, recurses := true, named := ["errors.errorType"], apart := false, laid := [("errors.errorType", laid_errors_errorType)] }
def StatsWeighsSaid : Prop := statsWeighsRow.holds Tryd.pinned (OpenSpec.ofChange statsWeighsSpec)

/-- ITS FALSE NEIGHBOUR: 'it returns false'. Refute it at one input. -/
def statsWeighsWrong : ChangeSpec := { name := "statsWeighs", fn := fun _ => fun
  | [d1, d2] => { results := [.lit (.bool false)], args := [d1, d2] }
  | _ => none }
def StatsWeighsWrongFalsely : Prop := statsWeighsRow.holds Tryd.pinned (OpenSpec.ofChange statsWeighsWrong)

/-- 'kinlaw17.StatsLeast': WHATEVER THE INPUT: true; the input reads as it did. -/
def statsLeastSpec : ChangeSpec := { name := "statsLeast", fn := fun _ => fun
  | [d1, d2] => { results := [.lit (.bool true)], args := [d1, d2] }
  | _ => none }
def statsLeastRow : OpenClaim := { program := "ytmdpfjjbehpnbaadoor", sum := "ad4764232e86c05c351c07eb5a1c3918ee6b2325d8655a10ad90176f0a97d3f7", func := "kinescope/kinlaw17.StatsLeast", spec := "statsLeast", inPlace := ["internal/reflectlite.ValueOf", "(internal/reflectlite.Value).Type", "(internal/reflectlite.Value).IsNil", "internal/reflectlite.TypeOf", "(internal/reflectlite.Value).Elem", "(internal/reflectlite.Value).Set"], unfollowed := true, recurses := true, named := ["errors.errorType"], apart := false, laid := [("errors.errorType", laid_errors_errorType)] }
def StatsLeastSaid : Prop := statsLeastRow.holds Tryd.pinned (OpenSpec.ofChange statsLeastSpec)

/-- ITS FALSE NEIGHBOUR: 'it returns false'. Refute it at one input. -/
def statsLeastWrong : ChangeSpec := { name := "statsLeast", fn := fun _ => fun
  | [d1, d2] => { results := [.lit (.bool false)], args := [d1, d2] }
  | _ => none }
def StatsLeastWrongFalsely : Prop := statsLeastRow.holds Tryd.pinned (OpenSpec.ofChange statsLeastWrong)

/-- 'kinlaw17.StatsApart': WHATEVER THE INPUT: true; the input reads as it did. -/
def statsApartSpec : ChangeSpec := { name := "statsApart", fn := fun _ => fun
  | [d1, d2] => { results := [.lit (.bool true)], args := [d1, d2] }
  | _ => none }
def statsApartRow : OpenClaim := { program := "ytmdpfjjbehpnbaadoor", sum := "ad4764232e86c05c351c07eb5a1c3918ee6b2325d8655a10ad90176f0a97d3f7", func := "kinescope/kinlaw17.StatsApart", spec := "statsApart", inPlace := ["internal/reflectlite.ValueOf", "(internal/reflectlite.Value).Type", "(internal/reflectlite.Value).IsNil", "internal/reflectlite.TypeOf", "(internal/reflectlite.Value).Elem", "(internal/reflectlite.Value).Set"], unfollowed := true, recurses := true, named := ["errors.errorType"], apart := false, laid := [("errors.errorType", laid_errors_errorType)] }
def StatsApartSaid : Prop := statsApartRow.holds Tryd.pinned (OpenSpec.ofChange statsApartSpec)

/-- ITS FALSE NEIGHBOUR: 'it returns false'. Refute it at one input. -/
def statsApartWrong : ChangeSpec := { name := "statsApart", fn := fun _ => fun
  | [d1, d2] => { results := [.lit (.bool false)], args := [d1, d2] }
  | _ => none }
def StatsApartWrongFalsely : Prop := statsApartRow.holds Tryd.pinned (OpenSpec.ofChange statsApartWrong)

/-- 'kinlaw17.StatsFlat': WHATEVER THE INPUT: true; the input reads as it did. -/
def statsFlatSpec : ChangeSpec := { name := "statsFlat", fn := fun _ => fun
  | [d1, d2] => { results := [.lit (.bool true)], args := [d1, d2] }
  | _ => none }
def statsFlatRow : OpenClaim := { program := "ytmdpfjjbehpnbaadoor", sum := "ad4764232e86c05c351c07eb5a1c3918ee6b2325d8655a10ad90176f0a97d3f7", func := "kinescope/kinlaw17.StatsFlat", spec := "statsFlat", inPlace := ["internal/reflectlite.ValueOf", "(internal/reflectlite.Value).Type", "(internal/reflectlite.Value).IsNil", "internal/reflectlite.TypeOf", "(internal/reflectlite.Value).Elem", "(internal/reflectlite.Value).Set"], unfollowed := true, recurses := true, named := ["errors.errorType"], apart := false, laid := [("errors.errorType", laid_errors_errorType)] }
def StatsFlatSaid : Prop := statsFlatRow.holds Tryd.pinned (OpenSpec.ofChange statsFlatSpec)

/-- ITS FALSE NEIGHBOUR: 'it returns false'. Refute it at one input. -/
def statsFlatWrong : ChangeSpec := { name := "statsFlat", fn := fun _ => fun
  | [d1, d2] => { results := [.lit (.bool false)], args := [d1, d2] }
  | _ => none }
def StatsFlatWrongFalsely : Prop := statsFlatRow.holds Tryd.pinned (OpenSpec.ofChange statsFlatWrong)

/- THE SECOND FORM. 'bulk': how many values and letters a reading holds, each counted each time it is reached (what is shared counts as often as it is met; a slice's spare places count too). A statement '..UptoSaid' is the law's where the arguments, and the package variables that the reading takes, are together of bulk at most 1048576: NARROWER than '..Said'. Prove '..Said' where nothing that the law and all that it calls make is longer than what came in: it says more and counts as full. Else prove '..UptoSaid'. A law counts once. -/
mutual
def uptoBulk {H : Type} : DataW H → Nat
  | .lit (.string bytes) => bytes.length + 1
  | .lit _ => 1
  | .nil => 1
  | .ptr d => uptoBulk d + 1
  | .slice elems spare => uptoBulkAll elems + uptoBulkAll spare + 1
  | .agg parts => uptoBulkAll parts + 1
  | .iface _ d => uptoBulk d + 1
  | .map entries => uptoBulkEntries entries + 1
  | .held _ => 1
def uptoBulkAll {H : Type} : List (DataW H) → Nat
  | [] => 0
  | d :: r => uptoBulk d + uptoBulkAll r
def uptoBulkEntries {H : Type} : List (Lit × DataW H) → Nat
  | [] => 0
  | x :: r => uptoBulkEntry x + uptoBulkEntries r
def uptoBulkEntry {H : Type} : Lit × DataW H → Nat
  | (.string bytes, d) => bytes.length + uptoBulk d + 1
  | (_, d) => uptoBulk d + 1
 end
def uptoSmall : (H : Type) → List (DataW H) → Bool := fun _ ds => decide (uptoBulkAll ds ≤ 1048576)
def OpenSpec.upto (s : _root_.Go.ChangeSpec) : _root_.Go.OpenSpec := { _root_.Go.OpenSpec.ofChange s with cond := some uptoSmall }

/-- 'kinlaw17.StatsTells', WHERE WHAT IT READS IS OF BULK AT MOST 1048576: true; the input reads as it did. -/
def statsTellsUptoRow : OpenClaim := { program := "ytmdpfjjbehpnbaadoor", sum := "ad4764232e86c05c351c07eb5a1c3918ee6b2325d8655a10ad90176f0a97d3f7", func := "kinescope/kinlaw17.StatsTells", spec := "statsTells", inPlace := ["internal/reflectlite.ValueOf", "(internal/reflectlite.Value).Type", "(internal/reflectlite.Value).IsNil", "internal/reflectlite.TypeOf", "(internal/reflectlite.Value).Elem", "(internal/reflectlite.Value).Set"], unfollowed := true, recurses := true, named := ["errors.errorType"], apart := false, laid := [("errors.errorType", laid_errors_errorType)], narrowed := true }
def StatsTellsUptoSaid : Prop := statsTellsUptoRow.holds Tryd.pinned (OpenSpec.upto statsTellsSpec)

/-- 'kinlaw17.StatsWeighs', WHERE WHAT IT READS IS OF BULK AT MOST 1048576: true; the input reads as it did. -/
def statsWeighsUptoRow : OpenClaim := { program := "ytmdpfjjbehpnbaadoor", sum := "ad4764232e86c05c351c07eb5a1c3918ee6b2325d8655a10ad90176f0a97d3f7", func := "kinescope/kinlaw17.StatsWeighs", spec := "statsWeighs", inPlace := ["internal/reflectlite.ValueOf", "(internal/reflectlite.Value).Type", "(internal/reflectlite.Value).IsNil", "internal/reflectlite.TypeOf", "(internal/reflectlite.Value).Elem", "(internal/reflectlite.Value).Set"], unfollowed := true, recurses := true, named := ["errors.errorType"], apart := false, laid := [("errors.errorType", laid_errors_errorType)], narrowed := true }
def StatsWeighsUptoSaid : Prop := statsWeighsUptoRow.holds Tryd.pinned (OpenSpec.upto statsWeighsSpec)

/-- 'kinlaw17.StatsLeast', WHERE WHAT IT READS IS OF BULK AT MOST 1048576: true; the input reads as it did. -/
def statsLeastUptoRow : OpenClaim := { program := "ytmdpfjjbehpnbaadoor", sum := "ad4764232e86c05c351c07eb5a1c3918ee6b2325d8655a10ad90176f0a97d3f7", func := "kinescope/kinlaw17.StatsLeast", spec := "statsLeast", inPlace := ["internal/reflectlite.ValueOf", "(internal/reflectlite.Value).Type", "(internal/reflectlite.Value).IsNil", "internal/reflectlite.TypeOf", "(internal/reflectlite.Value).Elem", "(internal/reflectlite.Value).Set"], unfollowed := true, recurses := true, named := ["errors.errorType"], apart := false, laid := [("errors.errorType", laid_errors_errorType)], narrowed := true }
def StatsLeastUptoSaid : Prop := statsLeastUptoRow.holds Tryd.pinned (OpenSpec.upto statsLeastSpec)

/-- 'kinlaw17.StatsApart', WHERE WHAT IT READS IS OF BULK AT MOST 1048576: true; the input reads as it did. -/
def statsApartUptoRow : OpenClaim := { program := "ytmdpfjjbehpnbaadoor", sum := "ad4764232e86c05c351c07eb5a1c3918ee6b2325d8655a10ad90176f0a97d3f7", func := "kinescope/kinlaw17.StatsApart", spec := "statsApart", inPlace := ["internal/reflectlite.ValueOf", "(internal/reflectlite.Value).Type", "(internal/reflectlite.Value).IsNil", "internal/reflectlite.TypeOf", "(internal/reflectlite.Value).Elem", "(internal/reflectlite.Value).Set"], unfollowed := true, recurses := true, named := ["errors.errorType"], apart := false, laid := [("errors.errorType", laid_errors_errorType)], narrowed := true }
def StatsApartUptoSaid : Prop := statsApartUptoRow.holds Tryd.pinned (OpenSpec.upto statsApartSpec)

/-- 'kinlaw17.StatsFlat', WHERE WHAT IT READS IS OF BULK AT MOST 1048576: true; the input reads as it did. -/
def statsFlatUptoRow : OpenClaim := { program := "ytmdpfjjbehpnbaadoor", sum := "ad4764232e86c05c351c07eb5a1c3918ee6b2325d8655a10ad90176f0a97d3f7", func := "kinescope/kinlaw17.StatsFlat", spec := "statsFlat", inPlace := ["internal/reflectlite.ValueOf", "(internal/reflectlite.Value).Type", "(internal/reflectlite.Value).IsNil", "internal/reflectlite.TypeOf", "(internal/reflectlite.Value).Elem", "(internal/reflectlite.Value).Set"], unfollowed := true, recurses := true, named := ["errors.errorType"], apart := false, laid := [("errors.errorType", laid_errors_errorType)], narrowed := true }
def StatsFlatUptoSaid : Prop := statsFlatUptoRow.holds Tryd.pinned (OpenSpec.upto statsFlatSpec)

end Rows
end Go.Proofs.YtmdpfjjbehpnbaaDoor
