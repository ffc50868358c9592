/-
  NARROWER THAN 'FOR EVERY INPUT', by the rows' own cells (each row's printed sentence says how): QuantOne: laid · QuantBound: laid · QuantRises: laid · QuantFixed: laid · QuantLists: laid · QuantPeak: laid.
  DERIVED. THE GIVEN ROWS OF THIS SEAT. 6 by the template 'for every input the law returns true; each argument reads behind the call as it read before'; 0 by the template 'total and deterministic' (their statements: YtkiigodkbmcpfaaDoorTotals.lean).
  GIVEN WITH THE SEED: the statements are not yours to turn. If you find one false, say at which input.
  Laid BY PROGRAM, IN A SANDBOX (cutbox-rows.mjs): the forced cells as the released guide's own fill.sh prints them over the translation 3349888b050ee38e… (all of the seat's roots in one cut). By AI agents, Wed Nov 11 2026. No macro, syntax, notation, axiom, sorry.
-/
import Derived.Test.YtkiigodkbmcpfaaDoorChecked
import GoSem.Claim
import GoSem.ClaimJoined
import GoSem.ClaimMapViews
import Derived.JoinedTies
import Derived.KernelRfl
namespace Go.Proofs.YtkiigodkbmcpfaaDoor
/- THE CELL 'sum', in the pinned program and in every row, IS THE sha256 OF THE DUMP (.gsa) THAT YtkiigodkbmcpfaaDoorProg.lean LOADS. Nothing in Lean hashes anything: it is a label: what it is worth is what the hold of that sum in a sandbox is worth. -/
noncomputable def Tryd.pinned : Pinned := { name := "ytkiigodkbmcpfaadoor", sum := "3349888b050ee38e73716816b7fa779fbd25d0bd8676179fa2c24c988382d1a9", checked := Tryd.checked }
namespace Rows
def none {H : Type} : Left H := { results := [], args := [] }

/- WHAT THE LISTED PACKAGE-LEVEL VARIABLES READ AS WHEN THE CALL BEGINS. Each datum BY PROGRAM (the guide's laid-datum.mjs) off the statement by which the dump's own 'gosem.cut.vars' lays the variable. In a bare row this is a premise. The card (YtkiigodkbmcpfaaDoorCards.lean) ties it to the program's text. -/
def laid_errors_errorType {H : Type} : DataW H := .iface "internal/reflectlite.rtype" (.agg [.ptr (.lit (.string [101, 114, 114, 111, 114]))])

/-- 'kinlaw9.QuantOne': WHATEVER THE INPUT: true; the input reads as it did. -/
def quantOneSpec : ChangeSpec := { name := "quantOne", fn := fun _ => fun
  | [d1, d2] => { results := [.lit (.bool true)], args := [d1, d2] }
  | _ => none }
def quantOneRow : OpenClaim := { program := "ytkiigodkbmcpfaadoor", sum := "3349888b050ee38e73716816b7fa779fbd25d0bd8676179fa2c24c988382d1a9", func := "kinescope/kinlaw9.QuantOne", spec := "quantOne", inPlace := ["internal/reflectlite.ValueOf", "(internal/reflectlite.Value).Type", "(internal/reflectlite.Value).IsNil", "internal/reflectlite.TypeOf", "(internal/reflectlite.Value).Elem", "(internal/reflectlite.Value).Set"], unfollowed := true, recurses := true, named := ["errors.errorType"], apart := false, laid := [("errors.errorType", laid_errors_errorType)] }
def QuantOneSaid : Prop := quantOneRow.holds Tryd.pinned (OpenSpec.ofChange quantOneSpec)

/-- ITS FALSE NEIGHBOUR: 'it returns false'. Refute it at one input. -/
def quantOneWrong : ChangeSpec := { name := "quantOne", fn := fun _ => fun
  | [d1, d2] => { results := [.lit (.bool false)], args := [d1, d2] }
  | _ => none }
def QuantOneWrongFalsely : Prop := quantOneRow.holds Tryd.pinned (OpenSpec.ofChange quantOneWrong)

/-- 'kinlaw9.QuantBound': WHATEVER THE INPUT: true; the input reads as it did. -/
def quantBoundSpec : ChangeSpec := { name := "quantBound", fn := fun _ => fun
  | [d1, d2] => { results := [.lit (.bool true)], args := [d1, d2] }
  | _ => none }
def quantBoundRow : OpenClaim := { program := "ytkiigodkbmcpfaadoor", sum := "3349888b050ee38e73716816b7fa779fbd25d0bd8676179fa2c24c988382d1a9", func := "kinescope/kinlaw9.QuantBound", spec := "quantBound", inPlace := ["internal/reflectlite.ValueOf", "(internal/reflectlite.Value).Type", "(internal/reflectlite.Value).IsNil", "internal/reflectlite.TypeOf", "(internal/reflectlite.Value).Elem", "(internal/reflectlite.Value).Set"], unfollowed := true, recurses := true, named := ["errors.errorType"], apart := false, laid := [("errors.errorType", laid_errors_errorType)] }
def QuantBoundSaid : Prop := quantBoundRow.holds Tryd.pinned (OpenSpec.ofChange quantBoundSpec)

/-- ITS FALSE NEIGHBOUR: 'it returns false'. Refute it at one input. -/
def quantBoundWrong : ChangeSpec := { name := "quantBound", fn := fun _ => fun
  | [d1, d2] => { results := [.lit (.bool false)], args := [d1, d2] }
  | _ => none }
def QuantBoundWrongFalsely : Prop := quantBoundRow.holds Tryd.pinned (OpenSpec.ofChange quantBoundWrong)

/-- 'kinlaw9.QuantRises': WHATEVER THE INPUT: true; the input reads as it did. -/
def quantRisesSpec : ChangeSpec := { name := "quantRises", fn := fun _ => fun
  | [d1, d2, d3, d4] => { results := [.lit (.bool true)], args := [d1, d2, d3, d4] }
  | _ => none }
def quantRisesRow : OpenClaim := { program := "ytkiigodkbmcpfaadoor", sum := "3349888b050ee38e73716816b7fa779fbd25d0bd8676179fa2c24c988382d1a9", func := "kinescope/kinlaw9.QuantRises", spec := "quantRises", inPlace := ["internal/reflectlite.ValueOf", "(internal/reflectlite.Value).Type", "(internal/reflectlite.Value).IsNil", "internal/reflectlite.TypeOf", "(internal/reflectlite.Value).Elem", "(internal/reflectlite.Value).Set"], unfollowed := true, recurses := true, named := ["errors.errorType"], apart := false, laid := [("errors.errorType", laid_errors_errorType)] }
def QuantRisesSaid : Prop := quantRisesRow.holds Tryd.pinned (OpenSpec.ofChange quantRisesSpec)

/-- ITS FALSE NEIGHBOUR: 'it returns false'. Refute it at one input. -/
def quantRisesWrong : ChangeSpec := { name := "quantRises", fn := fun _ => fun
  | [d1, d2, d3, d4] => { results := [.lit (.bool false)], args := [d1, d2, d3, d4] }
  | _ => none }
def QuantRisesWrongFalsely : Prop := quantRisesRow.holds Tryd.pinned (OpenSpec.ofChange quantRisesWrong)

/-- 'kinlaw9.QuantFixed': WHATEVER THE INPUT: true; the input reads as it did. -/
def quantFixedSpec : ChangeSpec := { name := "quantFixed", fn := fun _ => fun
  | [d1, d2, d3] => { results := [.lit (.bool true)], args := [d1, d2, d3] }
  | _ => none }
def quantFixedRow : OpenClaim := { program := "ytkiigodkbmcpfaadoor", sum := "3349888b050ee38e73716816b7fa779fbd25d0bd8676179fa2c24c988382d1a9", func := "kinescope/kinlaw9.QuantFixed", spec := "quantFixed", inPlace := ["internal/reflectlite.ValueOf", "(internal/reflectlite.Value).Type", "(internal/reflectlite.Value).IsNil", "internal/reflectlite.TypeOf", "(internal/reflectlite.Value).Elem", "(internal/reflectlite.Value).Set"], unfollowed := true, recurses := true, named := ["errors.errorType"], apart := false, laid := [("errors.errorType", laid_errors_errorType)] }
def QuantFixedSaid : Prop := quantFixedRow.holds Tryd.pinned (OpenSpec.ofChange quantFixedSpec)

/-- ITS FALSE NEIGHBOUR: 'it returns false'. Refute it at one input. -/
def quantFixedWrong : ChangeSpec := { name := "quantFixed", fn := fun _ => fun
  | [d1, d2, d3] => { results := [.lit (.bool false)], args := [d1, d2, d3] }
  | _ => none }
def QuantFixedWrongFalsely : Prop := quantFixedRow.holds Tryd.pinned (OpenSpec.ofChange quantFixedWrong)

/-- 'kinlaw9.QuantLists': WHATEVER THE INPUT: true; the input reads as it did. -/
def quantListsSpec : ChangeSpec := { name := "quantLists", fn := fun _ => fun
  | [d1, d2, d3] => { results := [.lit (.bool true)], args := [d1, d2, d3] }
  | _ => none }
def quantListsRow : OpenClaim := { program := "ytkiigodkbmcpfaadoor", sum := "3349888b050ee38e73716816b7fa779fbd25d0bd8676179fa2c24c988382d1a9", func := "kinescope/kinlaw9.QuantLists", spec := "quantLists", inPlace := ["internal/reflectlite.ValueOf", "(internal/reflectlite.Value).Type", "(internal/reflectlite.Value).IsNil", "internal/reflectlite.TypeOf", "(internal/reflectlite.Value).Elem", "(internal/reflectlite.Value).Set"], unfollowed := true, recurses := true, named := ["errors.errorType"], apart := false, laid := [("errors.errorType", laid_errors_errorType)] }
def QuantListsSaid : Prop := quantListsRow.holds Tryd.pinned (OpenSpec.ofChange quantListsSpec)

/-- ITS FALSE NEIGHBOUR: 'it returns false'. Refute it at one input. -/
def quantListsWrong : ChangeSpec := { name := "quantLists", fn := fun _ => fun
  | [d1, d2, d3] => { results := [.lit (.bool false)], args := [d1, d2, d3] }
  | _ => none }
def QuantListsWrongFalsely : Prop := quantListsRow.holds Tryd.pinned (OpenSpec.ofChange quantListsWrong)

/-- 'kinlaw9.QuantPeak': WHATEVER THE INPUT: true; the input reads as it did. -/
def quantPeakSpec : ChangeSpec := { name := "quantPeak", fn := fun _ => fun
  | [d1, d2, d3] => { results := [.lit (.bool true)], args := [d1, d2, d3] }
  | _ => none }
def quantPeakRow : OpenClaim := { program := "ytkiigodkbmcpfaadoor", sum := "3349888b050ee38e73716816b7fa779fbd25d0bd8676179fa2c24c988382d1a9", func := "kinescope/kinlaw9.QuantPeak", spec := "quantPeak", inPlace := ["internal/reflectlite.ValueOf", "(internal/reflectlite.Value).Type", "(internal/reflectlite.Value).IsNil", "internal/reflectlite.TypeOf", "(internal/reflectlite.Value).Elem", "(internal/reflectlite.Value).Set"], unfollowed := true, recurses := true, named := ["errors.errorType"], apart := false, laid := [("errors.errorType", laid_errors_errorType)] }
def QuantPeakSaid : Prop := quantPeakRow.holds Tryd.pinned (OpenSpec.ofChange quantPeakSpec)

/-- ITS FALSE NEIGHBOUR: 'it returns false'. Refute it at one input. -/
def quantPeakWrong : ChangeSpec := { name := "quantPeak", fn := fun _ => fun
  | [d1, d2, d3] => { results := [.lit (.bool false)], args := [d1, d2, d3] }
  | _ => none }
def QuantPeakWrongFalsely : Prop := quantPeakRow.holds Tryd.pinned (OpenSpec.ofChange quantPeakWrong)

/- THE SECOND FORM. 'bulk': how many values and letters a reading holds, each counted each time it is reached (what is shared counts as often as it is met; a slice's spare places count too). A statement '..UptoSaid' is the law's where the arguments, and the package variables that the reading takes, are together of bulk at most 1048576: NARROWER than '..Said'. Prove '..Said' where nothing that the law and all that it calls make is longer than what came in: it says more and counts as full. Else prove '..UptoSaid'. A law counts once. -/
mutual
def uptoBulk {H : Type} : DataW H → Nat
  | .lit (.string bytes) => bytes.length + 1
  | .lit _ => 1
  | .nil => 1
  | .ptr d => uptoBulk d + 1
  | .slice elems spare => uptoBulkAll elems + uptoBulkAll spare + 1
  | .agg parts => uptoBulkAll parts + 1
  | .iface _ d => uptoBulk d + 1
  | .map entries => uptoBulkEntries entries + 1
  | .held _ => 1
def uptoBulkAll {H : Type} : List (DataW H) → Nat
  | [] => 0
  | d :: r => uptoBulk d + uptoBulkAll r
def uptoBulkEntries {H : Type} : List (Lit × DataW H) → Nat
  | [] => 0
  | x :: r => uptoBulkEntry x + uptoBulkEntries r
def uptoBulkEntry {H : Type} : Lit × DataW H → Nat
  | (.string bytes, d) => bytes.length + uptoBulk d + 1
  | (_, d) => uptoBulk d + 1
 end
def uptoSmall : (H : Type) → List (DataW H) → Bool := fun _ ds => decide (uptoBulkAll ds ≤ 1048576)
def OpenSpec.upto (s : _root_.Go.ChangeSpec) : _root_.Go.OpenSpec := { _root_.Go.OpenSpec.ofChange s with cond := some uptoSmall }

/-- 'kinlaw9.QuantOne', WHERE WHAT IT READS IS OF BULK AT MOST 1048576: true; the input reads as it did. -/
def quantOneUptoRow : OpenClaim := { program := "ytkiigodkbmcpfaadoor", sum := "3349888b050ee38e73716816b7fa779fbd25d0bd8676179fa2c24c988382d1a9", func := "kinescope/kinlaw9.QuantOne", spec := "quantOne", inPlace := ["internal/reflectlite.ValueOf", "(internal/reflectlite.Value).Type", "(internal/reflectlite.Value).IsNil", "internal/reflectlite.TypeOf", "(internal/reflectlite.Value).Elem", "(internal/reflectlite.Value).Set"], unfollowed := true, recurses := true, named := ["errors.errorType"], apart := false, laid := [("errors.errorType", laid_errors_errorType)], narrowed := true }
def QuantOneUptoSaid : Prop := quantOneUptoRow.holds Tryd.pinned (OpenSpec.upto quantOneSpec)

/-- 'kinlaw9.QuantBound', WHERE WHAT IT READS IS OF BULK AT MOST 1048576: true; the input reads as it did. -/
def quantBoundUptoRow : OpenClaim := { program := "ytkiigodkbmcpfaadoor", sum := "3349888b050ee38e73716816b7fa779fbd25d0bd8676179fa2c24c988382d1a9", func := "kinescope/kinlaw9.QuantBound", spec := "quantBound", inPlace := ["internal/reflectlite.ValueOf", "(internal/reflectlite.Value).Type", "(internal/reflectlite.Value).IsNil", "internal/reflectlite.TypeOf", "(internal/reflectlite.Value).Elem", "(internal/reflectlite.Value).Set"], unfollowed := true, recurses := true, named := ["errors.errorType"], apart := false, laid := [("errors.errorType", laid_errors_errorType)], narrowed := true }
def QuantBoundUptoSaid : Prop := quantBoundUptoRow.holds Tryd.pinned (OpenSpec.upto quantBoundSpec)

/-- 'kinlaw9.QuantRises', WHERE WHAT IT READS IS OF BULK AT MOST 1048576: true; the input reads as it did. -/
def quantRisesUptoRow : OpenClaim := { program := "ytkiigodkbmcpfaadoor", sum := "3349888b050ee38e73716816b7fa779fbd25d0bd8676179fa2c24c988382d1a9", func := "kinescope/kinlaw9.QuantRises", spec := "quantRises", inPlace := ["internal/reflectlite.ValueOf", "(internal/reflectlite.Value).Type", "(internal/reflectlite.Value).IsNil", "internal/reflectlite.TypeOf", "(internal/reflectlite.Value).Elem", "(internal/reflectlite.Value).Set"], unfollowed := true, recurses := true, named := ["errors.errorType"], apart := false, laid := [("errors.errorType", laid_errors_errorType)], narrowed := true }
def QuantRisesUptoSaid : Prop := quantRisesUptoRow.holds Tryd.pinned (OpenSpec.upto quantRisesSpec)

/-- 'kinlaw9.QuantFixed', WHERE WHAT IT READS IS OF BULK AT MOST 1048576: true; the input reads as it did. -/
def quantFixedUptoRow : OpenClaim := { program := "ytkiigodkbmcpfaadoor", sum := "3349888b050ee38e73716816b7fa779fbd25d0bd8676179fa2c24c988382d1a9", func := "kinescope/kinlaw9.QuantFixed", spec := "quantFixed", inPlace := ["internal/reflectlite.ValueOf", "(internal/reflectlite.Value).Type", "(internal/reflectlite.Value).IsNil", "internal/reflectlite.TypeOf", "(internal/reflectlite.Value).Elem", "(internal/reflectlite.Value).Set"], unfollowed := true, recurses := true, named := ["errors.errorType"], apart := false, laid := [("errors.errorType", laid_errors_errorType)], narrowed := true }
def QuantFixedUptoSaid : Prop := quantFixedUptoRow.holds Tryd.pinned (OpenSpec.upto quantFixedSpec)

/-- 'kinlaw9.QuantLists', WHERE WHAT IT READS IS OF BULK AT MOST 1048576: true; the input reads as it did. -/
def quantListsUptoRow : OpenClaim := { program := "ytkiigodkbmcpfaadoor", sum := "3349888b050ee38e73716816b7fa779fbd25d0bd8676179fa2c24c988382d1a9", func := "kinescope/kinlaw9.QuantLists", spec := "quantLists", inPlace := ["internal/reflectlite.ValueOf", "(internal/reflectlite.Value).Type", "(internal/reflectlite.Value).IsNil", "internal/reflectlite.TypeOf", "(internal/reflectlite.Value).Elem", "(internal/reflectlite.Value).Set"], unfollowed := true, recurses := true, named := ["errors.errorType"], apart := false, laid := [("errors.errorType", laid_errors_errorType)], narrowed := true }
def QuantListsUptoSaid : Prop := quantListsUptoRow.holds Tryd.pinned (OpenSpec.upto quantListsSpec)

/-- 'kinlaw9.QuantPeak', WHERE WHAT IT READS IS OF BULK AT MOST 1048576: true; the input reads as it did. -/
def quantPeakUptoRow : OpenClaim := { program := "ytkiigodkbmcpfaadoor", sum := "3349888b050ee38e73716816b7fa779fbd25d0bd8676179fa2c24c988382d1a9", func := "kinescope/kinlaw9.QuantPeak", spec := "quantPeak", inPlace := ["internal/reflectlite.ValueOf", "(internal/reflectlite.Value).Type", "(internal/reflectlite.Value).IsNil", "internal/reflectlite.TypeOf", "(internal/reflectlite.Value).Elem", "(internal/reflectlite.Value).Set"], unfollowed := true, recurses := true, named := ["errors.errorType"], apart := false, laid := [("errors.errorType", laid_errors_errorType)], narrowed := true }
def QuantPeakUptoSaid : Prop := quantPeakUptoRow.holds Tryd.pinned (OpenSpec.upto quantPeakSpec)

end Rows
end Go.Proofs.YtkiigodkbmcpfaaDoor
