/-
  NARROWER THAN 'FOR EVERY INPUT', by the rows' own cells (each row's printed sentence says how): TopRests: laid · TopFails: laid · TopFalls: laid.
  DERIVED. THE GIVEN ROWS OF THIS SEAT. 3 by the template 'for every input the law returns true; each argument reads behind the call as it read before'; 0 by the template 'total and deterministic' (their statements: YtajkpgaheechmaaGreatDoorTotals.lean).
  GIVEN WITH THE SEED: the statements are not yours to turn. If you find one false, say at which input.
  Laid BY PROGRAM, IN A SANDBOX (cutbox-rows.mjs): the forced cells as the released guide's own fill.sh prints them over the translation 326da0503d315cfb… (all of the seat's roots in one cut). By AI agents, Wed Nov 11 2026. No macro, syntax, notation, axiom, sorry.
-/
import Derived.Test.YtajkpgaheechmaaGreatDoorChecked
import GoSem.Claim
import GoSem.ClaimJoined
import GoSem.ClaimMapViews
import Derived.JoinedTies
import Derived.KernelRfl
namespace Go.Proofs.YtajkpgaheechmaaGreatDoor
/- THE CELL 'sum', in the pinned program and in every row, IS THE sha256 OF THE DUMP (.gsa) THAT YtajkpgaheechmaaGreatDoorProg.lean LOADS. Nothing in Lean hashes anything: it is a label: what it is worth is what the hold of that sum in a sandbox is worth. -/
noncomputable def Tryz.pinned : Pinned := { name := "ytajkpgaheechmaagreatdoor", sum := "326da0503d315cfb81095475f756d566193ce11c17e52951a53366248a032fc0", checked := Tryz.checked }
namespace Rows
def none {H : Type} : Left H := { results := [], args := [] }

/- WHAT THE LISTED PACKAGE-LEVEL VARIABLES READ AS WHEN THE CALL BEGINS. Each datum BY PROGRAM (the guide's laid-datum.mjs) off the statement by which the dump's own 'gosem.cut.vars' lays the variable. In a bare row this is a premise. The card (YtajkpgaheechmaaGreatDoorCards.lean) ties it to the program's text. -/
def laid_errors_errorType {H : Type} : DataW H := .iface "internal/reflectlite.rtype" (.agg [.ptr (.lit (.string [101, 114, 114, 111, 114]))])

/-- 'kintop.TopRests': WHATEVER THE INPUT: true; the input reads as it did. -/
def topRestsSpec : ChangeSpec := { name := "topRests", fn := fun _ => fun
  | [d1, d2, d3, d4, d5, d6] => { results := [.lit (.bool true)], args := [d1, d2, d3, d4, d5, d6] }
  | _ => none }
def topRestsRow : OpenClaim := { program := "ytajkpgaheechmaagreatdoor", sum := "326da0503d315cfb81095475f756d566193ce11c17e52951a53366248a032fc0", func := "kinescope/kintop.TopRests", spec := "topRests", inPlace := ["maps.clone", "internal/reflectlite.TypeOf", "internal/reflectlite.ValueOf", "(internal/reflectlite.Value).Type", "(internal/reflectlite.Value).IsNil", "(internal/reflectlite.Value).Elem", "(internal/reflectlite.Value).Set"], unfollowed := true, recurses := true, named := ["errors.errorType"], apart := false, laid := [("errors.errorType", laid_errors_errorType)] }
def TopRestsSaid : Prop := topRestsRow.holds Tryz.pinned (OpenSpec.ofChange topRestsSpec)

/-- ITS FALSE NEIGHBOUR: 'it returns false'. Refute it at one input. -/
def topRestsWrong : ChangeSpec := { name := "topRests", fn := fun _ => fun
  | [d1, d2, d3, d4, d5, d6] => { results := [.lit (.bool false)], args := [d1, d2, d3, d4, d5, d6] }
  | _ => none }
def TopRestsWrongFalsely : Prop := topRestsRow.holds Tryz.pinned (OpenSpec.ofChange topRestsWrong)

/-- 'kintop.TopFails': WHATEVER THE INPUT: true; the input reads as it did. -/
def topFailsSpec : ChangeSpec := { name := "topFails", fn := fun _ => fun
  | [d1, d2, d3, d4] => { results := [.lit (.bool true)], args := [d1, d2, d3, d4] }
  | _ => none }
def topFailsRow : OpenClaim := { program := "ytajkpgaheechmaagreatdoor", sum := "326da0503d315cfb81095475f756d566193ce11c17e52951a53366248a032fc0", func := "kinescope/kintop.TopFails", spec := "topFails", inPlace := ["maps.clone", "internal/reflectlite.TypeOf", "internal/reflectlite.ValueOf", "(internal/reflectlite.Value).Type", "(internal/reflectlite.Value).IsNil", "(internal/reflectlite.Value).Elem", "(internal/reflectlite.Value).Set"], unfollowed := true, recurses := true, named := ["errors.errorType"], apart := false, laid := [("errors.errorType", laid_errors_errorType)] }
def TopFailsSaid : Prop := topFailsRow.holds Tryz.pinned (OpenSpec.ofChange topFailsSpec)

/-- ITS FALSE NEIGHBOUR: 'it returns false'. Refute it at one input. -/
def topFailsWrong : ChangeSpec := { name := "topFails", fn := fun _ => fun
  | [d1, d2, d3, d4] => { results := [.lit (.bool false)], args := [d1, d2, d3, d4] }
  | _ => none }
def TopFailsWrongFalsely : Prop := topFailsRow.holds Tryz.pinned (OpenSpec.ofChange topFailsWrong)

/-- 'kintop.TopFalls': WHATEVER THE INPUT: true; the input reads as it did. -/
def topFallsSpec : ChangeSpec := { name := "topFalls", fn := fun _ => fun
  | [d1, d2, d3, d4, d5] => { results := [.lit (.bool true)], args := [d1, d2, d3, d4, d5] }
  | _ => none }
def topFallsRow : OpenClaim := { program := "ytajkpgaheechmaagreatdoor", sum := "326da0503d315cfb81095475f756d566193ce11c17e52951a53366248a032fc0", func := "kinescope/kintop.TopFalls", spec := "topFalls", inPlace := ["maps.clone", "internal/reflectlite.TypeOf", "internal/reflectlite.ValueOf", "(internal/reflectlite.Value).Type", "(internal/reflectlite.Value).IsNil", "(internal/reflectlite.Value).Elem", "(internal/reflectlite.Value).Set"], unfollowed := true, recurses := true, named := ["errors.errorType"], apart := false, laid := [("errors.errorType", laid_errors_errorType)] }
def TopFallsSaid : Prop := topFallsRow.holds Tryz.pinned (OpenSpec.ofChange topFallsSpec)

/-- ITS FALSE NEIGHBOUR: 'it returns false'. Refute it at one input. -/
def topFallsWrong : ChangeSpec := { name := "topFalls", fn := fun _ => fun
  | [d1, d2, d3, d4, d5] => { results := [.lit (.bool false)], args := [d1, d2, d3, d4, d5] }
  | _ => none }
def TopFallsWrongFalsely : Prop := topFallsRow.holds Tryz.pinned (OpenSpec.ofChange topFallsWrong)

/- THE SECOND FORM. 'bulk': how many values and letters a reading holds, each counted each time it is reached (what is shared counts as often as it is met; a slice's spare places count too). A statement '..UptoSaid' is the law's where the arguments, and the package variables that the reading takes, are together of bulk at most 1048576: NARROWER than '..Said'. Prove '..Said' where nothing that the law and all that it calls make is longer than what came in: it says more and counts as full. Else prove '..UptoSaid'. A law counts once. -/
mutual
def uptoBulk {H : Type} : DataW H → Nat
  | .lit (.string bytes) => bytes.length + 1
  | .lit _ => 1
  | .nil => 1
  | .ptr d => uptoBulk d + 1
  | .slice elems spare => uptoBulkAll elems + uptoBulkAll spare + 1
  | .agg parts => uptoBulkAll parts + 1
  | .iface _ d => uptoBulk d + 1
  | .map entries => uptoBulkEntries entries + 1
  | .held _ => 1
def uptoBulkAll {H : Type} : List (DataW H) → Nat
  | [] => 0
  | d :: r => uptoBulk d + uptoBulkAll r
def uptoBulkEntries {H : Type} : List (Lit × DataW H) → Nat
  | [] => 0
  | x :: r => uptoBulkEntry x + uptoBulkEntries r
def uptoBulkEntry {H : Type} : Lit × DataW H → Nat
  | (.string bytes, d) => bytes.length + uptoBulk d + 1
  | (_, d) => uptoBulk d + 1
 end
def uptoSmall : (H : Type) → List (DataW H) → Bool := fun _ ds => decide (uptoBulkAll ds ≤ 1048576)
def OpenSpec.upto (s : _root_.Go.ChangeSpec) : _root_.Go.OpenSpec := { _root_.Go.OpenSpec.ofChange s with cond := some uptoSmall }

/-- 'kintop.TopRests', WHERE WHAT IT READS IS OF BULK AT MOST 1048576: true; the input reads as it did. -/
def topRestsUptoRow : OpenClaim := { program := "ytajkpgaheechmaagreatdoor", sum := "326da0503d315cfb81095475f756d566193ce11c17e52951a53366248a032fc0", func := "kinescope/kintop.TopRests", spec := "topRests", inPlace := ["maps.clone", "internal/reflectlite.TypeOf", "internal/reflectlite.ValueOf", "(internal/reflectlite.Value).Type", "(internal/reflectlite.Value).IsNil", "(internal/reflectlite.Value).Elem", "(internal/reflectlite.Value).Set"], unfollowed := true, recurses := true, named := ["errors.errorType"], apart := false, laid := [("errors.errorType", laid_errors_errorType)], narrowed := true }
def TopRestsUptoSaid : Prop := topRestsUptoRow.holds Tryz.pinned (OpenSpec.upto topRestsSpec)

/-- 'kintop.TopFails', WHERE WHAT IT READS IS OF BULK AT MOST 1048576: true; the input reads as it did. -/
def topFailsUptoRow : OpenClaim := { program := "ytajkpgaheechmaagreatdoor", sum := "326da0503d315cfb81095475f756d566193ce11c17e52951a53366248a032fc0", func := "kinescope/kintop.TopFails", spec := "topFails", inPlace := ["maps.clone", "internal/reflectlite.TypeOf", "internal/reflectlite.ValueOf", "(internal/reflectlite.Value).Type", "(internal/reflectlite.Value).IsNil", "(internal/reflectlite.Value).Elem", "(internal/reflectlite.Value).Set"], unfollowed := true, recurses := true, named := ["errors.errorType"], apart := false, laid := [("errors.errorType", laid_errors_errorType)], narrowed := true }
def TopFailsUptoSaid : Prop := topFailsUptoRow.holds Tryz.pinned (OpenSpec.upto topFailsSpec)

/-- 'kintop.TopFalls', WHERE WHAT IT READS IS OF BULK AT MOST 1048576: true; the input reads as it did. -/
def topFallsUptoRow : OpenClaim := { program := "ytajkpgaheechmaagreatdoor", sum := "326da0503d315cfb81095475f756d566193ce11c17e52951a53366248a032fc0", func := "kinescope/kintop.TopFalls", spec := "topFalls", inPlace := ["maps.clone", "internal/reflectlite.TypeOf", "internal/reflectlite.ValueOf", "(internal/reflectlite.Value).Type", "(internal/reflectlite.Value).IsNil", "(internal/reflectlite.Value).Elem", "(internal/reflectlite.Value).Set"], unfollowed := true, recurses := true, named := ["errors.errorType"], apart := false, laid := [("errors.errorType", laid_errors_errorType)], narrowed := true }
def TopFallsUptoSaid : Prop := topFallsUptoRow.holds Tryz.pinned (OpenSpec.upto topFallsSpec)

end Rows
end Go.Proofs.YtajkpgaheechmaaGreatDoor
