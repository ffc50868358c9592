/-
  NARROWER THAN 'FOR EVERY INPUT', by the rows' own cells (each row's printed sentence says how): BlockTwo: laid · BlockOrders: laid · BlockSads: laid · BlockQuarters: laid · BlockParts: laid · BlockBack: laid.
  DERIVED. THE GIVEN ROWS OF THIS SEAT. 6 by the template 'for every input the law returns true; each argument reads behind the call as it read before'; 0 by the template 'total and deterministic' (their statements: YtceobpoibiffhaaDoorTotals.lean).
  GIVEN WITH THE SEED: the statements are not yours to turn. If you find one false, say at which input.
  Laid BY PROGRAM, IN A SANDBOX (cutbox-rows.mjs): the forced cells as the released guide's own fill.sh prints them over the translation a13aaeffbda9881b… (all of the seat's roots in one cut). By AI agents, Wed Nov 11 2026. No macro, syntax, notation, axiom, sorry.
-/
import Derived.Test.YtceobpoibiffhaaDoorChecked
import GoSem.Claim
import GoSem.ClaimJoined
import GoSem.ClaimMapViews
import Derived.JoinedTies
import Derived.KernelRfl
namespace Go.Proofs.YtceobpoibiffhaaDoor
/- THE CELL 'sum', in the pinned program and in every row, IS THE sha256 OF THE DUMP (.gsa) THAT YtceobpoibiffhaaDoorProg.lean LOADS. Nothing in Lean hashes anything: it is a label: what it is worth is what the hold of that sum in a sandbox is worth. -/
noncomputable def Tryd.pinned : Pinned := { name := "ytceobpoibiffhaadoor", sum := "a13aaeffbda9881b6b576c1f5a9d825d22520ef2a4b5f15d77ca878aeb11923b", checked := Tryd.checked }
namespace Rows
def none {H : Type} : Left H := { results := [], args := [] }

/- WHAT THE LISTED PACKAGE-LEVEL VARIABLES READ AS WHEN THE CALL BEGINS. Each datum BY PROGRAM (the guide's laid-datum.mjs) off the statement by which the dump's own 'gosem.cut.vars' lays the variable. In a bare row this is a premise. The card (YtceobpoibiffhaaDoorCards.lean) ties it to the program's text. -/
def laid_errors_errorType {H : Type} : DataW H := .iface "internal/reflectlite.rtype" (.agg [.ptr (.lit (.string [101, 114, 114, 111, 114]))])

/-- 'kinlaw7.BlockTwo': WHATEVER THE INPUT: true; the input reads as it did. -/
def blockTwoSpec : ChangeSpec := { name := "blockTwo", fn := fun _ => fun
  | [d1, d2] => { results := [.lit (.bool true)], args := [d1, d2] }
  | _ => none }
def blockTwoRow : OpenClaim := { program := "ytceobpoibiffhaadoor", sum := "a13aaeffbda9881b6b576c1f5a9d825d22520ef2a4b5f15d77ca878aeb11923b", func := "kinescope/kinlaw7.BlockTwo", spec := "blockTwo", inPlace := ["internal/reflectlite.ValueOf", "(internal/reflectlite.Value).Type", "(internal/reflectlite.Value).IsNil", "internal/reflectlite.TypeOf", "(internal/reflectlite.Value).Elem", "(internal/reflectlite.Value).Set"], unfollowed := true, recurses := true, named := ["errors.errorType"], apart := false, laid := [("errors.errorType", laid_errors_errorType)] }
def BlockTwoSaid : Prop := blockTwoRow.holds Tryd.pinned (OpenSpec.ofChange blockTwoSpec)

/-- ITS FALSE NEIGHBOUR: 'it returns false'. Refute it at one input. -/
def blockTwoWrong : ChangeSpec := { name := "blockTwo", fn := fun _ => fun
  | [d1, d2] => { results := [.lit (.bool false)], args := [d1, d2] }
  | _ => none }
def BlockTwoWrongFalsely : Prop := blockTwoRow.holds Tryd.pinned (OpenSpec.ofChange blockTwoWrong)

/-- 'kinlaw7.BlockOrders': WHATEVER THE INPUT: true; the input reads as it did. -/
def blockOrdersSpec : ChangeSpec := { name := "blockOrders", fn := fun _ => fun
  | [d] => { results := [.lit (.bool true)], args := [d] }
  | _ => none }
def blockOrdersRow : OpenClaim := { program := "ytceobpoibiffhaadoor", sum := "a13aaeffbda9881b6b576c1f5a9d825d22520ef2a4b5f15d77ca878aeb11923b", func := "kinescope/kinlaw7.BlockOrders", spec := "blockOrders", inPlace := ["internal/reflectlite.ValueOf", "(internal/reflectlite.Value).Type", "(internal/reflectlite.Value).IsNil", "internal/reflectlite.TypeOf", "(internal/reflectlite.Value).Elem", "(internal/reflectlite.Value).Set"], unfollowed := true, recurses := true, named := ["errors.errorType"], apart := false, laid := [("errors.errorType", laid_errors_errorType)] }
def BlockOrdersSaid : Prop := blockOrdersRow.holds Tryd.pinned (OpenSpec.ofChange blockOrdersSpec)

/-- ITS FALSE NEIGHBOUR: 'it returns false'. Refute it at one input. -/
def blockOrdersWrong : ChangeSpec := { name := "blockOrders", fn := fun _ => fun
  | [d] => { results := [.lit (.bool false)], args := [d] }
  | _ => none }
def BlockOrdersWrongFalsely : Prop := blockOrdersRow.holds Tryd.pinned (OpenSpec.ofChange blockOrdersWrong)

/-- 'kinlaw7.BlockSads': WHATEVER THE INPUT: true; the input reads as it did. -/
def blockSadsSpec : ChangeSpec := { name := "blockSads", fn := fun _ => fun
  | [d1, d2, d3] => { results := [.lit (.bool true)], args := [d1, d2, d3] }
  | _ => none }
def blockSadsRow : OpenClaim := { program := "ytceobpoibiffhaadoor", sum := "a13aaeffbda9881b6b576c1f5a9d825d22520ef2a4b5f15d77ca878aeb11923b", func := "kinescope/kinlaw7.BlockSads", spec := "blockSads", inPlace := ["internal/reflectlite.ValueOf", "(internal/reflectlite.Value).Type", "(internal/reflectlite.Value).IsNil", "internal/reflectlite.TypeOf", "(internal/reflectlite.Value).Elem", "(internal/reflectlite.Value).Set"], unfollowed := true, recurses := true, named := ["errors.errorType"], apart := false, laid := [("errors.errorType", laid_errors_errorType)] }
def BlockSadsSaid : Prop := blockSadsRow.holds Tryd.pinned (OpenSpec.ofChange blockSadsSpec)

/-- ITS FALSE NEIGHBOUR: 'it returns false'. Refute it at one input. -/
def blockSadsWrong : ChangeSpec := { name := "blockSads", fn := fun _ => fun
  | [d1, d2, d3] => { results := [.lit (.bool false)], args := [d1, d2, d3] }
  | _ => none }
def BlockSadsWrongFalsely : Prop := blockSadsRow.holds Tryd.pinned (OpenSpec.ofChange blockSadsWrong)

/-- 'kinlaw7.BlockQuarters': WHATEVER THE INPUT: true; the input reads as it did. -/
def blockQuartersSpec : ChangeSpec := { name := "blockQuarters", fn := fun _ => fun
  | [d1, d2] => { results := [.lit (.bool true)], args := [d1, d2] }
  | _ => none }
def blockQuartersRow : OpenClaim := { program := "ytceobpoibiffhaadoor", sum := "a13aaeffbda9881b6b576c1f5a9d825d22520ef2a4b5f15d77ca878aeb11923b", func := "kinescope/kinlaw7.BlockQuarters", spec := "blockQuarters", inPlace := ["internal/reflectlite.ValueOf", "(internal/reflectlite.Value).Type", "(internal/reflectlite.Value).IsNil", "internal/reflectlite.TypeOf", "(internal/reflectlite.Value).Elem", "(internal/reflectlite.Value).Set"], unfollowed := true, recurses := true, named := ["errors.errorType"], apart := false, laid := [("errors.errorType", laid_errors_errorType)] }
def BlockQuartersSaid : Prop := blockQuartersRow.holds Tryd.pinned (OpenSpec.ofChange blockQuartersSpec)

/-- ITS FALSE NEIGHBOUR: 'it returns false'. Refute it at one input. -/
def blockQuartersWrong : ChangeSpec := { name := "blockQuarters", fn := fun _ => fun
  | [d1, d2] => { results := [.lit (.bool false)], args := [d1, d2] }
  | _ => none }
def BlockQuartersWrongFalsely : Prop := blockQuartersRow.holds Tryd.pinned (OpenSpec.ofChange blockQuartersWrong)

/-- 'kinlaw7.BlockParts': WHATEVER THE INPUT: true; the input reads as it did. -/
def blockPartsSpec : ChangeSpec := { name := "blockParts", fn := fun _ => fun
  | [d1, d2] => { results := [.lit (.bool true)], args := [d1, d2] }
  | _ => none }
def blockPartsRow : OpenClaim := { program := "ytceobpoibiffhaadoor", sum := "a13aaeffbda9881b6b576c1f5a9d825d22520ef2a4b5f15d77ca878aeb11923b", func := "kinescope/kinlaw7.BlockParts", spec := "blockParts", inPlace := ["internal/reflectlite.ValueOf", "(internal/reflectlite.Value).Type", "(internal/reflectlite.Value).IsNil", "internal/reflectlite.TypeOf", "(internal/reflectlite.Value).Elem", "(internal/reflectlite.Value).Set"], unfollowed := true, recurses := true, named := ["errors.errorType"], apart := false, laid := [("errors.errorType", laid_errors_errorType)] }
def BlockPartsSaid : Prop := blockPartsRow.holds Tryd.pinned (OpenSpec.ofChange blockPartsSpec)

/-- ITS FALSE NEIGHBOUR: 'it returns false'. Refute it at one input. -/
def blockPartsWrong : ChangeSpec := { name := "blockParts", fn := fun _ => fun
  | [d1, d2] => { results := [.lit (.bool false)], args := [d1, d2] }
  | _ => none }
def BlockPartsWrongFalsely : Prop := blockPartsRow.holds Tryd.pinned (OpenSpec.ofChange blockPartsWrong)

/-- 'kinlaw7.BlockBack': WHATEVER THE INPUT: true; the input reads as it did. -/
def blockBackSpec : ChangeSpec := { name := "blockBack", fn := fun _ => fun
  | [d1, d2] => { results := [.lit (.bool true)], args := [d1, d2] }
  | _ => none }
def blockBackRow : OpenClaim := { program := "ytceobpoibiffhaadoor", sum := "a13aaeffbda9881b6b576c1f5a9d825d22520ef2a4b5f15d77ca878aeb11923b", func := "kinescope/kinlaw7.BlockBack", spec := "blockBack", inPlace := ["internal/reflectlite.ValueOf", "(internal/reflectlite.Value).Type", "(internal/reflectlite.Value).IsNil", "internal/reflectlite.TypeOf", "(internal/reflectlite.Value).Elem", "(internal/reflectlite.Value).Set"], unfollowed := true, recurses := true, named := ["errors.errorType"], apart := false, laid := [("errors.errorType", laid_errors_errorType)] }
def BlockBackSaid : Prop := blockBackRow.holds Tryd.pinned (OpenSpec.ofChange blockBackSpec)

/-- ITS FALSE NEIGHBOUR: 'it returns false'. Refute it at one input. -/
def blockBackWrong : ChangeSpec := { name := "blockBack", fn := fun _ => fun
  | [d1, d2] => { results := [.lit (.bool false)], args := [d1, d2] }
  | _ => none }
def BlockBackWrongFalsely : Prop := blockBackRow.holds Tryd.pinned (OpenSpec.ofChange blockBackWrong)

/- THE SECOND FORM. 'bulk': how many values and letters a reading holds, each counted each time it is reached (what is shared counts as often as it is met; a slice's spare places count too). A statement '..UptoSaid' is the law's where the arguments, and the package variables that the reading takes, are together of bulk at most 1048576: NARROWER than '..Said'. Prove '..Said' where nothing that the law and all that it calls make is longer than what came in: it says more and counts as full. Else prove '..UptoSaid'. A law counts once. -/
mutual
def uptoBulk {H : Type} : DataW H → Nat
  | .lit (.string bytes) => bytes.length + 1
  | .lit _ => 1
  | .nil => 1
  | .ptr d => uptoBulk d + 1
  | .slice elems spare => uptoBulkAll elems + uptoBulkAll spare + 1
  | .agg parts => uptoBulkAll parts + 1
  | .iface _ d => uptoBulk d + 1
  | .map entries => uptoBulkEntries entries + 1
  | .held _ => 1
def uptoBulkAll {H : Type} : List (DataW H) → Nat
  | [] => 0
  | d :: r => uptoBulk d + uptoBulkAll r
def uptoBulkEntries {H : Type} : List (Lit × DataW H) → Nat
  | [] => 0
  | x :: r => uptoBulkEntry x + uptoBulkEntries r
def uptoBulkEntry {H : Type} : Lit × DataW H → Nat
  | (.string bytes, d) => bytes.length + uptoBulk d + 1
  | (_, d) => uptoBulk d + 1
 end
def uptoSmall : (H : Type) → List (DataW H) → Bool := fun _ ds => decide (uptoBulkAll ds ≤ 1048576)
def OpenSpec.upto (s : _root_.Go.ChangeSpec) : _root_.Go.OpenSpec := { _root_.Go.OpenSpec.ofChange s with cond := some uptoSmall }

/-- 'kinlaw7.BlockTwo', WHERE WHAT IT READS IS OF BULK AT MOST 1048576: true; the input reads as it did. -/
def blockTwoUptoRow : OpenClaim := { program := "ytceobpoibiffhaadoor", sum := "a13aaeffbda9881b6b576c1f5a9d825d22520ef2a4b5f15d77ca878aeb11923b", func := "kinescope/kinlaw7.BlockTwo", spec := "blockTwo", inPlace := ["internal/reflectlite.ValueOf", "(internal/reflectlite.Value).Type", "(internal/reflectlite.Value).IsNil", "internal/reflectlite.TypeOf", "(internal/reflectlite.Value).Elem", "(internal/reflectlite.Value).Set"], unfollowed := true, recurses := true, named := ["errors.errorType"], apart := false, laid := [("errors.errorType", laid_errors_errorType)], narrowed := true }
def BlockTwoUptoSaid : Prop := blockTwoUptoRow.holds Tryd.pinned (OpenSpec.upto blockTwoSpec)

/-- 'kinlaw7.BlockOrders', WHERE WHAT IT READS IS OF BULK AT MOST 1048576: true; the input reads as it did. -/
def blockOrdersUptoRow : OpenClaim := { program := "ytceobpoibiffhaadoor", sum := "a13aaeffbda9881b6b576c1f5a9d825d22520ef2a4b5f15d77ca878aeb11923b", func := "kinescope/kinlaw7.BlockOrders", spec := "blockOrders", inPlace := ["internal/reflectlite.ValueOf", "(internal/reflectlite.Value).Type", "(internal/reflectlite.Value).IsNil", "internal/reflectlite.TypeOf", "(internal/reflectlite.Value).Elem", "(internal/reflectlite.Value).Set"], unfollowed := true, recurses := true, named := ["errors.errorType"], apart := false, laid := [("errors.errorType", laid_errors_errorType)], narrowed := true }
def BlockOrdersUptoSaid : Prop := blockOrdersUptoRow.holds Tryd.pinned (OpenSpec.upto blockOrdersSpec)

/-- 'kinlaw7.BlockSads', WHERE WHAT IT READS IS OF BULK AT MOST 1048576: true; the input reads as it did. -/
def blockSadsUptoRow : OpenClaim := { program := "ytceobpoibiffhaadoor", sum := "a13aaeffbda9881b6b576c1f5a9d825d22520ef2a4b5f15d77ca878aeb11923b", func := "kinescope/kinlaw7.BlockSads", spec := "blockSads", inPlace := ["internal/reflectlite.ValueOf", "(internal/reflectlite.Value).Type", "(internal/reflectlite.Value).IsNil", "internal/reflectlite.TypeOf", "(internal/reflectlite.Value).Elem", "(internal/reflectlite.Value).Set"], unfollowed := true, recurses := true, named := ["errors.errorType"], apart := false, laid := [("errors.errorType", laid_errors_errorType)], narrowed := true }
def BlockSadsUptoSaid : Prop := blockSadsUptoRow.holds Tryd.pinned (OpenSpec.upto blockSadsSpec)

/-- 'kinlaw7.BlockQuarters', WHERE WHAT IT READS IS OF BULK AT MOST 1048576: true; the input reads as it did. -/
def blockQuartersUptoRow : OpenClaim := { program := "ytceobpoibiffhaadoor", sum := "a13aaeffbda9881b6b576c1f5a9d825d22520ef2a4b5f15d77ca878aeb11923b", func := "kinescope/kinlaw7.BlockQuarters", spec := "blockQuarters", inPlace := ["internal/reflectlite.ValueOf", "(internal/reflectlite.Value).Type", "(internal/reflectlite.Value).IsNil", "internal/reflectlite.TypeOf", "(internal/reflectlite.Value).Elem", "(internal/reflectlite.Value).Set"], unfollowed := true, recurses := true, named := ["errors.errorType"], apart := false, laid := [("errors.errorType", laid_errors_errorType)], narrowed := true }
def BlockQuartersUptoSaid : Prop := blockQuartersUptoRow.holds Tryd.pinned (OpenSpec.upto blockQuartersSpec)

/-- 'kinlaw7.BlockParts', WHERE WHAT IT READS IS OF BULK AT MOST 1048576: true; the input reads as it did. -/
def blockPartsUptoRow : OpenClaim := { program := "ytceobpoibiffhaadoor", sum := "a13aaeffbda9881b6b576c1f5a9d825d22520ef2a4b5f15d77ca878aeb11923b", func := "kinescope/kinlaw7.BlockParts", spec := "blockParts", inPlace := ["internal/reflectlite.ValueOf", "(internal/reflectlite.Value).Type", "(internal/reflectlite.Value).IsNil", "internal/reflectlite.TypeOf", "(internal/reflectlite.Value).Elem", "(internal/reflectlite.Value).Set"], unfollowed := true, recurses := true, named := ["errors.errorType"], apart := false, laid := [("errors.errorType", laid_errors_errorType)], narrowed := true }
def BlockPartsUptoSaid : Prop := blockPartsUptoRow.holds Tryd.pinned (OpenSpec.upto blockPartsSpec)

/-- 'kinlaw7.BlockBack', WHERE WHAT IT READS IS OF BULK AT MOST 1048576: true; the input reads as it did. -/
def blockBackUptoRow : OpenClaim := { program := "ytceobpoibiffhaadoor", sum := "a13aaeffbda9881b6b576c1f5a9d825d22520ef2a4b5f15d77ca878aeb11923b", func := "kinescope/kinlaw7.BlockBack", spec := "blockBack", inPlace := ["internal/reflectlite.ValueOf", "(internal/reflectlite.Value).Type", "(internal/reflectlite.Value).IsNil", "internal/reflectlite.TypeOf", "(internal/reflectlite.Value).Elem", "(internal/reflectlite.Value).Set"], unfollowed := true, recurses := true, named := ["errors.errorType"], apart := false, laid := [("errors.errorType", laid_errors_errorType)], narrowed := true }
def BlockBackUptoSaid : Prop := blockBackUptoRow.holds Tryd.pinned (OpenSpec.upto blockBackSpec)

end Rows
end Go.Proofs.YtceobpoibiffhaaDoor
