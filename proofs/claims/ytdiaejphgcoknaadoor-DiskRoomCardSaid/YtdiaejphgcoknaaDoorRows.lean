/-
  NARROWER THAN 'FOR EVERY INPUT', by the rows' own cells (each row's printed sentence says how): DiskRefused: laid · DiskFalls: laid · DiskKept: laid · DiskEither: laid · DiskRoom: laid.
  DERIVED. THE GIVEN ROWS OF THIS SEAT. 5 by the template 'for every input the law returns true; each argument reads behind the call as it read before'; 0 by the template 'total and deterministic' (their statements: YtdiaejphgcoknaaDoorTotals.lean).
  GIVEN WITH THE SEED: the statements are not yours to turn. If you find one false, say at which input.
  Laid BY PROGRAM, IN A SANDBOX (cutbox-rows.mjs): the forced cells as the released guide's own fill.sh prints them over the translation d20ed2cf0811cc01… (all of the seat's roots in one cut). By AI agents, Wed Nov 11 2026. No macro, syntax, notation, axiom, sorry.
-/
import Derived.Test.YtdiaejphgcoknaaDoorChecked
import GoSem.Claim
import GoSem.ClaimJoined
import GoSem.ClaimMapViews
import Derived.JoinedTies
import Derived.KernelRfl
namespace Go.Proofs.YtdiaejphgcoknaaDoor
/- THE CELL 'sum', in the pinned program and in every row, IS THE sha256 OF THE DUMP (.gsa) THAT YtdiaejphgcoknaaDoorProg.lean LOADS. Nothing in Lean hashes anything: it is a label: what it is worth is what the hold of that sum in a sandbox is worth. -/
noncomputable def Tryd.pinned : Pinned := { name := "ytdiaejphgcoknaadoor", sum := "d20ed2cf0811cc01bfd4f87ed476ddd8a3d2bbed3c78bfc161200d77ca34eb64", checked := Tryd.checked }
namespace Rows
def none {H : Type} : Left H := { results := [], args := [] }

/- WHAT THE LISTED PACKAGE-LEVEL VARIABLES READ AS WHEN THE CALL BEGINS. Each datum BY PROGRAM (the guide's laid-datum.mjs) off the statement by which the dump's own 'gosem.cut.vars' lays the variable. In a bare row this is a premise. The card (YtdiaejphgcoknaaDoorCards.lean) ties it to the program's text. -/
def laid_errors_errorType {H : Type} : DataW H := .iface "internal/reflectlite.rtype" (.agg [.ptr (.lit (.string [101, 114, 114, 111, 114]))])

/-- 'kinlaw5.DiskRefused': WHATEVER THE INPUT: true; the input reads as it did. -/
def diskRefusedSpec : ChangeSpec := { name := "diskRefused", fn := fun _ => fun
  | [d1, d2] => { results := [.lit (.bool true)], args := [d1, d2] }
  | _ => none }
def diskRefusedRow : OpenClaim := { program := "ytdiaejphgcoknaadoor", sum := "d20ed2cf0811cc01bfd4f87ed476ddd8a3d2bbed3c78bfc161200d77ca34eb64", func := "kinescope/kinlaw5.DiskRefused", spec := "diskRefused", inPlace := ["internal/reflectlite.ValueOf", "(internal/reflectlite.Value).Type", "(internal/reflectlite.Value).IsNil", "internal/reflectlite.TypeOf", "(internal/reflectlite.Value).Elem", "(internal/reflectlite.Value).Set", "maps.clone"], unfollowed := true, recurses := true, named := ["errors.errorType"], apart := false, laid := [("errors.errorType", laid_errors_errorType)] }
def DiskRefusedSaid : Prop := diskRefusedRow.holds Tryd.pinned (OpenSpec.ofChange diskRefusedSpec)

/-- ITS FALSE NEIGHBOUR: 'it returns false'. Refute it at one input. -/
def diskRefusedWrong : ChangeSpec := { name := "diskRefused", fn := fun _ => fun
  | [d1, d2] => { results := [.lit (.bool false)], args := [d1, d2] }
  | _ => none }
def DiskRefusedWrongFalsely : Prop := diskRefusedRow.holds Tryd.pinned (OpenSpec.ofChange diskRefusedWrong)

/-- 'kinlaw5.DiskFalls': WHATEVER THE INPUT: true; the input reads as it did. -/
def diskFallsSpec : ChangeSpec := { name := "diskFalls", fn := fun _ => fun
  | [d1, d2, d3] => { results := [.lit (.bool true)], args := [d1, d2, d3] }
  | _ => none }
def diskFallsRow : OpenClaim := { program := "ytdiaejphgcoknaadoor", sum := "d20ed2cf0811cc01bfd4f87ed476ddd8a3d2bbed3c78bfc161200d77ca34eb64", func := "kinescope/kinlaw5.DiskFalls", spec := "diskFalls", inPlace := ["internal/reflectlite.ValueOf", "(internal/reflectlite.Value).Type", "(internal/reflectlite.Value).IsNil", "internal/reflectlite.TypeOf", "(internal/reflectlite.Value).Elem", "(internal/reflectlite.Value).Set", "maps.clone"], unfollowed := true, recurses := true, named := ["errors.errorType"], apart := false, laid := [("errors.errorType", laid_errors_errorType)] }
def DiskFallsSaid : Prop := diskFallsRow.holds Tryd.pinned (OpenSpec.ofChange diskFallsSpec)

/-- ITS FALSE NEIGHBOUR: 'it returns false'. Refute it at one input. -/
def diskFallsWrong : ChangeSpec := { name := "diskFalls", fn := fun _ => fun
  | [d1, d2, d3] => { results := [.lit (.bool false)], args := [d1, d2, d3] }
  | _ => none }
def DiskFallsWrongFalsely : Prop := diskFallsRow.holds Tryd.pinned (OpenSpec.ofChange diskFallsWrong)

/-- 'kinlaw5.DiskKept': WHATEVER THE INPUT: true; the input reads as it did. -/
def diskKeptSpec : ChangeSpec := { name := "diskKept", fn := fun _ => fun
  | [d1, d2, d3, d4] => { results := [.lit (.bool true)], args := [d1, d2, d3, d4] }
  | _ => none }
def diskKeptRow : OpenClaim := { program := "ytdiaejphgcoknaadoor", sum := "d20ed2cf0811cc01bfd4f87ed476ddd8a3d2bbed3c78bfc161200d77ca34eb64", func := "kinescope/kinlaw5.DiskKept", spec := "diskKept", inPlace := ["internal/reflectlite.ValueOf", "(internal/reflectlite.Value).Type", "(internal/reflectlite.Value).IsNil", "internal/reflectlite.TypeOf", "(internal/reflectlite.Value).Elem", "(internal/reflectlite.Value).Set", "maps.clone"], unfollowed := true, recurses := true, named := ["errors.errorType"], apart := false, laid := [("errors.errorType", laid_errors_errorType)] }
def DiskKeptSaid : Prop := diskKeptRow.holds Tryd.pinned (OpenSpec.ofChange diskKeptSpec)

/-- ITS FALSE NEIGHBOUR: 'it returns false'. Refute it at one input. -/
def diskKeptWrong : ChangeSpec := { name := "diskKept", fn := fun _ => fun
  | [d1, d2, d3, d4] => { results := [.lit (.bool false)], args := [d1, d2, d3, d4] }
  | _ => none }
def DiskKeptWrongFalsely : Prop := diskKeptRow.holds Tryd.pinned (OpenSpec.ofChange diskKeptWrong)

/-- 'kinlaw5.DiskEither': WHATEVER THE INPUT: true; the input reads as it did. -/
def diskEitherSpec : ChangeSpec := { name := "diskEither", fn := fun _ => fun
  | [d1, d2, d3, d4] => { results := [.lit (.bool true)], args := [d1, d2, d3, d4] }
  | _ => none }
def diskEitherRow : OpenClaim := { program := "ytdiaejphgcoknaadoor", sum := "d20ed2cf0811cc01bfd4f87ed476ddd8a3d2bbed3c78bfc161200d77ca34eb64", func := "kinescope/kinlaw5.DiskEither", spec := "diskEither", inPlace := ["internal/reflectlite.ValueOf", "(internal/reflectlite.Value).Type", "(internal/reflectlite.Value).IsNil", "internal/reflectlite.TypeOf", "(internal/reflectlite.Value).Elem", "(internal/reflectlite.Value).Set", "maps.clone"], unfollowed := true, recurses := true, named := ["errors.errorType"], apart := false, laid := [("errors.errorType", laid_errors_errorType)] }
def DiskEitherSaid : Prop := diskEitherRow.holds Tryd.pinned (OpenSpec.ofChange diskEitherSpec)

/-- ITS FALSE NEIGHBOUR: 'it returns false'. Refute it at one input. -/
def diskEitherWrong : ChangeSpec := { name := "diskEither", fn := fun _ => fun
  | [d1, d2, d3, d4] => { results := [.lit (.bool false)], args := [d1, d2, d3, d4] }
  | _ => none }
def DiskEitherWrongFalsely : Prop := diskEitherRow.holds Tryd.pinned (OpenSpec.ofChange diskEitherWrong)

/-- 'kinlaw5.DiskRoom': WHATEVER THE INPUT: true; the input reads as it did. -/
def diskRoomSpec : ChangeSpec := { name := "diskRoom", fn := fun _ => fun
  | [d1, d2, d3] => { results := [.lit (.bool true)], args := [d1, d2, d3] }
  | _ => none }
def diskRoomRow : OpenClaim := { program := "ytdiaejphgcoknaadoor", sum := "d20ed2cf0811cc01bfd4f87ed476ddd8a3d2bbed3c78bfc161200d77ca34eb64", func := "kinescope/kinlaw5.DiskRoom", spec := "diskRoom", inPlace := ["internal/reflectlite.ValueOf", "(internal/reflectlite.Value).Type", "(internal/reflectlite.Value).IsNil", "internal/reflectlite.TypeOf", "(internal/reflectlite.Value).Elem", "(internal/reflectlite.Value).Set", "maps.clone"], unfollowed := true, recurses := true, named := ["errors.errorType"], apart := false, laid := [("errors.errorType", laid_errors_errorType)] }
def DiskRoomSaid : Prop := diskRoomRow.holds Tryd.pinned (OpenSpec.ofChange diskRoomSpec)

/-- ITS FALSE NEIGHBOUR: 'it returns false'. Refute it at one input. -/
def diskRoomWrong : ChangeSpec := { name := "diskRoom", fn := fun _ => fun
  | [d1, d2, d3] => { results := [.lit (.bool false)], args := [d1, d2, d3] }
  | _ => none }
def DiskRoomWrongFalsely : Prop := diskRoomRow.holds Tryd.pinned (OpenSpec.ofChange diskRoomWrong)

/- THE SECOND FORM. 'bulk': how many values and letters a reading holds, each counted each time it is reached (what is shared counts as often as it is met; a slice's spare places count too). A statement '..UptoSaid' is the law's where the arguments, and the package variables that the reading takes, are together of bulk at most 1048576: NARROWER than '..Said'. Prove '..Said' where nothing that the law and all that it calls make is longer than what came in: it says more and counts as full. Else prove '..UptoSaid'. A law counts once. -/
mutual
def uptoBulk {H : Type} : DataW H → Nat
  | .lit (.string bytes) => bytes.length + 1
  | .lit _ => 1
  | .nil => 1
  | .ptr d => uptoBulk d + 1
  | .slice elems spare => uptoBulkAll elems + uptoBulkAll spare + 1
  | .agg parts => uptoBulkAll parts + 1
  | .iface _ d => uptoBulk d + 1
  | .map entries => uptoBulkEntries entries + 1
  | .held _ => 1
def uptoBulkAll {H : Type} : List (DataW H) → Nat
  | [] => 0
  | d :: r => uptoBulk d + uptoBulkAll r
def uptoBulkEntries {H : Type} : List (Lit × DataW H) → Nat
  | [] => 0
  | x :: r => uptoBulkEntry x + uptoBulkEntries r
def uptoBulkEntry {H : Type} : Lit × DataW H → Nat
  | (.string bytes, d) => bytes.length + uptoBulk d + 1
  | (_, d) => uptoBulk d + 1
 end
def uptoSmall : (H : Type) → List (DataW H) → Bool := fun _ ds => decide (uptoBulkAll ds ≤ 1048576)
def OpenSpec.upto (s : _root_.Go.ChangeSpec) : _root_.Go.OpenSpec := { _root_.Go.OpenSpec.ofChange s with cond := some uptoSmall }

/-- 'kinlaw5.DiskRefused', WHERE WHAT IT READS IS OF BULK AT MOST 1048576: true; the input reads as it did. -/
def diskRefusedUptoRow : OpenClaim := { program := "ytdiaejphgcoknaadoor", sum := "d20ed2cf0811cc01bfd4f87ed476ddd8a3d2bbed3c78bfc161200d77ca34eb64", func := "kinescope/kinlaw5.DiskRefused", spec := "diskRefused", inPlace := ["internal/reflectlite.ValueOf", "(internal/reflectlite.Value).Type", "(internal/reflectlite.Value).IsNil", "internal/reflectlite.TypeOf", "(internal/reflectlite.Value).Elem", "(internal/reflectlite.Value).Set", "maps.clone"], unfollowed := true, recurses := true, named := ["errors.errorType"], apart := false, laid := [("errors.errorType", laid_errors_errorType)], narrowed := true }
def DiskRefusedUptoSaid : Prop := diskRefusedUptoRow.holds Tryd.pinned (OpenSpec.upto diskRefusedSpec)

/-- 'kinlaw5.DiskFalls', WHERE WHAT IT READS IS OF BULK AT MOST 1048576: true; the input reads as it did. -/
def diskFallsUptoRow : OpenClaim := { program := "ytdiaejphgcoknaadoor", sum := "d20ed2cf0811cc01bfd4f87ed476ddd8a3d2bbed3c78bfc161200d77ca34eb64", func := "kinescope/kinlaw5.DiskFalls", spec := "diskFalls", inPlace := ["internal/reflectlite.ValueOf", "(internal/reflectlite.Value).Type", "(internal/reflectlite.Value).IsNil", "internal/reflectlite.TypeOf", "(internal/reflectlite.Value).Elem", "(internal/reflectlite.Value).Set", "maps.clone"], unfollowed := true, recurses := true, named := ["errors.errorType"], apart := false, laid := [("errors.errorType", laid_errors_errorType)], narrowed := true }
def DiskFallsUptoSaid : Prop := diskFallsUptoRow.holds Tryd.pinned (OpenSpec.upto diskFallsSpec)

/-- 'kinlaw5.DiskKept', WHERE WHAT IT READS IS OF BULK AT MOST 1048576: true; the input reads as it did. -/
def diskKeptUptoRow : OpenClaim := { program := "ytdiaejphgcoknaadoor", sum := "d20ed2cf0811cc01bfd4f87ed476ddd8a3d2bbed3c78bfc161200d77ca34eb64", func := "kinescope/kinlaw5.DiskKept", spec := "diskKept", inPlace := ["internal/reflectlite.ValueOf", "(internal/reflectlite.Value).Type", "(internal/reflectlite.Value).IsNil", "internal/reflectlite.TypeOf", "(internal/reflectlite.Value).Elem", "(internal/reflectlite.Value).Set", "maps.clone"], unfollowed := true, recurses := true, named := ["errors.errorType"], apart := false, laid := [("errors.errorType", laid_errors_errorType)], narrowed := true }
def DiskKeptUptoSaid : Prop := diskKeptUptoRow.holds Tryd.pinned (OpenSpec.upto diskKeptSpec)

/-- 'kinlaw5.DiskEither', WHERE WHAT IT READS IS OF BULK AT MOST 1048576: true; the input reads as it did. -/
def diskEitherUptoRow : OpenClaim := { program := "ytdiaejphgcoknaadoor", sum := "d20ed2cf0811cc01bfd4f87ed476ddd8a3d2bbed3c78bfc161200d77ca34eb64", func := "kinescope/kinlaw5.DiskEither", spec := "diskEither", inPlace := ["internal/reflectlite.ValueOf", "(internal/reflectlite.Value).Type", "(internal/reflectlite.Value).IsNil", "internal/reflectlite.TypeOf", "(internal/reflectlite.Value).Elem", "(internal/reflectlite.Value).Set", "maps.clone"], unfollowed := true, recurses := true, named := ["errors.errorType"], apart := false, laid := [("errors.errorType", laid_errors_errorType)], narrowed := true }
def DiskEitherUptoSaid : Prop := diskEitherUptoRow.holds Tryd.pinned (OpenSpec.upto diskEitherSpec)

/-- 'kinlaw5.DiskRoom', WHERE WHAT IT READS IS OF BULK AT MOST 1048576: true; the input reads as it did. -/
def diskRoomUptoRow : OpenClaim := { program := "ytdiaejphgcoknaadoor", sum := "d20ed2cf0811cc01bfd4f87ed476ddd8a3d2bbed3c78bfc161200d77ca34eb64", func := "kinescope/kinlaw5.DiskRoom", spec := "diskRoom", inPlace := ["internal/reflectlite.ValueOf", "(internal/reflectlite.Value).Type", "(internal/reflectlite.Value).IsNil", "internal/reflectlite.TypeOf", "(internal/reflectlite.Value).Elem", "(internal/reflectlite.Value).Set", "maps.clone"], unfollowed := true, recurses := true, named := ["errors.errorType"], apart := false, laid := [("errors.errorType", laid_errors_errorType)], narrowed := true }
def DiskRoomUptoSaid : Prop := diskRoomUptoRow.holds Tryd.pinned (OpenSpec.upto diskRoomSpec)

end Rows
end Go.Proofs.YtdiaejphgcoknaaDoor
