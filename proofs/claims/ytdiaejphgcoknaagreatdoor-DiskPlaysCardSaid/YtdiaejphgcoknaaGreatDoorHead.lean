/- What every law's row shares: the listed variable, a world for the witness, the arguments read again. -/
import Derived.Test.YtdiaejphgcoknaaGreatDoorRows
import Derived.Test.YtdiaejphgcoknaaGreatDoorErrs
import Derived.ChangeSame
import Derived.ChangeVars
import Derived.JoinedOf
import Derived.RowKit
import Derived.RowKitTokens
import Derived.LaidLaws
import Derived.LaidHandle
import Derived.Stop.Joined
import Derived.ProofKit
import Derived.OpenShut
import Derived.Deep.DeepHandedRow
set_option linter.unusedSimpArgs false
set_option linter.unusedVariables false
namespace Go.Proofs.YtdiaejphgcoknaaGreatDoor
open Go.ChangeShapes Go.WideShapes Go.ChangeAt Go.RowKit

theorem own : ownKnob Tryz.prog.godebug = none := by kernel_rfl
theorem et : Tryz.prog.globalNamed "errors.errorType" = some 0 := by kernel_rfl
theorem rt : (Tryz.prog.cutTypes.find? (·.1 == "internal/reflectlite.rtype")).map (·.2) = some 159 := by kernel_rfl
theorem oneRow : ((List.range 217).filter fun t => Tryz.prog.rowNamed t [101, 114, 114, 111, 114]) = [26] := by kernel_rfl
theorem sizeT : Tryz.prog.types.size = 217 := by kernel_rfl
theorem laidOut : laidOutB Tryz.prog = true := by kernel_rfl

/-- WHAT THE CONDITION GIVES A WALK: the variable's one cell. -/
theorem typeIs_of_laid {W : World} (h : laidMetH Tryz.prog [("errors.errorType", Rows.laid_errors_errorType)] W) : TypeIs W := by
  have h' : laidMet Tryz.prog [] W ∧ handlesMet Tryz.prog [("errors.errorType", Rows.laid_errors_errorType)] W := h
  obtain ⟨name, u, ty, e1, e2, e3, e4, e5⟩ := h'.2 _ (List.mem_singleton.2 rfl)
  have en : name = [101, 114, 114, 111, 114] := (Option.some.inj e1).symm
  subst en
  obtain rfl := Option.some.inj (rt.symm.trans e2)
  have hm : ty ∈ (List.range 217).filter fun t => Tryz.prog.rowNamed t [101, 114, 114, 111, 114] := List.mem_filter.2 ⟨List.mem_range.2 (by rw [← sizeT]; exact e3), e4⟩
  rw [oneRow] at hm
  obtain rfl := List.mem_singleton.1 hm
  have hh : typeHandle Tryz.prog 26 = .pointer (some ⟨1, 26, none⟩) := by kernel_rfl
  rw [hh] at e5
  have := World.var?_cell et e5 0
  simpa [TypeIs] using this

/-- A world that meets the condition: the settled one, the variable's cell laid. -/
noncomputable def laidWorld (os : Os) : World :=
  { World.holding Tryz.prog os ⟨#[], #[], []⟩ with heap := (World.holding Tryz.prog os ⟨#[], #[], []⟩).heap.modify 0 fun
      | .cells _ t frozen => .cells #[.iface 159 (.agg #[.pointer (some ⟨1, 26, none⟩)])] t frozen
      | o => o }
theorem laidWorld_met (os : Os) (args : Array Value) : laidMetH Tryz.prog [("errors.errorType", Rows.laid_errors_errorType)] ((laidWorld os).forCall (fun _ _ => 0) ⟨#[], args, []⟩).memory :=
  laidMetH_of_parts (laidMet_nil _ _) (by kernel_rfl)

/-- ALL ARGUMENTS READ AS THEY DID, behind a call that turns nothing that was there. -/
theorem trodAll_below {H : Type} {enc : TypeId × Value → H} {P : Program} (hl : laidOutB P = true) {W W' : World} (hb : Below W.heap.size W W') :
    ∀ {ts : List TypeId} {vs : List Value} {ds : List (DataW H)} {ps : List MemPlace}, (∀ t ∈ ts, P.readableRec t = true ∧ t < P.types.size) →
      DataW.TrodAll enc P W 0 (fun _ => true) true ts vs ds ps → (∀ x ∈ ps, x.block < W.heap.size) → DataW.TrodAll enc P W' 0 (fun b => decide (b < W.heap.size)) true ts vs ds ps
  | [], [], [], ps, _, h, _ => h
  | t :: ts, v :: vs, d :: ds, ps, hr, h, hlt => by
    obtain ⟨p, q, hp, hq, e⟩ := h
    subst e
    exact ⟨p, q, Below.trod hl (hr t (List.mem_cons_self ..)).1 (hr t (List.mem_cons_self ..)).2 hp hb (fun x hx => hlt x (List.mem_append_left _ hx)),
      trodAll_below hl hb (fun t ht => hr t (List.mem_cons_of_mem _ ht)) hq (fun x hx => hlt x (List.mem_append_right _ hx)), rfl⟩
  | [], _ :: _, _, _, _, h, _ => by simp [DataW.TrodAll] at h
  | [], [], _ :: _, _, _, h, _ => by simp [DataW.TrodAll] at h
  | _ :: _, [], _, _, _, h, _ => by simp [DataW.TrodAll] at h
  | _ :: _, _ :: _, [], _, _, h, _ => by simp [DataW.TrodAll] at h
end Go.Proofs.YtdiaejphgcoknaaGreatDoor
