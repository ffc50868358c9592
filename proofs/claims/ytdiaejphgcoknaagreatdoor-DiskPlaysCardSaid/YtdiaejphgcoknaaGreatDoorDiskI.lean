/- What always holds of a disk, in plain Lean. -/
import Derived.Test.YtdiaejphgcoknaaGreatDoorDiskP
set_option linter.unusedSimpArgs false
set_option linter.unusedVariables false
namespace Go.Proofs.YtdiaejphgcoknaaGreatDoor

/-- Steps done one behind the other: each finds the name that it is about; numbers are of files. -/
def Runs (N : Nat) : NM → List Stp → Prop
  | m, [] => ∀ q ∈ m, q.2 < N
  | m, s :: r => (∀ q ∈ m, q.2 < N) ∧ s.kind ≤ 2 ∧ s.name.length ≤ 24 ∧ s.to.length ≤ 24 ∧ s.file ≤ N ∧ (s.kind = 0 → s.file < N) ∧ (s.kind = 1 → (nget m s.name).isSome = true) ∧ Runs N (actN m s) r
structure Inv (D : DS) (T : Nat) : Prop where
  room : 0 ≤ D.room ∧ D.room ≤ 16777216
  done : 0 ≤ D.done ∧ D.done ≤ T
  armed : 0 ≤ D.armed ∧ D.armed ≤ 9223372036854775807
  nam : D.names.length ≤ T
  stp : D.safe.length + D.steps.length ≤ T
  cnt : D.all.length ≤ T
  runs : Runs D.all.length D.safe D.steps
  ends : D.names = D.steps.foldl actN D.safe
  data : ∀ j, j < D.all.length → (D.file j).safe ≤ (D.file j).data.length ∧ (D.file j).data.length ≤ 16777216
theorem Runs.start {N : Nat} {m : NM} {l : List Stp} (h : Runs N m l) : ∀ q ∈ m, q.2 < N := by
  cases l with
  | nil => exact h
  | cons s r => exact h.1
theorem Runs.last {N : Nat} : ∀ {l : List Stp} {m : NM}, Runs N m l → ∀ q ∈ l.foldl actN m, q.2 < N
  | [], _, h => h
  | s :: r, m, h => by
    obtain ⟨_, _, _, _, _, _, _, h8⟩ := h
    exact Runs.last (l := r) h8
theorem Inv.vals {D : DS} {T : Nat} (h : Inv D T) : ∀ q ∈ D.names, q.2 < D.all.length := by rw [h.ends]; exact h.runs.last
theorem Inv.valsS {D : DS} {T : Nat} (h : Inv D T) : ∀ q ∈ D.safe, q.2 < D.all.length := h.runs.start
theorem Inv.vals64 {D : DS} {T : Nat} (h : Inv D T) (hT : T ≤ 100000) : ∀ q ∈ D.names, q.2 ≤ 9223372036854775807 := fun q hq => by
  have h1 := h.vals q hq
  have h2 := h.cnt
  omega
end Go.Proofs.YtdiaejphgcoknaaGreatDoor
