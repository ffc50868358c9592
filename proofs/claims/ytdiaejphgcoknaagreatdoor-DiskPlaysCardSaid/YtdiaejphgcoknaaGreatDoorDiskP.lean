/- The disk in plain Lean: what it holds; what each of its operations does. -/
import Derived.Test.YtdiaejphgcoknaaGreatDoorDiskM
set_option linter.unusedSimpArgs false
set_option linter.unusedVariables false
namespace Go.Proofs.YtdiaejphgcoknaaGreatDoor

structure DF where
  data : Bs
  safe : Nat
def DF.nought : DF := ⟨[], 0⟩
structure Stp where
  kind : Nat
  name : Bs
  to : Bs
  file : Nat
structure DS where
  room : Int
  all : List DF
  names : NM
  safe : NM
  steps : List Stp
  armed : Int
  down : Bool
  done : Int
def DS.file (D : DS) (j : Nat) : DF := D.all.getD j DF.nought
def newD (room : Int) : DS := ⟨room, [], [], [], [], 0, false, 0⟩
def namedB (s : Bs) : Bool := !s.isEmpty && decide (s.length ≤ 24)
/-- A write is counted. -/
def armedF (D : DS) : Int := if 0 < D.armed then D.armed - 1 else D.armed
def downF (D : DS) : Bool := if 0 < D.armed then D.armed - 1 == 0 else D.down
def fallD (D : DS) : DS := { D with armed := armedF D, down := downF D, done := D.done + 1 }
def goesE (D : DS) (e : Int) : Int := if D.down then 10 else if e ≠ 0 then e else if downF D then 10 else 0
def goesD (D : DS) (e : Int) : DS := if D.down then D else if e ≠ 0 then D else fallD D
def thereE (D : DS) (n : Bs) : Int := if namedB n then (if (nget D.names n).isSome then 0 else 7) else 6
def fileN (m : NM) (n : Bs) : Nat := (nget m n).getD 0
def actN (m : NM) (s : Stp) : NM :=
  if s.kind = 0 then nput m s.name s.file else if s.kind = 1 then nput (ndel m s.name) s.to (fileN m s.name) else ndel m s.name
def doesD (D : DS) (s : Stp) : DS := { D with names := actN D.names s, steps := D.steps ++ [s] }
def createE (D : DS) (n : Bs) : Int := if namedB n then (if (nget D.names n).isSome then 8 else if 64 ≤ D.names.length then 5 else 0) else 6
def createD (D : DS) (n : Bs) : DS :=
  if goesE D (createE D n) = 0 then doesD { goesD D (createE D n) with all := D.all ++ [DF.nought] } ⟨0, n, [], D.all.length⟩ else goesD D (createE D n)
def setF (l : List DF) (j : Nat) (f : DF) : List DF := l.set j f
def keysN (m : NM) : List Bs := m.map fun p => p.1
def sizeN (D : DS) (k : Bs) : Nat := (D.file (fileN D.names k)).data.length
def usedD (D : DS) : Nat := ((keysN D.names).map (sizeN D)).sum
def appE0 (D : DS) (n b : Bs) : Int := if D.down then 10 else if thereE D n ≠ 0 then thereE D n else if b ≠ [] ∧ D.room - usedD D < b.length then 9 else 0
def appE (D : DS) (n b : Bs) : Int := if appE0 D n b ≠ 0 then appE0 D n b else if downF D then 10 else 0
def appF (D : DS) (n b : Bs) : DF := ⟨(D.file (fileN D.names n)).data ++ (if downF D then b.take (b.length / 2) else b), (D.file (fileN D.names n)).safe⟩
def appD (D : DS) (n b : Bs) : DS :=
  if appE0 D n b ≠ 0 then D else { fallD D with all := setF D.all (fileN D.names n) (appF D n b) }
def syncE (D : DS) (n : Bs) : Int := goesE D (thereE D n)
def syncF (D : DS) (n : Bs) : DF := ⟨(D.file (fileN D.names n)).data, (D.file (fileN D.names n)).data.length⟩
def syncD (D : DS) (n : Bs) : DS :=
  if syncE D n = 0 then { fallD D with all := setF D.all (fileN D.names n) (syncF D n) } else goesD D (thereE D n)
def renE0 (D : DS) (a b : Bs) : Int := if namedB b then thereE D a else 6
def renE (D : DS) (a b : Bs) : Int := goesE D (renE0 D a b)
def renD (D : DS) (a b : Bs) : DS := if renE D a b = 0 then doesD (fallD D) ⟨1, a, b, 0⟩ else goesD D (renE0 D a b)
def remE (D : DS) (n : Bs) : Int := goesE D (thereE D n)
def remD (D : DS) (n : Bs) : DS := if remE D n = 0 then doesD (fallD D) ⟨2, n, [], 0⟩ else goesD D (thereE D n)
def sdirE (D : DS) : Int := goesE D 0
def sdirD (D : DS) : DS := if sdirE D = 0 then { fallD D with safe := D.names, steps := [] } else goesD D 0
def readE (D : DS) (n : Bs) : Int := if D.down then 10 else thereE D n
def readV (D : DS) (n : Bs) : Bs := if readE D n = 0 then (D.file (fileN D.names n)).data else []
def armD (D : DS) (n : Int) : DS := if D.down then D else { D with armed := max n 0 }
/-- Crash. -/
def pickV (picks : List Int) (i most : Nat) : Nat := if i < picks.length ∧ 0 ≤ picks.getD i 0 then (picks.getD i 0).toNat % (most + 1) else 0
def leftN (D : DS) : List Nat := ((keysN D.safe).map (fileN D.safe)) ++ ((D.steps.filter fun s => s.kind == 0).map fun s => s.file)
def leftS (D : DS) : List Nat := (leftN D).mergeSort fun a b => decide (a ≤ b)
def cutF (picks : List Int) (i : Nat) (f : DF) : DF :=
  if f.safe < f.data.length then ⟨f.data.take (f.safe + pickV picks i (f.data.length - f.safe)), (f.data.take (f.safe + pickV picks i (f.data.length - f.safe))).length⟩ else ⟨f.data, f.data.length⟩
def cutI (i : Nat) (f : DF) : Nat := if f.safe < f.data.length then i + 1 else i
def cutTo (picks : List Int) : List Nat → List DF → Nat → List DF
  | [], l, _ => l
  | n :: r, l, i => cutTo picks r (setF l n (cutF picks i (l.getD n DF.nought))) (cutI i (l.getD n DF.nought))
def crashN (D : DS) (picks : List Int) : NM := (D.steps.take (pickV picks 0 D.steps.length)).foldl actN D.safe
def crashD (D : DS) (picks : List Int) : DS :=
  ⟨D.room, cutTo picks (leftS D) D.all 1, crashN D picks, crashN D picks, [], 0, false, 0⟩

theorem length_setF (l : List DF) (j : Nat) (f : DF) : (setF l j f).length = l.length := List.length_set
theorem getD_setF (l : List DF) (j i : Nat) (f : DF) : (setF l j f).getD i DF.nought = if j = i ∧ i < l.length then f else l.getD i DF.nought := by
  unfold setF
  rw [List.getD_eq_getElem?_getD, List.getElem?_set]
  by_cases h : j = i
  · subst h
    by_cases h2 : j < l.length
    · simp [h2]
    · simp [h2, List.getD_eq_getElem?_getD, List.getElem?_eq_none (Nat.le_of_not_lt h2)]
  · simp [h, List.getD_eq_getElem?_getD]
theorem length_cutTo (picks : List Int) : ∀ (r : List Nat) (l : List DF) (i : Nat), (cutTo picks r l i).length = l.length
  | [], _, _ => rfl
  | n :: r, l, i => by unfold cutTo; rw [length_cutTo picks r, length_setF]
end Go.Proofs.YtdiaejphgcoknaaGreatDoor
