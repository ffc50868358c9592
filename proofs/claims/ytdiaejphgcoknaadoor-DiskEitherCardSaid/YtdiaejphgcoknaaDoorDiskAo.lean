/- The plain law behind DiskEither. -/
import Derived.Test.YtdiaejphgcoknaaDoorDiskAk
set_option linter.unusedSimpArgs false
set_option linter.unusedVariables false
namespace Go.Proofs.YtdiaejphgcoknaaDoor
open Go.RowKit

theorem pickV_le2 (picks : List Int) (i most : Nat) : pickV picks i most ≤ most := by
  unfold pickV
  split
  · exact Nat.le_of_lt_succ (Nat.mod_lt _ (by omega))
  · omega
def nw : Bs := [110, 101, 119]
def bN : Bs := [98]
theorem nw_b : nw ≠ bN := by decide
theorem nw_named : namedB nw = true := by decide
theorem b_named : namedB bN = true := by decide
/-- A file that is safe to its end stays as it is at a crash. -/
theorem exact_cutTo {picks : List Int} {v : Nat} {x : Bs} : ∀ {r : List Nat} {l : List DF} {i : Nat}, l.getD v DF.nought = ⟨x, x.length⟩ → (cutTo picks r l i).getD v DF.nought = ⟨x, x.length⟩
  | [], l, i, h => h
  | m :: r, l, i, h => by
    unfold cutTo
    refine exact_cutTo (r := r) ?_
    rw [getD_setF]
    split
    · rename_i e
      rw [e.1, h]
      unfold cutF
      rw [if_neg (by simp)]
    · exact h
theorem exact_crash {D : DS} {v : Nat} {x : Bs} (h : D.file v = ⟨x, x.length⟩) (picks : List Int) : (crashD D picks).file v = ⟨x, x.length⟩ := exact_cutTo h
/-- The name leads to what it led to, whatever a crash keeps. -/
structure Old (ob : Option Nat) (was : Bs) (D : DS) : Prop where
  safe : nget D.safe bN = ob
  steps : ∀ s ∈ D.steps, Shuns bN s
  file : ∀ v, ob = some v → v < D.all.length ∧ D.file v = ⟨was, was.length⟩
def oldE (ob : Option Nat) : Int := if ob.isSome then 0 else 7
def oldV (ob : Option Nat) (was : Bs) : Bs := if ob.isSome then was else []
section
variable {ob : Option Nat} {was : Bs} {T : Nat} {D : DS}
theorem read_of {D : DS} {ob : Option Nat} {was : Bs} (hd : D.down = false) (hn : nget D.names bN = ob) (hf : ∀ v, ob = some v → D.file v = ⟨was, was.length⟩) : readE D bN = oldE ob ∧ readV D bN = oldV ob was := by
  cases ob with
  | none =>
    have hr : readE D bN = 7 := by
      unfold readE thereE
      rw [hd, b_named, hn]; rfl
    refine ⟨hr, ?_⟩
    unfold readV
    rw [if_neg (by rw [hr]; decide)]; rfl
  | some v =>
    have hr : readE D bN = 0 := by
      unfold readE thereE
      rw [hd, b_named, hn]; rfl
    refine ⟨hr, ?_⟩
    unfold readV
    rw [if_pos hr]
    unfold fileN
    rw [hn]
    show (D.file v).data = was
    rw [hf v rfl]
theorem Old.read (h : Old ob was D) (picks : List Int) : readE (crashD D picks) bN = oldE ob ∧ readV (crashD D picks) bN = oldV ob was := by
  refine read_of rfl ?_ fun v hv => exact_crash (h.file v hv).2 picks
  show nget (crashN D picks) bN = ob
  unfold crashN
  rw [nget_all (fun s hs => h.steps s (List.mem_of_mem_take hs)), h.safe]
theorem Old.same {D' : DS} (h : Old ob was D) (h1 : D'.safe = D.safe) (h2 : D'.steps = D.steps) (h3 : D'.all = D.all) : Old ob was D' :=
  ⟨by rw [h1]; exact h.safe, by rw [h2]; exact h.steps, by unfold DS.file; rw [h3]; exact h.file⟩
theorem Old.fall (h : Old ob was D) : Old ob was (fallD D) := h.same rfl rfl rfl
theorem Old.goesD (h : Old ob was D) (x : Int) : Old ob was (goesD D x) := by
  unfold Go.Proofs.YtdiaejphgcoknaaDoor.goesD
  split
  · exact h
  · split
    · exact h
    · exact h.fall
theorem Old.setFile (h : Old ob was D) (j : Nat) (f : DF) (hj : ∀ v, ob = some v → v ≠ j) : Old ob was { D with all := setF D.all j f } := by
  refine ⟨h.safe, h.steps, fun v hv => ?_⟩
  rw [file_setF]
  refine ⟨by show v < (setF D.all j f).length; rw [length_setF]; exact (h.file v hv).1, ?_⟩
  rw [if_neg (fun e => hj v hv e.1.symm)]; exact (h.file v hv).2
theorem Old.does (h : Old ob was D) {s : Stp} (hs : Shuns bN s) : Old ob was (doesD D s) := by
  refine ⟨h.safe, fun t ht => ?_, h.file⟩
  rcases List.mem_append.1 (show t ∈ D.steps ++ [s] from ht) with ht | ht
  · exact h.steps t ht
  · simp at ht; rw [ht]; exact hs
theorem Old.made (h : Old ob was D) : Old ob was { D with all := D.all ++ [DF.nought] } := by
  refine ⟨h.safe, h.steps, fun v hv => ?_⟩
  obtain ⟨h1, h2⟩ := h.file v hv
  refine ⟨by show v < (D.all ++ [DF.nought]).length; rw [List.length_append]; omega, ?_⟩
  show (D.all ++ [DF.nought]).getD v DF.nought = _
  rw [getD_appL h1]; exact h2
theorem Old.names (h : Old ob was D) (hI : Inv D T) : nget D.names bN = ob := by
  rw [hI.ends, nget_all h.steps, h.safe]
/-- Behind the first crash. -/
theorem old_first (hI : Inv D T) (picks : List Int) : ∃ ob, Old ob (readV (crashD D picks) bN) (crashD D picks) ∧ readE (crashD D picks) bN = oldE ob ∧ readV (crashD D picks) bN = oldV ob (readV (crashD D picks) bN) := by
  have hx : ∀ v, nget (crashD D picks).names bN = some v → (crashD D picks).file v = ⟨((crashD D picks).file v).data, ((crashD D picks).file v).data.length⟩ := fun v hv => by
    have := cutTo_keeps (picks := picks) (n := v) (r := leftS D) (l := D.all) (i := 1) (.inr (crashN_left hI picks hv))
    have h2 : ((crashD D picks).file v).safe = ((crashD D picks).file v).data.length := this
    generalize (crashD D picks).file v = f at *
    obtain ⟨a, b⟩ := f
    simp only at h2
    rw [h2]
  cases hn : nget (crashD D picks).names bN with
  | none =>
    obtain ⟨h1, h2⟩ := read_of (D := crashD D picks) (ob := none) (was := readV (crashD D picks) bN) rfl hn (fun v hv => by cases hv)
    exact ⟨none, ⟨hn, fun s hs => by simp [crashD] at hs, fun v hv => by cases hv⟩, h1, h2⟩
  | some v =>
    have h3 := hx v hn
    obtain ⟨h1, h2⟩ := read_of (D := crashD D picks) (ob := some v) (was := ((crashD D picks).file v).data) rfl hn (fun v' hv => by obtain rfl := Option.some.inj hv; exact h3)
    have h4 : readV (crashD D picks) bN = ((crashD D picks).file v).data := h2
    refine ⟨some v, ⟨hn, fun s hs => by simp [crashD] at hs, fun v' hv => ?_⟩, h1, rfl⟩
    obtain rfl := Option.some.inj hv
    rw [h4]
    have hl : v < (cutTo picks (leftS D) D.all 1).length := by rw [length_cutTo]; exact crashN_lt hI picks _ (mem_nget hn)
    exact ⟨hl, h3⟩
theorem calm {D : DS} (h : D.down = false) (ha : D.armed = 0) : downF D = false ∧ armedF D = 0 := by
  unfold downF armedF
  rw [ha]
  exact ⟨h, rfl⟩
/-- Ahead of it all. -/
theorem old_ready (h : Old ob was D) (hI : Inv D T) (hd : D.down = false) (ha : D.armed = 0) :
    Old ob was (sdirD (remD D nw)) ∧ (sdirD (remD D nw)).steps = [] := by
  obtain ⟨c1, c2⟩ := calm hd ha
  have hI1 := hI.remD nw
  have h1 : Old ob was (remD D nw) ∧ (remD D nw).down = false ∧ (remD D nw).armed = 0 := by
    unfold remD
    split
    · exact ⟨h.fall.does (s := ⟨2, nw, [], 0⟩) ⟨nw_b, fun e => (by cases e)⟩, c1, c2⟩
    · refine ⟨h.goesD _, ?_⟩
      rcases goesD_of (D := D) (x := thereE D nw) with ⟨e, _⟩ | ⟨_, e, _⟩
      · rw [e]; exact ⟨hd, ha⟩
      · rw [e]; exact ⟨c1, c2⟩
  obtain ⟨h2, h3, h4⟩ := h1
  obtain ⟨d1, d2⟩ := calm h3 h4
  have hg : sdirE (remD D nw) = 0 := by unfold sdirE goesE; rw [h3, d1]; rfl
  have e : sdirD (remD D nw) = { fallD (remD D nw) with safe := (remD D nw).names, steps := [] } := by unfold sdirD; rw [if_pos hg]
  rw [e]
  exact ⟨⟨h2.names hI1, fun s hs => by simp at hs, h2.file⟩, rfl⟩
theorem Old.arm (h : Old ob was D) (n : Int) (hs : D.steps = []) : Old ob was (armD D n) ∧ (armD D n).steps = [] := by
  unfold armD
  split
  · exact ⟨h, hs⟩
  · exact ⟨h.same rfl rfl rfl, hs⟩
/-- The new file is there, its step is written down. -/
structure New (ob : Option Nat) (nv : Nat) (f : DF) (D : DS) : Prop where
  name : nget D.names nw = some nv
  steps : D.steps = [⟨0, nw, [], nv⟩]
  ne : ∀ v, ob = some v → v ≠ nv
  lt : nv < D.all.length
  file : D.file nv = f
theorem old_create (h : Old ob was D) (hs : D.steps = []) : Old ob was (createD D nw) ∧ (goesE D (createE D nw) = 0 → ∃ nv, New ob nv DF.nought (createD D nw)) := by
  unfold createD
  split
  · rename_i hg
    obtain ⟨-, -, -, hd⟩ := goesE_zero hg
    rw [hd]
    refine ⟨h.fall.made.does (s := ⟨0, nw, [], D.all.length⟩) ⟨nw_b, fun e => (by cases e)⟩, fun _ => ⟨D.all.length, ?_, ?_, ?_, ?_, ?_⟩⟩
    · show nget (actN D.names ⟨0, nw, [], D.all.length⟩) nw = _
      unfold actN
      exact nget_nput_same _ _ _
    · show D.steps ++ [_] = _
      rw [hs]; rfl
    · intro v hv; have := (h.file v hv).1; omega
    · show D.all.length < (D.all ++ [DF.nought]).length; rw [List.length_append, List.length_singleton]; omega
    · show (D.all ++ [DF.nought]).getD D.all.length DF.nought = _
      exact getD_appE
  · rename_i hg
    exact ⟨h.goesD _, fun h0 => absurd h0 hg⟩
theorem New.fileN {nv : Nat} {f : DF} (h : New ob nv f D) : fileN D.names nw = nv := by unfold Go.Proofs.YtdiaejphgcoknaaDoor.fileN; rw [h.name]; rfl
theorem New.fall {nv : Nat} {f : DF} (h : New ob nv f D) : New ob nv f (fallD D) := ⟨h.name, h.steps, h.ne, h.lt, h.file⟩
theorem New.setFile {nv : Nat} {f f' : DF} (h : New ob nv f D) : New ob nv f' { D with all := setF D.all nv f' } := by
  refine ⟨h.name, h.steps, h.ne, by show nv < (setF D.all nv f').length; rw [length_setF]; exact h.lt, ?_⟩
  rw [file_setF, if_pos ⟨rfl, h.lt⟩]
theorem old_append {nv : Nat} (h : Old ob was D) (hn : New ob nv DF.nought D) (b : Bs) : Old ob was (appD D nw b) ∧ (appE D nw b = 0 → New ob nv ⟨b, 0⟩ (appD D nw b)) := by
  unfold appD appE
  split
  · rename_i h0
    exact ⟨h, fun h1 => absurd h1 h0⟩
  · rename_i h0
    rw [hn.fileN]
    refine ⟨h.fall.setFile _ _ hn.ne, fun h1 => ?_⟩
    have hdn : downF D = false := by
      cases hd : downF D with
      | false => rfl
      | true => rw [hd] at h1; simp at h1
    have e : appF D nw b = ⟨b, 0⟩ := by
      unfold appF
      rw [hn.fileN, hn.file, hdn]; rfl
    rw [e]
    exact hn.fall.setFile
theorem old_sync {nv : Nat} {b : Bs} (h : Old ob was D) (hn : New ob nv ⟨b, 0⟩ D) : Old ob was (syncD D nw) ∧ (syncE D nw = 0 → New ob nv ⟨b, b.length⟩ (syncD D nw)) := by
  unfold syncD
  split
  · rw [hn.fileN]
    have e : syncF D nw = ⟨b, b.length⟩ := by unfold syncF; rw [hn.fileN, hn.file]
    rw [e]
    exact ⟨h.fall.setFile _ _ hn.ne, fun _ => hn.fall.setFile⟩
  · rename_i h0
    exact ⟨h.goesD _, fun h1 => absurd h1 h0⟩
theorem old_rename (h : Old ob was D) (h0 : renE D nw bN ≠ 0) : Old ob was (renD D nw bN) := by
  unfold renD
  rw [if_neg h0]
  exact h.goesD _
/-- Renamed, whatever becomes of the directory: all or nothing. -/
def Either (ob : Option Nat) (was b : Bs) (D : DS) (picks : List Int) : Prop :=
  (readE (crashD D picks) bN = 0 ∧ readV (crashD D picks) bN = b) ∨ (readE (crashD D picks) bN = oldE ob ∧ readV (crashD D picks) bN = oldV ob was)
theorem renamed {nv : Nat} {b : Bs} (h : Old ob was D) (hn : New ob nv ⟨b, b.length⟩ D) (h0 : renE D nw bN = 0) (picks : List Int) :
    Either ob was b (sdirD (renD D nw bN)) picks ∧ (sdirE (renD D nw bN) = 0 → readE (crashD (sdirD (renD D nw bN)) picks) bN = 0 ∧ readV (crashD (sdirD (renD D nw bN)) picks) bN = b) := by
  have e : renD D nw bN = doesD (fallD D) ⟨1, nw, bN, 0⟩ := by unfold renD; rw [if_pos h0]
  have hnm : nget (renD D nw bN).names bN = some nv := by
    rw [e]
    show nget (actN D.names ⟨1, nw, bN, 0⟩) bN = _
    unfold actN
    rw [if_neg (by decide), if_pos rfl, nget_nput_same, hn.fileN]
  have hst : (renD D nw bN).steps = [⟨0, nw, [], nv⟩, ⟨1, nw, bN, 0⟩] := by
    rw [e]
    show D.steps ++ [_] = _
    rw [hn.steps]; rfl
  have hsf : (renD D nw bN).safe = D.safe := by rw [e]; rfl
  have hal : (renD D nw bN).all = D.all := by rw [e]; rfl
  have hfile : ∀ j, (renD D nw bN).file j = D.file j := fun j => by unfold DS.file; rw [hal]
  have read_new : ∀ D' : DS, D'.all = D.all → nget (crashN D' picks) bN = some nv → readE (crashD D' picks) bN = 0 ∧ readV (crashD D' picks) bN = b := fun D' ha hg => by
    have := read_of (D := crashD D' picks) (ob := some nv) (was := b) rfl hg (fun v hv => by
      obtain rfl := Option.some.inj hv
      exact exact_crash (by unfold DS.file; rw [ha]; exact hn.file) picks)
    exact this
  by_cases hx : sdirE (renD D nw bN) = 0
  · have e2 : sdirD (renD D nw bN) = { fallD (renD D nw bN) with safe := (renD D nw bN).names, steps := [] } := by unfold sdirD; rw [if_pos hx]
    have hg : nget (crashN (sdirD (renD D nw bN)) picks) bN = some nv := by
      unfold crashN
      rw [e2]
      show nget ((([] : List Stp).take _).foldl actN (renD D nw bN).names) bN = _
      rw [List.take_nil]; exact hnm
    have := read_new (sdirD (renD D nw bN)) (by rw [e2]; exact hal) hg
    exact ⟨.inl this, fun _ => this⟩
  · refine ⟨?_, fun h1 => absurd h1 hx⟩
    have e2 : sdirD (renD D nw bN) = goesD (renD D nw bN) 0 := by unfold sdirD; rw [if_neg hx]
    have ha2 : (sdirD (renD D nw bN)).all = D.all ∧ (sdirD (renD D nw bN)).safe = D.safe ∧ (sdirD (renD D nw bN)).steps = [⟨0, nw, [], nv⟩, ⟨1, nw, bN, 0⟩] := by
      rw [e2]
      unfold goesD
      split
      · exact ⟨hal, hsf, hst⟩
      · split
        · exact ⟨hal, hsf, hst⟩
        · exact ⟨hal, hsf, hst⟩
    obtain ⟨a1, a2, a3⟩ := ha2
    generalize sdirD (renD D nw bN) = D' at *
    have hk : pickV picks 0 D'.steps.length ≤ 2 := by
      have := pickV_le2 picks 0 D'.steps.length
      rw [a3] at this ⊢
      exact this
    have hnm2 : crashN D' picks = ((([⟨0, nw, [], nv⟩, ⟨1, nw, bN, 0⟩] : List Stp)).take (pickV picks 0 D'.steps.length)).foldl actN D.safe := by
      unfold crashN; rw [a2, a3]
    generalize pickV picks 0 D'.steps.length = k at *
    have s1 : Shuns bN ⟨0, nw, [], nv⟩ := ⟨nw_b, fun e => (by cases e)⟩
    have old : nget (crashN D' picks) bN = ob → Either ob was b D' picks := fun hg =>
      .inr (read_of (D := crashD D' picks) (ob := ob) (was := was) rfl hg (fun v hv => exact_crash (by unfold DS.file; rw [a1]; exact (h.file v hv).2) picks))
    have hk3 : k = 0 ∨ k = 1 ∨ k = 2 := by omega
    rcases hk3 with rfl | rfl | rfl
    · exact old (by rw [hnm2]; exact h.safe)
    · refine old ?_
      rw [hnm2]
      show nget (actN D.safe ⟨0, nw, [], nv⟩) bN = ob
      rw [nget_shuns s1]; exact h.safe
    · refine .inl (read_new D' a1 ?_)
      rw [hnm2]
      show nget (actN (actN D.safe ⟨0, nw, [], nv⟩) ⟨1, nw, bN, 0⟩) bN = _
      have e3 : actN D.safe ⟨0, nw, [], nv⟩ = nput D.safe nw nv := rfl
      have e4 : actN (nput D.safe nw nv) ⟨1, nw, bN, 0⟩ = nput (ndel (nput D.safe nw nv) nw) bN (fileN (nput D.safe nw nv) nw) := rfl
      rw [e3, e4, nget_nput_same]
      unfold fileN
      rw [nget_nput_same]; rfl
end
end Go.Proofs.YtdiaejphgcoknaaDoor
