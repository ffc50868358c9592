/- The plain law behind DiskKept. -/
import Derived.Test.YtdiaejphgcoknaaDoorDiskAc
set_option linter.unusedSimpArgs false
set_option linter.unusedVariables false
namespace Go.Proofs.YtdiaejphgcoknaaDoor
open Go.RowKit

theorem file_setF (D : DS) (j i : Nat) (f : DF) : ({ D with all := setF D.all j f } : DS).file i = if j = i ∧ i < D.all.length then f else D.file i := getD_setF D.all j i f
/-- The file's first bytes are 'was', safely. -/
structure KeptF (was : Bs) (f : DF) : Prop where
  le : was.length ≤ f.safe
  sl : f.safe ≤ f.data.length
  eq : f.data.take was.length = was
theorem KeptF.app {was : Bs} {f : DF} (h : KeptF was f) (x : Bs) : KeptF was ⟨f.data ++ x, f.safe⟩ := by
  have h1 := h.le; have h2 := h.sl
  refine ⟨h1, by simp only [List.length_append]; omega, ?_⟩
  show (f.data ++ x).take was.length = was
  rw [List.take_append_of_le_length (by omega)]; exact h.eq
theorem KeptF.sync {was : Bs} {f : DF} (h : KeptF was f) : KeptF was ⟨f.data, f.data.length⟩ := ⟨Nat.le_trans h.le h.sl, Nat.le_refl _, h.eq⟩
theorem KeptF.cut {was : Bs} {f : DF} (h : KeptF was f) (picks : List Int) (i : Nat) : KeptF was (cutF picks i f) := by
  have h1 := h.le; have h2 := h.sl
  unfold cutF
  split
  · refine ⟨?_, Nat.le_refl _, ?_⟩
    · show was.length ≤ (f.data.take _).length
      rw [List.length_take]; omega
    · show (f.data.take _).take was.length = was
      rw [List.take_take, Nat.min_eq_left (by omega)]; exact h.eq
  · exact ⟨Nat.le_trans h1 h2, Nat.le_refl _, h.eq⟩
/-- The step leaves the name alone. -/
def Shuns (name : Bs) (s : Stp) : Prop := s.name ≠ name ∧ (s.kind = 1 → s.to ≠ name)
theorem nget_shuns {name : Bs} {s : Stp} (h : Shuns name s) (m : NM) : nget (actN m s) name = nget m name := by
  obtain ⟨h1, h2⟩ := h
  unfold actN
  split
  · exact nget_nput_other _ _ (Ne.symm h1)
  · split
    · rename_i h3
      rw [nget_nput_other _ _ (Ne.symm (h2 h3)), nget_ndel_other _ (Ne.symm h1)]
    · exact nget_ndel_other _ (Ne.symm h1)
theorem nget_all {name : Bs} : ∀ {l : List Stp}, (∀ s ∈ l, Shuns name s) → ∀ m : NM, nget (l.foldl actN m) name = nget m name
  | [], _, m => rfl
  | s :: r, h, m => by
    rw [List.foldl_cons, nget_all (l := r) (fun t ht => h t (by simp [ht])), nget_shuns (h s (by simp))]
structure Kept (name was : Bs) (v : Nat) (D : DS) : Prop where
  safe : nget D.safe name = some v
  steps : ∀ s ∈ D.steps, Shuns name s
  lt : v < D.all.length
  file : KeptF was (D.file v)
section
variable {name was : Bs} {v T : Nat} {D : DS}
theorem Kept.same {D' : DS} (h : Kept name was v D) (h1 : D'.safe = D.safe) (h2 : D'.steps = D.steps) (h3 : D'.all = D.all) : Kept name was v D' :=
  ⟨by rw [h1]; exact h.safe, by rw [h2]; exact h.steps, by rw [h3]; exact h.lt, by unfold DS.file; rw [h3]; exact h.file⟩
theorem Kept.goesD (h : Kept name was v D) (x : Int) : Kept name was v (goesD D x) := by
  unfold Go.Proofs.YtdiaejphgcoknaaDoor.goesD
  split
  · exact h
  · split
    · exact h
    · exact h.same rfl rfl rfl
theorem Kept.fall (h : Kept name was v D) : Kept name was v (fallD D) := h.same rfl rfl rfl
theorem Kept.setFile (h : Kept name was v D) (j : Nat) (f : DF) (hf : KeptF was (D.file j) → KeptF was f) : Kept name was v { D with all := setF D.all j f } := by
  refine ⟨h.safe, h.steps, by show v < (setF D.all j f).length; rw [length_setF]; exact h.lt, ?_⟩
  rw [file_setF]
  split
  · rename_i e
    exact hf (by rw [e.1]; exact h.file)
  · exact h.file
theorem Kept.does (h : Kept name was v D) {s : Stp} (hs : Shuns name s) : Kept name was v (doesD D s) := by
  refine ⟨h.safe, fun t ht => ?_, h.lt, h.file⟩
  rcases List.mem_append.1 (show t ∈ D.steps ++ [s] from ht) with ht | ht
  · exact h.steps t ht
  · simp at ht; rw [ht]; exact hs
theorem Kept.made (h : Kept name was v D) : Kept name was v { D with all := D.all ++ [DF.nought] } := by
  refine ⟨h.safe, h.steps, by show v < (D.all ++ [DF.nought]).length; rw [List.length_append]; have := h.lt; omega, ?_⟩
  show KeptF was ((D.all ++ [DF.nought]).getD v DF.nought)
  rw [getD_appL h.lt]; exact h.file
theorem Kept.names (h : Kept name was v D) (hI : Inv D T) : nget D.names name = some v := by
  rw [hI.ends, nget_all h.steps, h.safe]
theorem Kept.sdir (h : Kept name was v D) (hI : Inv D T) : Kept name was v { fallD D with safe := D.names, steps := [] } :=
  ⟨h.names hI, fun s hs => by simp at hs, h.lt, h.file⟩
theorem keptF_cutTo {picks : List Int} : ∀ {r : List Nat} {l : List DF} {i : Nat}, v < l.length → KeptF was (l.getD v DF.nought) → KeptF was ((cutTo picks r l i).getD v DF.nought)
  | [], l, i, _, h => h
  | m :: r, l, i, hl, h => by
    unfold cutTo
    refine keptF_cutTo (r := r) (by rw [length_setF]; exact hl) ?_
    rw [getD_setF]
    split
    · rename_i e
      rw [e.1]; exact h.cut picks i
    · exact h
theorem Kept.crash (h : Kept name was v D) (picks : List Int) : Kept name was v (crashD D picks) := by
  refine ⟨?_, fun s hs => by simp [crashD] at hs, by show v < (cutTo picks (leftS D) D.all 1).length; rw [length_cutTo]; exact h.lt, ?_⟩
  · show nget (crashN D picks) name = some v
    unfold crashN
    rw [nget_all (fun s hs => h.steps s (List.mem_of_mem_take hs)), h.safe]
  · exact keptF_cutTo h.lt h.file
/-- An operation that is not told to take the name. -/
def OpShuns (name : Bs) (o : OpP) : Prop := (o.name = name → o.kind = 1) ∧ (o.kind = 3 → o.to ≠ name)
theorem Kept.act (h : Kept name was v D) (hI : Inv D T) {o : OpP} (ho : OpShuns name o) : Kept name was v (actD D o) := by
  obtain ⟨h1, h2⟩ := ho
  unfold actD
  split
  · rename_i hk
    have hn : o.name ≠ name := fun e => by have := h1 e; omega
    unfold createD
    split
    · rename_i hg
      obtain ⟨-, -, -, hd⟩ := goesE_zero hg
      rw [hd]
      exact h.fall.made.does (s := ⟨0, o.name, [], D.all.length⟩) ⟨hn, fun e => (by cases e)⟩
    · exact h.goesD _
  split
  · unfold appD
    split
    · exact h
    · exact h.fall.setFile _ _ fun hf => hf.app _
  split
  · unfold syncD
    split
    · exact h.fall.setFile _ _ fun hf => hf.sync
    · exact h.goesD _
  split
  · rename_i hk _ _
    have hn : o.name ≠ name := fun e => by have := h1 e; omega
    unfold renD
    split
    · exact h.fall.does (s := ⟨1, o.name, o.to, 0⟩) ⟨hn, fun _ => h2 (by assumption)⟩
    · exact h.goesD _
  split
  · have hn : o.name ≠ name := fun e => by have := h1 e; omega
    unfold remD
    split
    · exact h.fall.does (s := ⟨2, o.name, [], 0⟩) ⟨hn, fun e => (by cases e)⟩
    · exact h.goesD _
  split
  · unfold sdirD
    split
    · exact h.sdir hI
    · exact h.goesD _
  split
  · unfold armD
    split
    · exact h
    · exact h.same rfl rfl rfl
  split
  · exact h.crash _
  exact h
/-- Behind a Sync and a SyncDir that went well. -/
theorem kept_synced (hI : Inv D T) (h1 : syncE D name = 0) (h2 : sdirE (syncD D name) = 0) :
    namedB name = true ∧ readE (sdirD (syncD D name)) name = 0 ∧ Kept name (readV (sdirD (syncD D name)) name) (fileN D.names name) (sdirD (syncD D name)) := by
  obtain ⟨a1, a2, a3, a4⟩ := goesE_zero h1
  obtain ⟨b1, b2, b3, b4⟩ := goesE_zero h2
  obtain ⟨hn, hg⟩ := thereE_zero a2
  have hlt := hI.fileN_lt a2
  have e1 : syncD D name = { fallD D with all := setF D.all (fileN D.names name) (syncF D name) } := by unfold syncD; rw [if_pos h1]
  have e2 : sdirD (syncD D name) = { fallD (syncD D name) with safe := D.names, steps := [] } := by
    unfold sdirD; rw [if_pos h2, e1]; rfl
  have hnm : (sdirD (syncD D name)).names = D.names := by rw [e2, e1]; rfl
  have hal : (sdirD (syncD D name)).all = setF D.all (fileN D.names name) (syncF D name) := by rw [e2, e1]; rfl
  have hdn : (sdirD (syncD D name)).down = false := by rw [e2]; exact b3
  have hr : readE (sdirD (syncD D name)) name = 0 := by
    unfold readE
    rw [hdn]
    show thereE _ name = 0
    unfold thereE
    rw [hnm, hn, hg]; rfl
  have hf : (sdirD (syncD D name)).file (fileN D.names name) = syncF D name := by
    unfold DS.file; rw [hal, getD_setF, if_pos ⟨rfl, hlt⟩]
  have hv : readV (sdirD (syncD D name)) name = (D.file (fileN D.names name)).data := by
    unfold readV; rw [if_pos hr, hnm, hf]; rfl
  refine ⟨hn, hr, ?_, ?_, ?_, ?_⟩
  · rw [e2]; exact hg
  · rw [e2]; intro s hs; simp at hs
  · rw [hal, length_setF]; exact hlt
  · rw [hf, hv]
    exact ⟨Nat.le_refl _, Nat.le_refl _, List.take_length⟩
/-- What is read behind a crash. -/
theorem kept_read (h : Kept name was v D) (hI : Inv D T) (hn : namedB name = true) (picks : List Int) : readE (crashD D picks) name = 0 ∧ was.length ≤ (readV (crashD D picks) name).length ∧ (readV (crashD D picks) name).take was.length = was := by
  have hc := h.crash picks
  have hg := hc.names (hI.crashD picks)
  have hr : readE (crashD D picks) name = 0 := by
    show (if false = true then 10 else thereE (crashD D picks) name) = (0 : Int)
    rw [if_neg (by simp)]
    unfold thereE
    rw [hn, hg]; rfl
  have hv : readV (crashD D picks) name = ((crashD D picks).file v).data := by
    unfold readV; rw [if_pos hr]; unfold fileN; rw [hg]; rfl
  rw [hv]
  exact ⟨hr, Nat.le_trans hc.file.le hc.file.sl, hc.file.eq⟩
end
end Go.Proofs.YtdiaejphgcoknaaDoor
