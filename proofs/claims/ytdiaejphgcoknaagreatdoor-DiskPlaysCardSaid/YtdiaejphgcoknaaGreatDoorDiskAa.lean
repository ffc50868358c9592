/- A disk's operations, plain: one function for all of them; what always holds is kept. -/
import Derived.Test.YtdiaejphgcoknaaGreatDoorDiskY
set_option linter.unusedSimpArgs false
set_option linter.unusedVariables false
namespace Go.Proofs.YtdiaejphgcoknaaGreatDoor
open Go.RowKit

structure OpP where
  kind : Int
  n : Int
  name : Bs
  to : Bs
  b : Bs
  picks : List Int
def OpP.nought : OpP := ⟨0, 0, [], [], [], []⟩
/-- What an operation answers, and what it leaves. -/
def actE (D : DS) (o : OpP) : Int :=
  if o.kind = 0 then goesE D (createE D o.name) else if o.kind = 1 then appE D o.name o.b else if o.kind = 2 then syncE D o.name else if o.kind = 3 then renE D o.name o.to
  else if o.kind = 4 then remE D o.name else if o.kind = 5 then sdirE D else 0
def actD (D : DS) (o : OpP) : DS :=
  if o.kind = 0 then createD D o.name else if o.kind = 1 then appD D o.name o.b else if o.kind = 2 then syncD D o.name else if o.kind = 3 then renD D o.name o.to
  else if o.kind = 4 then remD D o.name else if o.kind = 5 then sdirD D else if o.kind = 7 then armD D o.n else if o.kind = 8 then crashD D o.picks else D
def actsD (D : DS) (l : List OpP) : DS := l.foldl actD D

theorem Inv.mono {D : DS} {T T' : Nat} (h : Inv D T) (hT : T ≤ T') : Inv D T' :=
  ⟨h.room, ⟨h.done.1, by have := h.done.2; omega⟩, h.armed, by have := h.nam; omega, by have := h.stp; omega, by have := h.cnt; omega, h.runs, h.ends, h.data⟩
theorem armedF_in {D : DS} (h : 0 ≤ D.armed ∧ D.armed ≤ 9223372036854775807) : 0 ≤ armedF D ∧ armedF D ≤ 9223372036854775807 := by
  unfold armedF; split <;> omega
theorem Inv.fall {D : DS} {T : Nat} (h : Inv D T) : Inv (fallD D) (T + 1) :=
  ⟨h.room, by have := h.done; show 0 ≤ D.done + 1 ∧ D.done + 1 ≤ _; omega, armedF_in h.armed, by have := h.nam; show D.names.length ≤ _; omega, by have := h.stp; show D.safe.length + D.steps.length ≤ _; omega, by have := h.cnt; show D.all.length ≤ _; omega, h.runs, h.ends, h.data⟩
theorem Inv.goesD {D : DS} {T : Nat} (h : Inv D T) (x : Int) : Inv (goesD D x) (T + 1) := by
  unfold Go.Proofs.YtdiaejphgcoknaaGreatDoor.goesD
  split
  · exact h.mono (by omega)
  · split
    · exact h.mono (by omega)
    · exact h.fall
theorem Runs.mono {N N' : Nat} (hN : N ≤ N') : ∀ {l : List Stp} {m : NM}, Runs N m l → Runs N' m l
  | [], _, h => fun q hq => Nat.lt_of_lt_of_le (h q hq) hN
  | s :: r, m, h => by
    obtain ⟨h1, h2, h3, h4, h5, h6, h7, h8⟩ := h
    exact ⟨fun q hq => Nat.lt_of_lt_of_le (h1 q hq) hN, h2, h3, h4, by omega, fun e => Nat.lt_of_lt_of_le (h6 e) hN, h7, Runs.mono hN h8⟩
structure Fits (N : Nat) (m : NM) (s : Stp) : Prop where
  kind : s.kind ≤ 2
  name : s.name.length ≤ 24
  to : s.to.length ≤ 24
  file : s.file ≤ N
  made : s.kind = 0 → s.file < N
  ren : s.kind = 1 → (nget m s.name).isSome = true
theorem actN_lt {N : Nat} {m : NM} {s : Stp} (hm : ∀ q ∈ m, q.2 < N) (h : Fits N m s) : ∀ q ∈ actN m s, q.2 < N := by
  intro q hq
  unfold actN at hq
  split at hq
  · rename_i h0
    rcases mem_nput hq with rfl | hq
    · exact h.made h0
    · exact hm q hq
  · split at hq
    · rename_i h1
      rcases mem_nput hq with rfl | hq
      · obtain ⟨v, hv⟩ := Option.isSome_iff_exists.1 (h.ren h1)
        show fileN m s.name < N
        unfold fileN
        rw [hv]
        exact hm _ (mem_nget hv)
      · exact hm q (mem_ndel hq)
    · exact hm q (mem_ndel hq)
theorem Runs.snoc {N : Nat} {s : Stp} : ∀ {l : List Stp} {m : NM}, Runs N m l → Fits N (l.foldl actN m) s → Runs N m (l ++ [s])
  | [], m, h, hs => ⟨h, hs.kind, hs.name, hs.to, hs.file, hs.made, hs.ren, actN_lt h hs⟩
  | t :: r, m, h, hs => by
    obtain ⟨h1, h2, h3, h4, h5, h6, h7, h8⟩ := h
    exact ⟨h1, h2, h3, h4, h5, h6, h7, Runs.snoc h8 hs⟩
theorem Inv.doesD {D : DS} {T : Nat} (h : Inv D T) {s : Stp} (hs : Fits D.all.length D.names s) : Inv (doesD D s) (T + 1) := by
  refine ⟨h.room, ⟨h.done.1, by have := h.done.2; show D.done ≤ _; omega⟩, h.armed, ?_, ?_, by have := h.cnt; show D.all.length ≤ _; omega, ?_, ?_, h.data⟩
  · have := length_actN D.names s; have := h.nam; show (actN D.names s).length ≤ _; omega
  · have := h.stp; show D.safe.length + (D.steps ++ [s]).length ≤ _; rw [List.length_append, List.length_singleton]; omega
  · exact h.runs.snoc (by rw [← h.ends]; exact hs)
  · show actN D.names s = (D.steps ++ [s]).foldl actN D.safe
    rw [List.foldl_append, ← h.ends]; rfl
theorem Inv.setFile {D : DS} {T : Nat} (h : Inv D T) (j : Nat) {f : DF} (hf : f.safe ≤ f.data.length ∧ f.data.length ≤ 16777216) : Inv { D with all := setF D.all j f } T := by
  refine ⟨h.room, h.done, h.armed, h.nam, h.stp, by show (setF D.all j f).length ≤ _; rw [length_setF]; exact h.cnt, by show Runs (setF D.all j f).length D.safe D.steps; rw [length_setF]; exact h.runs, h.ends, ?_⟩
  intro i hi
  have hi' : i < D.all.length := by rw [← length_setF D.all j f]; exact hi
  show ((setF D.all j f).getD i DF.nought).safe ≤ ((setF D.all j f).getD i DF.nought).data.length ∧ _
  show _ ∧ ((setF D.all j f).getD i DF.nought).data.length ≤ _
  rw [getD_setF]
  split
  · exact hf
  · exact h.data i hi'
theorem Inv.file {D : DS} {T : Nat} (h : Inv D T) (j : Nat) : (D.file j).safe ≤ (D.file j).data.length ∧ (D.file j).data.length ≤ 16777216 := by
  by_cases hj : j < D.all.length
  · exact h.data j hj
  · unfold DS.file
    rw [List.getD_eq_getElem?_getD, List.getElem?_eq_none (by omega)]
    simp [DF.nought]
theorem namedB_len {s : Bs} (h : namedB s = true) : s.length ≤ 24 := by
  unfold namedB at h
  simp only [Bool.and_eq_true, decide_eq_true_eq] at h
  exact h.2
theorem Inv.made {D : DS} {T : Nat} (h : Inv D T) : Inv { D with all := D.all ++ [DF.nought] } (T + 1) := by
  refine ⟨h.room, ⟨h.done.1, by have := h.done.2; show D.done ≤ _; omega⟩, h.armed, by have := h.nam; show D.names.length ≤ _; omega, by have := h.stp; show D.safe.length + D.steps.length ≤ _; omega, ?_, ?_, h.ends, ?_⟩
  · have := h.cnt; show (D.all ++ [DF.nought]).length ≤ _; rw [List.length_append, List.length_singleton]; omega
  · show Runs (D.all ++ [DF.nought]).length D.safe D.steps
    exact h.runs.mono (by rw [List.length_append]; omega)
  · intro j hj
    show ((D.all ++ [DF.nought]).getD j DF.nought).safe ≤ ((D.all ++ [DF.nought]).getD j DF.nought).data.length ∧ ((D.all ++ [DF.nought]).getD j DF.nought).data.length ≤ 16777216
    by_cases h1 : j < D.all.length
    · rw [getD_appL h1]; exact h.data j h1
    · have : (D.all ++ [DF.nought]).length ≤ j + 1 := by rw [List.length_append, List.length_singleton]; omega
      have e : j = D.all.length := by
        have h2 : j < (D.all ++ [DF.nought]).length := hj
        rw [List.length_append, List.length_singleton] at h2; omega
      rw [e, getD_appE]; simp [DF.nought]
theorem createE_zero {D : DS} {n : Bs} (h : createE D n = 0) : namedB n = true ∧ nget D.names n = none ∧ D.names.length < 64 := by
  unfold createE at h
  cases h1 : namedB n with
  | false => rw [h1] at h; simp at h
  | true =>
    rw [h1] at h
    cases h2 : nget D.names n with
    | some v => rw [h2] at h; simp at h
    | none =>
      rw [h2] at h
      refine ⟨rfl, rfl, ?_⟩
      by_cases h3 : 64 ≤ D.names.length
      · simp [h3] at h
      · omega
theorem Inv.createD {D : DS} {T : Nat} (h : Inv D T) (n : Bs) : Inv (createD D n) (T + 3) := by
  unfold Go.Proofs.YtdiaejphgcoknaaGreatDoor.createD
  split
  · rename_i hg
    obtain ⟨-, h0, -, hd⟩ := goesE_zero hg
    rw [hd]
    obtain ⟨h1, -, -⟩ := createE_zero h0
    refine Inv.mono (T := T + 1 + 1 + 1) (Inv.doesD (h.fall.made) ⟨Nat.zero_le _, namedB_len h1, Nat.zero_le _, ?_, fun _ => ?_, fun e => (by cases e)⟩) (by omega)
    · show D.all.length ≤ (D.all ++ [DF.nought]).length; rw [List.length_append]; omega
    · show D.all.length < (D.all ++ [DF.nought]).length; rw [List.length_append, List.length_singleton]; omega
  · exact (h.goesD _).mono (by omega)
theorem mem_sum {f : Bs → Nat} : ∀ {l : List Bs} {x : Bs}, x ∈ l → f x ≤ (l.map f).sum
  | y :: r, x, h => by
    rw [List.map_cons, List.sum_cons]
    rcases List.mem_cons.1 h with rfl | h
    · omega
    · have := mem_sum (f := f) h; omega
theorem mem_keys_of {m : NM} {k : Bs} {v : Nat} (h : nget m k = some v) : k ∈ keysN m := List.mem_map.2 ⟨_, mem_nget h, rfl⟩
theorem appE0_zero {D : DS} {n b : Bs} (h : appE0 D n b = 0) : D.down = false ∧ thereE D n = 0 ∧ ¬ (b ≠ [] ∧ D.room - usedD D < b.length) := by
  unfold appE0 at h
  cases h1 : D.down with
  | true => rw [h1] at h; simp at h
  | false =>
    rw [h1] at h
    by_cases h2 : thereE D n = 0
    · refine ⟨rfl, h2, fun h3 => ?_⟩
      rw [if_neg (by simp), if_neg (by rw [h2]; simp), if_pos h3] at h
      simp at h
    · rw [if_neg (by simp), if_pos h2] at h
      exact absurd h h2
theorem appF_len {D : DS} {T : Nat} (h : Inv D T) {n b : Bs} (h0 : appE0 D n b = 0) : (appF D n b).safe ≤ (appF D n b).data.length ∧ (appF D n b).data.length ≤ 16777216 := by
  obtain ⟨-, ht, hb⟩ := appE0_zero h0
  obtain ⟨-, hn⟩ := thereE_zero ht
  have hf := h.file (fileN D.names n)
  have hs := mem_sum (f := sizeN D) (mem_keys_of hn)
  have hu : (D.file (fileN D.names n)).data.length ≤ usedD D := hs
  have hr := h.room
  have hlen : (if downF D then b.take (b.length / 2) else b).length ≤ b.length := by
    split
    · rw [List.length_take]; omega
    · omega
  unfold appF
  rw [List.length_append]
  refine ⟨by simp only; omega, ?_⟩
  by_cases e : b = []
  · have hl0 : b.length = 0 := by rw [e]; rfl
    omega
  · have : ¬ D.room - usedD D < b.length := fun h2 => hb ⟨e, h2⟩
    omega
theorem Inv.appD {D : DS} {T : Nat} (h : Inv D T) (n b : Bs) : Inv (appD D n b) (T + 3) := by
  unfold Go.Proofs.YtdiaejphgcoknaaGreatDoor.appD
  split
  · exact h.mono (by omega)
  · rename_i h0
    have h0 : appE0 D n b = 0 := by omega
    exact (h.fall.setFile _ (appF_len h h0)).mono (by omega)
theorem Inv.syncD {D : DS} {T : Nat} (h : Inv D T) (n : Bs) : Inv (syncD D n) (T + 3) := by
  unfold Go.Proofs.YtdiaejphgcoknaaGreatDoor.syncD
  split
  · exact (h.fall.setFile (fileN D.names n) (f := syncF D n) ⟨Nat.le_refl _, (h.file (fileN D.names n)).2⟩).mono (by omega)
  · exact (h.goesD _).mono (by omega)
theorem Inv.renD {D : DS} {T : Nat} (h : Inv D T) (a b : Bs) : Inv (renD D a b) (T + 3) := by
  unfold Go.Proofs.YtdiaejphgcoknaaGreatDoor.renD
  split
  · rename_i hg
    obtain ⟨-, h0, -, -⟩ := goesE_zero hg
    unfold renE0 at h0
    cases hb : namedB b with
    | false => rw [hb] at h0; simp at h0
    | true =>
      rw [hb] at h0
      obtain ⟨ha, hn⟩ := thereE_zero (h0 : thereE D a = 0)
      refine Inv.mono (T := T + 1 + 1) (Inv.doesD h.fall ⟨by show 1 ≤ 2; omega, namedB_len ha, namedB_len hb, Nat.zero_le _, fun e => (by cases e), fun _ => ?_⟩) (by omega)
      show (nget D.names a).isSome = true
      rw [hn]; rfl
  · exact (h.goesD _).mono (by omega)
theorem Inv.remD {D : DS} {T : Nat} (h : Inv D T) (n : Bs) : Inv (remD D n) (T + 3) := by
  unfold Go.Proofs.YtdiaejphgcoknaaGreatDoor.remD
  split
  · rename_i hg
    obtain ⟨-, h0, -, -⟩ := goesE_zero hg
    obtain ⟨ha, hn⟩ := thereE_zero h0
    exact Inv.mono (T := T + 1 + 1) (Inv.doesD h.fall ⟨Nat.le_refl 2, namedB_len ha, Nat.zero_le _, Nat.zero_le _, fun e => (by cases e), fun e => (by cases e)⟩) (by omega)
  · exact (h.goesD _).mono (by omega)
theorem Inv.sdirD {D : DS} {T : Nat} (h : Inv D T) : Inv (sdirD D) (T + 3) := by
  unfold Go.Proofs.YtdiaejphgcoknaaGreatDoor.sdirD
  split
  · have := h.fall
    exact Inv.mono (T := T + 1) ⟨this.room, this.done, this.armed, this.nam, this.nam, this.cnt, h.vals, rfl, this.data⟩ (by omega)
  · exact (h.goesD _).mono (by omega)
theorem Inv.armD {D : DS} {T : Nat} (h : Inv D T) (n : Int) (hn : in64 n) : Inv (armD D n) (T + 3) := by
  unfold Go.Proofs.YtdiaejphgcoknaaGreatDoor.armD
  split
  · exact h.mono (by omega)
  · refine Inv.mono (T := T) ⟨h.room, h.done, ?_, h.nam, h.stp, h.cnt, h.runs, h.ends, h.data⟩ (by omega)
    unfold in64 at hn
    show 0 ≤ max n 0 ∧ max n 0 ≤ _
    omega
theorem crashN_lt {D : DS} {T : Nat} (h : Inv D T) (picks : List Int) : ∀ q ∈ crashN D picks, q.2 < D.all.length := by
  unfold crashN
  exact (h.runs.take _).last
theorem Inv.crashD {D : DS} {T : Nat} (h : Inv D T) (picks : List Int) : Inv (crashD D picks) (T + 3) := by
  have hl : (crashN D picks).length ≤ T := by
    unfold crashN
    have := length_acts (D.steps.take (pickV picks 0 D.steps.length)) D.safe
    have := h.stp
    rw [List.length_take] at *
    omega
  refine Inv.mono (T := T) ⟨h.room, ⟨Int.le_refl 0, by show (0 : Int) ≤ _; omega⟩, ⟨Int.le_refl 0, by show (0 : Int) ≤ _; omega⟩, hl, by show (crashN D picks).length + 0 ≤ _; omega, ?_, ?_, rfl, ?_⟩ (by omega)
  · show (cutTo picks (leftS D) D.all 1).length ≤ _; rw [length_cutTo]; exact h.cnt
  · show ∀ q ∈ crashN D picks, q.2 < (cutTo picks (leftS D) D.all 1).length
    rw [length_cutTo]; exact crashN_lt h picks
  · intro j hj
    have hj' : j < D.all.length := by rw [← length_cutTo picks (leftS D) D.all 1]; exact hj
    have := cutK_ok (picks := picks) h (leftS D).length j hj'
    rw [cutK_all] at this
    exact this
theorem Inv.act {D : DS} {T : Nat} (h : Inv D T) (o : OpP) (hn : in64 o.n) : Inv (actD D o) (T + 3) := by
  unfold actD
  split
  · exact h.createD _
  split
  · exact h.appD _ _
  split
  · exact h.syncD _
  split
  · exact h.renD _ _
  split
  · exact h.remD _
  split
  · exact h.sdirD
  split
  · exact h.armD _ hn
  split
  · exact h.crashD _
  exact h.mono (by omega)
theorem Inv.new {room : Int} (h : 0 ≤ room ∧ room ≤ 16777216) : Inv (newD room) 0 :=
  ⟨h, ⟨Int.le_refl 0, Int.le_refl 0⟩, ⟨Int.le_refl 0, by show (0 : Int) ≤ _; omega⟩, Nat.le_refl 0, Nat.le_refl 0, Nat.le_refl 0, fun q hq => by simp [newD] at hq, rfl, fun j hj => by simp [newD] at hj⟩
end Go.Proofs.YtdiaejphgcoknaaGreatDoor
