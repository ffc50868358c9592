/- The plain laws behind DiskRefused and DiskFalls. -/
import Derived.Test.YtdiaejphgcoknaaGreatDoorDiskAa
set_option linter.unusedSimpArgs false
set_option linter.unusedVariables false
namespace Go.Proofs.YtdiaejphgcoknaaGreatDoor
open Go.RowKit

theorem kinds {k : Int} (h : 0 ≤ k ∧ k ≤ 5) : k = 0 ∨ k = 1 ∨ k = 2 ∨ k = 3 ∨ k = 4 ∨ k = 5 := by omega
/-- What a write counts: nothing, or one that falls. -/
structure Counts (D D' : DS) : Prop where
  armed : D'.armed = armedF D
  down : D'.down = downF D
  done : D'.done = D.done + 1
theorem goesD_of {D : DS} {x : Int} : (goesD D x = D ∧ goesE D x ≠ 0) ∨ (D.down = false ∧ goesD D x = fallD D ∧ (goesE D x = 0 ↔ downF D = false)) := by
  unfold goesD goesE
  cases hd : D.down with
  | true => exact .inl (by simp)
  | false =>
    by_cases hx : x = 0
    · subst hx
      refine .inr ⟨rfl, by simp, ?_⟩
      cases downF D <;> simp
    · exact .inl (by simp [hx])
theorem counts_fall (D : DS) : Counts D (fallD D) := ⟨rfl, rfl, rfl⟩
/-- Each of the six writes: refused and nothing is turned, or counted; an error then, if it goes down. -/
theorem act_write (D : DS) (o : OpP) (hk : 0 ≤ o.kind ∧ o.kind ≤ 5) : (actD D o = D ∧ actE D o ≠ 0 ∧ (D.down = true → actE D o = 10)) ∨ (D.down = false ∧ Counts D (actD D o) ∧ (actE D o = 0 ↔ downF D = false)) := by
  have hdn : ∀ x, D.down = true → goesE D x = 10 := fun x h => by unfold goesE; rw [if_pos h]
  rcases kinds hk with h | h | h | h | h | h
  · have e1 : actD D o = createD D o.name := by unfold actD; simp [h]
    have e2 : actE D o = goesE D (createE D o.name) := by unfold actE; simp [h]
    rw [e1, e2]
    unfold createD
    rcases goesD_of (D := D) (x := createE D o.name) with ⟨h1, h2⟩ | ⟨h1, h2, h3⟩
    · rw [if_neg h2, h1]; exact .inl ⟨rfl, h2, hdn _⟩
    · refine .inr ⟨h1, ?_, h3⟩
      rw [h2]
      split <;> exact ⟨rfl, rfl, rfl⟩
  · have e1 : actD D o = appD D o.name o.b := by unfold actD; simp [h]
    have e2 : actE D o = appE D o.name o.b := by unfold actE; simp [h]
    rw [e1, e2]
    unfold appD appE
    by_cases h0 : appE0 D o.name o.b = 0
    · refine .inr ⟨(appE0_zero h0).1, ?_, ?_⟩
      · rw [if_neg (by omega)]; exact ⟨rfl, rfl, rfl⟩
      · rw [if_neg (by omega)]; cases downF D <;> simp
    · refine .inl ⟨by rw [if_pos h0], by rw [if_pos h0]; exact h0, fun hd => ?_⟩
      rw [if_pos h0]; unfold appE0; rw [if_pos hd]
  · have e1 : actD D o = syncD D o.name := by unfold actD; simp [h]
    have e2 : actE D o = goesE D (thereE D o.name) := by unfold actE; simp [h, syncE]
    rw [e1, e2]
    unfold syncD syncE
    rcases goesD_of (D := D) (x := thereE D o.name) with ⟨h1, h2⟩ | ⟨h1, h2, h3⟩
    · rw [if_neg h2, h1]; exact .inl ⟨rfl, h2, hdn _⟩
    · refine .inr ⟨h1, ?_, h3⟩
      split
      · exact ⟨rfl, rfl, rfl⟩
      · rw [h2]; exact ⟨rfl, rfl, rfl⟩
  · have e1 : actD D o = renD D o.name o.to := by unfold actD; simp [h]
    have e2 : actE D o = goesE D (renE0 D o.name o.to) := by unfold actE; simp [h, renE]
    rw [e1, e2]
    unfold renD renE
    rcases goesD_of (D := D) (x := renE0 D o.name o.to) with ⟨h1, h2⟩ | ⟨h1, h2, h3⟩
    · rw [if_neg h2, h1]; exact .inl ⟨rfl, h2, hdn _⟩
    · refine .inr ⟨h1, ?_, h3⟩
      split
      · exact ⟨rfl, rfl, rfl⟩
      · rw [h2]; exact ⟨rfl, rfl, rfl⟩
  · have e1 : actD D o = remD D o.name := by unfold actD; simp [h]
    have e2 : actE D o = goesE D (thereE D o.name) := by unfold actE; simp [h, remE]
    rw [e1, e2]
    unfold remD remE
    rcases goesD_of (D := D) (x := thereE D o.name) with ⟨h1, h2⟩ | ⟨h1, h2, h3⟩
    · rw [if_neg h2, h1]; exact .inl ⟨rfl, h2, hdn _⟩
    · refine .inr ⟨h1, ?_, h3⟩
      split
      · exact ⟨rfl, rfl, rfl⟩
      · rw [h2]; exact ⟨rfl, rfl, rfl⟩
  · have e1 : actD D o = sdirD D := by unfold actD; simp [h]
    have e2 : actE D o = goesE D 0 := by unfold actE; simp [h, sdirE]
    rw [e1, e2]
    unfold sdirD sdirE
    rcases goesD_of (D := D) (x := 0) with ⟨h1, h2⟩ | ⟨h1, h2, h3⟩
    · rw [if_neg h2, h1]; exact .inl ⟨rfl, h2, hdn _⟩
    · refine .inr ⟨h1, ?_, h3⟩
      split
      · exact ⟨rfl, rfl, rfl⟩
      · rw [h2]; exact ⟨rfl, rfl, rfl⟩
theorem act_down {D : DS} {o : OpP} (hd : D.down = true) (hk : 0 ≤ o.kind ∧ o.kind ≤ 5) : actE D o = 10 ∧ actD D o = D := by
  rcases act_write D o hk with ⟨h1, _, h3⟩ | ⟨h1, _⟩
  · exact ⟨h3 hd, h1⟩
  · rw [hd] at h1; cases h1
theorem act_refused {D : DS} {o : OpP} (hk : 0 ≤ o.kind ∧ o.kind ≤ 5) (he : actE D o ≠ 0) (hd : D.down = true ∨ (actD D o).down = false) : actD D o = D := by
  rcases act_write D o hk with ⟨h1, _⟩ | ⟨h1, h2, h3⟩
  · exact h1
  · rcases hd with hd | hd
    · rw [hd] at h1; cases h1
    · exact absurd (h3.2 (by rw [← h2.down]; exact hd)) he
theorem act_done {D : DS} {o : OpP} (hk : 0 ≤ o.kind ∧ o.kind ≤ 5) (he : actE D o = 0) : (actD D o).done = D.done + 1 := by
  rcases act_write D o hk with ⟨_, h1, _⟩ | ⟨_, h2, _⟩
  · exact absurd he h1
  · exact h2.done
/-- Armed at n: up till the n-th write, down from then on. -/
def ArmedAt (D : DS) (n : Int) : Prop := (D.done < n ∧ D.armed = n - D.done ∧ D.down = false) ∨ (D.done = n ∧ D.down = true)
theorem armed_new {room n : Int} (h : 1 ≤ n) : ArmedAt (armD (newD room) n) n := by
  refine .inl ⟨?_, ?_, rfl⟩
  · show (0 : Int) < n; omega
  · show max n 0 = n - 0; omega
theorem armed_act {D : DS} {n : Int} {o : OpP} (h : ArmedAt D n) (hk : 0 ≤ o.kind ∧ o.kind ≤ 5) : ArmedAt (actD D o) n ∧ D.done ≤ (actD D o).done := by
  rcases act_write D o hk with ⟨h1, _⟩ | ⟨h1, h2, _⟩
  · rw [h1]; exact ⟨h, Int.le_refl _⟩
  · rcases h with ⟨a, b, c⟩ | ⟨a, b⟩
    · have hp : 0 < D.armed := by omega
      have e1 : armedF D = D.armed - 1 := by unfold armedF; rw [if_pos hp]
      have e2 : downF D = (D.armed - 1 == 0) := by unfold downF; rw [if_pos hp]
      have d1 := h2.armed; have d2 := h2.down; have d3 := h2.done
      refine ⟨?_, by omega⟩
      by_cases hz : D.armed - 1 = 0
      · exact .inr ⟨by omega, by rw [d2, e2]; simpa using hz⟩
      · exact .inl ⟨by omega, by omega, by rw [d2, e2]; simpa using hz⟩
    · rw [b] at h1; cases h1
theorem armed_says {D : DS} {n : Int} (h : ArmedAt D n) : D.done ≤ n ∧ (D.down = true ↔ D.done = n) := by
  rcases h with ⟨a, b, c⟩ | ⟨a, b⟩
  · refine ⟨by omega, ?_⟩
    rw [c]
    constructor
    · intro h; cases h
    · intro h; omega
  · exact ⟨by omega, by simp [a, b]⟩
/-! behind a crash all is safe -/
theorem cutF_safe (picks : List Int) (i : Nat) (f : DF) : (cutF picks i f).safe = (cutF picks i f).data.length := by
  unfold cutF; split <;> rfl
theorem cutTo_keeps {picks : List Int} {n : Nat} : ∀ {r : List Nat} {l : List DF} {i : Nat}, ((l.getD n DF.nought).safe = (l.getD n DF.nought).data.length ∨ n ∈ r) → ((cutTo picks r l i).getD n DF.nought).safe = ((cutTo picks r l i).getD n DF.nought).data.length
  | [], l, i, h => by
    rcases h with h | h
    · exact h
    · simp at h
  | m :: r, l, i, h => by
    unfold cutTo
    refine cutTo_keeps (r := r) ?_
    by_cases hm : m = n
    · refine .inl ?_
      rw [getD_setF]
      split
      · exact cutF_safe _ _ _
      · rename_i h2
        have : ¬ n < l.length := fun h3 => h2 ⟨hm, h3⟩
        rw [List.getD_eq_getElem?_getD, List.getElem?_eq_none (by omega)]; rfl
    · rcases h with h | h
      · refine .inl ?_
        rw [getD_setF, if_neg (fun h2 => hm h2.1)]; exact h
      · rcases List.mem_cons.1 h with h | h
        · exact absurd h.symm hm
        · exact .inr h
/-- What a name leads to behind steps: it was led to ahead, or it was made by one of them. -/
theorem nget_acts {N : Nat} : ∀ {l : List Stp} {m : NM}, Runs N m l → ∀ {k : Bs} {v : Nat}, nget (l.foldl actN m) k = some v → (∃ k', nget m k' = some v) ∨ ∃ s ∈ l, s.kind = 0 ∧ s.file = v
  | [], m, _, k, v, h => .inl ⟨k, h⟩
  | s :: r, m, hr, k, v, h => by
    obtain ⟨h1, h2, h3, h4, h5, h6, h7, h8⟩ := hr
    rcases nget_acts h8 h with ⟨k', hk⟩ | ⟨t, ht, h9⟩
    · unfold actN at hk
      split at hk
      · rename_i h0
        by_cases e : k' = s.name
        · subst e
          rw [nget_nput_same] at hk
          exact .inr ⟨s, by simp, h0, Option.some.inj hk⟩
        · rw [nget_nput_other _ _ e] at hk; exact .inl ⟨k', hk⟩
      · split at hk
        · rename_i h0 h1'
          obtain ⟨u, hu⟩ := Option.isSome_iff_exists.1 (h7 h1')
          by_cases e : k' = s.to
          · subst e
            rw [nget_nput_same] at hk
            refine .inl ⟨s.name, ?_⟩
            rw [← hk]; unfold fileN; rw [hu]; rfl
          · rw [nget_nput_other _ _ e] at hk
            by_cases e2 : k' = s.name
            · subst e2; rw [nget_ndel_same] at hk; cases hk
            · rw [nget_ndel_other _ e2] at hk; exact .inl ⟨k', hk⟩
        · by_cases e2 : k' = s.name
          · subst e2; rw [nget_ndel_same] at hk; cases hk
          · rw [nget_ndel_other _ e2] at hk; exact .inl ⟨k', hk⟩
    · exact .inr ⟨t, by simp [ht], h9⟩
theorem crashN_left {D : DS} {T : Nat} (h : Inv D T) (picks : List Int) {k : Bs} {v : Nat} (hk : nget (crashN D picks) k = some v) : v ∈ leftS D := by
  refine List.mem_mergeSort.2 ?_
  unfold leftN
  unfold crashN at hk
  rcases nget_acts (h.runs.take _) hk with ⟨k', hk'⟩ | ⟨s, hs, h0, h1⟩
  · refine List.mem_append_left _ (List.mem_map.2 ⟨k', mem_keys_of hk', ?_⟩)
    unfold fileN; rw [hk']; rfl
  · refine List.mem_append_right _ (List.mem_map.2 ⟨s, List.mem_filter.2 ⟨List.mem_of_mem_take hs, by simpa using h0⟩, h1⟩)
theorem crash_files {D : DS} {T : Nat} (h : Inv D T) (picks : List Int) : ∀ f ∈ filesD (crashD D picks), f.safe = f.data.length := by
  intro f hf
  obtain ⟨x, hx, rfl⟩ := List.mem_map.1 hf
  have hx : x ∈ keysN (crashN D picks) := List.mem_mergeSort.1 hx
  obtain ⟨v, hv, -⟩ := mem_keysN hx
  have hfn : fileN (crashD D picks).names x = v := by unfold fileN; show (nget (crashN D picks) x).getD 0 = v; rw [hv]; rfl
  show ((crashD D picks).file (fileN (crashD D picks).names x)).safe = ((crashD D picks).file (fileN (crashD D picks).names x)).data.length
  rw [hfn]
  exact cutTo_keeps (.inr (crashN_left h picks hv))
end Go.Proofs.YtdiaejphgcoknaaGreatDoor
