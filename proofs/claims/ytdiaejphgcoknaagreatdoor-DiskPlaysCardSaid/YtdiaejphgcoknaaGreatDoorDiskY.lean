/- Crash: plain: numbers in bounds, lengths in bounds. -/
import Derived.Test.YtdiaejphgcoknaaGreatDoorDiskX
set_option linter.unusedSimpArgs false
set_option linter.unusedVariables false
namespace Go.Proofs.YtdiaejphgcoknaaGreatDoor
open Go.RowKit Go.Extern.Stop Go.Stop Go.Extern Go.Maps Go.Sort

theorem Runs.made {N : Nat} : ∀ {l : List Stp} {m : NM}, Runs N m l → ∀ s ∈ l, s.kind = 0 → s.file < N
  | [], _, _, _, h => by simp at h
  | s :: r, m, h, x, hx => by
    obtain ⟨h1, h2, h3, h4, h5, h6, h7, h8⟩ := h
    rcases List.mem_cons.1 hx with rfl | hx
    · exact h6
    · exact Runs.made h8 x hx
theorem leftS_lt {D : DS} {T : Nat} (hI : Inv D T) : ∀ n ∈ leftS D, n < D.all.length := by
  intro n hn
  have h1 : n ∈ leftN D := List.mem_mergeSort.1 hn
  unfold leftN at h1
  rcases List.mem_append.1 h1 with h | h
  · obtain ⟨x, hx, rfl⟩ := List.mem_map.1 h
    obtain ⟨v, h2, h3⟩ := mem_keysN hx
    unfold fileN
    rw [h2]
    exact hI.valsS _ h3
  · obtain ⟨s, hs, rfl⟩ := List.mem_map.1 h
    obtain ⟨h2, h3⟩ := List.mem_filter.1 hs
    exact hI.runs.made s h2 (by simpa using h3)
theorem leftS_len {D : DS} {T : Nat} (hI : Inv D T) : (leftS D).length ≤ T := by
  have h1 : (leftS D).length = (leftN D).length := by simp [leftS]
  have h2 : (leftN D).length ≤ D.safe.length + D.steps.length := by
    unfold leftN
    rw [List.length_append, List.length_map, List.length_map]
    have := List.length_filter_le (fun s : Stp => s.kind == 0) D.steps
    simp only [keysN, List.length_map]
    omega
  have := hI.stp
  omega
/-- Behind cuts: lengths stay in bounds. -/
theorem cutF_ok {picks : List Int} {i : Nat} {f : DF} (h : f.safe ≤ f.data.length ∧ f.data.length ≤ 16777216) : (cutF picks i f).safe ≤ (cutF picks i f).data.length ∧ (cutF picks i f).data.length ≤ 16777216 := by
  unfold cutF
  split
  · refine ⟨Nat.le_refl _, ?_⟩
    simp only [List.length_take]; omega
  · exact ⟨Nat.le_refl _, h.2⟩
theorem cutK_ok {picks : List Int} {D : DS} {T : Nat} (hI : Inv D T) : ∀ k j, j < D.all.length → ((cutK picks D k).1.getD j DF.nought).safe ≤ ((cutK picks D k).1.getD j DF.nought).data.length ∧ ((cutK picks D k).1.getD j DF.nought).data.length ≤ 16777216
  | 0, j, hj => hI.data j hj
  | k + 1, j, hj => by
    by_cases h : k < (leftS D).length
    · rw [cutK_succ picks D h]
      show ((setF (cutK picks D k).1 _ _).getD j DF.nought).safe ≤ _ ∧ _
      unfold cutStep
      simp only
      rw [getD_setF]
      split
      · rename_i he
        obtain ⟨rfl, hl⟩ := he
        exact cutF_ok (cutK_ok hI k _ hj)
      · exact cutK_ok hI k j hj
    · have e : cutK picks D (k + 1) = cutK picks D k := by unfold cutK; rw [List.take_of_length_le (by omega), List.take_of_length_le (by omega)]
      rw [e]; exact cutK_ok hI k j hj
end Go.Proofs.YtdiaejphgcoknaaGreatDoor
