/- The stages, place by place; bounds; what comes back. -/
import Derived.Test.YtkiigodkbmcpfaaDoorWhtU
set_option linter.unusedSimpArgs false
set_option linter.unusedVariables false
namespace Go.Proofs.YtkiigodkbmcpfaaDoor.T

theorem bits64 : ∀ j : Fin 64, ∀ q : Fin 6, (j.val &&& 2 ^ q.val = 0 → j.val ||| 2 ^ q.val = j.val + 2 ^ q.val ∧ (j.val + 2 ^ q.val) &&& 2 ^ q.val ≠ 0 ∧ j.val + 2 ^ q.val < 64) ∧ (j.val &&& 2 ^ q.val ≠ 0 → 2 ^ q.val ≤ j.val ∧ (j.val - 2 ^ q.val) &&& 2 ^ q.val = 0) := by decide
theorem bits16 : ∀ j : Fin 16, ∀ q : Fin 4, (j.val &&& 2 ^ q.val = 0 → j.val + 2 ^ q.val < 16) := by decide
/-- n numbers, stage q. -/
def Fit (n q : Nat) : Prop := (n = 16 ∧ q < 4) ∨ (n = 64 ∧ q < 6)
theorem fit_lg {n q : Nat} (hn : n = 16 ∨ n = 64) (hq : q < lg n) : Fit n q := by
  rcases hn with rfl | rfl
  · exact .inl ⟨rfl, hq⟩
  · exact .inr ⟨rfl, hq⟩
theorem bit0 {n q j : Nat} (h : Fit n q) (hj : j < n) (h0 : j &&& 2 ^ q = 0) : j ||| 2 ^ q = j + 2 ^ q ∧ (j + 2 ^ q) &&& 2 ^ q ≠ 0 ∧ j + 2 ^ q < n := by
  rcases h with ⟨rfl, hq⟩ | ⟨rfl, hq⟩
  · have a := (bits64 ⟨j, by omega⟩ ⟨q, by omega⟩).1 h0
    exact ⟨a.1, a.2.1, bits16 ⟨j, hj⟩ ⟨q, hq⟩ h0⟩
  · exact (bits64 ⟨j, by omega⟩ ⟨q, by omega⟩).1 h0
theorem bit1 {n q j : Nat} (h : Fit n q) (hj : j < n) (h0 : j &&& 2 ^ q ≠ 0) : 2 ^ q ≤ j ∧ (j - 2 ^ q) &&& 2 ^ q = 0 := by
  rcases h with ⟨rfl, hq⟩ | ⟨rfl, hq⟩ <;> exact (bits64 ⟨j, by omega⟩ ⟨q, by omega⟩).2 h0
theorem pow_pos' (q : Nat) : 1 ≤ 2 ^ q := Nat.one_le_two_pow

theorem stage_get {n q : Nat} (hf : Fit n q) {l : List Int} (hl : l.length = n) (k : Nat) (hk : k ≤ n) : ∀ j, j < n → (stage (2 ^ q) n k l).getD j 0 =
    if j &&& 2 ^ q = 0 then (if j < k then l.getD j 0 + l.getD (j + 2 ^ q) 0 else l.getD j 0) else (if j < k + 2 ^ q then l.getD (j - 2 ^ q) 0 - l.getD j 0 else l.getD j 0) := by
  induction k with
  | zero =>
    intro j hj
    show l.getD j 0 = _
    by_cases h0 : j &&& 2 ^ q = 0
    · rw [if_pos h0, if_neg (by omega)]
    · have := bit1 hf hj h0
      rw [if_neg h0, if_neg (by omega)]
  | succ k ih =>
    intro j hj
    have ih := ih (by omega)
    rw [stage_succ]
    have hp := pow_pos' q
    unfold bfly
    by_cases hk0 : k &&& 2 ^ q = 0
    · obtain ⟨e, hb, hlt⟩ := bit0 hf (by omega) hk0
      have v1 : (stage (2 ^ q) n k l).getD k 0 = l.getD k 0 := by rw [ih k (by omega), if_pos hk0, if_neg (Nat.lt_irrefl k)]
      have v2 : (stage (2 ^ q) n k l).getD (k + 2 ^ q) 0 = l.getD (k + 2 ^ q) 0 := by rw [ih (k + 2 ^ q) hlt, if_neg hb, if_neg (Nat.lt_irrefl _)]
      rw [if_pos hk0, e, getD_set, getD_set, List.length_set, length_stage, hl, v1, v2]
      by_cases h1 : k + 2 ^ q = j
      · subst h1
        have c1 : k + 2 ^ q < k + 1 + 2 ^ q := by omega
        rw [if_pos ⟨rfl, hj⟩, if_neg hb, if_pos c1, Nat.add_sub_cancel]
      · rw [if_neg (fun h => h1 h.1)]
        by_cases h2 : k = j
        · subst h2
          have c1 : k < k + 1 := by omega
          rw [if_pos ⟨rfl, hj⟩, if_pos hk0, if_pos c1]
        · rw [if_neg (fun h => h2 h.1), ih j hj]
          by_cases h0 : j &&& 2 ^ q = 0
          · rw [if_pos h0, if_pos h0]
            by_cases h3 : j < k
            · have c1 : j < k + 1 := by omega
              rw [if_pos h3, if_pos c1]
            · have c1 : ¬ j < k + 1 := by omega
              rw [if_neg h3, if_neg c1]
          · rw [if_neg h0, if_neg h0]
            by_cases h3 : j < k + 2 ^ q
            · have c1 : j < k + 1 + 2 ^ q := by omega
              rw [if_pos h3, if_pos c1]
            · have c1 : ¬ j < k + 1 + 2 ^ q := by omega
              rw [if_neg h3, if_neg c1]
    · rw [if_neg hk0, ih j hj]
      by_cases h0 : j &&& 2 ^ q = 0
      · rw [if_pos h0, if_pos h0]
        have hne : j ≠ k := fun h => hk0 (h ▸ h0)
        by_cases h3 : j < k
        · have c1 : j < k + 1 := by omega
          rw [if_pos h3, if_pos c1]
        · have c1 : ¬ j < k + 1 := by omega
          rw [if_neg h3, if_neg c1]
      · rw [if_neg h0, if_neg h0]
        have hb1 := bit1 hf hj h0
        have hne : j ≠ k + 2 ^ q := by
          intro h
          rw [h, Nat.add_sub_cancel] at hb1
          exact hk0 hb1.2
        by_cases h3 : j < k + 2 ^ q
        · have c1 : j < k + 1 + 2 ^ q := by omega
          rw [if_pos h3, if_pos c1]
        · have c1 : ¬ j < k + 1 + 2 ^ q := by omega
          rw [if_neg h3, if_neg c1]

/-- Numbers of at most M by size. -/
def Bd (M : Int) (l : List Int) : Prop := ∀ j, -M ≤ l.getD j 0 ∧ l.getD j 0 ≤ M
theorem Bd.mono {M M' : Int} {l : List Int} (h : Bd M l) (hM : M ≤ M') : Bd M' l := fun j => by have := h j; omega
theorem getD_out {l : List Int} {j : Nat} (h : l.length ≤ j) : l.getD j 0 = 0 := by simp [List.getD, List.getElem?_eq_none h]
theorem bd_stage {n q : Nat} (hf : Fit n q) {l : List Int} (hl : l.length = n) {M : Int} (h : Bd M l) (k : Nat) (hk : k ≤ n) : Bd (2 * M) (stage (2 ^ q) n k l) := by
  intro j
  have h0 := h 0
  by_cases hj : j < n
  · rw [stage_get hf hl k hk j hj]
    have h1 := h j
    have h2 := h (j + 2 ^ q)
    have h3 := h (j - 2 ^ q)
    split <;> split <;> omega
  · rw [getD_out (by rw [length_stage]; omega)]; omega
theorem bd_turnTo {l : List Int} (hl : l.length = 16 ∨ l.length = 64) {M : Int} (h : Bd M l) (m : Nat) (hm : m ≤ lg l.length) : Bd (2 ^ m * M) (turnTo m l) := by
  induction m with
  | zero => simpa [turnTo] using h
  | succ k ih =>
    rw [turnTo_succ]
    have := bd_stage (q := k) (fit_lg hl (by omega)) (length_turnTo k l) (ih (by omega)) l.length (Nat.le_refl _)
    have e : (2 : Int) ^ (k + 1) * M = 2 * (2 ^ k * M) := by rw [Int.pow_succ, Int.mul_comm (2 ^ k) 2, Int.mul_assoc]
    rw [e]
    exact this
theorem bd_of_all {M : Int} (hM : 0 ≤ M) {l : List Int} (h : ∀ x ∈ l, -M ≤ x ∧ x ≤ M) : Bd M l := by
  intro j
  by_cases hj : j < l.length
  · rw [List.getD_eq_getElem?_getD, List.getElem?_eq_getElem hj]; exact h _ (List.getElem_mem hj)
  · rw [getD_out (by omega)]; omega
theorem all_of_bd {M : Int} {l : List Int} (h : Bd M l) : ∀ x ∈ l, -M ≤ x ∧ x ≤ M := by
  intro x hx
  obtain ⟨j, hj, rfl⟩ := List.getElem_of_mem hx
  have := h j
  simpa [List.getD, hj] using this
end Go.Proofs.YtkiigodkbmcpfaaDoor.T
