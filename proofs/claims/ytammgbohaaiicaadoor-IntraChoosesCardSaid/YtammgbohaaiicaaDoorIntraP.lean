/- Foretelling squares in plain Lean: the modes, the best one. -/
import Derived.Test.YtammgbohaaiicaaDoorBlockP
set_option linter.unusedSimpArgs false
set_option linter.unusedVariables false
namespace Go.Proofs.YtammgbohaaiicaaDoor
open Go.RowKit

def edgeE (top left : List Int) (corner : Int) : Int :=
  if (top.length = 4 ∨ top.length = 8) ∧ left.length = top.length then (if withinB top 0 255 && withinB left 0 255 && (decide (0 ≤ corner) && decide (corner ≤ 255)) then 0 else 3) else 14
def predE (mode : Int) (top left : List Int) (corner : Int) : Int := if mode < 0 ∨ 3 < mode then 13 else edgeE top left corner
def nsum (top left : List Int) (k : Nat) : Int := top.length + sumOf k fun i => top.getD i 0 + left.getD i 0
def meanV (top left : List Int) : Int := nsum top left top.length / (2 * top.length)
def predAt (mode : Int) (top left : List Int) (corner : Int) (i : Nat) : Int :=
  if mode = 0 then meanV top left else if mode = 1 then top.getD (i % top.length) 0 else if mode = 2 then left.getD (i / top.length) 0 else clipV (left.getD (i / top.length) 0 + top.getD (i % top.length) 0 - corner)
def predV (mode : Int) (top left : List Int) (corner : Int) : List Int := mapTo (predAt mode top left corner) (top.length * top.length)
theorem length_predV (mode : Int) (top left : List Int) (corner : Int) : (predV mode top left corner).length = top.length * top.length := length_mapTo ..
theorem edgeE_zero {top left : List Int} {corner : Int} (h : edgeE top left corner = 0) : (top.length = 4 ∨ top.length = 8) ∧ left.length = top.length ∧ withinB top 0 255 = true ∧ withinB left 0 255 = true ∧ 0 ≤ corner ∧ corner ≤ 255 := by
  unfold edgeE at h
  split at h
  · rename_i e
    split at h
    · rename_i e2
      simp only [Bool.and_eq_true, decide_eq_true_eq] at e2
      exact ⟨e.1, e.2, e2.1.1, e2.1.2, e2.2.1, e2.2.2⟩
    · omega
  · omega
theorem edgeE_ok {top left : List Int} {corner : Int} (h1 : top.length = 4 ∨ top.length = 8) (h2 : left.length = top.length) (h3 : withinB top 0 255 = true) (h4 : withinB left 0 255 = true) (h5 : 0 ≤ corner) (h6 : corner ≤ 255) : edgeE top left corner = 0 := by
  unfold edgeE
  rw [if_pos ⟨h1, h2⟩, h3, h4]
  simp [h5, h6]
theorem edgeE_swap (top left : List Int) (corner : Int) : edgeE top left corner = edgeE left top corner := by
  unfold edgeE
  by_cases h : (top.length = 4 ∨ top.length = 8) ∧ left.length = top.length
  · have h' : (left.length = 4 ∨ left.length = 8) ∧ top.length = left.length := ⟨by omega, h.2.symm⟩
    rw [if_pos h, if_pos h', Bool.and_comm (withinB top 0 255)]
  · have h' : ¬ ((left.length = 4 ∨ left.length = 8) ∧ top.length = left.length) := by omega
    rw [if_neg h, if_neg h']
theorem nsum_bd {top left : List Int} (h1 : withinB top 0 255 = true) (h2 : withinB left 0 255 = true) (k : Nat) : top.length ≤ nsum top left k ∧ nsum top left k ≤ top.length + k * 510 := by
  have := sumOf_bd (n := k) (f := fun i => top.getD i 0 + left.getD i 0) (lo := 0) (hi := 510) fun i _ => by
    have := within_get h1 (by omega) (by omega) i
    have := within_get h2 (by omega) (by omega) i
    omega
  unfold nsum; omega
theorem nsum_succ (top left : List Int) (k : Nat) : nsum top left (k + 1) = nsum top left k + (top.getD k 0 + left.getD k 0) := by unfold nsum; rw [sumOf_succ]; omega
theorem meanV_bd {top left : List Int} (hn : top.length = 4 ∨ top.length = 8) (h1 : withinB top 0 255 = true) (h2 : withinB left 0 255 = true) : 0 ≤ meanV top left ∧ meanV top left ≤ 255 := by
  have h := nsum_bd h1 h2 top.length
  unfold meanV
  generalize nsum top left top.length = s at *
  rcases hn with e | e <;> rw [e] at h ⊢ <;> omega
/-- ALL THAT IS FORETOLD ARE SAMPLES. -/
theorem pred_within {mode : Int} {top left : List Int} {corner : Int} (h : edgeE top left corner = 0) : withinB (predV mode top left corner) 0 255 = true := by
  obtain ⟨h1, h2, h3, h4, _, _⟩ := edgeE_zero h
  unfold predV
  rw [within_mapTo]
  intro i _
  unfold predAt
  split
  · exact meanV_bd h1 h3 h4
  · split
    · exact within_get h3 (by omega) (by omega) _
    · split
      · exact within_get h4 (by omega) (by omega) _
      · exact clipV_bd _
theorem nsum_same {n : Nat} (v : Int) : nsum (mapTo (fun _ => v) n) (mapTo (fun _ => v) n) n = n + n * (2 * v) := by
  unfold nsum
  rw [length_mapTo, sumOf_congr (g := fun _ => 2 * v) (fun i hi => by rw [getD_mapTo hi]; omega), sumOf_const]
/-- NEIGHBOURS THAT ARE ALL ONE SAMPLE. -/
theorem pred_same {n : Nat} (hn : n = 4 ∨ n = 8) {v mode : Int} (h0 : 0 ≤ v) (h1 : v ≤ 255) : predV mode (mapTo (fun _ => v) n) (mapTo (fun _ => v) n) v = mapTo (fun _ => v) (n * n) := by
  unfold predV
  rw [length_mapTo]
  refine mapTo_congr fun i hi => ?_
  have hi' : i / n < n := Nat.div_lt_of_lt_mul hi
  have hm : i % n < n := Nat.mod_lt _ (by omega)
  unfold predAt
  split
  · unfold meanV
    rw [length_mapTo, nsum_same]
    rcases hn with rfl | rfl <;> omega
  · rw [length_mapTo, getD_mapTo hm, getD_mapTo hi']
    split
    · rfl
    · split
      · rfl
      · rw [show v + v - v = v from by omega]; exact clipV_id h0 h1
/-- TURNED OVER. -/
def otherMode (m : Int) : Int := if m = 1 ∨ m = 2 then 3 - m else m
theorem nsum_swap {top left : List Int} (h : left.length = top.length) (k : Nat) : nsum top left k = nsum left top k := by
  unfold nsum; rw [h, sumOf_congr (g := fun i => left.getD i 0 + top.getD i 0) fun i _ => Int.add_comm _ _]
theorem pred_turned {m : Int} {top left : List Int} {corner : Int} (h : left.length = top.length) (hm : 0 ≤ m ∧ m ≤ 3) (hp : 0 < top.length) {k : Nat} (hk : k < top.length * top.length) :
    (predV m top left corner).getD k 0 = (predV (otherMode m) left top corner).getD (k % top.length * top.length + k / top.length) 0 := by
  have hd : k / top.length < top.length := Nat.div_lt_of_lt_mul hk
  have hr : k % top.length < top.length := Nat.mod_lt _ hp
  have hj : k % top.length * top.length + k / top.length < top.length * top.length :=
    Nat.lt_of_lt_of_le (Nat.add_lt_add_left hd _) (by rw [← Nat.succ_mul]; exact Nat.mul_le_mul_right _ hr)
  have e1 : (k % top.length * top.length + k / top.length) % top.length = k / top.length := by
    rw [Nat.add_comm, Nat.add_mul_mod_self_right, Nat.mod_eq_of_lt hd]
  have e2 : (k % top.length * top.length + k / top.length) / top.length = k % top.length := by
    rw [Nat.add_comm, Nat.add_mul_div_right _ _ hp, Nat.div_eq_of_lt hd, Nat.zero_add]
  unfold predV
  rw [h, getD_mapTo hk, getD_mapTo hj]
  unfold predAt otherMode
  rw [h, e1, e2]
  rcases (show m = 0 ∨ m = 1 ∨ m = 2 ∨ m = 3 by omega) with rfl | rfl | rfl | rfl
  · simp only [if_pos]
    simp [meanV, nsum_swap h, h]
  · simp
  · simp
  · simp; rw [Int.add_comm (left[k / top.length]?.getD 0)]

/-! ### the best mode -/
def costV (b top left : List Int) (corner : Int) (m : Nat) : Int := sadV b (predV m top left corner)
def bestTo (c : Nat → Int) : Nat → Int × Int
  | 0 => (0, -1)
  | k + 1 => if (bestTo c k).2 < 0 ∨ c k < (bestTo c k).2 then ((k : Int), c k) else bestTo c k
theorem bestTo_yes {c : Nat → Int} {k : Nat} (h : (bestTo c k).2 < 0 ∨ c k < (bestTo c k).2) : bestTo c (k + 1) = ((k : Int), c k) := by rw [bestTo, if_pos h]
theorem bestTo_no {c : Nat → Int} {k : Nat} (h : ¬ ((bestTo c k).2 < 0 ∨ c k < (bestTo c k).2)) : bestTo c (k + 1) = bestTo c k := by rw [bestTo, if_neg h]
theorem bestTo_law {c : Nat → Int} (hc : ∀ k, 0 ≤ c k) (k : Nat) (hk : 0 < k) :
    ∃ m : Nat, m < k ∧ bestTo c k = ((m : Int), c m) ∧ (∀ j, j < k → c m ≤ c j) ∧ ∀ j, j < m → c m < c j := by
  induction k with
  | zero => omega
  | succ k ih =>
    by_cases h0 : k = 0
    · subst h0
      exact ⟨0, by omega, bestTo_yes (.inl (by show (-1 : Int) < 0; decide)), fun j hj => by rw [show j = 0 by omega]; exact Int.le_refl _, fun j hj => by omega⟩
    · obtain ⟨m, hm, e, h1, h2⟩ := ih (by omega)
      by_cases hlt : c k < c m
      · refine ⟨k, by omega, bestTo_yes (.inr (by rw [e]; exact hlt)), fun j hj => ?_, fun j hj => ?_⟩
        · by_cases ej : j = k
          · subst ej; exact Int.le_refl _
          · have := h1 j (by omega); omega
        · have := h1 j hj; omega
      · have hm0 := hc m
        refine ⟨m, by omega, by rw [bestTo_no (by rw [e]; simp only; omega), e], fun j hj => ?_, h2⟩
        by_cases ej : j = k
        · subst ej; omega
        · exact h1 j (by omega)
theorem bestTo_bd {c : Nat → Int} {M : Int} (hc : ∀ k, 0 ≤ c k ∧ c k ≤ M) (hM : 0 ≤ M) (k : Nat) : 0 ≤ (bestTo c k).1 ∧ (bestTo c k).1 ≤ k ∧ -1 ≤ (bestTo c k).2 ∧ (bestTo c k).2 ≤ M := by
  induction k with
  | zero => simp [bestTo]; omega
  | succ k ih =>
    rw [bestTo]
    have := hc k
    split
    · simp only; omega
    · omega
end Go.Proofs.YtammgbohaaiicaaDoor
