/- What the laws WhtSums, WhtSmall lay up in their loops. -/
import Derived.Test.YtmmhlojjipbceaaDoorWhtM
import Derived.Test.YtmmhlojjipbceaaDoorWhtK
set_option linter.unusedSimpArgs false
set_option linter.unusedVariables false
namespace Go.Proofs.YtmmhlojjipbceaaDoor
open Go.RowKit
open T

def addTo (a b : List Int) (k : Nat) : List Int := (List.range k).map fun i => a.getD i 0 + b.getD i 0
theorem length_addTo (a b : List Int) (k : Nat) : (addTo a b k).length = k := by simp [addTo]
theorem addTo_succ (a b : List Int) (k : Nat) : addTo a b (k + 1) = addTo a b k ++ [a.getD k 0 + b.getD k 0] := by simp [addTo, List.range_succ]
theorem addTo_all {a b : List Int} {n : Nat} (ha : a.length = n) (hb : b.length = n) : addTo a b n = cmb 1 1 a b := by
  refine ext_getD (by rw [length_addTo, length_cmb ha hb]) fun i hi => ?_
  rw [length_addTo] at hi
  rw [getD_cmb (by rw [ha, hb])]
  simp [addTo, List.getD, hi]
theorem sumL_succ (a : List Int) (k : Nat) : sumL a (k + 1) = sumL a k + a.getD k 0 := rfl
theorem sumL_bd {a : List Int} {M : Int} (h : Bd M a) (k : Nat) : -(k * M) ≤ sumL a k ∧ sumL a k ≤ k * M := by
  induction k with
  | zero => simp [sumL, sumTo]
  | succ k ih =>
    rw [sumL_succ]
    have := h k
    have e : ((k + 1 : Nat) : Int) * M = k * M + M := by rw [Int.natCast_add, Int.add_mul]; simp
    rw [e]; omega
def topTo (b : List Int) : Nat → Int
  | 0 => 0
  | k + 1 => max (max (topTo b k) (b.getD k 0)) (-(b.getD k 0))
theorem topTo_succ (b : List Int) (k : Nat) : topTo b (k + 1) = max (max (topTo b k) (b.getD k 0)) (-(b.getD k 0)) := rfl
theorem topTo_bd (b : List Int) (k : Nat) : 0 ≤ topTo b k ∧ ∀ i, i < k → -(topTo b k) ≤ b.getD i 0 ∧ b.getD i 0 ≤ topTo b k := by
  induction k with
  | zero => exact ⟨Int.le_refl _, fun i h => absurd h (by omega)⟩
  | succ k ih =>
    obtain ⟨h0, h1⟩ := ih
    rw [topTo_succ]
    refine ⟨by omega, fun i hi => ?_⟩
    by_cases e : i = k
    · subst e; omega
    · have := h1 i (by omega); omega
theorem topTo_le {b : List Int} {M : Int} (h : Bd M b) (k : Nat) : topTo b k ≤ M := by
  induction k with
  | zero => have := h 0; simp only [topTo]; omega
  | succ k ih => have := h k; rw [topTo_succ]; omega
theorem topTo_all {b : List Int} {n : Nat} (hb : b.length = n) : Bd (topTo b n) b := by
  intro j
  obtain ⟨h0, h1⟩ := topTo_bd b n
  by_cases hj : j < n
  · exact h1 j hj
  · rw [getD_out (by omega)]; omega
theorem bd_of_within {b : List Int} {M : Int} (hM : 0 ≤ M) (h : withinB b (-M) M = true) : Bd M b := by
  refine bd_of_all hM fun x hx => ?_
  unfold withinB at h
  rw [List.all_eq_true] at h
  simpa using h x hx
theorem Ints.cellAt {w : World} {ao : Option Addr} {n cap : Nat} {xs : List Int} (h : Ints w (.slice ao n cap) xs) {j : Nat} (hj : j < xs.length) : ∃ b off, ao = some ⟨b, off, none⟩ ∧ w.cell? ⟨b, off + j, none⟩ = some (.int .i64 (xs.getD j 0)) := by
  obtain ⟨ao', cap', e, _, _, _, _, h4⟩ := h
  simp only [Value.slice.injEq] at e
  obtain ⟨rfl, -, rfl⟩ := e
  exact h4 j hj
/-- Forth, whatever the list: if it holds numbers there was no error. -/
theorem fwd_gen (xs : List Int) (v : Value) (w : World) (hv : Ints w v xs) :
    Calls Tryd.prog 11 #[v] w fun e w' => ∃ ao cap zs ez, e = .returned (.tuple #[.slice ao (zs.length) cap, errV ez]) ∧ OwnInts w' w.heap.size (.slice ao zs.length cap) zs ∧ (zs.length = 0 ∨ ez = 0 ∧ zs = turnL xs) ∧ Below w.heap.size w w' := by
  refine (pforward_any v xs w hv).mono fun e w' ⟨v', he, ho, hb⟩ => ?_
  obtain ⟨ao, cap, rfl⟩ := ho.shape
  refine ⟨ao, cap, fwdV xs, chkE xs 65536, he, ho, ?_, hb⟩
  by_cases h : chkE xs 65536 = 0
  · exact .inr ⟨h, by unfold fwdV; rw [if_pos h]⟩
  · exact .inl (by unfold fwdV; rw [if_neg h]; rfl)
end Go.Proofs.YtmmhlojjipbceaaDoor
