/- The plain laws of the transform. -/
import Derived.Test.YtkiigodkbmcpfaaDoorWhtV
set_option linter.unusedSimpArgs false
set_option linter.unusedVariables false
namespace Go.Proofs.YtkiigodkbmcpfaaDoor
open Go.RowKit
open T

theorem getD_map_mul (c : Int) (l : List Int) (j : Nat) : (l.map (c * ·)).getD j 0 = c * l.getD j 0 := by
  by_cases h : j < l.length
  · simp [List.getD, h]
  · rw [getD_out (by simp; omega), getD_out (by omega)]; omega
theorem getD_replicate (n : Nat) (v : Int) (j : Nat) : (List.replicate n v).getD j 0 = if j < n then v else 0 := by
  by_cases h : j < n
  · simp [List.getD, h]
  · rw [getD_out (by simp; omega), if_neg h]
theorem getD_unit (n i j : Nat) : (unit n i).getD j 0 = if i = j ∧ j < n then 1 else 0 := by
  unfold unit
  rw [getD_set, List.length_replicate, getD_replicate]
  split
  · rfl
  · split <;> rfl
theorem sumTo_mul (c : Int) (f : Nat → Int) : ∀ n, sumTo n (fun i => c * f i) = c * sumTo n f
  | 0 => by simp [sumTo]
  | n + 1 => by simp [sumTo, sumTo_mul c f n, Int.mul_add]
/-- The list is the sum of its numbers' unit lists. -/
theorem lin_id (n : Nat) : Lin n (fun l => l) := ⟨fun _ h => h, fun _ _ _ _ _ _ => rfl⟩
theorem self_sum {n : Nat} (b : List Int) (hb : b.length = n) (j : Nat) : b.getD j 0 = sumTo n fun i => b.getD i 0 * (unit n i).getD j 0 := lin_sum (lin_id n) b hb j
/-- TWICE FORTH IS SO MANY TIMES WHAT IT WAS. -/
theorem turn_turn {b : List Int} (hl : b.length = 16 ∨ b.length = 64) (j : Nat) : (turnL (turnL b)).getD j 0 = b.length * b.getD j 0 := by
  have h := lin_sum (F := fun l => turnL (turnL l)) (lin_turn.comp lin_turn) b rfl j
  rw [show (turnL (turnL b)).getD j 0 = _ from h, self_sum b rfl j, ← sumTo_mul]
  refine sumTo_congr fun i hi => ?_
  rw [← Int.mul_assoc, Int.mul_comm (b.length : Int), Int.mul_assoc]
  congr 1
  rcases hl with e | e <;> rw [e] at hi ⊢
  · rw [twice16 i hi, getD_map_mul]; rfl
  · rw [twice64 i hi, getD_map_mul]; rfl
theorem length_shrAll {n : Nat} (ys : List Int) : (shrTo n n ys).length = ys.length := length_shrTo n n ys
theorem invV_get {xs : List Int} (h : chkE xs 16777216 = 0) {j : Nat} (hj : j < xs.length) : (invV xs).length = xs.length ∧ (invV xs).getD j 0 = shr xs.length ((turnL xs).getD j 0) := by
  unfold invV
  rw [if_pos h]
  refine ⟨by rw [length_shrTo, length_turnL], ?_⟩
  rw [getD_shrTo (by rw [length_turnL]; exact hj), if_pos hj]
theorem length_invV {xs : List Int} (h : chkE xs 16777216 = 0) : (invV xs).length = xs.length := by
  unfold invV
  rw [if_pos h, length_shrTo, length_turnL]
theorem chkE_ok {xs : List Int} {m : Int} (hl : xs.length = 16 ∨ xs.length = 64) (hb : Bd m xs) : chkE xs m = 0 := by
  have e : xs.any (wideB m) = false := by
    rw [List.any_eq_false]
    intro x hx
    have := all_of_bd hb x hx
    have a : ¬ x < -m := by omega
    have b : ¬ m < x := by omega
    simp [wideB, a, b]
  unfold chkE
  rw [if_pos hl, e]; rfl
theorem two_lg {xs : List Int} (hn : xs.length = 16 ∨ xs.length = 64) : (2 : Int) ^ (lg xs.length) = xs.length := by
  rcases hn with h | h <;> rw [h] <;> decide
theorem bd_turn {xs : List Int} (hn : xs.length = 16 ∨ xs.length = 64) {M : Int} (hb : Bd M xs) : Bd (xs.length * M) (turnL xs) := by
  have h := bd_turnTo hn hb (lg xs.length) (Nat.le_refl _)
  rw [two_lg hn] at h
  exact h
theorem chk_turn {b : List Int} (h : chkE b 65536 = 0) : chkE (turnL b) 16777216 = 0 := by
  obtain ⟨hl, hb⟩ := chkE_zero (by omega) h
  refine chkE_ok (by rw [length_turnL]; exact hl) ((bd_turn hl hb).mono ?_)
  rcases hl with e | e <;> rw [e] <;> decide
/-- WHAT IS TRANSFORMED COMES BACK. -/
theorem back {b : List Int} (h : chkE b 65536 = 0) : invV (turnL b) = b := by
  obtain ⟨hl, hb⟩ := chkE_zero (by omega) h
  have hc := chk_turn h
  refine ext_getD (by rw [length_invV hc, length_turnL]) fun i hi => ?_
  have hi' : i < (turnL b).length := by rwa [length_invV hc] at hi
  rw [(invV_get hc hi').2, turn_turn hl, length_turnL]
  unfold shr
  rcases hl with e | e <;> rw [e] <;> omega
/-- NUMBERS TURNED BY NO MORE THAN h. -/
theorem small {c d by_ : List Int} {h : Int} (hcd : d = cmb 1 1 c by_) (hl : by_.length = c.length) (hb : Bd h by_) (h1 : chkE c 16777216 = 0) (h2 : chkE d 16777216 = 0) (j : Nat) (hj : j < c.length) :
    (invV c).getD j 0 - (invV d).getD j 0 ≤ h ∧ (invV d).getD j 0 - (invV c).getD j 0 ≤ h := by
  have hd : d.length = c.length := by rw [hcd]; exact length_cmb rfl hl
  obtain ⟨hn, _⟩ := chkE_zero (by omega) h1
  have ht := bd_turn (by rw [hl]; exact hn) hb j
  rw [(invV_get h1 hj).2, (invV_get h2 (by omega)).2, hd]
  have e : (turnL d).getD j 0 = (turnL c).getD j 0 + (turnL by_).getD j 0 := by
    rw [hcd, lin_turn.2 c by_ rfl hl 1 1, getD_cmb (by rw [length_turnL, length_turnL, hl])]; omega
  rw [e]
  rw [hl] at ht
  unfold shr
  rcases hn with e | e <;> rw [e] at ht ⊢ <;> omega
/-- THE TRANSFORM OF A SUM. -/
theorem turn_sum {a b : List Int} (hl : b.length = a.length) (j : Nat) : (turnL (cmb 1 1 a b)).getD j 0 = (turnL a).getD j 0 + (turnL b).getD j 0 := by
  rw [lin_turn.2 a b rfl hl 1 1, getD_cmb (by rw [length_turnL, length_turnL, hl])]; omega
def sumL (l : List Int) (k : Nat) : Int := sumTo k fun i => l.getD i 0
theorem sgn_zero (x : Nat) : sgn 0 x = 1 := by simp [sgn]
/-- THE FIRST NUMBER IS THE SUM OF ALL. -/
theorem turn_first {a : List Int} (hl : a.length = 16 ∨ a.length = 64) : (turnL a).getD 0 0 = sumL a a.length := by
  rw [lin_sum lin_turn a rfl 0]
  refine sumTo_congr fun i hi => ?_
  rcases hl with e | e <;> rw [e] at hi ⊢
  · rw [units16 i hi]
    simp [sq, sgn_zero, List.getD]
  · rw [units64 i hi]
    simp [sq, sgn_zero, List.getD]
/-- ONE NUMBER EVERYWHERE. -/
theorem turn_flat {n : Nat} (hn : n = 16 ∨ n = 64) (v : Int) : turnL (List.replicate n v) = (n * v) :: List.replicate (n - 1) 0 := by
  have e1 : List.replicate n v = cmb v 0 (List.replicate n 1) (List.replicate n 1) := by
    simp [cmb, List.zipWith_replicate]
  rw [e1, lin_turn.2 _ _ (List.length_replicate) (List.length_replicate)]
  rcases hn with rfl | rfl
  · rw [ones16]; simp [cmb, List.zipWith_replicate, Int.mul_comm]
  · rw [ones64]; simp [cmb, List.zipWith_replicate, Int.mul_comm]
theorem turn_peak {n : Nat} (hn : n = 16 ∨ n = 64) (x : Int) : turnL (x :: List.replicate (n - 1) 0) = List.replicate n x := by
  have e1 : x :: List.replicate (n - 1) 0 = cmb x 0 (unit n 0) (unit n 0) := by
    rcases hn with rfl | rfl <;> simp [cmb, unit, List.zipWith_replicate, List.replicate]
  rw [e1, lin_turn.2 _ _ (length_unit ..) (length_unit ..)]
  rcases hn with rfl | rfl
  · rw [peak16]; simp [cmb, List.zipWith_replicate]
  · rw [peak64]; simp [cmb, List.zipWith_replicate]
theorem flat_back {n : Nat} (hn : n = 16 ∨ n = 64) (v t : Int) (h1 : -65536 ≤ v) (h2 : v ≤ 65536) (h3 : -(n / 2 : Int) ≤ t) (h4 : t < (n / 2 : Int)) :
    chkE ((n * v + t) :: List.replicate (n - 1) 0) 16777216 = 0 ∧ invV ((n * v + t) :: List.replicate (n - 1) 0) = List.replicate n v := by
  have hl : ((n * v + t) :: List.replicate (n - 1) 0).length = n := by rcases hn with rfl | rfl <;> simp
  have hc : chkE ((n * v + t) :: List.replicate (n - 1) 0) 16777216 = 0 := by
    refine chkE_ok (by rw [hl]; exact hn) (bd_of_all (by omega) fun x hx => ?_)
    rcases List.mem_cons.1 hx with rfl | hx
    · rcases hn with rfl | rfl <;> omega
    · have := (List.mem_replicate.1 hx).2; omega
  refine ⟨hc, ext_getD (by rw [length_invV hc, hl, List.length_replicate]) fun i hi => ?_⟩
  have hi' : i < n := by rwa [length_invV hc, hl] at hi
  rw [(invV_get hc (by rw [hl]; exact hi')).2, hl, turn_peak hn, getD_replicate, getD_replicate, if_pos hi', if_pos hi']
  unfold shr
  rcases hn with rfl | rfl <;> omega
end Go.Proofs.YtkiigodkbmcpfaaDoor
