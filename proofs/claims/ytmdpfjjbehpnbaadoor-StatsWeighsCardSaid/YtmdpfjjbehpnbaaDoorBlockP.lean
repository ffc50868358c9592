/- Square pieces in plain Lean: less, together, how unlike; quarters; the zigzag. -/
import Derived.Test.YtmdpfjjbehpnbaaDoorNum
set_option linter.unusedSimpArgs false
set_option linter.unusedVariables false
namespace Go.Proofs.YtmdpfjjbehpnbaaDoor
open Go.RowKit

def bothE (a b : List Int) : Int := if a.length = b.length then (if withinB a (-1048576) 1048576 && withinB b (-1048576) 1048576 then 0 else 3) else 14
theorem bothE_comm (a b : List Int) : bothE a b = bothE b a := by
  unfold bothE
  by_cases h : a.length = b.length
  · rw [if_pos h, if_pos h.symm, Bool.and_comm]
  · rw [if_neg h, if_neg (fun e => h e.symm)]
theorem bothE_zero {a b : List Int} (h : bothE a b = 0) : a.length = b.length ∧ withinB a (-1048576) 1048576 = true ∧ withinB b (-1048576) 1048576 = true := by
  unfold bothE at h
  split at h
  · rename_i e
    split at h
    · rename_i e2
      rw [Bool.and_eq_true] at e2
      exact ⟨e, e2.1, e2.2⟩
    · omega
  · omega
theorem bothE_ok {a b : List Int} (e : a.length = b.length) (ha : withinB a (-1048576) 1048576 = true) (hb : withinB b (-1048576) 1048576 = true) : bothE a b = 0 := by
  unfold bothE; rw [if_pos e, ha, hb]; rfl
theorem bothE_cases (a b : List Int) : bothE a b = 0 ∨ bothE a b = 3 ∨ bothE a b = 14 := by
  unfold bothE; split
  · split
    · exact .inl rfl
    · exact .inr (.inl rfl)
  · exact .inr (.inr rfl)
theorem bothE_fit {a b : List Int} (h : a.length ≠ b.length) : bothE a b = 14 := by unfold bothE; rw [if_neg h]

def subV (a b : List Int) : List Int := mapTo (fun i => a.getD i 0 - b.getD i 0) a.length
def addV (p r : List Int) : List Int := mapTo (fun i => clipV (p.getD i 0 + r.getD i 0)) p.length
def absD (x y : Int) : Int := max (x - y) (y - x)
theorem absD_nonneg (x y : Int) : 0 ≤ absD x y := by unfold absD; omega
theorem absD_comm (x y : Int) : absD x y = absD y x := by unfold absD; omega
theorem absD_tri (x y z : Int) : absD x z ≤ absD x y + absD y z := by unfold absD; omega
theorem absD_zero {x y : Int} : absD x y = 0 ↔ x = y := by unfold absD; omega
def sadV (a b : List Int) : Int := sumOf a.length fun i => absD (a.getD i 0) (b.getD i 0)
/-- What goes when there is no error. -/
def okL (e : Int) (xs : List Int) : List Int := if e = 0 then xs else []
def okI (e x : Int) : Int := if e = 0 then x else 0
theorem okL_zero {e : Int} (h : e = 0) (xs : List Int) : okL e xs = xs := by unfold okL; rw [if_pos h]
theorem okL_ne {e : Int} (h : e ≠ 0) (xs : List Int) : okL e xs = [] := by unfold okL; rw [if_neg h]
theorem okI_zero {e : Int} (h : e = 0) (x : Int) : okI e x = x := by unfold okI; rw [if_pos h]
theorem okI_ne {e : Int} (h : e ≠ 0) (x : Int) : okI e x = 0 := by unfold okI; rw [if_neg h]

theorem sad_comm {a b : List Int} (h : a.length = b.length) : sadV a b = sadV b a := by
  unfold sadV; rw [h]; exact sumOf_congr fun i _ => absD_comm _ _
theorem sad_nonneg (a b : List Int) : 0 ≤ sadV a b := sumOf_nonneg fun i _ => absD_nonneg _ _
theorem sad_tri {a b c : List Int} (h : a.length = b.length) : sadV a c ≤ sadV a b + sadV b c := by
  unfold sadV
  rw [← h, ← sumOf_add]
  exact sumOf_le fun i _ => absD_tri _ _ _
theorem sad_zero {a b : List Int} (h : a.length = b.length) : sadV a b = 0 ↔ a = b := by
  unfold sadV
  rw [sumOf_eq_zero fun i _ => absD_nonneg _ _]
  constructor
  · intro e; exact ext_list h fun i hi => absD_zero.1 (e i hi)
  · intro e i _; rw [e]; exact absD_zero.2 rfl
theorem sad_bd {a b : List Int} {m : Int} (hm : 0 ≤ m) (ha : withinB a (-m) m = true) (hb : withinB b (-m) m = true) : 0 ≤ sadV a b ∧ sadV a b ≤ a.length * (2 * m) := by
  refine ⟨sad_nonneg a b, (sumOf_bd (lo := 0) (hi := 2 * m) fun i _ => ?_).2⟩
  have h1 := within_get ha (by omega) (by omega) i
  have h2 := within_get hb (by omega) (by omega) i
  unfold absD; omega
theorem add_sub {a b : List Int} (h : a.length = b.length) (ha : withinB a 0 255 = true) : addV b (subV a b) = a := by
  refine ext_list (by unfold addV; rw [length_mapTo, h]) fun i hi => ?_
  unfold addV at hi ⊢
  rw [length_mapTo] at hi
  rw [getD_mapTo hi]
  unfold subV
  rw [getD_mapTo (by omega)]
  have := within_iff.1 ha i (by omega)
  rw [show b.getD i 0 + (a.getD i 0 - b.getD i 0) = a.getD i 0 from by omega]
  exact clipV_id this.1 this.2
theorem sub_self (a : List Int) : withinB (subV a a) 0 0 = true := by
  unfold subV; rw [within_mapTo]; intro i _; omega
theorem length_subV (a b : List Int) : (subV a b).length = a.length := length_mapTo ..
theorem length_addV (a b : List Int) : (addV a b).length = a.length := length_mapTo ..
/-- Of two lists of samples what is less is in bounds. -/
theorem sub_within {a b : List Int} (ha : withinB a 0 255 = true) (hb : withinB b 0 255 = true) : withinB (subV a b) (-1048576) 1048576 = true := by
  unfold subV; rw [within_mapTo]; intro i _
  have := within_get ha (by omega) (by omega) i
  have := within_get hb (by omega) (by omega) i
  omega

/-! ### quarters -/
def kq (i : Nat) : Nat := i / 32 * 2 + i % 8 / 4
def pq (i : Nat) : Nat := i / 8 % 4 * 4 + i % 4
def idx (q j : Nat) : Nat := q / 2 * 32 + j / 4 * 8 + q % 2 * 4 + j % 4
theorem kq_lt {i : Nat} (h : i < 64) : kq i < 4 := by unfold kq; omega
theorem pq_lt (i : Nat) : pq i < 16 := by unfold pq; omega
theorem idx_lt {q j : Nat} (h : q < 4) (hj : j < 16) : idx q j < 64 := by unfold idx; omega
theorem idx_at {i : Nat} (h : i < 64) : idx (kq i) (pq i) = i := by unfold idx kq pq; omega
def quarterTo (b : List Int) (q i : Nat) : List Int := ((List.range i).filter (fun j => kq j == q)).map (fun j => b.getD j 0)
theorem quarterTo_zero (b : List Int) (q : Nat) : quarterTo b q 0 = [] := rfl
theorem quarterTo_yes {b : List Int} {q i : Nat} (h : kq i = q) : quarterTo b q (i + 1) = quarterTo b q i ++ [b.getD i 0] := by
  simp [quarterTo, List.range_succ, h]
theorem quarterTo_no {b : List Int} {q i : Nat} (h : kq i ≠ q) : quarterTo b q (i + 1) = quarterTo b q i := by
  simp [quarterTo, List.range_succ, h]
theorem length_quarterTo (b : List Int) (q i : Nat) : (quarterTo b q i).length ≤ i := by
  unfold quarterTo
  rw [List.length_map]
  have := List.length_filter_le (fun j => kq j == q) (List.range i)
  simpa using this
def quarterL (b : List Int) (q : Nat) : List Int := mapTo (fun j => b.getD (idx q j) 0) 16
theorem length_quarterL (b : List Int) (q : Nat) : (quarterL b q).length = 16 := length_mapTo ..
theorem filt (q : Nat) (h : q < 4) : (List.range 64).filter (fun j => kq j == q) = (List.range 16).map (idx q) := by
  match q, h with
  | 0, _ => decide +kernel
  | 1, _ => decide +kernel
  | 2, _ => decide +kernel
  | 3, _ => decide +kernel
theorem quarterTo_all (b : List Int) {q : Nat} (h : q < 4) : quarterTo b q 64 = quarterL b q := by
  unfold quarterTo quarterL mapTo
  rw [filt q h, List.map_map]; rfl
def wholeV (l : Nat → List Int) : List Int := mapTo (fun i => (l (kq i)).getD (pq i) 0) 64
theorem whole_quarter {b : List Int} (h : b.length = 64) : wholeV (quarterL b) = b := by
  refine ext_list (by unfold wholeV; rw [length_mapTo, h]) fun i hi => ?_
  unfold wholeV at hi ⊢
  rw [length_mapTo] at hi
  rw [getD_mapTo hi]
  unfold quarterL
  rw [getD_mapTo (pq_lt i), idx_at hi]
theorem sub_quarter {a b : List Int} (ha : a.length = 64) {q : Nat} (h : q < 4) : subV (quarterL a q) (quarterL b q) = quarterL (subV a b) q := by
  unfold subV
  rw [length_quarterL, ha]
  unfold quarterL
  refine mapTo_congr fun i hi => ?_
  rw [getD_mapTo hi, getD_mapTo hi, getD_mapTo (idx_lt h hi)]
theorem sum_quarters (f : Nat → Int) : sumOf 64 f = sumOf 16 (fun j => f (idx 0 j)) + sumOf 16 (fun j => f (idx 1 j)) + sumOf 16 (fun j => f (idx 2 j)) + sumOf 16 (fun j => f (idx 3 j)) := by
  simp [sumOf, idx]
  omega
theorem sad_quarter {a b : List Int} (q : Nat) : sadV (quarterL a q) (quarterL b q) = sumOf 16 fun j => absD (a.getD (idx q j) 0) (b.getD (idx q j) 0) := by
  unfold sadV
  rw [length_quarterL]
  refine sumOf_congr fun i hi => ?_
  unfold quarterL
  rw [getD_mapTo hi, getD_mapTo hi]
theorem sad_quarters {a b : List Int} (ha : a.length = 64) : sadV a b = sadV (quarterL a 0) (quarterL b 0) + sadV (quarterL a 1) (quarterL b 1) + sadV (quarterL a 2) (quarterL b 2) + sadV (quarterL a 3) (quarterL b 3) := by
  rw [sad_quarter, sad_quarter, sad_quarter, sad_quarter]
  unfold sadV
  rw [ha]
  exact sum_quarters _
theorem within_quarter {b : List Int} {lo hi : Int} (h : withinB b lo hi = true) (hl : b.length = 64) {q : Nat} (hq : q < 4) : withinB (quarterL b q) lo hi = true := by
  unfold quarterL
  rw [within_mapTo]
  intro i hi
  exact within_iff.1 h _ (by rw [hl]; exact idx_lt hq hi)

/-! ### the zigzag -/
def yOf (s k : Nat) : Nat := if s % 2 = 0 then s - k else k
def rowTo (n s : Nat) : Nat → List Int
  | 0 => []
  | k + 1 => if s - yOf s k < n ∧ yOf s k < n then rowTo n s k ++ [((yOf s k * n + (s - yOf s k) : Nat) : Int)] else rowTo n s k
def ordTo (n : Nat) : Nat → List Int
  | 0 => []
  | s + 1 => ordTo n s ++ rowTo n s (s + 1)
theorem rowTo_yes {n s k : Nat} (h : s - yOf s k < n ∧ yOf s k < n) : rowTo n s (k + 1) = rowTo n s k ++ [((yOf s k * n + (s - yOf s k) : Nat) : Int)] := by
  rw [rowTo, if_pos h]
theorem rowTo_no {n s k : Nat} (h : ¬ (s - yOf s k < n ∧ yOf s k < n)) : rowTo n s (k + 1) = rowTo n s k := by
  rw [rowTo, if_neg h]
theorem length_rowTo (n s k : Nat) : (rowTo n s k).length ≤ k := by
  induction k with
  | zero => simp [rowTo]
  | succ k ih =>
    rw [rowTo]
    split
    · rw [List.length_append]; simp only [List.length_cons, List.length_nil]; omega
    · omega
theorem length_ordTo (n s : Nat) : (ordTo n s).length ≤ s * (s + 1) := by
  induction s with
  | zero => simp [ordTo]
  | succ s ih =>
    rw [ordTo, List.length_append]
    have := length_rowTo n s (s + 1)
    have e : (s + 1) * (s + 1 + 1) = s * (s + 1) + 2 * (s + 1) := by simp only [Nat.add_mul, Nat.mul_add]; omega
    omega
def orderL (n : Int) : List Int := if n = 4 then ordTo 4 7 else if n = 8 then ordTo 8 15 else []
theorem order4 : ordTo 4 7 = [0, 1, 4, 8, 5, 2, 3, 6, 9, 12, 13, 10, 7, 11, 14, 15] := by decide +kernel
theorem order8 : ordTo 8 15 = [0, 1, 8, 16, 9, 2, 3, 10, 17, 24, 32, 25, 18, 11, 4, 5, 12, 19, 26, 33, 40, 48, 41, 34, 27, 20, 13, 6, 7, 14, 21, 28, 35, 42, 49, 56, 57, 50, 43, 36, 29, 22, 15, 23, 30, 37, 44, 51, 58, 59, 52, 45, 38, 31, 39, 46, 53, 60, 61, 54, 47, 55, 62, 63] := by decide +kernel
end Go.Proofs.YtmdpfjjbehpnbaaDoor
