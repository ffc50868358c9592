/- Frames in plain Lean: which may be, samples, squares taken and laid, how unlike two are. -/
import Derived.Test.YtmdpfjjbehpnbaaDoorBlockP
set_option linter.unusedSimpArgs false
set_option linter.unusedVariables false
namespace Go.Proofs.YtmdpfjjbehpnbaaDoor
open Go.RowKit

def sideB (n : Int) : Bool := decide (8 ≤ n) && (decide (n ≤ 32) && n % 8 == 0)
def mayB (W H : Int) (pix : List Int) : Bool := sideB W && (sideB H && (decide ((pix.length : Int) = W * H) && withinB pix 0 255))
theorem sideB_bd {n : Int} (h : sideB n = true) : n = 8 ∨ n = 16 ∨ n = 24 ∨ n = 32 := by
  unfold sideB at h
  simp only [Bool.and_eq_true, decide_eq_true_eq, beq_iff_eq] at h
  omega
theorem sideB_of {n : Int} (h : n = 8 ∨ n = 16 ∨ n = 24 ∨ n = 32) : sideB n = true := by
  rcases h with rfl | rfl | rfl | rfl <;> decide
structure May (W H : Int) (pix : List Int) : Prop where
  w : W = 8 ∨ W = 16 ∨ W = 24 ∨ W = 32
  h : H = 8 ∨ H = 16 ∨ H = 24 ∨ H = 32
  len : (pix.length : Int) = W * H
  pix : withinB pix 0 255 = true
theorem mayB_iff {W H : Int} {pix : List Int} : mayB W H pix = true ↔ May W H pix := by
  unfold mayB
  simp only [Bool.and_eq_true, decide_eq_true_eq]
  constructor
  · rintro ⟨h1, h2, h3, h4⟩; exact ⟨sideB_bd h1, sideB_bd h2, h3, h4⟩
  · rintro ⟨h1, h2, h3, h4⟩; exact ⟨sideB_of h1, sideB_of h2, h3, h4⟩
theorem May.bd {W H : Int} {pix : List Int} (h : May W H pix) : 64 ≤ pix.length ∧ pix.length ≤ 1024 := by
  obtain ⟨h1, h2, h3, _⟩ := h
  rcases h1 with rfl | rfl | rfl | rfl <;> rcases h2 with rfl | rfl | rfl | rfl <;> omega
def clampV (v n : Int) : Int := min (max v 0) (n - 1)
theorem clampV_bd {n : Int} (h : 8 ≤ n) (v : Int) : 0 ≤ clampV v n ∧ clampV v n < n := by unfold clampV; omega
def atN (W H x y : Int) : Nat := (clampV y H * W + clampV x W).toNat
def atV (W H : Int) (pix : List Int) (x y : Int) : Int := pix.getD (atN W H x y) 0
theorem atN_lt {W H : Int} {pix : List Int} (h : May W H pix) (x y : Int) : 0 ≤ clampV y H * W + clampV x W ∧ clampV y H * W + clampV x W < pix.length ∧ 0 ≤ clampV y H * W ∧ clampV y H * W ≤ 1024 := by
  obtain ⟨h1, h2, h3, _⟩ := h
  have hx := clampV_bd (n := W) (by omega) x
  have hy := clampV_bd (n := H) (by omega) y
  rw [h3]
  generalize clampV x W = a at *
  generalize clampV y H = b at *
  rcases h1 with rfl | rfl | rfl | rfl <;> rcases h2 with rfl | rfl | rfl | rfl <;> omega
theorem atV_bd {W H : Int} {pix : List Int} (h : May W H pix) (x y : Int) : 0 ≤ atV W H pix x y ∧ atV W H pix x y ≤ 255 := within_get h.pix (by omega) (by omega) _
/-- Squares. -/
def getAt (W H : Int) (pix : List Int) (x y : Int) (n k : Nat) : Int := atV W H pix (x + (k % n : Nat)) (y + (k / n : Nat))
def getV (W H : Int) (pix : List Int) (x y : Int) (n : Nat) : List Int := mapTo (getAt W H pix x y n) (n * n)
theorem length_getV (W H : Int) (pix : List Int) (x y : Int) (n : Nat) : (getV W H pix x y n).length = n * n := length_mapTo ..
theorem getV_within {W H : Int} {pix : List Int} (h : May W H pix) (x y : Int) (n : Nat) : withinB (getV W H pix x y n) 0 255 = true := by
  unfold getV; rw [within_mapTo]; intro i _; exact atV_bd h _ _
/-- May it be asked for a square? -/
def getB (W H : Int) (pix : List Int) (x y n : Int) : Bool := mayB W H pix && (decide (1 ≤ n) && (decide (n ≤ 8) && (decide (-65536 ≤ x) && (decide (x ≤ 65536) && (decide (-65536 ≤ y) && decide (y ≤ 65536))))))
def inB (W H x y n : Int) : Bool := decide (0 ≤ x) && (decide (0 ≤ y) && (decide (x ≤ W - n) && decide (y ≤ H - n)))
theorem mulmod {n j i : Nat} (h : i < n) : (j * n + i) % n = i ∧ (j * n + i) / n = j := by
  have hn : 0 < n := by omega
  constructor
  · rw [Nat.add_comm, Nat.add_mul_mod_self_right, Nat.mod_eq_of_lt h]
  · rw [Nat.add_comm, Nat.add_mul_div_right _ _ hn, Nat.div_eq_of_lt h, Nat.zero_add]
theorem getAt_at {W H : Int} {pix : List Int} {x y : Int} {n j i : Nat} (h : i < n) : getAt W H pix x y n (j * n + i) = atV W H pix (x + i) (y + j) := by
  unfold getAt; rw [(mulmod h).1, (mulmod h).2]

/-- The square b laid at x, y: its first k places. -/
def layAt (W x y n k : Nat) (b pix : List Int) (p : Nat) : Int :=
  if y ≤ p / W ∧ p / W < y + n ∧ x ≤ p % W ∧ p % W < x + n ∧ (p / W - y) * n + (p % W - x) < k then b.getD ((p / W - y) * n + (p % W - x)) 0 else pix.getD p 0
def layTo (W x y n k : Nat) (b pix : List Int) : List Int := mapTo (layAt W x y n k b pix) pix.length
def layV (W x y n : Nat) (b pix : List Int) : List Int := layTo W x y n (n * n) b pix
theorem length_layTo (W x y n k : Nat) (b pix : List Int) : (layTo W x y n k b pix).length = pix.length := length_mapTo ..
theorem layTo_zero (W x y n : Nat) (b pix : List Int) : layTo W x y n 0 b pix = pix := by
  unfold layTo
  rw [mapTo_congr (g := fun i => pix.getD i 0) fun i _ => by unfold layAt; rw [if_neg (by omega)]]
  exact mapTo_self pix
/-- The place of a square's number. -/
def spot (W x y n k : Nat) : Nat := (y + k / n) * W + (x + k % n)
theorem spot_lt {W x y n k : Nat} (hx : x + n ≤ W) (hn : 0 < n) : spot W x y n k / W = y + k / n ∧ spot W x y n k % W = x + k % n := by
  have hm := Nat.mod_lt k hn
  unfold spot
  have := mulmod (n := W) (j := y + k / n) (i := x + k % n) (by omega)
  exact ⟨this.2, this.1⟩
theorem at_spot {W x y n p : Nat} (hx : x + n ≤ W) (hn : 0 < n) (h1 : y ≤ p / W) (h2 : x ≤ p % W) (h3 : p % W < x + n) {k : Nat} (hk : (p / W - y) * n + (p % W - x) = k) : p = spot W x y n k := by
  have hm := mulmod (n := n) (j := p / W - y) (i := p % W - x) (by omega)
  unfold spot
  rw [← hk, hm.1, hm.2]
  have := Nat.div_add_mod p W
  rw [show y + (p / W - y) = p / W from by omega, show x + (p % W - x) = p % W from by omega, Nat.mul_comm (p / W)]
  omega
theorem layTo_succ {W x y n k : Nat} {b pix : List Int} (hx : x + n ≤ W) (hn : 0 < n) (hk : k < n * n) (hs : spot W x y n k < pix.length) :
    layTo W x y n (k + 1) b pix = (layTo W x y n k b pix).set (spot W x y n k) (b.getD k 0) := by
  have hm := Nat.mod_lt k hn
  have hd : k / n < n := Nat.div_lt_of_lt_mul hk
  have hsp := spot_lt (y := y) (k := k) hx hn
  have hdm := Nat.div_add_mod k n
  refine ext_list (by simp [length_layTo]) fun p hp => ?_
  rw [length_layTo] at hp
  rw [getD_setL, length_layTo]
  unfold layTo
  rw [getD_mapTo hp, getD_mapTo hp]
  by_cases e : spot W x y n k = p
  · subst e
    rw [if_pos ⟨rfl, hs⟩]
    unfold layAt
    rw [hsp.1, hsp.2, Nat.add_sub_cancel_left, Nat.add_sub_cancel_left, Nat.mul_comm (k / n), hdm]
    exact if_pos ⟨Nat.le_add_right .., Nat.add_lt_add_left hd y, Nat.le_add_right .., Nat.add_lt_add_left hm x, Nat.lt_succ_self k⟩
  · rw [if_neg (fun q => e q.1)]
    unfold layAt
    by_cases h : y ≤ p / W ∧ p / W < y + n ∧ x ≤ p % W ∧ p % W < x + n
    · by_cases h2 : (p / W - y) * n + (p % W - x) = k
      · exact absurd (at_spot hx hn h.1 h.2.2.1 h.2.2.2 h2).symm e
      · by_cases h3 : (p / W - y) * n + (p % W - x) < k
        · rw [if_pos ⟨h.1, h.2.1, h.2.2.1, h.2.2.2, by omega⟩, if_pos ⟨h.1, h.2.1, h.2.2.1, h.2.2.2, h3⟩]
        · rw [if_neg (fun q => by omega), if_neg (fun q => h3 q.2.2.2.2)]
    · rw [if_neg (fun q => h ⟨q.1, q.2.1, q.2.2.1, q.2.2.2.1⟩), if_neg (fun q => h ⟨q.1, q.2.1, q.2.2.1, q.2.2.2.1⟩)]

/-! ### how unlike -/
def fbothE (W H : Int) (a : List Int) (W2 H2 : Int) (b : List Int) : Int := if mayB W H a && mayB W2 H2 b then (if W = W2 ∧ H = H2 then 0 else 14) else 2
def peakTo (a b : List Int) : Nat → Int
  | 0 => 0
  | k + 1 => max (peakTo a b k) (absD (a.getD k 0) (b.getD k 0))
theorem peakTo_succ (a b : List Int) (k : Nat) : peakTo a b (k + 1) = max (peakTo a b k) (absD (a.getD k 0) (b.getD k 0)) := rfl
theorem peakTo_bd {a b : List Int} (ha : withinB a 0 255 = true) (hb : withinB b 0 255 = true) (k : Nat) : 0 ≤ peakTo a b k ∧ peakTo a b k ≤ 255 := by
  induction k with
  | zero => simp [peakTo]
  | succ k ih =>
    have h1 := within_get ha (by omega) (by omega) k
    have h2 := within_get hb (by omega) (by omega) k
    rw [peakTo_succ]; unfold absD; omega
theorem peakTo_comm (a b : List Int) (k : Nat) : peakTo a b k = peakTo b a k := by
  induction k with
  | zero => rfl
  | succ k ih => rw [peakTo_succ, peakTo_succ, ih, absD_comm]
theorem peakTo_ge (a b : List Int) {k j : Nat} (h : j < k) : absD (a.getD j 0) (b.getD j 0) ≤ peakTo a b k := by
  induction k with
  | zero => omega
  | succ k ih =>
    rw [peakTo_succ]
    by_cases e : j = k
    · subst e; omega
    · have := ih (by omega); omega
theorem peakTo_le {a b : List Int} {k : Nat} : peakTo a b k ≤ sumOf k fun i => absD (a.getD i 0) (b.getD i 0) := by
  induction k with
  | zero => exact Int.le_refl _
  | succ k ih =>
    rw [peakTo_succ, sumOf_succ]
    have := absD_nonneg (a.getD k 0) (b.getD k 0)
    have : 0 ≤ sumOf k fun i => absD (a.getD i 0) (b.getD i 0) := sumOf_nonneg fun i _ => absD_nonneg _ _
    omega
theorem sum_le_peak {a b : List Int} {n : Nat} : (sumOf n fun i => absD (a.getD i 0) (b.getD i 0)) ≤ peakTo a b n * n := by
  have := sumOf_le (n := n) (f := fun i => absD (a.getD i 0) (b.getD i 0)) (g := fun _ => peakTo a b n) fun i hi => peakTo_ge a b hi
  rw [sumOf_const, Int.mul_comm] at this
  exact this
theorem peak_zero {a b : List Int} (h : a.length = b.length) : peakTo a b a.length = 0 ↔ a = b := by
  constructor
  · intro e
    refine ext_list h fun i hi => absD_zero.1 ?_
    have := peakTo_ge a b hi
    have := absD_nonneg (a.getD i 0) (b.getD i 0)
    omega
  · intro e
    subst e
    have h1 := peakTo_le (a := a) (b := a) (k := a.length)
    rw [sumOf_congr (g := fun _ => 0) (fun i _ => absD_zero.2 rfl), sumOf_const] at h1
    have : ∀ k, 0 ≤ peakTo a a k := fun k => by
      induction k with
      | zero => exact Int.le_refl _
      | succ k ih => rw [peakTo_succ]; omega
    have := this a.length
    omega
end Go.Proofs.YtmdpfjjbehpnbaaDoor
