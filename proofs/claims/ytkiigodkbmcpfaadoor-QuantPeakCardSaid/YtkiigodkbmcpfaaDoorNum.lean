/- Lists of numbers made place by place, summed; numbers clipped: plain laws. -/
import Derived.Test.YtkiigodkbmcpfaaDoorLists
set_option linter.unusedSimpArgs false
set_option linter.unusedVariables false
namespace Go.Proofs.YtkiigodkbmcpfaaDoor
open Go.RowKit

/-- The list of f 0, f 1, .. f (k - 1). -/
def mapTo (f : Nat → Int) (k : Nat) : List Int := (List.range k).map f
theorem length_mapTo (f : Nat → Int) (k : Nat) : (mapTo f k).length = k := by simp [mapTo]
theorem mapTo_zero (f : Nat → Int) : mapTo f 0 = [] := rfl
theorem mapTo_succ (f : Nat → Int) (k : Nat) : mapTo f (k + 1) = mapTo f k ++ [f k] := by simp [mapTo, List.range_succ]
theorem getD_mapTo {f : Nat → Int} {k j : Nat} (h : j < k) : (mapTo f k).getD j 0 = f j := by simp [mapTo, List.getD, h]
theorem mapTo_congr {f g : Nat → Int} {k : Nat} (h : ∀ i, i < k → f i = g i) : mapTo f k = mapTo g k :=
  List.map_congr_left fun i hi => h i (List.mem_range.1 hi)
theorem mem_mapTo {f : Nat → Int} {k : Nat} {x : Int} : x ∈ mapTo f k ↔ ∃ i, i < k ∧ f i = x := by simp [mapTo]
theorem ext_list {a b : List Int} (hl : a.length = b.length) (h : ∀ i, i < a.length → a.getD i 0 = b.getD i 0) : a = b := by
  apply List.ext_getElem hl
  intro i h1 h2
  have := h i h1
  simpa [List.getD, h1, h2] using this
theorem mapTo_self (xs : List Int) : mapTo (fun i => xs.getD i 0) xs.length = xs :=
  ext_list (length_mapTo ..) fun i hi => by rw [length_mapTo] at hi; exact getD_mapTo hi
theorem getD_past {xs : List Int} {j : Nat} (h : xs.length ≤ j) : xs.getD j 0 = 0 := by simp [List.getD, List.getElem?_eq_none h]
theorem getD_mem {xs : List Int} {j : Nat} (h : j < xs.length) : xs.getD j 0 ∈ xs := by
  simp [List.getD, h]
theorem mem_getD {xs : List Int} {x : Int} (h : x ∈ xs) : ∃ j, j < xs.length ∧ xs.getD j 0 = x := by
  obtain ⟨j, hj, e⟩ := List.mem_iff_getElem.1 h
  exact ⟨j, hj, by simp [List.getD, hj, e]⟩
theorem getD_setL (l : List Int) (i j : Nat) (x : Int) : (l.set i x).getD j 0 = if i = j ∧ j < l.length then x else l.getD j 0 := by
  simp only [List.getD, List.getElem?_set]
  by_cases h : i = j
  · subst h
    by_cases h2 : i < l.length
    · simp [h2]
    · simp [h2]
  · simp [h]
/-- A list that is laid over another one, place by place. -/
def overTo (f : Nat → Int) (b : List Int) (k : Nat) : List Int := mapTo (fun i => if i < k then f i else b.getD i 0) b.length
theorem length_overTo (f : Nat → Int) (b : List Int) (k : Nat) : (overTo f b k).length = b.length := length_mapTo ..
theorem overTo_zero (f : Nat → Int) (b : List Int) : overTo f b 0 = b := by
  unfold overTo
  rw [mapTo_congr (g := fun i => b.getD i 0) (fun i _ => by rw [if_neg (by omega)])]
  exact mapTo_self b
theorem overTo_succ {f : Nat → Int} {b : List Int} {k : Nat} (h : k < b.length) : (overTo f b k).set k (f k) = overTo f b (k + 1) := by
  refine ext_list (by simp [length_overTo]) fun i hi => ?_
  rw [List.length_set, length_overTo] at hi
  rw [getD_setL, length_overTo]
  unfold overTo
  rw [getD_mapTo hi, getD_mapTo hi]
  by_cases e : k = i
  · subst e; rw [if_pos ⟨rfl, hi⟩, if_pos (by omega)]
  · rw [if_neg (by omega)]
    by_cases e2 : i < k
    · rw [if_pos e2, if_pos (by omega)]
    · rw [if_neg e2, if_neg (by omega)]
theorem overTo_all {f : Nat → Int} {b : List Int} {n : Nat} (h : b.length = n) : overTo f b n = mapTo f n := by
  unfold overTo; rw [h]; exact mapTo_congr fun i hi => by rw [if_pos hi]
theorem getD_overTo {f : Nat → Int} {b : List Int} {k j : Nat} (h : j < b.length) : (overTo f b k).getD j 0 = if j < k then f j else b.getD j 0 := by
  unfold overTo; rw [getD_mapTo h]
theorem replicate_mapTo (n : Nat) (v : Int) : List.replicate n v = mapTo (fun _ => v) n := by
  refine ext_list (by simp [length_mapTo]) fun i hi => ?_
  rw [List.length_replicate] at hi
  rw [getD_mapTo hi]; simp [List.getD, hi]

/-! ### sums -/
def sumOf : Nat → (Nat → Int) → Int
  | 0, _ => 0
  | k + 1, f => sumOf k f + f k
theorem sumOf_zero (f : Nat → Int) : sumOf 0 f = 0 := rfl
theorem sumOf_succ (k : Nat) (f : Nat → Int) : sumOf (k + 1) f = sumOf k f + f k := rfl
theorem sumOf_congr {n : Nat} {f g : Nat → Int} (h : ∀ i, i < n → f i = g i) : sumOf n f = sumOf n g := by
  induction n with
  | zero => rfl
  | succ k ih => simp only [sumOf]; rw [ih (fun i hi => h i (by omega)), h k (by omega)]
theorem sumOf_le {n : Nat} {f g : Nat → Int} (h : ∀ i, i < n → f i ≤ g i) : sumOf n f ≤ sumOf n g := by
  induction n with
  | zero => exact Int.le_refl _
  | succ k ih => simp only [sumOf]; have := ih (fun i hi => h i (by omega)); have := h k (by omega); omega
theorem sumOf_add (n : Nat) (f g : Nat → Int) : sumOf n (fun i => f i + g i) = sumOf n f + sumOf n g := by
  induction n with
  | zero => rfl
  | succ k ih => simp only [sumOf]; rw [ih]; omega
theorem sumOf_const (n : Nat) (c : Int) : sumOf n (fun _ => c) = n * c := by
  induction n with
  | zero => simp [sumOf]
  | succ k ih => simp only [sumOf]; rw [ih, Int.natCast_add, Int.add_mul]; simp
theorem sumOf_bd {n : Nat} {f : Nat → Int} {lo hi : Int} (h : ∀ i, i < n → lo ≤ f i ∧ f i ≤ hi) : n * lo ≤ sumOf n f ∧ sumOf n f ≤ n * hi := by
  have h1 := sumOf_le (f := fun _ => lo) (g := f) fun i hi => (h i hi).1
  have h2 := sumOf_le (f := f) (g := fun _ => hi) fun i hi => (h i hi).2
  rw [sumOf_const] at h1 h2
  exact ⟨h1, h2⟩
theorem sumOf_nonneg {n : Nat} {f : Nat → Int} (h : ∀ i, i < n → 0 ≤ f i) : 0 ≤ sumOf n f := by
  have := sumOf_le (f := fun _ => 0) (g := f) h
  rw [sumOf_const] at this; omega
theorem sumOf_term {n : Nat} {f : Nat → Int} (h : ∀ i, i < n → 0 ≤ f i) {j : Nat} (hj : j < n) : f j ≤ sumOf n f := by
  induction n with
  | zero => omega
  | succ k ih =>
    simp only [sumOf]
    by_cases e : j = k
    · subst e; have := sumOf_nonneg (n := j) (f := f) fun i hi => h i (by omega); omega
    · have := ih (fun i hi => h i (by omega)) (by omega); have := h k (by omega); omega
theorem sumOf_eq_zero {n : Nat} {f : Nat → Int} (h : ∀ i, i < n → 0 ≤ f i) : sumOf n f = 0 ↔ ∀ i, i < n → f i = 0 := by
  constructor
  · intro e i hi
    have := sumOf_term h hi
    have := h i hi
    omega
  · intro e
    rw [sumOf_congr (g := fun _ => 0) e, sumOf_const]; simp

/-! ### within -/
theorem within_iff {xs : List Int} {a b : Int} : withinB xs a b = true ↔ ∀ i, i < xs.length → a ≤ xs.getD i 0 ∧ xs.getD i 0 ≤ b := by
  unfold withinB
  rw [List.all_eq_true]
  constructor
  · intro h i hi
    have := h _ (getD_mem hi)
    simpa using this
  · intro h x hx
    obtain ⟨j, hj, e⟩ := mem_getD hx
    have := h j hj
    rw [e] at this
    simpa using this
theorem within_get {xs : List Int} {a b : Int} (h : withinB xs a b = true) (ha : a ≤ 0) (hb : 0 ≤ b) (i : Nat) : a ≤ xs.getD i 0 ∧ xs.getD i 0 ≤ b := by
  by_cases hi : i < xs.length
  · exact within_iff.1 h i hi
  · rw [getD_past (by omega)]; exact ⟨ha, hb⟩
theorem within_mapTo {f : Nat → Int} {k : Nat} {a b : Int} : withinB (mapTo f k) a b = true ↔ ∀ i, i < k → a ≤ f i ∧ f i ≤ b := by
  rw [within_iff, length_mapTo]
  constructor
  · intro h i hi; have := h i hi; rwa [getD_mapTo hi] at this
  · intro h i hi; rw [getD_mapTo hi]; exact h i hi
theorem within_mono {xs : List Int} {a b c d : Int} (h : withinB xs a b = true) (h1 : c ≤ a) (h2 : b ≤ d) : withinB xs c d = true := by
  rw [within_iff] at h ⊢
  intro i hi; have := h i hi; omega
/-- Somewhere a number is not within. -/
def outB (a b x : Int) : Bool := decide (x < a) || decide (b < x)
theorem any_out (xs : List Int) (a b : Int) : xs.any (outB a b) = !withinB xs a b := by
  unfold withinB
  rw [List.not_all_eq_any_not]
  congr 1
  funext x
  unfold outB
  by_cases h1 : a ≤ x <;> by_cases h2 : x ≤ b <;> simp [h1, h2] <;> omega

/-! ### clipped -/
def clipV (v : Int) : Int := min (max v 0) 255
theorem clipV_bd (v : Int) : 0 ≤ clipV v ∧ clipV v ≤ 255 := by unfold clipV; omega
theorem clipV_id {v : Int} (h0 : 0 ≤ v) (h1 : v ≤ 255) : clipV v = v := by unfold clipV; omega
end Go.Proofs.YtkiigodkbmcpfaaDoor
