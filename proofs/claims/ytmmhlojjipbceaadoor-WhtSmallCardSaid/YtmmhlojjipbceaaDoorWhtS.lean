/- The reference's sums in plain Lean. -/
import Derived.Test.YtmmhlojjipbceaaDoorWhtB
set_option linter.unusedSimpArgs false
set_option linter.unusedVariables false
namespace Go.Proofs.YtmmhlojjipbceaaDoor.T

def term (b : List Int) (n v u y x : Nat) : Int := b.getD (y * n + x) 0 * sgn u x * sgn v y
def row (b : List Int) (n v u y k : Nat) : Int := sumTo k fun x => term b n v u y x
def grid (b : List Int) (n v u k : Nat) : Int := sumTo k fun y => row b n v u y n
def entry (b : List Int) (n k : Nat) : Int := grid b n (k / n) (k % n) n
def sumsTo (b : List Int) (n k : Nat) : List Int := (List.range (n * n)).map fun i => if i < k then entry b n i else 0
theorem length_sumsTo (b : List Int) (n k : Nat) : (sumsTo b n k).length = n * n := by simp [sumsTo]
theorem getD_sumsTo {b : List Int} {n k i : Nat} (hi : i < n * n) : (sumsTo b n k).getD i 0 = if i < k then entry b n i else 0 := by
  simp [sumsTo, List.getD, hi]
theorem sumsTo_zero (b : List Int) (n : Nat) : sumsTo b n 0 = List.replicate (n * n) 0 := by
  apply ext_getD (by rw [length_sumsTo]; simp)
  intro i hi
  rw [length_sumsTo] at hi
  rw [getD_sumsTo hi, if_neg (by omega)]
  simp [List.getD, hi]
theorem sumsTo_open {b : List Int} {n k : Nat} (hk : k < n * n) : sumsTo b n k = (sumsTo b n k).set k 0 := by
  apply ext_getD (by simp)
  intro i hi
  rw [getD_set]
  split
  · rename_i h; rw [← h.1, getD_sumsTo hk, if_neg (by omega)]
  · rfl
theorem sumsTo_shut {b : List Int} {n v u : Nat} (hu : u < n) (hk : v * n + u < n * n) : (sumsTo b n (v * n + u)).set (v * n + u) (grid b n v u n) = sumsTo b n (v * n + u + 1) := by
  apply ext_getD (by simp [length_sumsTo])
  intro i hi
  rw [List.length_set, length_sumsTo] at hi
  rw [getD_set, getD_sumsTo hi, getD_sumsTo hi, length_sumsTo]
  by_cases h : v * n + u = i
  · subst h
    have e1 : (v * n + u) / n = v := by rw [Nat.mul_comm, Nat.mul_add_div (by omega), Nat.div_eq_of_lt hu, Nat.add_zero]
    have e2 : (v * n + u) % n = u := by rw [Nat.mul_comm, Nat.mul_add_mod, Nat.mod_eq_of_lt hu]
    rw [if_pos ⟨rfl, hi⟩, if_pos (by omega), entry, e1, e2]
  · rw [if_neg (fun x => h x.1)]
    by_cases h2 : i < v * n + u
    · rw [if_pos h2, if_pos (by omega)]
    · rw [if_neg h2, if_neg (by omega)]
theorem sgn_cases (u x : Nat) : sgn u x = 1 ∨ sgn u x = -1 := by
  unfold sgn
  simp only
  split <;> split <;> split <;> simp
theorem term_bd {b : List Int} {M : Int} (hb : Bd M b) (n v u y x : Nat) : -M ≤ term b n v u y x ∧ term b n v u y x ≤ M := by
  unfold term
  have := hb (y * n + x)
  rcases sgn_cases u x with h1 | h1 <;> rcases sgn_cases v y with h2 | h2 <;> rw [h1, h2] <;> omega
theorem sumTo_bd {f : Nat → Int} {M : Int} {k : Nat} (h : ∀ i, i < k → -M ≤ f i ∧ f i ≤ M) : -(k * M) ≤ sumTo k f ∧ sumTo k f ≤ k * M := by
  induction k with
  | zero => simp [sumTo]
  | succ k ih =>
    have h1 := ih (fun i hi => h i (by omega))
    have h2 := h k (by omega)
    have e : ((k + 1 : Nat) : Int) * M = k * M + M := by rw [Int.natCast_add, Int.add_mul]; simp
    rw [e]
    simp only [sumTo]
    omega
theorem row_bd {b : List Int} (hb : Bd 16777216 b) {n k : Nat} (hk : k ≤ 8) (v u y : Nat) : -134217728 ≤ row b n v u y k ∧ row b n v u y k ≤ 134217728 := by
  have := sumTo_bd (k := k) (M := 16777216) (f := fun x => term b n v u y x) (fun i _ => term_bd hb ..)
  unfold row
  omega
theorem grid_bd {b : List Int} (hb : Bd 16777216 b) {n k : Nat} (hn : n ≤ 8) (hk : k ≤ 8) (v u : Nat) : -1073741824 ≤ grid b n v u k ∧ grid b n v u k ≤ 1073741824 := by
  have := sumTo_bd (k := k) (M := 134217728) (f := fun y => row b n v u y n) (fun i _ => row_bd hb hn ..)
  unfold grid
  omega
theorem row_succ (b : List Int) (n v u y k : Nat) : row b n v u y (k + 1) = row b n v u y k + term b n v u y k := rfl
theorem grid_succ (b : List Int) (n v u k : Nat) : grid b n v u (k + 1) = grid b n v u k + row b n v u k n := rfl

/-- THE REFERENCE'S SUMS ARE THE BUTTERFLIES. -/
theorem nest (g : Nat → Int) (m n : Nat) : sumTo m (fun y => sumTo n fun x => g (y * n + x)) = sumTo (m * n) g := by
  have inner : ∀ (s k : Nat), sumTo (s + k) g = sumTo s g + sumTo k fun x => g (s + x) := by
    intro s k
    induction k with
    | zero => simp [sumTo]
    | succ k ih => rw [← Nat.add_assoc]; simp only [sumTo]; rw [ih]; omega
  induction m with
  | zero => simp [sumTo]
  | succ m ih => rw [Nat.succ_mul, inner, ← ih]; rfl
theorem sums_turn {b : List Int} {n : Nat} (hn : n = 4 ∨ n = 8) (hb : b.length = n * n) : sumsTo b n (n * n) = turnL b := by
  apply ext_getD (by rw [length_sumsTo, length_turnL, hb])
  intro j hj
  rw [length_sumsTo] at hj
  rw [getD_sumsTo hj, if_pos hj, lin_sum (lin_turn (n := n * n)) b hb j]
  unfold entry grid
  have e : ∀ y x, y < n → x < n → term b n (j / n) (j % n) y x = (fun i => b.getD i 0 * sq n j i) (y * n + x) := by
    intro y x hy hx
    have e1 : (y * n + x) / n = y := by rw [Nat.mul_comm, Nat.mul_add_div (by omega), Nat.div_eq_of_lt hx, Nat.add_zero]
    have e2 : (y * n + x) % n = x := by rw [Nat.mul_comm, Nat.mul_add_mod, Nat.mod_eq_of_lt hx]
    simp only [term, sq, e1, e2]
    rw [Int.mul_assoc]
  show (sumTo n fun y => sumTo n fun x => term b n (j / n) (j % n) y x) = _
  rw [sumTo_congr (g := fun y => sumTo n fun x => (fun i => b.getD i 0 * sq n j i) (y * n + x)) (fun y hy => sumTo_congr fun x hx => e y x hy hx)]
  refine (nest (fun i => b.getD i 0 * sq n j i) n n).trans ?_
  apply sumTo_congr
  intro i hi
  show b.getD i 0 * sq n j i = _
  congr 1
  rcases hn with rfl | rfl
  · rw [units16 i hi]; simp [List.getD, hj]
  · rw [units64 i hi]; simp [List.getD, hj]
end Go.Proofs.YtmmhlojjipbceaaDoor.T
