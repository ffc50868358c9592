/- Lists of numbers that are written out in the program. -/
import Derived.Test.YtammgbohaaiicaaDoorInts
import Derived.Test.YtammgbohaaiicaaDoorErrs
import Derived.Lib.Hide
set_option linter.unusedSimpArgs false
set_option linter.unusedVariables false
namespace Go.Proofs.YtammgbohaaiicaaDoor
open Go.RowKit

def inAll (xs : List Int) : Bool := xs.all fun x => decide (-9223372036854775808 ≤ x) && decide (x ≤ 9223372036854775807)
theorem in64_of {xs : List Int} (h : inAll xs = true) : ∀ x ∈ xs, in64 x := by
  intro x hx
  have := List.all_eq_true.1 h x hx
  simp only [Bool.and_eq_true, decide_eq_true_eq] at this
  exact this
/-- A list that is written out. -/
theorem own_lit (w : World) (N : Nat) (hN : N = w.heap.size) (xs : List Int) (h : inAll xs = true) (hl : decide (xs.length ≤ 1000) = true) :
    OwnInts (w.alloc (.cells (xs.map (Value.int .i64)).toArray 3)) w.heap.size (.slice (some ⟨N, 0, none⟩) xs.length xs.length) xs := by
  subst hN
  exact ⟨by simpa using World.ownsRow_lit (base := w.heap.size) (e := 3) (size := 1) w (xs.map (Value.int .i64)).toArray xs.length (Nat.le_refl _) (by have := of_decide_eq_true hl; unfold maxLen; omega) (by simp), in64_of h⟩
theorem ints_lit (w : World) (N : Nat) (hN : N = w.heap.size) (xs : List Int) (h : inAll xs = true) (hl : decide (xs.length ≤ 1000) = true) :
    Ints (w.alloc (.cells (xs.map (Value.int .i64)).toArray 3)) (.slice (some ⟨N, 0, none⟩) xs.length xs.length) xs := (own_lit w N hN xs h hl).ints
theorem two_lits (w : World) (xs ys : List Int) (h : inAll xs = true) (hl : decide (xs.length ≤ 1000) = true) (h' : inAll ys = true) (hl' : decide (ys.length ≤ 1000) = true) :
    Ints ((w.alloc (.cells (xs.map (Value.int .i64)).toArray 3)).alloc (.cells (ys.map (Value.int .i64)).toArray 3)) (.slice (some ⟨w.heap.size, 0, none⟩) xs.length xs.length) xs ∧
    Ints ((w.alloc (.cells (xs.map (Value.int .i64)).toArray 3)).alloc (.cells (ys.map (Value.int .i64)).toArray 3)) (.slice (some ⟨w.heap.size + 1, 0, none⟩) ys.length ys.length) ys :=
  ⟨(ints_lit w _ rfl xs h hl).ext ((Below.refl _ _).alloc (Nat.le_refl _) _), ints_lit _ _ (by simp) ys h' hl'⟩
theorem one_below {w w' : World} {o : Obj} (h : Below (w.alloc o).heap.size (w.alloc o) w') : Below w.heap.size w w' := ext ((Below.refl _ _).alloc (Nat.le_refl _) _) h
theorem two_below {w w' : World} {o o' : Obj} (h : Below ((w.alloc o).alloc o').heap.size ((w.alloc o).alloc o') w') : Below w.heap.size w w' := ext (((Below.refl _ _).alloc (Nat.le_refl _) _).alloc (by simp) _) h
end Go.Proofs.YtammgbohaaiicaaDoor
