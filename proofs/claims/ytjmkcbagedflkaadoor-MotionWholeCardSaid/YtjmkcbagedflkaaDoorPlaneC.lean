/- plane.size, Sum, Peak; kinref6.Sum, Peak: contracts. -/
import Derived.Test.YtjmkcbagedflkaaDoorPlaneB
import Derived.Laws.Cover1
set_option linter.unusedSimpArgs false
set_option linter.unusedVariables false
namespace Go.Proofs.YtjmkcbagedflkaaDoor
open Go.RowKit

theorem fsum_bd {a b : List Int} (ha : withinB a 0 255 = true) (hb : withinB b 0 255 = true) (k : Nat) : 0 ≤ sumOf k (fun i => absD (a.getD i 0) (b.getD i 0)) ∧ sumOf k (fun i => absD (a.getD i 0) (b.getD i 0)) ≤ k * 255 := by
  have := sumOf_bd (n := k) (f := fun i => absD (a.getD i 0) (b.getD i 0)) (lo := 0) (hi := 255) fun i _ => by
    have h1 := within_get ha (by omega) (by omega) i
    have h2 := within_get hb (by omega) (by omega) i
    unfold absD; omega
  omega
theorem absD_bd {x y : Int} (h : 0 ≤ x ∧ x ≤ 255) (h' : 0 ≤ y ∧ y ≤ 255) : 0 ≤ absD x y ∧ absD x y ≤ 255 := by unfold absD; omega
theorem peak_step {a b : List Int} {k : Nat} {x y s z : Int} (hs : peakTo a b k = s) (hx : a.getD k 0 = x) (hy : b.getD k 0 = y) (hz : max s (absD x y) = z) : z = peakTo a b (k + 1) := by
  rw [peakTo_succ, hs, hx, hy, hz]
theorem sum_step {a b : List Int} {k : Nat} {x y s : Int} (hs : sumOf k (fun i => absD (a.getD i 0) (b.getD i 0)) = s) (hx : a.getD k 0 = x) (hy : b.getD k 0 = y) : s + absD x y = sumOf (k + 1) (fun i => absD (a.getD i 0) (b.getD i 0)) := by
  rw [sumOf_succ, hs, hx, hy]





end Go.Proofs.YtjmkcbagedflkaaDoor
