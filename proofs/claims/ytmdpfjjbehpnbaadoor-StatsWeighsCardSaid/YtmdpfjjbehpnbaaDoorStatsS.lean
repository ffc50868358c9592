/- Groups of equal length in plain Lean. -/
import Derived.Test.YtmdpfjjbehpnbaaDoorStatsQ
import Derived.Test.YtmdpfjjbehpnbaaDoorPix
set_option linter.unusedSimpArgs false
set_option linter.unusedVariables false
namespace Go.Proofs.YtmdpfjjbehpnbaaDoor

/-- The first k groups of q frames each over n frames. -/
def gpTo (q n k : Nat) : List (Int × Int) := (List.range k).map fun j => (((j * q : Nat) : Int), min (q : Int) ((n : Int) - ((j * q : Nat) : Int)))
theorem length_gpTo (q n k : Nat) : (gpTo q n k).length = k := by simp [gpTo]
theorem gpTo_succ (q n k : Nat) : gpTo q n (k + 1) = gpTo q n k ++ [(((k * q : Nat) : Int), min (q : Int) ((n : Int) - ((k * q : Nat) : Int)))] := by simp [gpTo, List.range_succ]
theorem gpTo_at (q n : Nat) {j k : Nat} (h : j < k) : (gpTo q n k).getD j (0, 0) = (((j * q : Nat) : Int), min (q : Int) ((n : Int) - ((j * q : Nat) : Int))) := by simp [gpTo, h]
theorem atT_gp {q n k : Nat} (hq : 0 < q) (hk : k * q ≤ n + q) : ∀ {j : Nat}, j ≤ k → atT (gpTo q n k) j = min ((j * q : Nat) : Int) (n : Int)
  | 0, _ => by simp [atT, sumOf]; omega
  | j + 1, h => by
    have ih := atT_gp hq hk (j := j) (by omega)
    have e : (j + 1) * q = j * q + q := by rw [Nat.add_mul, Nat.one_mul]
    rw [atT_succ, ih, gpTo_at q n (show j < k by omega), e]
    have : (j + 1) * q ≤ k * q := Nat.mul_le_mul h (Nat.le_refl q)
    show min ((j * q : Nat) : Int) (n : Int) + min (q : Int) ((n : Int) - ((j * q : Nat) : Int)) = _
    omega
theorem tiles_gp {q n K : Nat} (hq : 0 < q) (hn : 1 ≤ n) (hn16 : n ≤ 16) (h1 : n ≤ (K + 1) * q) (h2 : K * q < n) : Tiles (gpTo q n (K + 1)) n := by
  have hk : (K + 1) * q ≤ n + q := by rw [Nat.add_mul, Nat.one_mul]; omega
  refine ⟨fun j hj => ?_, ?_, hn, hn16⟩
  · rw [length_gpTo] at hj
    have hjq : j * q ≤ K * q := Nat.mul_le_mul (by omega) (Nat.le_refl q)
    rw [atT_gp hq hk (by omega), gpTo_at q n hj]
    show ((j * q : Nat) : Int) = _ ∧ 1 ≤ min (q : Int) _ ∧ min (q : Int) _ ≤ _
    omega
  · rw [length_gpTo, atT_gp hq hk (Nat.le_refl _)]
    omega
theorem no_tiles_gp {gs : List (Int × Int)} {n : Nat} (h : 16 < n) : ¬ Tiles gs n := fun t => by have := t.2.2.2; omega
theorem beg_gp {q n K : Nat} (hq : 0 < q) (h1 : n ≤ (K + 1) * q) {i : Nat} (hi : i < n) : begB (gpTo q n (K + 1)) i = decide (i % q = 0) := by
  cases hb : begB (gpTo q n (K + 1)) i with
  | true =>
    obtain ⟨j, hj, e⟩ := begB_iff.1 hb
    rw [length_gpTo] at hj
    rw [gpTo_at q n hj] at e
    have e' : ((j * q : Nat) : Int) = (i : Int) := e
    have : i = j * q := by omega
    rw [this, Nat.mul_mod_left]; rfl
  | false =>
    have : ¬ i % q = 0 := fun h0 => by
      have hd : i / q * q = i := Nat.div_mul_cancel (Nat.dvd_of_mod_eq_zero h0)
      have hj : i / q < K + 1 := Nat.div_lt_of_lt_mul (by rw [Nat.mul_comm]; omega)
      have hb2 : begB (gpTo q n (K + 1)) i = true := begB_iff.2 ⟨i / q, by rw [length_gpTo]; exact hj, by rw [gpTo_at q n hj]; show ((i / q * q : Nat) : Int) = i; rw [hd]⟩
      rw [hb2] at hb; cases hb
    rw [decide_eq_false this]
end Go.Proofs.YtmdpfjjbehpnbaaDoor
