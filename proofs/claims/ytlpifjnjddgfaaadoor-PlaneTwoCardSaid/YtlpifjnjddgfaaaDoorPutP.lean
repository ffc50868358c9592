/- Squares laid in plain Lean: what was laid is taken, all else stays, twice is once, the order does not matter; Put whole. -/
import Derived.Test.YtlpifjnjddgfaaaDoorPutB
set_option linter.unusedSimpArgs false
set_option linter.unusedVariables false
namespace Go.Proofs.YtlpifjnjddgfaaaDoor
open Go.RowKit

theorem lay_in {W x y n p : Nat} (h1 : y ≤ p / W) (h2 : p / W < y + n) (h3 : x ≤ p % W) (h4 : p % W < x + n) : (p / W - y) * n + (p % W - x) < n * n := by
  have : (p / W - y + 1) * n ≤ n * n := Nat.mul_le_mul_right _ (by omega)
  rw [Nat.succ_mul] at this
  omega
theorem layV_at {W x y n : Nat} {b pix : List Int} {p : Nat} (hp : p < pix.length) :
    (layV W x y n b pix).getD p 0 = if y ≤ p / W ∧ p / W < y + n ∧ x ≤ p % W ∧ p % W < x + n then b.getD ((p / W - y) * n + (p % W - x)) 0 else pix.getD p 0 := by
  unfold layV layTo
  rw [getD_mapTo hp]
  unfold layAt
  by_cases h : y ≤ p / W ∧ p / W < y + n ∧ x ≤ p % W ∧ p % W < x + n
  · rw [if_pos h, if_pos ⟨h.1, h.2.1, h.2.2.1, h.2.2.2, lay_in h.1 h.2.1 h.2.2.1 h.2.2.2⟩]
  · rw [if_neg h, if_neg (fun q => h ⟨q.1, q.2.1, q.2.2.1, q.2.2.2.1⟩)]
theorem length_layV (W x y n : Nat) (b pix : List Int) : (layV W x y n b pix).length = pix.length := length_layTo ..
theorem Fit.lay {W H x y n : Nat} {pix b : List Int} (h : Fit W H x y n pix b) : May W H (layV W x y n b pix) := by
  refine ⟨h.may.w, h.may.h, by rw [length_layV]; exact h.may.len, ?_⟩
  unfold layV layTo
  rw [within_mapTo]
  intro p _
  unfold layAt
  split
  · exact within_get h.b (by omega) (by omega) _
  · exact within_get h.may.pix (by omega) (by omega) _
theorem Fit.on {W H x y n u v : Nat} {pix b c : List Int} (h : Fit W H x y n pix b) (k : Fit W H u v n pix c) : Fit W H u v n (layV W x y n b pix) c :=
  ⟨h.lay, k.n1, k.n2, k.xn, k.yn, k.len, k.b⟩
theorem atN_nat {W H i j : Nat} (hi : i < W) (hj : j < H) : atN W H i j = j * W + i := by
  unfold atN
  rw [show clampV (j : Int) H = j from by unfold clampV; omega, show clampV (i : Int) W = i from by unfold clampV; omega]
  have : ((j * W + i : Nat) : Int) = (j : Int) * W + i := by simp
  rw [← this]; rfl
theorem Fit.get {W H x y n : Nat} {pix b : List Int} (h : Fit W H x y n pix b) : getV W H (layV W x y n b pix) x y n = b := by
  unfold getV
  refine ext_list (by rw [length_mapTo, h.len]) fun k hk => ?_
  rw [length_mapTo] at hk
  rw [getD_mapTo hk]
  unfold getAt atV
  have hm := Nat.mod_lt k h.n1
  have hd : k / n < n := Nat.div_lt_of_lt_mul hk
  have hx := h.xn
  have hy := h.yn
  rw [show (x : Int) + (k % n : Nat) = ((x + k % n : Nat) : Int) from by simp, show (y : Int) + (k / n : Nat) = ((y + k / n : Nat) : Int) from by simp, atN_nat (by omega) (by omega)]
  have hs : (y + k / n) * W + (x + k % n) = Proofs.YtlpifjnjddgfaaaDoor.spot W x y n k := rfl
  rw [hs, layV_at (h.spot hk)]
  have hsp := spot_lt (y := y) (k := k) h.xn h.n1
  have hc : y ≤ y + k / n ∧ y + k / n < y + n ∧ x ≤ x + k % n ∧ x + k % n < x + n := ⟨Nat.le_add_right .., Nat.add_lt_add_left hd y, Nat.le_add_right .., Nat.add_lt_add_left hm x⟩
  rw [hsp.1, hsp.2, if_pos hc, Nat.add_sub_cancel_left, Nat.add_sub_cancel_left, Nat.mul_comm, Nat.div_add_mod]
theorem Fit.stay {W H x y n i j : Nat} {pix b : List Int} (h : Fit W H x y n pix b) (hi : i < W) (hj : j < H) (ho : ¬ (x ≤ i ∧ i < x + n ∧ y ≤ j ∧ j < y + n)) :
    atV W H (layV W x y n b pix) i j = atV W H pix i j := by
  unfold atV
  have hm := mulmod (n := W) (j := j) (i := i) hi
  have hlt : j * W + i < pix.length := by
    rw [h.bd.2.2.2.2]
    have : (j + 1) * W ≤ H * W := Nat.mul_le_mul_right _ hj
    rw [Nat.succ_mul, Nat.mul_comm H] at this
    omega
  rw [atN_nat hi hj, layV_at hlt, hm.1, hm.2, if_neg (fun q => ho ⟨q.2.2.1, q.2.2.2, q.1, q.2.1⟩)]
theorem lay_twice (W x y n : Nat) (b pix : List Int) : layV W x y n b (layV W x y n b pix) = layV W x y n b pix := by
  refine ext_list (by simp only [length_layV]) fun p hp => ?_
  have h1 : p < (layV W x y n b pix).length := by rw [length_layV] at hp; exact hp
  have h2 : p < pix.length := by rw [length_layV] at h1; exact h1
  rw [layV_at h1, layV_at h2]
  split <;> rfl
theorem lay_comm {W x y u v n : Nat} (b c pix : List Int) (ho : ¬ (u < x + n ∧ x < u + n ∧ v < y + n ∧ y < v + n)) :
    layV W u v n c (layV W x y n b pix) = layV W x y n b (layV W u v n c pix) := by
  refine ext_list (by simp only [length_layV]) fun p hp => ?_
  have h1 : p < (layV W x y n b pix).length := by rw [length_layV] at hp; exact hp
  have h2 : p < pix.length := by rw [length_layV] at h1; exact h1
  have h3 : p < (layV W u v n c pix).length := by rw [length_layV]; exact h2
  rw [layV_at h1, layV_at h3, layV_at h2, layV_at h2]
  by_cases q1 : v ≤ p / W ∧ p / W < v + n ∧ u ≤ p % W ∧ p % W < u + n
  · rw [if_pos q1, if_neg (fun q2 => ho ⟨by omega, by omega, by omega, by omega⟩), if_pos q1]
  · rw [if_neg q1, if_neg q1]

/-! ### Put whole -/
def layI (W x y n : Int) (b pix : List Int) : List Int := layV W.toNat x.toNat y.toNat n.toNat b pix
def putP (W H : Int) (pix : List Int) (x y n : Int) (b : List Int) : List Int := if putE W H pix x y n b = 0 then layI W x y n b pix else []
def putS (W H : Int) (pix : List Int) (x y n : Int) (b : List Int) (s : Int) : Int := if putE W H pix x y n b = 0 then s else 0
theorem putS_in {W H : Int} {pix : List Int} {x y n : Int} {b : List Int} {s : Int} (h : in64 s) : in64 (putS W H pix x y n b s) := by
  unfold putS; split
  · exact h
  · unfold in64; omega
theorem pput_any (v bv : Value) (W H : Int) (pix : List Int) (x y n : Int) (b : List Int) (w : World) (hv : FrameV w v W H pix) (hb : Ints w bv b) :
    Calls Tryd.prog 20 #[v, .int .i64 x, .int .i64 y, .int .i64 n, bv] w fun e w' => ∃ p, e = .returned (.tuple #[.agg #[.int .i64 (putS W H pix x y n b W), .int .i64 (putS W H pix x y n b H), p], errV (putE W H pix x y n b)]) ∧ OwnInts w' w.heap.size p (putP W H pix x y n b) ∧ Below w.heap.size w w' := by
  by_cases h : putE W H pix x y n b = 0
  · obtain ⟨W', H', x', y', n', rfl, rfl, rfl, rfl, rfl⟩ := put_nat h
    unfold putS putP layI
    rw [if_pos h, if_pos h, if_pos h, h]
    exact pput_ok v bv W' H' x' y' n' pix b w hv hb (fit_iff.1 h)
  · unfold putS putP
    rw [if_neg h, if_neg h, if_neg h]
    refine (pput_no v bv W H pix x y n b w hv hb h).mono ?_
    rintro e w1 ⟨rfl, hb1⟩
    exact ⟨_, rfl, OwnInts.nil _ _, hb1⟩
theorem rput_any (v bv : Value) (W H : Int) (pix : List Int) (x y n : Int) (b : List Int) (w : World) (hv : FrameV w v W H pix) (hb : Ints w bv b) :
    Calls Tryd.prog 21 #[v, .int .i64 x, .int .i64 y, .int .i64 n, bv] w fun e w' => ∃ p, e = .returned (.tuple #[.agg #[.int .i64 (putS W H pix x y n b W), .int .i64 (putS W H pix x y n b H), p], .agg #[.int .i64 (putE W H pix x y n b), .slice none 0 0]]) ∧ OwnInts w' w.heap.size p (putP W H pix x y n b) ∧ Below w.heap.size w w' := by
  by_cases h : putE W H pix x y n b = 0
  · obtain ⟨W', H', x', y', n', rfl, rfl, rfl, rfl, rfl⟩ := put_nat h
    unfold putS putP layI
    rw [if_pos h, if_pos h, if_pos h, h]
    exact rput_ok v bv W' H' x' y' n' pix b w hv hb (fit_iff.1 h)
  · unfold putS putP
    rw [if_neg h, if_neg h, if_neg h]
    refine (rput_no v bv W H pix x y n b w hv hb h).mono ?_
    rintro e w1 ⟨rfl, hb1⟩
    exact ⟨_, rfl, OwnInts.nil _ _, hb1⟩
end Go.Proofs.YtlpifjnjddgfaaaDoor
