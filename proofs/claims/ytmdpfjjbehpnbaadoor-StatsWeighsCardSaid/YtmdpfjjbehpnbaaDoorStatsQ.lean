/- What is in a frame is no more than how unlike it is to another one; one sample has nothing in it. -/
import Derived.Test.YtmdpfjjbehpnbaaDoorStatsF
set_option linter.unusedSimpArgs false
set_option linter.unusedVariables false
namespace Go.Proofs.YtmdpfjjbehpnbaaDoor

theorem sumOf_split (n : Nat) (f : Nat → Int) : ∀ m, sumOf (m * n) f = sumOf m fun j => sumOf n fun i => f (j * n + i)
  | 0 => by rw [Nat.zero_mul]; rfl
  | m + 1 => by
    have ih := sumOf_split n f m
    rw [sumOf_succ, ← ih, show (m + 1) * n = m * n + n from by rw [Nat.add_mul, Nat.one_mul]]
    generalize m * n = a
    clear ih
    induction n with
    | zero => simp [sumOf_zero]
    | succ n ih => rw [show a + (n + 1) = (a + n) + 1 from rfl, sumOf_succ, ih, sumOf_succ]; omega
theorem sumOf_swap (m n : Nat) (f : Nat → Nat → Int) : (sumOf m fun j => sumOf n fun i => f j i) = sumOf n fun i => sumOf m fun j => f j i := by
  induction m with
  | zero => rw [sumOf_zero]; show 0 = sumOf n fun _ => 0; rw [sumOf_const]; simp
  | succ m ih =>
    rw [sumOf_succ, ih, ← sumOf_add]
    rfl
theorem atV_mem' {W H : Int} {pix : List Int} (h : May W H pix) (x y : Int) : ∃ j, j < pix.length ∧ atV W H pix x y = pix.getD j 0 := by
  have := atN_lt h x y
  exact ⟨atN W H x y, by unfold atN; omega, rfl⟩
theorem sum64 (g : Nat → Int) : sumOf 64 g = sumOf 8 fun y => sumOf 8 fun x => g (y * 8 + x) := sumOf_split 8 g 8
theorem sum_rows (C R : Nat) (F : Nat → Int) : sumOf (R * 8 * (C * 8)) F = sumOf R fun j => sumOf C fun i => sumOf 8 fun y => sumOf 8 fun x => F ((j * 8 + y) * (C * 8) + (i * 8 + x)) := by
  rw [sumOf_split (C * 8) F (R * 8), sumOf_split 8 _ R]
  refine sumOf_congr fun j _ => ?_
  rw [← sumOf_swap 8 C fun y i => sumOf 8 fun x => F ((j * 8 + y) * (C * 8) + (i * 8 + x))]
  refine sumOf_congr fun y _ => ?_
  exact sumOf_split 8 (fun i => F ((j * 8 + y) * (C * 8) + i)) C
/-- All squares together are the frame. -/
theorem sum_squares (C R : Nat) (F : Nat → Int) :
    (sumOf (R * C) fun k => sumOf 64 fun i => F ((k / C * 8 + i / 8) * (8 * C) + (k % C * 8 + i % 8))) = sumOf (8 * R * (8 * C)) F := by
  rw [show 8 * R * (8 * C) = R * 8 * (C * 8) from by rw [Nat.mul_comm 8 R, Nat.mul_comm 8 C], sum_rows, sumOf_split C _ R]
  refine sumOf_congr fun j _ => sumOf_congr fun i hi => ?_
  rw [sum64]
  refine sumOf_congr fun y _ => sumOf_congr fun x hx => ?_
  rw [(mulmod hi).1, (mulmod hi).2, (mulmod hx).1, (mulmod hx).2, Nat.mul_comm 8 C]
theorem sqA_at {W H : Int} {pix : List Int} (hm : May W H pix) {C R : Nat} (hW : W = 8 * C) (hH : H = 8 * R) (hC : W.toNat / 8 = C) {k i : Nat} (hk : k < R * C) (hc : 0 < C) (hi : i < 64) :
    (sqA W H pix k).getD i 0 = pix.getD ((k / C * 8 + i / 8) * (8 * C) + (k % C * 8 + i % 8)) 0 := by
  have h1 : k / C < R := Nat.div_lt_of_lt_mul (by rw [Nat.mul_comm]; exact hk)
  have h2 := Nat.mod_lt k hc
  have h3 : i / 8 < 8 := by omega
  have h4 := Nat.mod_lt i (show 0 < 8 by omega)
  unfold sqA getV
  rw [hC, getD_mapTo (show i < 8 * 8 by omega)]
  unfold getAt atV atN clampV
  congr 1
  have e1 : ((k % C * 8 : Nat) : Int) + ((i % 8 : Nat) : Int) = ((k % C * 8 + i % 8 : Nat) : Int) := by omega
  have e2 : ((k / C * 8 : Nat) : Int) + ((i / 8 : Nat) : Int) = ((k / C * 8 + i / 8 : Nat) : Int) := by omega
  rw [e1, e2]
  have x1 : k % C * 8 + i % 8 < 8 * C := by omega
  have y1 : k / C * 8 + i / 8 < 8 * R := by omega
  generalize k % C * 8 + i % 8 = X at *
  generalize k / C * 8 + i / 8 = Y at *
  have eX : min (max (X : Int) 0) (W - 1) = X := by omega
  have eY : min (max (Y : Int) 0) (H - 1) = Y := by omega
  rw [eX, eY, hW]
  have : ((Y : Int) * (8 * (C : Int)) + (X : Int)) = ((Y * (8 * C) + X : Nat) : Int) := by simp
  rw [this]; rfl
theorem outV_le_sad {f p : Fr} (h : unlE f p = 0) : outV f p ≤ sadV f.pix p.pix := by
  obtain ⟨h1, h2, h3, h4⟩ := fboth_zero h
  obtain ⟨C, R, hW, hH, c1, -, -, -, hC, hN, -⟩ := h1.sides
  have h2' : May f.W f.H p.pix := by rw [h3, h4]; exact h2
  unfold outV
  rw [if_pos h, hN, Nat.mul_comm C R]
  have hl : f.pix.length = 8 * R * (8 * C) := by
    have := h1.len
    rw [hW, hH] at this
    have e : (8 * (C : Int)) * (8 * (R : Int)) = ((8 * R * (8 * C) : Nat) : Int) := by simp; rw [Int.mul_comm]
    rw [e] at this
    omega
  unfold sadV
  rw [hl, ← sum_squares C R]
  unfold outTo
  refine sumOf_le fun k hk => ?_
  refine Int.le_trans (Int.min_le_left _ _) (Int.le_of_eq ?_)
  unfold sadV
  rw [length_sqA]
  refine sumOf_congr fun i hi => ?_
  rw [sqA_at h1 hW hH hC hk (by omega) hi, sqA_at h2' hW hH hC hk (by omega) hi]
theorem flat_sum {b : List Int} {v : Int} (h : ∀ i, i < b.length → b.getD i 0 = v) : (sumOf b.length fun i => b.getD i 0) = b.length * v := by
  rw [sumOf_congr h, sumOf_const]
theorem inV_flat {b : List Int} {v : Int} (hl : b.length = 64) (h : ∀ i, i < b.length → b.getD i 0 = v) : inV b = 0 := by
  have hm : meanV b = v := by unfold meanV; rw [flat_sum h, hl]; omega
  unfold inV
  rw [hm, sumOf_congr (g := fun _ => 0) fun i hi => by rw [h i hi]; exact absD_zero.2 rfl, sumOf_const]; simp
theorem innV_flat {f : Fr} {v : Int} (h : withinB f.pix v v = true) : innV f = 0 := by
  unfold innV
  split
  · rename_i hm
    have hm := mayB_iff.1 hm
    obtain ⟨C, R, hW, hH, c1, -, -, -, hC, hN, -⟩ := hm.sides
    unfold inTo
    rw [hN, Nat.mul_comm C R, sumOf_congr (g := fun _ => 0) fun k hk => ?_, sumOf_const]
    · simp
    · refine inV_flat (v := v) (length_sqA ..) fun i hi => ?_
      rw [length_sqA] at hi
      obtain ⟨j, hj, e⟩ := atV_mem' hm (((k % (f.W.toNat / 8) * 8 : Nat) : Int) + ((i % 8 : Nat) : Int)) (((k / (f.W.toNat / 8) * 8 : Nat) : Int) + ((i / 8 : Nat) : Int))
      have hw := within_iff.1 h j hj
      unfold sqA getV
      rw [getD_mapTo (show i < 8 * 8 by omega)]
      unfold getAt
      rw [e]; omega
  · rfl
end Go.Proofs.YtmdpfjjbehpnbaaDoor
