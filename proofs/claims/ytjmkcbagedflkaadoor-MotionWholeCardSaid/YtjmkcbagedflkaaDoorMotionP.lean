/- Squares moved by half samples, in plain Lean: half samples, costs, the search. -/
import Derived.Test.YtjmkcbagedflkaaDoorPlaneP
set_option linter.unusedSimpArgs false
set_option linter.unusedVariables false
namespace Go.Proofs.YtjmkcbagedflkaaDoor
open Go.RowKit

theorem i64_and_one (x : Int) : bits .and .i64 x 1 = x % 2 := by
  have h2 : (BitVec.ofInt 64 (1 : Int)).toNat = 1 := by decide
  have h1 : (BitVec.ofInt 64 x).toNat = (x % 18446744073709551616).toNat := by rw [BitVec.toNat_ofInt]; rfl
  show IntKind.i64.wrap ((BitVec.ofInt 64 x &&& BitVec.ofInt 64 1).toNat : Int) = _
  rw [BitVec.toNat_and, h1, h2, Nat.and_one_is_mod, IntKind.wrap_i64]
  omega

/-! ### half samples -/
def halfV (W H : Int) (pix : List Int) (hx hy : Int) : Int :=
  if hx % 2 = 0 then (if hy % 2 = 0 then atV W H pix (hx / 2) (hy / 2) else (atV W H pix (hx / 2) (hy / 2) + atV W H pix (hx / 2) (hy / 2 + 1) + 1) / 2)
  else if hy % 2 = 0 then (atV W H pix (hx / 2) (hy / 2) + atV W H pix (hx / 2 + 1) (hy / 2) + 1) / 2
  else (atV W H pix (hx / 2) (hy / 2) + atV W H pix (hx / 2 + 1) (hy / 2) + atV W H pix (hx / 2) (hy / 2 + 1) + atV W H pix (hx / 2 + 1) (hy / 2 + 1) + 2) / 4
theorem halfV_in {W H : Int} {pix : List Int} {lo hi : Int} (h : ∀ x y, lo ≤ atV W H pix x y ∧ atV W H pix x y ≤ hi) (hx hy : Int) : lo ≤ halfV W H pix hx hy ∧ halfV W H pix hx hy ≤ hi := by
  have h1 := h (hx / 2) (hy / 2)
  have h2 := h (hx / 2 + 1) (hy / 2)
  have h3 := h (hx / 2) (hy / 2 + 1)
  have h4 := h (hx / 2 + 1) (hy / 2 + 1)
  unfold halfV
  split
  · split
    · exact h1
    · omega
  · split
    · omega
    · omega
theorem halfV_bd {W H : Int} {pix : List Int} (h : May W H pix) (hx hy : Int) : 0 ≤ halfV W H pix hx hy ∧ halfV W H pix hx hy ≤ 255 := halfV_in (fun x y => atV_bd h x y) hx hy
theorem halfV_whole {W H : Int} {pix : List Int} (x y : Int) : halfV W H pix (2 * x) (2 * y) = atV W H pix x y := by
  unfold halfV
  rw [if_pos (by omega), if_pos (by omega), show 2 * x / 2 = x from by omega, show 2 * y / 2 = y from by omega]
theorem halfV_mid {W H : Int} {pix : List Int} (x y : Int) : halfV W H pix (2 * x + 1) (2 * y) = (atV W H pix x y + atV W H pix (x + 1) y + 1) / 2 := by
  unfold halfV
  rw [if_neg (by omega), if_pos (by omega), show (2 * x + 1) / 2 = x from by omega, show 2 * y / 2 = y from by omega]

/-! ### squares -/
def partB (n : Int) : Bool := decide (-15 ≤ n) && decide (n ≤ 15)
def vecB (vx vy : Int) : Bool := partB vx && partB vy
theorem partB_iff {n : Int} : partB n = true ↔ -15 ≤ n ∧ n ≤ 15 := by unfold partB; simp only [Bool.and_eq_true, decide_eq_true_eq]
theorem vecB_iff {x y : Int} : vecB x y = true ↔ (-15 ≤ x ∧ x ≤ 15) ∧ -15 ≤ y ∧ y ≤ 15 := by unfold vecB; rw [Bool.and_eq_true, partB_iff, partB_iff]
theorem vecB_of {x y : Int} (h : -15 ≤ x ∧ x ≤ 15 ∧ -15 ≤ y ∧ y ≤ 15) : vecB x y = true := vecB_iff.2 ⟨⟨h.1, h.2.1⟩, h.2.2⟩
def sqAt (W H : Int) (pix : List Int) (x y : Int) (n : Nat) (vx vy : Int) (k : Nat) : Int := halfV W H pix (2 * (x + (k % n : Nat)) + vx) (2 * (y + (k / n : Nat)) + vy)
def sqV (W H : Int) (pix : List Int) (x y : Int) (n : Nat) (vx vy : Int) : List Int := mapTo (sqAt W H pix x y n vx vy) (n * n)
theorem length_sqV (W H : Int) (pix : List Int) (x y : Int) (n : Nat) (vx vy : Int) : (sqV W H pix x y n vx vy).length = n * n := length_mapTo ..
theorem sqAt_at {W H : Int} {pix : List Int} {x y vx vy : Int} {n j i : Nat} (h : i < n) : sqAt W H pix x y n vx vy (j * n + i) = halfV W H pix (2 * (x + i) + vx) (2 * (y + j) + vy) := by
  unfold sqAt; rw [(mulmod h).1, (mulmod h).2]
theorem sqV_within {W H : Int} {pix : List Int} (h : May W H pix) (x y : Int) (n : Nat) (vx vy : Int) : withinB (sqV W H pix x y n vx vy) 0 255 = true := by
  unfold sqV; rw [within_mapTo]; intro i _; exact halfV_bd h _ _
/-- May a square be asked for? -/
def blkB (W H : Int) (pix : List Int) (x y n vx vy : Int) : Bool := mayB W H pix && (decide (n = 4 ∨ n = 8) && (decide (0 ≤ x ∧ x ≤ 32) && (decide (0 ≤ y ∧ y ≤ 32) && vecB vx vy)))
def blkV (W H : Int) (pix : List Int) (x y n vx vy : Int) : List Int := if blkB W H pix x y n vx vy then sqV W H pix x y n.toNat vx vy else []
theorem blkB_iff {W H : Int} {pix : List Int} {x y n vx vy : Int} : blkB W H pix x y n vx vy = true ↔ May W H pix ∧ (n = 4 ∨ n = 8) ∧ (0 ≤ x ∧ x ≤ 32) ∧ (0 ≤ y ∧ y ≤ 32) ∧ vecB vx vy = true := by
  unfold blkB; simp only [Bool.and_eq_true, decide_eq_true_eq, mayB_iff]
theorem blkV_yes {W H : Int} {pix : List Int} {x y n vx vy : Int} (h : blkB W H pix x y n vx vy = true) : blkV W H pix x y n vx vy = sqV W H pix x y n.toNat vx vy := by unfold blkV; rw [if_pos h]
theorem blkV_no {W H : Int} {pix : List Int} {x y n vx vy : Int} (h : blkB W H pix x y n vx vy = false) : blkV W H pix x y n vx vy = [] := by unfold blkV; rw [h]; rfl
/-- A WHOLE VECTOR TELLS THE SQUARE THAT STANDS THERE. -/
theorem sq_whole {W H : Int} {pix : List Int} (x y : Int) (n : Nat) (vx vy : Int) : sqV W H pix x y n (2 * vx) (2 * vy) = getV W H pix (x + vx) (y + vy) n := by
  unfold sqV getV
  refine mapTo_congr fun k _ => ?_
  unfold sqAt getAt
  rw [show 2 * (x + ((k % n : Nat) : Int)) + 2 * vx = 2 * (x + vx + ((k % n : Nat) : Int)) from by omega, show 2 * (y + ((k / n : Nat) : Int)) + 2 * vy = 2 * (y + vy + ((k / n : Nat) : Int)) from by omega]
  exact halfV_whole _ _
/-- A half one lies between the two whole ones beside it. -/
theorem sq_mid {W H : Int} {pix : List Int} (x y : Int) (n : Nat) (vx vy : Int) {k : Nat} (hk : k < n * n) :
    (sqV W H pix x y n (2 * vx + 1) (2 * vy)).getD k 0 = ((sqV W H pix x y n (2 * vx) (2 * vy)).getD k 0 + (sqV W H pix x y n (2 * vx + 2) (2 * vy)).getD k 0 + 1) / 2 := by
  unfold sqV
  rw [getD_mapTo hk, getD_mapTo hk, getD_mapTo hk]
  unfold sqAt
  rw [show 2 * (x + ((k % n : Nat) : Int)) + (2 * vx + 1) = 2 * (x + ((k % n : Nat) : Int) + vx) + 1 from by omega, show 2 * (x + ((k % n : Nat) : Int)) + 2 * vx = 2 * (x + ((k % n : Nat) : Int) + vx) from by omega,
    show 2 * (x + ((k % n : Nat) : Int)) + (2 * vx + 2) = 2 * (x + ((k % n : Nat) : Int) + vx + 1) from by omega, show 2 * (y + ((k / n : Nat) : Int)) + 2 * vy = 2 * (y + ((k / n : Nat) : Int) + vy) from by omega,
    halfV_mid, halfV_whole, halfV_whole]
theorem atV_mem {W H : Int} {pix : List Int} (h : May W H pix) (x y : Int) : ∃ j, j < pix.length ∧ atV W H pix x y = pix.getD j 0 := by
  have := atN_lt h x y
  exact ⟨atN W H x y, by unfold atN; omega, rfl⟩
/-- The least and the greatest of a list, from 255 and from 0. -/
def minTo (xs : List Int) : Nat → Int
  | 0 => 255
  | k + 1 => min (minTo xs k) (xs.getD k 0)
def maxTo (xs : List Int) : Nat → Int
  | 0 => 0
  | k + 1 => max (maxTo xs k) (xs.getD k 0)
theorem minTo_le (xs : List Int) {k j : Nat} (h : j < k) : minTo xs k ≤ xs.getD j 0 := by
  induction k with
  | zero => omega
  | succ k ih =>
    by_cases e : j = k
    · subst e; rw [minTo]; omega
    · have := ih (by omega); rw [minTo]; omega
theorem le_maxTo (xs : List Int) {k j : Nat} (h : j < k) : xs.getD j 0 ≤ maxTo xs k := by
  induction k with
  | zero => omega
  | succ k ih =>
    by_cases e : j = k
    · subst e; rw [maxTo]; omega
    · have := ih (by omega); rw [maxTo]; omega
theorem minmax_bd {xs : List Int} (h : withinB xs 0 255 = true) (k : Nat) : (0 ≤ minTo xs k ∧ minTo xs k ≤ 255) ∧ 0 ≤ maxTo xs k ∧ maxTo xs k ≤ 255 := by
  induction k with
  | zero => simp [minTo, maxTo]
  | succ k ih => have := within_get h (by omega) (by omega) k; rw [minTo, maxTo]; omega
theorem sq_minmax {W H : Int} {pix : List Int} (h : May W H pix) (x y : Int) (n : Nat) (vx vy : Int) : withinB (sqV W H pix x y n vx vy) (minTo pix pix.length) (maxTo pix pix.length) = true := by
  unfold sqV
  rw [within_mapTo]
  intro i _
  exact halfV_in (fun x y => by obtain ⟨j, hj, e⟩ := atV_mem h x y; rw [e]; exact ⟨minTo_le pix hj, le_maxTo pix hj⟩) _ _

/-! ### costs -/
def absV (x : Int) : Int := max x (-x)
def costE (a b : List Int) (vx vy : Int) : Int := if bothE a b = 0 then (if vecB vx vy then 0 else 3) else bothE a b
def costV (a b : List Int) (vx vy : Int) : Int := 4 * sadV a b + absV vx + absV vy
theorem costE_ok {a b : List Int} {vx vy : Int} (h : bothE a b = 0) (hv : vecB vx vy = true) : costE a b vx vy = 0 := by unfold costE; rw [if_pos h, hv]; rfl
/-- The cost of a square moved, of b 8 by 8. -/
def cstV (W H : Int) (pix b : List Int) (x y : Int) (v : Int × Int) : Int := costV (sqV W H pix x y 8 v.1 v.2) b v.1 v.2
theorem both_sq {W H : Int} {pix b : List Int} (h : May W H pix) (hl : b.length = 64) (hb : withinB b 0 255 = true) (x y vx vy : Int) : bothE (sqV W H pix x y 8 vx vy) b = 0 :=
  bothE_ok (by rw [length_sqV, hl]) (within_mono (sqV_within h x y 8 vx vy) (by omega) (by omega)) (within_mono hb (by omega) (by omega))
theorem cstV_bd {W H : Int} {pix b : List Int} (h : May W H pix) (hl : b.length = 64) (hb : withinB b 0 255 = true) (x y : Int) {v : Int × Int} (hv : vecB v.1 v.2 = true) : 0 ≤ cstV W H pix b x y v ∧ cstV W H pix b x y v ≤ 200000 := by
  have h1 := sad_bd (m := 255) (by omega) (within_mono (sqV_within h x y 8 v.1 v.2) (c := -255) (d := 255) (by omega) (by omega)) (within_mono hb (c := -255) (d := 255) (by omega) (by omega))
  rw [length_sqV] at h1
  obtain ⟨⟨h2, h3⟩, h4, h5⟩ := vecB_iff.1 hv
  unfold cstV costV absV
  omega
theorem cstV_nonneg (W H : Int) (pix b : List Int) (x y : Int) (v : Int × Int) : 0 ≤ cstV W H pix b x y v := by
  have := sad_nonneg (sqV W H pix x y 8 v.1 v.2) b
  unfold cstV costV absV; omega

/-! ### the search -/
/-- What is best so far: the vector, its cost. -/
abbrev Bst := (Int × Int) × Int
def stepV (c : Int × Int → Int) (s : Bst) (v : Int × Int) : Bst := if c v < s.2 then (v, c v) else s
def scanTo (c : Int × Int → Int) (f : Nat → Int × Int) (s : Bst) : Nat → Bst
  | 0 => s
  | k + 1 => stepV c (scanTo c f s k) (f k)
/-- A candidate that may be none. -/
def stepM (c : Int × Int → Int) (s : Bst) (v : Int × Int) : Bst := if vecB v.1 v.2 then stepV c s v else s
def scanM (c : Int × Int → Int) (f : Nat → Int × Int) (s : Bst) : Nat → Bst
  | 0 => s
  | k + 1 => stepM c (scanM c f s k) (f k)
theorem stepV_yes {c : Int × Int → Int} {s : Bst} {v : Int × Int} (h : c v < s.2) : stepV c s v = (v, c v) := by unfold stepV; rw [if_pos h]
theorem stepV_no {c : Int × Int → Int} {s : Bst} {v : Int × Int} (h : ¬ c v < s.2) : stepV c s v = s := by unfold stepV; rw [if_neg h]
theorem stepM_yes {c : Int × Int → Int} {s : Bst} {v : Int × Int} (h : vecB v.1 v.2 = true) : stepM c s v = stepV c s v := by unfold stepM; rw [if_pos h]
theorem stepM_no {c : Int × Int → Int} {s : Bst} {v : Int × Int} (h : vecB v.1 v.2 = false) : stepM c s v = s := by unfold stepM; rw [h]; rfl
/-- A cost that belongs to its vector. -/
def Fair (c : Int × Int → Int) (s : Bst) : Prop := s.2 = c s.1 ∧ vecB s.1.1 s.1.2 = true
theorem stepV_fair {c : Int × Int → Int} {s : Bst} {v : Int × Int} (h : Fair c s) (hv : vecB v.1 v.2 = true) : Fair c (stepV c s v) := by
  unfold stepV; split
  · exact ⟨rfl, hv⟩
  · exact h
theorem stepV_le (c : Int × Int → Int) (s : Bst) (v : Int × Int) : (stepV c s v).2 ≤ s.2 ∧ (stepV c s v).2 ≤ c v := by
  unfold stepV; split
  · simp only; omega
  · omega
theorem stepM_fair {c : Int × Int → Int} {s : Bst} {v : Int × Int} (h : Fair c s) : Fair c (stepM c s v) := by
  unfold stepM; split
  · rename_i e; exact stepV_fair h e
  · exact h
theorem stepM_le (c : Int × Int → Int) (s : Bst) (v : Int × Int) : (stepM c s v).2 ≤ s.2 := by
  unfold stepM; split
  · exact (stepV_le c s v).1
  · exact Int.le_refl _
theorem scanTo_fair {c : Int × Int → Int} {f : Nat → Int × Int} {s : Bst} (h : Fair c s) (k : Nat) (hf : ∀ i, i < k → vecB (f i).1 (f i).2 = true) : Fair c (scanTo c f s k) := by
  induction k with
  | zero => exact h
  | succ k ih => exact stepV_fair (ih fun i hi => hf i (by omega)) (hf k (by omega))
theorem scanM_fair {c : Int × Int → Int} {f : Nat → Int × Int} {s : Bst} (h : Fair c s) (k : Nat) : Fair c (scanM c f s k) := by
  induction k with
  | zero => exact h
  | succ k ih => exact stepM_fair ih
theorem scanTo_le (c : Int × Int → Int) (f : Nat → Int × Int) (s : Bst) (k : Nat) : (scanTo c f s k).2 ≤ s.2 ∧ ∀ i, i < k → (scanTo c f s k).2 ≤ c (f i) := by
  induction k with
  | zero => exact ⟨Int.le_refl _, fun i hi => by omega⟩
  | succ k ih =>
    have h := stepV_le c (scanTo c f s k) (f k)
    rw [scanTo]
    refine ⟨by omega, fun i hi => ?_⟩
    by_cases e : i = k
    · subst e; exact h.2
    · have := ih.2 i (by omega); omega
theorem scanM_le (c : Int × Int → Int) (f : Nat → Int × Int) (s : Bst) (k : Nat) : (scanM c f s k).2 ≤ s.2 := by
  induction k with
  | zero => exact Int.le_refl _
  | succ k ih => have := stepM_le c (scanM c f s k) (f k); rw [scanM]; omega
/-- Where nothing is left nothing gets better. -/
theorem scanTo_zero {c : Int × Int → Int} (hc : ∀ v, 0 ≤ c v) {f : Nat → Int × Int} {s : Bst} {k : Nat} (h : (scanTo c f s k).2 = 0) (n : Nat) (hn : k ≤ n) : scanTo c f s n = scanTo c f s k := by
  induction n with
  | zero => rw [show k = 0 by omega]
  | succ n ih =>
    by_cases e : k = n + 1
    · rw [e]
    · have := ih (by omega)
      rw [scanTo, this]
      exact stepV_no (by rw [h]; have := hc (f n); omega)
def wholeF (r : Nat) (k : Nat) : Int × Int := (2 * (((k % (2 * r + 1) : Nat) : Int) - r), 2 * (((k / (2 * r + 1) : Nat) : Int) - r))
def nearF (m : Int × Int) (k : Nat) : Int × Int := (m.1 + ((k % 3 : Nat) : Int) - 1, m.2 + ((k / 3 : Nat) : Int) - 1)
def firstS (c : Int × Int → Int) : Bst := ((0, 0), c (0, 0))
def wholeS (c : Int × Int → Int) (r : Nat) : Bst := scanTo c (wholeF r) (firstS c) ((2 * r + 1) * (2 * r + 1))
def searchS (c : Int × Int → Int) (r : Nat) : Bst := scanM c (nearF (wholeS c r).1) (wholeS c r) 9
theorem wholeF_vec {r : Nat} (hr : r ≤ 7) {k : Nat} (hk : k < (2 * r + 1) * (2 * r + 1)) : vecB (wholeF r k).1 (wholeF r k).2 = true := by
  have h1 := Nat.mod_lt k (show 0 < 2 * r + 1 by omega)
  have h2 : k / (2 * r + 1) < 2 * r + 1 := Nat.div_lt_of_lt_mul hk
  unfold wholeF
  generalize k % (2 * r + 1) = p at *
  generalize k / (2 * r + 1) = q at *
  exact vecB_of (by simp only; omega)
theorem firstS_fair (c : Int × Int → Int) : Fair c (firstS c) := ⟨rfl, by show vecB 0 0 = true; decide⟩
theorem wholeS_fair (c : Int × Int → Int) {r : Nat} (hr : r ≤ 7) : Fair c (wholeS c r) := scanTo_fair (firstS_fair c) _ fun _ hi => wholeF_vec hr hi
/-- NO WHOLE MOVE WITHIN REACH IS BETTER. -/
theorem searchS_law (c : Int × Int → Int) {r : Nat} (hr : r ≤ 7) : Fair c (searchS c r) ∧ (searchS c r).2 ≤ c (0, 0) ∧ ∀ vx vy : Int, -r ≤ vx → vx ≤ r → -r ≤ vy → vy ≤ r → (searchS c r).2 ≤ c (vx * 2, vy * 2) := by
  have h1 := scanM_le c (nearF (wholeS c r).1) (wholeS c r) 9
  have h2 := scanTo_le c (wholeF r) (firstS c) ((2 * r + 1) * (2 * r + 1))
  refine ⟨scanM_fair (wholeS_fair c hr) 9, Int.le_trans h1 h2.1, fun vx vy a1 a2 b1 b2 => ?_⟩
  obtain ⟨p, hp⟩ : ∃ p : Nat, (p : Int) = vx + r := ⟨(vx + r).toNat, by omega⟩
  obtain ⟨q, hq⟩ : ∃ q : Nat, (q : Int) = vy + r := ⟨(vy + r).toNat, by omega⟩
  have hm := mulmod (n := 2 * r + 1) (j := q) (i := p) (by omega)
  have hk : q * (2 * r + 1) + p < (2 * r + 1) * (2 * r + 1) := Nat.lt_of_lt_of_le (Nat.add_lt_add_left (show p < 2 * r + 1 by omega) _) (by rw [← Nat.succ_mul]; exact Nat.mul_le_mul_right _ (by omega))
  have h3 := h2.2 _ hk
  have e : wholeF r (q * (2 * r + 1) + p) = (vx * 2, vy * 2) := by
    unfold wholeF
    rw [hm.1, hm.2]
    exact Prod.ext (by simp only; omega) (by simp only; omega)
  rw [e] at h3
  exact Int.le_trans h1 h3
/-- The errors of a search. -/
def srchE (W H : Int) (pix b : List Int) (x y r : Int) : Int :=
  if mayB W H pix then (if (0 ≤ r ∧ r ≤ 7) ∧ inB W H x y 8 = true then (if b.length = 64 then (if withinB b 0 255 then 0 else 3) else 14) else 3) else 2
theorem srchE_zero {W H : Int} {pix b : List Int} {x y r : Int} (h : srchE W H pix b x y r = 0) : May W H pix ∧ (0 ≤ r ∧ r ≤ 7) ∧ inB W H x y 8 = true ∧ b.length = 64 ∧ withinB b 0 255 = true := by
  unfold srchE at h
  split at h
  · rename_i h1
    split at h
    · rename_i h2
      split at h
      · rename_i h3
        split at h
        · rename_i h4; exact ⟨mayB_iff.1 h1, h2.1, h2.2, h3, h4⟩
        · omega
      · omega
    · omega
  · omega
theorem srchE_ok {W H : Int} {pix b : List Int} {x y r : Int} (h1 : May W H pix) (h2 : 0 ≤ r ∧ r ≤ 7) (h3 : inB W H x y 8 = true) (h4 : b.length = 64) (h5 : withinB b 0 255 = true) : srchE W H pix b x y r = 0 := by
  unfold srchE; rw [if_pos (mayB_iff.2 h1), if_pos ⟨h2, h3⟩, if_pos h4, if_pos h5]
end Go.Proofs.YtjmkcbagedflkaaDoor
