/- Stats in plain Lean: what is in a square, in a frame, in a frame beside another one; weights. -/
import Derived.Test.YtmdpfjjbehpnbaaDoorSceneP
import Derived.Test.YtmdpfjjbehpnbaaDoorPlaneE
set_option linter.unusedSimpArgs false
set_option linter.unusedVariables false
namespace Go.Proofs.YtmdpfjjbehpnbaaDoor

def meanV (b : List Int) : Int := (32 + sumOf b.length fun i => b.getD i 0) / 64
def inV (b : List Int) : Int := sumOf b.length fun i => absD (b.getD i 0) (meanV b)
theorem sumB_bd {b : List Int} (h : withinB b 0 255 = true) (k : Nat) : 0 ≤ sumOf k (fun i => b.getD i 0) ∧ sumOf k (fun i => b.getD i 0) ≤ k * 255 := by
  induction k with
  | zero => exact ⟨Int.le_refl 0, Int.le_refl 0⟩
  | succ k ih =>
    have := within_get h (by omega) (by omega) k
    rw [sumOf_succ]; omega
theorem meanV_bd {b : List Int} (h : withinB b 0 255 = true) (hl : b.length ≤ 64) : 0 ≤ meanV b ∧ meanV b ≤ 255 := by
  have := sumB_bd h b.length
  unfold meanV
  constructor
  · exact Int.ediv_nonneg (by omega) (by omega)
  · omega
theorem inTo_bd {b : List Int} (h : withinB b 0 255 = true) (hl : b.length ≤ 64) (k : Nat) : 0 ≤ sumOf k (fun i => absD (b.getD i 0) (meanV b)) ∧ sumOf k (fun i => absD (b.getD i 0) (meanV b)) ≤ k * 255 := by
  induction k with
  | zero => exact ⟨Int.le_refl 0, Int.le_refl 0⟩
  | succ k ih =>
    have h1 := within_get h (by omega) (by omega) k
    have h2 := meanV_bd h hl
    have h3 := absD_bd (x := b.getD k 0) (y := meanV b) h1 h2
    rw [sumOf_succ]; omega
theorem inV_bd {b : List Int} (h : withinB b 0 255 = true) (hl : b.length ≤ 64) : 0 ≤ inV b ∧ inV b ≤ 16320 := by
  have := inTo_bd h hl b.length
  unfold inV; omega
/-- Square number k of a frame. -/
def sqA (W H : Int) (pix : List Int) (k : Nat) : List Int := getV W H pix (((k % (W.toNat / 8) * 8 : Nat)) : Int) (((k / (W.toNat / 8) * 8 : Nat)) : Int) 8
def sqN (W H : Int) : Nat := (W.toNat / 8) * (H.toNat / 8)
def sqL (W H : Int) (pix : List Int) (k : Nat) : List (List Int) := (List.range k).map (sqA W H pix)
theorem length_sqL (W H : Int) (pix : List Int) (k : Nat) : (sqL W H pix k).length = k := by simp [sqL]
theorem sqL_succ (W H : Int) (pix : List Int) (k : Nat) : sqL W H pix (k + 1) = sqL W H pix k ++ [sqA W H pix k] := by simp [sqL, List.range_succ]
theorem sqL_at (W H : Int) (pix : List Int) {k n : Nat} (h : k < n) : (sqL W H pix n).getD k [] = sqA W H pix k := by simp [sqL, h]
theorem length_sqA (W H : Int) (pix : List Int) (k : Nat) : (sqA W H pix k).length = 64 := length_getV ..
theorem sqA_within {W H : Int} {pix : List Int} (h : May W H pix) (k : Nat) : withinB (sqA W H pix k) 0 255 = true := getV_within h ..
/-- how much there is -/
def inTo (W H : Int) (pix : List Int) (k : Nat) : Int := sumOf k fun i => inV (sqA W H pix i)
def outTo (W H : Int) (a b : List Int) (k : Nat) : Int := sumOf k fun i => min (sadV (sqA W H a i) (sqA W H b i)) (inV (sqA W H a i))
def innE (f : Fr) : Int := if mayB f.W f.H f.pix then 0 else 2
def innV (f : Fr) : Int := if mayB f.W f.H f.pix then inTo f.W f.H f.pix (sqN f.W f.H) else 0
def outV (f p : Fr) : Int := if unlE f p = 0 then outTo f.W f.H f.pix p.pix (sqN f.W f.H) else 0
theorem inTo_succ (W H : Int) (pix : List Int) (k : Nat) : inTo W H pix (k + 1) = inTo W H pix k + inV (sqA W H pix k) := rfl
theorem outTo_succ (W H : Int) (a b : List Int) (k : Nat) : outTo W H a b (k + 1) = outTo W H a b k + min (sadV (sqA W H a k) (sqA W H b k)) (inV (sqA W H a k)) := rfl
theorem inTo_bounds {W H : Int} {pix : List Int} (h : May W H pix) : ∀ k, 0 ≤ inTo W H pix k ∧ inTo W H pix k ≤ k * 16320
  | 0 => ⟨Int.le_refl 0, Int.le_refl 0⟩
  | k + 1 => by
    have ih := inTo_bounds h k
    have := inV_bd (sqA_within h k) (by rw [length_sqA]; omega)
    rw [inTo_succ]; omega
theorem sadQ_bd {W H : Int} {a b : List Int} (ha : May W H a) (hb : May W H b) (k : Nat) : 0 ≤ sadV (sqA W H a k) (sqA W H b k) ∧ sadV (sqA W H a k) (sqA W H b k) ≤ 16320 := by
  have := fsum_bd (sqA_within ha k) (sqA_within hb k) (sqA W H a k).length
  unfold sadV
  rw [length_sqA] at *
  omega
theorem outTo_bounds {W H : Int} {a b : List Int} (ha : May W H a) (hb : May W H b) : ∀ k, 0 ≤ outTo W H a b k ∧ outTo W H a b k ≤ inTo W H a k
  | 0 => ⟨Int.le_refl 0, Int.le_refl 0⟩
  | k + 1 => by
    have ih := outTo_bounds ha hb k
    have h1 := inV_bd (sqA_within ha k) (by rw [length_sqA]; omega)
    have h2 := (sadQ_bd ha hb k).1
    rw [inTo_succ, outTo_succ]; omega
/-- the sides of a frame in squares -/
theorem May.sides {W H : Int} {pix : List Int} (h : May W H pix) : ∃ C R : Nat, W = 8 * C ∧ H = 8 * R ∧ 1 ≤ C ∧ C ≤ 4 ∧ 1 ≤ R ∧ R ≤ 4 ∧ W.toNat / 8 = C ∧ sqN W H = C * R ∧ C * R ≤ 16 := by
  have hw := h.w; have hh := h.h
  refine ⟨W.toNat / 8, H.toNat / 8, by omega, by omega, by omega, by omega, by omega, by omega, rfl, rfl, ?_⟩
  have h1 : W.toNat / 8 ≤ 4 := by omega
  have h2 : H.toNat / 8 ≤ 4 := by omega
  calc W.toNat / 8 * (H.toNat / 8) ≤ 4 * 4 := Nat.mul_le_mul h1 h2
    _ = 16 := rfl
theorem innV_bd (f : Fr) : 0 ≤ innV f ∧ innV f ≤ 261120 := by
  unfold innV; split
  · rename_i hm
    have hm := mayB_iff.1 hm
    obtain ⟨C, R, -, -, -, -, -, -, -, e, hl⟩ := hm.sides
    have := inTo_bounds hm (sqN f.W f.H)
    rw [e] at *
    have : ((C * R : Nat) : Int) ≤ 16 := by omega
    omega
  · omega
theorem innE_of {f p : Fr} (h : unlE f p = 0) : innE f = 0 := by unfold innE; rw [mayB_iff.2 (fboth_zero h).1]; rfl
theorem outV_bd (f p : Fr) : 0 ≤ outV f p ∧ outV f p ≤ innV f := by
  unfold outV; split
  · rename_i h
    obtain ⟨h1, h2, h3, h4⟩ := fboth_zero h
    have hm := mayB_iff.2 h1
    have := outTo_bounds (b := p.pix) h1 (by rw [h3, h4]; exact h2) (sqN f.W f.H)
    unfold innV; rw [if_pos hm]; exact this
  · exact ⟨Int.le_refl 0, (innV_bd f).1⟩
theorem sadV_self (a : List Int) : sadV a a = 0 := by
  unfold sadV
  rw [sumOf_congr (g := fun _ => 0) fun i _ => absD_zero.2 rfl]
  generalize a.length = n
  induction n with
  | zero => rfl
  | succ n ih => rw [sumOf_succ, ih]; rfl
theorem outV_self (f : Fr) : outV f f = 0 := by
  unfold outV; split
  · rename_i h
    have hm := (fboth_zero h).1
    unfold outTo
    rw [sumOf_congr (g := fun _ => 0) fun i _ => by rw [sadV_self]; have := inV_bd (sqA_within hm i) (by rw [length_sqA]; omega); omega]
    generalize sqN f.W f.H = n
    induction n with
    | zero => rfl
    | succ n ih => rw [sumOf_succ, ih]; rfl
  · rfl
end Go.Proofs.YtmdpfjjbehpnbaaDoor
