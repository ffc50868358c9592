/- The transform in plain Lean: butterflies are linear, so what they do is what they do to the unit lists; there and back. -/
set_option linter.unusedSimpArgs false
set_option linter.unusedVariables false
namespace Go.Proofs.YtkiigodkbmcpfaaDoor.T

def sumTo : Nat → (Nat → Int) → Int
  | 0, _ => 0
  | k + 1, f => sumTo k f + f k
theorem sumTo_congr {n : Nat} {f g : Nat → Int} (h : ∀ i, i < n → f i = g i) : sumTo n f = sumTo n g := by
  induction n with
  | zero => rfl
  | succ k ih => simp only [sumTo]; rw [ih (fun i hi => h i (by omega)), h k (by omega)]

def bfly (h i : Nat) (l : List Int) : List Int :=
  if i &&& h = 0 then (l.set i (l.getD i 0 + l.getD (i ||| h) 0)).set (i ||| h) (l.getD i 0 - l.getD (i ||| h) 0) else l
def stage (h n k : Nat) (l : List Int) : List Int := (List.range k).foldl (fun l i => bfly h i l) l
def lg (n : Nat) : Nat := if n = 16 then 4 else if n = 64 then 6 else 0
def turnTo (m : Nat) (l : List Int) : List Int := (List.range m).foldl (fun x q => stage (2 ^ q) l.length l.length x) l
def turnL (l : List Int) : List Int := turnTo (lg l.length) l

theorem length_bfly (h i : Nat) (l : List Int) : (bfly h i l).length = l.length := by unfold bfly; split <;> simp
theorem stage_succ (h n k : Nat) (l : List Int) : stage h n (k + 1) l = bfly h k (stage h n k l) := by
  simp [stage, List.range_succ, List.foldl_append]
theorem length_stage (h n k : Nat) (l : List Int) : (stage h n k l).length = l.length := by
  induction k with
  | zero => rfl
  | succ k ih => rw [stage_succ, length_bfly, ih]
theorem turnTo_succ (m : Nat) (l : List Int) : turnTo (m + 1) l = stage (2 ^ m) l.length l.length (turnTo m l) := by
  simp [turnTo, List.range_succ, List.foldl_append]
theorem length_turnTo (m : Nat) (l : List Int) : (turnTo m l).length = l.length := by
  induction m with
  | zero => rfl
  | succ k ih => rw [turnTo_succ, length_stage, ih]
theorem length_turnL (l : List Int) : (turnL l).length = l.length := length_turnTo _ _

/-- c a + d b, place by place. -/
def cmb (c d : Int) (a b : List Int) : List Int := List.zipWith (fun x y => c * x + d * y) a b
theorem length_cmb {c d : Int} {a b : List Int} {n : Nat} (ha : a.length = n) (hb : b.length = n) : (cmb c d a b).length = n := by simp [cmb, ha, hb]
theorem getD_cmb {c d : Int} {a b : List Int} (h : a.length = b.length) (i : Nat) : (cmb c d a b).getD i 0 = c * a.getD i 0 + d * b.getD i 0 := by
  by_cases hi : i < a.length
  · simp [cmb, List.getD, List.getElem?_zipWith, hi, h ▸ hi]
  · have h2 : b.length ≤ i := by omega
    have h1 : a.length ≤ i := by omega
    simp [cmb, List.getD, List.getElem?_zipWith, List.getElem?_eq_none h1, List.getElem?_eq_none h2]
theorem ext_getD {a b : List Int} (hl : a.length = b.length) (h : ∀ i, i < a.length → a.getD i 0 = b.getD i 0) : a = b := by
  apply List.ext_getElem hl
  intro i h1 h2
  have := h i h1
  simpa [List.getD, h1, h2] using this
theorem getD_set (l : List Int) (i j : Nat) (x : Int) : (l.set i x).getD j 0 = if i = j ∧ j < l.length then x else l.getD j 0 := by
  simp only [List.getD, List.getElem?_set]
  by_cases h : i = j
  · subst h
    by_cases h2 : i < l.length
    · simp [h2]
    · simp [h2]
  · simp [h]

/-- A map of lists of length n that is linear. -/
def Lin (n : Nat) (F : List Int → List Int) : Prop := (∀ a, a.length = n → (F a).length = n) ∧ ∀ a b, a.length = n → b.length = n → ∀ c d : Int, F (cmb c d a b) = cmb c d (F a) (F b)
theorem Lin.comp {n : Nat} {F G : List Int → List Int} (hF : Lin n F) (hG : Lin n G) : Lin n (fun l => G (F l)) :=
  ⟨fun a ha => hG.1 _ (hF.1 a ha), fun a b ha hb c d => by show G (F _) = _; rw [hF.2 a b ha hb, hG.2 _ _ (hF.1 a ha) (hF.1 b hb)]⟩
theorem lin_bfly {n h i : Nat} : Lin n (bfly h i) := by
  refine ⟨fun a ha => by rw [length_bfly, ha], fun a b ha hb c d => ?_⟩
  apply ext_getD
  · rw [length_bfly, length_cmb ha hb, length_cmb (by rw [length_bfly, ha]) (by rw [length_bfly, hb])]
  · intro j hj
    have hab : a.length = b.length := by omega
    rw [getD_cmb (by rw [length_bfly, length_bfly]; exact hab)]
    unfold bfly
    by_cases hh : i &&& h = 0
    · simp only [if_pos hh, getD_set, List.length_set, getD_cmb hab, length_cmb ha hb, ha, hb]
      have e1 : c * (a.getD i 0 - a.getD (i ||| h) 0) = c * a.getD i 0 - c * a.getD (i ||| h) 0 := Int.mul_sub ..
      have e2 : d * (b.getD i 0 - b.getD (i ||| h) 0) = d * b.getD i 0 - d * b.getD (i ||| h) 0 := Int.mul_sub ..
      have e3 : c * (a.getD i 0 + a.getD (i ||| h) 0) = c * a.getD i 0 + c * a.getD (i ||| h) 0 := Int.mul_add ..
      have e4 : d * (b.getD i 0 + b.getD (i ||| h) 0) = d * b.getD i 0 + d * b.getD (i ||| h) 0 := Int.mul_add ..
      split
      · rw [e1, e2]; omega
      · split
        · rw [e3, e4]; omega
        · rfl
    · simp only [if_neg hh, getD_cmb hab]
theorem lin_stage {n h m k : Nat} : Lin n (stage h m k) := by
  induction k with
  | zero => exact ⟨fun _ h => h, fun _ _ _ _ _ _ => rfl⟩
  | succ k ih =>
    have := ih.comp (lin_bfly (n := n) (h := h) (i := k))
    exact ⟨fun a ha => by rw [stage_succ]; exact this.1 a ha, fun a b ha hb c d => by rw [stage_succ, stage_succ, stage_succ]; exact this.2 a b ha hb c d⟩
theorem lin_turnTo {n m : Nat} : Lin n (turnTo m) := by
  induction m with
  | zero => exact ⟨fun _ h => h, fun _ _ _ _ _ _ => rfl⟩
  | succ k ih =>
    refine ⟨fun a ha => by rw [length_turnTo, ha], fun a b ha hb c d => ?_⟩
    have h := (lin_stage (n := n) (h := 2 ^ k) (m := n) (k := n)).2 (turnTo k a) (turnTo k b) (ih.1 a ha) (ih.1 b hb) c d
    rw [turnTo_succ, turnTo_succ, turnTo_succ, length_cmb ha hb, ha, hb, ih.2 a b ha hb]
    exact h
theorem lin_turn {n : Nat} : Lin n turnL := by
  have h := lin_turnTo (n := n) (m := lg n)
  refine ⟨fun a ha => by rw [length_turnL, ha], fun a b ha hb c d => ?_⟩
  have := h.2 a b ha hb c d
  unfold turnL
  rw [length_cmb ha hb, ha, hb]
  exact this

/-- The unit list. -/
def unit (n i : Nat) : List Int := (List.replicate n 0).set i 1
theorem length_unit (n i : Nat) : (unit n i).length = n := by simp [unit]
/-- The first k of b, then noughts. -/
def part (n k : Nat) (b : List Int) : List Int := (List.range n).map fun i => if i < k then b.getD i 0 else 0
theorem length_part (n k : Nat) (b : List Int) : (part n k b).length = n := by simp [part]
theorem getD_part {n k i : Nat} {b : List Int} (hi : i < n) : (part n k b).getD i 0 = if i < k then b.getD i 0 else 0 := by
  simp [part, List.getD, hi]
theorem part_succ {n k : Nat} {b : List Int} (hk : k < n) : part n (k + 1) b = cmb 1 (b.getD k 0) (part n k b) (unit n k) := by
  apply ext_getD
  · rw [length_part, length_cmb (length_part ..) (length_unit ..)]
  · intro i hi
    rw [length_part] at hi
    rw [getD_cmb (by rw [length_part, length_unit]), getD_part hi, getD_part hi]
    have e : (unit n k).getD i 0 = if k = i then 1 else 0 := by
      unfold unit
      rw [getD_set]
      by_cases h : k = i
      · subst h; simp [hi]
      · simp [h, List.getD, hi]
    rw [e]
    by_cases h1 : i < k
    · rw [if_pos (by omega), if_pos h1, if_neg (by omega)]; simp
    · by_cases h2 : k = i
      · subst h2; rw [if_pos (by omega), if_neg (by omega), if_pos rfl]; simp
      · rw [if_neg (by omega), if_neg h1, if_neg h2]; simp
theorem part_all {n : Nat} {b : List Int} (h : b.length = n) : part n n b = b := by
  apply ext_getD (by rw [length_part, h])
  intro i hi
  rw [length_part] at hi
  rw [getD_part hi, if_pos hi]
theorem part_none {n : Nat} {F : List Int → List Int} (hF : Lin n F) {b : List Int} (j : Nat) : (F (part n 0 b)).getD j 0 = 0 := by
  have e : part n 0 b = cmb 0 0 (part n 0 b) (part n 0 b) := by
    apply ext_getD (by rw [length_part, length_cmb (length_part ..) (length_part ..)])
    intro i hi
    rw [length_part] at hi
    rw [getD_cmb rfl, getD_part hi]; simp
  rw [e, hF.2 _ _ (length_part ..) (length_part ..), getD_cmb rfl]; simp
/-- WHAT A LINEAR MAP DOES IS WHAT IT DOES TO THE UNIT LISTS. -/
theorem lin_sum {n : Nat} {F : List Int → List Int} (hF : Lin n F) (b : List Int) (hb : b.length = n) (j : Nat) : (F b).getD j 0 = sumTo n fun i => b.getD i 0 * (F (unit n i)).getD j 0 := by
  have key : ∀ k, k ≤ n → (F (part n k b)).getD j 0 = sumTo k fun i => b.getD i 0 * (F (unit n i)).getD j 0 := by
    intro k
    induction k with
    | zero => intro _; rw [part_none hF]; rfl
    | succ k ih =>
      intro hk
      rw [part_succ (by omega), hF.2 _ _ (length_part ..) (length_unit ..), getD_cmb (by rw [hF.1 _ (length_part ..), hF.1 _ (length_unit ..)]), ih (by omega)]
      simp [sumTo]
  have := key n (Nat.le_refl _)
  rwa [part_all hb] at this

/-- The sign of u and x, both 0 to 7. -/
def sgn (u x : Nat) : Int :=
  let f (k : Nat) (s : Int) : Int := if (u >>> k) % 2 = 1 ∧ (x >>> k) % 2 = 1 then -s else s
  f 2 (f 1 (f 0 1))
/-- The sign in a square of side s. -/
def sq (s j i : Nat) : Int := sgn (j % s) (i % s) * sgn (j / s) (i / s)
end Go.Proofs.YtkiigodkbmcpfaaDoor.T
