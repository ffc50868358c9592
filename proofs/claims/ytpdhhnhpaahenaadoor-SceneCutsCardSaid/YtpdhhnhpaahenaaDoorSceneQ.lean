/- Groups in plain Lean: how many, which one a frame lies in. -/
import Derived.Test.YtpdhhnhpaahenaaDoorSceneF
set_option linter.unusedSimpArgs false
set_option linter.unusedVariables false
namespace Go.Proofs.YtpdhhnhpaahenaaDoor

/-- Where group k begins; behind the last: how many frames there are. -/
def stG (g : List (Int × Int)) (n k : Nat) : Int := if k < g.length then (g.getD k (0, 0)).1 else n
theorem GInv.st {fs : List Fr} {cut gop : Int} {g : List (Int × Int)} {n : Nat} (h : GInv fs cut gop g n) {k : Nat} (hk : k < g.length) :
    stG g n k = (g.getD k (0, 0)).1 ∧ stG g n (k + 1) = (g.getD k (0, 0)).1 + (g.getD k (0, 0)).2 := by
  refine ⟨if_pos hk, ?_⟩
  unfold stG
  by_cases h1 : k + 1 < g.length
  · rw [if_pos h1]; exact h.next k h1
  · rw [if_neg h1]
    have := h.last (by omega)
    unfold lastG at this
    rw [show g.length - 1 = k from by omega] at this
    exact this.symm
theorem GInv.st_zero {fs : List Fr} {cut gop : Int} {g : List (Int × Int)} {n : Nat} (h : GInv fs cut gop g n) : stG g n 0 = 0 := by
  unfold stG
  split
  · rename_i h0; exact h.zero h0
  · rename_i h0
    rcases Nat.eq_zero_or_pos n with e | e
    · rw [e]; rfl
    · exact absurd (h.pos e) h0
theorem GInv.st_all {fs : List Fr} {cut gop : Int} {g : List (Int × Int)} {n : Nat} : stG g n g.length = n := if_neg (by omega)
theorem GInv.below {fs : List Fr} {cut gop : Int} {g : List (Int × Int)} {n : Nat} (h : GInv fs cut gop g n) {a : Nat} : ∀ {b : Nat}, a < b → b < g.length → (g.getD a (0, 0)).1 + (g.getD a (0, 0)).2 ≤ (g.getD b (0, 0)).1
  | 0, h1, _ => by omega
  | b + 1, h1, h2 => by
    have hn := h.next b h2
    have hc := h.cnt b (by omega)
    rcases Nat.lt_or_ge a b with hab | hab
    · have := h.below hab (by omega)
      omega
    · obtain rfl : a = b := by omega
      omega
theorem inG_iff {p : Int × Int} {f : Int} : inG p f = true ↔ p.1 ≤ f ∧ f - p.1 < p.2 := by unfold inG; rw [Bool.and_eq_true, decide_eq_true_eq, decide_eq_true_eq]
theorem inG_no {p : Int × Int} {f : Int} (h : ¬ (p.1 ≤ f ∧ f - p.1 < p.2)) : inG p f = false := by
  cases e : inG p f with
  | false => rfl
  | true => exact absurd (inG_iff.1 e) h
theorem GInv.of {fs : List Fr} {cut gop : Int} {g : List (Int × Int)} {n : Nat} (h : GInv fs cut gop g n) {k : Nat} (hk : k < g.length) {f : Int} (hf : inG (g.getD k (0, 0)) f = true) : OfIs g f k := by
  refine .inl ⟨k, hk, rfl, hf, fun j hj => inG_no fun q => ?_⟩
  have := h.below hj hk
  have h2 := inG_iff.1 hf
  omega
theorem GInv.of_none {fs : List Fr} {cut gop : Int} {g : List (Int × Int)} {n : Nat} (h : GInv fs cut gop g n) : OfIs g n (-1) := by
  refine .inr ⟨rfl, fun j hj => inG_no fun q => ?_⟩
  have := h.fst j hj
  omega
theorem GInv.small {fs : List Fr} {cut gop : Int} {g : List (Int × Int)} {n : Nat} (h : GInv fs cut gop g n) (hn : n ≤ 16) : ∀ j, j < g.length → (0 ≤ (g.getD j (0, 0)).1 ∧ (g.getD j (0, 0)).1 ≤ 1000) ∧ 0 ≤ (g.getD j (0, 0)).2 ∧ (g.getD j (0, 0)).2 ≤ 1000 := by
  intro j hj
  have h1 := h.fst j hj
  have h2 := h.cnt j hj
  omega
/-! ### how many -/
theorem GInv.first_le {fs : List Fr} {cut gop : Int} {g : List (Int × Int)} {n : Nat} (h : GInv fs cut gop g n) : ∀ {k : Nat}, k < g.length → (g.getD k (0, 0)).1 ≤ k * gop
  | 0, hk => by rw [h.zero hk]; simp
  | k + 1, hk => by
    have h1 := h.first_le (k := k) (by omega)
    have h2 := h.next k hk
    have h3 := h.cnt k (by omega)
    rw [h2, show ((k + 1 : Nat) : Int) * gop = k * gop + gop from by rw [Int.natCast_add, Int.add_mul]; simp]
    omega
theorem GInv.first_eq {fs : List Fr} {gop : Int} {g : List (Int × Int)} {n : Nat} (h : GInv fs 16320 gop g n) : ∀ {k : Nat}, k < g.length → (g.getD k (0, 0)).1 = k * gop
  | 0, hk => by rw [h.zero hk]; simp
  | k + 1, hk => by
    have h1 := h.first_eq (k := k) (by omega)
    have h2 := h.next k hk
    obtain ⟨i, -, -, h3⟩ := h.cut k hk
    have hb := (unlV_bd (frA fs (i - 1)) (frA fs i)).2
    have h4 : (g.getD k (0, 0)).2 = gop := by
      rcases h3 with h3 | h3
      · unfold uvA at h3; omega
      · exact h3
    rw [h2, h1, h4, show ((k + 1 : Nat) : Int) * gop = k * gop + gop from by rw [Int.natCast_add, Int.add_mul]; simp]
theorem GInv.many {fs : List Fr} {cut gop : Int} {g : List (Int × Int)} {n : Nat} (h : GInv fs cut gop g n) (hn : 0 < n) : (n : Int) ≤ g.length * gop := by
  have hp := h.pos hn
  have h1 := h.last hp
  have h2 := h.first_le (k := g.length - 1) (by omega)
  have h3 := h.cnt (g.length - 1) (by omega)
  have e : lastG g = g.getD (g.length - 1) (0, 0) := rfl
  rw [e] at h1
  have e2 : (g.length : Int) * gop = ((g.length - 1 : Nat) : Int) * gop + gop := by
    rw [show (g.length : Int) = ((g.length - 1 : Nat) : Int) + 1 from by omega, Int.add_mul]; simp
  omega
theorem GInv.just {fs : List Fr} {gop : Int} {g : List (Int × Int)} {n : Nat} (h : GInv fs 16320 gop g n) (hn : 0 < n) (hg : 1 ≤ gop) : ((n : Int) + gop - 1) / gop = g.length := by
  have hp := h.pos hn
  have h1 := h.last hp
  have h2 := h.first_eq (k := g.length - 1) (by omega)
  have h3 := h.cnt (g.length - 1) (by omega)
  have e : lastG g = g.getD (g.length - 1) (0, 0) := rfl
  rw [e] at h1
  have e2 : (g.length : Int) * gop = ((g.length - 1 : Nat) : Int) * gop + gop := by
    rw [show (g.length : Int) = ((g.length - 1 : Nat) : Int) + 1 from by omega, Int.add_mul]; simp
  apply Int.le_antisymm
  · have : ((n : Int) + gop - 1) / gop < (g.length : Int) + 1 := (Int.ediv_lt_iff_lt_mul (by omega)).2 (by rw [Int.add_mul]; omega)
    omega
  · exact (Int.le_ediv_iff_mul_le (by omega)).2 (by omega)
theorem GInv.fewest {fs : List Fr} {cut gop : Int} {g a : List (Int × Int)} {n : Nat} (h : GInv fs cut gop g n) (ha : GInv fs 16320 gop a n) (hn : 0 < n) (hg : 1 ≤ gop) : a.length ≤ g.length := by
  have h1 := h.many hn
  have h2 := ha.just hn hg
  have : ((n : Int) + gop - 1) / gop < (g.length : Int) + 1 := (Int.ediv_lt_iff_lt_mul (by omega)).2 (by rw [Int.add_mul]; omega)
  omega
/-! ### groups that may be long: cut just where it is unlike -/
theorem step_len {fs : List Fr} {cut : Int} {k : Nat} (hk : k < 16) : (grpTo fs cut 16 (k + 1)).length = (grpTo fs cut 16 k).length + (if k = 0 ∨ cut < uvA fs k then 1 else 0) := by
  have h := ginv fs (cut := cut) (gop := 16) (by decide) k
  rw [grpTo_succ]
  generalize grpTo fs cut 16 k = g at *
  rcases Nat.eq_zero_or_pos k with hk0 | hk0
  · have : g.length = 0 := by have := h.le; omega
    rw [stepG_nil this, List.length_append, if_pos (.inl hk0)]; rfl
  · have hp := h.pos hk0
    obtain ⟨m, hm⟩ : ∃ m, g.length = m + 1 := ⟨g.length - 1, by omega⟩
    by_cases hu : uvA fs k ≤ cut
    · have hc := (h.fst m (by omega)).2
      have h0 := (h.fst m (by omega)).1
      rw [stepG_join hm hu (by omega), List.length_set, if_neg (by omega)]; rfl
    · rw [stepG_add (.inl (by omega)), List.length_append, if_pos (.inr (by omega))]; rfl
theorem cuts_fewer {fs : List Fr} {cut more : Int} (h : cut ≤ more) : ∀ {k : Nat}, k ≤ 16 → (grpTo fs more 16 k).length ≤ (grpTo fs cut 16 k).length
  | 0, _ => Nat.le_refl _
  | k + 1, hk => by
    have ih := cuts_fewer (fs := fs) h (k := k) (by omega)
    rw [step_len (by omega), step_len (by omega)]
    by_cases h1 : k = 0 ∨ more < uvA fs k
    · rw [if_pos h1, if_pos (by omega)]; omega
    · rw [if_neg h1]; split <;> omega
/-- Each frame lies in a group; it begins it just where it is the first or unlike. -/
def CutsAt (fs : List Fr) (cut : Int) (g : List (Int × Int)) (i : Nat) : Prop := ∃ j, j < g.length ∧ inG (g.getD j (0, 0)) i = true ∧ ((g.getD j (0, 0)).1 = i ↔ (i = 0 ∨ cut < uvA fs i))
theorem cuts_at (fs : List Fr) (cut : Int) : ∀ {k : Nat}, k ≤ 16 → ∀ i, i < k → CutsAt fs cut (grpTo fs cut 16 k) i
  | 0, _, i, hi => by omega
  | k + 1, hk, i, hi => by
    have ih := cuts_at fs cut (k := k) (by omega)
    have h := ginv fs (cut := cut) (gop := 16) (by decide) k
    rw [grpTo_succ]
    generalize grpTo fs cut 16 k = g at *
    have add : stepG cut 16 g k (uvA fs k) = g ++ [((k : Int), 1)] → (k = 0 ∨ cut < uvA fs k) → CutsAt fs cut (stepG cut 16 g k (uvA fs k)) i := by
      intro e hc
      rw [e]
      rcases Nat.lt_or_ge i k with hik | hik
      · obtain ⟨j, h1, h2, h3⟩ := ih i hik
        exact ⟨j, by rw [List.length_append]; omega, by rw [getD_app_lt h1]; exact h2, by rw [getD_app_lt h1]; exact h3⟩
      · obtain rfl : i = k := by omega
        refine ⟨g.length, by simp, by rw [getD_app_at]; exact inG_iff.2 ⟨Int.le_refl _, by show (i : Int) - i < 1; omega⟩, ?_⟩
        rw [getD_app_at]
        exact ⟨fun _ => hc, fun _ => rfl⟩
    rcases Nat.eq_zero_or_pos k with hk0 | hk0
    · have : g.length = 0 := by have := h.le; omega
      exact add (stepG_nil this) (.inl hk0)
    · have hp := h.pos hk0
      obtain ⟨m, hm⟩ : ∃ m, g.length = m + 1 := ⟨g.length - 1, by omega⟩
      by_cases hu : uvA fs k ≤ cut
      · have hc := (h.fst m (by omega)).2
        have h0 := (h.fst m (by omega)).1
        have hl := h.last hp
        unfold lastG at hl
        rw [show g.length - 1 = m from by omega] at hl
        have hcn := h.cnt m (by omega)
        rw [stepG_join hm hu (by omega)]
        have hmm : m < g.length := by omega
        rcases Nat.lt_or_ge i k with hik | hik
        · obtain ⟨j, h1, h2, h3⟩ := ih i hik
          by_cases hj : j = m
          · subst hj
            refine ⟨j, by rw [List.length_set]; exact h1, ?_, ?_⟩
            · rw [getD_set_eq hmm]
              have := inG_iff.1 h2
              exact inG_iff.2 ⟨this.1, by show (i : Int) - (g.getD j (0, 0)).1 < (g.getD j (0, 0)).2 + 1; omega⟩
            · rw [getD_set_eq hmm]; exact h3
          · exact ⟨j, by rw [List.length_set]; exact h1, by rw [getD_set_ne (fun q => hj q.symm)]; exact h2, by rw [getD_set_ne (fun q => hj q.symm)]; exact h3⟩
        · obtain rfl : i = k := by omega
          refine ⟨m, by rw [List.length_set]; exact hmm, ?_, ?_⟩
          · rw [getD_set_eq hmm]
            exact inG_iff.2 ⟨by show (g.getD m (0, 0)).1 ≤ (i : Int); omega, by show (i : Int) - (g.getD m (0, 0)).1 < (g.getD m (0, 0)).2 + 1; omega⟩
          · rw [getD_set_eq hmm]
            constructor
            · intro e
              have e' : (g.getD m (0, 0)).1 = (i : Int) := e
              omega
            · rintro (e | e)
              · omega
              · omega
      · exact add (stepG_add (.inl (by omega))) (.inr (by omega))
end Go.Proofs.YtpdhhnhpaahenaaDoor
