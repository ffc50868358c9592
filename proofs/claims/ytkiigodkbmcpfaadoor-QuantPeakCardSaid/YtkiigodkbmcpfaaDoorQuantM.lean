/- Plain mathematics of quant: a level's value lies near, levels rise, turn round, and shrink with the step. -/
import Derived.Test.YtkiigodkbmcpfaaDoorQuant
set_option linter.unusedSimpArgs false
set_option linter.unusedVariables false
namespace Go.Proofs.YtkiigodkbmcpfaaDoor.Q

theorem div_bd (a s : Int) (h : 0 < s) : s * (a / s) ≤ a ∧ a < s * (a / s) + s := by
  have h1 := Int.mul_ediv_add_emod a s
  have h2 := Int.emod_nonneg a (show s ≠ 0 by omega)
  have h3 := Int.emod_lt_of_pos a h
  omega
theorem levelV_eq {c qp : Int} (hq : inQ qp = true) (hc : inC c = true) : levelV c qp = if c < 0 then -((stepV qp / 2 - c) / stepV qp) else (c + stepV qp / 2) / stepV qp := by
  simp [levelV, hq, hc]
theorem inC_iff {c : Int} : inC c = true ↔ -16777216 ≤ c ∧ c ≤ 16777216 := by simp [inC]
theorem inL_iff {c : Int} : inL c = true ↔ -16320 ≤ c ∧ c ≤ 16320 := by simp [inL]

/-- How near. -/
theorem near {c s : Int} (h : 0 < s) : (c < 0 → (-((s / 2 - c) / s)) * s - c ≤ s / 2 ∧ c - (-((s / 2 - c) / s)) * s ≤ s / 2) ∧ (0 ≤ c → ((c + s / 2) / s) * s - c ≤ s / 2 ∧ c - ((c + s / 2) / s) * s ≤ s / 2) := by
  constructor
  · intro hn
    have hd := div_bd (s / 2 - c) s h
    generalize (s / 2 - c) / s = q at *
    have e : -q * s = -(s * q) := by rw [Int.neg_mul, Int.mul_comm]
    rw [e]; omega
  · intro hn
    have hd := div_bd (c + s / 2) s h
    generalize (c + s / 2) / s = q at *
    have e : q * s = s * q := Int.mul_comm ..
    rw [e]; omega
theorem level_near {c qp : Int} (hq : inQ qp = true) (hc : inC c = true) : levelV c qp * stepV qp - c ≤ boundV qp ∧ c - levelV c qp * stepV qp ≤ boundV qp := by
  have hs := stepV_bd hq
  have hn := near (c := c) (s := stepV qp) (by omega)
  rw [levelV_eq hq hc]
  unfold boundV
  split
  · exact hn.1 (by assumption)
  · exact hn.2 (by omega)
theorem level_zero {c : Int} (hc : inC c = true) : levelV c 0 * stepV 0 = c := by
  have hn := level_near (c := c) (qp := 0) rfl hc
  have : boundV 0 = 0 := rfl
  omega
theorem level_neg {c qp : Int} (hq : inQ qp = true) (hc : inC c = true) : levelV (-c) qp = -levelV c qp := by
  have hs := stepV_bd hq
  have hc' : inC (-c) = true := by rw [inC_iff] at *; omega
  rw [levelV_eq hq hc, levelV_eq hq hc']
  by_cases h0 : c = 0
  · subst h0
    have : stepV qp / 2 / stepV qp = 0 := Int.ediv_eq_zero_of_lt (by omega) (by omega)
    simp
    omega
  · by_cases h : c < 0
    · rw [if_neg (by omega), if_pos h, Int.neg_neg, show -c + stepV qp / 2 = stepV qp / 2 - c from by omega]
    · rw [if_pos (by omega), if_neg h, show stepV qp / 2 - -c = c + stepV qp / 2 from by omega]
theorem level_mono {c d qp : Int} (hq : inQ qp = true) (hc : inC c = true) (hd : inC d = true) (h : c ≤ d) : levelV c qp ≤ levelV d qp := by
  have hs := stepV_bd hq
  rw [levelV_eq hq hc, levelV_eq hq hd]
  by_cases h1 : c < 0
  · rw [if_pos h1]
    by_cases h2 : d < 0
    · rw [if_pos h2]
      have := Int.ediv_le_ediv (a := stepV qp / 2 - d) (b := stepV qp / 2 - c) (c := stepV qp) (by omega) (by omega)
      omega
    · rw [if_neg h2]
      have a1 := Int.ediv_nonneg (a := stepV qp / 2 - c) (b := stepV qp) (by omega) (by omega)
      have a2 := Int.ediv_nonneg (a := d + stepV qp / 2) (b := stepV qp) (by omega) (by omega)
      omega
  · rw [if_neg h1, if_neg (by omega)]
    exact Int.ediv_le_ediv (by omega) (by omega)
theorem step_rises {a b : Int} (ha : inQ a = true) (hb : inQ b = true) (h : a < b) : stepV a < stepV b := by
  have key : ∀ i j : Fin 16, i < j → stepL.getD i.val 0 < stepL.getD j.val 0 := by decide
  have ha' : 0 ≤ a ∧ a ≤ 15 := by simpa [inQ] using ha
  have hb' : 0 ≤ b ∧ b ≤ 15 := by simpa [inQ] using hb
  have := key ⟨a.toNat, by omega⟩ ⟨b.toNat, by omega⟩ (by show a.toNat < b.toNat; omega)
  simpa [stepV, ha, hb] using this
theorem step_even {a : Int} (ha : inQ a = true) : stepV a = 1 ∨ stepV a = 2 * (stepV a / 2) := by
  rcases inQ_cases ha with h | h | h | h | h | h | h | h | h | h | h | h | h | h | h | h <;> subst h <;> decide
theorem shrink {x s t : Int} (hx : 0 ≤ x) (hs : 0 < s) (hst : s ≤ t) (es : s = 1 ∨ s = 2 * (s / 2)) (et : t = 1 ∨ t = 2 * (t / 2)) : (x + t / 2) / t ≤ (x + s / 2) / s := by
  have hd := div_bd (x + t / 2) t (by omega)
  generalize (x + t / 2) / t = q at *
  by_cases hq : q ≤ 0
  · exact Int.le_trans hq (Int.ediv_nonneg (by omega) (by omega))
  · rw [Int.le_ediv_iff_mul_le hs]
    have h1 : (2 * q - 1) * s ≤ (2 * q - 1) * t := Int.mul_le_mul_of_nonneg_left hst (by omega)
    have h2 : (2 * q - 1) * s = 2 * (q * s) - s := by rw [Int.sub_mul, Int.mul_assoc]; omega
    have h3 : (2 * q - 1) * t = 2 * (t * q) - t := by rw [Int.sub_mul, Int.mul_assoc, Int.mul_comm q t]; omega
    rcases es with es | es
    · subst es
      rcases et with et | et
      · subst et; omega
      · omega
    · omega
theorem level_shrinks {c a b : Int} (ha : inQ a = true) (hb : inQ b = true) (hc : inC c = true) (h : a ≤ b) : max (levelV c b) (-levelV c b) ≤ max (levelV c a) (-levelV c a) := by
  have hs := stepV_bd ha
  have ht := stepV_bd hb
  have hst : stepV a ≤ stepV b := by
    by_cases e : a = b
    · subst e; omega
    · have := step_rises ha hb (by omega); omega
  rw [levelV_eq ha hc, levelV_eq hb hc]
  by_cases h1 : c < 0
  · rw [if_pos h1, if_pos h1]
    have k := shrink (x := -c) (by omega) (by omega) hst (step_even ha) (step_even hb)
    rw [show -c + stepV b / 2 = stepV b / 2 - c from by omega, show -c + stepV a / 2 = stepV a / 2 - c from by omega] at k
    have a1 := Int.ediv_nonneg (a := stepV b / 2 - c) (b := stepV b) (by omega) (by omega)
    omega
  · rw [if_neg h1, if_neg h1]
    have k := shrink (x := c) (by omega) (by omega) hst (step_even ha) (step_even hb)
    have a1 := Int.ediv_nonneg (a := c + stepV b / 2) (b := stepV b) (by omega) (by omega)
    omega
theorem level_bd (c qp : Int) : -16777408 ≤ levelV c qp ∧ levelV c qp ≤ 16777408 := by
  cases h : inQ qp && inC c with
  | false => simp [levelV, h]
  | true =>
    simp at h
    have hs := stepV_bd h.1
    have hc := inC_iff.1 h.2
    rw [levelV_eq h.1 h.2]
    split
    · have a1 := Int.ediv_nonneg (a := stepV qp / 2 - c) (b := stepV qp) (by omega) (by omega)
      have a2 := Int.ediv_le_self (a := stepV qp / 2 - c) (stepV qp) (by omega)
      omega
    · have a1 := Int.ediv_nonneg (a := c + stepV qp / 2) (b := stepV qp) (by omega) (by omega)
      have a2 := Int.ediv_le_self (a := c + stepV qp / 2) (stepV qp) (by omega)
      omega
theorem value_bd (l qp : Int) : -6266880 ≤ valueV l qp ∧ valueV l qp ≤ 6266880 := by
  cases h : inQ qp && inL l with
  | false => simp [valueV, h]
  | true =>
    simp at h
    have hs := stepV_bd h.1
    have hl := inL_iff.1 h.2
    have e : valueV l qp = l * stepV qp := by simp [valueV, h]
    rw [e]
    constructor
    · have h := Int.mul_le_mul_of_nonneg_right (a := -16320) (b := l) (c := stepV qp) hl.1 (by omega)
      omega
    · have h := Int.mul_le_mul_of_nonneg_right (a := l) (b := 16320) (c := stepV qp) hl.2 (by omega)
      omega
theorem level_value {l qp : Int} (hq : inQ qp = true) (hl : inL l = true) : inC (valueV l qp) = true ∧ levelV (valueV l qp) qp = l := by
  have hs := stepV_bd hq
  have hb := value_bd l qp
  have hc : inC (valueV l qp) = true := by rw [inC_iff]; omega
  refine ⟨hc, ?_⟩
  have hn := level_near hq hc
  have e : valueV l qp = l * stepV qp := by simp [valueV, hq, hl]
  rw [e] at hn ⊢
  generalize levelV (l * stepV qp) qp = k at *
  unfold boundV at hn
  have e2 : k * stepV qp - l * stepV qp = (k - l) * stepV qp := (Int.sub_mul ..).symm
  have e3 : l * stepV qp - k * stepV qp = (l - k) * stepV qp := (Int.sub_mul ..).symm
  rw [e2, e3] at hn
  rcases Int.lt_trichotomy k l with h | h | h
  · have := Int.mul_le_mul_of_nonneg_right (a := 1) (b := l - k) (c := stepV qp) (by omega) (by omega)
    omega
  · exact h
  · have := Int.mul_le_mul_of_nonneg_right (a := 1) (b := k - l) (c := stepV qp) (by omega) (by omega)
    omega
theorem value_lt {l m qp : Int} (hq : inQ qp = true) (hl : inL l = true) (hm : inL m = true) : (l < m) ↔ (valueV l qp < valueV m qp) := by
  have hs := stepV_bd hq
  have e : valueV l qp = l * stepV qp := by simp [valueV, hq, hl]
  have e' : valueV m qp = m * stepV qp := by simp [valueV, hq, hm]
  rw [e, e']
  constructor
  · intro h; exact Int.mul_lt_mul_of_pos_right h (by omega)
  · intro h; exact Int.lt_of_mul_lt_mul_right h (by omega)
end Go.Proofs.YtkiigodkbmcpfaaDoor.Q
