/- quant's and kinref9's Bound, Level, Value: contracts. -/
import Derived.Test.YtkiigodkbmcpfaaDoorQuantW
set_option linter.unusedSimpArgs false
set_option linter.unusedVariables false
namespace Go.Proofs.YtkiigodkbmcpfaaDoor
open Go.RowKit Go.Extern.Stop Go.Stop Go.Extern
open Q

theorem pbound_any (qp : Int) (w : World) : Calls Tryd.prog 12 #[.int .i64 qp] w fun e w' => e = .returned (.tuple #[.int .i64 (boundV qp), errV (stepE qp)]) ∧ Below w.heap.size w w' := by
  obtain ⟨hb1, hb2⟩ := stepV_le qp
  go_enter Tryd.func12, Tryd.ntmps12
  go_wp2_with (go_at_call 10; refine (pstep_any _ _).mono ?_; rintro e w1 ⟨rfl, hb1⟩; obtain ⟨hc1, hf1⟩ := bcell hb1)
  go_returns
  exact ⟨rfl, by assumption⟩

theorem rbound_any (qp : Int) (w : World) : Calls Tryd.prog 13 #[.int .i64 qp] w fun e w' => e = .returned (.tuple #[.int .i64 (boundV qp), .agg #[.int .i64 (stepE qp), .slice none 0 0]]) ∧ Below w.heap.size w w' := by
  obtain ⟨hb1, hb2⟩ := stepV_le qp
  go_enter Tryd.func13, Tryd.ntmps13
  go_wp2_with (go_at_call 11; refine (rstep_any _ _).mono ?_; rintro e w1 ⟨rfl, hb1⟩; obtain ⟨hc1, hf1⟩ := bcell hb1; have hz1_0 : w.heap.size < w1.heap.size := Nat.lt_of_lt_of_le (by go_size) hb1.size; have hl1_0 : w.heap.size ≤ w1.heap.size := Nat.le_of_lt hz1_0)
  go_region
  all_goals (try go_wp2)
  all_goals (refine bodyPost_ret (by simp (maxDischargeDepth := 9) [results, Tryd.results13, go_sem, hc1, hz1_0, hl1_0]; try rfl) rfl ?_)
  all_goals
    have hg1 : Below w.heap.size w w1 := ext (by go_grown) hb1
    exact ⟨rfl, by go_grown⟩

theorem plevel_out (c qp : Int) (w : World) (h : inQ qp = false) : Calls Tryd.prog 14 #[.int .i64 c, .int .i64 qp] w fun e w' => e = .returned (.tuple #[.int .i64 0, .iface 27 (.int .i64 3)]) ∧ Below w.heap.size w w' := by
  go_enter Tryd.func14, Tryd.ntmps14
  go_wp2_with (go_at_call 10; refine (pstep_no _ _ h).mono ?_; rintro e w1 ⟨rfl, hb1⟩; obtain ⟨hc1, hf1⟩ := bcell hb1)
  go_returns
  exact ⟨rfl, by assumption⟩
theorem plevel_far (c qp : Int) (w : World) (h : inQ qp = true) (hc : inC c = false) : Calls Tryd.prog 14 #[.int .i64 c, .int .i64 qp] w fun e w' => e = .returned (.tuple #[.int .i64 0, .iface 27 (.int .i64 3)]) ∧ Below w.heap.size w w' := by
  have hc : ¬ (-16777216 ≤ c ∧ c ≤ 16777216) := by simpa [inC] using hc
  by_cases h1 : c < -16777216
  all_goals
    have h2 : c < -16777216 ∨ 16777216 < c := by omega
    clear hc
    go_enter Tryd.func14, Tryd.ntmps14
    go_wp2_with (go_at_call 10; refine (pstep_yes _ _ h).mono ?_; rintro e w1 ⟨rfl, hb1⟩; obtain ⟨hc1, hf1⟩ := bcell hb1)
    go_returns
    exact ⟨rfl, by assumption⟩
theorem plevel_neg (c qp : Int) (w : World) (h : inQ qp = true) (hl : -16777216 ≤ c) (hn : c < 0) : Calls Tryd.prog 14 #[.int .i64 c, .int .i64 qp] w fun e w' => e = .returned (.tuple #[.int .i64 (-((stepV qp / 2 - c) / stepV qp)), .nilIface]) ∧ Below w.heap.size w w' := by
  obtain ⟨b1, b2⟩ := stepV_bd h
  have b3 : 0 ≤ (stepV qp / 2 - c) / stepV qp := Int.ediv_nonneg (by omega) (by omega)
  have b4 : (stepV qp / 2 - c) / stepV qp ≤ 16777408 := Int.le_trans (Int.ediv_le_self _ (by omega)) (by omega)
  go_enter Tryd.func14, Tryd.ntmps14
  go_wp2_with (go_at_call 10; refine (pstep_yes _ _ h).mono ?_; rintro e w1 ⟨rfl, hb1⟩; obtain ⟨hc1, hf1⟩ := bcell hb1)
  go_returns
  exact ⟨rfl, by assumption⟩
theorem plevel_pos (c qp : Int) (w : World) (h : inQ qp = true) (hl : 0 ≤ c) (hn : c ≤ 16777216) : Calls Tryd.prog 14 #[.int .i64 c, .int .i64 qp] w fun e w' => e = .returned (.tuple #[.int .i64 ((c + stepV qp / 2) / stepV qp), .nilIface]) ∧ Below w.heap.size w w' := by
  obtain ⟨b1, b2⟩ := stepV_bd h
  go_enter Tryd.func14, Tryd.ntmps14
  go_wp2_with (go_at_call 10; refine (pstep_yes _ _ h).mono ?_; rintro e w1 ⟨rfl, hb1⟩; obtain ⟨hc1, hf1⟩ := bcell hb1)
  go_returns
  exact ⟨rfl, by assumption⟩
theorem plevel_any (c qp : Int) (w : World) : Calls Tryd.prog 14 #[.int .i64 c, .int .i64 qp] w fun e w' => e = .returned (.tuple #[.int .i64 (levelV c qp), errV (levelE c qp)]) ∧ Below w.heap.size w w' := by
  cases h : inQ qp with
  | false => exact (plevel_out c qp w h).mono fun e w' ⟨he, hb⟩ => ⟨by rw [he]; simp [levelV, levelE, h, errV], hb⟩
  | true =>
    cases hc : inC c with
    | false => exact (plevel_far c qp w h hc).mono fun e w' ⟨he, hb⟩ => ⟨by rw [he]; simp [levelV, levelE, h, hc, errV], hb⟩
    | true =>
      have hc' : -16777216 ≤ c ∧ c ≤ 16777216 := by simpa [inC] using hc
      by_cases hn : c < 0
      · exact (plevel_neg c qp w h hc'.1 hn).mono fun e w' ⟨he, hb⟩ => ⟨by rw [he]; simp [levelV, levelE, h, hc, errV, hn], hb⟩
      · exact (plevel_pos c qp w h (by omega) hc'.2).mono fun e w' ⟨he, hb⟩ => ⟨by rw [he]; simp [levelV, levelE, h, hc, errV, hn], hb⟩

set_option maxHeartbeats 2000000 in
theorem rlevel_bad (c qp : Int) (w : World) (h : (inQ qp && inC c) = false) : Calls Tryd.prog 15 #[.int .i64 c, .int .i64 qp] w fun e w' => e = .returned (.tuple #[.int .i64 0, .agg #[.int .i64 3, .slice none 0 0]]) ∧ Below w.heap.size w w' := by
  cases hq : inQ qp with
  | false =>
    go_enter Tryd.func15, Tryd.ntmps15
    go_wp2_with (first | (go_at_call 11; refine (rstep_no _ _ hq).mono ?_; rintro e w1 ⟨rfl, hb1⟩; obtain ⟨hc1, hf1⟩ := bcell hb1; have hz1_0 : w.heap.size < w1.heap.size := Nat.lt_of_lt_of_le (by go_size) hb1.size; have hl1_0 : w.heap.size ≤ w1.heap.size := Nat.le_of_lt hz1_0) | (go_at_call 30; refine (ok_ne 3 rfl _ _).mono ?_; rintro e w2 ⟨rfl, hb2⟩; obtain ⟨hc2, hf2⟩ := bcell hb2; have hz2_0 : w.heap.size < w2.heap.size := Nat.lt_of_lt_of_le (by go_size) hb2.size; have hl2_0 : w.heap.size ≤ w2.heap.size := Nat.le_of_lt hz2_0; have hz2_1 : w1.heap.size < w2.heap.size := Nat.lt_of_lt_of_le (by go_size) hb2.size; have hl2_1 : w1.heap.size ≤ w2.heap.size := Nat.le_of_lt hz2_1) | (go_at_call 28; refine (fail_any _ _).mono ?_; rintro e w3 ⟨rfl, hb3⟩; obtain ⟨hc3, hf3⟩ := bcell hb3; have hz3_0 : w.heap.size < w3.heap.size := Nat.lt_of_lt_of_le (by go_size) hb3.size; have hl3_0 : w.heap.size ≤ w3.heap.size := Nat.le_of_lt hz3_0; have hz3_1 : w1.heap.size < w3.heap.size := Nat.lt_of_lt_of_le (by go_size) hb3.size; have hl3_1 : w1.heap.size ≤ w3.heap.size := Nat.le_of_lt hz3_1))
    (refine bodyPost_ret (by simp (maxDischargeDepth := 9) [results, Tryd.results15, go_sem, hc1, hz1_0, hl1_0, hc2, hz2_0, hl2_0, hz2_1, hl2_1, hc3, hz3_0, hl3_0, hz3_1, hl3_1]; try rfl) rfl ?_)
    have hg1 : Below w.heap.size w w1 := ext (by go_grown) hb1
    have hg2 : Below w.heap.size w w2 := ext (by go_grown) hb2
    have hg3 : Below w.heap.size w w3 := ext (by go_grown) hb3
    exact ⟨rfl, by go_grown⟩
  | true =>
    rw [hq] at h
    have hc : ¬ (-16777216 ≤ c ∧ c ≤ 16777216) := by simpa [inC] using h
    clear h
    by_cases h1 : c < -16777216
    all_goals
      have h2 : c < -16777216 ∨ 16777216 < c := by omega
      clear hc
      go_enter Tryd.func15, Tryd.ntmps15
      go_wp2_with (first | (go_at_call 11; refine (rstep_yes _ _ hq).mono ?_; rintro e w1 ⟨rfl, hb1⟩; obtain ⟨hc1, hf1⟩ := bcell hb1; have hz1_0 : w.heap.size < w1.heap.size := Nat.lt_of_lt_of_le (by go_size) hb1.size; have hl1_0 : w.heap.size ≤ w1.heap.size := Nat.le_of_lt hz1_0) | (go_at_call 30; refine (ok_zero _ _).mono ?_; rintro e w2 ⟨rfl, hb2⟩; obtain ⟨hc2, hf2⟩ := bcell hb2; have hz2_0 : w.heap.size < w2.heap.size := Nat.lt_of_lt_of_le (by go_size) hb2.size; have hl2_0 : w.heap.size ≤ w2.heap.size := Nat.le_of_lt hz2_0; have hz2_1 : w1.heap.size < w2.heap.size := Nat.lt_of_lt_of_le (by go_size) hb2.size; have hl2_1 : w1.heap.size ≤ w2.heap.size := Nat.le_of_lt hz2_1) | (go_at_call 28; refine (fail_any _ _).mono ?_; rintro e w3 ⟨rfl, hb3⟩; obtain ⟨hc3, hf3⟩ := bcell hb3; have hz3_0 : w.heap.size < w3.heap.size := Nat.lt_of_lt_of_le (by go_size) hb3.size; have hl3_0 : w.heap.size ≤ w3.heap.size := Nat.le_of_lt hz3_0; have hz3_1 : w1.heap.size < w3.heap.size := Nat.lt_of_lt_of_le (by go_size) hb3.size; have hl3_1 : w1.heap.size ≤ w3.heap.size := Nat.le_of_lt hz3_1))
      (refine bodyPost_ret (by simp (maxDischargeDepth := 9) [results, Tryd.results15, go_sem, hc1, hz1_0, hl1_0, hc2, hz2_0, hl2_0, hz2_1, hl2_1, hc3, hz3_0, hl3_0, hz3_1, hl3_1]; try rfl) rfl ?_)
      have hg1 : Below w.heap.size w w1 := ext (by go_grown) hb1
      have hg2 : Below w.heap.size w w2 := ext (by go_grown) hb2
      have hg3 : Below w.heap.size w w3 := ext (by go_grown) hb3
      exact ⟨rfl, by go_grown⟩

set_option maxHeartbeats 2000000 in
theorem rlevel_neg (c qp : Int) (w : World) (h : inQ qp = true) (hl : -16777216 ≤ c) (hn : c < 0) : Calls Tryd.prog 15 #[.int .i64 c, .int .i64 qp] w fun e w' => e = .returned (.tuple #[.int .i64 (-((stepV qp / 2 - c) / stepV qp)), .agg #[.int .i64 0, .slice none 0 0]]) ∧ Below w.heap.size w w' := by
  obtain ⟨b1, b2⟩ := stepV_bd h
  have b3 : 0 ≤ (-c + stepV qp / 2) / stepV qp := Int.ediv_nonneg (by omega) (by omega)
  have b4 : (-c + stepV qp / 2) / stepV qp ≤ 16777408 := Int.le_trans (Int.ediv_le_self _ (by omega)) (by omega)
  have e : stepV qp / 2 - c = -c + stepV qp / 2 := by omega
  rw [e]
  clear e
  go_enter Tryd.func15, Tryd.ntmps15
  go_wp2_with (first | (go_at_call 11; refine (rstep_yes _ _ h).mono ?_; rintro e w1 ⟨rfl, hb1⟩; obtain ⟨hc1, hf1⟩ := bcell hb1; have hz1_0 : w.heap.size < w1.heap.size := Nat.lt_of_lt_of_le (by go_size) hb1.size; have hl1_0 : w.heap.size ≤ w1.heap.size := Nat.le_of_lt hz1_0) | (go_at_call 30; refine (ok_zero _ _).mono ?_; rintro e w2 ⟨rfl, hb2⟩; obtain ⟨hc2, hf2⟩ := bcell hb2; have hz2_0 : w.heap.size < w2.heap.size := Nat.lt_of_lt_of_le (by go_size) hb2.size; have hl2_0 : w.heap.size ≤ w2.heap.size := Nat.le_of_lt hz2_0; have hz2_1 : w1.heap.size < w2.heap.size := Nat.lt_of_lt_of_le (by go_size) hb2.size; have hl2_1 : w1.heap.size ≤ w2.heap.size := Nat.le_of_lt hz2_1))
  go_region
  all_goals (try go_wp2)
  all_goals (refine bodyPost_ret (by simp (maxDischargeDepth := 9) [results, Tryd.results15, go_sem, hc1, hz1_0, hl1_0, hc2, hz2_0, hl2_0, hz2_1, hl2_1]; try rfl) rfl ?_)
  all_goals
    have hg1 : Below w.heap.size w w1 := ext (by go_grown) hb1
    have hg2 : Below w.heap.size w w2 := ext (by go_grown) hb2
    exact ⟨rfl, by go_grown⟩
set_option maxHeartbeats 2000000 in
theorem rlevel_pos (c qp : Int) (w : World) (h : inQ qp = true) (hl : 0 ≤ c) (hn : c ≤ 16777216) : Calls Tryd.prog 15 #[.int .i64 c, .int .i64 qp] w fun e w' => e = .returned (.tuple #[.int .i64 ((c + stepV qp / 2) / stepV qp), .agg #[.int .i64 0, .slice none 0 0]]) ∧ Below w.heap.size w w' := by
  obtain ⟨b1, b2⟩ := stepV_bd h
  go_enter Tryd.func15, Tryd.ntmps15
  go_wp2_with (first | (go_at_call 11; refine (rstep_yes _ _ h).mono ?_; rintro e w1 ⟨rfl, hb1⟩; obtain ⟨hc1, hf1⟩ := bcell hb1; have hz1_0 : w.heap.size < w1.heap.size := Nat.lt_of_lt_of_le (by go_size) hb1.size; have hl1_0 : w.heap.size ≤ w1.heap.size := Nat.le_of_lt hz1_0) | (go_at_call 30; refine (ok_zero _ _).mono ?_; rintro e w2 ⟨rfl, hb2⟩; obtain ⟨hc2, hf2⟩ := bcell hb2; have hz2_0 : w.heap.size < w2.heap.size := Nat.lt_of_lt_of_le (by go_size) hb2.size; have hl2_0 : w.heap.size ≤ w2.heap.size := Nat.le_of_lt hz2_0; have hz2_1 : w1.heap.size < w2.heap.size := Nat.lt_of_lt_of_le (by go_size) hb2.size; have hl2_1 : w1.heap.size ≤ w2.heap.size := Nat.le_of_lt hz2_1))
  go_region
  all_goals (try go_wp2)
  all_goals (refine bodyPost_ret (by simp (maxDischargeDepth := 9) [results, Tryd.results15, go_sem, hc1, hz1_0, hl1_0, hc2, hz2_0, hl2_0, hz2_1, hl2_1]; try rfl) rfl ?_)
  all_goals
    have hg1 : Below w.heap.size w w1 := ext (by go_grown) hb1
    have hg2 : Below w.heap.size w w2 := ext (by go_grown) hb2
    exact ⟨rfl, by go_grown⟩
theorem rlevel_any (c qp : Int) (w : World) : Calls Tryd.prog 15 #[.int .i64 c, .int .i64 qp] w fun e w' => e = .returned (.tuple #[.int .i64 (levelV c qp), .agg #[.int .i64 (levelE c qp), .slice none 0 0]]) ∧ Below w.heap.size w w' := by
  cases hb : inQ qp && inC c with
  | false => exact (rlevel_bad c qp w hb).mono fun e w' ⟨he, hx⟩ => ⟨by rw [he]; simp [levelV, levelE, hb], hx⟩
  | true =>
    have hq : inQ qp = true := by simp at hb; exact hb.1
    have hc : inC c = true := by simp at hb; exact hb.2
    have hc' : -16777216 ≤ c ∧ c ≤ 16777216 := by simpa [inC] using hc
    by_cases hn : c < 0
    · exact (rlevel_neg c qp w hq hc'.1 hn).mono fun e w' ⟨he, hx⟩ => ⟨by rw [he]; simp [levelV, levelE, hq, hc, hn], hx⟩
    · exact (rlevel_pos c qp w hq (by omega) hc'.2).mono fun e w' ⟨he, hx⟩ => ⟨by rw [he]; simp [levelV, levelE, hq, hc, hn], hx⟩

theorem mul_bd {l s : Int} (h1 : -16320 ≤ l) (h2 : l ≤ 16320) (h3 : 0 ≤ s) (h4 : s ≤ 384) : -6266880 ≤ l * s ∧ l * s ≤ 6266880 := by
  constructor
  · have h := Int.mul_le_mul_of_nonneg_right (a := -16320) (b := l) h1 h3
    omega
  · have h := Int.mul_le_mul_of_nonneg_right (a := l) (b := 16320) h2 h3
    omega
theorem pvalue_bad (l qp : Int) (w : World) (h : (inQ qp && inL l) = false) : Calls Tryd.prog 16 #[.int .i64 l, .int .i64 qp] w fun e w' => e = .returned (.tuple #[.int .i64 0, .iface 27 (.int .i64 3)]) ∧ Below w.heap.size w w' := by
  cases hq : inQ qp with
  | false =>
    go_enter Tryd.func16, Tryd.ntmps16
    go_wp2_with (go_at_call 10; refine (pstep_no _ _ hq).mono ?_; rintro e w1 ⟨rfl, hb1⟩; obtain ⟨hc1, hf1⟩ := bcell hb1)
    go_returns
    exact ⟨by simp, by assumption⟩
  | true =>
    rw [hq] at h
    have hc : ¬ (-16320 ≤ l ∧ l ≤ 16320) := by simpa [inL] using h
    clear h
    by_cases h1 : l < -16320
    all_goals
      have h2 : l < -16320 ∨ 16320 < l := by omega
      clear hc
      go_enter Tryd.func16, Tryd.ntmps16
      go_wp2_with (go_at_call 10; refine (pstep_yes _ _ hq).mono ?_; rintro e w1 ⟨rfl, hb1⟩; obtain ⟨hc1, hf1⟩ := bcell hb1)
      go_returns
      exact ⟨by simp, by assumption⟩
theorem pvalue_ok (l qp : Int) (w : World) (h : inQ qp = true) (h1 : -16320 ≤ l) (h2 : l ≤ 16320) : Calls Tryd.prog 16 #[.int .i64 l, .int .i64 qp] w fun e w' => e = .returned (.tuple #[.int .i64 (l * stepV qp), .nilIface]) ∧ Below w.heap.size w w' := by
  obtain ⟨b1, b2⟩ := stepV_bd h
  obtain ⟨b3, b4⟩ := mul_bd h1 h2 (by omega) b2
  go_enter Tryd.func16, Tryd.ntmps16
  go_wp2_with (go_at_call 10; refine (pstep_yes _ _ h).mono ?_; rintro e w1 ⟨rfl, hb1⟩; obtain ⟨hc1, hf1⟩ := bcell hb1)
  go_returns
  exact ⟨rfl, by assumption⟩
theorem pvalue_any (l qp : Int) (w : World) : Calls Tryd.prog 16 #[.int .i64 l, .int .i64 qp] w fun e w' => e = .returned (.tuple #[.int .i64 (valueV l qp), errV (valueE l qp)]) ∧ Below w.heap.size w w' := by
  cases hb : inQ qp && inL l with
  | false => exact (pvalue_bad l qp w hb).mono fun e w' ⟨he, hx⟩ => ⟨by rw [he]; simp [valueV, valueE, hb, errV], hx⟩
  | true =>
    have hq : inQ qp = true := by simp at hb; exact hb.1
    have hc : inL l = true := by simp at hb; exact hb.2
    have hc' : -16320 ≤ l ∧ l ≤ 16320 := by simpa [inL] using hc
    exact (pvalue_ok l qp w hq hc'.1 hc'.2).mono fun e w' ⟨he, hx⟩ => ⟨by rw [he]; simp [valueV, valueE, hq, hc, errV], hx⟩
end Go.Proofs.YtkiigodkbmcpfaaDoor
