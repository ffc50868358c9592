/- kinref9.Value; the law's own first(). -/
import Derived.Test.YtkiigodkbmcpfaaDoorQuantB
import Derived.Test.YtkiigodkbmcpfaaDoorSame
set_option linter.unusedSimpArgs false
set_option linter.unusedVariables false
namespace Go.Proofs.YtkiigodkbmcpfaaDoor
open Go.RowKit Go.Extern.Stop Go.Stop Go.Extern
open Q

set_option maxHeartbeats 2000000 in
theorem rvalue_bad (l qp : Int) (w : World) (h : (inQ qp && inL l) = false) : Calls Tryd.prog 17 #[.int .i64 l, .int .i64 qp] w fun e w' => e = .returned (.tuple #[.int .i64 0, .agg #[.int .i64 3, .slice none 0 0]]) ∧ Below w.heap.size w w' := by
  cases hq : inQ qp with
  | false =>
    go_enter Tryd.func17, Tryd.ntmps17
    go_wp2_with (first | (go_at_call 11; refine (rstep_no _ _ hq).mono ?_; rintro e w1 ⟨rfl, hb1⟩; obtain ⟨hc1, hf1⟩ := bcell hb1; have hz1_0 : w.heap.size < w1.heap.size := Nat.lt_of_lt_of_le (by go_size) hb1.size; have hl1_0 : w.heap.size ≤ w1.heap.size := Nat.le_of_lt hz1_0) | (go_at_call 30; refine (ok_ne 3 rfl _ _).mono ?_; rintro e w2 ⟨rfl, hb2⟩; obtain ⟨hc2, hf2⟩ := bcell hb2; have hz2_0 : w.heap.size < w2.heap.size := Nat.lt_of_lt_of_le (by go_size) hb2.size; have hl2_0 : w.heap.size ≤ w2.heap.size := Nat.le_of_lt hz2_0; have hz2_1 : w1.heap.size < w2.heap.size := Nat.lt_of_lt_of_le (by go_size) hb2.size; have hl2_1 : w1.heap.size ≤ w2.heap.size := Nat.le_of_lt hz2_1) | (go_at_call 28; refine (fail_any _ _).mono ?_; rintro e w3 ⟨rfl, hb3⟩; obtain ⟨hc3, hf3⟩ := bcell hb3; have hz3_0 : w.heap.size < w3.heap.size := Nat.lt_of_lt_of_le (by go_size) hb3.size; have hl3_0 : w.heap.size ≤ w3.heap.size := Nat.le_of_lt hz3_0; have hz3_1 : w1.heap.size < w3.heap.size := Nat.lt_of_lt_of_le (by go_size) hb3.size; have hl3_1 : w1.heap.size ≤ w3.heap.size := Nat.le_of_lt hz3_1))
    (refine bodyPost_ret (by simp (maxDischargeDepth := 9) [results, Tryd.results17, go_sem, hc1, hz1_0, hl1_0, hc2, hz2_0, hl2_0, hz2_1, hl2_1, hc3, hz3_0, hl3_0, hz3_1, hl3_1]; try rfl) rfl ?_)
    have hg1 : Below w.heap.size w w1 := ext (by go_grown) hb1
    have hg2 : Below w.heap.size w w2 := ext (by go_grown) hb2
    have hg3 : Below w.heap.size w w3 := ext (by go_grown) hb3
    exact ⟨rfl, by go_grown⟩
  | true =>
    rw [hq] at h
    have hc : ¬ (-16320 ≤ l ∧ l ≤ 16320) := by simpa [inL] using h
    clear h
    by_cases h1 : l < -16320
    all_goals
      have h2 : l < -16320 ∨ 16320 < l := by omega
      clear hc
      go_enter Tryd.func17, Tryd.ntmps17
      go_wp2_with (first | (go_at_call 11; refine (rstep_yes _ _ hq).mono ?_; rintro e w1 ⟨rfl, hb1⟩; obtain ⟨hc1, hf1⟩ := bcell hb1; have hz1_0 : w.heap.size < w1.heap.size := Nat.lt_of_lt_of_le (by go_size) hb1.size; have hl1_0 : w.heap.size ≤ w1.heap.size := Nat.le_of_lt hz1_0) | (go_at_call 30; refine (ok_zero _ _).mono ?_; rintro e w2 ⟨rfl, hb2⟩; obtain ⟨hc2, hf2⟩ := bcell hb2; have hz2_0 : w.heap.size < w2.heap.size := Nat.lt_of_lt_of_le (by go_size) hb2.size; have hl2_0 : w.heap.size ≤ w2.heap.size := Nat.le_of_lt hz2_0; have hz2_1 : w1.heap.size < w2.heap.size := Nat.lt_of_lt_of_le (by go_size) hb2.size; have hl2_1 : w1.heap.size ≤ w2.heap.size := Nat.le_of_lt hz2_1) | (go_at_call 28; refine (fail_any _ _).mono ?_; rintro e w3 ⟨rfl, hb3⟩; obtain ⟨hc3, hf3⟩ := bcell hb3; have hz3_0 : w.heap.size < w3.heap.size := Nat.lt_of_lt_of_le (by go_size) hb3.size; have hl3_0 : w.heap.size ≤ w3.heap.size := Nat.le_of_lt hz3_0; have hz3_1 : w1.heap.size < w3.heap.size := Nat.lt_of_lt_of_le (by go_size) hb3.size; have hl3_1 : w1.heap.size ≤ w3.heap.size := Nat.le_of_lt hz3_1))
      (refine bodyPost_ret (by simp (maxDischargeDepth := 9) [results, Tryd.results17, go_sem, hc1, hz1_0, hl1_0, hc2, hz2_0, hl2_0, hz2_1, hl2_1, hc3, hz3_0, hl3_0, hz3_1, hl3_1]; try rfl) rfl ?_)
      have hg1 : Below w.heap.size w w1 := ext (by go_grown) hb1
      have hg2 : Below w.heap.size w w2 := ext (by go_grown) hb2
      have hg3 : Below w.heap.size w w3 := ext (by go_grown) hb3
      exact ⟨rfl, by go_grown⟩
set_option maxHeartbeats 2000000 in
theorem rvalue_ok (l qp : Int) (w : World) (h : inQ qp = true) (h1 : -16320 ≤ l) (h2 : l ≤ 16320) : Calls Tryd.prog 17 #[.int .i64 l, .int .i64 qp] w fun e w' => e = .returned (.tuple #[.int .i64 (l * stepV qp), .agg #[.int .i64 0, .slice none 0 0]]) ∧ Below w.heap.size w w' := by
  obtain ⟨b1, b2⟩ := stepV_bd h
  obtain ⟨b3, b4⟩ := mul_bd h1 h2 (by omega) b2
  go_enter Tryd.func17, Tryd.ntmps17
  go_wp2_with (first | (go_at_call 11; refine (rstep_yes _ _ h).mono ?_; rintro e w1 ⟨rfl, hb1⟩; obtain ⟨hc1, hf1⟩ := bcell hb1; have hz1_0 : w.heap.size < w1.heap.size := Nat.lt_of_lt_of_le (by go_size) hb1.size; have hl1_0 : w.heap.size ≤ w1.heap.size := Nat.le_of_lt hz1_0) | (go_at_call 30; refine (ok_zero _ _).mono ?_; rintro e w2 ⟨rfl, hb2⟩; obtain ⟨hc2, hf2⟩ := bcell hb2; have hz2_0 : w.heap.size < w2.heap.size := Nat.lt_of_lt_of_le (by go_size) hb2.size; have hl2_0 : w.heap.size ≤ w2.heap.size := Nat.le_of_lt hz2_0; have hz2_1 : w1.heap.size < w2.heap.size := Nat.lt_of_lt_of_le (by go_size) hb2.size; have hl2_1 : w1.heap.size ≤ w2.heap.size := Nat.le_of_lt hz2_1))
  go_region
  all_goals (try go_wp2)
  all_goals (refine bodyPost_ret (by simp (maxDischargeDepth := 9) [results, Tryd.results17, go_sem, hc1, hz1_0, hl1_0, hc2, hz2_0, hl2_0, hz2_1, hl2_1]; try rfl) rfl ?_)
  all_goals
    have hg1 : Below w.heap.size w w1 := ext (by go_grown) hb1
    have hg2 : Below w.heap.size w w2 := ext (by go_grown) hb2
    exact ⟨rfl, by go_grown⟩
theorem rvalue_any (l qp : Int) (w : World) : Calls Tryd.prog 17 #[.int .i64 l, .int .i64 qp] w fun e w' => e = .returned (.tuple #[.int .i64 (valueV l qp), .agg #[.int .i64 (valueE l qp), .slice none 0 0]]) ∧ Below w.heap.size w w' := by
  cases hb : inQ qp && inL l with
  | false => exact (rvalue_bad l qp w hb).mono fun e w' ⟨he, hx⟩ => ⟨by rw [he]; simp [valueV, valueE, hb], hx⟩
  | true =>
    have hq : inQ qp = true := by simp at hb; exact hb.1
    have hc : inL l = true := by simp at hb; exact hb.2
    have hc' : -16320 ≤ l ∧ l ≤ 16320 := by simpa [inL] using hc
    exact (rvalue_ok l qp w hq hc'.1 hc'.2).mono fun e w' ⟨he, hx⟩ => ⟨by rw [he]; simp [valueV, valueE, hq, hc], hx⟩

theorem first_any (w : World) (hg : TypeIs w) : Calls Tryd.prog 9 #[] w fun e w' => e = .returned (.bool true) ∧ Below w.heap.size w w' := by
  have c1 : ∀ w, Calls Tryd.prog 10 #[.int .i64 3] w fun e w' => e = .returned (.tuple #[.int .i64 6, .nilIface]) ∧ Below w.heap.size w w' := fun w => pstep_yes 3 w rfl
  have c2 : ∀ w, Calls Tryd.prog 12 #[.int .i64 3] w fun e w' => e = .returned (.tuple #[.int .i64 3, .nilIface]) ∧ Below w.heap.size w w' := fun w => pbound_any 3 w
  have c3 : ∀ w, Calls Tryd.prog 14 #[.int .i64 (-9), .int .i64 3] w fun e w' => e = .returned (.tuple #[.int .i64 (-2), .nilIface]) ∧ Below w.heap.size w w' := fun w => plevel_any (-9) 3 w
  have c4 : ∀ w, Calls Tryd.prog 16 #[.int .i64 2, .int .i64 3] w fun e w' => e = .returned (.tuple #[.int .i64 12, .nilIface]) ∧ Below w.heap.size w w' := fun w => pvalue_any 2 3 w
  have c5 : ∀ w, Calls Tryd.prog 10 #[.int .i64 16] w fun e w' => e = .returned (.tuple #[.int .i64 0, .iface 27 (.int .i64 3)]) ∧ Below w.heap.size w w' := fun w => pstep_no 16 w rfl
  have c6 : ∀ w, TypeIs w → Calls Tryd.prog 18 #[.iface 27 (.int .i64 3), .agg #[.int .i64 3, .slice none 0 0]] w fun e w' => e = .returned (.bool true) ∧ Below w.heap.size w w' := fun w hg => same_any 3 w hg
  have hg := Lib.hid hg
  have H1 := Lib.hid c1
  have H2 := Lib.hid c2
  have H3 := Lib.hid c3
  have H4 := Lib.hid c4
  have H5 := Lib.hid c5
  have H6 := Lib.hid c6
  clear c1 c2 c3 c4 c5 c6
  go_enter Tryd.func9, Tryd.ntmps9
  go_wp2_with fail
  refine (H1.out _).mono ?_
  rintro e w1 ⟨rfl, hb1⟩
  go_wp2_with fail
  refine (H2.out _).mono ?_
  rintro e w2 ⟨rfl, hb2⟩
  go_wp2_with fail
  refine (H3.out _).mono ?_
  rintro e w3 ⟨rfl, hb3⟩
  go_wp2_with fail
  refine (H4.out _).mono ?_
  rintro e w4 ⟨rfl, hb4⟩
  go_wp2_with fail
  refine (H5.out _).mono ?_
  rintro e w5 ⟨rfl, hb5⟩
  go_wp2_with fail
  refine (fail_any _ _).mono ?_
  rintro e w6 ⟨rfl, hb6⟩
  have hg6 := ext (ext (ext (ext (ext hb1 hb2) hb3) hb4) hb5) hb6
  go_wp2_with fail
  refine (H6.out _ (hg.out.ext hg6)).mono ?_
  rintro e w7 ⟨rfl, hb7⟩
  go_wp2
  go_returns
  exact ⟨rfl, ext hg6 hb7⟩
end Go.Proofs.YtkiigodkbmcpfaaDoor
