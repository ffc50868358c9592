/- quant's and kinref9's functions on one number: contracts. -/
import Derived.Test.YtkiigodkbmcpfaaDoorErrs
import Derived.Test.YtkiigodkbmcpfaaDoorQuant
set_option linter.unusedSimpArgs false
set_option linter.unusedVariables false
namespace Go.Proofs.YtkiigodkbmcpfaaDoor
open Go.RowKit Go.Extern.Stop Go.Stop Go.Extern
open Q

def stepA : Array Value := #[.int .i64 1,.int .i64 2,.int .i64 4,.int .i64 6,.int .i64 8,.int .i64 12,.int .i64 16,.int .i64 24,.int .i64 32,.int .i64 48,.int .i64 64,.int .i64 96,.int .i64 128,.int .i64 192,.int .i64 256,.int .i64 384]
theorem steps_any (w : World) : Calls Tryd.prog 29 #[] w fun e w' => e = .returned (.agg stepA) ∧ Below w.heap.size w w' := by
  go_enter Tryd.func29, Tryd.ntmps29
  go_wp2
  go_returns
  exact ⟨rfl, by go_grown⟩

theorem pstep_no (qp : Int) (w : World) (h : inQ qp = false) : Calls Tryd.prog 10 #[.int .i64 qp] w fun e w' => e = .returned (.tuple #[.int .i64 0, .iface 27 (.int .i64 3)]) ∧ Below w.heap.size w w' := by
  have h : ¬ (0 ≤ qp ∧ qp ≤ 15) := by simpa [inQ] using h
  by_cases h1 : qp < 0
  all_goals
    have h2 : qp < 0 ∨ 15 < qp := by omega
    clear h
    go_enter Tryd.func10, Tryd.ntmps10
    go_wp2
    go_returns
    exact ⟨rfl, by go_grown⟩
theorem idx0 (w : World) : (Instr.index 50 (.agg stepA) (.int .i64 0)).run Tryd.prog w = .ok (.int .i64 1) w := by kernel_rfl
theorem idx1 (w : World) : (Instr.index 50 (.agg stepA) (.int .i64 1)).run Tryd.prog w = .ok (.int .i64 2) w := by kernel_rfl
theorem idx2 (w : World) : (Instr.index 50 (.agg stepA) (.int .i64 2)).run Tryd.prog w = .ok (.int .i64 4) w := by kernel_rfl
theorem idx3 (w : World) : (Instr.index 50 (.agg stepA) (.int .i64 3)).run Tryd.prog w = .ok (.int .i64 6) w := by kernel_rfl
theorem idx4 (w : World) : (Instr.index 50 (.agg stepA) (.int .i64 4)).run Tryd.prog w = .ok (.int .i64 8) w := by kernel_rfl
theorem idx5 (w : World) : (Instr.index 50 (.agg stepA) (.int .i64 5)).run Tryd.prog w = .ok (.int .i64 12) w := by kernel_rfl
theorem idx6 (w : World) : (Instr.index 50 (.agg stepA) (.int .i64 6)).run Tryd.prog w = .ok (.int .i64 16) w := by kernel_rfl
theorem idx7 (w : World) : (Instr.index 50 (.agg stepA) (.int .i64 7)).run Tryd.prog w = .ok (.int .i64 24) w := by kernel_rfl
theorem idx8 (w : World) : (Instr.index 50 (.agg stepA) (.int .i64 8)).run Tryd.prog w = .ok (.int .i64 32) w := by kernel_rfl
theorem idx9 (w : World) : (Instr.index 50 (.agg stepA) (.int .i64 9)).run Tryd.prog w = .ok (.int .i64 48) w := by kernel_rfl
theorem idx10 (w : World) : (Instr.index 50 (.agg stepA) (.int .i64 10)).run Tryd.prog w = .ok (.int .i64 64) w := by kernel_rfl
theorem idx11 (w : World) : (Instr.index 50 (.agg stepA) (.int .i64 11)).run Tryd.prog w = .ok (.int .i64 96) w := by kernel_rfl
theorem idx12 (w : World) : (Instr.index 50 (.agg stepA) (.int .i64 12)).run Tryd.prog w = .ok (.int .i64 128) w := by kernel_rfl
theorem idx13 (w : World) : (Instr.index 50 (.agg stepA) (.int .i64 13)).run Tryd.prog w = .ok (.int .i64 192) w := by kernel_rfl
theorem idx14 (w : World) : (Instr.index 50 (.agg stepA) (.int .i64 14)).run Tryd.prog w = .ok (.int .i64 256) w := by kernel_rfl
theorem idx15 (w : World) : (Instr.index 50 (.agg stepA) (.int .i64 15)).run Tryd.prog w = .ok (.int .i64 384) w := by kernel_rfl
set_option maxHeartbeats 4000000 in
theorem pstep_yes (qp : Int) (w : World) (h : inQ qp = true) : Calls Tryd.prog 10 #[.int .i64 qp] w fun e w' => e = .returned (.tuple #[.int .i64 (stepV qp), .nilIface]) ∧ Below w.heap.size w w' := by
  have i0 := idx0
  have i1 := idx1
  have i2 := idx2
  have i3 := idx3
  have i4 := idx4
  have i5 := idx5
  have i6 := idx6
  have i7 := idx7
  have i8 := idx8
  have i9 := idx9
  have i10 := idx10
  have i11 := idx11
  have i12 := idx12
  have i13 := idx13
  have i14 := idx14
  have i15 := idx15
  rcases inQ_cases h with h | h | h | h | h | h | h | h | h | h | h | h | h | h | h | h <;> subst h
  all_goals
    clear h
    go_enter Tryd.func10, Tryd.ntmps10
    go_wp2_with (go_at_call 29; refine (steps_any _).mono ?_; rintro e w' ⟨rfl, hb⟩)
    go_returns
    exact ⟨rfl, hb⟩
theorem pstep_any (qp : Int) (w : World) : Calls Tryd.prog 10 #[.int .i64 qp] w fun e w' => e = .returned (.tuple #[.int .i64 (stepV qp), errV (stepE qp)]) ∧ Below w.heap.size w w' := by
  cases h : inQ qp with
  | true => exact (pstep_yes qp w h).mono fun e w' ⟨he, hb⟩ => ⟨by rw [he]; simp [stepE, h, errV], hb⟩
  | false => exact (pstep_no qp w h).mono fun e w' ⟨he, hb⟩ => ⟨by rw [he, stepV_out h]; simp [stepE, h, errV], hb⟩

theorem rstep_no (qp : Int) (w : World) (h : inQ qp = false) : Calls Tryd.prog 11 #[.int .i64 qp] w fun e w' => e = .returned (.tuple #[.int .i64 0, .agg #[.int .i64 3, .slice none 0 0]]) ∧ Below w.heap.size w w' := by
  have h : ¬ (0 ≤ qp ∧ qp ≤ 15) := by simpa [inQ] using h
  by_cases h1 : qp < 0
  all_goals
    have h2 : qp < 0 ∨ 15 < qp := by omega
    clear h
    go_enter Tryd.func11, Tryd.ntmps11
    go_wp2_with (go_at_call 28; refine (fail_any _ _).mono ?_; rintro e w1 ⟨rfl, hb1⟩; obtain ⟨hc1, hf1⟩ := bcell hb1; have hz1_0 : w.heap.size < w1.heap.size := Nat.lt_of_lt_of_le (by go_size) hb1.size; have hl1_0 : w.heap.size ≤ w1.heap.size := Nat.le_of_lt hz1_0)
    (refine bodyPost_ret (by simp (maxDischargeDepth := 9) [results, Tryd.results11, go_sem, hc1, hz1_0, hl1_0]; try rfl) rfl ?_)
    have hg1 : Below w.heap.size w w1 := ext (by go_grown) hb1
    exact ⟨rfl, by go_grown⟩
set_option maxHeartbeats 4000000 in
theorem rstep_yes (qp : Int) (w : World) (h : inQ qp = true) : Calls Tryd.prog 11 #[.int .i64 qp] w fun e w' => e = .returned (.tuple #[.int .i64 (stepV qp), .agg #[.int .i64 0, .slice none 0 0]]) ∧ Below w.heap.size w w' := by
  rcases inQ_cases h with h | h | h | h | h | h | h | h | h | h | h | h | h | h | h | h <;> subst h
  all_goals
    clear h
    go_enter Tryd.func11, Tryd.ntmps11
    go_wp2
    go_returns
    exact ⟨rfl, by go_grown⟩
theorem rstep_any (qp : Int) (w : World) : Calls Tryd.prog 11 #[.int .i64 qp] w fun e w' => e = .returned (.tuple #[.int .i64 (stepV qp), .agg #[.int .i64 (stepE qp), .slice none 0 0]]) ∧ Below w.heap.size w w' := by
  cases h : inQ qp with
  | true => exact (rstep_yes qp w h).mono fun e w' ⟨he, hb⟩ => ⟨by rw [he]; simp [stepE, h], hb⟩
  | false => exact (rstep_no qp w h).mono fun e w' ⟨he, hb⟩ => ⟨by rw [he, stepV_out h]; simp [stepE, h], hb⟩

end Go.Proofs.YtkiigodkbmcpfaaDoor
