/- kinref8.Forward, Inverse: contracts. -/
import Derived.Test.YtmmhlojjipbceaaDoorWhtG
set_option linter.unusedSimpArgs false
set_option linter.unusedVariables false
namespace Go.Proofs.YtmmhlojjipbceaaDoor
open Go.RowKit
open T

theorem within_wide (xs : List Int) (m : Int) : withinB xs (-m) m = !(xs.any (wideB m)) := by
  induction xs with
  | nil => rfl
  | cons x t ih =>
    unfold withinB at *
    rw [List.all_cons, List.any_cons, ih, Bool.not_or]
    congr 1
    simp only [wideB, Bool.not_or]
    by_cases h1 : -m ≤ x <;> by_cases h2 : x ≤ m
    · have a : ¬ x < -m := by omega
      have b : ¬ m < x := by omega
      simp [h1, h2, a, b]
    · have b : m < x := by omega
      simp [h2, b]
    · have a : x < -m := by omega
      simp [h1, a]
    · have a : x < -m := by omega
      simp [h1, a]
theorem slice_of {w : World} {v : Value} {xs : List Int} (hv : Ints w v xs) {n : Nat} (hn : xs.length = n) : ∃ ao cap, v = .slice ao n cap := by
  obtain ⟨ao, cap, e, _⟩ := hv; exact ⟨ao, cap, by rw [e, hn]⟩

theorem rfwd_fit (v : Value) (xs : List Int) (w : World) (hv : Ints w v xs) (hl : ¬ (xs.length = 16 ∨ xs.length = 64)) :
    Calls Tryd.prog 12 #[v] w fun e w' => e = .returned (.tuple #[.slice none 0 0, .agg #[.int .i64 14, .slice none 0 0]]) ∧ Below w.heap.size w w' := by
  have hS : ∀ w, Calls Tryd.prog 24 #[.int .i64 (xs.length : Int)] w fun e w' => e = .returned (.int .i64 0) ∧ w = w' := fun w =>
    (rside xs.length w hv.len).mono fun e w' ⟨he, hw⟩ => ⟨by
      have e0 : sideV xs.length = 0 := by
        unfold sideV; rw [if_neg (fun h => hl (.inl h)), if_neg (fun h => hl (.inr h))]
      rw [he, e0]; rfl, hw⟩
  have HS := Lib.hid hS
  obtain ⟨ao, cap, rfl⟩ := slice_of hv rfl
  clear hS hv hl
  go_enter Tryd.func12, Tryd.ntmps12
  go_wp2_with fail
  refine (HS.out _).mono ?_
  rintro e w' ⟨rfl, rfl⟩
  go_wp2_with (go_at_call 21; refine (fail_any _ _).mono ?_; rintro e w1 ⟨rfl, hb1⟩; obtain ⟨hc1, hf1⟩ := bcell hb1; have hz1_0 : w.heap.size < w1.heap.size := Nat.lt_of_lt_of_le (by go_size) hb1.size; have hl1_0 : w.heap.size ≤ w1.heap.size := Nat.le_of_lt hz1_0)
  (refine bodyPost_ret (by simp (maxDischargeDepth := 9) [results, Tryd.results12, go_sem, hc1, hz1_0, hl1_0]; try rfl) rfl ?_)
  have hg1 : Below w.heap.size w w1 := ext (by go_grown) hb1
  exact ⟨rfl, by go_grown⟩

theorem rfwd_range16 (v : Value) (xs : List Int) (w : World) (hv : Ints w v xs) (hl : xs.length = 16) (hw : withinB xs (-65536) 65536 = false) :
    Calls Tryd.prog 12 #[v] w fun e w' => e = .returned (.tuple #[.slice none 0 0, .agg #[.int .i64 3, .slice none 0 0]]) ∧ Below w.heap.size w w' := by
  have hS : ∀ w, Calls Tryd.prog 24 #[.int .i64 16] w fun e w' => e = .returned (.int .i64 4) ∧ w = w' := fun w => rside 16 w (by omega)
  have HS := Lib.hid hS
  have hW : ∀ w, Ints w v xs → Calls Tryd.prog 19 #[v, .int .i64 (-65536), .int .i64 65536] w fun e w' => e = .returned (.bool false) ∧ w = w' := fun w h => by
    have := within_any v xs (-65536) 65536 w h
    rw [hw] at this; exact this
  have HW := Lib.hid hW
  have HV := Lib.hid hv
  obtain ⟨ao, cap, rfl⟩ := slice_of hv hl
  clear hS hv hl hW hw
  go_enter Tryd.func12, Tryd.ntmps12
  go_wp2_with fail
  refine (HS.out _).mono ?_
  rintro e w' ⟨rfl, rfl⟩
  go_wp2_with fail
  refine (HW.out _ (HV.out.ext (by go_grown))).mono ?_
  rintro e w' ⟨rfl, rfl⟩
  go_wp2_with (go_at_call 21; refine (fail_any _ _).mono ?_; rintro e w1 ⟨rfl, hb1⟩; obtain ⟨hc1, hf1⟩ := bcell hb1; have hz1_0 : w.heap.size < w1.heap.size := Nat.lt_of_lt_of_le (by go_size) hb1.size; have hl1_0 : w.heap.size ≤ w1.heap.size := Nat.le_of_lt hz1_0)
  (refine bodyPost_ret (by simp (maxDischargeDepth := 9) [results, Tryd.results12, go_sem, hc1, hz1_0, hl1_0]; try rfl) rfl ?_)
  have hg1 : Below w.heap.size w w1 := ext (by go_grown) hb1
  exact ⟨rfl, by go_grown⟩

theorem rfwd_ok16 (v : Value) (xs : List Int) (w : World) (hv : Ints w v xs) (hl : xs.length = 16) (hw : withinB xs (-65536) 65536 = true) (hM : Bd 16777216 xs) :
    Calls Tryd.prog 12 #[v] w fun e w' => ∃ v', e = .returned (.tuple #[v', .agg #[.int .i64 0, .slice none 0 0]]) ∧ OwnInts w' w.heap.size v' (turnL xs) ∧ Below w.heap.size w w' := by
  have hS : ∀ w, Calls Tryd.prog 24 #[.int .i64 16] w fun e w' => e = .returned (.int .i64 4) ∧ w = w' := fun w => rside 16 w (by omega)
  have HS := Lib.hid hS
  have hW : ∀ w, Ints w v xs → Calls Tryd.prog 19 #[v, .int .i64 (-65536), .int .i64 65536] w fun e w' => e = .returned (.bool true) ∧ w = w' := fun w h => by
    have := within_any v xs (-65536) 65536 w h
    rw [hw] at this; exact this
  have HW := Lib.hid hW
  have hT : ∀ w, Ints w v xs → Calls Tryd.prog 25 #[v, .int .i64 4] w fun e w' => ∃ v', e = .returned v' ∧ OwnInts w' w.heap.size v' (turnL xs) ∧ Below w.heap.size w w' := fun w h => by
    have := rsums v xs 4 w h (by omega) hl hM
    rw [sums_turn (n := 4) (by omega) hl] at this; exact this
  have HT := Lib.hid hT
  have HV := Lib.hid hv
  obtain ⟨ao, cap, rfl⟩ := slice_of hv hl
  clear hS hv hl hW hw hT hM
  go_enter Tryd.func12, Tryd.ntmps12
  go_wp2_with fail
  refine (HS.out _).mono ?_
  rintro e w' ⟨rfl, rfl⟩
  go_wp2_with fail
  refine (HW.out _ (HV.out.ext (by go_grown))).mono ?_
  rintro e w' ⟨rfl, rfl⟩
  go_wp2_with fail
  refine (HT.out _ (HV.out.ext (by go_grown))).mono ?_
  rintro e w1 ⟨u, rfl, hown, hb1⟩
  have hR := (Blk.new w #[.int .i64 0, .slice none 0 0] 32).ext hb1
  obtain ⟨r0, r1, r2, r3⟩ := hR.two
  have hg1 : Below w.heap.size w w1 := ext (by go_grown) hb1
  have HO := Lib.hid hown
  clear hown hR
  go_wp2
  refine bodyPost_ret (by simp [results, Tryd.results12, go_sem, r0, r1, r2, r3]; try rfl) rfl ?_
  refine ⟨u, rfl, ?_, by go_grown⟩
  exact ((HO.out.setOther (by simp) _).setOther (by simp) _).mono (by simp)

theorem rfwd_range64 (v : Value) (xs : List Int) (w : World) (hv : Ints w v xs) (hl : xs.length = 64) (hw : withinB xs (-65536) 65536 = false) :
    Calls Tryd.prog 12 #[v] w fun e w' => e = .returned (.tuple #[.slice none 0 0, .agg #[.int .i64 3, .slice none 0 0]]) ∧ Below w.heap.size w w' := by
  have hS : ∀ w, Calls Tryd.prog 24 #[.int .i64 64] w fun e w' => e = .returned (.int .i64 8) ∧ w = w' := fun w => rside 64 w (by omega)
  have HS := Lib.hid hS
  have hW : ∀ w, Ints w v xs → Calls Tryd.prog 19 #[v, .int .i64 (-65536), .int .i64 65536] w fun e w' => e = .returned (.bool false) ∧ w = w' := fun w h => by
    have := within_any v xs (-65536) 65536 w h
    rw [hw] at this; exact this
  have HW := Lib.hid hW
  have HV := Lib.hid hv
  obtain ⟨ao, cap, rfl⟩ := slice_of hv hl
  clear hS hv hl hW hw
  go_enter Tryd.func12, Tryd.ntmps12
  go_wp2_with fail
  refine (HS.out _).mono ?_
  rintro e w' ⟨rfl, rfl⟩
  go_wp2_with fail
  refine (HW.out _ (HV.out.ext (by go_grown))).mono ?_
  rintro e w' ⟨rfl, rfl⟩
  go_wp2_with (go_at_call 21; refine (fail_any _ _).mono ?_; rintro e w1 ⟨rfl, hb1⟩; obtain ⟨hc1, hf1⟩ := bcell hb1; have hz1_0 : w.heap.size < w1.heap.size := Nat.lt_of_lt_of_le (by go_size) hb1.size; have hl1_0 : w.heap.size ≤ w1.heap.size := Nat.le_of_lt hz1_0)
  (refine bodyPost_ret (by simp (maxDischargeDepth := 9) [results, Tryd.results12, go_sem, hc1, hz1_0, hl1_0]; try rfl) rfl ?_)
  have hg1 : Below w.heap.size w w1 := ext (by go_grown) hb1
  exact ⟨rfl, by go_grown⟩

theorem rfwd_ok64 (v : Value) (xs : List Int) (w : World) (hv : Ints w v xs) (hl : xs.length = 64) (hw : withinB xs (-65536) 65536 = true) (hM : Bd 16777216 xs) :
    Calls Tryd.prog 12 #[v] w fun e w' => ∃ v', e = .returned (.tuple #[v', .agg #[.int .i64 0, .slice none 0 0]]) ∧ OwnInts w' w.heap.size v' (turnL xs) ∧ Below w.heap.size w w' := by
  have hS : ∀ w, Calls Tryd.prog 24 #[.int .i64 64] w fun e w' => e = .returned (.int .i64 8) ∧ w = w' := fun w => rside 64 w (by omega)
  have HS := Lib.hid hS
  have hW : ∀ w, Ints w v xs → Calls Tryd.prog 19 #[v, .int .i64 (-65536), .int .i64 65536] w fun e w' => e = .returned (.bool true) ∧ w = w' := fun w h => by
    have := within_any v xs (-65536) 65536 w h
    rw [hw] at this; exact this
  have HW := Lib.hid hW
  have hT : ∀ w, Ints w v xs → Calls Tryd.prog 25 #[v, .int .i64 8] w fun e w' => ∃ v', e = .returned v' ∧ OwnInts w' w.heap.size v' (turnL xs) ∧ Below w.heap.size w w' := fun w h => by
    have := rsums v xs 8 w h (by omega) hl hM
    rw [sums_turn (n := 8) (by omega) hl] at this; exact this
  have HT := Lib.hid hT
  have HV := Lib.hid hv
  obtain ⟨ao, cap, rfl⟩ := slice_of hv hl
  clear hS hv hl hW hw hT hM
  go_enter Tryd.func12, Tryd.ntmps12
  go_wp2_with fail
  refine (HS.out _).mono ?_
  rintro e w' ⟨rfl, rfl⟩
  go_wp2_with fail
  refine (HW.out _ (HV.out.ext (by go_grown))).mono ?_
  rintro e w' ⟨rfl, rfl⟩
  go_wp2_with fail
  refine (HT.out _ (HV.out.ext (by go_grown))).mono ?_
  rintro e w1 ⟨u, rfl, hown, hb1⟩
  have hR := (Blk.new w #[.int .i64 0, .slice none 0 0] 32).ext hb1
  obtain ⟨r0, r1, r2, r3⟩ := hR.two
  have hg1 : Below w.heap.size w w1 := ext (by go_grown) hb1
  have HO := Lib.hid hown
  clear hown hR
  go_wp2
  refine bodyPost_ret (by simp [results, Tryd.results12, go_sem, r0, r1, r2, r3]; try rfl) rfl ?_
  refine ⟨u, rfl, ?_, by go_grown⟩
  exact ((HO.out.setOther (by simp) _).setOther (by simp) _).mono (by simp)

theorem rinv_fit (v : Value) (xs : List Int) (w : World) (hv : Ints w v xs) (hl : ¬ (xs.length = 16 ∨ xs.length = 64)) :
    Calls Tryd.prog 14 #[v] w fun e w' => e = .returned (.tuple #[.slice none 0 0, .agg #[.int .i64 14, .slice none 0 0]]) ∧ Below w.heap.size w w' := by
  have hS : ∀ w, Calls Tryd.prog 24 #[.int .i64 (xs.length : Int)] w fun e w' => e = .returned (.int .i64 0) ∧ w = w' := fun w =>
    (rside xs.length w hv.len).mono fun e w' ⟨he, hw⟩ => ⟨by
      have e0 : sideV xs.length = 0 := by
        unfold sideV; rw [if_neg (fun h => hl (.inl h)), if_neg (fun h => hl (.inr h))]
      rw [he, e0]; rfl, hw⟩
  have HS := Lib.hid hS
  obtain ⟨ao, cap, rfl⟩ := slice_of hv rfl
  clear hS hv hl
  go_enter Tryd.func14, Tryd.ntmps14
  go_wp2_with fail
  refine (HS.out _).mono ?_
  rintro e w' ⟨rfl, rfl⟩
  go_wp2_with (go_at_call 21; refine (fail_any _ _).mono ?_; rintro e w1 ⟨rfl, hb1⟩; obtain ⟨hc1, hf1⟩ := bcell hb1; have hz1_0 : w.heap.size < w1.heap.size := Nat.lt_of_lt_of_le (by go_size) hb1.size; have hl1_0 : w.heap.size ≤ w1.heap.size := Nat.le_of_lt hz1_0)
  (refine bodyPost_ret (by simp (maxDischargeDepth := 9) [results, Tryd.results14, go_sem, hc1, hz1_0, hl1_0]; try rfl) rfl ?_)
  have hg1 : Below w.heap.size w w1 := ext (by go_grown) hb1
  exact ⟨rfl, by go_grown⟩

theorem rinv_range16 (v : Value) (xs : List Int) (w : World) (hv : Ints w v xs) (hl : xs.length = 16) (hw : withinB xs (-16777216) 16777216 = false) :
    Calls Tryd.prog 14 #[v] w fun e w' => e = .returned (.tuple #[.slice none 0 0, .agg #[.int .i64 3, .slice none 0 0]]) ∧ Below w.heap.size w w' := by
  have hS : ∀ w, Calls Tryd.prog 24 #[.int .i64 16] w fun e w' => e = .returned (.int .i64 4) ∧ w = w' := fun w => rside 16 w (by omega)
  have HS := Lib.hid hS
  have hW : ∀ w, Ints w v xs → Calls Tryd.prog 19 #[v, .int .i64 (-16777216), .int .i64 16777216] w fun e w' => e = .returned (.bool false) ∧ w = w' := fun w h => by
    have := within_any v xs (-16777216) 16777216 w h
    rw [hw] at this; exact this
  have HW := Lib.hid hW
  have HV := Lib.hid hv
  obtain ⟨ao, cap, rfl⟩ := slice_of hv hl
  clear hS hv hl hW hw
  go_enter Tryd.func14, Tryd.ntmps14
  go_wp2_with fail
  refine (HS.out _).mono ?_
  rintro e w' ⟨rfl, rfl⟩
  go_wp2_with fail
  refine (HW.out _ (HV.out.ext (by go_grown))).mono ?_
  rintro e w' ⟨rfl, rfl⟩
  go_wp2_with (go_at_call 21; refine (fail_any _ _).mono ?_; rintro e w1 ⟨rfl, hb1⟩; obtain ⟨hc1, hf1⟩ := bcell hb1; have hz1_0 : w.heap.size < w1.heap.size := Nat.lt_of_lt_of_le (by go_size) hb1.size; have hl1_0 : w.heap.size ≤ w1.heap.size := Nat.le_of_lt hz1_0)
  (refine bodyPost_ret (by simp (maxDischargeDepth := 9) [results, Tryd.results14, go_sem, hc1, hz1_0, hl1_0]; try rfl) rfl ?_)
  have hg1 : Below w.heap.size w w1 := ext (by go_grown) hb1
  exact ⟨rfl, by go_grown⟩

theorem rinv_range64 (v : Value) (xs : List Int) (w : World) (hv : Ints w v xs) (hl : xs.length = 64) (hw : withinB xs (-16777216) 16777216 = false) :
    Calls Tryd.prog 14 #[v] w fun e w' => e = .returned (.tuple #[.slice none 0 0, .agg #[.int .i64 3, .slice none 0 0]]) ∧ Below w.heap.size w w' := by
  have hS : ∀ w, Calls Tryd.prog 24 #[.int .i64 64] w fun e w' => e = .returned (.int .i64 8) ∧ w = w' := fun w => rside 64 w (by omega)
  have HS := Lib.hid hS
  have hW : ∀ w, Ints w v xs → Calls Tryd.prog 19 #[v, .int .i64 (-16777216), .int .i64 16777216] w fun e w' => e = .returned (.bool false) ∧ w = w' := fun w h => by
    have := within_any v xs (-16777216) 16777216 w h
    rw [hw] at this; exact this
  have HW := Lib.hid hW
  have HV := Lib.hid hv
  obtain ⟨ao, cap, rfl⟩ := slice_of hv hl
  clear hS hv hl hW hw
  go_enter Tryd.func14, Tryd.ntmps14
  go_wp2_with fail
  refine (HS.out _).mono ?_
  rintro e w' ⟨rfl, rfl⟩
  go_wp2_with fail
  refine (HW.out _ (HV.out.ext (by go_grown))).mono ?_
  rintro e w' ⟨rfl, rfl⟩
  go_wp2_with (go_at_call 21; refine (fail_any _ _).mono ?_; rintro e w1 ⟨rfl, hb1⟩; obtain ⟨hc1, hf1⟩ := bcell hb1; have hz1_0 : w.heap.size < w1.heap.size := Nat.lt_of_lt_of_le (by go_size) hb1.size; have hl1_0 : w.heap.size ≤ w1.heap.size := Nat.le_of_lt hz1_0)
  (refine bodyPost_ret (by simp (maxDischargeDepth := 9) [results, Tryd.results14, go_sem, hc1, hz1_0, hl1_0]; try rfl) rfl ?_)
  have hg1 : Below w.heap.size w w1 := ext (by go_grown) hb1
  exact ⟨rfl, by go_grown⟩

theorem rforward_any (v : Value) (xs : List Int) (w : World) (hv : Ints w v xs) :
    Calls Tryd.prog 12 #[v] w fun e w' => ∃ v', e = .returned (.tuple #[v', .agg #[.int .i64 (chkE xs 65536), .slice none 0 0]]) ∧ OwnInts w' w.heap.size v' (fwdV xs) ∧ Below w.heap.size w w' := by
  by_cases hl : xs.length = 16 ∨ xs.length = 64
  · have hx := within_wide xs 65536
    cases ha : xs.any (wideB 65536) with
    | true =>
      have e : chkE xs 65536 = 3 := by simp [chkE, hl, ha]
      have eV : fwdV xs = [] := by simp [fwdV, e]
      rw [ha] at hx
      rw [e, eV]
      rcases hl with h | h
      · exact (rfwd_range16 v xs w hv h hx).mono fun e w' ⟨he, hb⟩ => ⟨_, he, OwnInts.nil _ _, hb⟩
      · exact (rfwd_range64 v xs w hv h hx).mono fun e w' ⟨he, hb⟩ => ⟨_, he, OwnInts.nil _ _, hb⟩
    | false =>
      have e : chkE xs 65536 = 0 := by simp [chkE, hl, ha]
      have eV : fwdV xs = turnL xs := by simp [fwdV, e]
      have hM := (chkE_zero (by omega) e).2.mono (show (65536 : Int) ≤ 16777216 by omega)
      rw [ha] at hx
      rw [e, eV]
      rcases hl with h | h
      · exact rfwd_ok16 v xs w hv h hx hM
      · exact rfwd_ok64 v xs w hv h hx hM
  · have e : chkE xs 65536 = 14 := by simp [chkE, hl]
    have eV : fwdV xs = [] := by simp [fwdV, e]
    rw [e, eV]
    exact (rfwd_fit v xs w hv hl).mono fun e w' ⟨he, hb⟩ => ⟨_, he, OwnInts.nil _ _, hb⟩
end Go.Proofs.YtmmhlojjipbceaaDoor
