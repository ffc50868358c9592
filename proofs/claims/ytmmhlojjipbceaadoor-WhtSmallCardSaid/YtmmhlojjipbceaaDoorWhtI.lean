/- kinref8.Inverse: contract. -/
import Derived.Test.YtmmhlojjipbceaaDoorWhtH
set_option linter.unusedSimpArgs false
set_option linter.unusedVariables false
namespace Go.Proofs.YtmmhlojjipbceaaDoor
open Go.RowKit
open T

set_option maxRecDepth 100000 in
set_option maxHeartbeats 4000000 in
theorem rinv_ok16 (v : Value) (xs : List Int) (w : World) (hv : Ints w v xs) (hl : xs.length = 16) (hw : withinB xs (-16777216) 16777216 = true) (hM : Bd 16777216 xs) :
    Calls Tryd.prog 14 #[v] w fun e w' => ∃ v', e = .returned (.tuple #[v', .agg #[.int .i64 0, .slice none 0 0]]) ∧ OwnInts w' w.heap.size v' (shrTo 16 16 (turnL xs)) ∧ Below w.heap.size w w' := by
  have hS : ∀ w, Calls Tryd.prog 24 #[.int .i64 16] w fun e w' => e = .returned (.int .i64 4) ∧ w = w' := fun w => rside 16 w (by omega)
  have HS := Lib.hid hS
  have hW : ∀ w, Ints w v xs → Calls Tryd.prog 19 #[v, .int .i64 (-16777216), .int .i64 16777216] w fun e w' => e = .returned (.bool true) ∧ w = w' := fun w h => by
    have := within_any v xs (-16777216) 16777216 w h
    rw [hw] at this; exact this
  have HW := Lib.hid hW
  have hT : ∀ w, Ints w v xs → Calls Tryd.prog 25 #[v, .int .i64 4] w fun e w' => ∃ v', e = .returned v' ∧ OwnInts w' w.heap.size v' (turnL xs) ∧ Below w.heap.size w w' := fun w h => by
    have := rsums v xs 4 w h (by omega) hl hM
    rw [sums_turn (n := 4) (by omega) hl] at this; exact this
  have HT := Lib.hid hT
  have HV := Lib.hid hv
  have HB := Lib.hid hM
  have HN := Lib.hid hl
  obtain ⟨ao, cap, rfl⟩ := slice_of hv hl
  clear hS hv hl hW hw hT hM
  go_enter Tryd.func14, Tryd.ntmps14
  go_wp2_with fail
  refine (HS.out _).mono ?_
  rintro e w' ⟨rfl, rfl⟩
  go_wp2_with fail
  refine (HW.out _ (HV.out.ext (by go_grown))).mono ?_
  rintro e w' ⟨rfl, rfl⟩
  go_wp2_with fail
  refine (HT.out _ (HV.out.ext (by go_grown))).mono ?_
  rintro e w1 ⟨u, rfl, hown, hb1⟩
  have hR := (Blk.new w #[.int .i64 0, .slice none 0 0] 32).ext hb1
  have HR := Lib.hid hR
  have hg1 : Below w.heap.size w w1 := ext (by go_grown) hb1
  obtain ⟨g, cap, rfl, hgg, hgl⟩ := hown.head (by rw [length_turnL, HN.out]; omega)
  have hgR : w.heap.size < g := by simp at hgg; omega
  have eln : (turnL xs).length = 16 := by rw [length_turnL, HN.out]
  rw [eln] at hown ⊢
  have HO := Lib.hid hown
  have hbd := fun j => bd_turnL (by rw [HN.out]; omega) HB.out j
  generalize hY : turnL xs = ys at *
  have HY := Lib.hid hY
  clear hY
  have EL := Lib.hid eln
  have HBD := Lib.hid hbd
  clear hown eln hbd hR hgg
  go_wp2
  go_loopw [6] (fun i wr => ∃ k : Nat, k ≤ 16 ∧ i = .int .i64 k ∧ OwnInts wr (w.heap.size + 1) (.slice (some ⟨g, 0, none⟩) 16 cap) (shrTo 16 k ys) ∧ Below w.heap.size w wr ∧ Blk wr w.heap.size #[.int .i64 0, .slice none 0 0] 32) (fun i _ => 16 - (intOf i).toNat)
  case atStart => exact ⟨0, by omega, rfl, by rw [shrTo_zero]; simpa using HO.out, hg1, HR.out⟩
  case round =>
    obtain ⟨k, hk, rfl, hown, hbr, hRr⟩ := hrel
    have HO1 := Lib.hid hown
    have HR1 := Lib.hid hRr
    clear hRr
    by_cases hkl : k < 16
    · obtain ⟨-, -, -, hcell, hfz⟩ := hown.at
      have hca := hcell k (by rw [length_shrTo, EL.out]; exact hkl)
      rw [getD_shrTo (by rw [EL.out]; exact hkl), if_neg (Nat.lt_irrefl k)] at hca
      have hfa := hfz k
      have hba := HBD.out k
      have HO2 := Lib.hid (show OwnInts (wr.setCell ⟨g, k, none⟩ (.int .i64 ((ys.getD k 0 + 8) / 16))) (w.heap.size + 1) (.slice (some ⟨g, 0, none⟩) 16 cap) (shrTo 16 (k + 1) ys) from by
        rw [← shrTo_succ (by rw [EL.out]; exact hkl)]
        exact HO1.out.set' k _ (by unfold in64; omega))
      generalize ys.getD k 0 = x at *
      obtain ⟨hba1, hba2⟩ := hba
      have HD := Lib.hid (fun w => rdown16 (x + 8) w (by omega) (by omega))
      clear hown hcell hfz HO1
      go_wp2_with fail
      refine (HD.out _).mono ?_
      rintro e w' ⟨rfl, rfl⟩
      go_wp2
      go_roundw
      case rel => exact ⟨k + 1, by omega, by go_num, HO2.out, hbr.setCell (by simp; omega) _, HR1.out.setOther ⟨g, k, none⟩ _ (by show w.heap.size ≠ g; omega)⟩
      case measure => simp [intOf]; omega
    · have ek : k = 16 := by omega
      rw [ek] at hown
      have HO2 := Lib.hid hown
      obtain ⟨r0, r1, r2, r3⟩ := HR1.out.two
      clear hown HO1 HR1 ek
      go_wp2
      refine bodyPost_ret (by simp [results, Tryd.results14, go_sem, r0, r1, r2, r3]; try rfl) rfl ?_
      refine ⟨.slice (some ⟨g, 0, none⟩) _ cap, rfl, ?_, by go_grown⟩
      rw [HY.out]
      exact ((HO2.out.setOther (by simp) _).setOther (by simp) _).mono (by simp)

set_option maxRecDepth 100000 in
set_option maxHeartbeats 4000000 in
theorem rinv_ok64 (v : Value) (xs : List Int) (w : World) (hv : Ints w v xs) (hl : xs.length = 64) (hw : withinB xs (-16777216) 16777216 = true) (hM : Bd 16777216 xs) :
    Calls Tryd.prog 14 #[v] w fun e w' => ∃ v', e = .returned (.tuple #[v', .agg #[.int .i64 0, .slice none 0 0]]) ∧ OwnInts w' w.heap.size v' (shrTo 64 64 (turnL xs)) ∧ Below w.heap.size w w' := by
  have hS : ∀ w, Calls Tryd.prog 24 #[.int .i64 64] w fun e w' => e = .returned (.int .i64 8) ∧ w = w' := fun w => rside 64 w (by omega)
  have HS := Lib.hid hS
  have hW : ∀ w, Ints w v xs → Calls Tryd.prog 19 #[v, .int .i64 (-16777216), .int .i64 16777216] w fun e w' => e = .returned (.bool true) ∧ w = w' := fun w h => by
    have := within_any v xs (-16777216) 16777216 w h
    rw [hw] at this; exact this
  have HW := Lib.hid hW
  have hT : ∀ w, Ints w v xs → Calls Tryd.prog 25 #[v, .int .i64 8] w fun e w' => ∃ v', e = .returned v' ∧ OwnInts w' w.heap.size v' (turnL xs) ∧ Below w.heap.size w w' := fun w h => by
    have := rsums v xs 8 w h (by omega) hl hM
    rw [sums_turn (n := 8) (by omega) hl] at this; exact this
  have HT := Lib.hid hT
  have HV := Lib.hid hv
  have HB := Lib.hid hM
  have HN := Lib.hid hl
  obtain ⟨ao, cap, rfl⟩ := slice_of hv hl
  clear hS hv hl hW hw hT hM
  go_enter Tryd.func14, Tryd.ntmps14
  go_wp2_with fail
  refine (HS.out _).mono ?_
  rintro e w' ⟨rfl, rfl⟩
  go_wp2_with fail
  refine (HW.out _ (HV.out.ext (by go_grown))).mono ?_
  rintro e w' ⟨rfl, rfl⟩
  go_wp2_with fail
  refine (HT.out _ (HV.out.ext (by go_grown))).mono ?_
  rintro e w1 ⟨u, rfl, hown, hb1⟩
  have hR := (Blk.new w #[.int .i64 0, .slice none 0 0] 32).ext hb1
  have HR := Lib.hid hR
  have hg1 : Below w.heap.size w w1 := ext (by go_grown) hb1
  obtain ⟨g, cap, rfl, hgg, hgl⟩ := hown.head (by rw [length_turnL, HN.out]; omega)
  have hgR : w.heap.size < g := by simp at hgg; omega
  have eln : (turnL xs).length = 64 := by rw [length_turnL, HN.out]
  rw [eln] at hown ⊢
  have HO := Lib.hid hown
  have hbd := fun j => bd_turnL (by rw [HN.out]; omega) HB.out j
  generalize hY : turnL xs = ys at *
  have HY := Lib.hid hY
  clear hY
  have EL := Lib.hid eln
  have HBD := Lib.hid hbd
  clear hown eln hbd hR hgg
  go_wp2
  go_loopw [6] (fun i wr => ∃ k : Nat, k ≤ 64 ∧ i = .int .i64 k ∧ OwnInts wr (w.heap.size + 1) (.slice (some ⟨g, 0, none⟩) 64 cap) (shrTo 64 k ys) ∧ Below w.heap.size w wr ∧ Blk wr w.heap.size #[.int .i64 0, .slice none 0 0] 32) (fun i _ => 64 - (intOf i).toNat)
  case atStart => exact ⟨0, by omega, rfl, by rw [shrTo_zero]; simpa using HO.out, hg1, HR.out⟩
  case round =>
    obtain ⟨k, hk, rfl, hown, hbr, hRr⟩ := hrel
    have HO1 := Lib.hid hown
    have HR1 := Lib.hid hRr
    clear hRr
    by_cases hkl : k < 64
    · obtain ⟨-, -, -, hcell, hfz⟩ := hown.at
      have hca := hcell k (by rw [length_shrTo, EL.out]; exact hkl)
      rw [getD_shrTo (by rw [EL.out]; exact hkl), if_neg (Nat.lt_irrefl k)] at hca
      have hfa := hfz k
      have hba := HBD.out k
      have HO2 := Lib.hid (show OwnInts (wr.setCell ⟨g, k, none⟩ (.int .i64 ((ys.getD k 0 + 32) / 64))) (w.heap.size + 1) (.slice (some ⟨g, 0, none⟩) 64 cap) (shrTo 64 (k + 1) ys) from by
        rw [← shrTo_succ (by rw [EL.out]; exact hkl)]
        exact HO1.out.set' k _ (by unfold in64; omega))
      generalize ys.getD k 0 = x at *
      obtain ⟨hba1, hba2⟩ := hba
      have HD := Lib.hid (fun w => rdown64 (x + 32) w (by omega) (by omega))
      clear hown hcell hfz HO1
      go_wp2_with fail
      refine (HD.out _).mono ?_
      rintro e w' ⟨rfl, rfl⟩
      go_wp2
      go_roundw
      case rel => exact ⟨k + 1, by omega, by go_num, HO2.out, hbr.setCell (by simp; omega) _, HR1.out.setOther ⟨g, k, none⟩ _ (by show w.heap.size ≠ g; omega)⟩
      case measure => simp [intOf]; omega
    · have ek : k = 64 := by omega
      rw [ek] at hown
      have HO2 := Lib.hid hown
      obtain ⟨r0, r1, r2, r3⟩ := HR1.out.two
      clear hown HO1 HR1 ek
      go_wp2
      refine bodyPost_ret (by simp [results, Tryd.results14, go_sem, r0, r1, r2, r3]; try rfl) rfl ?_
      refine ⟨.slice (some ⟨g, 0, none⟩) _ cap, rfl, ?_, by go_grown⟩
      rw [HY.out]
      exact ((HO2.out.setOther (by simp) _).setOther (by simp) _).mono (by simp)

theorem rinverse_any (v : Value) (xs : List Int) (w : World) (hv : Ints w v xs) :
    Calls Tryd.prog 14 #[v] w fun e w' => ∃ v', e = .returned (.tuple #[v', .agg #[.int .i64 (chkE xs 16777216), .slice none 0 0]]) ∧ OwnInts w' w.heap.size v' (invV xs) ∧ Below w.heap.size w w' := by
  by_cases hl : xs.length = 16 ∨ xs.length = 64
  · have hx := within_wide xs 16777216
    cases ha : xs.any (wideB 16777216) with
    | true =>
      have e : chkE xs 16777216 = 3 := by simp [chkE, hl, ha]
      have eV : invV xs = [] := by simp [invV, e]
      rw [ha] at hx
      rw [e, eV]
      rcases hl with h | h
      · exact (rinv_range16 v xs w hv h hx).mono fun e w' ⟨he, hb⟩ => ⟨_, he, OwnInts.nil _ _, hb⟩
      · exact (rinv_range64 v xs w hv h hx).mono fun e w' ⟨he, hb⟩ => ⟨_, he, OwnInts.nil _ _, hb⟩
    | false =>
      have e : chkE xs 16777216 = 0 := by simp [chkE, hl, ha]
      have eV : invV xs = shrTo xs.length xs.length (turnL xs) := by simp [invV, e]
      have hM := (chkE_zero (by omega) e).2
      rw [ha] at hx
      rw [e, eV]
      rcases hl with h | h
      · rw [h]; exact rinv_ok16 v xs w hv h hx hM
      · rw [h]; exact rinv_ok64 v xs w hv h hx hM
  · have e : chkE xs 16777216 = 14 := by simp [chkE, hl]
    have eV : invV xs = [] := by simp [invV, e]
    rw [e, eV]
    exact (rinv_fit v xs w hv hl).mono fun e w' ⟨he, hb⟩ => ⟨_, he, OwnInts.nil _ _, hb⟩
end Go.Proofs.YtmmhlojjipbceaaDoor
