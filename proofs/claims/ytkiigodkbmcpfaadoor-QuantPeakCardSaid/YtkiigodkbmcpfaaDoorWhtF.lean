/- wht's Forward and Inverse: contracts. -/
import Derived.Test.YtkiigodkbmcpfaaDoorWhtW
import Derived.Outline
import Derived.KernelRfl
set_option linter.unusedSimpArgs false
set_option linter.unusedVariables false
namespace Go.Proofs.YtkiigodkbmcpfaaDoor
open Go.RowKit
open T

theorem chkE_zero {xs : List Int} {m : Int} (hm : 0 ≤ m) (h : chkE xs m = 0) : (xs.length = 16 ∨ xs.length = 64) ∧ Bd m xs := by
  unfold chkE at h
  split at h
  · rename_i hl
    refine ⟨hl, ?_⟩
    split at h
    · cases h
    · rename_i ha
      rw [Bool.not_eq_true, List.any_eq_false] at ha
      exact bd_of_all hm fun x hx => by have := ha x hx; simp [wideB] at this; omega
  · cases h
def fwdV (xs : List Int) : List Int := if chkE xs 65536 = 0 then turnL xs else []
theorem pforward_any (v : Value) (xs : List Int) (w : World) (hv : Ints w v xs) :
    Calls Tryd.prog 26 #[v] w fun e w' => ∃ v', e = .returned (.tuple #[v', errV (chkE xs 65536)]) ∧ OwnInts w' w.heap.size v' (fwdV xs) ∧ Below w.heap.size w w' := by
  have hc := check_any v xs 65536 w hv (by omega) (by omega)
  have HV := Lib.hid hv
  by_cases h0 : chkE xs 65536 = 0
  · obtain ⟨hl, hb⟩ := chkE_zero (by omega) h0
    have eV : Hid (fwdV xs = turnL xs) := by show _ = _; simp only [fwdV, if_pos h0]
    rw [h0, errV_zero] at hc
    rw [h0, errV_zero]
    have HC := Lib.hid hc
    have HL := Lib.hid hl
    have HB := Lib.hid (hb.mono (show (65536 : Int) ≤ 16777216 by omega))
    clear hc hl hb h0 hv
    go_enter Tryd.func26, Tryd.ntmps26
    go_wp2_with fail
    refine (HC.out).mono ?_
    rintro e w1 ⟨rfl, hb1⟩
    go_wp2_with fail
    refine (turn_any v xs _ (HV.out.ext hb1) HL.out HB.out).mono ?_
    rintro e w2 ⟨v', rfl, hown, hb2⟩
    have HO := Lib.hid hown
    clear hown
    go_wp2
    go_returns
    exact ⟨_, rfl, by rw [eV.out]; exact HO.out.mono hb1.size, ext hb1 hb2⟩
  · have eV : Hid (fwdV xs = []) := by show _ = _; simp only [fwdV, if_neg h0]
    have hk : (chkE xs 65536 == 0) = false := by simpa using h0
    generalize chkE xs 65536 = k at *
    have HC := Lib.hid hc
    clear hc h0 hv
    go_enter Tryd.func26, Tryd.ntmps26
    go_wp2_with fail
    refine (HC.out).mono ?_
    rintro e w1 ⟨rfl, hb1⟩
    go_wp2
    go_returns
    exact ⟨_, rfl, by rw [eV.out]; exact OwnInts.nil _ _, hb1⟩

/-! ### Inverse -/
set_option maxRecDepth 100000 in
theorem len16 (w : World) : Calls Tryd.prog 35 #[.int .u64 16] w fun e w' => e = .returned (.int .i64 5) ∧ w = w' := by
  go_enter Tryd.func35, Tryd.ntmps35
  go_wp2
  go_returns
  exact ⟨by kernel_rfl, rfl⟩
set_option maxRecDepth 100000 in
theorem len64 (w : World) : Calls Tryd.prog 35 #[.int .u64 64] w fun e w' => e = .returned (.int .i64 7) ∧ w = w' := by
  go_enter Tryd.func35, Tryd.ntmps35
  go_wp2
  go_returns
  exact ⟨by kernel_rfl, rfl⟩
/-- Each number divided by so many, half of them added first. -/
def shr (n : Nat) (x : Int) : Int := (x + n / 2) / n
def shrTo (n k : Nat) (ys : List Int) : List Int := (List.range ys.length).map fun i => if i < k then shr n (ys.getD i 0) else ys.getD i 0
theorem length_shrTo (n k : Nat) (ys : List Int) : (shrTo n k ys).length = ys.length := by simp [shrTo]
theorem getD_shrTo {n k i : Nat} {ys : List Int} (hi : i < ys.length) : (shrTo n k ys).getD i 0 = if i < k then shr n (ys.getD i 0) else ys.getD i 0 := by
  simp [shrTo, List.getD, hi]
theorem shrTo_zero (n : Nat) (ys : List Int) : shrTo n 0 ys = ys := by
  apply ext_getD (length_shrTo ..)
  intro i hi
  rw [length_shrTo] at hi
  rw [getD_shrTo hi, if_neg (by omega)]
theorem shrTo_succ {n k : Nat} {ys : List Int} (hk : k < ys.length) : (shrTo n k ys).set k (shr n (ys.getD k 0)) = shrTo n (k + 1) ys := by
  apply ext_getD (by simp [length_shrTo])
  intro i hi
  rw [List.length_set, length_shrTo] at hi
  rw [getD_set, getD_shrTo hi, getD_shrTo hi, length_shrTo]
  by_cases h : k = i
  · subst h
    have c1 : k < k + 1 := by omega
    rw [if_pos ⟨rfl, hi⟩, if_pos c1]
  · rw [if_neg (fun x => h x.1)]
    by_cases h2 : i < k
    · have c1 : i < k + 1 := by omega
      rw [if_pos h2, if_pos c1]
    · have c1 : ¬ i < k + 1 := by omega
      rw [if_neg h2, if_neg c1]
def invV (xs : List Int) : List Int := if chkE xs 16777216 = 0 then shrTo xs.length xs.length (turnL xs) else []
theorem bd_turnL {xs : List Int} (hn : xs.length = 16 ∨ xs.length = 64) (hb : Bd 16777216 xs) (j : Nat) : -1073741824 ≤ (turnL xs).getD j 0 ∧ (turnL xs).getD j 0 ≤ 1073741824 := by
  have h := bd_turnTo hn hb (lg xs.length) (Nat.le_refl _)
  have h1 := h j
  have h3 : (2 : Int) ^ (lg xs.length) ≤ 64 := by
    rcases hn with h | h <;> rw [h] <;> decide
  have h4 : (2 : Int) ^ (lg xs.length) * 16777216 ≤ 64 * 16777216 := Int.mul_le_mul_of_nonneg_right h3 (by omega)
  unfold turnL
  omega

set_option maxRecDepth 100000 in
set_option maxHeartbeats 2000000 in
theorem pinv16 (v : Value) (xs : List Int) (w : World) (hv : Ints w v xs) (h0 : chkE xs 16777216 = 0) (hn : xs.length = 16) :
    Calls Tryd.prog 27 #[v] w fun e w' => ∃ v', e = .returned (.tuple #[v', .nilIface]) ∧ OwnInts w' w.heap.size v' (shrTo 16 16 (turnL xs)) ∧ Below w.heap.size w w' := by
  have hc := check_any v xs 16777216 w hv (by omega) (by omega)
  obtain ⟨hl, hb⟩ := chkE_zero (by omega) h0
  rw [h0, errV_zero] at hc
  have HC := Lib.hid hc
  have HV := Lib.hid hv
  have HB := Lib.hid hb
  have HL := Lib.hid hl
  have HN := Lib.hid hn
  clear hc hl hb h0 hv hn
  go_enter Tryd.func27, Tryd.ntmps27
  go_wp2_with fail
  refine (HC.out).mono ?_
  rintro e w1 ⟨rfl, hb1⟩
  go_wp2_with fail
  refine (turn_any v xs _ (HV.out.ext hb1) HL.out HB.out).mono ?_
  rintro e w2 ⟨u, rfl, hown, hb2⟩
  obtain ⟨g, cap, rfl, hg1, hg2⟩ := hown.head (by rw [length_turnL, HN.out]; omega)
  have hg1 : w.heap.size ≤ g := Nat.le_trans hb1.size hg1
  have eln : (turnL xs).length = 16 := by rw [length_turnL, HN.out]
  rw [eln] at hown ⊢
  have HO := Lib.hid (hown.mono hb1.size)
  have hbd := fun j => bd_turnL (by rw [HN.out]; omega) HB.out j
  generalize hY : turnL xs = ys at *
  have HY := Lib.hid hY
  clear hY
  have EL := Lib.hid eln
  have HBD := Lib.hid hbd
  have g2 := ext hb1 hb2
  clear hown eln hbd
  go_wp2_with fail
  refine (len16 _).mono ?_
  rintro e w3 ⟨rfl, rfl⟩
  go_wp2
  go_loopw [23, 7, 8] (fun c _ _ wr => ∃ k : Nat, k ≤ 16 ∧ c = .int .i64 k ∧ OwnInts wr w.heap.size (.slice (some ⟨g, 0, none⟩) 16 cap) (shrTo 16 k ys) ∧ Below w.heap.size w wr) (fun c _ _ _ => 16 - (intOf c).toNat)
  case atStart => exact ⟨0, by omega, rfl, by rw [shrTo_zero]; exact HO.out, g2⟩
  case round =>
    obtain ⟨k, hk, rfl, hown, hbr⟩ := hrel
    have HO1 := Lib.hid hown
    by_cases hkl : k < 16
    · obtain ⟨-, -, -, hcell, hfz⟩ := hown.at
      have hca := hcell k (by rw [length_shrTo, EL.out]; exact hkl)
      rw [getD_shrTo (by rw [EL.out]; exact hkl), if_neg (Nat.lt_irrefl k)] at hca
      have hfa := hfz k
      have hba := HBD.out k
      have HO2 := Lib.hid (show OwnInts (wr.setCell ⟨g, k, none⟩ (.int .i64 ((ys.getD k 0 + 8) / 16))) w.heap.size (.slice (some ⟨g, 0, none⟩) 16 cap) (shrTo 16 (k + 1) ys) from by
        rw [← shrTo_succ (by rw [EL.out]; exact hkl)]
        exact HO1.out.set' k _ (by unfold in64; omega))
      generalize ys.getD k 0 = x at *
      obtain ⟨hba1, hba2⟩ := hba
      clear hown hcell hfz HO1
      go_wp2
      go_roundw
      case rel => exact ⟨k + 1, by omega, by go_num, HO2.out, hbr.setCell (by simpa using hg1) _⟩
      case measure => simp [intOf]; omega
    · have ek : k = 16 := by omega
      rw [ek] at hown
      have HO2 := Lib.hid hown
      clear hown HO1 ek
      go_wp2
      go_returns
      exact ⟨.slice (some ⟨g, 0, none⟩) _ cap, rfl, by rw [HY.out]; exact HO2.out, hbr⟩

set_option maxRecDepth 100000 in
set_option maxHeartbeats 2000000 in
theorem pinv64 (v : Value) (xs : List Int) (w : World) (hv : Ints w v xs) (h0 : chkE xs 16777216 = 0) (hn : xs.length = 64) :
    Calls Tryd.prog 27 #[v] w fun e w' => ∃ v', e = .returned (.tuple #[v', .nilIface]) ∧ OwnInts w' w.heap.size v' (shrTo 64 64 (turnL xs)) ∧ Below w.heap.size w w' := by
  have hc := check_any v xs 16777216 w hv (by omega) (by omega)
  obtain ⟨hl, hb⟩ := chkE_zero (by omega) h0
  rw [h0, errV_zero] at hc
  have HC := Lib.hid hc
  have HV := Lib.hid hv
  have HB := Lib.hid hb
  have HL := Lib.hid hl
  have HN := Lib.hid hn
  clear hc hl hb h0 hv hn
  go_enter Tryd.func27, Tryd.ntmps27
  go_wp2_with fail
  refine (HC.out).mono ?_
  rintro e w1 ⟨rfl, hb1⟩
  go_wp2_with fail
  refine (turn_any v xs _ (HV.out.ext hb1) HL.out HB.out).mono ?_
  rintro e w2 ⟨u, rfl, hown, hb2⟩
  obtain ⟨g, cap, rfl, hg1, hg2⟩ := hown.head (by rw [length_turnL, HN.out]; omega)
  have hg1 : w.heap.size ≤ g := Nat.le_trans hb1.size hg1
  have eln : (turnL xs).length = 64 := by rw [length_turnL, HN.out]
  rw [eln] at hown ⊢
  have HO := Lib.hid (hown.mono hb1.size)
  have hbd := fun j => bd_turnL (by rw [HN.out]; omega) HB.out j
  generalize hY : turnL xs = ys at *
  have HY := Lib.hid hY
  clear hY
  have EL := Lib.hid eln
  have HBD := Lib.hid hbd
  have g2 := ext hb1 hb2
  clear hown eln hbd
  go_wp2_with fail
  refine (len64 _).mono ?_
  rintro e w3 ⟨rfl, rfl⟩
  go_wp2
  go_loopw [23, 7, 8] (fun c _ _ wr => ∃ k : Nat, k ≤ 64 ∧ c = .int .i64 k ∧ OwnInts wr w.heap.size (.slice (some ⟨g, 0, none⟩) 64 cap) (shrTo 64 k ys) ∧ Below w.heap.size w wr) (fun c _ _ _ => 64 - (intOf c).toNat)
  case atStart => exact ⟨0, by omega, rfl, by rw [shrTo_zero]; exact HO.out, g2⟩
  case round =>
    obtain ⟨k, hk, rfl, hown, hbr⟩ := hrel
    have HO1 := Lib.hid hown
    by_cases hkl : k < 64
    · obtain ⟨-, -, -, hcell, hfz⟩ := hown.at
      have hca := hcell k (by rw [length_shrTo, EL.out]; exact hkl)
      rw [getD_shrTo (by rw [EL.out]; exact hkl), if_neg (Nat.lt_irrefl k)] at hca
      have hfa := hfz k
      have hba := HBD.out k
      have HO2 := Lib.hid (show OwnInts (wr.setCell ⟨g, k, none⟩ (.int .i64 ((ys.getD k 0 + 32) / 64))) w.heap.size (.slice (some ⟨g, 0, none⟩) 64 cap) (shrTo 64 (k + 1) ys) from by
        rw [← shrTo_succ (by rw [EL.out]; exact hkl)]
        exact HO1.out.set' k _ (by unfold in64; omega))
      generalize ys.getD k 0 = x at *
      obtain ⟨hba1, hba2⟩ := hba
      clear hown hcell hfz HO1
      go_wp2
      go_roundw
      case rel => exact ⟨k + 1, by omega, by go_num, HO2.out, hbr.setCell (by simpa using hg1) _⟩
      case measure => simp [intOf]; omega
    · have ek : k = 64 := by omega
      rw [ek] at hown
      have HO2 := Lib.hid hown
      clear hown HO1 ek
      go_wp2
      go_returns
      exact ⟨.slice (some ⟨g, 0, none⟩) _ cap, rfl, by rw [HY.out]; exact HO2.out, hbr⟩

theorem pinverse_any (v : Value) (xs : List Int) (w : World) (hv : Ints w v xs) :
    Calls Tryd.prog 27 #[v] w fun e w' => ∃ v', e = .returned (.tuple #[v', errV (chkE xs 16777216)]) ∧ OwnInts w' w.heap.size v' (invV xs) ∧ Below w.heap.size w w' := by
  by_cases h0 : chkE xs 16777216 = 0
  · obtain ⟨hl, _⟩ := chkE_zero (by omega) h0
    have eV : invV xs = shrTo xs.length xs.length (turnL xs) := by simp only [invV, if_pos h0]
    rcases hl with hl | hl
    · exact (pinv16 v xs w hv h0 hl).mono fun e w' ⟨v', he, ho, hb⟩ => ⟨v', by rw [he, h0]; rfl, by rw [eV, hl]; exact ho, hb⟩
    · exact (pinv64 v xs w hv h0 hl).mono fun e w' ⟨v', he, ho, hb⟩ => ⟨v', by rw [he, h0]; rfl, by rw [eV, hl]; exact ho, hb⟩
  · have eV : Hid (invV xs = []) := by show _ = _; simp only [invV, if_neg h0]
    have hc := check_any v xs 16777216 w hv (by omega) (by omega)
    have hk : (chkE xs 16777216 == 0) = false := by simpa using h0
    generalize chkE xs 16777216 = k at *
    have HC := Lib.hid hc
    clear hc h0 hv
    go_enter Tryd.func27, Tryd.ntmps27
    go_wp2_with fail
    refine (HC.out).mono ?_
    rintro e w1 ⟨rfl, hb1⟩
    go_wp2
    go_returns
    exact ⟨_, rfl, by rw [eV.out]; exact OwnInts.nil _ _, hb1⟩
end Go.Proofs.YtkiigodkbmcpfaaDoor
