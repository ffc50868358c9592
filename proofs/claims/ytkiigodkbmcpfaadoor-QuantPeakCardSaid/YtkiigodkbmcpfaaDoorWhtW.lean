/- wht's check and turn: contracts. -/
import Derived.Test.YtkiigodkbmcpfaaDoorLists
import Derived.Test.YtkiigodkbmcpfaaDoorWhtB
import Derived.BigRegion
import Derived.Outline
set_option linter.unusedSimpArgs false
set_option linter.unusedVariables false
namespace Go.Proofs.YtkiigodkbmcpfaaDoor
open Go.RowKit
open T

def wideB (m x : Int) : Bool := decide (x < -m) || decide (m < x)
theorem chk1 (m x : Int) (b : Nat) (w : World) (hm0 : 0 ≤ m) (hm1 : m ≤ 16777216) (hc : w.cell? ⟨b, 0, none⟩ = some (.int .i64 m)) :
    Calls Tryd.prog 38 #[.int .i64 x, .pointer (some ⟨b, 0, none⟩)] w fun e w' => e = .returned (.bool (wideB m x)) ∧ w = w' := by
  by_cases h : x < -m
  · have e : wideB m x = true := by simp [wideB, h]
    rw [e]
    clear e
    go_enter Tryd.func38, Tryd.ntmps38
    go_wp2
    go_returns
    exact ⟨rfl, rfl⟩
  · by_cases h2 : m < x
    · have e : wideB m x = true := by simp [wideB, h2]
      rw [e]
      clear e
      go_enter Tryd.func38, Tryd.ntmps38
      go_wp2
      go_returns
      exact ⟨rfl, rfl⟩
    · have e : wideB m x = false := by simp [wideB, h, h2]
      rw [e]
      clear e
      go_enter Tryd.func38, Tryd.ntmps38
      go_wp2
      go_returns
      exact ⟨rfl, rfl⟩
/-- What is wrong with numbers. -/
def chkE (xs : List Int) (m : Int) : Int := if xs.length = 16 ∨ xs.length = 64 then (if xs.any (wideB m) then 3 else 0) else 14
theorem check_any (v : Value) (xs : List Int) (m : Int) (w : World) (hv : Ints w v xs) (hm0 : 0 ≤ m) (hm1 : m ≤ 16777216) :
    Calls Tryd.prog 33 #[v, .int .i64 m] w fun e w' => e = .returned (errV (chkE xs m)) ∧ Below w.heap.size w w' := by
  by_cases hl : xs.length = 16 ∨ xs.length = 64
  · have hv' : Ints (w.alloc (.cells #[.int .i64 m] 3)) v xs := hv.ext (by go_grown)
    have hc := contains_any 38 Tryd.f38 Tryd.func38 (by kernel_rfl) (by kernel_rfl) #[.pointer (some ⟨w.heap.size, 0, none⟩)] (wideB m) v xs (w.alloc (.cells #[.int .i64 m] 3)) hv'
      (fun x _ => chk1 m x w.heap.size _ hm0 hm1 (by simp))
    have HC := Lib.hid hc
    obtain ⟨ao, cap, rfl⟩ : ∃ ao cap, v = .slice ao xs.length cap := by obtain ⟨ao, cap, e, _⟩ := hv; exact ⟨ao, cap, e⟩
    have hlen := hv.len
    clear hv hv' hc
    have e : chkE xs m = if xs.any (wideB m) then 3 else 0 := by simp only [chkE, if_pos hl]
    rw [e]
    clear e
    generalize xs.any (wideB m) = p at HC
    generalize xs.length = n at *
    cases p with
    | true =>
      rcases hl with rfl | rfl <;>
      · go_enter Tryd.func33, Tryd.ntmps33
        go_wp2_with (go_at_call 37; refine HC.out.mono ?_; rintro e w1 ⟨rfl, rfl⟩)
        go_returns
        exact ⟨rfl, by go_grown⟩
    | false =>
      rcases hl with rfl | rfl <;>
      · go_enter Tryd.func33, Tryd.ntmps33
        go_wp2_with (go_at_call 37; refine HC.out.mono ?_; rintro e w1 ⟨rfl, rfl⟩)
        go_returns
        exact ⟨rfl, by go_grown⟩
  · have e : chkE xs m = 14 := by simp only [chkE, if_neg hl]
    rw [e]
    clear e
    have hlen := hv.len
    obtain ⟨ao, cap, rfl⟩ : ∃ ao cap, v = .slice ao xs.length cap := by obtain ⟨ao, cap, e, _⟩ := hv; exact ⟨ao, cap, e⟩
    clear hv
    generalize xs.length = n at *
    have h16 : ((n : Int) != 16) = true := by simp; omega
    have h64 : ((n : Int) != 64) = true := by simp; omega
    clear hl
    go_enter Tryd.func33, Tryd.ntmps33
    go_wp2
    go_returns
    exact ⟨rfl, by go_grown⟩

theorem pow_fit {n m : Nat} (hn : n = 16 ∨ n = 64) (hm : m ≤ lg n) : (2 ^ m < n ↔ m < lg n) ∧ 2 ^ m ≤ 64 := by
  rcases hn with rfl | rfl
  · have : m = 0 ∨ m = 1 ∨ m = 2 ∨ m = 3 ∨ m = 4 := by have : lg 16 = 4 := rfl
                                                       omega
    rcases this with rfl | rfl | rfl | rfl | rfl <;> decide
  · have : m = 0 ∨ m = 1 ∨ m = 2 ∨ m = 3 ∨ m = 4 ∨ m = 5 ∨ m = 6 := by have : lg 64 = 6 := rfl
                                                                       omega
    rcases this with rfl | rfl | rfl | rfl | rfl | rfl | rfl <;> decide
theorem bd_stages {xs : List Int} (hn : xs.length = 16 ∨ xs.length = 64) {m : Nat} (hm : m < lg xs.length) (hb : Bd 16777216 xs) (k : Nat) (hk : k ≤ xs.length) (j : Nat) :
    -1073741824 ≤ (stage (2 ^ m) xs.length k (turnTo m xs)).getD j 0 ∧ (stage (2 ^ m) xs.length k (turnTo m xs)).getD j 0 ≤ 1073741824 := by
  have h1 := bd_turnTo hn hb m (by omega)
  have h2 := bd_stage (fit_lg hn hm) (length_turnTo m xs) h1 k hk j
  have h3 : (2 : Int) ^ m ≤ 32 := by
    have : m = 0 ∨ m = 1 ∨ m = 2 ∨ m = 3 ∨ m = 4 ∨ m = 5 := by
      rcases hn with h | h <;> rw [h] at hm
      · have : lg 16 = 4 := rfl
        omega
      · have : lg 64 = 6 := rfl
        omega
    rcases this with rfl | rfl | rfl | rfl | rfl | rfl <;> decide
  have h4 : (2 : Int) ^ m * 16777216 ≤ 32 * 16777216 := Int.mul_le_mul_of_nonneg_right h3 (by omega)
  omega

set_option maxHeartbeats 4000000 in
set_option maxRecDepth 100000 in
theorem turn_any (v : Value) (xs : List Int) (w : World) (hv : Ints w v xs) (hn : xs.length = 16 ∨ xs.length = 64) (hM : Bd 16777216 xs) :
    Calls Tryd.prog 34 #[v] w fun e w' => ∃ v', e = .returned v' ∧ OwnInts w' w.heap.size v' (turnL xs) ∧ Below w.heap.size w w' := by
  have hc := Lib.hid (clone_any v xs w hv (by omega) (by omega))
  clear hv
  go_enter Tryd.func34, Tryd.ntmps34
  go_wp2_with fail
  refine hc.out.mono ?_
  rintro e w1 ⟨u, rfl, hown, hb1⟩
  obtain ⟨g, cap, rfl, hg1, hg2⟩ := hown.head (by omega)
  have HM := Lib.hid hM
  have HN := Lib.hid hn
  have HO := Lib.hid hown
  have hn64 : xs.length ≤ 64 := by omega
  clear hM hown hn hc
  go_wp2
  go_loopw [4] (fun h wr => ∃ m H : Nat, m ≤ lg xs.length ∧ H = 2 ^ m ∧ h = .int .i64 H ∧ OwnInts wr w.heap.size (.slice (some ⟨g, 0, none⟩) xs.length cap) (turnTo m xs) ∧ Below w.heap.size w wr) (fun h _ => xs.length - (intOf h).toNat)
  case atStart => exact ⟨0, 1, Nat.zero_le _, rfl, rfl, HO.out, hb1⟩
  case round =>
    obtain ⟨m, H, hm, eH, rfl, hown, hb⟩ := hrel
    obtain ⟨wo, rfl⟩ : ∃ wo : World, wo = wr := ⟨_, rfl⟩
    have hp := pow_fit HN.out hm
    rw [← eH] at hp
    have hH : H ≤ 64 := hp.2
    have hH1 : 1 ≤ H := by rw [eH]; exact pow_pos' m
    have Hp := Lib.hid hp.1
    have EH := Lib.hid eH
    have HO1 := Lib.hid hown
    have hbo := hb
    clear hp eH hown
    by_cases hlt : H < xs.length
    · have hml : m < lg xs.length := Hp.out.1 hlt
      have hfit := fit_lg HN.out hml
      have Hfit := Lib.hid hfit
      clear hfit
      go_wp2
      go_loopw [16, 5] (fun c _ wr => ∃ k : Nat, k ≤ xs.length ∧ c = .int .i64 k ∧ OwnInts wr w.heap.size (.slice (some ⟨g, 0, none⟩) xs.length cap) (stage H xs.length k (turnTo m xs)) ∧ Below w.heap.size w wr) (fun c _ _ => xs.length - (intOf c).toNat)
      case atStart => exact ⟨0, Nat.zero_le _, rfl, HO1.out, hbo⟩
      case round =>
        obtain ⟨k, hk, rfl, hown, hbr⟩ := hrel
        have HO2 := Lib.hid hown
        by_cases hkl : k < xs.length
        · have hbd := bd_stages HN.out hml HM.out k (by omega)
          rw [← EH.out] at hbd
          obtain ⟨-, -, -, hcell, hfz⟩ := hown.at
          have hlen : (stage H xs.length k (turnTo m xs)).length = xs.length := by rw [length_stage, length_turnTo]
          by_cases hz : k &&& H = 0
          · obtain ⟨eor, _, hJ⟩ := bit0 Hfit.out hkl (by rw [← EH.out]; exact hz)
            rw [← EH.out] at eor hJ
            have hand : bits .and .i64 (k : Int) (H : Int) = 0 := by rw [i64_and_nat k H (by omega) (by omega), hz]; rfl
            have hor : bits .or .i64 (k : Int) (H : Int) = (((k + H : Nat)) : Int) := by rw [i64_or_nat k H (by omega) (by omega), eor]
            have hca := hcell k (by rw [hlen]; exact hkl)
            have hcb := hcell (k + H) (by rw [hlen]; exact hJ)
            have hba := hbd k
            have hbb := hbd (k + H)
            have hfa := hfz k
            have hfb := hfz (k + H)
            have Hz := Lib.hid hz
            have Eor := Lib.hid eor
            generalize ha : (stage H xs.length k (turnTo m xs)).getD k 0 = a at hca hba
            generalize hb' : (stage H xs.length k (turnTo m xs)).getD (k + H) 0 = b at hcb hbb
            generalize hJ' : k + H = J at hor hcb hfb hJ
            have Ha := Lib.hid ha
            have Hb := Lib.hid hb'
            have EJ := Lib.hid hJ'
            have hkJ : k < J := by omega
            obtain ⟨hba1, hba2⟩ := hba
            obtain ⟨hbb1, hbb2⟩ := hbb
            clear hown hcell hfz hbd hlen hz eor ha hb' hJ'
            go_wp2
            go_region
            all_goals go_wp2
            all_goals
              have hO : OwnInts ((wr.setCell ⟨g, k, none⟩ (.int .i64 (a + b))).setCell ⟨g, J, none⟩ (.int .i64 (a - b))) w.heap.size (.slice (some ⟨g, 0, none⟩) xs.length cap) (stage H xs.length (k + 1) (turnTo m xs)) := by
                rw [stage_succ, bfly, if_pos Hz.out, Ha.out, Eor.out, Hb.out, EJ.out]
                exact (HO2.out.set' k (a + b) (by unfold in64; omega)).set' J (a - b) (by unfold in64; omega)
              go_roundw
              case rel => exact ⟨k + 1, by omega, by go_num, hO, by first | exact (hbr.setCell (by simpa using hg1) _).setCell (by simpa using hg1) _ | exact ((hbr.setCell (by simpa using hg1) _).setCell (by simpa using hg1) _).drew⟩
              case measure => simp [intOf]; omega
          · have hand : ∃ z : Nat, bits .and .i64 (k : Int) (H : Int) = (z : Int) ∧ ((z : Int) == 0) = false := ⟨k &&& H, i64_and_nat k H (by omega) (by omega), by simpa using hz⟩
            obtain ⟨z, hand, hz0⟩ := hand
            have Hz := Lib.hid hz
            clear hown hcell hfz hbd hlen hz
            go_wp2
            go_roundw
            case rel => exact ⟨k + 1, by omega, by go_num, by rw [stage_succ, bfly, if_neg Hz.out]; exact HO2.out, hbr⟩
            case measure => simp [intOf]; omega
        · have ek : k = xs.length := by omega
          have HO3 : Hid (OwnInts wr w.heap.size (.slice (some ⟨g, 0, none⟩) xs.length cap) (turnTo (m + 1) xs)) := by
            show OwnInts _ _ _ _
            rw [turnTo_succ, ← EH.out]
            rw [ek] at hown
            exact hown
          clear hown ek
          go_wp2
          go_roundw
          case rel => exact ⟨m + 1, 2 * H, by omega, by rw [EH.out, Nat.pow_succ, Nat.mul_comm], by first | (congr 1; omega) | (simp; omega), HO3.out, hbr⟩
          case measure => simp [intOf]; omega
    · have em : m = lg xs.length := by have := Hp.out; omega
      have HO3 : Hid (OwnInts wo w.heap.size (.slice (some ⟨g, 0, none⟩) xs.length cap) (turnL xs)) := by
        show OwnInts _ _ _ _
        unfold turnL
        rw [← em]
        exact HO1.out
      clear em
      go_wp2
      go_returns
      exact ⟨_, rfl, HO3.out, hbo⟩
end Go.Proofs.YtkiigodkbmcpfaaDoor
