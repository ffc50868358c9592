/- block.Order and kinref7.Order: contracts. -/
import Derived.Test.YtceobpoibiffhaaDoorBlockP
import Derived.Test.YtceobpoibiffhaaDoorStep
set_option linter.unusedSimpArgs false
set_option linter.unusedVariables false
namespace Go.Proofs.YtceobpoibiffhaaDoor
open Go.RowKit

theorem row_bd {n s k : Nat} (hs : s < 2 * n - 1) (hn : n ≤ 8) (hk : k ≤ s + 1) : (ordTo n s ++ rowTo n s k).length ≤ 1099511627776 := by
  rw [List.length_append]
  have h1 := length_ordTo n s
  have h2 := length_rowTo n s k
  have h3 : s * (s + 1) ≤ 16 * 17 := Nat.mul_le_mul (by omega) (by omega)
  omega

theorem own_eq {w : World} {B : Nat} {v : Value} {xs ys : List Int} (h : OwnInts w B v xs) (e : xs = ys) : OwnInts w B v ys := e ▸ h

set_option maxRecDepth 100000 in
set_option maxHeartbeats 8000000 in
theorem porder4 (w : World) :
    Calls Tryd.prog 19 #[.int .i64 4] w fun e w' => ∃ v', e = .returned v' ∧ OwnInts w' w.heap.size v' (ordTo 4 7) ∧ Below w.heap.size w w' := by
  go_enter Tryd.func19, Tryd.ntmps19
  go_wp2
  go_loopw [3, 17] (fun o i wr => ∃ s : Nat, s ≤ 7 ∧ i = .int .i64 s ∧ OwnInts wr w.heap.size o (ordTo 4 s) ∧ Below w.heap.size w wr) (fun _ i _ => 7 - (intOf i).toNat)
  case atStart => exact ⟨0, Nat.zero_le _, rfl, OwnInts.nil _ _, Below.refl _ _⟩
  case round =>
    obtain ⟨s, hs, rfl, hown, hbr⟩ := hrel
    obtain ⟨wo, rfl⟩ : ∃ wo : World, wo = wr := ⟨_, rfl⟩
    have HO := Lib.hid hown
    have hbo := hbr
    clear hown
    by_cases hlt : s < 7
    · have HO1 := Lib.hid (show OwnInts wo w.heap.size _ (ordTo 4 s ++ rowTo 4 s 0) from by rw [show rowTo 4 s 0 = [] from rfl, List.append_nil]; exact HO.out)
      have hd : decide ((s : Int) < 7) = true := by simp; omega
      clear HO
      go_wp2
      go_loopw [3, 22] (fun o i wr => ∃ k : Nat, k ≤ s + 1 ∧ i = .int .i64 k ∧ OwnInts wr w.heap.size o (ordTo 4 s ++ rowTo 4 s k) ∧ Below w.heap.size w wr) (fun _ i _ => s + 1 - (intOf i).toNat)
      case atStart => exact ⟨0, Nat.zero_le _, rfl, HO1.out, hbo⟩
      case round =>
        obtain ⟨k, hk, rfl, hown, hbr⟩ := hrel
        have HO2 := Lib.hid hown
        have Hlen := Lib.hid (row_bd (n := 4) hlt (by omega) hk)
        have hw2 := hbr.size
        clear hown
        by_cases hlk : k < s + 1
        · by_cases hp : s % 2 = 0
          · have hp1 : ((s : Int) % 2 == 0) = true := by simp; omega
            have HY : Hid (yOf s k = s - k) := by show _ = _; unfold yOf; rw [if_pos hp]
            clear hp
            by_cases hA : (s : Int) - ((s : Int) - (k : Int)) < 4
            · by_cases hB : (s : Int) - (k : Int) < 4
              · have HR := Lib.hid (rowTo_yes (n := 4) (s := s) (k := k) (by rw [HY.out]; omega))
                rw [HY.out] at HR
                have HE := Lib.hid (show (((s - k) * 4 + (s - (s - k)) : Nat) : Int) = ((s : Int) - (k : Int)) * 4 + ((s : Int) - ((s : Int) - (k : Int))) from by omega)
                clear HY
                go_wp2_with (at_builtin; refine wpList_app1 rfl (.tmp 43) (.tmp 49) rfl w.heap.size _ _ (((s : Int) - (k : Int)) * 4 + ((s : Int) - ((s : Int) - (k : Int)))) rfl HO2.out rfl (by simp) (by unfold in64; omega) Hlen.out (by omega) ?_)
                intro v' w' hown' hb' _
                have Hown' := Lib.hid hown'
                clear hown' HO2
                go_wp2
                go_roundw
                case rel => exact ⟨k + 1, by omega, by go_num, by rw [HR.out, HE.out]; first | exact Hown'.out | (rw [← List.append_assoc]; exact Hown'.out), hbr.trans hb'⟩
                case measure => simp [intOf]; omega
              · have HR := Lib.hid (rowTo_no (n := 4) (s := s) (k := k) (by rw [HY.out]; omega))
                clear HY
                go_wp2
                go_roundw
                case rel => exact ⟨k + 1, by omega, by go_num, by rw [HR.out]; exact HO2.out, hbr⟩
                case measure => simp [intOf]; omega
            · have HR := Lib.hid (rowTo_no (n := 4) (s := s) (k := k) (by rw [HY.out]; omega))
              clear HY
              go_wp2
              go_roundw
              case rel => exact ⟨k + 1, by omega, by go_num, by rw [HR.out]; exact HO2.out, hbr⟩
              case measure => simp [intOf]; omega
          · have hp1 : ((s : Int) % 2 == 0) = false := by simp; omega
            have HY : Hid (yOf s k = k) := by show _ = _; unfold yOf; rw [if_neg hp]
            clear hp
            by_cases hA : (s : Int) - (k : Int) < 4
            · by_cases hB : (k : Int) < 4
              · have HR := Lib.hid (rowTo_yes (n := 4) (s := s) (k := k) (by rw [HY.out]; omega))
                rw [HY.out] at HR
                have HE := Lib.hid (show ((k * 4 + (s - k) : Nat) : Int) = ((k : Int)) * 4 + ((s : Int) - (k : Int)) from by omega)
                clear HY
                go_wp2_with (at_builtin; refine wpList_app1 rfl (.tmp 43) (.tmp 49) rfl w.heap.size _ _ (((k : Int)) * 4 + ((s : Int) - (k : Int))) rfl HO2.out rfl (by simp) (by unfold in64; omega) Hlen.out (by omega) ?_)
                intro v' w' hown' hb' _
                have Hown' := Lib.hid hown'
                clear hown' HO2
                go_wp2
                go_roundw
                case rel => exact ⟨k + 1, by omega, by go_num, by rw [HR.out, HE.out]; first | exact Hown'.out | (rw [← List.append_assoc]; exact Hown'.out), hbr.trans hb'⟩
                case measure => simp [intOf]; omega
              · have HR := Lib.hid (rowTo_no (n := 4) (s := s) (k := k) (by rw [HY.out]; omega))
                clear HY
                go_wp2
                go_roundw
                case rel => exact ⟨k + 1, by omega, by go_num, by rw [HR.out]; exact HO2.out, hbr⟩
                case measure => simp [intOf]; omega
            · have HR := Lib.hid (rowTo_no (n := 4) (s := s) (k := k) (by rw [HY.out]; omega))
              clear HY
              go_wp2
              go_roundw
              case rel => exact ⟨k + 1, by omega, by go_num, by rw [HR.out]; exact HO2.out, hbr⟩
              case measure => simp [intOf]; omega
        · have ek : k = s + 1 := by omega
          have HO3 := Lib.hid (show OwnInts wr w.heap.size _ (ordTo 4 (s + 1)) from by rw [ek] at HO2; exact HO2.out)
          clear HO2 ek
          go_wp2
          go_roundw
          case rel => exact ⟨s + 1, by omega, by go_num, HO3.out, hbr⟩
          case measure => simp [intOf]; omega
    · have es : s = 7 := by omega
      have HO3 := Lib.hid (show OwnInts wo w.heap.size _ (ordTo 4 7) from by rw [es] at HO; exact HO.out)
      clear HO es
      go_wp2
      go_returns
      exact ⟨_, rfl, HO3.out, hbo⟩

set_option maxRecDepth 100000 in
set_option maxHeartbeats 8000000 in
theorem porder8 (w : World) :
    Calls Tryd.prog 19 #[.int .i64 8] w fun e w' => ∃ v', e = .returned v' ∧ OwnInts w' w.heap.size v' (ordTo 8 15) ∧ Below w.heap.size w w' := by
  go_enter Tryd.func19, Tryd.ntmps19
  go_wp2
  go_loopw [3, 17] (fun o i wr => ∃ s : Nat, s ≤ 15 ∧ i = .int .i64 s ∧ OwnInts wr w.heap.size o (ordTo 8 s) ∧ Below w.heap.size w wr) (fun _ i _ => 15 - (intOf i).toNat)
  case atStart => exact ⟨0, Nat.zero_le _, rfl, OwnInts.nil _ _, Below.refl _ _⟩
  case round =>
    obtain ⟨s, hs, rfl, hown, hbr⟩ := hrel
    obtain ⟨wo, rfl⟩ : ∃ wo : World, wo = wr := ⟨_, rfl⟩
    have HO := Lib.hid hown
    have hbo := hbr
    clear hown
    by_cases hlt : s < 15
    · have HO1 := Lib.hid (show OwnInts wo w.heap.size _ (ordTo 8 s ++ rowTo 8 s 0) from by rw [show rowTo 8 s 0 = [] from rfl, List.append_nil]; exact HO.out)
      have hd : decide ((s : Int) < 15) = true := by simp; omega
      clear HO
      go_wp2
      go_loopw [3, 22] (fun o i wr => ∃ k : Nat, k ≤ s + 1 ∧ i = .int .i64 k ∧ OwnInts wr w.heap.size o (ordTo 8 s ++ rowTo 8 s k) ∧ Below w.heap.size w wr) (fun _ i _ => s + 1 - (intOf i).toNat)
      case atStart => exact ⟨0, Nat.zero_le _, rfl, HO1.out, hbo⟩
      case round =>
        obtain ⟨k, hk, rfl, hown, hbr⟩ := hrel
        have HO2 := Lib.hid hown
        have Hlen := Lib.hid (row_bd (n := 8) hlt (by omega) hk)
        have hw2 := hbr.size
        clear hown
        by_cases hlk : k < s + 1
        · by_cases hp : s % 2 = 0
          · have hp1 : ((s : Int) % 2 == 0) = true := by simp; omega
            have HY : Hid (yOf s k = s - k) := by show _ = _; unfold yOf; rw [if_pos hp]
            clear hp
            by_cases hA : (s : Int) - ((s : Int) - (k : Int)) < 8
            · by_cases hB : (s : Int) - (k : Int) < 8
              · have HR := Lib.hid (rowTo_yes (n := 8) (s := s) (k := k) (by rw [HY.out]; omega))
                rw [HY.out] at HR
                have HE := Lib.hid (show (((s - k) * 8 + (s - (s - k)) : Nat) : Int) = ((s : Int) - (k : Int)) * 8 + ((s : Int) - ((s : Int) - (k : Int))) from by omega)
                clear HY
                go_wp2_with (at_builtin; refine wpList_app1 rfl (.tmp 43) (.tmp 49) rfl w.heap.size _ _ (((s : Int) - (k : Int)) * 8 + ((s : Int) - ((s : Int) - (k : Int)))) rfl HO2.out rfl (by simp) (by unfold in64; omega) Hlen.out (by omega) ?_)
                intro v' w' hown' hb' _
                have Hown' := Lib.hid hown'
                clear hown' HO2
                go_wp2
                go_roundw
                case rel => exact ⟨k + 1, by omega, by go_num, by rw [HR.out, HE.out]; first | exact Hown'.out | (rw [← List.append_assoc]; exact Hown'.out), hbr.trans hb'⟩
                case measure => simp [intOf]; omega
              · have HR := Lib.hid (rowTo_no (n := 8) (s := s) (k := k) (by rw [HY.out]; omega))
                clear HY
                go_wp2
                go_roundw
                case rel => exact ⟨k + 1, by omega, by go_num, by rw [HR.out]; exact HO2.out, hbr⟩
                case measure => simp [intOf]; omega
            · have HR := Lib.hid (rowTo_no (n := 8) (s := s) (k := k) (by rw [HY.out]; omega))
              clear HY
              go_wp2
              go_roundw
              case rel => exact ⟨k + 1, by omega, by go_num, by rw [HR.out]; exact HO2.out, hbr⟩
              case measure => simp [intOf]; omega
          · have hp1 : ((s : Int) % 2 == 0) = false := by simp; omega
            have HY : Hid (yOf s k = k) := by show _ = _; unfold yOf; rw [if_neg hp]
            clear hp
            by_cases hA : (s : Int) - (k : Int) < 8
            · by_cases hB : (k : Int) < 8
              · have HR := Lib.hid (rowTo_yes (n := 8) (s := s) (k := k) (by rw [HY.out]; omega))
                rw [HY.out] at HR
                have HE := Lib.hid (show ((k * 8 + (s - k) : Nat) : Int) = ((k : Int)) * 8 + ((s : Int) - (k : Int)) from by omega)
                clear HY
                go_wp2_with (at_builtin; refine wpList_app1 rfl (.tmp 43) (.tmp 49) rfl w.heap.size _ _ (((k : Int)) * 8 + ((s : Int) - (k : Int))) rfl HO2.out rfl (by simp) (by unfold in64; omega) Hlen.out (by omega) ?_)
                intro v' w' hown' hb' _
                have Hown' := Lib.hid hown'
                clear hown' HO2
                go_wp2
                go_roundw
                case rel => exact ⟨k + 1, by omega, by go_num, by rw [HR.out, HE.out]; first | exact Hown'.out | (rw [← List.append_assoc]; exact Hown'.out), hbr.trans hb'⟩
                case measure => simp [intOf]; omega
              · have HR := Lib.hid (rowTo_no (n := 8) (s := s) (k := k) (by rw [HY.out]; omega))
                clear HY
                go_wp2
                go_roundw
                case rel => exact ⟨k + 1, by omega, by go_num, by rw [HR.out]; exact HO2.out, hbr⟩
                case measure => simp [intOf]; omega
            · have HR := Lib.hid (rowTo_no (n := 8) (s := s) (k := k) (by rw [HY.out]; omega))
              clear HY
              go_wp2
              go_roundw
              case rel => exact ⟨k + 1, by omega, by go_num, by rw [HR.out]; exact HO2.out, hbr⟩
              case measure => simp [intOf]; omega
        · have ek : k = s + 1 := by omega
          have HO3 := Lib.hid (show OwnInts wr w.heap.size _ (ordTo 8 (s + 1)) from by rw [ek] at HO2; exact HO2.out)
          clear HO2 ek
          go_wp2
          go_roundw
          case rel => exact ⟨s + 1, by omega, by go_num, HO3.out, hbr⟩
          case measure => simp [intOf]; omega
    · have es : s = 15 := by omega
      have HO3 := Lib.hid (show OwnInts wo w.heap.size _ (ordTo 8 15) from by rw [es] at HO; exact HO.out)
      clear HO es
      go_wp2
      go_returns
      exact ⟨_, rfl, HO3.out, hbo⟩

theorem porder_any (n : Int) (w : World) :
    Calls Tryd.prog 19 #[.int .i64 n] w fun e w' => ∃ v', e = .returned v' ∧ OwnInts w' w.heap.size v' (orderL n) ∧ Below w.heap.size w w' := by
  by_cases h4 : n = 4
  · subst h4; exact porder4 w
  · by_cases h8 : n = 8
    · subst h8; exact porder8 w
    · have e : orderL n = [] := by unfold orderL; rw [if_neg h4, if_neg h8]
      rw [e]
      have q1 : (n != 4) = true := by simpa using h4
      have q2 : (n != 8) = true := by simpa using h8
      clear e h4 h8
      go_enter Tryd.func19, Tryd.ntmps19
      go_wp2
      go_returns
      exact ⟨_, rfl, OwnInts.nil _ _, Below.refl _ _⟩

set_option maxRecDepth 100000 in
set_option maxHeartbeats 8000000 in
theorem rorder4 (w : World) :
    Calls Tryd.prog 20 #[.int .i64 4] w fun e w' => ∃ v', e = .returned v' ∧ OwnInts w' w.heap.size v' (ordTo 4 7) ∧ Below w.heap.size w w' := by
  go_enter Tryd.func20, Tryd.ntmps20
  go_wp2
  go_loopw [3, 4] (fun o i wr => ∃ s : Nat, s ≤ 7 ∧ i = .int .i64 s ∧ OwnInts wr w.heap.size o (ordTo 4 s) ∧ Below w.heap.size w wr) (fun _ i _ => 7 - (intOf i).toNat)
  case atStart => exact ⟨0, Nat.zero_le _, rfl, OwnInts.nil _ _, Below.refl _ _⟩
  case round =>
    obtain ⟨s, hs, rfl, hown, hbr⟩ := hrel
    obtain ⟨wo, rfl⟩ : ∃ wo : World, wo = wr := ⟨_, rfl⟩
    have HO := Lib.hid hown
    have hbo := hbr
    clear hown
    by_cases hlt : s < 7
    · have HO1 := Lib.hid (show OwnInts wo w.heap.size _ (ordTo 4 s ++ rowTo 4 s 0) from by rw [show rowTo 4 s 0 = [] from rfl, List.append_nil]; exact HO.out)
      have hd : decide ((s : Int) ≤ 6) = true := by simp; omega
      clear HO
      go_wp2
      go_loopw [3, 5] (fun o i wr => ∃ k : Nat, k ≤ s + 1 ∧ i = .int .i64 k ∧ OwnInts wr w.heap.size o (ordTo 4 s ++ rowTo 4 s k) ∧ Below w.heap.size w wr) (fun _ i _ => s + 1 - (intOf i).toNat)
      case atStart => exact ⟨0, Nat.zero_le _, rfl, HO1.out, hbo⟩
      case round =>
        obtain ⟨k, hk, rfl, hown, hbr⟩ := hrel
        have HO2 := Lib.hid hown
        have Hlen := Lib.hid (row_bd (n := 4) hlt (by omega) hk)
        have hw2 := hbr.size
        clear hown
        by_cases hlk : k < s + 1
        · by_cases hp : s % 2 = 0
          · have hp1 : ((s : Int) % 2 == 0) = true := by simp; omega
            have HY : Hid (yOf s k = s - k) := by show _ = _; unfold yOf; rw [if_pos hp]
            clear hp
            by_cases hA : (s : Int) - (k : Int) < 4
            · by_cases hB : (s : Int) - ((s : Int) - (k : Int)) < 4
              · have HR := Lib.hid (rowTo_yes (n := 4) (s := s) (k := k) (by rw [HY.out]; omega))
                rw [HY.out] at HR
                have HE := Lib.hid (show (((s - k) * 4 + (s - (s - k)) : Nat) : Int) = ((s : Int) - (k : Int)) * 4 + (s : Int) - ((s : Int) - (k : Int)) from by omega)
                clear HY
                go_wp2_with (at_builtin; refine wpList_app1 rfl (.tmp 42) (.tmp 50) rfl w.heap.size _ _ (((s : Int) - (k : Int)) * 4 + (s : Int) - ((s : Int) - (k : Int))) rfl HO2.out rfl (by simp) (by unfold in64; omega) Hlen.out (by omega) ?_)
                intro v' w' hown' hb' _
                have Hown' := Lib.hid hown'
                clear hown' HO2
                go_wp2
                go_roundw
                case rel => exact ⟨k + 1, by omega, by go_num, by rw [HR.out, HE.out]; first | exact Hown'.out | (rw [← List.append_assoc]; exact Hown'.out), hbr.trans hb'⟩
                case measure => simp [intOf]; omega
              · have HR := Lib.hid (rowTo_no (n := 4) (s := s) (k := k) (by rw [HY.out]; omega))
                clear HY
                go_wp2
                go_roundw
                case rel => exact ⟨k + 1, by omega, by go_num, by rw [HR.out]; exact HO2.out, hbr⟩
                case measure => simp [intOf]; omega
            · have HR := Lib.hid (rowTo_no (n := 4) (s := s) (k := k) (by rw [HY.out]; omega))
              clear HY
              go_wp2
              go_roundw
              case rel => exact ⟨k + 1, by omega, by go_num, by rw [HR.out]; exact HO2.out, hbr⟩
              case measure => simp [intOf]; omega
          · have hp1 : ((s : Int) % 2 == 0) = false := by simp; omega
            have HY : Hid (yOf s k = k) := by show _ = _; unfold yOf; rw [if_neg hp]
            clear hp
            by_cases hA : (k : Int) < 4
            · by_cases hB : (s : Int) - (k : Int) < 4
              · have HR := Lib.hid (rowTo_yes (n := 4) (s := s) (k := k) (by rw [HY.out]; omega))
                rw [HY.out] at HR
                have HE := Lib.hid (show ((k * 4 + (s - k) : Nat) : Int) = ((k : Int)) * 4 + (s : Int) - ((k : Int)) from by omega)
                clear HY
                go_wp2_with (at_builtin; refine wpList_app1 rfl (.tmp 42) (.tmp 50) rfl w.heap.size _ _ (((k : Int)) * 4 + (s : Int) - ((k : Int))) rfl HO2.out rfl (by simp) (by unfold in64; omega) Hlen.out (by omega) ?_)
                intro v' w' hown' hb' _
                have Hown' := Lib.hid hown'
                clear hown' HO2
                go_wp2
                go_roundw
                case rel => exact ⟨k + 1, by omega, by go_num, by rw [HR.out, HE.out]; first | exact Hown'.out | (rw [← List.append_assoc]; exact Hown'.out), hbr.trans hb'⟩
                case measure => simp [intOf]; omega
              · have HR := Lib.hid (rowTo_no (n := 4) (s := s) (k := k) (by rw [HY.out]; omega))
                clear HY
                go_wp2
                go_roundw
                case rel => exact ⟨k + 1, by omega, by go_num, by rw [HR.out]; exact HO2.out, hbr⟩
                case measure => simp [intOf]; omega
            · have HR := Lib.hid (rowTo_no (n := 4) (s := s) (k := k) (by rw [HY.out]; omega))
              clear HY
              go_wp2
              go_roundw
              case rel => exact ⟨k + 1, by omega, by go_num, by rw [HR.out]; exact HO2.out, hbr⟩
              case measure => simp [intOf]; omega
        · have ek : k = s + 1 := by omega
          have HO3 := Lib.hid (show OwnInts wr w.heap.size _ (ordTo 4 (s + 1)) from by rw [ek] at HO2; exact HO2.out)
          clear HO2 ek
          go_wp2
          go_roundw
          case rel => exact ⟨s + 1, by omega, by go_num, HO3.out, hbr⟩
          case measure => simp [intOf]; omega
    · have es : s = 7 := by omega
      have HO3 := Lib.hid (show OwnInts wo w.heap.size _ (ordTo 4 7) from by rw [es] at HO; exact HO.out)
      clear HO es
      go_wp2
      go_returns
      exact ⟨_, rfl, HO3.out, hbo⟩

set_option maxRecDepth 100000 in
set_option maxHeartbeats 8000000 in
theorem rorder8 (w : World) :
    Calls Tryd.prog 20 #[.int .i64 8] w fun e w' => ∃ v', e = .returned v' ∧ OwnInts w' w.heap.size v' (ordTo 8 15) ∧ Below w.heap.size w w' := by
  go_enter Tryd.func20, Tryd.ntmps20
  go_wp2
  go_loopw [3, 4] (fun o i wr => ∃ s : Nat, s ≤ 15 ∧ i = .int .i64 s ∧ OwnInts wr w.heap.size o (ordTo 8 s) ∧ Below w.heap.size w wr) (fun _ i _ => 15 - (intOf i).toNat)
  case atStart => exact ⟨0, Nat.zero_le _, rfl, OwnInts.nil _ _, Below.refl _ _⟩
  case round =>
    obtain ⟨s, hs, rfl, hown, hbr⟩ := hrel
    obtain ⟨wo, rfl⟩ : ∃ wo : World, wo = wr := ⟨_, rfl⟩
    have HO := Lib.hid hown
    have hbo := hbr
    clear hown
    by_cases hlt : s < 15
    · have HO1 := Lib.hid (show OwnInts wo w.heap.size _ (ordTo 8 s ++ rowTo 8 s 0) from by rw [show rowTo 8 s 0 = [] from rfl, List.append_nil]; exact HO.out)
      have hd : decide ((s : Int) ≤ 14) = true := by simp; omega
      clear HO
      go_wp2
      go_loopw [3, 5] (fun o i wr => ∃ k : Nat, k ≤ s + 1 ∧ i = .int .i64 k ∧ OwnInts wr w.heap.size o (ordTo 8 s ++ rowTo 8 s k) ∧ Below w.heap.size w wr) (fun _ i _ => s + 1 - (intOf i).toNat)
      case atStart => exact ⟨0, Nat.zero_le _, rfl, HO1.out, hbo⟩
      case round =>
        obtain ⟨k, hk, rfl, hown, hbr⟩ := hrel
        have HO2 := Lib.hid hown
        have Hlen := Lib.hid (row_bd (n := 8) hlt (by omega) hk)
        have hw2 := hbr.size
        clear hown
        by_cases hlk : k < s + 1
        · by_cases hp : s % 2 = 0
          · have hp1 : ((s : Int) % 2 == 0) = true := by simp; omega
            have HY : Hid (yOf s k = s - k) := by show _ = _; unfold yOf; rw [if_pos hp]
            clear hp
            by_cases hA : (s : Int) - (k : Int) < 8
            · by_cases hB : (s : Int) - ((s : Int) - (k : Int)) < 8
              · have HR := Lib.hid (rowTo_yes (n := 8) (s := s) (k := k) (by rw [HY.out]; omega))
                rw [HY.out] at HR
                have HE := Lib.hid (show (((s - k) * 8 + (s - (s - k)) : Nat) : Int) = ((s : Int) - (k : Int)) * 8 + (s : Int) - ((s : Int) - (k : Int)) from by omega)
                clear HY
                go_wp2_with (at_builtin; refine wpList_app1 rfl (.tmp 42) (.tmp 50) rfl w.heap.size _ _ (((s : Int) - (k : Int)) * 8 + (s : Int) - ((s : Int) - (k : Int))) rfl HO2.out rfl (by simp) (by unfold in64; omega) Hlen.out (by omega) ?_)
                intro v' w' hown' hb' _
                have Hown' := Lib.hid hown'
                clear hown' HO2
                go_wp2
                go_roundw
                case rel => exact ⟨k + 1, by omega, by go_num, by rw [HR.out, HE.out]; first | exact Hown'.out | (rw [← List.append_assoc]; exact Hown'.out), hbr.trans hb'⟩
                case measure => simp [intOf]; omega
              · have HR := Lib.hid (rowTo_no (n := 8) (s := s) (k := k) (by rw [HY.out]; omega))
                clear HY
                go_wp2
                go_roundw
                case rel => exact ⟨k + 1, by omega, by go_num, by rw [HR.out]; exact HO2.out, hbr⟩
                case measure => simp [intOf]; omega
            · have HR := Lib.hid (rowTo_no (n := 8) (s := s) (k := k) (by rw [HY.out]; omega))
              clear HY
              go_wp2
              go_roundw
              case rel => exact ⟨k + 1, by omega, by go_num, by rw [HR.out]; exact HO2.out, hbr⟩
              case measure => simp [intOf]; omega
          · have hp1 : ((s : Int) % 2 == 0) = false := by simp; omega
            have HY : Hid (yOf s k = k) := by show _ = _; unfold yOf; rw [if_neg hp]
            clear hp
            by_cases hA : (k : Int) < 8
            · by_cases hB : (s : Int) - (k : Int) < 8
              · have HR := Lib.hid (rowTo_yes (n := 8) (s := s) (k := k) (by rw [HY.out]; omega))
                rw [HY.out] at HR
                have HE := Lib.hid (show ((k * 8 + (s - k) : Nat) : Int) = ((k : Int)) * 8 + (s : Int) - ((k : Int)) from by omega)
                clear HY
                go_wp2_with (at_builtin; refine wpList_app1 rfl (.tmp 42) (.tmp 50) rfl w.heap.size _ _ (((k : Int)) * 8 + (s : Int) - ((k : Int))) rfl HO2.out rfl (by simp) (by unfold in64; omega) Hlen.out (by omega) ?_)
                intro v' w' hown' hb' _
                have Hown' := Lib.hid hown'
                clear hown' HO2
                go_wp2
                go_roundw
                case rel => exact ⟨k + 1, by omega, by go_num, by rw [HR.out, HE.out]; first | exact Hown'.out | (rw [← List.append_assoc]; exact Hown'.out), hbr.trans hb'⟩
                case measure => simp [intOf]; omega
              · have HR := Lib.hid (rowTo_no (n := 8) (s := s) (k := k) (by rw [HY.out]; omega))
                clear HY
                go_wp2
                go_roundw
                case rel => exact ⟨k + 1, by omega, by go_num, by rw [HR.out]; exact HO2.out, hbr⟩
                case measure => simp [intOf]; omega
            · have HR := Lib.hid (rowTo_no (n := 8) (s := s) (k := k) (by rw [HY.out]; omega))
              clear HY
              go_wp2
              go_roundw
              case rel => exact ⟨k + 1, by omega, by go_num, by rw [HR.out]; exact HO2.out, hbr⟩
              case measure => simp [intOf]; omega
        · have ek : k = s + 1 := by omega
          have HO3 := Lib.hid (show OwnInts wr w.heap.size _ (ordTo 8 (s + 1)) from by rw [ek] at HO2; exact HO2.out)
          clear HO2 ek
          go_wp2
          go_roundw
          case rel => exact ⟨s + 1, by omega, by go_num, HO3.out, hbr⟩
          case measure => simp [intOf]; omega
    · have es : s = 15 := by omega
      have HO3 := Lib.hid (show OwnInts wo w.heap.size _ (ordTo 8 15) from by rw [es] at HO; exact HO.out)
      clear HO es
      go_wp2
      go_returns
      exact ⟨_, rfl, HO3.out, hbo⟩

theorem rorder_any (n : Int) (w : World) :
    Calls Tryd.prog 20 #[.int .i64 n] w fun e w' => ∃ v', e = .returned v' ∧ OwnInts w' w.heap.size v' (orderL n) ∧ Below w.heap.size w w' := by
  by_cases h4 : n = 4
  · subst h4; exact rorder4 w
  · by_cases h8 : n = 8
    · subst h8; exact rorder8 w
    · have e : orderL n = [] := by unfold orderL; rw [if_neg h4, if_neg h8]
      rw [e]
      have q1 : (n != 4) = true := by simpa using h4
      have q2 : (n != 8) = true := by simpa using h8
      clear e h4 h8
      go_enter Tryd.func20, Tryd.ntmps20
      go_wp2
      go_returns
      exact ⟨_, rfl, OwnInts.nil _ _, Below.refl _ _⟩

end Go.Proofs.YtceobpoibiffhaaDoor
