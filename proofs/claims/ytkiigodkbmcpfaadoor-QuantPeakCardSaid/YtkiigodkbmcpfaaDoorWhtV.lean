/- Twice the transform of the unit lists; reckoned by the kernel, a theorem a list. -/
import Derived.Test.YtkiigodkbmcpfaaDoorWhtU
import Derived.Test.YtkiigodkbmcpfaaDoorWhtF
set_option linter.unusedSimpArgs false
set_option linter.unusedVariables false
namespace Go.Proofs.YtkiigodkbmcpfaaDoor.T
theorem uu16_0 : (turnL (turnL (unit 16 0)) == (unit 16 0).map (16 * ·)) = true := by decide +kernel
theorem uu16_1 : (turnL (turnL (unit 16 1)) == (unit 16 1).map (16 * ·)) = true := by decide +kernel
theorem uu16_2 : (turnL (turnL (unit 16 2)) == (unit 16 2).map (16 * ·)) = true := by decide +kernel
theorem uu16_3 : (turnL (turnL (unit 16 3)) == (unit 16 3).map (16 * ·)) = true := by decide +kernel
theorem uu16_4 : (turnL (turnL (unit 16 4)) == (unit 16 4).map (16 * ·)) = true := by decide +kernel
theorem uu16_5 : (turnL (turnL (unit 16 5)) == (unit 16 5).map (16 * ·)) = true := by decide +kernel
theorem uu16_6 : (turnL (turnL (unit 16 6)) == (unit 16 6).map (16 * ·)) = true := by decide +kernel
theorem uu16_7 : (turnL (turnL (unit 16 7)) == (unit 16 7).map (16 * ·)) = true := by decide +kernel
theorem uu16_8 : (turnL (turnL (unit 16 8)) == (unit 16 8).map (16 * ·)) = true := by decide +kernel
theorem uu16_9 : (turnL (turnL (unit 16 9)) == (unit 16 9).map (16 * ·)) = true := by decide +kernel
theorem uu16_10 : (turnL (turnL (unit 16 10)) == (unit 16 10).map (16 * ·)) = true := by decide +kernel
theorem uu16_11 : (turnL (turnL (unit 16 11)) == (unit 16 11).map (16 * ·)) = true := by decide +kernel
theorem uu16_12 : (turnL (turnL (unit 16 12)) == (unit 16 12).map (16 * ·)) = true := by decide +kernel
theorem uu16_13 : (turnL (turnL (unit 16 13)) == (unit 16 13).map (16 * ·)) = true := by decide +kernel
theorem uu16_14 : (turnL (turnL (unit 16 14)) == (unit 16 14).map (16 * ·)) = true := by decide +kernel
theorem uu16_15 : (turnL (turnL (unit 16 15)) == (unit 16 15).map (16 * ·)) = true := by decide +kernel
theorem twice16 (i : Nat) (h : i < 16) : turnL (turnL (unit 16 i)) = (unit 16 i).map (16 * ·) := by
  match i, h with
  | 0, _ => exact eq_of_beq uu16_0
  | 1, _ => exact eq_of_beq uu16_1
  | 2, _ => exact eq_of_beq uu16_2
  | 3, _ => exact eq_of_beq uu16_3
  | 4, _ => exact eq_of_beq uu16_4
  | 5, _ => exact eq_of_beq uu16_5
  | 6, _ => exact eq_of_beq uu16_6
  | 7, _ => exact eq_of_beq uu16_7
  | 8, _ => exact eq_of_beq uu16_8
  | 9, _ => exact eq_of_beq uu16_9
  | 10, _ => exact eq_of_beq uu16_10
  | 11, _ => exact eq_of_beq uu16_11
  | 12, _ => exact eq_of_beq uu16_12
  | 13, _ => exact eq_of_beq uu16_13
  | 14, _ => exact eq_of_beq uu16_14
  | 15, _ => exact eq_of_beq uu16_15
  | i + 16, h => exact absurd h (by omega)
theorem uu64_0 : (turnL (turnL (unit 64 0)) == (unit 64 0).map (64 * ·)) = true := by decide +kernel
theorem uu64_1 : (turnL (turnL (unit 64 1)) == (unit 64 1).map (64 * ·)) = true := by decide +kernel
theorem uu64_2 : (turnL (turnL (unit 64 2)) == (unit 64 2).map (64 * ·)) = true := by decide +kernel
theorem uu64_3 : (turnL (turnL (unit 64 3)) == (unit 64 3).map (64 * ·)) = true := by decide +kernel
theorem uu64_4 : (turnL (turnL (unit 64 4)) == (unit 64 4).map (64 * ·)) = true := by decide +kernel
theorem uu64_5 : (turnL (turnL (unit 64 5)) == (unit 64 5).map (64 * ·)) = true := by decide +kernel
theorem uu64_6 : (turnL (turnL (unit 64 6)) == (unit 64 6).map (64 * ·)) = true := by decide +kernel
theorem uu64_7 : (turnL (turnL (unit 64 7)) == (unit 64 7).map (64 * ·)) = true := by decide +kernel
theorem uu64_8 : (turnL (turnL (unit 64 8)) == (unit 64 8).map (64 * ·)) = true := by decide +kernel
theorem uu64_9 : (turnL (turnL (unit 64 9)) == (unit 64 9).map (64 * ·)) = true := by decide +kernel
theorem uu64_10 : (turnL (turnL (unit 64 10)) == (unit 64 10).map (64 * ·)) = true := by decide +kernel
theorem uu64_11 : (turnL (turnL (unit 64 11)) == (unit 64 11).map (64 * ·)) = true := by decide +kernel
theorem uu64_12 : (turnL (turnL (unit 64 12)) == (unit 64 12).map (64 * ·)) = true := by decide +kernel
theorem uu64_13 : (turnL (turnL (unit 64 13)) == (unit 64 13).map (64 * ·)) = true := by decide +kernel
theorem uu64_14 : (turnL (turnL (unit 64 14)) == (unit 64 14).map (64 * ·)) = true := by decide +kernel
theorem uu64_15 : (turnL (turnL (unit 64 15)) == (unit 64 15).map (64 * ·)) = true := by decide +kernel
theorem uu64_16 : (turnL (turnL (unit 64 16)) == (unit 64 16).map (64 * ·)) = true := by decide +kernel
theorem uu64_17 : (turnL (turnL (unit 64 17)) == (unit 64 17).map (64 * ·)) = true := by decide +kernel
theorem uu64_18 : (turnL (turnL (unit 64 18)) == (unit 64 18).map (64 * ·)) = true := by decide +kernel
theorem uu64_19 : (turnL (turnL (unit 64 19)) == (unit 64 19).map (64 * ·)) = true := by decide +kernel
theorem uu64_20 : (turnL (turnL (unit 64 20)) == (unit 64 20).map (64 * ·)) = true := by decide +kernel
theorem uu64_21 : (turnL (turnL (unit 64 21)) == (unit 64 21).map (64 * ·)) = true := by decide +kernel
theorem uu64_22 : (turnL (turnL (unit 64 22)) == (unit 64 22).map (64 * ·)) = true := by decide +kernel
theorem uu64_23 : (turnL (turnL (unit 64 23)) == (unit 64 23).map (64 * ·)) = true := by decide +kernel
theorem uu64_24 : (turnL (turnL (unit 64 24)) == (unit 64 24).map (64 * ·)) = true := by decide +kernel
theorem uu64_25 : (turnL (turnL (unit 64 25)) == (unit 64 25).map (64 * ·)) = true := by decide +kernel
theorem uu64_26 : (turnL (turnL (unit 64 26)) == (unit 64 26).map (64 * ·)) = true := by decide +kernel
theorem uu64_27 : (turnL (turnL (unit 64 27)) == (unit 64 27).map (64 * ·)) = true := by decide +kernel
theorem uu64_28 : (turnL (turnL (unit 64 28)) == (unit 64 28).map (64 * ·)) = true := by decide +kernel
theorem uu64_29 : (turnL (turnL (unit 64 29)) == (unit 64 29).map (64 * ·)) = true := by decide +kernel
theorem uu64_30 : (turnL (turnL (unit 64 30)) == (unit 64 30).map (64 * ·)) = true := by decide +kernel
theorem uu64_31 : (turnL (turnL (unit 64 31)) == (unit 64 31).map (64 * ·)) = true := by decide +kernel
theorem uu64_32 : (turnL (turnL (unit 64 32)) == (unit 64 32).map (64 * ·)) = true := by decide +kernel
theorem uu64_33 : (turnL (turnL (unit 64 33)) == (unit 64 33).map (64 * ·)) = true := by decide +kernel
theorem uu64_34 : (turnL (turnL (unit 64 34)) == (unit 64 34).map (64 * ·)) = true := by decide +kernel
theorem uu64_35 : (turnL (turnL (unit 64 35)) == (unit 64 35).map (64 * ·)) = true := by decide +kernel
theorem uu64_36 : (turnL (turnL (unit 64 36)) == (unit 64 36).map (64 * ·)) = true := by decide +kernel
theorem uu64_37 : (turnL (turnL (unit 64 37)) == (unit 64 37).map (64 * ·)) = true := by decide +kernel
theorem uu64_38 : (turnL (turnL (unit 64 38)) == (unit 64 38).map (64 * ·)) = true := by decide +kernel
theorem uu64_39 : (turnL (turnL (unit 64 39)) == (unit 64 39).map (64 * ·)) = true := by decide +kernel
theorem uu64_40 : (turnL (turnL (unit 64 40)) == (unit 64 40).map (64 * ·)) = true := by decide +kernel
theorem uu64_41 : (turnL (turnL (unit 64 41)) == (unit 64 41).map (64 * ·)) = true := by decide +kernel
theorem uu64_42 : (turnL (turnL (unit 64 42)) == (unit 64 42).map (64 * ·)) = true := by decide +kernel
theorem uu64_43 : (turnL (turnL (unit 64 43)) == (unit 64 43).map (64 * ·)) = true := by decide +kernel
theorem uu64_44 : (turnL (turnL (unit 64 44)) == (unit 64 44).map (64 * ·)) = true := by decide +kernel
theorem uu64_45 : (turnL (turnL (unit 64 45)) == (unit 64 45).map (64 * ·)) = true := by decide +kernel
theorem uu64_46 : (turnL (turnL (unit 64 46)) == (unit 64 46).map (64 * ·)) = true := by decide +kernel
theorem uu64_47 : (turnL (turnL (unit 64 47)) == (unit 64 47).map (64 * ·)) = true := by decide +kernel
theorem uu64_48 : (turnL (turnL (unit 64 48)) == (unit 64 48).map (64 * ·)) = true := by decide +kernel
theorem uu64_49 : (turnL (turnL (unit 64 49)) == (unit 64 49).map (64 * ·)) = true := by decide +kernel
theorem uu64_50 : (turnL (turnL (unit 64 50)) == (unit 64 50).map (64 * ·)) = true := by decide +kernel
theorem uu64_51 : (turnL (turnL (unit 64 51)) == (unit 64 51).map (64 * ·)) = true := by decide +kernel
theorem uu64_52 : (turnL (turnL (unit 64 52)) == (unit 64 52).map (64 * ·)) = true := by decide +kernel
theorem uu64_53 : (turnL (turnL (unit 64 53)) == (unit 64 53).map (64 * ·)) = true := by decide +kernel
theorem uu64_54 : (turnL (turnL (unit 64 54)) == (unit 64 54).map (64 * ·)) = true := by decide +kernel
theorem uu64_55 : (turnL (turnL (unit 64 55)) == (unit 64 55).map (64 * ·)) = true := by decide +kernel
theorem uu64_56 : (turnL (turnL (unit 64 56)) == (unit 64 56).map (64 * ·)) = true := by decide +kernel
theorem uu64_57 : (turnL (turnL (unit 64 57)) == (unit 64 57).map (64 * ·)) = true := by decide +kernel
theorem uu64_58 : (turnL (turnL (unit 64 58)) == (unit 64 58).map (64 * ·)) = true := by decide +kernel
theorem uu64_59 : (turnL (turnL (unit 64 59)) == (unit 64 59).map (64 * ·)) = true := by decide +kernel
theorem uu64_60 : (turnL (turnL (unit 64 60)) == (unit 64 60).map (64 * ·)) = true := by decide +kernel
theorem uu64_61 : (turnL (turnL (unit 64 61)) == (unit 64 61).map (64 * ·)) = true := by decide +kernel
theorem uu64_62 : (turnL (turnL (unit 64 62)) == (unit 64 62).map (64 * ·)) = true := by decide +kernel
theorem uu64_63 : (turnL (turnL (unit 64 63)) == (unit 64 63).map (64 * ·)) = true := by decide +kernel
theorem twice64 (i : Nat) (h : i < 64) : turnL (turnL (unit 64 i)) = (unit 64 i).map (64 * ·) := by
  match i, h with
  | 0, _ => exact eq_of_beq uu64_0
  | 1, _ => exact eq_of_beq uu64_1
  | 2, _ => exact eq_of_beq uu64_2
  | 3, _ => exact eq_of_beq uu64_3
  | 4, _ => exact eq_of_beq uu64_4
  | 5, _ => exact eq_of_beq uu64_5
  | 6, _ => exact eq_of_beq uu64_6
  | 7, _ => exact eq_of_beq uu64_7
  | 8, _ => exact eq_of_beq uu64_8
  | 9, _ => exact eq_of_beq uu64_9
  | 10, _ => exact eq_of_beq uu64_10
  | 11, _ => exact eq_of_beq uu64_11
  | 12, _ => exact eq_of_beq uu64_12
  | 13, _ => exact eq_of_beq uu64_13
  | 14, _ => exact eq_of_beq uu64_14
  | 15, _ => exact eq_of_beq uu64_15
  | 16, _ => exact eq_of_beq uu64_16
  | 17, _ => exact eq_of_beq uu64_17
  | 18, _ => exact eq_of_beq uu64_18
  | 19, _ => exact eq_of_beq uu64_19
  | 20, _ => exact eq_of_beq uu64_20
  | 21, _ => exact eq_of_beq uu64_21
  | 22, _ => exact eq_of_beq uu64_22
  | 23, _ => exact eq_of_beq uu64_23
  | 24, _ => exact eq_of_beq uu64_24
  | 25, _ => exact eq_of_beq uu64_25
  | 26, _ => exact eq_of_beq uu64_26
  | 27, _ => exact eq_of_beq uu64_27
  | 28, _ => exact eq_of_beq uu64_28
  | 29, _ => exact eq_of_beq uu64_29
  | 30, _ => exact eq_of_beq uu64_30
  | 31, _ => exact eq_of_beq uu64_31
  | 32, _ => exact eq_of_beq uu64_32
  | 33, _ => exact eq_of_beq uu64_33
  | 34, _ => exact eq_of_beq uu64_34
  | 35, _ => exact eq_of_beq uu64_35
  | 36, _ => exact eq_of_beq uu64_36
  | 37, _ => exact eq_of_beq uu64_37
  | 38, _ => exact eq_of_beq uu64_38
  | 39, _ => exact eq_of_beq uu64_39
  | 40, _ => exact eq_of_beq uu64_40
  | 41, _ => exact eq_of_beq uu64_41
  | 42, _ => exact eq_of_beq uu64_42
  | 43, _ => exact eq_of_beq uu64_43
  | 44, _ => exact eq_of_beq uu64_44
  | 45, _ => exact eq_of_beq uu64_45
  | 46, _ => exact eq_of_beq uu64_46
  | 47, _ => exact eq_of_beq uu64_47
  | 48, _ => exact eq_of_beq uu64_48
  | 49, _ => exact eq_of_beq uu64_49
  | 50, _ => exact eq_of_beq uu64_50
  | 51, _ => exact eq_of_beq uu64_51
  | 52, _ => exact eq_of_beq uu64_52
  | 53, _ => exact eq_of_beq uu64_53
  | 54, _ => exact eq_of_beq uu64_54
  | 55, _ => exact eq_of_beq uu64_55
  | 56, _ => exact eq_of_beq uu64_56
  | 57, _ => exact eq_of_beq uu64_57
  | 58, _ => exact eq_of_beq uu64_58
  | 59, _ => exact eq_of_beq uu64_59
  | 60, _ => exact eq_of_beq uu64_60
  | 61, _ => exact eq_of_beq uu64_61
  | 62, _ => exact eq_of_beq uu64_62
  | 63, _ => exact eq_of_beq uu64_63
  | i + 64, h => exact absurd h (by omega)
theorem ones16 : turnL (List.replicate 16 1) = 16 :: List.replicate 15 0 := by decide +kernel
theorem peak16 : turnL (unit 16 0) = List.replicate 16 1 := by decide +kernel
theorem ones64 : turnL (List.replicate 64 1) = 64 :: List.replicate 63 0 := by decide +kernel
theorem peak64 : turnL (unit 64 0) = List.replicate 64 1 := by decide +kernel
end Go.Proofs.YtkiigodkbmcpfaaDoor.T
