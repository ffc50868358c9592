/- What the transform does to the unit lists: the signs; reckoned by the kernel, a theorem a list. -/
import Derived.Test.YtkiigodkbmcpfaaDoorWht
set_option linter.unusedSimpArgs false
set_option linter.unusedVariables false
namespace Go.Proofs.YtkiigodkbmcpfaaDoor.T
theorem u16_0 : (turnL (unit 16 0) == (List.range 16).map fun j => sq 4 j 0) = true := by decide +kernel
theorem u16_1 : (turnL (unit 16 1) == (List.range 16).map fun j => sq 4 j 1) = true := by decide +kernel
theorem u16_2 : (turnL (unit 16 2) == (List.range 16).map fun j => sq 4 j 2) = true := by decide +kernel
theorem u16_3 : (turnL (unit 16 3) == (List.range 16).map fun j => sq 4 j 3) = true := by decide +kernel
theorem u16_4 : (turnL (unit 16 4) == (List.range 16).map fun j => sq 4 j 4) = true := by decide +kernel
theorem u16_5 : (turnL (unit 16 5) == (List.range 16).map fun j => sq 4 j 5) = true := by decide +kernel
theorem u16_6 : (turnL (unit 16 6) == (List.range 16).map fun j => sq 4 j 6) = true := by decide +kernel
theorem u16_7 : (turnL (unit 16 7) == (List.range 16).map fun j => sq 4 j 7) = true := by decide +kernel
theorem u16_8 : (turnL (unit 16 8) == (List.range 16).map fun j => sq 4 j 8) = true := by decide +kernel
theorem u16_9 : (turnL (unit 16 9) == (List.range 16).map fun j => sq 4 j 9) = true := by decide +kernel
theorem u16_10 : (turnL (unit 16 10) == (List.range 16).map fun j => sq 4 j 10) = true := by decide +kernel
theorem u16_11 : (turnL (unit 16 11) == (List.range 16).map fun j => sq 4 j 11) = true := by decide +kernel
theorem u16_12 : (turnL (unit 16 12) == (List.range 16).map fun j => sq 4 j 12) = true := by decide +kernel
theorem u16_13 : (turnL (unit 16 13) == (List.range 16).map fun j => sq 4 j 13) = true := by decide +kernel
theorem u16_14 : (turnL (unit 16 14) == (List.range 16).map fun j => sq 4 j 14) = true := by decide +kernel
theorem u16_15 : (turnL (unit 16 15) == (List.range 16).map fun j => sq 4 j 15) = true := by decide +kernel
theorem units16 (i : Nat) (h : i < 16) : turnL (unit 16 i) = (List.range 16).map fun j => sq 4 j i := by
  match i, h with
  | 0, _ => exact eq_of_beq u16_0
  | 1, _ => exact eq_of_beq u16_1
  | 2, _ => exact eq_of_beq u16_2
  | 3, _ => exact eq_of_beq u16_3
  | 4, _ => exact eq_of_beq u16_4
  | 5, _ => exact eq_of_beq u16_5
  | 6, _ => exact eq_of_beq u16_6
  | 7, _ => exact eq_of_beq u16_7
  | 8, _ => exact eq_of_beq u16_8
  | 9, _ => exact eq_of_beq u16_9
  | 10, _ => exact eq_of_beq u16_10
  | 11, _ => exact eq_of_beq u16_11
  | 12, _ => exact eq_of_beq u16_12
  | 13, _ => exact eq_of_beq u16_13
  | 14, _ => exact eq_of_beq u16_14
  | 15, _ => exact eq_of_beq u16_15
  | i + 16, h => exact absurd h (by omega)
theorem u64_0 : (turnL (unit 64 0) == (List.range 64).map fun j => sq 8 j 0) = true := by decide +kernel
theorem u64_1 : (turnL (unit 64 1) == (List.range 64).map fun j => sq 8 j 1) = true := by decide +kernel
theorem u64_2 : (turnL (unit 64 2) == (List.range 64).map fun j => sq 8 j 2) = true := by decide +kernel
theorem u64_3 : (turnL (unit 64 3) == (List.range 64).map fun j => sq 8 j 3) = true := by decide +kernel
theorem u64_4 : (turnL (unit 64 4) == (List.range 64).map fun j => sq 8 j 4) = true := by decide +kernel
theorem u64_5 : (turnL (unit 64 5) == (List.range 64).map fun j => sq 8 j 5) = true := by decide +kernel
theorem u64_6 : (turnL (unit 64 6) == (List.range 64).map fun j => sq 8 j 6) = true := by decide +kernel
theorem u64_7 : (turnL (unit 64 7) == (List.range 64).map fun j => sq 8 j 7) = true := by decide +kernel
theorem u64_8 : (turnL (unit 64 8) == (List.range 64).map fun j => sq 8 j 8) = true := by decide +kernel
theorem u64_9 : (turnL (unit 64 9) == (List.range 64).map fun j => sq 8 j 9) = true := by decide +kernel
theorem u64_10 : (turnL (unit 64 10) == (List.range 64).map fun j => sq 8 j 10) = true := by decide +kernel
theorem u64_11 : (turnL (unit 64 11) == (List.range 64).map fun j => sq 8 j 11) = true := by decide +kernel
theorem u64_12 : (turnL (unit 64 12) == (List.range 64).map fun j => sq 8 j 12) = true := by decide +kernel
theorem u64_13 : (turnL (unit 64 13) == (List.range 64).map fun j => sq 8 j 13) = true := by decide +kernel
theorem u64_14 : (turnL (unit 64 14) == (List.range 64).map fun j => sq 8 j 14) = true := by decide +kernel
theorem u64_15 : (turnL (unit 64 15) == (List.range 64).map fun j => sq 8 j 15) = true := by decide +kernel
theorem u64_16 : (turnL (unit 64 16) == (List.range 64).map fun j => sq 8 j 16) = true := by decide +kernel
theorem u64_17 : (turnL (unit 64 17) == (List.range 64).map fun j => sq 8 j 17) = true := by decide +kernel
theorem u64_18 : (turnL (unit 64 18) == (List.range 64).map fun j => sq 8 j 18) = true := by decide +kernel
theorem u64_19 : (turnL (unit 64 19) == (List.range 64).map fun j => sq 8 j 19) = true := by decide +kernel
theorem u64_20 : (turnL (unit 64 20) == (List.range 64).map fun j => sq 8 j 20) = true := by decide +kernel
theorem u64_21 : (turnL (unit 64 21) == (List.range 64).map fun j => sq 8 j 21) = true := by decide +kernel
theorem u64_22 : (turnL (unit 64 22) == (List.range 64).map fun j => sq 8 j 22) = true := by decide +kernel
theorem u64_23 : (turnL (unit 64 23) == (List.range 64).map fun j => sq 8 j 23) = true := by decide +kernel
theorem u64_24 : (turnL (unit 64 24) == (List.range 64).map fun j => sq 8 j 24) = true := by decide +kernel
theorem u64_25 : (turnL (unit 64 25) == (List.range 64).map fun j => sq 8 j 25) = true := by decide +kernel
theorem u64_26 : (turnL (unit 64 26) == (List.range 64).map fun j => sq 8 j 26) = true := by decide +kernel
theorem u64_27 : (turnL (unit 64 27) == (List.range 64).map fun j => sq 8 j 27) = true := by decide +kernel
theorem u64_28 : (turnL (unit 64 28) == (List.range 64).map fun j => sq 8 j 28) = true := by decide +kernel
theorem u64_29 : (turnL (unit 64 29) == (List.range 64).map fun j => sq 8 j 29) = true := by decide +kernel
theorem u64_30 : (turnL (unit 64 30) == (List.range 64).map fun j => sq 8 j 30) = true := by decide +kernel
theorem u64_31 : (turnL (unit 64 31) == (List.range 64).map fun j => sq 8 j 31) = true := by decide +kernel
theorem u64_32 : (turnL (unit 64 32) == (List.range 64).map fun j => sq 8 j 32) = true := by decide +kernel
theorem u64_33 : (turnL (unit 64 33) == (List.range 64).map fun j => sq 8 j 33) = true := by decide +kernel
theorem u64_34 : (turnL (unit 64 34) == (List.range 64).map fun j => sq 8 j 34) = true := by decide +kernel
theorem u64_35 : (turnL (unit 64 35) == (List.range 64).map fun j => sq 8 j 35) = true := by decide +kernel
theorem u64_36 : (turnL (unit 64 36) == (List.range 64).map fun j => sq 8 j 36) = true := by decide +kernel
theorem u64_37 : (turnL (unit 64 37) == (List.range 64).map fun j => sq 8 j 37) = true := by decide +kernel
theorem u64_38 : (turnL (unit 64 38) == (List.range 64).map fun j => sq 8 j 38) = true := by decide +kernel
theorem u64_39 : (turnL (unit 64 39) == (List.range 64).map fun j => sq 8 j 39) = true := by decide +kernel
theorem u64_40 : (turnL (unit 64 40) == (List.range 64).map fun j => sq 8 j 40) = true := by decide +kernel
theorem u64_41 : (turnL (unit 64 41) == (List.range 64).map fun j => sq 8 j 41) = true := by decide +kernel
theorem u64_42 : (turnL (unit 64 42) == (List.range 64).map fun j => sq 8 j 42) = true := by decide +kernel
theorem u64_43 : (turnL (unit 64 43) == (List.range 64).map fun j => sq 8 j 43) = true := by decide +kernel
theorem u64_44 : (turnL (unit 64 44) == (List.range 64).map fun j => sq 8 j 44) = true := by decide +kernel
theorem u64_45 : (turnL (unit 64 45) == (List.range 64).map fun j => sq 8 j 45) = true := by decide +kernel
theorem u64_46 : (turnL (unit 64 46) == (List.range 64).map fun j => sq 8 j 46) = true := by decide +kernel
theorem u64_47 : (turnL (unit 64 47) == (List.range 64).map fun j => sq 8 j 47) = true := by decide +kernel
theorem u64_48 : (turnL (unit 64 48) == (List.range 64).map fun j => sq 8 j 48) = true := by decide +kernel
theorem u64_49 : (turnL (unit 64 49) == (List.range 64).map fun j => sq 8 j 49) = true := by decide +kernel
theorem u64_50 : (turnL (unit 64 50) == (List.range 64).map fun j => sq 8 j 50) = true := by decide +kernel
theorem u64_51 : (turnL (unit 64 51) == (List.range 64).map fun j => sq 8 j 51) = true := by decide +kernel
theorem u64_52 : (turnL (unit 64 52) == (List.range 64).map fun j => sq 8 j 52) = true := by decide +kernel
theorem u64_53 : (turnL (unit 64 53) == (List.range 64).map fun j => sq 8 j 53) = true := by decide +kernel
theorem u64_54 : (turnL (unit 64 54) == (List.range 64).map fun j => sq 8 j 54) = true := by decide +kernel
theorem u64_55 : (turnL (unit 64 55) == (List.range 64).map fun j => sq 8 j 55) = true := by decide +kernel
theorem u64_56 : (turnL (unit 64 56) == (List.range 64).map fun j => sq 8 j 56) = true := by decide +kernel
theorem u64_57 : (turnL (unit 64 57) == (List.range 64).map fun j => sq 8 j 57) = true := by decide +kernel
theorem u64_58 : (turnL (unit 64 58) == (List.range 64).map fun j => sq 8 j 58) = true := by decide +kernel
theorem u64_59 : (turnL (unit 64 59) == (List.range 64).map fun j => sq 8 j 59) = true := by decide +kernel
theorem u64_60 : (turnL (unit 64 60) == (List.range 64).map fun j => sq 8 j 60) = true := by decide +kernel
theorem u64_61 : (turnL (unit 64 61) == (List.range 64).map fun j => sq 8 j 61) = true := by decide +kernel
theorem u64_62 : (turnL (unit 64 62) == (List.range 64).map fun j => sq 8 j 62) = true := by decide +kernel
theorem u64_63 : (turnL (unit 64 63) == (List.range 64).map fun j => sq 8 j 63) = true := by decide +kernel
theorem units64 (i : Nat) (h : i < 64) : turnL (unit 64 i) = (List.range 64).map fun j => sq 8 j i := by
  match i, h with
  | 0, _ => exact eq_of_beq u64_0
  | 1, _ => exact eq_of_beq u64_1
  | 2, _ => exact eq_of_beq u64_2
  | 3, _ => exact eq_of_beq u64_3
  | 4, _ => exact eq_of_beq u64_4
  | 5, _ => exact eq_of_beq u64_5
  | 6, _ => exact eq_of_beq u64_6
  | 7, _ => exact eq_of_beq u64_7
  | 8, _ => exact eq_of_beq u64_8
  | 9, _ => exact eq_of_beq u64_9
  | 10, _ => exact eq_of_beq u64_10
  | 11, _ => exact eq_of_beq u64_11
  | 12, _ => exact eq_of_beq u64_12
  | 13, _ => exact eq_of_beq u64_13
  | 14, _ => exact eq_of_beq u64_14
  | 15, _ => exact eq_of_beq u64_15
  | 16, _ => exact eq_of_beq u64_16
  | 17, _ => exact eq_of_beq u64_17
  | 18, _ => exact eq_of_beq u64_18
  | 19, _ => exact eq_of_beq u64_19
  | 20, _ => exact eq_of_beq u64_20
  | 21, _ => exact eq_of_beq u64_21
  | 22, _ => exact eq_of_beq u64_22
  | 23, _ => exact eq_of_beq u64_23
  | 24, _ => exact eq_of_beq u64_24
  | 25, _ => exact eq_of_beq u64_25
  | 26, _ => exact eq_of_beq u64_26
  | 27, _ => exact eq_of_beq u64_27
  | 28, _ => exact eq_of_beq u64_28
  | 29, _ => exact eq_of_beq u64_29
  | 30, _ => exact eq_of_beq u64_30
  | 31, _ => exact eq_of_beq u64_31
  | 32, _ => exact eq_of_beq u64_32
  | 33, _ => exact eq_of_beq u64_33
  | 34, _ => exact eq_of_beq u64_34
  | 35, _ => exact eq_of_beq u64_35
  | 36, _ => exact eq_of_beq u64_36
  | 37, _ => exact eq_of_beq u64_37
  | 38, _ => exact eq_of_beq u64_38
  | 39, _ => exact eq_of_beq u64_39
  | 40, _ => exact eq_of_beq u64_40
  | 41, _ => exact eq_of_beq u64_41
  | 42, _ => exact eq_of_beq u64_42
  | 43, _ => exact eq_of_beq u64_43
  | 44, _ => exact eq_of_beq u64_44
  | 45, _ => exact eq_of_beq u64_45
  | 46, _ => exact eq_of_beq u64_46
  | 47, _ => exact eq_of_beq u64_47
  | 48, _ => exact eq_of_beq u64_48
  | 49, _ => exact eq_of_beq u64_49
  | 50, _ => exact eq_of_beq u64_50
  | 51, _ => exact eq_of_beq u64_51
  | 52, _ => exact eq_of_beq u64_52
  | 53, _ => exact eq_of_beq u64_53
  | 54, _ => exact eq_of_beq u64_54
  | 55, _ => exact eq_of_beq u64_55
  | 56, _ => exact eq_of_beq u64_56
  | 57, _ => exact eq_of_beq u64_57
  | 58, _ => exact eq_of_beq u64_58
  | 59, _ => exact eq_of_beq u64_59
  | 60, _ => exact eq_of_beq u64_60
  | 61, _ => exact eq_of_beq u64_61
  | 62, _ => exact eq_of_beq u64_62
  | 63, _ => exact eq_of_beq u64_63
  | i + 64, h => exact absurd h (by omega)
end Go.Proofs.YtkiigodkbmcpfaaDoor.T
