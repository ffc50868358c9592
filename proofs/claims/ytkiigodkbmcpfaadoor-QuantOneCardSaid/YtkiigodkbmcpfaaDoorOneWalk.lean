/- The walk of kinlaw9.QuantOne. -/
import Derived.Test.YtkiigodkbmcpfaaDoorQuantC
namespace Go.Proofs.YtkiigodkbmcpfaaDoor
open Go.RowKit Go.Extern.Stop Go.Stop Go.Extern
open Q

set_option maxHeartbeats 4000000 in
theorem one_walk (c qp : Int) (w : World) (hg : TypeIs w) : Calls Tryd.prog 3 #[.int .i64 c, .int .i64 qp] w fun e w' => e = .returned (.bool true) ∧ Below w.heap.size w w' := by
  have hg := Lib.hid hg
  go_enter Tryd.func3, Tryd.ntmps3
  go_wp2_with fail
  refine (first_any _ hg.out).mono ?_
  rintro e w1 ⟨rfl, hb1⟩
  go_wp2_with fail
  refine (pstep_any _ _).mono ?_
  rintro e w2 ⟨rfl, hb2⟩
  go_wp2_with fail
  refine (rstep_any _ _).mono ?_
  rintro e w3 ⟨rfl, hb3⟩
  have g3 : Below w.heap.size w w3 := ext (ext hb1 hb2) hb3
  have s3 := g3.size
  go_wp2_with fail
  refine (pbound_any _ _).mono ?_
  rintro e w4 ⟨rfl, hb4⟩
  obtain ⟨hc4, hf4⟩ := bcell hb4
  have hz4_0 : w3.heap.size < w4.heap.size := Nat.lt_of_lt_of_le (by go_size) hb4.size
  have hl4_0 : w3.heap.size ≤ w4.heap.size := Nat.le_of_lt hz4_0
  go_wp2_with fail
  refine (rbound_any _ _).mono ?_
  rintro e w5 ⟨rfl, hb5⟩
  obtain ⟨hc5, hf5⟩ := bcell hb5
  have hz5_0 : w3.heap.size < w5.heap.size := Nat.lt_of_lt_of_le (by go_size) hb5.size
  have hl5_0 : w3.heap.size ≤ w5.heap.size := Nat.le_of_lt hz5_0
  have g5 : Below w.heap.size w w5 := ext (ext (by go_grown) hb4) hb5
  have s5 := g5.size
  go_wp2_with fail
  refine (plevel_any _ _ _).mono ?_
  rintro e w6 ⟨rfl, hb6⟩
  obtain ⟨hc6, hf6⟩ := bcell hb6
  have hz6_0 : w3.heap.size < w6.heap.size := Nat.lt_of_lt_of_le (by go_size) hb6.size
  have hl6_0 : w3.heap.size ≤ w6.heap.size := Nat.le_of_lt hz6_0
  have hz6_1 : w5.heap.size < w6.heap.size := Nat.lt_of_lt_of_le (by go_size) hb6.size
  have hl6_1 : w5.heap.size ≤ w6.heap.size := Nat.le_of_lt hz6_1
  go_wp2_with fail
  refine (rlevel_any _ _ _).mono ?_
  rintro e w7 ⟨rfl, hb7⟩
  obtain ⟨hc7, hf7⟩ := bcell hb7
  have hz7_0 : w3.heap.size < w7.heap.size := Nat.lt_of_lt_of_le (by go_size) hb7.size
  have hl7_0 : w3.heap.size ≤ w7.heap.size := Nat.le_of_lt hz7_0
  have hz7_1 : w5.heap.size < w7.heap.size := Nat.lt_of_lt_of_le (by go_size) hb7.size
  have hl7_1 : w5.heap.size ≤ w7.heap.size := Nat.le_of_lt hz7_1
  have g7 : Below w.heap.size w w7 := ext (ext (by go_grown) hb6) hb7
  have s7 := g7.size
  go_wp2_with fail
  refine (pvalue_any _ _ _).mono ?_
  rintro e w8 ⟨rfl, hb8⟩
  obtain ⟨hc8, hf8⟩ := bcell hb8
  have hz8_0 : w3.heap.size < w8.heap.size := Nat.lt_of_lt_of_le (by go_size) hb8.size
  have hl8_0 : w3.heap.size ≤ w8.heap.size := Nat.le_of_lt hz8_0
  have hz8_1 : w5.heap.size < w8.heap.size := Nat.lt_of_lt_of_le (by go_size) hb8.size
  have hl8_1 : w5.heap.size ≤ w8.heap.size := Nat.le_of_lt hz8_1
  have hz8_2 : w7.heap.size < w8.heap.size := Nat.lt_of_lt_of_le (by go_size) hb8.size
  have hl8_2 : w7.heap.size ≤ w8.heap.size := Nat.le_of_lt hz8_2
  go_wp2_with fail
  refine (rvalue_any _ _ _).mono ?_
  rintro e w9 ⟨rfl, hb9⟩
  obtain ⟨hc9, hf9⟩ := bcell hb9
  have hz9_0 : w3.heap.size < w9.heap.size := Nat.lt_of_lt_of_le (by go_size) hb9.size
  have hl9_0 : w3.heap.size ≤ w9.heap.size := Nat.le_of_lt hz9_0
  have hz9_1 : w5.heap.size < w9.heap.size := Nat.lt_of_lt_of_le (by go_size) hb9.size
  have hl9_1 : w5.heap.size ≤ w9.heap.size := Nat.le_of_lt hz9_1
  have hz9_2 : w7.heap.size < w9.heap.size := Nat.lt_of_lt_of_le (by go_size) hb9.size
  have hl9_2 : w7.heap.size ≤ w9.heap.size := Nat.le_of_lt hz9_2
  have g9 : Below w.heap.size w w9 := ext (ext (by go_grown) hb8) hb9
  have s9 := g9.size
  go_wp2_with fail
  refine (first_any _ (hg.out.ext (by go_grown))).mono ?_
  rintro e w10 ⟨rfl, hb10⟩
  obtain ⟨hc10, hf10⟩ := bcell hb10
  have hz10_0 : w3.heap.size < w10.heap.size := Nat.lt_of_lt_of_le (by go_size) hb10.size
  have hl10_0 : w3.heap.size ≤ w10.heap.size := Nat.le_of_lt hz10_0
  have hz10_1 : w5.heap.size < w10.heap.size := Nat.lt_of_lt_of_le (by go_size) hb10.size
  have hl10_1 : w5.heap.size ≤ w10.heap.size := Nat.le_of_lt hz10_1
  have hz10_2 : w7.heap.size < w10.heap.size := Nat.lt_of_lt_of_le (by go_size) hb10.size
  have hl10_2 : w7.heap.size ≤ w10.heap.size := Nat.le_of_lt hz10_2
  have hz10_3 : w9.heap.size < w10.heap.size := Nat.lt_of_lt_of_le (by go_size) hb10.size
  have hl10_3 : w9.heap.size ≤ w10.heap.size := Nat.le_of_lt hz10_3
  have g10 : Below w.heap.size w w10 := ext (by go_grown) hb10
  have s10 := g10.size
  go_wp2_with fail
  refine (same_any _ _ (hg.out.ext g10)).mono ?_
  rintro e w11 ⟨rfl, hb11⟩
  obtain ⟨hc11, hf11⟩ := bcell hb11
  have hz11_0 : w3.heap.size < w11.heap.size := Nat.lt_of_lt_of_le (by go_size) hb11.size
  have hl11_0 : w3.heap.size ≤ w11.heap.size := Nat.le_of_lt hz11_0
  have hz11_1 : w5.heap.size < w11.heap.size := Nat.lt_of_lt_of_le (by go_size) hb11.size
  have hl11_1 : w5.heap.size ≤ w11.heap.size := Nat.le_of_lt hz11_1
  have hz11_2 : w7.heap.size < w11.heap.size := Nat.lt_of_lt_of_le (by go_size) hb11.size
  have hl11_2 : w7.heap.size ≤ w11.heap.size := Nat.le_of_lt hz11_2
  have hz11_3 : w9.heap.size < w11.heap.size := Nat.lt_of_lt_of_le (by go_size) hb11.size
  have hl11_3 : w9.heap.size ≤ w11.heap.size := Nat.le_of_lt hz11_3
  have g11 : Below w.heap.size w w11 := ext g10 hb11
  have s11 := g11.size
  go_wp2_with fail
  refine (same_any _ _ (hg.out.ext g11)).mono ?_
  rintro e w12 ⟨rfl, hb12⟩
  obtain ⟨hc12, hf12⟩ := bcell hb12
  have hz12_0 : w3.heap.size < w12.heap.size := Nat.lt_of_lt_of_le (by go_size) hb12.size
  have hl12_0 : w3.heap.size ≤ w12.heap.size := Nat.le_of_lt hz12_0
  have hz12_1 : w5.heap.size < w12.heap.size := Nat.lt_of_lt_of_le (by go_size) hb12.size
  have hl12_1 : w5.heap.size ≤ w12.heap.size := Nat.le_of_lt hz12_1
  have hz12_2 : w7.heap.size < w12.heap.size := Nat.lt_of_lt_of_le (by go_size) hb12.size
  have hl12_2 : w7.heap.size ≤ w12.heap.size := Nat.le_of_lt hz12_2
  have hz12_3 : w9.heap.size < w12.heap.size := Nat.lt_of_lt_of_le (by go_size) hb12.size
  have hl12_3 : w9.heap.size ≤ w12.heap.size := Nat.le_of_lt hz12_3
  have g12 : Below w.heap.size w w12 := ext g11 hb12
  have s12 := g12.size
  go_wp2_with fail
  refine (same_any _ _ (hg.out.ext g12)).mono ?_
  rintro e w13 ⟨rfl, hb13⟩
  obtain ⟨hc13, hf13⟩ := bcell hb13
  have hz13_0 : w3.heap.size < w13.heap.size := Nat.lt_of_lt_of_le (by go_size) hb13.size
  have hl13_0 : w3.heap.size ≤ w13.heap.size := Nat.le_of_lt hz13_0
  have hz13_1 : w5.heap.size < w13.heap.size := Nat.lt_of_lt_of_le (by go_size) hb13.size
  have hl13_1 : w5.heap.size ≤ w13.heap.size := Nat.le_of_lt hz13_1
  have hz13_2 : w7.heap.size < w13.heap.size := Nat.lt_of_lt_of_le (by go_size) hb13.size
  have hl13_2 : w7.heap.size ≤ w13.heap.size := Nat.le_of_lt hz13_2
  have hz13_3 : w9.heap.size < w13.heap.size := Nat.lt_of_lt_of_le (by go_size) hb13.size
  have hl13_3 : w9.heap.size ≤ w13.heap.size := Nat.le_of_lt hz13_3
  have g13 : Below w.heap.size w w13 := ext g12 hb13
  have s13 := g13.size
  go_wp2_with fail
  refine (same_any _ _ (hg.out.ext g13)).mono ?_
  rintro e w14 ⟨rfl, hb14⟩
  have g14 : Below w.heap.size w w14 := ext g13 hb14
  have s14 := g14.size
  go_wp2
  go_returns
  exact ⟨rfl, g14⟩
end Go.Proofs.YtkiigodkbmcpfaaDoor
