/- kinlaw8.WhtTurns, WhtSigns: the walks. -/
import Derived.Test.YtmmhlojjipbceaaDoorWhtK
set_option linter.unusedSimpArgs false
set_option linter.unusedVariables false
namespace Go.Proofs.YtmmhlojjipbceaaDoor
open Go.RowKit Go.Extern.Stop Go.Stop Go.Extern
open T

theorem turns_long (v u : Value) (c l : List Int) (w : World) (hv : Ints w v c) (hu : Ints w u l) (hg : TypeIs w) (hl : 5000 < c.length ∨ 5000 < l.length) :
    Calls Tryd.prog 3 #[v, u] w fun e w' => e = .returned (.bool true) ∧ Below w.heap.size w w' := by
  obtain ⟨ao, cap, rfl, _⟩ := hv
  obtain ⟨ao2, cap2, rfl, _⟩ := hu
  have HG := Lib.hid hg
  by_cases h1 : 5000 < c.length
  · clear hl
    go_enter Tryd.func3, Tryd.ntmps3
    have g0 : Below w.heap.size w w := Below.refl _ _
    go_wp2_with fail
    refine (first_any _ (HG.out.ext (by go_grown))).mono ?_
    rintro e w1 ⟨rfl, hb1⟩
    have j1 : Below w.heap.size w w1 := ext (by go_grown) hb1
    have g1 : Below w.heap.size w w1 := ext g0 j1
    have s1 := j1.size
    have t1 := g1.size
    go_wp2_with fail
    refine (first_any _ ((HG.out.ext j1).ext (by go_grown))).mono ?_
    rintro e w2 ⟨rfl, hb2⟩
    have j2 : Below w1.heap.size w1 w2 := ext (by go_grown) hb2
    have g2 : Below w.heap.size w w2 := ext g1 j2
    have s2 := j2.size
    have t2 := g2.size
    go_wp2
    all_goals go_returns
    all_goals exact ⟨by first | rfl | (simp; done) | (simp; omega), g2⟩
  · have h2 : 5000 < l.length := by omega
    clear hl
    go_enter Tryd.func3, Tryd.ntmps3
    have g0 : Below w.heap.size w w := Below.refl _ _
    go_wp2_with fail
    refine (first_any _ (HG.out.ext (by go_grown))).mono ?_
    rintro e w1 ⟨rfl, hb1⟩
    have j1 : Below w.heap.size w w1 := ext (by go_grown) hb1
    have g1 : Below w.heap.size w w1 := ext g0 j1
    have s1 := j1.size
    have t1 := g1.size
    go_wp2_with fail
    refine (first_any _ ((HG.out.ext j1).ext (by go_grown))).mono ?_
    rintro e w2 ⟨rfl, hb2⟩
    have j2 : Below w1.heap.size w1 w2 := ext (by go_grown) hb2
    have g2 : Below w.heap.size w w2 := ext g1 j2
    have s2 := j2.size
    have t2 := g2.size
    go_wp2
    all_goals go_returns
    all_goals exact ⟨by first | rfl | (simp; done) | (simp; omega), g2⟩

set_option maxRecDepth 100000 in
set_option maxHeartbeats 4000000 in
theorem turns_short (v u : Value) (c l : List Int) (w : World) (hv : Ints w v c) (hu : Ints w u l) (hg : TypeIs w) (h1 : c.length ≤ 5000) (h2 : l.length ≤ 5000) :
    Calls Tryd.prog 3 #[v, u] w fun e w' => e = .returned (.bool true) ∧ Below w.heap.size w w' := by
  obtain ⟨ao, cap, rfl⟩ := slice_of hv rfl
  obtain ⟨ao2, cap2, rfl⟩ := slice_of hu rfl
  have HG := Lib.hid hg
  have HV := Lib.hid hv
  have HU := Lib.hid hu
  clear hg hv hu
  go_enter Tryd.func3, Tryd.ntmps3
  have g0 : Below w.heap.size w w := Below.refl _ _
  go_wp2_with fail
  refine (first_any _ (HG.out.ext (by go_grown))).mono ?_
  rintro e w1 ⟨rfl, hb1⟩
  have j1 : Below w.heap.size w w1 := ext (by go_grown) hb1
  have g1 : Below w.heap.size w w1 := ext g0 j1
  have s1 := j1.size
  have t1 := g1.size
  go_wp2_with fail
  refine (copy_any _ _ _ ((HV.out.ext j1).ext (by go_grown)) (by omega)).mono ?_
  rintro e w2 ⟨x, rfl, hx, hb2⟩
  have j2 : Below w1.heap.size w1 w2 := ext (by go_grown) hb2
  have g2 : Below w.heap.size w w2 := ext g1 j2
  have s2 := j2.size
  have t2 := g2.size
  have HX := Lib.hid (hx.ints)
  clear hx
  go_wp2_with fail
  refine (copy_any _ _ _ (((HU.out.ext j1).ext j2).ext (by go_grown)) (by omega)).mono ?_
  rintro e w3 ⟨y, rfl, hy, hb3⟩
  have j3 : Below w2.heap.size w2 w3 := ext (by go_grown) hb3
  have g3 : Below w.heap.size w w3 := ext g2 j3
  have s3 := j3.size
  have t3 := g3.size
  have HY := Lib.hid (hy.ints)
  clear hy
  go_wp2_with fail
  refine (pforward_any _ _ _ ((HX.out.ext j3).ext (by go_grown))).mono ?_
  rintro e w4 ⟨a, rfl, ha, hb4⟩
  have j4 : Below w3.heap.size w3 w4 := ext (by go_grown) hb4
  have g4 : Below w.heap.size w w4 := ext g3 j4
  have s4 := j4.size
  have t4 := g4.size
  have HA := Lib.hid (ha.ints)
  clear ha
  go_wp2_with fail
  refine (rforward_any _ _ _ (((((HV.out.ext j1).ext j2).ext j3).ext j4).ext (by go_grown))).mono ?_
  rintro e w5 ⟨b, rfl, hbb, hb5⟩
  have j5 : Below w4.heap.size w4 w5 := ext (by go_grown) hb5
  have g5 : Below w.heap.size w w5 := ext g4 j5
  have s5 := j5.size
  have t5 := g5.size
  have HB := Lib.hid (hbb.ints)
  clear hbb
  go_wp2_with fail
  refine (pinverse_any _ _ _ (((HY.out.ext j4).ext j5).ext (by go_grown))).mono ?_
  rintro e w6 ⟨g, rfl, hgg, hb6⟩
  have j6 : Below w5.heap.size w5 w6 := ext (by go_grown) hb6
  have g6 : Below w.heap.size w w6 := ext g5 j6
  have s6 := j6.size
  have t6 := g6.size
  have HGG := Lib.hid (hgg.ints)
  clear hgg
  have EF := Lib.hid ((Blk.new w5 #[.int .i64 (chkE c 65536), .slice none 0 0] 32).ext hb6)
  go_wp2_with fail
  refine (rinverse_any _ _ _ (((((((HU.out.ext j1).ext j2).ext j3).ext j4).ext j5).ext j6).ext (by go_grown))).mono ?_
  rintro e w7 ⟨i, rfl, hi, hb7⟩
  have j7 : Below w6.heap.size w6 w7 := ext (by go_grown) hb7
  have g7 : Below w.heap.size w w7 := ext g6 j7
  have s7 := j7.size
  have t7 := g7.size
  have HI := Lib.hid (hi.ints)
  clear hi
  go_wp2_with fail
  refine (first_any _ ((((((((HG.out.ext j1).ext j2).ext j3).ext j4).ext j5).ext j6).ext j7).ext (by go_grown))).mono ?_
  rintro e w8 ⟨rfl, hb8⟩
  have j8 : Below w7.heap.size w7 w8 := ext (by go_grown) hb8
  have g8 : Below w.heap.size w w8 := ext g7 j8
  have s8 := j8.size
  have t8 := g8.size
  have EJ := Lib.hid ((Blk.new w7 #[.int .i64 (chkE l 16777216), .slice none 0 0] 32).ext hb8)
  go_wp2_with fail
  refine (ints_any _ _ _ _ _ (((((HA.out.ext j5).ext j6).ext j7).ext j8).ext (by go_grown)) ((((HB.out.ext j6).ext j7).ext j8).ext (by go_grown))).mono ?_
  rintro e w9 ⟨rfl, hb9⟩
  have j9 : Below w8.heap.size w8 w9 := ext (by go_grown) hb9
  have g9 : Below w.heap.size w w9 := ext g8 j9
  have s9 := j9.size
  have t9 := g9.size
  simp only [decide_true]
  obtain ⟨EF0, EF1, EF2, EF3⟩ := (((EF.out.ext j7).ext j8).ext j9).two
  go_wp2_with fail
  clear EF0 EF1 EF2 EF3
  refine (same_any _ _ ((((((((((HG.out.ext j1).ext j2).ext j3).ext j4).ext j5).ext j6).ext j7).ext j8).ext j9).ext (by go_grown))).mono ?_
  rintro e w10 ⟨rfl, hb10⟩
  have j10 : Below w9.heap.size w9 w10 := ext (by go_grown) hb10
  have g10 : Below w.heap.size w w10 := ext g9 j10
  have s10 := j10.size
  have t10 := g10.size
  go_wp2_with fail
  refine (ints_any _ _ _ _ _ (((((HGG.out.ext j7).ext j8).ext j9).ext j10).ext (by go_grown)) ((((HI.out.ext j8).ext j9).ext j10).ext (by go_grown))).mono ?_
  rintro e w11 ⟨rfl, hb11⟩
  have j11 : Below w10.heap.size w10 w11 := ext (by go_grown) hb11
  have g11 : Below w.heap.size w w11 := ext g10 j11
  have s11 := j11.size
  have t11 := g11.size
  simp only [decide_true]
  obtain ⟨EJ0, EJ1, EJ2, EJ3⟩ := (((EJ.out.ext j9).ext j10).ext j11).two
  go_wp2_with fail
  clear EJ0 EJ1 EJ2 EJ3
  refine (same_any _ _ ((((((((((((HG.out.ext j1).ext j2).ext j3).ext j4).ext j5).ext j6).ext j7).ext j8).ext j9).ext j10).ext j11).ext (by go_grown))).mono ?_
  rintro e w12 ⟨rfl, hb12⟩
  have j12 : Below w11.heap.size w11 w12 := ext (by go_grown) hb12
  have g12 : Below w.heap.size w w12 := ext g11 j12
  have s12 := j12.size
  have t12 := g12.size
  go_wp2_with fail
  refine (ints_any _ _ _ _ _ (((((((((((HX.out.ext j3).ext j4).ext j5).ext j6).ext j7).ext j8).ext j9).ext j10).ext j11).ext j12).ext (by go_grown)) (((((((((((((HV.out.ext j1).ext j2).ext j3).ext j4).ext j5).ext j6).ext j7).ext j8).ext j9).ext j10).ext j11).ext j12).ext (by go_grown))).mono ?_
  rintro e w13 ⟨rfl, hb13⟩
  have j13 : Below w12.heap.size w12 w13 := ext (by go_grown) hb13
  have g13 : Below w.heap.size w w13 := ext g12 j13
  have s13 := j13.size
  have t13 := g13.size
  simp only [decide_true]
  go_wp2_with fail
  refine (ints_any _ _ _ _ _ (((((((((((HY.out.ext j4).ext j5).ext j6).ext j7).ext j8).ext j9).ext j10).ext j11).ext j12).ext j13).ext (by go_grown)) ((((((((((((((HU.out.ext j1).ext j2).ext j3).ext j4).ext j5).ext j6).ext j7).ext j8).ext j9).ext j10).ext j11).ext j12).ext j13).ext (by go_grown))).mono ?_
  rintro e w14 ⟨rfl, hb14⟩
  have j14 : Below w13.heap.size w13 w14 := ext (by go_grown) hb14
  have g14 : Below w.heap.size w w14 := ext g13 j14
  have s14 := j14.size
  have t14 := g14.size
  simp only [decide_true]
  go_wp2
  all_goals go_returns
  all_goals exact ⟨by first | rfl | (simp; done) | (simp; omega), g14⟩

theorem turns_walk (v u : Value) (c l : List Int) (w : World) (hv : Ints w v c) (hu : Ints w u l) (hg : TypeIs w) :
    Calls Tryd.prog 3 #[v, u] w fun e w' => e = .returned (.bool true) ∧ Below w.heap.size w w' := by
  by_cases h : c.length ≤ 5000 ∧ l.length ≤ 5000
  · exact turns_short v u c l w hv hu hg h.1 h.2
  · exact turns_long v u c l w hv hu hg (by omega)

theorem signs_walk (u x : Int) (w : World) (hg : TypeIs w) :
    Calls Tryd.prog 4 #[.int .i64 u, .int .i64 x] w fun e w' => e = .returned (.bool true) ∧ Below w.heap.size w w' := by
  have HG := Lib.hid hg
  have c1 : ∀ w, Calls Tryd.prog 17 #[.int .i64 u, .int .i64 x] w fun e w' => e = .returned (.int .i64 (sgnI u x)) ∧ w = w' := fun w => psign_any u x w
  have c2 : ∀ w, Calls Tryd.prog 17 #[.int .i64 x, .int .i64 u] w fun e w' => e = .returned (.int .i64 (sgnI u x)) ∧ w = w' := fun w => by rw [sgnI_comm u x]; exact psign_any x u w
  have c3 : ∀ w, Calls Tryd.prog 18 #[.int .i64 u, .int .i64 x] w fun e w' => e = .returned (.int .i64 (sgnI u x)) ∧ w = w' := fun w => rsign_any u x w
  have C1 := Lib.hid c1
  have C2 := Lib.hid c2
  have C3 := Lib.hid c3
  clear hg c1 c2 c3
  generalize sgnI u x = s at *
  go_enter Tryd.func4, Tryd.ntmps4
  have g0 : Below w.heap.size w w := Below.refl _ _
  go_wp2_with fail
  refine (first_any _ (HG.out.ext (by go_grown))).mono ?_
  rintro e w1 ⟨rfl, hb1⟩
  have j1 : Below w.heap.size w w1 := ext (by go_grown) hb1
  have g1 : Below w.heap.size w w1 := ext g0 j1
  have s1 := j1.size
  have t1 := g1.size
  go_wp2_with fail
  refine (first_any _ ((HG.out.ext j1).ext (by go_grown))).mono ?_
  rintro e w2 ⟨rfl, hb2⟩
  have j2 : Below w1.heap.size w1 w2 := ext (by go_grown) hb2
  have g2 : Below w.heap.size w w2 := ext g1 j2
  have s2 := j2.size
  have t2 := g2.size
  go_wp2_with fail
  refine (C1.out _).mono ?_
  rintro e w' ⟨rfl, rfl⟩
  go_wp2_with fail
  refine (C3.out _).mono ?_
  rintro e w' ⟨rfl, rfl⟩
  go_wp2_with fail
  refine (C2.out _).mono ?_
  rintro e w' ⟨rfl, rfl⟩
  go_wp2_with fail
  refine (C3.out _).mono ?_
  rintro e w' ⟨rfl, rfl⟩
  go_wp2
  all_goals go_returns
  all_goals exact ⟨by first | rfl | (simp; done) | (simp; omega), g2⟩
end Go.Proofs.YtmmhlojjipbceaaDoor
