/- kinlaw11.MotionCosts: the walk; small contracts. -/
import Derived.Test.YtjmkcbagedflkaaDoorMotionF
import Derived.Test.YtjmkcbagedflkaaDoorVec
set_option linter.unusedSimpArgs false
set_option linter.unusedVariables false
namespace Go.Proofs.YtjmkcbagedflkaaDoor
open Go.RowKit Go.Extern.Stop Go.Stop Go.Extern
theorem ints_same (v u : Value) (l : List Int) (w : World) (hv : Ints w v l) (hu : Ints w u l) : Calls Tryd.prog 13 #[v, u] w fun e w' => e = .returned (.bool true) ∧ Below w.heap.size w w' := by
  have h := ints_any v u l l w hv hu
  rwa [decide_eq_true rfl] at h
theorem frame_same (v u : Value) (W H : Int) (a : List Int) (w : World) (hv : FrameV w v W H a) (hu : FrameV w u W H a) : Calls Tryd.prog 16 #[v, u] w fun e w' => e = .returned (.bool true) ∧ Below w.heap.size w w' := by
  have h := rframe_any v u W H a W H a w hv hu
  rwa [show (decide (W = W) && (decide (H = H) && decide (a = a))) = true from by simp] at h

set_option maxRecDepth 100000 in
set_option maxHeartbeats 8000000 in
theorem costs_w0 (av bv : Value) (a b : List Int) (vx vy : Int) (w : World) (hv : Ints w av a) (hu : Ints w bv b) (hg : TypeIs w) (h0 : 5000 < a.length) :
    Calls Tryd.prog 4 #[av, bv, .agg #[.int .i64 vx, .int .i64 vy]] w fun e w' => e = .returned (.bool true) ∧ Below w.heap.size w w' := by
  have HG := Lib.hid hg
  have HV := Lib.hid hv
  have HU := Lib.hid hu
  obtain ⟨ao0, cap0, rfl⟩ := hv.shape
  obtain ⟨ao1, cap1, rfl⟩ := hu.shape
  have BV0 := Lib.hid (Blk.new w #[.int .i64 vx, .int .i64 vy] 26)
  clear hg hv hu
  go_enter Tryd.func4, Tryd.ntmps4
  have g0 : Below w.heap.size w w := Below.refl _ _
  go_wp2_with fail
  refine (first_any _ (HG.out.ext (by go_grown))).mono ?_
  rintro e w1 ⟨rfl, hb1⟩
  have j1 : Below w.heap.size w w1 := ext (by go_grown) hb1
  have g1 : Below w.heap.size w w1 := ext g0 j1
  have s1 := j1.size
  have t1 := g1.size
  go_wp2_with fail
  refine (first_any _ ((HG.out.ext j1).ext (by go_grown))).mono ?_
  rintro e w2 ⟨rfl, hb2⟩
  have j2 : Below w1.heap.size w1 w2 := ext (by go_grown) hb2
  have g2 : Below w.heap.size w w2 := ext g1 j2
  have s2 := j2.size
  have t2 := g2.size
  go_wp2
  all_goals go_returns
  all_goals exact ⟨by first | rfl | (simp; done) | (simp; omega), g2⟩

set_option maxRecDepth 100000 in
set_option maxHeartbeats 8000000 in
theorem costs_w1 (av bv : Value) (a b : List Int) (vx vy : Int) (w : World) (hv : Ints w av a) (hu : Ints w bv b) (hg : TypeIs w) (h0 : a.length ≤ 5000) (h1 : 5000 < b.length) :
    Calls Tryd.prog 4 #[av, bv, .agg #[.int .i64 vx, .int .i64 vy]] w fun e w' => e = .returned (.bool true) ∧ Below w.heap.size w w' := by
  have HG := Lib.hid hg
  have HV := Lib.hid hv
  have HU := Lib.hid hu
  obtain ⟨ao0, cap0, rfl⟩ := hv.shape
  obtain ⟨ao1, cap1, rfl⟩ := hu.shape
  have BV0 := Lib.hid (Blk.new w #[.int .i64 vx, .int .i64 vy] 26)
  clear hg hv hu
  go_enter Tryd.func4, Tryd.ntmps4
  have g0 : Below w.heap.size w w := Below.refl _ _
  go_wp2_with fail
  refine (first_any _ (HG.out.ext (by go_grown))).mono ?_
  rintro e w1 ⟨rfl, hb1⟩
  have j1 : Below w.heap.size w w1 := ext (by go_grown) hb1
  have g1 : Below w.heap.size w w1 := ext g0 j1
  have s1 := j1.size
  have t1 := g1.size
  go_wp2_with fail
  refine (first_any _ ((HG.out.ext j1).ext (by go_grown))).mono ?_
  rintro e w2 ⟨rfl, hb2⟩
  have j2 : Below w1.heap.size w1 w2 := ext (by go_grown) hb2
  have g2 : Below w.heap.size w w2 := ext g1 j2
  have s2 := j2.size
  have t2 := g2.size
  go_wp2
  all_goals go_returns
  all_goals exact ⟨by first | rfl | (simp; done) | (simp; omega), g2⟩

set_option maxRecDepth 100000 in
set_option maxHeartbeats 8000000 in
theorem costs_ok (av bv : Value) (a b : List Int) (vx vy : Int) (w : World) (hv : Ints w av a) (hu : Ints w bv b) (hg : TypeIs w) (h0 : a.length ≤ 5000) (h1 : b.length ≤ 5000) :
    Calls Tryd.prog 4 #[av, bv, .agg #[.int .i64 vx, .int .i64 vy]] w fun e w' => e = .returned (.bool true) ∧ Below w.heap.size w w' := by
  have HG := Lib.hid hg
  have C1 := Lib.hid (fun w h1 h2 => pcost_any av bv a b vx vy w h1 h2 h0)
  have C2 := Lib.hid (fun w h1 h2 => rcost_any av bv a b vx vy w h1 h2 h0)
  have C3 := Lib.hid (fun w h => same_any (costE a b vx vy) w h)
  generalize costE a b vx vy = k at *
  generalize okI k (costV a b vx vy) = z at *
  have HV := Lib.hid hv
  have HU := Lib.hid hu
  obtain ⟨ao0, cap0, rfl⟩ := hv.shape
  obtain ⟨ao1, cap1, rfl⟩ := hu.shape
  have BV0 := Lib.hid (Blk.new w #[.int .i64 vx, .int .i64 vy] 26)
  clear hg hv hu
  go_enter Tryd.func4, Tryd.ntmps4
  have g0 : Below w.heap.size w w := Below.refl _ _
  go_wp2_with fail
  refine (first_any _ (HG.out.ext (by go_grown))).mono ?_
  rintro e w1 ⟨rfl, hb1⟩
  have j1 : Below w.heap.size w w1 := ext (by go_grown) hb1
  have g1 : Below w.heap.size w w1 := ext g0 j1
  have s1 := j1.size
  have t1 := g1.size
  have BX := Lib.hid (BV0.out.ext hb1)
  obtain ⟨BX0, BX1, BX2, BX3⟩ := BX.out.two
  go_wp2_with fail
  clear BX0 BX1 BX2 BX3
  refine (C1.out _ ((HV.out.ext j1).ext (by go_grown)) ((HU.out.ext j1).ext (by go_grown))).mono ?_
  rintro e w2 ⟨rfl, hb2⟩
  have j2 : Below w1.heap.size w1 w2 := ext (by go_grown) hb2
  have g2 : Below w.heap.size w w2 := ext g1 j2
  have s2 := j2.size
  have t2 := g2.size
  obtain ⟨BX0, BX1, BX2, BX3⟩ := (BX.out.ext j2).two
  go_wp2_with fail
  clear BX0 BX1 BX2 BX3
  refine (C2.out _ (((HV.out.ext j1).ext j2).ext (by go_grown)) (((HU.out.ext j1).ext j2).ext (by go_grown))).mono ?_
  rintro e w3 ⟨rfl, hb3⟩
  have j3 : Below w2.heap.size w2 w3 := ext (by go_grown) hb3
  have g3 : Below w.heap.size w w3 := ext g2 j3
  have s3 := j3.size
  have t3 := g3.size
  go_wp2_with fail
  refine (first_any _ ((((HG.out.ext j1).ext j2).ext j3).ext (by go_grown))).mono ?_
  rintro e w4 ⟨rfl, hb4⟩
  have j4 : Below w3.heap.size w3 w4 := ext (by go_grown) hb4
  have g4 : Below w.heap.size w w4 := ext g3 j4
  have s4 := j4.size
  have t4 := g4.size
  have EB := Lib.hid ((Blk.new w3 #[.int .i64 (k), .slice none 0 0] 41).ext hb4)
  obtain ⟨EB0, EB1, EB2, EB3⟩ := EB.out.two
  go_wp2_with fail
  clear EB0 EB1 EB2 EB3
  refine (C3.out _ (((((HG.out.ext j1).ext j2).ext j3).ext j4).ext (by go_grown))).mono ?_
  rintro e w5 ⟨rfl, hb5⟩
  have j5 : Below w4.heap.size w4 w5 := ext (by go_grown) hb5
  have g5 : Below w.heap.size w w5 := ext g4 j5
  have s5 := j5.size
  have t5 := g5.size
  go_wp2
  all_goals go_returns
  all_goals exact ⟨by first | rfl | (simp; done) | (simp; omega), g5⟩

theorem costs_walk (av bv : Value) (a b : List Int) (vx vy : Int) (w : World) (hv : Ints w av a) (hu : Ints w bv b) (hg : TypeIs w) :
    Calls Tryd.prog 4 #[av, bv, .agg #[.int .i64 vx, .int .i64 vy]] w fun e w' => e = .returned (.bool true) ∧ Below w.heap.size w w' := by
  by_cases h0 : a.length ≤ 5000
  · by_cases h1 : b.length ≤ 5000
    · exact costs_ok av bv a b vx vy w hv hu hg h0 h1
    · exact costs_w1 av bv a b vx vy w hv hu hg h0 (by omega)
  · exact costs_w0 av bv a b vx vy w hv hu hg (by omega)
end Go.Proofs.YtjmkcbagedflkaaDoor
