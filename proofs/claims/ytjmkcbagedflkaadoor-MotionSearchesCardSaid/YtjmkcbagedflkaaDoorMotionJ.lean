/- kinlaw11.MotionSearches: the walk. -/
import Derived.Test.YtjmkcbagedflkaaDoorMotionK
import Derived.Test.YtjmkcbagedflkaaDoorMotionV
import Derived.Test.YtjmkcbagedflkaaDoorLists
set_option linter.unusedSimpArgs false
set_option linter.unusedVariables false
namespace Go.Proofs.YtjmkcbagedflkaaDoor
open Go.RowKit Go.Extern.Stop Go.Stop Go.Extern

set_option maxRecDepth 100000 in
set_option maxHeartbeats 8000000 in
theorem searches_w0 (v bv : Value) (W H : Int) (a b : List Int) (x y r : Int) (w : World) (hv : FrameV w v W H a) (hu : Ints w bv b) (hg : TypeIs w) (h0 : 5000 < a.length) :
    Calls Tryd.prog 5 #[v, bv, .int .i64 x, .int .i64 y, .int .i64 r] w fun e w' => e = .returned (.bool true) ∧ Below w.heap.size w w' := by
  have HG := Lib.hid hg
  have HV := Lib.hid hv
  have HU := Lib.hid hu
  obtain ⟨ao, cap, rfl, hp⟩ := hv.cells
  obtain ⟨ao1, cap1, rfl⟩ := hu.shape
  have BA := Lib.hid (Blk.new w #[.int .i64 W, .int .i64 H, .slice ao a.length cap] 24)
  clear hg hv hu hp
  go_enter Tryd.func5, Tryd.ntmps5
  have g0 : Below w.heap.size w w := Below.refl _ _
  go_wp2_with fail
  refine (first_any _ (HG.out.ext (by go_grown))).mono ?_
  rintro e w1 ⟨rfl, hb1⟩
  have j1 : Below w.heap.size w w1 := ext (by go_grown) hb1
  have g1 : Below w.heap.size w w1 := ext g0 j1
  have s1 := j1.size
  have t1 := g1.size
  have BA0 := Lib.hid (BA.out.ext hb1)
  obtain ⟨BA00, BA01, BA02, BA03, BA04, BA05⟩ := (BA0.out).three
  have BA0l := (BA0.out).lt
  go_wp2_with fail
  clear BA00 BA01 BA02 BA03 BA04 BA05 BA0l
  refine (first_any _ ((HG.out.ext j1).ext (by go_grown))).mono ?_
  rintro e w2 ⟨rfl, hb2⟩
  have j2 : Below w1.heap.size w1 w2 := ext (by go_grown) hb2
  have g2 : Below w.heap.size w w2 := ext g1 j2
  have s2 := j2.size
  have t2 := g2.size
  go_wp2
  all_goals go_returns
  all_goals exact ⟨by first | rfl | (simp; done) | (simp; omega), g2⟩

set_option maxRecDepth 100000 in
set_option maxHeartbeats 8000000 in
theorem searches_w1 (v bv : Value) (W H : Int) (a b : List Int) (x y r : Int) (w : World) (hv : FrameV w v W H a) (hu : Ints w bv b) (hg : TypeIs w) (h0 : a.length ≤ 5000) (h1 : 5000 < b.length) :
    Calls Tryd.prog 5 #[v, bv, .int .i64 x, .int .i64 y, .int .i64 r] w fun e w' => e = .returned (.bool true) ∧ Below w.heap.size w w' := by
  have HG := Lib.hid hg
  have HV := Lib.hid hv
  have HU := Lib.hid hu
  obtain ⟨ao, cap, rfl, hp⟩ := hv.cells
  obtain ⟨ao1, cap1, rfl⟩ := hu.shape
  have BA := Lib.hid (Blk.new w #[.int .i64 W, .int .i64 H, .slice ao a.length cap] 24)
  clear hg hv hu hp
  go_enter Tryd.func5, Tryd.ntmps5
  have g0 : Below w.heap.size w w := Below.refl _ _
  go_wp2_with fail
  refine (first_any _ (HG.out.ext (by go_grown))).mono ?_
  rintro e w1 ⟨rfl, hb1⟩
  have j1 : Below w.heap.size w w1 := ext (by go_grown) hb1
  have g1 : Below w.heap.size w w1 := ext g0 j1
  have s1 := j1.size
  have t1 := g1.size
  have BA0 := Lib.hid (BA.out.ext hb1)
  obtain ⟨BA00, BA01, BA02, BA03, BA04, BA05⟩ := (BA0.out).three
  have BA0l := (BA0.out).lt
  go_wp2_with fail
  clear BA00 BA01 BA02 BA03 BA04 BA05 BA0l
  refine (first_any _ ((HG.out.ext j1).ext (by go_grown))).mono ?_
  rintro e w2 ⟨rfl, hb2⟩
  have j2 : Below w1.heap.size w1 w2 := ext (by go_grown) hb2
  have g2 : Below w.heap.size w w2 := ext g1 j2
  have s2 := j2.size
  have t2 := g2.size
  go_wp2
  all_goals go_returns
  all_goals exact ⟨by first | rfl | (simp; done) | (simp; omega), g2⟩

set_option maxRecDepth 100000 in
set_option maxHeartbeats 8000000 in
theorem searches_ok (v bv : Value) (W H : Int) (a b : List Int) (x y r : Int) (w : World) (hv : FrameV w v W H a) (hu : Ints w bv b) (hg : TypeIs w) (h0 : a.length ≤ 5000) (h1 : b.length ≤ 5000) :
    Calls Tryd.prog 5 #[v, bv, .int .i64 x, .int .i64 y, .int .i64 r] w fun e w' => e = .returned (.bool true) ∧ Below w.heap.size w w' := by
  have HG := Lib.hid hg
  have C1 := Lib.hid (fun w hv => copyframe_any v W H a w hv (by omega))
  have C2 := Lib.hid (fun w hv => copy_any bv b w hv (by omega))
  have C3 := Lib.hid (fun fv bv w h1 h2 => psearch_any fv bv W H a b x y r w h1 h2)
  have C4 := Lib.hid (fun fv bv w h1 h2 => rsearch_any fv bv W H a b x y r w h1 h2)
  have C5 := Lib.hid (fun w h => same_any (srchE W H a b x y r) w h)
  have C6 := Lib.hid (fun v u w h1 h2 => frame_same v u W H a w h1 h2)
  have C7 := Lib.hid (fun v u w h1 h2 => ints_same v u b w h1 h2)
  obtain ⟨-, -, i1, i2, -⟩ := id hv
  have HI := Lib.hid (And.intro i1 i2)
  clear i1 i2
  generalize srchE W H a b x y r = k at *
  generalize (srchR W H a b x y r).1 = p at *
  generalize (srchR W H a b x y r).2 = q at *
  have HV := Lib.hid hv
  have HU := Lib.hid hu
  obtain ⟨ao, cap, rfl, hp⟩ := hv.cells
  obtain ⟨ao1, cap1, rfl⟩ := hu.shape
  have BA := Lib.hid (Blk.new w #[.int .i64 W, .int .i64 H, .slice ao a.length cap] 24)
  clear hg hv hu hp
  go_enter Tryd.func5, Tryd.ntmps5
  have g0 : Below w.heap.size w w := Below.refl _ _
  go_wp2_with fail
  refine (first_any _ (HG.out.ext (by go_grown))).mono ?_
  rintro e w1 ⟨rfl, hb1⟩
  have j1 : Below w.heap.size w w1 := ext (by go_grown) hb1
  have g1 : Below w.heap.size w w1 := ext g0 j1
  have s1 := j1.size
  have t1 := g1.size
  have BA0 := Lib.hid (BA.out.ext hb1)
  obtain ⟨BA00, BA01, BA02, BA03, BA04, BA05⟩ := (BA0.out).three
  have BA0l := (BA0.out).lt
  go_wp2_with fail
  clear BA00 BA01 BA02 BA03 BA04 BA05 BA0l
  refine (C1.out _ ((HV.out.ext j1).ext (by go_grown))).mono ?_
  rintro e w2 ⟨x1, rfl, hx1, hb2⟩
  have j2 : Below w1.heap.size w1 w2 := ext (by go_grown) hb2
  have g2 : Below w.heap.size w w2 := ext g1 j2
  have s2 := j2.size
  have t2 := g2.size
  obtain ⟨xo, xc, rfl⟩ := hx1.shape
  have HX := Lib.hid (show FrameV w2 (.agg #[.int .i64 W, .int .i64 H, .slice xo a.length xc]) W H a from ⟨_, rfl, HI.out.1, HI.out.2, hx1.ints⟩)
  clear hx1
  go_wp2_with fail
  refine (C2.out _ (((HU.out.ext j1).ext j2).ext (by go_grown))).mono ?_
  rintro e w3 ⟨x2, rfl, hx2, hb3⟩
  have j3 : Below w2.heap.size w2 w3 := ext (by go_grown) hb3
  have g3 : Below w.heap.size w w3 := ext g2 j3
  have s3 := j3.size
  have t3 := g3.size
  obtain ⟨yo, yc, rfl⟩ := hx2.shape
  have HY := Lib.hid (hx2.ints)
  clear hx2
  have BX := Lib.hid (Blk.new w3 #[.int .i64 W, .int .i64 H, .slice xo a.length xc] 24)
  obtain ⟨c0, c1, c2, -, -, -⟩ := BX.out.three
  go_wp2_with fail
  refine (C3.out _ _ _ ((HX.out.ext j3).ext (by go_grown)) (HY.out.ext (by go_grown))).mono ?_
  rintro e w4 ⟨rfl, hb4⟩
  have j4 : Below w3.heap.size w3 w4 := ext (by go_grown) hb4
  have g4 : Below w.heap.size w w4 := ext g3 j4
  have s4 := j4.size
  have t4 := g4.size
  clear c0 c1 c2
  have BX0 := Lib.hid (BX.out.ext hb4)
  have BF := Lib.hid (((((BA0.out.ext j2).ext j3).ext j4)).alloc (.cells #[.int .i64 p, .int .i64 q] 26))
  obtain ⟨c0, c1, c2, -, -, -⟩ := BF.out.three
  go_wp2_with fail
  refine (C4.out _ _ _ (((((HV.out.ext j1).ext j2).ext j3).ext j4).ext (by go_grown)) (((((HU.out.ext j1).ext j2).ext j3).ext j4).ext (by go_grown))).mono ?_
  rintro e w5 ⟨rfl, hb5⟩
  have j5 : Below w4.heap.size w4 w5 := ext (by go_grown) hb5
  have g5 : Below w.heap.size w w5 := ext g4 j5
  have s5 := j5.size
  have t5 := g5.size
  clear c0 c1 c2 BF
  have BP := Lib.hid ((Blk.new w4 #[.int .i64 p, .int .i64 q] 26).ext hb5)
  have BQ0 := Lib.hid ((Blk.new w5 #[.int .i64 p, .int .i64 q] 26).alloc (.cells #[.int .i64 k, .slice none 0 0] 41))
  have BE0 := Lib.hid (Blk.new (w5.alloc (.cells #[.int .i64 p, .int .i64 q] 26)) #[.int .i64 k, .slice none 0 0] 41)
  simp only [World.size_alloc] at BE0
  go_wp2_with fail
  refine (first_any _ ((((((HG.out.ext j1).ext j2).ext j3).ext j4).ext j5).ext (by go_grown))).mono ?_
  rintro e w6 ⟨rfl, hb6⟩
  have j6 : Below w5.heap.size w5 w6 := ext (by go_grown) hb6
  have g6 : Below w.heap.size w w6 := ext g5 j6
  have s6 := j6.size
  have t6 := g6.size
  have BQ := Lib.hid (BQ0.out.ext hb6)
  have BE := Lib.hid (BE0.out.ext hb6)
  obtain ⟨BP0, BP1, BP2, BP3⟩ := (BP.out.ext j6).two
  obtain ⟨BQ0, BQ1, BQ2, BQ3⟩ := BQ.out.two
  obtain ⟨BE0, BE1, BE2, BE3⟩ := BE.out.two
  go_wp2_with fail
  clear BP0 BP1 BP2 BP3
  clear BQ0 BQ1 BQ2 BQ3
  clear BE0 BE1 BE2 BE3
  refine (C5.out _ (((((((HG.out.ext j1).ext j2).ext j3).ext j4).ext j5).ext j6).ext (by go_grown))).mono ?_
  rintro e w7 ⟨rfl, hb7⟩
  have j7 : Below w6.heap.size w6 w7 := ext (by go_grown) hb7
  have g7 : Below w.heap.size w w7 := ext g6 j7
  have s7 := j7.size
  have t7 := g7.size
  obtain ⟨BX00, BX01, BX02, BX03, BX04, BX05⟩ := ((((BX0.out.ext j5).ext j6).ext j7)).three
  have BX0l := ((((BX0.out.ext j5).ext j6).ext j7)).lt
  obtain ⟨BA00, BA01, BA02, BA03, BA04, BA05⟩ := (((((((BA0.out.ext j2).ext j3).ext j4).ext j5).ext j6).ext j7)).three
  have BA0l := (((((((BA0.out.ext j2).ext j3).ext j4).ext j5).ext j6).ext j7)).lt
  go_wp2_with fail
  clear BX00 BX01 BX02 BX03 BX04 BX05 BX0l
  clear BA00 BA01 BA02 BA03 BA04 BA05 BA0l
  refine (C6.out _ _ _ ((((((HX.out.ext j3).ext j4).ext j5).ext j6).ext j7).ext (by go_grown)) ((((((((HV.out.ext j1).ext j2).ext j3).ext j4).ext j5).ext j6).ext j7).ext (by go_grown))).mono ?_
  rintro e w8 ⟨rfl, hb8⟩
  have j8 : Below w7.heap.size w7 w8 := ext (by go_grown) hb8
  have g8 : Below w.heap.size w w8 := ext g7 j8
  have s8 := j8.size
  have t8 := g8.size
  go_wp2_with fail
  refine (C7.out _ _ _ ((((((HY.out.ext j4).ext j5).ext j6).ext j7).ext j8).ext (by go_grown)) (((((((((HU.out.ext j1).ext j2).ext j3).ext j4).ext j5).ext j6).ext j7).ext j8).ext (by go_grown))).mono ?_
  rintro e w9 ⟨rfl, hb9⟩
  have j9 : Below w8.heap.size w8 w9 := ext (by go_grown) hb9
  have g9 : Below w.heap.size w w9 := ext g8 j9
  have s9 := j9.size
  have t9 := g9.size
  go_wp2
  all_goals go_returns
  all_goals exact ⟨by first | rfl | (simp; done) | (simp; omega), g9⟩

theorem searches_walk (v bv : Value) (W H : Int) (a b : List Int) (x y r : Int) (w : World) (hv : FrameV w v W H a) (hu : Ints w bv b) (hg : TypeIs w) :
    Calls Tryd.prog 5 #[v, bv, .int .i64 x, .int .i64 y, .int .i64 r] w fun e w' => e = .returned (.bool true) ∧ Below w.heap.size w w' := by
  by_cases h0 : a.length ≤ 5000
  · by_cases h1 : b.length ≤ 5000
    · exact searches_ok v bv W H a b x y r w hv hu hg h0 h1
    · exact searches_w1 v bv W H a b x y r w hv hu hg h0 (by omega)
  · exact searches_w0 v bv W H a b x y r w hv hu hg (by omega)
end Go.Proofs.YtjmkcbagedflkaaDoor
