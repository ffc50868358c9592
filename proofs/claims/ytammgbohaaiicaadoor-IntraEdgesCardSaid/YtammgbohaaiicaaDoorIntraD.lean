/- kinlaw10.IntraEdges: the walk. -/
import Derived.Test.YtammgbohaaiicaaDoorIntraL
import Derived.Test.YtammgbohaaiicaaDoorIntraE
set_option linter.unusedSimpArgs false
set_option linter.unusedVariables false
namespace Go.Proofs.YtammgbohaaiicaaDoor
open Go.RowKit Go.Extern.Stop Go.Stop Go.Extern

set_option maxRecDepth 100000 in
set_option maxHeartbeats 8000000 in
theorem edges_w (v : Value) (W H : Int) (a : List Int) (x y n : Int) (w : World) (hv : FrameV w v W H a) (hg : TypeIs w) (h0 : 5000 < a.length) :
    Calls Tryd.prog 6 #[v, .int .i64 x, .int .i64 y, .int .i64 n] w fun e w' => e = .returned (.bool true) ∧ Below w.heap.size w w' := by
  have HG := Lib.hid hg
  have HV := Lib.hid hv
  obtain ⟨ao, cap, rfl, hp⟩ := hv.cells
  have hla := hp.len
  have BA0 := Lib.hid (Blk.new w #[.int .i64 W, .int .i64 H, .slice ao a.length cap] 42)
  clear hg hv hp
  go_enter Tryd.func6, Tryd.ntmps6
  have g0 : Below w.heap.size w w := Below.refl _ _
  go_wp2_with fail
  refine (first_any _ (HG.out.ext (by go_grown))).mono ?_
  rintro e w1 ⟨rfl, hb1⟩
  have j1 : Below w.heap.size w w1 := ext (by go_grown) hb1
  have g1 : Below w.heap.size w w1 := ext g0 j1
  have s1 := j1.size
  have t1 := g1.size
  have BA := Lib.hid (BA0.out.ext hb1)
  obtain ⟨BA0, BA1, BA2, BA3, BA4, BA5⟩ := (BA.out).three
  have BAl := (BA.out).lt
  go_wp2_with fail
  clear BA0 BA1 BA2 BA3 BA4 BA5 BAl
  refine (first_any _ ((HG.out.ext j1).ext (by go_grown))).mono ?_
  rintro e w2 ⟨rfl, hb2⟩
  have j2 : Below w1.heap.size w1 w2 := ext (by go_grown) hb2
  have g2 : Below w.heap.size w w2 := ext g1 j2
  have s2 := j2.size
  have t2 := g2.size
  go_wp2
  all_goals go_returns
  all_goals exact ⟨by first | rfl | (simp; done) | (simp; omega), g2⟩

set_option maxRecDepth 100000 in
set_option maxHeartbeats 8000000 in
theorem edges_ok (v : Value) (W H : Int) (a : List Int) (x y n : Int) (w : World) (hv : FrameV w v W H a) (hg : TypeIs w) (h0 : a.length ≤ 5000) :
    Calls Tryd.prog 6 #[v, .int .i64 x, .int .i64 y, .int .i64 n] w fun e w' => e = .returned (.bool true) ∧ Below w.heap.size w w' := by
  have HG := Lib.hid hg
  have C1 := Lib.hid (fun w hv => copyframe_any v W H a w hv (by omega))
  have C3 := Lib.hid (fun fv w h => pedges_any fv W H a x y n w h)
  have C4 := Lib.hid (fun w h => redges_any v W H a x y n w h)
  have C5 := Lib.hid (fun v u w h1 h2 => ints_same v u (edTop W H a x y n) w h1 h2)
  have C6 := Lib.hid (fun v u w h1 h2 => ints_same v u (edLeft W H a x y n) w h1 h2)
  have c7 := fun xv w h1 h2 => rframe_any xv v W H a W H a w h1 h2
  rw [show (decide (W = W) && (decide (H = H) && decide (a = a))) = true from by simp] at c7
  have C7 := Lib.hid c7
  obtain ⟨-, -, i1, i2, -⟩ := id hv
  have HI := Lib.hid (And.intro i1 i2)
  clear i1 i2
  have HV := Lib.hid hv
  obtain ⟨ao, cap, rfl, hp⟩ := hv.cells
  have hla := hp.len
  have BA0 := Lib.hid (Blk.new w #[.int .i64 W, .int .i64 H, .slice ao a.length cap] 42)
  clear hg hv hp c7
  generalize edTop W H a x y n = l1 at *
  generalize edLeft W H a x y n = l2 at *
  generalize edCor W H a x y n = cc at *
  go_enter Tryd.func6, Tryd.ntmps6
  have g0 : Below w.heap.size w w := Below.refl _ _
  go_wp2_with fail
  refine (first_any _ (HG.out.ext (by go_grown))).mono ?_
  rintro e w1 ⟨rfl, hb1⟩
  have j1 : Below w.heap.size w w1 := ext (by go_grown) hb1
  have g1 : Below w.heap.size w w1 := ext g0 j1
  have s1 := j1.size
  have t1 := g1.size
  have BA := Lib.hid (BA0.out.ext hb1)
  obtain ⟨BA0, BA1, BA2, BA3, BA4, BA5⟩ := (BA.out).three
  have BAl := (BA.out).lt
  go_wp2_with fail
  clear BA0 BA1 BA2 BA3 BA4 BA5 BAl
  refine (C1.out _ ((HV.out.ext j1).ext (by go_grown))).mono ?_
  rintro e w2 ⟨x1, rfl, hx1, hb2⟩
  have j2 : Below w1.heap.size w1 w2 := ext (by go_grown) hb2
  have g2 : Below w.heap.size w w2 := ext g1 j2
  have s2 := j2.size
  have t2 := g2.size
  obtain ⟨xo, xc, rfl⟩ := hx1.shape
  have HX : Hid (FrameV w2 (.agg #[.int .i64 W, .int .i64 H, .slice xo a.length xc]) W H a) := Lib.hid ⟨_, rfl, HI.out.1, HI.out.2, hx1.ints⟩
  clear hx1
  go_wp2_with fail
  refine (C3.out _ _ (HX.out.ext (by go_grown))).mono ?_
  rintro e w3 ⟨x2, x3, rfl, hx2, hx3, hb3⟩
  have j3 : Below w2.heap.size w2 w3 := ext (by go_grown) hb3
  have g3 : Below w.heap.size w w3 := ext g2 j3
  have s3 := j3.size
  have t3 := g3.size
  have BX := Lib.hid ((Blk.new w2 #[.int .i64 W, .int .i64 H, .slice xo a.length xc] 42).ext hb3)
  have HA := Lib.hid (hx2.ints)
  have HB := Lib.hid (hx3.ints)
  clear hx2 hx3
  obtain ⟨BA0, BA1, BA2, BA3, BA4, BA5⟩ := (((BA.out.ext j2).ext j3)).three
  have BAl := (((BA.out.ext j2).ext j3)).lt
  go_wp2_with fail
  clear BA0 BA1 BA2 BA3 BA4 BA5 BAl
  refine (C4.out _ ((((HV.out.ext j1).ext j2).ext j3).ext (by go_grown))).mono ?_
  rintro e w4 ⟨x4, x5, rfl, hx4, hx5, hb4⟩
  have j4 : Below w3.heap.size w3 w4 := ext (by go_grown) hb4
  have g4 : Below w.heap.size w w4 := ext g3 j4
  have s4 := j4.size
  have t4 := g4.size
  have HC := Lib.hid (hx4.ints)
  have HD := Lib.hid (hx5.ints)
  clear hx4 hx5
  go_wp2_with fail
  refine (first_any _ (((((HG.out.ext j1).ext j2).ext j3).ext j4).ext (by go_grown))).mono ?_
  rintro e w5 ⟨rfl, hb5⟩
  have j5 : Below w4.heap.size w4 w5 := ext (by go_grown) hb5
  have g5 : Below w.heap.size w w5 := ext g4 j5
  have s5 := j5.size
  have t5 := g5.size
  go_wp2_with fail
  refine (C5.out _ _ _ (((HA.out.ext j4).ext j5).ext (by go_grown)) ((HC.out.ext j5).ext (by go_grown))).mono ?_
  rintro e w6 ⟨rfl, hb6⟩
  have j6 : Below w5.heap.size w5 w6 := ext (by go_grown) hb6
  have g6 : Below w.heap.size w w6 := ext g5 j6
  have s6 := j6.size
  have t6 := g6.size
  go_wp2_with fail
  refine (C6.out _ _ _ ((((HB.out.ext j4).ext j5).ext j6).ext (by go_grown)) (((HD.out.ext j5).ext j6).ext (by go_grown))).mono ?_
  rintro e w7 ⟨rfl, hb7⟩
  have j7 : Below w6.heap.size w6 w7 := ext (by go_grown) hb7
  have g7 : Below w.heap.size w w7 := ext g6 j7
  have s7 := j7.size
  have t7 := g7.size
  obtain ⟨BX0, BX1, BX2, BX3, BX4, BX5⟩ := (((((BX.out.ext j4).ext j5).ext j6).ext j7)).three
  have BXl := (((((BX.out.ext j4).ext j5).ext j6).ext j7)).lt
  obtain ⟨BA0, BA1, BA2, BA3, BA4, BA5⟩ := (((((((BA.out.ext j2).ext j3).ext j4).ext j5).ext j6).ext j7)).three
  have BAl := (((((((BA.out.ext j2).ext j3).ext j4).ext j5).ext j6).ext j7)).lt
  go_wp2_with fail
  clear BX0 BX1 BX2 BX3 BX4 BX5 BXl
  clear BA0 BA1 BA2 BA3 BA4 BA5 BAl
  refine (C7.out _ _ ((((((HX.out.ext j3).ext j4).ext j5).ext j6).ext j7).ext (by go_grown)) ((((((((HV.out.ext j1).ext j2).ext j3).ext j4).ext j5).ext j6).ext j7).ext (by go_grown))).mono ?_
  rintro e w8 ⟨rfl, hb8⟩
  have j8 : Below w7.heap.size w7 w8 := ext (by go_grown) hb8
  have g8 : Below w.heap.size w w8 := ext g7 j8
  have s8 := j8.size
  have t8 := g8.size
  go_wp2
  all_goals go_returns
  all_goals exact ⟨by first | rfl | (simp; done) | (simp; omega), g8⟩

theorem edges_walk (v : Value) (W H : Int) (a : List Int) (x y n : Int) (w : World) (hv : FrameV w v W H a) (hg : TypeIs w) :
    Calls Tryd.prog 6 #[v, .int .i64 x, .int .i64 y, .int .i64 n] w fun e w' => e = .returned (.bool true) ∧ Below w.heap.size w w' := by
  by_cases h0 : a.length ≤ 5000
  · exact edges_ok v W H a x y n w hv hg h0
  · exact edges_w v W H a x y n w hv hg (by omega)
end Go.Proofs.YtammgbohaaiicaaDoor
