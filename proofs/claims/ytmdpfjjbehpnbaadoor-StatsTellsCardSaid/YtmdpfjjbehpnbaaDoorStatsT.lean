/- kinlaw17.StatsTells: the walk. -/
import Derived.Test.YtmdpfjjbehpnbaaDoorStatsR
import Derived.Test.YtmdpfjjbehpnbaaDoorStatsL
set_option linter.unusedSimpArgs false
set_option linter.unusedVariables false
namespace Go.Proofs.YtmdpfjjbehpnbaaDoor
open Go.RowKit Go.Extern.Stop Go.Stop Go.Extern
theorem crin (v : Value) (W H : Int) (a : List Int) (w : World) (hv : FrameV w v W H a) :
    Calls Tryd.prog 11 #[v] w fun e w' => e = .returned (.tuple #[.int .i64 (innV ⟨W, H, a⟩), .agg #[.int .i64 (innE ⟨W, H, a⟩), .slice none 0 0]]) ∧ Below w.heap.size w w' := rinner_any v ⟨W, H, a⟩ w hv
theorem crou (v u : Value) (W H : Int) (a : List Int) (W2 H2 : Int) (b : List Int) (w : World) (hv : FrameV w v W H a) (hu : FrameV w u W2 H2 b) :
    Calls Tryd.prog 13 #[v, u] w fun e w' => e = .returned (.tuple #[.int .i64 (outV ⟨W, H, a⟩ ⟨W2, H2, b⟩), .agg #[.int .i64 (unlE ⟨W, H, a⟩ ⟨W2, H2, b⟩), .slice none 0 0]]) ∧ Below w.heap.size w w' := router_any v u ⟨W, H, a⟩ ⟨W2, H2, b⟩ w hv hu

set_option maxRecDepth 100000 in
set_option maxHeartbeats 16000000 in
theorem tells_no (v u : Value) (W H : Int) (a : List Int) (W2 H2 : Int) (b : List Int) (w : World) (hv : FrameV w v W H a) (hu : FrameV w u W2 H2 b) (hg : TypeIs w) (hp : pixB [(⟨W, H, a⟩ : Fr), (⟨W2, H2, b⟩ : Fr)] = false) :
    Calls Tryd.prog 3 #[v, u] w fun e w' => e = .returned (.bool true) ∧ Below w.heap.size w w' := by
  have HG := Lib.hid hg
  have cp := fun x w h => pix_any x [(⟨W, H, a⟩ : Fr), (⟨W2, H2, b⟩ : Fr)] w h
  rw [hp] at cp
  have C1 := Lib.hid cp
  clear cp hp
  have HV := Lib.hid hv
  have HU := Lib.hid hu
  obtain ⟨ao, cap, rfl, -⟩ := hv.cells
  obtain ⟨bo, bcap, rfl, -⟩ := hu.cells
  have BA0 := Lib.hid ((Blk.new w #[.int .i64 W, .int .i64 H, .slice ao a.length cap] 24).alloc (.cells #[.int .i64 W2, .int .i64 H2, .slice bo b.length bcap] 24))
  have BB0 := Lib.hid (Blk.new (w.alloc (.cells #[.int .i64 W, .int .i64 H, .slice ao a.length cap] 24)) #[.int .i64 W2, .int .i64 H2, .slice bo b.length bcap] 24)
  simp only [World.size_alloc] at BB0
  clear hv hu hg
  go_enter Tryd.func3, Tryd.ntmps3
  have g0 : Below w.heap.size w w := Below.refl _ _
  go_wp2_with fail
  refine (first_any _ (HG.out.ext (by go_grown))).mono ?_
  rintro e w1 ⟨rfl, hb1⟩
  have j1 : Below w.heap.size w w1 := ext (by go_grown) hb1
  have g1 : Below w.heap.size w w1 := ext g0 j1
  have s1 := j1.size
  have t1 := g1.size
  have BA := Lib.hid (BA0.out.ext hb1)
  have BB := Lib.hid (BB0.out.ext hb1)
  have jL : Below w1.heap.size w1 (w1.alloc (.cells #[.int .i64 W, .int .i64 H, .slice ao a.length cap, .int .i64 W2, .int .i64 H2, .slice bo b.length bcap] 24)) := by go_grown
  have FL := Lib.hid (show Frames (w1.alloc (.cells #[.int .i64 W, .int .i64 H, .slice ao a.length cap, .int .i64 W2, .int .i64 H2, .slice bo b.length bcap] 24)) (.slice (some ⟨w1.heap.size, 0, none⟩) 2 2) [(⟨W, H, a⟩ : Fr), (⟨W2, H2, b⟩ : Fr)] from frames_two (Blk.new w1 #[.int .i64 W, .int .i64 H, .slice ao a.length cap, .int .i64 W2, .int .i64 H2, .slice bo b.length bcap] 24) ((HV.out.ext j1).ext jL) ((HU.out.ext j1).ext jL))
  obtain ⟨BA0, BA1, BA2, BA3, BA4, BA5⟩ := (BA.out).three
  have BAl := (BA.out).lt
  obtain ⟨BB0, BB1, BB2, BB3, BB4, BB5⟩ := (BB.out).three
  have BBl := (BB.out).lt
  go_wp2_with fail
  clear BA0 BA1 BA2 BA3 BA4 BA5 BAl
  clear BB0 BB1 BB2 BB3 BB4 BB5 BBl
  refine (C1.out _ _ FL.out).mono ?_
  rintro e w2 ⟨rfl, hb2⟩
  have j2 : Below w1.heap.size w1 w2 := ext (by go_grown) hb2
  have g2 : Below w.heap.size w w2 := ext g1 j2
  have s2 := j2.size
  have t2 := g2.size
  go_wp2_with fail
  refine (first_any _ (((HG.out.ext j1).ext j2).ext (by go_grown))).mono ?_
  rintro e w3 ⟨rfl, hb3⟩
  have j3 : Below w2.heap.size w2 w3 := ext (by go_grown) hb3
  have g3 : Below w.heap.size w w3 := ext g2 j3
  have s3 := j3.size
  have t3 := g3.size
  go_wp2
  all_goals go_returns
  all_goals exact ⟨by first | rfl | (simp; done) | (simp; omega), g3⟩

set_option maxRecDepth 100000 in
set_option maxHeartbeats 16000000 in
theorem tells_yes (v u : Value) (W H : Int) (a : List Int) (W2 H2 : Int) (b : List Int) (w : World) (hv : FrameV w v W H a) (hu : FrameV w u W2 H2 b) (hg : TypeIs w) (hp : pixB [(⟨W, H, a⟩ : Fr), (⟨W2, H2, b⟩ : Fr)] = true) :
    Calls Tryd.prog 3 #[v, u] w fun e w' => e = .returned (.bool true) ∧ Below w.heap.size w w' := by
  have HG := Lib.hid hg
  have cp := fun x w h => pix_any x [(⟨W, H, a⟩ : Fr), (⟨W2, H2, b⟩ : Fr)] w h
  rw [hp] at cp
  have C1 := Lib.hid cp
  clear cp hp
  have C2 := Lib.hid (fun v w h => cinn v W H a w h)
  have C3 := Lib.hid (fun v w h => crin v W H a w h)
  have C4 := Lib.hid (fun v u w h1 h2 => cout v u W H a W2 H2 b w h1 h2)
  have C5 := Lib.hid (fun v u w h1 h2 => crou v u W H a W2 H2 b w h1 h2)
  have C6 := Lib.hid (fun w h => same_any (innE (⟨W, H, a⟩ : Fr)) w h)
  have C7 := Lib.hid (fun w h => same_any (unlE (⟨W, H, a⟩ : Fr) (⟨W2, H2, b⟩ : Fr)) w h)
  generalize innE (⟨W, H, a⟩ : Fr) = k at *
  generalize innV (⟨W, H, a⟩ : Fr) = n at *
  generalize unlE (⟨W, H, a⟩ : Fr) (⟨W2, H2, b⟩ : Fr) = l at *
  generalize outV (⟨W, H, a⟩ : Fr) (⟨W2, H2, b⟩ : Fr) = m at *
  have HV := Lib.hid hv
  have HU := Lib.hid hu
  obtain ⟨ao, cap, rfl, -⟩ := hv.cells
  obtain ⟨bo, bcap, rfl, -⟩ := hu.cells
  have BA0 := Lib.hid ((Blk.new w #[.int .i64 W, .int .i64 H, .slice ao a.length cap] 24).alloc (.cells #[.int .i64 W2, .int .i64 H2, .slice bo b.length bcap] 24))
  have BB0 := Lib.hid (Blk.new (w.alloc (.cells #[.int .i64 W, .int .i64 H, .slice ao a.length cap] 24)) #[.int .i64 W2, .int .i64 H2, .slice bo b.length bcap] 24)
  simp only [World.size_alloc] at BB0
  clear hv hu hg
  go_enter Tryd.func3, Tryd.ntmps3
  have g0 : Below w.heap.size w w := Below.refl _ _
  go_wp2_with fail
  refine (first_any _ (HG.out.ext (by go_grown))).mono ?_
  rintro e w1 ⟨rfl, hb1⟩
  have j1 : Below w.heap.size w w1 := ext (by go_grown) hb1
  have g1 : Below w.heap.size w w1 := ext g0 j1
  have s1 := j1.size
  have t1 := g1.size
  have BA := Lib.hid (BA0.out.ext hb1)
  have BB := Lib.hid (BB0.out.ext hb1)
  have jL : Below w1.heap.size w1 (w1.alloc (.cells #[.int .i64 W, .int .i64 H, .slice ao a.length cap, .int .i64 W2, .int .i64 H2, .slice bo b.length bcap] 24)) := by go_grown
  have FL := Lib.hid (show Frames (w1.alloc (.cells #[.int .i64 W, .int .i64 H, .slice ao a.length cap, .int .i64 W2, .int .i64 H2, .slice bo b.length bcap] 24)) (.slice (some ⟨w1.heap.size, 0, none⟩) 2 2) [(⟨W, H, a⟩ : Fr), (⟨W2, H2, b⟩ : Fr)] from frames_two (Blk.new w1 #[.int .i64 W, .int .i64 H, .slice ao a.length cap, .int .i64 W2, .int .i64 H2, .slice bo b.length bcap] 24) ((HV.out.ext j1).ext jL) ((HU.out.ext j1).ext jL))
  obtain ⟨BA0, BA1, BA2, BA3, BA4, BA5⟩ := (BA.out).three
  have BAl := (BA.out).lt
  obtain ⟨BB0, BB1, BB2, BB3, BB4, BB5⟩ := (BB.out).three
  have BBl := (BB.out).lt
  go_wp2_with fail
  clear BA0 BA1 BA2 BA3 BA4 BA5 BAl
  clear BB0 BB1 BB2 BB3 BB4 BB5 BBl
  refine (C1.out _ _ FL.out).mono ?_
  rintro e w2 ⟨rfl, hb2⟩
  have j2 : Below w1.heap.size w1 w2 := ext (by go_grown) hb2
  have g2 : Below w.heap.size w w2 := ext g1 j2
  have s2 := j2.size
  have t2 := g2.size
  obtain ⟨BA0, BA1, BA2, BA3, BA4, BA5⟩ := ((BA.out.ext j2)).three
  have BAl := ((BA.out.ext j2)).lt
  go_wp2_with fail
  clear BA0 BA1 BA2 BA3 BA4 BA5 BAl
  refine (C2.out _ _ (((HV.out.ext j1).ext j2).ext (by go_grown))).mono ?_
  rintro e w3 ⟨rfl, hb3⟩
  have j3 : Below w2.heap.size w2 w3 := ext (by go_grown) hb3
  have g3 : Below w.heap.size w w3 := ext g2 j3
  have s3 := j3.size
  have t3 := g3.size
  obtain ⟨BA0, BA1, BA2, BA3, BA4, BA5⟩ := (((BA.out.ext j2).ext j3)).three
  have BAl := (((BA.out.ext j2).ext j3)).lt
  go_wp2_with fail
  clear BA0 BA1 BA2 BA3 BA4 BA5 BAl
  refine (C3.out _ _ ((((HV.out.ext j1).ext j2).ext j3).ext (by go_grown))).mono ?_
  rintro e w4 ⟨rfl, hb4⟩
  have j4 : Below w3.heap.size w3 w4 := ext (by go_grown) hb4
  have g4 : Below w.heap.size w w4 := ext g3 j4
  have s4 := j4.size
  have t4 := g4.size
  have BA4 := Lib.hid (((((BA.out.ext j2).ext j3).ext j4)).alloc (.cells #[.int .i64 k, .slice none 0 0] 35))
  have BB4 := Lib.hid (((((BB.out.ext j2).ext j3).ext j4)).alloc (.cells #[.int .i64 k, .slice none 0 0] 35))
  obtain ⟨f0, f1, f2, -, -, -⟩ := BA4.out.three
  obtain ⟨e0, e1, e2, -, -, -⟩ := BB4.out.three
  have lf := BA4.out.lt
  have le := BB4.out.lt
  go_wp2_with fail
  refine (C4.out _ _ _ (((((HV.out.ext j1).ext j2).ext j3).ext j4).ext (by go_grown)) (((((HU.out.ext j1).ext j2).ext j3).ext j4).ext (by go_grown))).mono ?_
  rintro e w5 ⟨rfl, hb5⟩
  have j5 : Below w4.heap.size w4 w5 := ext (by go_grown) hb5
  have g5 : Below w.heap.size w w5 := ext g4 j5
  have s5 := j5.size
  have t5 := g5.size
  clear f0 f1 f2 e0 e1 e2 lf le BA4 BB4
  have BK := Lib.hid ((Blk.new w4 #[.int .i64 k, .slice none 0 0] 35).ext hb5)
  obtain ⟨BA0, BA1, BA2, BA3, BA4, BA5⟩ := (((((BA.out.ext j2).ext j3).ext j4).ext j5)).three
  have BAl := (((((BA.out.ext j2).ext j3).ext j4).ext j5)).lt
  obtain ⟨BB0, BB1, BB2, BB3, BB4, BB5⟩ := (((((BB.out.ext j2).ext j3).ext j4).ext j5)).three
  have BBl := (((((BB.out.ext j2).ext j3).ext j4).ext j5)).lt
  go_wp2_with fail
  clear BA0 BA1 BA2 BA3 BA4 BA5 BAl
  clear BB0 BB1 BB2 BB3 BB4 BB5 BBl
  refine (C5.out _ _ _ ((((((HV.out.ext j1).ext j2).ext j3).ext j4).ext j5).ext (by go_grown)) ((((((HU.out.ext j1).ext j2).ext j3).ext j4).ext j5).ext (by go_grown))).mono ?_
  rintro e w6 ⟨rfl, hb6⟩
  have j6 : Below w5.heap.size w5 w6 := ext (by go_grown) hb6
  have g6 : Below w.heap.size w w6 := ext g5 j6
  have s6 := j6.size
  have t6 := g6.size
  go_wp2_with fail
  refine (first_any _ (((((((HG.out.ext j1).ext j2).ext j3).ext j4).ext j5).ext j6).ext (by go_grown))).mono ?_
  rintro e w7 ⟨rfl, hb7⟩
  have j7 : Below w6.heap.size w6 w7 := ext (by go_grown) hb7
  have g7 : Below w.heap.size w w7 := ext g6 j7
  have s7 := j7.size
  have t7 := g7.size
  have BL := Lib.hid ((Blk.new w6 #[.int .i64 l, .slice none 0 0] 35).ext hb7)
  obtain ⟨BK0, BK1, BK2, BK3⟩ := ((BK.out.ext j6).ext j7).two
  go_wp2_with fail
  clear BK0 BK1 BK2 BK3
  refine (C6.out _ ((((((((HG.out.ext j1).ext j2).ext j3).ext j4).ext j5).ext j6).ext j7).ext (by go_grown))).mono ?_
  rintro e w8 ⟨rfl, hb8⟩
  have j8 : Below w7.heap.size w7 w8 := ext (by go_grown) hb8
  have g8 : Below w.heap.size w w8 := ext g7 j8
  have s8 := j8.size
  have t8 := g8.size
  obtain ⟨BL0, BL1, BL2, BL3⟩ := (BL.out.ext j8).two
  go_wp2_with fail
  clear BL0 BL1 BL2 BL3
  refine (C7.out _ (((((((((HG.out.ext j1).ext j2).ext j3).ext j4).ext j5).ext j6).ext j7).ext j8).ext (by go_grown))).mono ?_
  rintro e w9 ⟨rfl, hb9⟩
  have j9 : Below w8.heap.size w8 w9 := ext (by go_grown) hb9
  have g9 : Below w.heap.size w w9 := ext g8 j9
  have s9 := j9.size
  have t9 := g9.size
  go_wp2
  all_goals go_returns
  all_goals exact ⟨by first | rfl | (simp; done) | (simp; omega), g9⟩

theorem tells_walk (v u : Value) (W H : Int) (a : List Int) (W2 H2 : Int) (b : List Int) (w : World) (hv : FrameV w v W H a) (hu : FrameV w u W2 H2 b) (hg : TypeIs w) :
    Calls Tryd.prog 3 #[v, u] w fun e w' => e = .returned (.bool true) ∧ Below w.heap.size w w' := by
  cases hp : pixB [(⟨W, H, a⟩ : Fr), (⟨W2, H2, b⟩ : Fr)] with
  | true => exact tells_yes v u W H a W2 H2 b w hv hu hg hp
  | false => exact tells_no v u W H a W2 H2 b w hv hu hg hp
end Go.Proofs.YtmdpfjjbehpnbaaDoor
