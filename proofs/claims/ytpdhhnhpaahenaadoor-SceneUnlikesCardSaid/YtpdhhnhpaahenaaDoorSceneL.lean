/- kinlaw16.SceneUnlikes, kinlaw16.SceneTurned: the walks. -/
import Derived.Test.YtpdhhnhpaahenaaDoorSceneF
set_option linter.unusedSimpArgs false
set_option linter.unusedVariables false
namespace Go.Proofs.YtpdhhnhpaahenaaDoor
open Go.RowKit Go.Extern.Stop Go.Stop Go.Extern
theorem cunl (v u : Value) (W H : Int) (a : List Int) (W2 H2 : Int) (b : List Int) (w : World) (hv : FrameV w v W H a) (hu : FrameV w u W2 H2 b) :
    Calls Tryd.prog 10 #[v, u] w fun e w' => e = .returned (.tuple #[.int .i64 (unlV ⟨W, H, a⟩ ⟨W2, H2, b⟩), errV (unlE ⟨W, H, a⟩ ⟨W2, H2, b⟩)]) ∧ Below w.heap.size w w' := punl_any v u ⟨W, H, a⟩ ⟨W2, H2, b⟩ w hv hu
theorem crnl (v u : Value) (W H : Int) (a : List Int) (W2 H2 : Int) (b : List Int) (w : World) (hv : FrameV w v W H a) (hu : FrameV w u W2 H2 b) :
    Calls Tryd.prog 11 #[v, u] w fun e w' => e = .returned (.tuple #[.int .i64 (unlV ⟨W, H, a⟩ ⟨W2, H2, b⟩), .agg #[.int .i64 (unlE ⟨W, H, a⟩ ⟨W2, H2, b⟩), .slice none 0 0]]) ∧ Below w.heap.size w w' := runl_any v u ⟨W, H, a⟩ ⟨W2, H2, b⟩ w hv hu

set_option maxRecDepth 100000 in
set_option maxHeartbeats 8000000 in
theorem unlikes_no (v u : Value) (W H : Int) (a : List Int) (W2 H2 : Int) (b : List Int) (w : World) (hv : FrameV w v W H a) (hu : FrameV w u W2 H2 b) (hg : TypeIs w) (hp : pixB [(⟨W, H, a⟩ : Fr), (⟨W2, H2, b⟩ : Fr)] = false) :
    Calls Tryd.prog 3 #[v, u] w fun e w' => e = .returned (.bool true) ∧ Below w.heap.size w w' := by
  have HG := Lib.hid hg
  have c1 := fun x w h => pix_any x [(⟨W, H, a⟩ : Fr), (⟨W2, H2, b⟩ : Fr)] w h
  rw [hp] at c1
  have C1 := Lib.hid c1
  clear c1 hp
  have HV := Lib.hid hv
  have HU := Lib.hid hu
  obtain ⟨ao, cap, rfl, -⟩ := hv.cells
  obtain ⟨bo, bcap, rfl, -⟩ := hu.cells
  have BA0 := Lib.hid ((Blk.new w #[.int .i64 W, .int .i64 H, .slice ao a.length cap] 24).alloc (.cells #[.int .i64 W2, .int .i64 H2, .slice bo b.length bcap] 24))
  have BB0 := Lib.hid (Blk.new (w.alloc (.cells #[.int .i64 W, .int .i64 H, .slice ao a.length cap] 24)) #[.int .i64 W2, .int .i64 H2, .slice bo b.length bcap] 24)
  simp only [World.size_alloc] at BB0
  clear hv hu hg
  go_enter Tryd.func3, Tryd.ntmps3
  have g0 : Below w.heap.size w w := Below.refl _ _
  go_wp2_with fail
  refine (first_any _ (HG.out.ext (by go_grown))).mono ?_
  rintro e w1 ⟨rfl, hb1⟩
  have j1 : Below w.heap.size w w1 := ext (by go_grown) hb1
  have g1 : Below w.heap.size w w1 := ext g0 j1
  have s1 := j1.size
  have t1 := g1.size
  have BA := Lib.hid (BA0.out.ext hb1)
  have BB := Lib.hid (BB0.out.ext hb1)
  have jL : Below w1.heap.size w1 (w1.alloc (.cells #[.int .i64 W, .int .i64 H, .slice ao a.length cap, .int .i64 W2, .int .i64 H2, .slice bo b.length bcap] 24)) := by go_grown
  have FL := Lib.hid (show Frames (w1.alloc (.cells #[.int .i64 W, .int .i64 H, .slice ao a.length cap, .int .i64 W2, .int .i64 H2, .slice bo b.length bcap] 24)) (.slice (some ⟨w1.heap.size, 0, none⟩) 2 2) [(⟨W, H, a⟩ : Fr), (⟨W2, H2, b⟩ : Fr)] from frames_two (Blk.new w1 #[.int .i64 W, .int .i64 H, .slice ao a.length cap, .int .i64 W2, .int .i64 H2, .slice bo b.length bcap] 24) ((HV.out.ext j1).ext jL) ((HU.out.ext j1).ext jL))
  obtain ⟨BA0, BA1, BA2, BA3, BA4, BA5⟩ := (BA.out).three
  have BAl := (BA.out).lt
  obtain ⟨BB0, BB1, BB2, BB3, BB4, BB5⟩ := (BB.out).three
  have BBl := (BB.out).lt
  go_wp2_with fail
  clear BA0 BA1 BA2 BA3 BA4 BA5 BAl
  clear BB0 BB1 BB2 BB3 BB4 BB5 BBl
  refine (C1.out _ _ FL.out).mono ?_
  rintro e w2 ⟨rfl, hb2⟩
  have j2 : Below w1.heap.size w1 w2 := ext (by go_grown) hb2
  have g2 : Below w.heap.size w w2 := ext g1 j2
  have s2 := j2.size
  have t2 := g2.size
  go_wp2_with fail
  refine (first_any _ (((HG.out.ext j1).ext j2).ext (by go_grown))).mono ?_
  rintro e w3 ⟨rfl, hb3⟩
  have j3 : Below w2.heap.size w2 w3 := ext (by go_grown) hb3
  have g3 : Below w.heap.size w w3 := ext g2 j3
  have s3 := j3.size
  have t3 := g3.size
  go_wp2
  all_goals go_returns
  all_goals exact ⟨by first | rfl | (simp; done) | (simp; omega), g3⟩

set_option maxRecDepth 100000 in
set_option maxHeartbeats 8000000 in
theorem turned_no (v u : Value) (W H : Int) (a : List Int) (W2 H2 : Int) (b : List Int) (w : World) (hv : FrameV w v W H a) (hu : FrameV w u W2 H2 b) (hg : TypeIs w) (hp : pixB [(⟨W, H, a⟩ : Fr), (⟨W2, H2, b⟩ : Fr)] = false) :
    Calls Tryd.prog 6 #[v, u] w fun e w' => e = .returned (.bool true) ∧ Below w.heap.size w w' := by
  have HG := Lib.hid hg
  have c1 := fun x w h => pix_any x [(⟨W, H, a⟩ : Fr), (⟨W2, H2, b⟩ : Fr)] w h
  rw [hp] at c1
  have C1 := Lib.hid c1
  clear c1 hp
  have HV := Lib.hid hv
  have HU := Lib.hid hu
  obtain ⟨ao, cap, rfl, -⟩ := hv.cells
  obtain ⟨bo, bcap, rfl, -⟩ := hu.cells
  have BA0 := Lib.hid ((Blk.new w #[.int .i64 W, .int .i64 H, .slice ao a.length cap] 24).alloc (.cells #[.int .i64 W2, .int .i64 H2, .slice bo b.length bcap] 24))
  have BB0 := Lib.hid (Blk.new (w.alloc (.cells #[.int .i64 W, .int .i64 H, .slice ao a.length cap] 24)) #[.int .i64 W2, .int .i64 H2, .slice bo b.length bcap] 24)
  simp only [World.size_alloc] at BB0
  clear hv hu hg
  go_enter Tryd.func6, Tryd.ntmps6
  have g0 : Below w.heap.size w w := Below.refl _ _
  go_wp2_with fail
  refine (first_any _ (HG.out.ext (by go_grown))).mono ?_
  rintro e w1 ⟨rfl, hb1⟩
  have j1 : Below w.heap.size w w1 := ext (by go_grown) hb1
  have g1 : Below w.heap.size w w1 := ext g0 j1
  have s1 := j1.size
  have t1 := g1.size
  have BA := Lib.hid (BA0.out.ext hb1)
  have BB := Lib.hid (BB0.out.ext hb1)
  have jL : Below w1.heap.size w1 (w1.alloc (.cells #[.int .i64 W, .int .i64 H, .slice ao a.length cap, .int .i64 W2, .int .i64 H2, .slice bo b.length bcap] 24)) := by go_grown
  have FL := Lib.hid (show Frames (w1.alloc (.cells #[.int .i64 W, .int .i64 H, .slice ao a.length cap, .int .i64 W2, .int .i64 H2, .slice bo b.length bcap] 24)) (.slice (some ⟨w1.heap.size, 0, none⟩) 2 2) [(⟨W, H, a⟩ : Fr), (⟨W2, H2, b⟩ : Fr)] from frames_two (Blk.new w1 #[.int .i64 W, .int .i64 H, .slice ao a.length cap, .int .i64 W2, .int .i64 H2, .slice bo b.length bcap] 24) ((HV.out.ext j1).ext jL) ((HU.out.ext j1).ext jL))
  obtain ⟨BA0, BA1, BA2, BA3, BA4, BA5⟩ := (BA.out).three
  have BAl := (BA.out).lt
  obtain ⟨BB0, BB1, BB2, BB3, BB4, BB5⟩ := (BB.out).three
  have BBl := (BB.out).lt
  go_wp2_with fail
  clear BA0 BA1 BA2 BA3 BA4 BA5 BAl
  clear BB0 BB1 BB2 BB3 BB4 BB5 BBl
  refine (C1.out _ _ FL.out).mono ?_
  rintro e w2 ⟨rfl, hb2⟩
  have j2 : Below w1.heap.size w1 w2 := ext (by go_grown) hb2
  have g2 : Below w.heap.size w w2 := ext g1 j2
  have s2 := j2.size
  have t2 := g2.size
  go_wp2_with fail
  refine (first_any _ (((HG.out.ext j1).ext j2).ext (by go_grown))).mono ?_
  rintro e w3 ⟨rfl, hb3⟩
  have j3 : Below w2.heap.size w2 w3 := ext (by go_grown) hb3
  have g3 : Below w.heap.size w w3 := ext g2 j3
  have s3 := j3.size
  have t3 := g3.size
  go_wp2
  all_goals go_returns
  all_goals exact ⟨by first | rfl | (simp; done) | (simp; omega), g3⟩

set_option maxRecDepth 100000 in
set_option maxHeartbeats 8000000 in
theorem unlikes_yes (v u : Value) (W H : Int) (a : List Int) (W2 H2 : Int) (b : List Int) (w : World) (hv : FrameV w v W H a) (hu : FrameV w u W2 H2 b) (hg : TypeIs w) (hp : pixB [(⟨W, H, a⟩ : Fr), (⟨W2, H2, b⟩ : Fr)] = true) :
    Calls Tryd.prog 3 #[v, u] w fun e w' => e = .returned (.bool true) ∧ Below w.heap.size w w' := by
  have HG := Lib.hid hg
  have c1 := fun x w h => pix_any x [(⟨W, H, a⟩ : Fr), (⟨W2, H2, b⟩ : Fr)] w h
  rw [hp] at c1
  have C1 := Lib.hid c1
  clear c1 hp
  have C2 := Lib.hid (fun v u w h1 h2 => cunl v u W H a W2 H2 b w h1 h2)
  have C3 := Lib.hid (fun v u w h1 h2 => crnl v u W H a W2 H2 b w h1 h2)
  have C5 := Lib.hid (fun w h => same_any (unlE (⟨W, H, a⟩ : Fr) (⟨W2, H2, b⟩ : Fr)) w h)
  generalize unlE (⟨W, H, a⟩ : Fr) (⟨W2, H2, b⟩ : Fr) = k at *
  generalize unlV (⟨W, H, a⟩ : Fr) (⟨W2, H2, b⟩ : Fr) = n at *
  have HV := Lib.hid hv
  have HU := Lib.hid hu
  obtain ⟨ao, cap, rfl, -⟩ := hv.cells
  obtain ⟨bo, bcap, rfl, -⟩ := hu.cells
  have BA0 := Lib.hid ((Blk.new w #[.int .i64 W, .int .i64 H, .slice ao a.length cap] 24).alloc (.cells #[.int .i64 W2, .int .i64 H2, .slice bo b.length bcap] 24))
  have BB0 := Lib.hid (Blk.new (w.alloc (.cells #[.int .i64 W, .int .i64 H, .slice ao a.length cap] 24)) #[.int .i64 W2, .int .i64 H2, .slice bo b.length bcap] 24)
  simp only [World.size_alloc] at BB0
  clear hv hu hg
  go_enter Tryd.func3, Tryd.ntmps3
  have g0 : Below w.heap.size w w := Below.refl _ _
  go_wp2_with fail
  refine (first_any _ (HG.out.ext (by go_grown))).mono ?_
  rintro e w1 ⟨rfl, hb1⟩
  have j1 : Below w.heap.size w w1 := ext (by go_grown) hb1
  have g1 : Below w.heap.size w w1 := ext g0 j1
  have s1 := j1.size
  have t1 := g1.size
  have BA := Lib.hid (BA0.out.ext hb1)
  have BB := Lib.hid (BB0.out.ext hb1)
  have jL : Below w1.heap.size w1 (w1.alloc (.cells #[.int .i64 W, .int .i64 H, .slice ao a.length cap, .int .i64 W2, .int .i64 H2, .slice bo b.length bcap] 24)) := by go_grown
  have FL := Lib.hid (show Frames (w1.alloc (.cells #[.int .i64 W, .int .i64 H, .slice ao a.length cap, .int .i64 W2, .int .i64 H2, .slice bo b.length bcap] 24)) (.slice (some ⟨w1.heap.size, 0, none⟩) 2 2) [(⟨W, H, a⟩ : Fr), (⟨W2, H2, b⟩ : Fr)] from frames_two (Blk.new w1 #[.int .i64 W, .int .i64 H, .slice ao a.length cap, .int .i64 W2, .int .i64 H2, .slice bo b.length bcap] 24) ((HV.out.ext j1).ext jL) ((HU.out.ext j1).ext jL))
  obtain ⟨BA0, BA1, BA2, BA3, BA4, BA5⟩ := (BA.out).three
  have BAl := (BA.out).lt
  obtain ⟨BB0, BB1, BB2, BB3, BB4, BB5⟩ := (BB.out).three
  have BBl := (BB.out).lt
  go_wp2_with fail
  clear BA0 BA1 BA2 BA3 BA4 BA5 BAl
  clear BB0 BB1 BB2 BB3 BB4 BB5 BBl
  refine (C1.out _ _ FL.out).mono ?_
  rintro e w2 ⟨rfl, hb2⟩
  have j2 : Below w1.heap.size w1 w2 := ext (by go_grown) hb2
  have g2 : Below w.heap.size w w2 := ext g1 j2
  have s2 := j2.size
  have t2 := g2.size
  obtain ⟨BA0, BA1, BA2, BA3, BA4, BA5⟩ := ((BA.out.ext j2)).three
  have BAl := ((BA.out.ext j2)).lt
  obtain ⟨BB0, BB1, BB2, BB3, BB4, BB5⟩ := ((BB.out.ext j2)).three
  have BBl := ((BB.out.ext j2)).lt
  go_wp2_with fail
  clear BA0 BA1 BA2 BA3 BA4 BA5 BAl
  clear BB0 BB1 BB2 BB3 BB4 BB5 BBl
  refine (C2.out _ _ _ (((HV.out.ext j1).ext j2).ext (by go_grown)) (((HU.out.ext j1).ext j2).ext (by go_grown))).mono ?_
  rintro e w3 ⟨rfl, hb3⟩
  have j3 : Below w2.heap.size w2 w3 := ext (by go_grown) hb3
  have g3 : Below w.heap.size w w3 := ext g2 j3
  have s3 := j3.size
  have t3 := g3.size
  obtain ⟨BA0, BA1, BA2, BA3, BA4, BA5⟩ := (((BA.out.ext j2).ext j3)).three
  have BAl := (((BA.out.ext j2).ext j3)).lt
  obtain ⟨BB0, BB1, BB2, BB3, BB4, BB5⟩ := (((BB.out.ext j2).ext j3)).three
  have BBl := (((BB.out.ext j2).ext j3)).lt
  go_wp2_with fail
  clear BA0 BA1 BA2 BA3 BA4 BA5 BAl
  clear BB0 BB1 BB2 BB3 BB4 BB5 BBl
  refine (C3.out _ _ _ ((((HV.out.ext j1).ext j2).ext j3).ext (by go_grown)) ((((HU.out.ext j1).ext j2).ext j3).ext (by go_grown))).mono ?_
  rintro e w4 ⟨rfl, hb4⟩
  have j4 : Below w3.heap.size w3 w4 := ext (by go_grown) hb4
  have g4 : Below w.heap.size w w4 := ext g3 j4
  have s4 := j4.size
  have t4 := g4.size
  go_wp2_with fail
  refine (first_any _ (((((HG.out.ext j1).ext j2).ext j3).ext j4).ext (by go_grown))).mono ?_
  rintro e w5 ⟨rfl, hb5⟩
  have j5 : Below w4.heap.size w4 w5 := ext (by go_grown) hb5
  have g5 : Below w.heap.size w w5 := ext g4 j5
  have s5 := j5.size
  have t5 := g5.size
  have BE := Lib.hid ((Blk.new w4 #[.int .i64 k, .slice none 0 0] 35).ext hb5)
  obtain ⟨BE0, BE1, BE2, BE3⟩ := BE.out.two
  go_wp2_with fail
  clear BE0 BE1 BE2 BE3
  refine (C5.out _ ((((((HG.out.ext j1).ext j2).ext j3).ext j4).ext j5).ext (by go_grown))).mono ?_
  rintro e w6 ⟨rfl, hb6⟩
  have j6 : Below w5.heap.size w5 w6 := ext (by go_grown) hb6
  have g6 : Below w.heap.size w w6 := ext g5 j6
  have s6 := j6.size
  have t6 := g6.size
  go_wp2
  all_goals go_returns
  all_goals exact ⟨by first | rfl | (simp; done) | (simp; omega), g6⟩

set_option maxRecDepth 100000 in
set_option maxHeartbeats 8000000 in
theorem turned_z (v u : Value) (W H : Int) (a : List Int) (W2 H2 : Int) (b : List Int) (w : World) (hv : FrameV w v W H a) (hu : FrameV w u W2 H2 b) (hg : TypeIs w) (hp : pixB [(⟨W, H, a⟩ : Fr), (⟨W2, H2, b⟩ : Fr)] = true) (hk : unlE (⟨W, H, a⟩ : Fr) (⟨W2, H2, b⟩ : Fr) = 0) :
    Calls Tryd.prog 6 #[v, u] w fun e w' => e = .returned (.bool true) ∧ Below w.heap.size w w' := by
  have HG := Lib.hid hg
  have c1 := fun x w h => pix_any x [(⟨W, H, a⟩ : Fr), (⟨W2, H2, b⟩ : Fr)] w h
  rw [hp] at c1
  have C1 := Lib.hid c1
  clear c1 hp
  have c2 := fun v u w h1 h2 => cunl v u W H a W2 H2 b w h1 h2
  have c3 := fun v u w h1 h2 => cunl v u W2 H2 b W H a w h1 h2
  rw [unlE_comm (⟨W2, H2, b⟩ : Fr) (⟨W, H, a⟩ : Fr), unlV_comm (⟨W2, H2, b⟩ : Fr) (⟨W, H, a⟩ : Fr)] at c3
  have c4 := fun v u w h1 h2 => cunl v u W H a W H a w h1 h2
  rw [unlV_self] at c4
  rw [hk, errV_zero] at c2 c3
  rw [show unlE (⟨W, H, a⟩ : Fr) (⟨W, H, a⟩ : Fr) = 0 from fboth_self hk, errV_zero] at c4
  have C2 := Lib.hid c2
  have C3 := Lib.hid c3
  have C4 := Lib.hid c4
  have hn := unlV_bd (⟨W, H, a⟩ : Fr) (⟨W2, H2, b⟩ : Fr)
  clear c2 c3 c4 hk
  generalize unlE (⟨W, H, a⟩ : Fr) (⟨W2, H2, b⟩ : Fr) = k at *
  generalize unlV (⟨W, H, a⟩ : Fr) (⟨W2, H2, b⟩ : Fr) = n at *
  generalize unlE (⟨W, H, a⟩ : Fr) (⟨W, H, a⟩ : Fr) = m at *
  obtain ⟨hn1, hn2⟩ := hn
  have HV := Lib.hid hv
  have HU := Lib.hid hu
  obtain ⟨ao, cap, rfl, -⟩ := hv.cells
  obtain ⟨bo, bcap, rfl, -⟩ := hu.cells
  have BA0 := Lib.hid ((Blk.new w #[.int .i64 W, .int .i64 H, .slice ao a.length cap] 24).alloc (.cells #[.int .i64 W2, .int .i64 H2, .slice bo b.length bcap] 24))
  have BB0 := Lib.hid (Blk.new (w.alloc (.cells #[.int .i64 W, .int .i64 H, .slice ao a.length cap] 24)) #[.int .i64 W2, .int .i64 H2, .slice bo b.length bcap] 24)
  simp only [World.size_alloc] at BB0
  clear hv hu hg
  go_enter Tryd.func6, Tryd.ntmps6
  have g0 : Below w.heap.size w w := Below.refl _ _
  go_wp2_with fail
  refine (first_any _ (HG.out.ext (by go_grown))).mono ?_
  rintro e w1 ⟨rfl, hb1⟩
  have j1 : Below w.heap.size w w1 := ext (by go_grown) hb1
  have g1 : Below w.heap.size w w1 := ext g0 j1
  have s1 := j1.size
  have t1 := g1.size
  have BA := Lib.hid (BA0.out.ext hb1)
  have BB := Lib.hid (BB0.out.ext hb1)
  have jL : Below w1.heap.size w1 (w1.alloc (.cells #[.int .i64 W, .int .i64 H, .slice ao a.length cap, .int .i64 W2, .int .i64 H2, .slice bo b.length bcap] 24)) := by go_grown
  have FL := Lib.hid (show Frames (w1.alloc (.cells #[.int .i64 W, .int .i64 H, .slice ao a.length cap, .int .i64 W2, .int .i64 H2, .slice bo b.length bcap] 24)) (.slice (some ⟨w1.heap.size, 0, none⟩) 2 2) [(⟨W, H, a⟩ : Fr), (⟨W2, H2, b⟩ : Fr)] from frames_two (Blk.new w1 #[.int .i64 W, .int .i64 H, .slice ao a.length cap, .int .i64 W2, .int .i64 H2, .slice bo b.length bcap] 24) ((HV.out.ext j1).ext jL) ((HU.out.ext j1).ext jL))
  obtain ⟨BA0, BA1, BA2, BA3, BA4, BA5⟩ := (BA.out).three
  have BAl := (BA.out).lt
  obtain ⟨BB0, BB1, BB2, BB3, BB4, BB5⟩ := (BB.out).three
  have BBl := (BB.out).lt
  go_wp2_with fail
  clear BA0 BA1 BA2 BA3 BA4 BA5 BAl
  clear BB0 BB1 BB2 BB3 BB4 BB5 BBl
  refine (C1.out _ _ FL.out).mono ?_
  rintro e w2 ⟨rfl, hb2⟩
  have j2 : Below w1.heap.size w1 w2 := ext (by go_grown) hb2
  have g2 : Below w.heap.size w w2 := ext g1 j2
  have s2 := j2.size
  have t2 := g2.size
  obtain ⟨BA0, BA1, BA2, BA3, BA4, BA5⟩ := ((BA.out.ext j2)).three
  have BAl := ((BA.out.ext j2)).lt
  obtain ⟨BB0, BB1, BB2, BB3, BB4, BB5⟩ := ((BB.out.ext j2)).three
  have BBl := ((BB.out.ext j2)).lt
  go_wp2_with fail
  clear BA0 BA1 BA2 BA3 BA4 BA5 BAl
  clear BB0 BB1 BB2 BB3 BB4 BB5 BBl
  refine (C2.out _ _ _ (((HV.out.ext j1).ext j2).ext (by go_grown)) (((HU.out.ext j1).ext j2).ext (by go_grown))).mono ?_
  rintro e w3 ⟨rfl, hb3⟩
  have j3 : Below w2.heap.size w2 w3 := ext (by go_grown) hb3
  have g3 : Below w.heap.size w w3 := ext g2 j3
  have s3 := j3.size
  have t3 := g3.size
  obtain ⟨BA0, BA1, BA2, BA3, BA4, BA5⟩ := (((BA.out.ext j2).ext j3)).three
  have BAl := (((BA.out.ext j2).ext j3)).lt
  obtain ⟨BB0, BB1, BB2, BB3, BB4, BB5⟩ := (((BB.out.ext j2).ext j3)).three
  have BBl := (((BB.out.ext j2).ext j3)).lt
  go_wp2_with fail
  clear BA0 BA1 BA2 BA3 BA4 BA5 BAl
  clear BB0 BB1 BB2 BB3 BB4 BB5 BBl
  refine (C3.out _ _ _ ((((HU.out.ext j1).ext j2).ext j3).ext (by go_grown)) ((((HV.out.ext j1).ext j2).ext j3).ext (by go_grown))).mono ?_
  rintro e w4 ⟨rfl, hb4⟩
  have j4 : Below w3.heap.size w3 w4 := ext (by go_grown) hb4
  have g4 : Below w.heap.size w w4 := ext g3 j4
  have s4 := j4.size
  have t4 := g4.size
  obtain ⟨BA0, BA1, BA2, BA3, BA4, BA5⟩ := ((((BA.out.ext j2).ext j3).ext j4)).three
  have BAl := ((((BA.out.ext j2).ext j3).ext j4)).lt
  go_wp2_with fail
  clear BA0 BA1 BA2 BA3 BA4 BA5 BAl
  refine (C4.out _ _ _ (((((HV.out.ext j1).ext j2).ext j3).ext j4).ext (by go_grown)) (((((HV.out.ext j1).ext j2).ext j3).ext j4).ext (by go_grown))).mono ?_
  rintro e w5 ⟨rfl, hb5⟩
  have j5 : Below w4.heap.size w4 w5 := ext (by go_grown) hb5
  have g5 : Below w.heap.size w w5 := ext g4 j5
  have s5 := j5.size
  have t5 := g5.size
  go_wp2
  go_region_held3 (fun _ => True)
    (trivial)
    (first | (go_at_call 8; refine (first_any _ ((((((HG.out.ext j1).ext j2).ext j3).ext j4).ext j5).ext (by go_grown))).mono ?_; rintro e w9 ⟨rfl, hb9⟩; have g9 : Below w.heap.size w w9 := ext g5 (ext (by go_grown) hb9)))
  go_wp2
  all_goals go_returns
  all_goals exact ⟨by first | rfl | (simp; done) | (simp; omega), by first | exact g9 | exact below_drewN' g9 _⟩

set_option maxRecDepth 100000 in
set_option maxHeartbeats 8000000 in
theorem turned_e (v u : Value) (W H : Int) (a : List Int) (W2 H2 : Int) (b : List Int) (w : World) (hv : FrameV w v W H a) (hu : FrameV w u W2 H2 b) (hg : TypeIs w) (hp : pixB [(⟨W, H, a⟩ : Fr), (⟨W2, H2, b⟩ : Fr)] = true) (hk : unlE (⟨W, H, a⟩ : Fr) (⟨W2, H2, b⟩ : Fr) ≠ 0) :
    Calls Tryd.prog 6 #[v, u] w fun e w' => e = .returned (.bool true) ∧ Below w.heap.size w w' := by
  have HG := Lib.hid hg
  have c1 := fun x w h => pix_any x [(⟨W, H, a⟩ : Fr), (⟨W2, H2, b⟩ : Fr)] w h
  rw [hp] at c1
  have C1 := Lib.hid c1
  clear c1 hp
  have c2 := fun v u w h1 h2 => cunl v u W H a W2 H2 b w h1 h2
  have c3 := fun v u w h1 h2 => cunl v u W2 H2 b W H a w h1 h2
  rw [unlE_comm (⟨W2, H2, b⟩ : Fr) (⟨W, H, a⟩ : Fr), unlV_comm (⟨W2, H2, b⟩ : Fr) (⟨W, H, a⟩ : Fr)] at c3
  have c4 := fun v u w h1 h2 => cunl v u W H a W H a w h1 h2
  rw [unlV_self] at c4
  rw [errV_ne hk] at c2 c3
  have C2 := Lib.hid c2
  have C3 := Lib.hid c3
  have C4 := Lib.hid c4
  have hn := unlV_bd (⟨W, H, a⟩ : Fr) (⟨W2, H2, b⟩ : Fr)
  clear c2 c3 c4 hk
  generalize unlE (⟨W, H, a⟩ : Fr) (⟨W2, H2, b⟩ : Fr) = k at *
  generalize unlV (⟨W, H, a⟩ : Fr) (⟨W2, H2, b⟩ : Fr) = n at *
  generalize unlE (⟨W, H, a⟩ : Fr) (⟨W, H, a⟩ : Fr) = m at *
  obtain ⟨hn1, hn2⟩ := hn
  have HV := Lib.hid hv
  have HU := Lib.hid hu
  obtain ⟨ao, cap, rfl, -⟩ := hv.cells
  obtain ⟨bo, bcap, rfl, -⟩ := hu.cells
  have BA0 := Lib.hid ((Blk.new w #[.int .i64 W, .int .i64 H, .slice ao a.length cap] 24).alloc (.cells #[.int .i64 W2, .int .i64 H2, .slice bo b.length bcap] 24))
  have BB0 := Lib.hid (Blk.new (w.alloc (.cells #[.int .i64 W, .int .i64 H, .slice ao a.length cap] 24)) #[.int .i64 W2, .int .i64 H2, .slice bo b.length bcap] 24)
  simp only [World.size_alloc] at BB0
  clear hv hu hg
  go_enter Tryd.func6, Tryd.ntmps6
  have g0 : Below w.heap.size w w := Below.refl _ _
  go_wp2_with fail
  refine (first_any _ (HG.out.ext (by go_grown))).mono ?_
  rintro e w1 ⟨rfl, hb1⟩
  have j1 : Below w.heap.size w w1 := ext (by go_grown) hb1
  have g1 : Below w.heap.size w w1 := ext g0 j1
  have s1 := j1.size
  have t1 := g1.size
  have BA := Lib.hid (BA0.out.ext hb1)
  have BB := Lib.hid (BB0.out.ext hb1)
  have jL : Below w1.heap.size w1 (w1.alloc (.cells #[.int .i64 W, .int .i64 H, .slice ao a.length cap, .int .i64 W2, .int .i64 H2, .slice bo b.length bcap] 24)) := by go_grown
  have FL := Lib.hid (show Frames (w1.alloc (.cells #[.int .i64 W, .int .i64 H, .slice ao a.length cap, .int .i64 W2, .int .i64 H2, .slice bo b.length bcap] 24)) (.slice (some ⟨w1.heap.size, 0, none⟩) 2 2) [(⟨W, H, a⟩ : Fr), (⟨W2, H2, b⟩ : Fr)] from frames_two (Blk.new w1 #[.int .i64 W, .int .i64 H, .slice ao a.length cap, .int .i64 W2, .int .i64 H2, .slice bo b.length bcap] 24) ((HV.out.ext j1).ext jL) ((HU.out.ext j1).ext jL))
  obtain ⟨BA0, BA1, BA2, BA3, BA4, BA5⟩ := (BA.out).three
  have BAl := (BA.out).lt
  obtain ⟨BB0, BB1, BB2, BB3, BB4, BB5⟩ := (BB.out).three
  have BBl := (BB.out).lt
  go_wp2_with fail
  clear BA0 BA1 BA2 BA3 BA4 BA5 BAl
  clear BB0 BB1 BB2 BB3 BB4 BB5 BBl
  refine (C1.out _ _ FL.out).mono ?_
  rintro e w2 ⟨rfl, hb2⟩
  have j2 : Below w1.heap.size w1 w2 := ext (by go_grown) hb2
  have g2 : Below w.heap.size w w2 := ext g1 j2
  have s2 := j2.size
  have t2 := g2.size
  obtain ⟨BA0, BA1, BA2, BA3, BA4, BA5⟩ := ((BA.out.ext j2)).three
  have BAl := ((BA.out.ext j2)).lt
  obtain ⟨BB0, BB1, BB2, BB3, BB4, BB5⟩ := ((BB.out.ext j2)).three
  have BBl := ((BB.out.ext j2)).lt
  go_wp2_with fail
  clear BA0 BA1 BA2 BA3 BA4 BA5 BAl
  clear BB0 BB1 BB2 BB3 BB4 BB5 BBl
  refine (C2.out _ _ _ (((HV.out.ext j1).ext j2).ext (by go_grown)) (((HU.out.ext j1).ext j2).ext (by go_grown))).mono ?_
  rintro e w3 ⟨rfl, hb3⟩
  have j3 : Below w2.heap.size w2 w3 := ext (by go_grown) hb3
  have g3 : Below w.heap.size w w3 := ext g2 j3
  have s3 := j3.size
  have t3 := g3.size
  obtain ⟨BA0, BA1, BA2, BA3, BA4, BA5⟩ := (((BA.out.ext j2).ext j3)).three
  have BAl := (((BA.out.ext j2).ext j3)).lt
  obtain ⟨BB0, BB1, BB2, BB3, BB4, BB5⟩ := (((BB.out.ext j2).ext j3)).three
  have BBl := (((BB.out.ext j2).ext j3)).lt
  go_wp2_with fail
  clear BA0 BA1 BA2 BA3 BA4 BA5 BAl
  clear BB0 BB1 BB2 BB3 BB4 BB5 BBl
  refine (C3.out _ _ _ ((((HU.out.ext j1).ext j2).ext j3).ext (by go_grown)) ((((HV.out.ext j1).ext j2).ext j3).ext (by go_grown))).mono ?_
  rintro e w4 ⟨rfl, hb4⟩
  have j4 : Below w3.heap.size w3 w4 := ext (by go_grown) hb4
  have g4 : Below w.heap.size w w4 := ext g3 j4
  have s4 := j4.size
  have t4 := g4.size
  obtain ⟨BA0, BA1, BA2, BA3, BA4, BA5⟩ := ((((BA.out.ext j2).ext j3).ext j4)).three
  have BAl := ((((BA.out.ext j2).ext j3).ext j4)).lt
  go_wp2_with fail
  clear BA0 BA1 BA2 BA3 BA4 BA5 BAl
  refine (C4.out _ _ _ (((((HV.out.ext j1).ext j2).ext j3).ext j4).ext (by go_grown)) (((((HV.out.ext j1).ext j2).ext j3).ext j4).ext (by go_grown))).mono ?_
  rintro e w5 ⟨rfl, hb5⟩
  have j5 : Below w4.heap.size w4 w5 := ext (by go_grown) hb5
  have g5 : Below w.heap.size w w5 := ext g4 j5
  have s5 := j5.size
  have t5 := g5.size
  go_wp2
  refine wp_region_held_drew (S := fun _ => True) (by kernel_rfl) trivial (fun hHeld => ?_)
  refine wpAnyH_ready (rs := [0]) (by kernel_rfl) (by simp) ?_
  refine AllReadyH.cons rfl (fun K hK => ?_) AllReadyH.nil
  go_simp
  (go_at_call 8; refine (first_any _ ((((((HG.out.ext j1).ext j2).ext j3).ext j4).ext j5).ext (by go_grown))).mono ?_; rintro e w9 ⟨rfl, hb9⟩; have g9 : Below w.heap.size w w9 := ext g5 (ext (by go_grown) hb9))
  go_wp2_with fail
  refine hK.out _ _ trivial (fun hHeld => ?_)
  clear hK K
  try simp only [List.getElem_toArray, List.getElem_cons_zero, List.getElem_cons_succ, Act.put, List.setIfInBounds_toArray, List.set_cons_zero, List.set_cons_succ]
  refine wpAnyH_take (i := 1) (v := ?_) rfl (by kernel_rfl) (by kernel_rfl) (by kernel_rfl) (fun _ _ _ h => h) (Or.inl ⟨by rfl, ?_⟩) trivial ?_
  rotate_left
  · (intro w hSw; go_simp; try with_reducible rfl)
  try simp only [List.getElem_toArray, List.getElem_cons_zero, List.getElem_cons_succ, Act.put, List.setIfInBounds_toArray, List.set_cons_zero, List.set_cons_succ]
  refine wpAnyH_take (i := 2) (v := ?_) rfl (by kernel_rfl) (by kernel_rfl) (by kernel_rfl) (fun _ _ _ h => h) (Or.inl ⟨by rfl, ?_⟩) trivial ?_
  rotate_left
  · (intro w hSw; go_simp; try with_reducible rfl)
  try simp only [List.getElem_toArray, List.getElem_cons_zero, List.getElem_cons_succ, Act.put, List.setIfInBounds_toArray, List.set_cons_zero, List.set_cons_succ]
  refine wpAnyH_take (i := 3) (v := ?_) rfl (by kernel_rfl) (by kernel_rfl) (by kernel_rfl) (fun _ _ _ h => h) (Or.inl ⟨by rfl, ?_⟩) trivial ?_
  rotate_left
  · (intro w hSw; go_simp; try with_reducible rfl)
  try simp only [List.getElem_toArray, List.getElem_cons_zero, List.getElem_cons_succ, Act.put, List.setIfInBounds_toArray, List.set_cons_zero, List.set_cons_succ]
  refine wpAnyH_take (i := 4) (v := ?_) rfl (by kernel_rfl) (by kernel_rfl) (by kernel_rfl) (fun _ _ _ h => h) (Or.inl ⟨by rfl, ?_⟩) trivial ?_
  rotate_left
  · (intro w hSw; go_simp; try with_reducible rfl)
  try simp only [List.getElem_toArray, List.getElem_cons_zero, List.getElem_cons_succ, Act.put, List.setIfInBounds_toArray, List.set_cons_zero, List.set_cons_succ]
  refine wpAnyH_take (i := 5) (v := ?_) rfl (by kernel_rfl) (by kernel_rfl) (by kernel_rfl) (fun _ _ _ h => h) (Or.inl ⟨by rfl, ?_⟩) trivial ?_
  rotate_left
  · (intro w hSw; go_simp; try with_reducible rfl)
  try simp only [List.getElem_toArray, List.getElem_cons_zero, List.getElem_cons_succ, Act.put, List.setIfInBounds_toArray, List.set_cons_zero, List.set_cons_succ]
  refine wpAnyH_take (i := 6) (v := ?_) rfl (by kernel_rfl) (by kernel_rfl) (by kernel_rfl) (fun _ _ _ h => h) (Or.inl ⟨by rfl, ?_⟩) trivial ?_
  rotate_left
  · (intro w hSw; go_simp; try with_reducible rfl)
  try simp only [List.getElem_toArray, List.getElem_cons_zero, List.getElem_cons_succ, Act.put, List.setIfInBounds_toArray, List.set_cons_zero, List.set_cons_succ]
  refine wpAnyH_take (i := 7) (v := ?_) rfl (by kernel_rfl) (by kernel_rfl) (by kernel_rfl) (fun _ _ _ h => h) (Or.inl ⟨by rfl, ?_⟩) trivial ?_
  rotate_left
  · (intro w hSw; go_simp; try with_reducible rfl)
  try simp only [List.getElem_toArray, List.getElem_cons_zero, List.getElem_cons_succ, Act.put, List.setIfInBounds_toArray, List.set_cons_zero, List.set_cons_succ]
  refine wpAnyH_take (i := 8) (v := ?_) rfl (by kernel_rfl) (by kernel_rfl) (by kernel_rfl) (fun _ _ _ h => h) (Or.inl ⟨by rfl, ?_⟩) trivial ?_
  rotate_left
  · (intro w hSw; go_simp; try with_reducible rfl)
  try simp only [List.getElem_toArray, List.getElem_cons_zero, List.getElem_cons_succ, Act.put, List.setIfInBounds_toArray, List.set_cons_zero, List.set_cons_succ]
  refine wpAnyH_take (i := 9) (v := ?_) rfl (by kernel_rfl) (by kernel_rfl) (by kernel_rfl) (fun _ _ _ h => h) (Or.inl ⟨by rfl, ?_⟩) trivial ?_
  rotate_left
  · (intro w hSw; go_simp; try with_reducible rfl)
  try simp only [List.getElem_toArray, List.getElem_cons_zero, List.getElem_cons_succ, Act.put, List.setIfInBounds_toArray, List.set_cons_zero, List.set_cons_succ]
  refine wpAnyH_take (i := 10) (v := ?_) rfl (by kernel_rfl) (by kernel_rfl) (by kernel_rfl) (fun _ _ _ h => h) (Or.inl ⟨by rfl, ?_⟩) trivial ?_
  rotate_left
  · (intro w hSw; go_simp; try with_reducible rfl)
  try simp only [List.getElem_toArray, List.getElem_cons_zero, List.getElem_cons_succ, Act.put, List.setIfInBounds_toArray, List.set_cons_zero, List.set_cons_succ]
  refine wpAnyH_take (i := 11) (v := ?_) rfl (by kernel_rfl) (by kernel_rfl) (by kernel_rfl) (fun _ _ _ h => h) (Or.inl ⟨by rfl, ?_⟩) trivial ?_
  rotate_left
  · (intro w hSw; go_simp; try with_reducible rfl)
  try simp only [List.getElem_toArray, List.getElem_cons_zero, List.getElem_cons_succ, Act.put, List.setIfInBounds_toArray, List.set_cons_zero, List.set_cons_succ]
  refine wpAnyH_take (i := 12) (v := ?_) rfl (by kernel_rfl) (by kernel_rfl) (by kernel_rfl) (fun _ _ _ h => h) (Or.inl ⟨by rfl, ?_⟩) trivial ?_
  rotate_left
  · (intro w hSw; go_simp; try with_reducible rfl)
  try simp only [List.getElem_toArray, List.getElem_cons_zero, List.getElem_cons_succ, Act.put, List.setIfInBounds_toArray, List.set_cons_zero, List.set_cons_succ]
  refine wpAnyH_take (i := 13) (v := ?_) rfl (by kernel_rfl) (by kernel_rfl) (by kernel_rfl) (fun _ _ _ h => h) (Or.inl ⟨by rfl, ?_⟩) trivial ?_
  rotate_left
  · (intro w hSw; go_simp; try with_reducible rfl)
  try simp only [List.getElem_toArray, List.getElem_cons_zero, List.getElem_cons_succ, Act.put, List.setIfInBounds_toArray, List.set_cons_zero, List.set_cons_succ]
  refine wpAnyH_take (i := 14) (v := ?_) rfl (by kernel_rfl) (by kernel_rfl) (by kernel_rfl) (fun _ _ _ h => h) (Or.inl ⟨by rfl, ?_⟩) trivial ?_
  rotate_left
  · (intro w hSw; go_simp; try with_reducible rfl)
  try simp only [List.getElem_toArray, List.getElem_cons_zero, List.getElem_cons_succ, Act.put, List.setIfInBounds_toArray, List.set_cons_zero, List.set_cons_succ]
  refine wpAnyH_take (i := 15) (v := ?_) rfl (by kernel_rfl) (by kernel_rfl) (by kernel_rfl) (fun _ _ _ h => h) (Or.inl ⟨by rfl, ?_⟩) trivial ?_
  rotate_left
  · (intro w hSw; go_simp; try with_reducible rfl)
  try simp only [List.getElem_toArray, List.getElem_cons_zero, List.getElem_cons_succ, Act.put, List.setIfInBounds_toArray, List.set_cons_zero, List.set_cons_succ]
  refine wpAnyH_take (i := 16) (v := ?_) rfl (by kernel_rfl) (by kernel_rfl) (by kernel_rfl) (fun _ _ _ h => h) (Or.inl ⟨by rfl, ?_⟩) trivial ?_
  rotate_left
  · (intro w hSw; go_simp; try with_reducible rfl)
  try simp only [List.getElem_toArray, List.getElem_cons_zero, List.getElem_cons_succ, Act.put, List.setIfInBounds_toArray, List.set_cons_zero, List.set_cons_succ]
  refine wpAnyH_take (i := 17) (v := ?_) rfl (by kernel_rfl) (by kernel_rfl) (by kernel_rfl) (fun _ _ _ h => h) (Or.inl ⟨by rfl, ?_⟩) trivial ?_
  rotate_left
  · (intro w hSw; go_simp; try with_reducible rfl)
  try simp only [List.getElem_toArray, List.getElem_cons_zero, List.getElem_cons_succ, Act.put, List.setIfInBounds_toArray, List.set_cons_zero, List.set_cons_succ]
  refine wpAnyH_take (i := 18) (v := ?_) rfl (by kernel_rfl) (by kernel_rfl) (by kernel_rfl) (fun _ _ _ h => h) (Or.inl ⟨by rfl, ?_⟩) trivial ?_
  rotate_left
  · (intro w hSw; go_simp; try with_reducible rfl)
  try simp only [List.getElem_toArray, List.getElem_cons_zero, List.getElem_cons_succ, Act.put, List.setIfInBounds_toArray, List.set_cons_zero, List.set_cons_succ]
  refine wpAnyH_take (i := 19) (v := ?_) rfl (by kernel_rfl) (by kernel_rfl) (by kernel_rfl) (fun _ _ _ h => h) (Or.inl ⟨by rfl, ?_⟩) trivial ?_
  rotate_left
  · (intro w hSw; go_simp; try with_reducible rfl)
  try simp only [List.getElem_toArray, List.getElem_cons_zero, List.getElem_cons_succ, Act.put, List.setIfInBounds_toArray, List.set_cons_zero, List.set_cons_succ]
  refine wpAnyH_take (i := 20) (v := ?_) rfl (by kernel_rfl) (by kernel_rfl) (by kernel_rfl) (fun _ _ _ h => h) (Or.inl ⟨by rfl, ?_⟩) trivial ?_
  rotate_left
  · (intro w hSw; go_simp; try with_reducible rfl)
  try simp only [List.getElem_toArray, List.getElem_cons_zero, List.getElem_cons_succ, Act.put, List.setIfInBounds_toArray, List.set_cons_zero, List.set_cons_succ]
  refine wpAnyH_take (i := 21) (v := undef) rfl (by kernel_rfl) (by kernel_rfl) (by kernel_rfl) (fun _ _ _ h => h) (Or.inr ⟨by rfl, rfl⟩) trivial ?_
  try simp only [List.getElem_toArray, List.getElem_cons_zero, List.getElem_cons_succ, Act.put, List.setIfInBounds_toArray, List.set_cons_zero, List.set_cons_succ]
  refine wpAnyH_take (i := 22) (v := undef) rfl (by kernel_rfl) (by kernel_rfl) (by kernel_rfl) (fun _ _ _ h => h) (Or.inr ⟨by rfl, rfl⟩) trivial ?_
  try simp only [List.getElem_toArray, List.getElem_cons_zero, List.getElem_cons_succ, Act.put, List.setIfInBounds_toArray, List.set_cons_zero, List.set_cons_succ]
  refine wpAnyH_take (i := 23) (v := ?_) rfl (by kernel_rfl) (by kernel_rfl) (by kernel_rfl) (fun _ _ _ h => h) (Or.inl ⟨by rfl, ?_⟩) trivial ?_
  rotate_left
  · (intro w hSw; go_simp; try with_reducible rfl)
  try simp only [List.getElem_toArray, List.getElem_cons_zero, List.getElem_cons_succ, Act.put, List.setIfInBounds_toArray, List.set_cons_zero, List.set_cons_succ]
  refine wpAnyH_take (i := 24) (v := ?_) rfl (by kernel_rfl) (by kernel_rfl) (by kernel_rfl) (fun _ _ _ h => h) (Or.inl ⟨by rfl, ?_⟩) trivial ?_
  rotate_left
  · (intro w hSw; go_simp; try with_reducible rfl)
  try simp only [List.getElem_toArray, List.getElem_cons_zero, List.getElem_cons_succ, Act.put, List.setIfInBounds_toArray, List.set_cons_zero, List.set_cons_succ]
  refine wpAnyH_take (i := 25) (v := ?_) rfl (by kernel_rfl) (by kernel_rfl) (by kernel_rfl) (fun _ _ _ h => h) (Or.inl ⟨by rfl, ?_⟩) trivial ?_
  rotate_left
  · (intro w hSw; go_simp; try with_reducible rfl)
  try simp only [List.getElem_toArray, List.getElem_cons_zero, List.getElem_cons_succ, Act.put, List.setIfInBounds_toArray, List.set_cons_zero, List.set_cons_succ]
  refine wpAnyH_take (i := 26) (v := ?_) rfl (by kernel_rfl) (by kernel_rfl) (by kernel_rfl) (fun _ _ _ h => h) (Or.inl ⟨by rfl, ?_⟩) trivial ?_
  rotate_left
  · (intro w hSw; go_simp; try with_reducible rfl)
  try simp only [List.getElem_toArray, List.getElem_cons_zero, List.getElem_cons_succ, Act.put, List.setIfInBounds_toArray, List.set_cons_zero, List.set_cons_succ]
  refine wpAnyH_take (i := 27) (v := ?_) rfl (by kernel_rfl) (by kernel_rfl) (by kernel_rfl) (fun _ _ _ h => h) (Or.inl ⟨by rfl, ?_⟩) trivial ?_
  rotate_left
  · (intro w hSw; go_simp; try with_reducible rfl)
  try simp only [List.getElem_toArray, List.getElem_cons_zero, List.getElem_cons_succ, Act.put, List.setIfInBounds_toArray, List.set_cons_zero, List.set_cons_succ]
  refine wpAnyH_take (i := 28) (v := ?_) rfl (by kernel_rfl) (by kernel_rfl) (by kernel_rfl) (fun _ _ _ h => h) (Or.inl ⟨by rfl, ?_⟩) trivial ?_
  rotate_left
  · (intro w hSw; go_simp; try with_reducible rfl)
  try simp only [List.getElem_toArray, List.getElem_cons_zero, List.getElem_cons_succ, Act.put, List.setIfInBounds_toArray, List.set_cons_zero, List.set_cons_succ]
  refine wpAnyH_take (i := 29) (v := ?_) rfl (by kernel_rfl) (by kernel_rfl) (by kernel_rfl) (fun _ _ _ h => h) (Or.inl ⟨by rfl, ?_⟩) trivial ?_
  rotate_left
  · (intro w hSw; go_simp; try with_reducible rfl)
  try simp only [List.getElem_toArray, List.getElem_cons_zero, List.getElem_cons_succ, Act.put, List.setIfInBounds_toArray, List.set_cons_zero, List.set_cons_succ]
  refine wpAnyH_take (i := 30) (v := ?_) rfl (by kernel_rfl) (by kernel_rfl) (by kernel_rfl) (fun _ _ _ h => h) (Or.inl ⟨by rfl, ?_⟩) trivial ?_
  rotate_left
  · (intro w hSw; go_simp; try with_reducible rfl)
  try simp only [List.getElem_toArray, List.getElem_cons_zero, List.getElem_cons_succ, Act.put, List.setIfInBounds_toArray, List.set_cons_zero, List.set_cons_succ]
  refine wpAnyH_take (i := 31) (v := ?_) rfl (by kernel_rfl) (by kernel_rfl) (by kernel_rfl) (fun _ _ _ h => h) (Or.inl ⟨by rfl, ?_⟩) trivial ?_
  rotate_left
  · (intro w hSw; go_simp; try with_reducible rfl)
  try simp only [List.getElem_toArray, List.getElem_cons_zero, List.getElem_cons_succ, Act.put, List.setIfInBounds_toArray, List.set_cons_zero, List.set_cons_succ]
  refine wpAnyH_take (i := 32) (v := ?_) rfl (by kernel_rfl) (by kernel_rfl) (by kernel_rfl) (fun _ _ _ h => h) (Or.inl ⟨by rfl, ?_⟩) trivial ?_
  rotate_left
  · (intro w hSw; go_simp; try with_reducible rfl)
  try simp only [List.getElem_toArray, List.getElem_cons_zero, List.getElem_cons_succ, Act.put, List.setIfInBounds_toArray, List.set_cons_zero, List.set_cons_succ]
  refine wpAnyH_take (i := 33) (v := ?_) rfl (by kernel_rfl) (by kernel_rfl) (by kernel_rfl) (fun _ _ _ h => h) (Or.inl ⟨by rfl, ?_⟩) trivial ?_
  rotate_left
  · (intro w hSw; go_simp; try with_reducible rfl)
  try simp only [List.getElem_toArray, List.getElem_cons_zero, List.getElem_cons_succ, Act.put, List.setIfInBounds_toArray, List.set_cons_zero, List.set_cons_succ]
  refine wpAnyH_done (by kernel_rfl) ?_ _
  go_wp2
  all_goals go_returns
  all_goals exact ⟨by first | rfl | (simp; done) | (simp; omega), by first | exact g9 | exact below_drewN' g9 _⟩

theorem turned_yes (v u : Value) (W H : Int) (a : List Int) (W2 H2 : Int) (b : List Int) (w : World) (hv : FrameV w v W H a) (hu : FrameV w u W2 H2 b) (hg : TypeIs w) (hp : pixB [(⟨W, H, a⟩ : Fr), (⟨W2, H2, b⟩ : Fr)] = true) :
    Calls Tryd.prog 6 #[v, u] w fun e w' => e = .returned (.bool true) ∧ Below w.heap.size w w' := by
  by_cases hk : unlE (⟨W, H, a⟩ : Fr) (⟨W2, H2, b⟩ : Fr) = 0
  · exact turned_z v u W H a W2 H2 b w hv hu hg hp hk
  · exact turned_e v u W H a W2 H2 b w hv hu hg hp hk

theorem unlikes_walk (v u : Value) (W H : Int) (a : List Int) (W2 H2 : Int) (b : List Int) (w : World) (hv : FrameV w v W H a) (hu : FrameV w u W2 H2 b) (hg : TypeIs w) :
    Calls Tryd.prog 3 #[v, u] w fun e w' => e = .returned (.bool true) ∧ Below w.heap.size w w' := by
  cases hp : pixB [(⟨W, H, a⟩ : Fr), (⟨W2, H2, b⟩ : Fr)] with
  | true => exact unlikes_yes v u W H a W2 H2 b w hv hu hg hp
  | false => exact unlikes_no v u W H a W2 H2 b w hv hu hg hp

theorem turned_walk (v u : Value) (W H : Int) (a : List Int) (W2 H2 : Int) (b : List Int) (w : World) (hv : FrameV w v W H a) (hu : FrameV w u W2 H2 b) (hg : TypeIs w) :
    Calls Tryd.prog 6 #[v, u] w fun e w' => e = .returned (.bool true) ∧ Below w.heap.size w w' := by
  cases hp : pixB [(⟨W, H, a⟩ : Fr), (⟨W2, H2, b⟩ : Fr)] with
  | true => exact turned_yes v u W H a W2 H2 b w hv hu hg hp
  | false => exact turned_no v u W H a W2 H2 b w hv hu hg hp
end Go.Proofs.YtpdhhnhpaahenaaDoor
