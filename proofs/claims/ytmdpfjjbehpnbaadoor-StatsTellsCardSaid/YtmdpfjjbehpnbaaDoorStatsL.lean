/- kinlaw17.StatsFlat: the walk. -/
import Derived.Test.YtmdpfjjbehpnbaaDoorStatsQ
import Derived.Test.YtmdpfjjbehpnbaaDoorPix
set_option linter.unusedSimpArgs false
set_option linter.unusedVariables false
namespace Go.Proofs.YtmdpfjjbehpnbaaDoor
open Go.RowKit Go.Extern.Stop Go.Stop Go.Extern
theorem cinn (v : Value) (W H : Int) (a : List Int) (w : World) (hv : FrameV w v W H a) :
    Calls Tryd.prog 10 #[v] w fun e w' => e = .returned (.tuple #[.int .i64 (innV ⟨W, H, a⟩), errV (innE ⟨W, H, a⟩)]) ∧ Below w.heap.size w w' := pinner_any v ⟨W, H, a⟩ w hv
theorem cout (v u : Value) (W H : Int) (a : List Int) (W2 H2 : Int) (b : List Int) (w : World) (hv : FrameV w v W H a) (hu : FrameV w u W2 H2 b) :
    Calls Tryd.prog 12 #[v, u] w fun e w' => e = .returned (.tuple #[.int .i64 (outV ⟨W, H, a⟩ ⟨W2, H2, b⟩), errV (unlE ⟨W, H, a⟩ ⟨W2, H2, b⟩)]) ∧ Below w.heap.size w w' := pouter_any v u ⟨W, H, a⟩ ⟨W2, H2, b⟩ w hv hu
theorem csum (v u : Value) (W H : Int) (a : List Int) (W2 H2 : Int) (b : List Int) (w : World) (hv : FrameV w v W H a) (hu : FrameV w u W2 H2 b) :
    Calls Tryd.prog 22 #[v, u] w fun e w' => e = .returned (.tuple #[.int .i64 (okI (unlE ⟨W, H, a⟩ ⟨W2, H2, b⟩) (sadV a b)), errV (unlE ⟨W, H, a⟩ ⟨W2, H2, b⟩)]) ∧ Below w.heap.size w w' := psum_any v u W H a W2 H2 b w hv hu
theorem may_self {f : Fr} (h : mayB f.W f.H f.pix = true) : unlE f f = 0 := by unfold unlE fbothE; rw [h]; simp
theorem no_self {f : Fr} (h : mayB f.W f.H f.pix = false) : unlE f f = 2 := by unfold unlE fbothE; rw [h]; rfl

set_option maxRecDepth 100000 in
set_option maxHeartbeats 16000000 in
theorem flat_p (v u : Value) (W H : Int) (a : List Int) (W2 H2 : Int) (b : List Int) (w : World) (hv : FrameV w v W H a) (hu : FrameV w u W2 H2 b) (hg : TypeIs w) (hp : pixB [(⟨W, H, a⟩ : Fr), (⟨W2, H2, b⟩ : Fr)] = false) :
    Calls Tryd.prog 7 #[v, u] w fun e w' => e = .returned (.bool true) ∧ Below w.heap.size w w' := by
  have HG := Lib.hid hg
  have cp := fun x w h => pix_any x [(⟨W, H, a⟩ : Fr), (⟨W2, H2, b⟩ : Fr)] w h
  rw [hp] at cp
  have C1 := Lib.hid cp
  clear cp hp
  have HV := Lib.hid hv
  have HU := Lib.hid hu
  obtain ⟨ao, cap, rfl, hpx⟩ := hv.cells
  obtain ⟨bo, bcap, rfl, -⟩ := hu.cells
  have HPX := Lib.hid hpx
  have BA0 := Lib.hid ((Blk.new w #[.int .i64 W, .int .i64 H, .slice ao a.length cap] 24).alloc (.cells #[.int .i64 W2, .int .i64 H2, .slice bo b.length bcap] 24))
  have BB0 := Lib.hid (Blk.new (w.alloc (.cells #[.int .i64 W, .int .i64 H, .slice ao a.length cap] 24)) #[.int .i64 W2, .int .i64 H2, .slice bo b.length bcap] 24)
  simp only [World.size_alloc] at BB0
  clear hv hu hg hpx
  go_enter Tryd.func7, Tryd.ntmps7
  have g0 : Below w.heap.size w w := Below.refl _ _
  go_wp2_with fail
  refine (first_any _ (HG.out.ext (by go_grown))).mono ?_
  rintro e w1 ⟨rfl, hb1⟩
  have j1 : Below w.heap.size w w1 := ext (by go_grown) hb1
  have g1 : Below w.heap.size w w1 := ext g0 j1
  have s1 := j1.size
  have t1 := g1.size
  have BA := Lib.hid (BA0.out.ext hb1)
  have BB := Lib.hid (BB0.out.ext hb1)
  have jL : Below w1.heap.size w1 (w1.alloc (.cells #[.int .i64 W, .int .i64 H, .slice ao a.length cap, .int .i64 W2, .int .i64 H2, .slice bo b.length bcap] 24)) := by go_grown
  have FL := Lib.hid (show Frames (w1.alloc (.cells #[.int .i64 W, .int .i64 H, .slice ao a.length cap, .int .i64 W2, .int .i64 H2, .slice bo b.length bcap] 24)) (.slice (some ⟨w1.heap.size, 0, none⟩) 2 2) [(⟨W, H, a⟩ : Fr), (⟨W2, H2, b⟩ : Fr)] from frames_two (Blk.new w1 #[.int .i64 W, .int .i64 H, .slice ao a.length cap, .int .i64 W2, .int .i64 H2, .slice bo b.length bcap] 24) ((HV.out.ext j1).ext jL) ((HU.out.ext j1).ext jL))
  obtain ⟨BA0, BA1, BA2, BA3, BA4, BA5⟩ := (BA.out).three
  have BAl := (BA.out).lt
  obtain ⟨BB0, BB1, BB2, BB3, BB4, BB5⟩ := (BB.out).three
  have BBl := (BB.out).lt
  go_wp2_with fail
  clear BA0 BA1 BA2 BA3 BA4 BA5 BAl
  clear BB0 BB1 BB2 BB3 BB4 BB5 BBl
  refine (C1.out _ _ FL.out).mono ?_
  rintro e w2 ⟨rfl, hb2⟩
  have j2 : Below w1.heap.size w1 w2 := ext (by go_grown) hb2
  have g2 : Below w.heap.size w w2 := ext g1 j2
  have s2 := j2.size
  have t2 := g2.size
  go_wp2_with fail
  refine (first_any _ (((HG.out.ext j1).ext j2).ext (by go_grown))).mono ?_
  rintro e w3 ⟨rfl, hb3⟩
  have j3 : Below w2.heap.size w2 w3 := ext (by go_grown) hb3
  have g3 : Below w.heap.size w w3 := ext g2 j3
  have s3 := j3.size
  have t3 := g3.size
  go_wp2
  all_goals go_returns
  all_goals exact ⟨by first | rfl | (simp; done) | (simp; omega), g3⟩

set_option maxRecDepth 100000 in
set_option maxHeartbeats 16000000 in
theorem flat_e (v u : Value) (W H : Int) (a : List Int) (W2 H2 : Int) (b : List Int) (w : World) (hv : FrameV w v W H a) (hu : FrameV w u W2 H2 b) (hg : TypeIs w) (hp : pixB [(⟨W, H, a⟩ : Fr), (⟨W2, H2, b⟩ : Fr)] = true) (hm : mayB W H a = false) :
    Calls Tryd.prog 7 #[v, u] w fun e w' => e = .returned (.bool true) ∧ Below w.heap.size w w' := by
  have HG := Lib.hid hg
  have cp := fun x w h => pix_any x [(⟨W, H, a⟩ : Fr), (⟨W2, H2, b⟩ : Fr)] w h
  rw [hp] at cp
  have C1 := Lib.hid cp
  clear cp hp
  have c2 := fun v w h => cinn v W H a w h
  have c3 := fun v u w h1 h2 => cout v u W H a W H a w h1 h2
  rw [show innE (⟨W, H, a⟩ : Fr) = 2 from by unfold innE; rw [hm]; rfl, show innV (⟨W, H, a⟩ : Fr) = 0 from by unfold innV; rw [hm]; rfl, errV_ne (by decide)] at c2
  rw [no_self (f := (⟨W, H, a⟩ : Fr)) hm, show outV (⟨W, H, a⟩ : Fr) (⟨W, H, a⟩ : Fr) = 0 from outV_self _, errV_ne (by decide)] at c3
  have C2 := Lib.hid c2
  have C3 := Lib.hid c3
  clear c2 c3 hm
  have HV := Lib.hid hv
  have HU := Lib.hid hu
  obtain ⟨ao, cap, rfl, hpx⟩ := hv.cells
  obtain ⟨bo, bcap, rfl, -⟩ := hu.cells
  have HPX := Lib.hid hpx
  have BA0 := Lib.hid ((Blk.new w #[.int .i64 W, .int .i64 H, .slice ao a.length cap] 24).alloc (.cells #[.int .i64 W2, .int .i64 H2, .slice bo b.length bcap] 24))
  have BB0 := Lib.hid (Blk.new (w.alloc (.cells #[.int .i64 W, .int .i64 H, .slice ao a.length cap] 24)) #[.int .i64 W2, .int .i64 H2, .slice bo b.length bcap] 24)
  simp only [World.size_alloc] at BB0
  clear hv hu hg hpx
  go_enter Tryd.func7, Tryd.ntmps7
  have g0 : Below w.heap.size w w := Below.refl _ _
  go_wp2_with fail
  refine (first_any _ (HG.out.ext (by go_grown))).mono ?_
  rintro e w1 ⟨rfl, hb1⟩
  have j1 : Below w.heap.size w w1 := ext (by go_grown) hb1
  have g1 : Below w.heap.size w w1 := ext g0 j1
  have s1 := j1.size
  have t1 := g1.size
  have BA := Lib.hid (BA0.out.ext hb1)
  have BB := Lib.hid (BB0.out.ext hb1)
  have jL : Below w1.heap.size w1 (w1.alloc (.cells #[.int .i64 W, .int .i64 H, .slice ao a.length cap, .int .i64 W2, .int .i64 H2, .slice bo b.length bcap] 24)) := by go_grown
  have FL := Lib.hid (show Frames (w1.alloc (.cells #[.int .i64 W, .int .i64 H, .slice ao a.length cap, .int .i64 W2, .int .i64 H2, .slice bo b.length bcap] 24)) (.slice (some ⟨w1.heap.size, 0, none⟩) 2 2) [(⟨W, H, a⟩ : Fr), (⟨W2, H2, b⟩ : Fr)] from frames_two (Blk.new w1 #[.int .i64 W, .int .i64 H, .slice ao a.length cap, .int .i64 W2, .int .i64 H2, .slice bo b.length bcap] 24) ((HV.out.ext j1).ext jL) ((HU.out.ext j1).ext jL))
  obtain ⟨BA0, BA1, BA2, BA3, BA4, BA5⟩ := (BA.out).three
  have BAl := (BA.out).lt
  obtain ⟨BB0, BB1, BB2, BB3, BB4, BB5⟩ := (BB.out).three
  have BBl := (BB.out).lt
  go_wp2_with fail
  clear BA0 BA1 BA2 BA3 BA4 BA5 BAl
  clear BB0 BB1 BB2 BB3 BB4 BB5 BBl
  refine (C1.out _ _ FL.out).mono ?_
  rintro e w2 ⟨rfl, hb2⟩
  have j2 : Below w1.heap.size w1 w2 := ext (by go_grown) hb2
  have g2 : Below w.heap.size w w2 := ext g1 j2
  have s2 := j2.size
  have t2 := g2.size
  obtain ⟨BA0, BA1, BA2, BA3, BA4, BA5⟩ := ((BA.out.ext j2)).three
  have BAl := ((BA.out.ext j2)).lt
  go_wp2_with fail
  clear BA0 BA1 BA2 BA3 BA4 BA5 BAl
  refine (C2.out _ _ (((HV.out.ext j1).ext j2).ext (by go_grown))).mono ?_
  rintro e w3 ⟨rfl, hb3⟩
  have j3 : Below w2.heap.size w2 w3 := ext (by go_grown) hb3
  have g3 : Below w.heap.size w w3 := ext g2 j3
  have s3 := j3.size
  have t3 := g3.size
  obtain ⟨BA0, BA1, BA2, BA3, BA4, BA5⟩ := (((BA.out.ext j2).ext j3)).three
  have BAl := (((BA.out.ext j2).ext j3)).lt
  go_wp2_with fail
  clear BA0 BA1 BA2 BA3 BA4 BA5 BAl
  refine (C3.out _ _ _ ((((HV.out.ext j1).ext j2).ext j3).ext (by go_grown)) ((((HV.out.ext j1).ext j2).ext j3).ext (by go_grown))).mono ?_
  rintro e w4 ⟨rfl, hb4⟩
  have j4 : Below w3.heap.size w3 w4 := ext (by go_grown) hb4
  have g4 : Below w.heap.size w w4 := ext g3 j4
  have s4 := j4.size
  have t4 := g4.size
  go_wp2_with fail
  refine (first_any _ (((((HG.out.ext j1).ext j2).ext j3).ext j4).ext (by go_grown))).mono ?_
  rintro e w5 ⟨rfl, hb5⟩
  have j5 : Below w4.heap.size w4 w5 := ext (by go_grown) hb5
  have g5 : Below w.heap.size w w5 := ext g4 j5
  have s5 := j5.size
  have t5 := g5.size
  go_wp2
  all_goals go_returns
  all_goals exact ⟨by first | rfl | (simp; done) | (simp; omega), g5⟩

set_option maxRecDepth 100000 in
set_option maxHeartbeats 16000000 in
theorem flat_tz (v u : Value) (W H : Int) (a : List Int) (W2 H2 : Int) (b : List Int) (w : World) (hv : FrameV w v W H a) (hu : FrameV w u W2 H2 b) (hg : TypeIs w) (hp : pixB [(⟨W, H, a⟩ : Fr), (⟨W2, H2, b⟩ : Fr)] = true) (hm : mayB W H a = true) (hw : withinB a (a.getD 0 0) (a.getD 0 0) = true) (he : unlE (⟨W, H, a⟩ : Fr) (⟨W2, H2, b⟩ : Fr) = 0) :
    Calls Tryd.prog 7 #[v, u] w fun e w' => e = .returned (.bool true) ∧ Below w.heap.size w w' := by
  have HG := Lib.hid hg
  have cp := fun x w h => pix_any x [(⟨W, H, a⟩ : Fr), (⟨W2, H2, b⟩ : Fr)] w h
  rw [hp] at cp
  have C1 := Lib.hid cp
  clear cp hp
  have c2 := fun v w h => cinn v W H a w h
  have c3 := fun v u w h1 h2 => cout v u W H a W H a w h1 h2
  have c4 := fun v u w h1 h2 => cout v u W H a W2 H2 b w h1 h2
  have c5 := fun v u w h1 h2 => csum v u W H a W2 H2 b w h1 h2
  have hbd := innV_bd (⟨W, H, a⟩ : Fr)
  have hob := outV_bd (⟨W, H, a⟩ : Fr) (⟨W2, H2, b⟩ : Fr)
  have hlen := (mayB_iff.1 hm).bd
  have i0 := (within_get (mayB_iff.1 hm).pix (show (0 : Int) ≤ 0 by omega) (show (0 : Int) ≤ 255 by omega) 0)
  rw [show innE (⟨W, H, a⟩ : Fr) = 0 from by unfold innE; rw [hm]; rfl, errV_zero] at c2
  rw [may_self (f := (⟨W, H, a⟩ : Fr)) hm, show outV (⟨W, H, a⟩ : Fr) (⟨W, H, a⟩ : Fr) = 0 from outV_self _, errV_zero] at c3
  have hs := outV_le_sad he
  rw [he, errV_zero] at c4
  rw [he, errV_zero, okI_zero rfl] at c5
  have hs2 : outV (⟨W, H, a⟩ : Fr) (⟨W2, H2, b⟩ : Fr) ≤ sadV a b := hs
  generalize sadV a b = s at *
  rw [show innV (⟨W, H, a⟩ : Fr) = 0 from innV_flat hw] at c2 hob
  have C2 := Lib.hid c2
  have C3 := Lib.hid c3
  have C4 := Lib.hid c4
  have C5 := Lib.hid c5
  have CW0 := Lib.hid (fun x w h => within_any x a (a.getD 0 0) (a.getD 0 0) w h)
  rw [hw] at CW0
  clear c2 c3 c4 c5 hm he hs hw
  generalize unlE (⟨W, H, a⟩ : Fr) (⟨W2, H2, b⟩ : Fr) = ee at *
  generalize innV (⟨W, H, a⟩ : Fr) = n at *
  generalize outV (⟨W, H, a⟩ : Fr) (⟨W2, H2, b⟩ : Fr) = m at *
  generalize hx0 : a.getD 0 0 = x0 at *
  have HX0 := Lib.hid hx0
  obtain ⟨hbd1, hbd2⟩ := hbd
  obtain ⟨hob1, hob2⟩ := hob
  obtain ⟨hl1, hl2⟩ := hlen
  obtain ⟨i1, i2⟩ := i0
  clear hx0
  have HV := Lib.hid hv
  have HU := Lib.hid hu
  obtain ⟨ao, cap, rfl, hpx⟩ := hv.cells
  obtain ⟨bo, bcap, rfl, -⟩ := hu.cells
  have HPX := Lib.hid hpx
  have BA0 := Lib.hid ((Blk.new w #[.int .i64 W, .int .i64 H, .slice ao a.length cap] 24).alloc (.cells #[.int .i64 W2, .int .i64 H2, .slice bo b.length bcap] 24))
  have BB0 := Lib.hid (Blk.new (w.alloc (.cells #[.int .i64 W, .int .i64 H, .slice ao a.length cap] 24)) #[.int .i64 W2, .int .i64 H2, .slice bo b.length bcap] 24)
  simp only [World.size_alloc] at BB0
  clear hv hu hg hpx
  go_enter Tryd.func7, Tryd.ntmps7
  have g0 : Below w.heap.size w w := Below.refl _ _
  go_wp2_with fail
  refine (first_any _ (HG.out.ext (by go_grown))).mono ?_
  rintro e w1 ⟨rfl, hb1⟩
  have j1 : Below w.heap.size w w1 := ext (by go_grown) hb1
  have g1 : Below w.heap.size w w1 := ext g0 j1
  have s1 := j1.size
  have t1 := g1.size
  have BA := Lib.hid (BA0.out.ext hb1)
  have BB := Lib.hid (BB0.out.ext hb1)
  have jL : Below w1.heap.size w1 (w1.alloc (.cells #[.int .i64 W, .int .i64 H, .slice ao a.length cap, .int .i64 W2, .int .i64 H2, .slice bo b.length bcap] 24)) := by go_grown
  have FL := Lib.hid (show Frames (w1.alloc (.cells #[.int .i64 W, .int .i64 H, .slice ao a.length cap, .int .i64 W2, .int .i64 H2, .slice bo b.length bcap] 24)) (.slice (some ⟨w1.heap.size, 0, none⟩) 2 2) [(⟨W, H, a⟩ : Fr), (⟨W2, H2, b⟩ : Fr)] from frames_two (Blk.new w1 #[.int .i64 W, .int .i64 H, .slice ao a.length cap, .int .i64 W2, .int .i64 H2, .slice bo b.length bcap] 24) ((HV.out.ext j1).ext jL) ((HU.out.ext j1).ext jL))
  obtain ⟨BA0, BA1, BA2, BA3, BA4, BA5⟩ := (BA.out).three
  have BAl := (BA.out).lt
  obtain ⟨BB0, BB1, BB2, BB3, BB4, BB5⟩ := (BB.out).three
  have BBl := (BB.out).lt
  go_wp2_with fail
  clear BA0 BA1 BA2 BA3 BA4 BA5 BAl
  clear BB0 BB1 BB2 BB3 BB4 BB5 BBl
  refine (C1.out _ _ FL.out).mono ?_
  rintro e w2 ⟨rfl, hb2⟩
  have j2 : Below w1.heap.size w1 w2 := ext (by go_grown) hb2
  have g2 : Below w.heap.size w w2 := ext g1 j2
  have s2 := j2.size
  have t2 := g2.size
  obtain ⟨BA0, BA1, BA2, BA3, BA4, BA5⟩ := ((BA.out.ext j2)).three
  have BAl := ((BA.out.ext j2)).lt
  go_wp2_with fail
  clear BA0 BA1 BA2 BA3 BA4 BA5 BAl
  refine (C2.out _ _ (((HV.out.ext j1).ext j2).ext (by go_grown))).mono ?_
  rintro e w3 ⟨rfl, hb3⟩
  have j3 : Below w2.heap.size w2 w3 := ext (by go_grown) hb3
  have g3 : Below w.heap.size w w3 := ext g2 j3
  have s3 := j3.size
  have t3 := g3.size
  obtain ⟨BA0, BA1, BA2, BA3, BA4, BA5⟩ := (((BA.out.ext j2).ext j3)).three
  have BAl := (((BA.out.ext j2).ext j3)).lt
  go_wp2_with fail
  clear BA0 BA1 BA2 BA3 BA4 BA5 BAl
  refine (C3.out _ _ _ ((((HV.out.ext j1).ext j2).ext j3).ext (by go_grown)) ((((HV.out.ext j1).ext j2).ext j3).ext (by go_grown))).mono ?_
  rintro e w4 ⟨rfl, hb4⟩
  have j4 : Below w3.heap.size w3 w4 := ext (by go_grown) hb4
  have g4 : Below w.heap.size w w4 := ext g3 j4
  have s4 := j4.size
  have t4 := g4.size
  obtain ⟨pb, po, rfl, cx, lbx⟩ := (((((HPX.out.ext j1).ext j2).ext j3).ext j4)).cellN (j := 0) (by omega)
  rw [HX0.out] at cx
  simp only [Nat.add_zero] at cx
  have CW : Hid (∀ n, Calls Tryd.prog 21 #[.slice (some ⟨pb, po, none⟩) a.length cap, .int .i64 x0, .int .i64 x0] (w4.drewN n) fun e w' => e = .returned (.bool true) ∧ w' = w4.drewN n) := fun n => (CW0.out _ _ (show Ints (w4.drewN n) _ a from (((((HPX.out.ext j1).ext j2).ext j3).ext j4)).ext (below_drewN' (Below.refl _ _) n))).mono fun e w' ⟨h1, h2⟩ => ⟨h1, h2.symm⟩
  obtain ⟨f0, f1, f2, -, -, -⟩ := ((((BA.out.ext j2).ext j3).ext j4)).three
  have lf := ((((BA.out.ext j2).ext j3).ext j4)).lt
  have hlp : 0 < a.length := by omega
  go_wp2_with fail
  go_quiet ((go_at_call 21; exact Calls.quiet_of_same (CW.out _)))
  rename_i nq
  have j5 : Below w4.heap.size w4 (w4.drewN nq) := below_drewN' (Below.refl _ _) nq
  generalize hq5 : w4.drewN nq = w5 at *
  clear hq5
  have g5 : Below w.heap.size w w5 := ext g4 j5
  have s5 := j5.size
  have t5 := g5.size
  clear f0 f1 f2 lf cx lbx
  obtain ⟨BA0, BA1, BA2, BA3, BA4, BA5⟩ := (((((BA.out.ext j2).ext j3).ext j4).ext j5)).three
  have BAl := (((((BA.out.ext j2).ext j3).ext j4).ext j5)).lt
  obtain ⟨BB0, BB1, BB2, BB3, BB4, BB5⟩ := (((((BB.out.ext j2).ext j3).ext j4).ext j5)).three
  have BBl := (((((BB.out.ext j2).ext j3).ext j4).ext j5)).lt
  go_wp2_with fail
  clear BA0 BA1 BA2 BA3 BA4 BA5 BAl
  clear BB0 BB1 BB2 BB3 BB4 BB5 BBl
  refine (C4.out _ _ _ ((((((HV.out.ext j1).ext j2).ext j3).ext j4).ext j5).ext (by go_grown)) ((((((HU.out.ext j1).ext j2).ext j3).ext j4).ext j5).ext (by go_grown))).mono ?_
  rintro e w6 ⟨rfl, hb6⟩
  have j6 : Below w5.heap.size w5 w6 := ext (by go_grown) hb6
  have g6 : Below w.heap.size w w6 := ext g5 j6
  have s6 := j6.size
  have t6 := g6.size
  obtain ⟨BA0, BA1, BA2, BA3, BA4, BA5⟩ := ((((((BA.out.ext j2).ext j3).ext j4).ext j5).ext j6)).three
  have BAl := ((((((BA.out.ext j2).ext j3).ext j4).ext j5).ext j6)).lt
  obtain ⟨BB0, BB1, BB2, BB3, BB4, BB5⟩ := ((((((BB.out.ext j2).ext j3).ext j4).ext j5).ext j6)).three
  have BBl := ((((((BB.out.ext j2).ext j3).ext j4).ext j5).ext j6)).lt
  go_wp2_with fail
  clear BA0 BA1 BA2 BA3 BA4 BA5 BAl
  clear BB0 BB1 BB2 BB3 BB4 BB5 BBl
  refine (C5.out _ _ _ (((((((HV.out.ext j1).ext j2).ext j3).ext j4).ext j5).ext j6).ext (by go_grown)) (((((((HU.out.ext j1).ext j2).ext j3).ext j4).ext j5).ext j6).ext (by go_grown))).mono ?_
  rintro e w7 ⟨rfl, hb7⟩
  have j7 : Below w6.heap.size w6 w7 := ext (by go_grown) hb7
  have g7 : Below w.heap.size w w7 := ext g6 j7
  have s7 := j7.size
  have t7 := g7.size
  go_wp2
  refine wp_region_held_drew (S := fun _ => True) (by kernel_rfl) trivial (fun hHeld => ?_)
  refine wpAnyH_ready (rs := [0]) (by kernel_rfl) (by simp) ?_
  refine AllReadyH.cons rfl (fun K hK => ?_) AllReadyH.nil
  go_simp
  (go_at_call 8; refine (first_any _ ((((((((HG.out.ext j1).ext j2).ext j3).ext j4).ext j5).ext j6).ext j7).ext (by go_grown))).mono ?_; rintro e w9 ⟨rfl, hb9⟩; have g9 : Below w.heap.size w w9 := ext g7 (ext (by go_grown) hb9))
  go_wp2_with fail
  refine hK.out _ _ trivial (fun hHeld => ?_)
  clear hK K
  try simp only [List.getElem_toArray, List.getElem_cons_zero, List.getElem_cons_succ, Act.put, List.setIfInBounds_toArray, List.set_cons_zero, List.set_cons_succ]
  refine wpAnyH_take (i := 1) (v := ?_) rfl (by kernel_rfl) (by kernel_rfl) (by kernel_rfl) (fun _ _ _ h => h) (Or.inl ⟨by rfl, ?_⟩) trivial ?_
  rotate_left
  · (intro w hSw; go_simp; try with_reducible rfl)
  try simp only [List.getElem_toArray, List.getElem_cons_zero, List.getElem_cons_succ, Act.put, List.setIfInBounds_toArray, List.set_cons_zero, List.set_cons_succ]
  refine wpAnyH_take (i := 2) (v := ?_) rfl (by kernel_rfl) (by kernel_rfl) (by kernel_rfl) (fun _ _ _ h => h) (Or.inl ⟨by rfl, ?_⟩) trivial ?_
  rotate_left
  · (intro w hSw; go_simp; try with_reducible rfl)
  try simp only [List.getElem_toArray, List.getElem_cons_zero, List.getElem_cons_succ, Act.put, List.setIfInBounds_toArray, List.set_cons_zero, List.set_cons_succ]
  refine wpAnyH_take (i := 3) (v := ?_) rfl (by kernel_rfl) (by kernel_rfl) (by kernel_rfl) (fun _ _ _ h => h) (Or.inl ⟨by rfl, ?_⟩) trivial ?_
  rotate_left
  · (intro w hSw; go_simp; try with_reducible rfl)
  try simp only [List.getElem_toArray, List.getElem_cons_zero, List.getElem_cons_succ, Act.put, List.setIfInBounds_toArray, List.set_cons_zero, List.set_cons_succ]
  refine wpAnyH_take (i := 4) (v := ?_) rfl (by kernel_rfl) (by kernel_rfl) (by kernel_rfl) (fun _ _ _ h => h) (Or.inl ⟨by rfl, ?_⟩) trivial ?_
  rotate_left
  · (intro w hSw; go_simp; try with_reducible rfl)
  try simp only [List.getElem_toArray, List.getElem_cons_zero, List.getElem_cons_succ, Act.put, List.setIfInBounds_toArray, List.set_cons_zero, List.set_cons_succ]
  refine wpAnyH_take (i := 5) (v := ?_) rfl (by kernel_rfl) (by kernel_rfl) (by kernel_rfl) (fun _ _ _ h => h) (Or.inl ⟨by rfl, ?_⟩) trivial ?_
  rotate_left
  · (intro w hSw; go_simp; try with_reducible rfl)
  try simp only [List.getElem_toArray, List.getElem_cons_zero, List.getElem_cons_succ, Act.put, List.setIfInBounds_toArray, List.set_cons_zero, List.set_cons_succ]
  refine wpAnyH_take (i := 6) (v := ?_) rfl (by kernel_rfl) (by kernel_rfl) (by kernel_rfl) (fun _ _ _ h => h) (Or.inl ⟨by rfl, ?_⟩) trivial ?_
  rotate_left
  · (intro w hSw; go_simp; try with_reducible rfl)
  try simp only [List.getElem_toArray, List.getElem_cons_zero, List.getElem_cons_succ, Act.put, List.setIfInBounds_toArray, List.set_cons_zero, List.set_cons_succ]
  refine wpAnyH_take (i := 7) (v := ?_) rfl (by kernel_rfl) (by kernel_rfl) (by kernel_rfl) (fun _ _ _ h => h) (Or.inl ⟨by rfl, ?_⟩) trivial ?_
  rotate_left
  · (intro w hSw; go_simp; try with_reducible rfl)
  try simp only [List.getElem_toArray, List.getElem_cons_zero, List.getElem_cons_succ, Act.put, List.setIfInBounds_toArray, List.set_cons_zero, List.set_cons_succ]
  refine wpAnyH_take (i := 8) (v := ?_) rfl (by kernel_rfl) (by kernel_rfl) (by kernel_rfl) (fun _ _ _ h => h) (Or.inl ⟨by rfl, ?_⟩) trivial ?_
  rotate_left
  · (intro w hSw; go_simp; try with_reducible rfl)
  try simp only [List.getElem_toArray, List.getElem_cons_zero, List.getElem_cons_succ, Act.put, List.setIfInBounds_toArray, List.set_cons_zero, List.set_cons_succ]
  refine wpAnyH_take (i := 9) (v := ?_) rfl (by kernel_rfl) (by kernel_rfl) (by kernel_rfl) (fun _ _ _ h => h) (Or.inl ⟨by rfl, ?_⟩) trivial ?_
  rotate_left
  · (intro w hSw; go_simp; try with_reducible rfl)
  try simp only [List.getElem_toArray, List.getElem_cons_zero, List.getElem_cons_succ, Act.put, List.setIfInBounds_toArray, List.set_cons_zero, List.set_cons_succ]
  refine wpAnyH_take (i := 10) (v := ?_) rfl (by kernel_rfl) (by kernel_rfl) (by kernel_rfl) (fun _ _ _ h => h) (Or.inl ⟨by rfl, ?_⟩) trivial ?_
  rotate_left
  · (intro w hSw; go_simp; try with_reducible rfl)
  try simp only [List.getElem_toArray, List.getElem_cons_zero, List.getElem_cons_succ, Act.put, List.setIfInBounds_toArray, List.set_cons_zero, List.set_cons_succ]
  refine wpAnyH_take (i := 11) (v := ?_) rfl (by kernel_rfl) (by kernel_rfl) (by kernel_rfl) (fun _ _ _ h => h) (Or.inl ⟨by rfl, ?_⟩) trivial ?_
  rotate_left
  · (intro w hSw; go_simp; try with_reducible rfl)
  try simp only [List.getElem_toArray, List.getElem_cons_zero, List.getElem_cons_succ, Act.put, List.setIfInBounds_toArray, List.set_cons_zero, List.set_cons_succ]
  refine wpAnyH_take (i := 12) (v := ?_) rfl (by kernel_rfl) (by kernel_rfl) (by kernel_rfl) (fun _ _ _ h => h) (Or.inl ⟨by rfl, ?_⟩) trivial ?_
  rotate_left
  · (intro w hSw; go_simp; try with_reducible rfl)
  try simp only [List.getElem_toArray, List.getElem_cons_zero, List.getElem_cons_succ, Act.put, List.setIfInBounds_toArray, List.set_cons_zero, List.set_cons_succ]
  refine wpAnyH_take (i := 13) (v := ?_) rfl (by kernel_rfl) (by kernel_rfl) (by kernel_rfl) (fun _ _ _ h => h) (Or.inl ⟨by rfl, ?_⟩) trivial ?_
  rotate_left
  · (intro w hSw; go_simp; try with_reducible rfl)
  try simp only [List.getElem_toArray, List.getElem_cons_zero, List.getElem_cons_succ, Act.put, List.setIfInBounds_toArray, List.set_cons_zero, List.set_cons_succ]
  refine wpAnyH_take (i := 14) (v := ?_) rfl (by kernel_rfl) (by kernel_rfl) (by kernel_rfl) (fun _ _ _ h => h) (Or.inl ⟨by rfl, ?_⟩) trivial ?_
  rotate_left
  · (intro w hSw; go_simp; try with_reducible rfl)
  try simp only [List.getElem_toArray, List.getElem_cons_zero, List.getElem_cons_succ, Act.put, List.setIfInBounds_toArray, List.set_cons_zero, List.set_cons_succ]
  refine wpAnyH_take (i := 15) (v := ?_) rfl (by kernel_rfl) (by kernel_rfl) (by kernel_rfl) (fun _ _ _ h => h) (Or.inl ⟨by rfl, ?_⟩) trivial ?_
  rotate_left
  · (intro w hSw; go_simp; try with_reducible rfl)
  try simp only [List.getElem_toArray, List.getElem_cons_zero, List.getElem_cons_succ, Act.put, List.setIfInBounds_toArray, List.set_cons_zero, List.set_cons_succ]
  refine wpAnyH_take (i := 16) (v := ?_) rfl (by kernel_rfl) (by kernel_rfl) (by kernel_rfl) (fun _ _ _ h => h) (Or.inl ⟨by rfl, ?_⟩) trivial ?_
  rotate_left
  · (intro w hSw; go_simp; try with_reducible rfl)
  try simp only [List.getElem_toArray, List.getElem_cons_zero, List.getElem_cons_succ, Act.put, List.setIfInBounds_toArray, List.set_cons_zero, List.set_cons_succ]
  refine wpAnyH_take (i := 17) (v := ?_) rfl (by kernel_rfl) (by kernel_rfl) (by kernel_rfl) (fun _ _ _ h => h) (Or.inl ⟨by rfl, ?_⟩) trivial ?_
  rotate_left
  · (intro w hSw; go_simp; try with_reducible rfl)
  try simp only [List.getElem_toArray, List.getElem_cons_zero, List.getElem_cons_succ, Act.put, List.setIfInBounds_toArray, List.set_cons_zero, List.set_cons_succ]
  refine wpAnyH_take (i := 18) (v := ?_) rfl (by kernel_rfl) (by kernel_rfl) (by kernel_rfl) (fun _ _ _ h => h) (Or.inl ⟨by rfl, ?_⟩) trivial ?_
  rotate_left
  · (intro w hSw; go_simp; try with_reducible rfl)
  try simp only [List.getElem_toArray, List.getElem_cons_zero, List.getElem_cons_succ, Act.put, List.setIfInBounds_toArray, List.set_cons_zero, List.set_cons_succ]
  refine wpAnyH_take (i := 19) (v := ?_) rfl (by kernel_rfl) (by kernel_rfl) (by kernel_rfl) (fun _ _ _ h => h) (Or.inl ⟨by rfl, ?_⟩) trivial ?_
  rotate_left
  · (intro w hSw; go_simp; try with_reducible rfl)
  try simp only [List.getElem_toArray, List.getElem_cons_zero, List.getElem_cons_succ, Act.put, List.setIfInBounds_toArray, List.set_cons_zero, List.set_cons_succ]
  refine wpAnyH_take (i := 20) (v := ?_) rfl (by kernel_rfl) (by kernel_rfl) (by kernel_rfl) (fun _ _ _ h => h) (Or.inl ⟨by rfl, ?_⟩) trivial ?_
  rotate_left
  · (intro w hSw; go_simp; try with_reducible rfl)
  try simp only [List.getElem_toArray, List.getElem_cons_zero, List.getElem_cons_succ, Act.put, List.setIfInBounds_toArray, List.set_cons_zero, List.set_cons_succ]
  refine wpAnyH_take (i := 21) (v := ?_) rfl (by kernel_rfl) (by kernel_rfl) (by kernel_rfl) (fun _ _ _ h => h) (Or.inl ⟨by rfl, ?_⟩) trivial ?_
  rotate_left
  · (intro w hSw; go_simp; try with_reducible rfl)
  try simp only [List.getElem_toArray, List.getElem_cons_zero, List.getElem_cons_succ, Act.put, List.setIfInBounds_toArray, List.set_cons_zero, List.set_cons_succ]
  refine wpAnyH_take (i := 22) (v := ?_) rfl (by kernel_rfl) (by kernel_rfl) (by kernel_rfl) (fun _ _ _ h => h) (Or.inl ⟨by rfl, ?_⟩) trivial ?_
  rotate_left
  · (intro w hSw; go_simp; try with_reducible rfl)
  try simp only [List.getElem_toArray, List.getElem_cons_zero, List.getElem_cons_succ, Act.put, List.setIfInBounds_toArray, List.set_cons_zero, List.set_cons_succ]
  refine wpAnyH_take (i := 23) (v := ?_) rfl (by kernel_rfl) (by kernel_rfl) (by kernel_rfl) (fun _ _ _ h => h) (Or.inl ⟨by rfl, ?_⟩) trivial ?_
  rotate_left
  · (intro w hSw; go_simp; try with_reducible rfl)
  try simp only [List.getElem_toArray, List.getElem_cons_zero, List.getElem_cons_succ, Act.put, List.setIfInBounds_toArray, List.set_cons_zero, List.set_cons_succ]
  refine wpAnyH_take (i := 24) (v := ?_) rfl (by kernel_rfl) (by kernel_rfl) (by kernel_rfl) (fun _ _ _ h => h) (Or.inl ⟨by rfl, ?_⟩) trivial ?_
  rotate_left
  · (intro w hSw; go_simp; try with_reducible rfl)
  try simp only [List.getElem_toArray, List.getElem_cons_zero, List.getElem_cons_succ, Act.put, List.setIfInBounds_toArray, List.set_cons_zero, List.set_cons_succ]
  refine wpAnyH_take (i := 25) (v := ?_) rfl (by kernel_rfl) (by kernel_rfl) (by kernel_rfl) (fun _ _ _ h => h) (Or.inl ⟨by rfl, ?_⟩) trivial ?_
  rotate_left
  · (intro w hSw; go_simp; try with_reducible rfl)
  try simp only [List.getElem_toArray, List.getElem_cons_zero, List.getElem_cons_succ, Act.put, List.setIfInBounds_toArray, List.set_cons_zero, List.set_cons_succ]
  refine wpAnyH_take (i := 26) (v := ?_) rfl (by kernel_rfl) (by kernel_rfl) (by kernel_rfl) (fun _ _ _ h => h) (Or.inl ⟨by rfl, ?_⟩) trivial ?_
  rotate_left
  · (intro w hSw; go_simp; try with_reducible rfl)
  try simp only [List.getElem_toArray, List.getElem_cons_zero, List.getElem_cons_succ, Act.put, List.setIfInBounds_toArray, List.set_cons_zero, List.set_cons_succ]
  refine wpAnyH_take (i := 27) (v := ?_) rfl (by kernel_rfl) (by kernel_rfl) (by kernel_rfl) (fun _ _ _ h => h) (Or.inl ⟨by rfl, ?_⟩) trivial ?_
  rotate_left
  · (intro w hSw; go_simp; try with_reducible rfl)
  try simp only [List.getElem_toArray, List.getElem_cons_zero, List.getElem_cons_succ, Act.put, List.setIfInBounds_toArray, List.set_cons_zero, List.set_cons_succ]
  refine wpAnyH_take (i := 28) (v := ?_) rfl (by kernel_rfl) (by kernel_rfl) (by kernel_rfl) (fun _ _ _ h => h) (Or.inl ⟨by rfl, ?_⟩) trivial ?_
  rotate_left
  · (intro w hSw; go_simp; try with_reducible rfl)
  try simp only [List.getElem_toArray, List.getElem_cons_zero, List.getElem_cons_succ, Act.put, List.setIfInBounds_toArray, List.set_cons_zero, List.set_cons_succ]
  refine wpAnyH_take (i := 29) (v := ?_) rfl (by kernel_rfl) (by kernel_rfl) (by kernel_rfl) (fun _ _ _ h => h) (Or.inl ⟨by rfl, ?_⟩) trivial ?_
  rotate_left
  · (intro w hSw; go_simp; try with_reducible rfl)
  try simp only [List.getElem_toArray, List.getElem_cons_zero, List.getElem_cons_succ, Act.put, List.setIfInBounds_toArray, List.set_cons_zero, List.set_cons_succ]
  refine wpAnyH_take (i := 30) (v := ?_) rfl (by kernel_rfl) (by kernel_rfl) (by kernel_rfl) (fun _ _ _ h => h) (Or.inl ⟨by rfl, ?_⟩) trivial ?_
  rotate_left
  · (intro w hSw; go_simp; try with_reducible rfl)
  try simp only [List.getElem_toArray, List.getElem_cons_zero, List.getElem_cons_succ, Act.put, List.setIfInBounds_toArray, List.set_cons_zero, List.set_cons_succ]
  refine wpAnyH_take (i := 31) (v := ?_) rfl (by kernel_rfl) (by kernel_rfl) (by kernel_rfl) (fun _ _ _ h => h) (Or.inl ⟨by rfl, ?_⟩) trivial ?_
  rotate_left
  · (intro w hSw; go_simp; try with_reducible rfl)
  try simp only [List.getElem_toArray, List.getElem_cons_zero, List.getElem_cons_succ, Act.put, List.setIfInBounds_toArray, List.set_cons_zero, List.set_cons_succ]
  refine wpAnyH_take (i := 32) (v := ?_) rfl (by kernel_rfl) (by kernel_rfl) (by kernel_rfl) (fun _ _ _ h => h) (Or.inl ⟨by rfl, ?_⟩) trivial ?_
  rotate_left
  · (intro w hSw; go_simp; try with_reducible rfl)
  try simp only [List.getElem_toArray, List.getElem_cons_zero, List.getElem_cons_succ, Act.put, List.setIfInBounds_toArray, List.set_cons_zero, List.set_cons_succ]
  refine wpAnyH_take (i := 33) (v := ?_) rfl (by kernel_rfl) (by kernel_rfl) (by kernel_rfl) (fun _ _ _ h => h) (Or.inl ⟨by rfl, ?_⟩) trivial ?_
  rotate_left
  · (intro w hSw; go_simp; try with_reducible rfl)
  try simp only [List.getElem_toArray, List.getElem_cons_zero, List.getElem_cons_succ, Act.put, List.setIfInBounds_toArray, List.set_cons_zero, List.set_cons_succ]
  refine wpAnyH_take (i := 34) (v := ?_) rfl (by kernel_rfl) (by kernel_rfl) (by kernel_rfl) (fun _ _ _ h => h) (Or.inl ⟨by rfl, ?_⟩) trivial ?_
  rotate_left
  · (intro w hSw; go_simp; try with_reducible rfl)
  try simp only [List.getElem_toArray, List.getElem_cons_zero, List.getElem_cons_succ, Act.put, List.setIfInBounds_toArray, List.set_cons_zero, List.set_cons_succ]
  refine wpAnyH_take (i := 35) (v := ?_) rfl (by kernel_rfl) (by kernel_rfl) (by kernel_rfl) (fun _ _ _ h => h) (Or.inl ⟨by rfl, ?_⟩) trivial ?_
  rotate_left
  · (intro w hSw; go_simp; try with_reducible rfl)
  try simp only [List.getElem_toArray, List.getElem_cons_zero, List.getElem_cons_succ, Act.put, List.setIfInBounds_toArray, List.set_cons_zero, List.set_cons_succ]
  refine wpAnyH_take (i := 36) (v := ?_) rfl (by kernel_rfl) (by kernel_rfl) (by kernel_rfl) (fun _ _ _ h => h) (Or.inl ⟨by rfl, ?_⟩) trivial ?_
  rotate_left
  · (intro w hSw; go_simp; try with_reducible rfl)
  try simp only [List.getElem_toArray, List.getElem_cons_zero, List.getElem_cons_succ, Act.put, List.setIfInBounds_toArray, List.set_cons_zero, List.set_cons_succ]
  refine wpAnyH_take (i := 37) (v := ?_) rfl (by kernel_rfl) (by kernel_rfl) (by kernel_rfl) (fun _ _ _ h => h) (Or.inl ⟨by rfl, ?_⟩) trivial ?_
  rotate_left
  · (intro w hSw; go_simp; try with_reducible rfl)
  try simp only [List.getElem_toArray, List.getElem_cons_zero, List.getElem_cons_succ, Act.put, List.setIfInBounds_toArray, List.set_cons_zero, List.set_cons_succ]
  refine wpAnyH_take (i := 38) (v := ?_) rfl (by kernel_rfl) (by kernel_rfl) (by kernel_rfl) (fun _ _ _ h => h) (Or.inl ⟨by rfl, ?_⟩) trivial ?_
  rotate_left
  · (intro w hSw; go_simp; try with_reducible rfl)
  try simp only [List.getElem_toArray, List.getElem_cons_zero, List.getElem_cons_succ, Act.put, List.setIfInBounds_toArray, List.set_cons_zero, List.set_cons_succ]
  refine wpAnyH_done (by kernel_rfl) ?_ _
  go_wp2
  all_goals go_returns
  all_goals exact ⟨by first | rfl | (simp; done) | (simp; omega), by first | exact g9 | exact below_drewN' g9 _⟩

set_option maxRecDepth 100000 in
set_option maxHeartbeats 16000000 in
theorem flat_te (v u : Value) (W H : Int) (a : List Int) (W2 H2 : Int) (b : List Int) (w : World) (hv : FrameV w v W H a) (hu : FrameV w u W2 H2 b) (hg : TypeIs w) (hp : pixB [(⟨W, H, a⟩ : Fr), (⟨W2, H2, b⟩ : Fr)] = true) (hm : mayB W H a = true) (hw : withinB a (a.getD 0 0) (a.getD 0 0) = true) (he : unlE (⟨W, H, a⟩ : Fr) (⟨W2, H2, b⟩ : Fr) ≠ 0) :
    Calls Tryd.prog 7 #[v, u] w fun e w' => e = .returned (.bool true) ∧ Below w.heap.size w w' := by
  have HG := Lib.hid hg
  have cp := fun x w h => pix_any x [(⟨W, H, a⟩ : Fr), (⟨W2, H2, b⟩ : Fr)] w h
  rw [hp] at cp
  have C1 := Lib.hid cp
  clear cp hp
  have c2 := fun v w h => cinn v W H a w h
  have c3 := fun v u w h1 h2 => cout v u W H a W H a w h1 h2
  have c4 := fun v u w h1 h2 => cout v u W H a W2 H2 b w h1 h2
  have c5 := fun v u w h1 h2 => csum v u W H a W2 H2 b w h1 h2
  have hbd := innV_bd (⟨W, H, a⟩ : Fr)
  have hob := outV_bd (⟨W, H, a⟩ : Fr) (⟨W2, H2, b⟩ : Fr)
  have hlen := (mayB_iff.1 hm).bd
  have i0 := (within_get (mayB_iff.1 hm).pix (show (0 : Int) ≤ 0 by omega) (show (0 : Int) ≤ 255 by omega) 0)
  rw [show innE (⟨W, H, a⟩ : Fr) = 0 from by unfold innE; rw [hm]; rfl, errV_zero] at c2
  rw [may_self (f := (⟨W, H, a⟩ : Fr)) hm, show outV (⟨W, H, a⟩ : Fr) (⟨W, H, a⟩ : Fr) = 0 from outV_self _, errV_zero] at c3
  rw [errV_ne he, show outV (⟨W, H, a⟩ : Fr) (⟨W2, H2, b⟩ : Fr) = 0 from by unfold outV; rw [if_neg he]] at c4
  rw [errV_ne he, okI_ne he] at c5
  rw [show innV (⟨W, H, a⟩ : Fr) = 0 from innV_flat hw] at c2 hob
  have C2 := Lib.hid c2
  have C3 := Lib.hid c3
  have C4 := Lib.hid c4
  have C5 := Lib.hid c5
  have CW0 := Lib.hid (fun x w h => within_any x a (a.getD 0 0) (a.getD 0 0) w h)
  rw [hw] at CW0
  clear c2 c3 c4 c5 hm he hw
  generalize unlE (⟨W, H, a⟩ : Fr) (⟨W2, H2, b⟩ : Fr) = ee at *
  generalize innV (⟨W, H, a⟩ : Fr) = n at *
  generalize outV (⟨W, H, a⟩ : Fr) (⟨W2, H2, b⟩ : Fr) = m at *
  generalize hx0 : a.getD 0 0 = x0 at *
  have HX0 := Lib.hid hx0
  obtain ⟨hbd1, hbd2⟩ := hbd
  obtain ⟨hob1, hob2⟩ := hob
  obtain ⟨hl1, hl2⟩ := hlen
  obtain ⟨i1, i2⟩ := i0
  clear hx0
  have HV := Lib.hid hv
  have HU := Lib.hid hu
  obtain ⟨ao, cap, rfl, hpx⟩ := hv.cells
  obtain ⟨bo, bcap, rfl, -⟩ := hu.cells
  have HPX := Lib.hid hpx
  have BA0 := Lib.hid ((Blk.new w #[.int .i64 W, .int .i64 H, .slice ao a.length cap] 24).alloc (.cells #[.int .i64 W2, .int .i64 H2, .slice bo b.length bcap] 24))
  have BB0 := Lib.hid (Blk.new (w.alloc (.cells #[.int .i64 W, .int .i64 H, .slice ao a.length cap] 24)) #[.int .i64 W2, .int .i64 H2, .slice bo b.length bcap] 24)
  simp only [World.size_alloc] at BB0
  clear hv hu hg hpx
  go_enter Tryd.func7, Tryd.ntmps7
  have g0 : Below w.heap.size w w := Below.refl _ _
  go_wp2_with fail
  refine (first_any _ (HG.out.ext (by go_grown))).mono ?_
  rintro e w1 ⟨rfl, hb1⟩
  have j1 : Below w.heap.size w w1 := ext (by go_grown) hb1
  have g1 : Below w.heap.size w w1 := ext g0 j1
  have s1 := j1.size
  have t1 := g1.size
  have BA := Lib.hid (BA0.out.ext hb1)
  have BB := Lib.hid (BB0.out.ext hb1)
  have jL : Below w1.heap.size w1 (w1.alloc (.cells #[.int .i64 W, .int .i64 H, .slice ao a.length cap, .int .i64 W2, .int .i64 H2, .slice bo b.length bcap] 24)) := by go_grown
  have FL := Lib.hid (show Frames (w1.alloc (.cells #[.int .i64 W, .int .i64 H, .slice ao a.length cap, .int .i64 W2, .int .i64 H2, .slice bo b.length bcap] 24)) (.slice (some ⟨w1.heap.size, 0, none⟩) 2 2) [(⟨W, H, a⟩ : Fr), (⟨W2, H2, b⟩ : Fr)] from frames_two (Blk.new w1 #[.int .i64 W, .int .i64 H, .slice ao a.length cap, .int .i64 W2, .int .i64 H2, .slice bo b.length bcap] 24) ((HV.out.ext j1).ext jL) ((HU.out.ext j1).ext jL))
  obtain ⟨BA0, BA1, BA2, BA3, BA4, BA5⟩ := (BA.out).three
  have BAl := (BA.out).lt
  obtain ⟨BB0, BB1, BB2, BB3, BB4, BB5⟩ := (BB.out).three
  have BBl := (BB.out).lt
  go_wp2_with fail
  clear BA0 BA1 BA2 BA3 BA4 BA5 BAl
  clear BB0 BB1 BB2 BB3 BB4 BB5 BBl
  refine (C1.out _ _ FL.out).mono ?_
  rintro e w2 ⟨rfl, hb2⟩
  have j2 : Below w1.heap.size w1 w2 := ext (by go_grown) hb2
  have g2 : Below w.heap.size w w2 := ext g1 j2
  have s2 := j2.size
  have t2 := g2.size
  obtain ⟨BA0, BA1, BA2, BA3, BA4, BA5⟩ := ((BA.out.ext j2)).three
  have BAl := ((BA.out.ext j2)).lt
  go_wp2_with fail
  clear BA0 BA1 BA2 BA3 BA4 BA5 BAl
  refine (C2.out _ _ (((HV.out.ext j1).ext j2).ext (by go_grown))).mono ?_
  rintro e w3 ⟨rfl, hb3⟩
  have j3 : Below w2.heap.size w2 w3 := ext (by go_grown) hb3
  have g3 : Below w.heap.size w w3 := ext g2 j3
  have s3 := j3.size
  have t3 := g3.size
  obtain ⟨BA0, BA1, BA2, BA3, BA4, BA5⟩ := (((BA.out.ext j2).ext j3)).three
  have BAl := (((BA.out.ext j2).ext j3)).lt
  go_wp2_with fail
  clear BA0 BA1 BA2 BA3 BA4 BA5 BAl
  refine (C3.out _ _ _ ((((HV.out.ext j1).ext j2).ext j3).ext (by go_grown)) ((((HV.out.ext j1).ext j2).ext j3).ext (by go_grown))).mono ?_
  rintro e w4 ⟨rfl, hb4⟩
  have j4 : Below w3.heap.size w3 w4 := ext (by go_grown) hb4
  have g4 : Below w.heap.size w w4 := ext g3 j4
  have s4 := j4.size
  have t4 := g4.size
  obtain ⟨pb, po, rfl, cx, lbx⟩ := (((((HPX.out.ext j1).ext j2).ext j3).ext j4)).cellN (j := 0) (by omega)
  rw [HX0.out] at cx
  simp only [Nat.add_zero] at cx
  have CW : Hid (∀ n, Calls Tryd.prog 21 #[.slice (some ⟨pb, po, none⟩) a.length cap, .int .i64 x0, .int .i64 x0] (w4.drewN n) fun e w' => e = .returned (.bool true) ∧ w' = w4.drewN n) := fun n => (CW0.out _ _ (show Ints (w4.drewN n) _ a from (((((HPX.out.ext j1).ext j2).ext j3).ext j4)).ext (below_drewN' (Below.refl _ _) n))).mono fun e w' ⟨h1, h2⟩ => ⟨h1, h2.symm⟩
  obtain ⟨f0, f1, f2, -, -, -⟩ := ((((BA.out.ext j2).ext j3).ext j4)).three
  have lf := ((((BA.out.ext j2).ext j3).ext j4)).lt
  have hlp : 0 < a.length := by omega
  go_wp2_with fail
  go_quiet ((go_at_call 21; exact Calls.quiet_of_same (CW.out _)))
  rename_i nq
  have j5 : Below w4.heap.size w4 (w4.drewN nq) := below_drewN' (Below.refl _ _) nq
  generalize hq5 : w4.drewN nq = w5 at *
  clear hq5
  have g5 : Below w.heap.size w w5 := ext g4 j5
  have s5 := j5.size
  have t5 := g5.size
  clear f0 f1 f2 lf cx lbx
  obtain ⟨BA0, BA1, BA2, BA3, BA4, BA5⟩ := (((((BA.out.ext j2).ext j3).ext j4).ext j5)).three
  have BAl := (((((BA.out.ext j2).ext j3).ext j4).ext j5)).lt
  obtain ⟨BB0, BB1, BB2, BB3, BB4, BB5⟩ := (((((BB.out.ext j2).ext j3).ext j4).ext j5)).three
  have BBl := (((((BB.out.ext j2).ext j3).ext j4).ext j5)).lt
  go_wp2_with fail
  clear BA0 BA1 BA2 BA3 BA4 BA5 BAl
  clear BB0 BB1 BB2 BB3 BB4 BB5 BBl
  refine (C4.out _ _ _ ((((((HV.out.ext j1).ext j2).ext j3).ext j4).ext j5).ext (by go_grown)) ((((((HU.out.ext j1).ext j2).ext j3).ext j4).ext j5).ext (by go_grown))).mono ?_
  rintro e w6 ⟨rfl, hb6⟩
  have j6 : Below w5.heap.size w5 w6 := ext (by go_grown) hb6
  have g6 : Below w.heap.size w w6 := ext g5 j6
  have s6 := j6.size
  have t6 := g6.size
  obtain ⟨BA0, BA1, BA2, BA3, BA4, BA5⟩ := ((((((BA.out.ext j2).ext j3).ext j4).ext j5).ext j6)).three
  have BAl := ((((((BA.out.ext j2).ext j3).ext j4).ext j5).ext j6)).lt
  obtain ⟨BB0, BB1, BB2, BB3, BB4, BB5⟩ := ((((((BB.out.ext j2).ext j3).ext j4).ext j5).ext j6)).three
  have BBl := ((((((BB.out.ext j2).ext j3).ext j4).ext j5).ext j6)).lt
  go_wp2_with fail
  clear BA0 BA1 BA2 BA3 BA4 BA5 BAl
  clear BB0 BB1 BB2 BB3 BB4 BB5 BBl
  refine (C5.out _ _ _ (((((((HV.out.ext j1).ext j2).ext j3).ext j4).ext j5).ext j6).ext (by go_grown)) (((((((HU.out.ext j1).ext j2).ext j3).ext j4).ext j5).ext j6).ext (by go_grown))).mono ?_
  rintro e w7 ⟨rfl, hb7⟩
  have j7 : Below w6.heap.size w6 w7 := ext (by go_grown) hb7
  have g7 : Below w.heap.size w w7 := ext g6 j7
  have s7 := j7.size
  have t7 := g7.size
  go_wp2
  refine wp_region_held_drew (S := fun _ => True) (by kernel_rfl) trivial (fun hHeld => ?_)
  refine wpAnyH_ready (rs := [0]) (by kernel_rfl) (by simp) ?_
  refine AllReadyH.cons rfl (fun K hK => ?_) AllReadyH.nil
  go_simp
  (go_at_call 8; refine (first_any _ ((((((((HG.out.ext j1).ext j2).ext j3).ext j4).ext j5).ext j6).ext j7).ext (by go_grown))).mono ?_; rintro e w9 ⟨rfl, hb9⟩; have g9 : Below w.heap.size w w9 := ext g7 (ext (by go_grown) hb9))
  go_wp2_with fail
  refine hK.out _ _ trivial (fun hHeld => ?_)
  clear hK K
  try simp only [List.getElem_toArray, List.getElem_cons_zero, List.getElem_cons_succ, Act.put, List.setIfInBounds_toArray, List.set_cons_zero, List.set_cons_succ]
  refine wpAnyH_take (i := 1) (v := ?_) rfl (by kernel_rfl) (by kernel_rfl) (by kernel_rfl) (fun _ _ _ h => h) (Or.inl ⟨by rfl, ?_⟩) trivial ?_
  rotate_left
  · (intro w hSw; go_simp; try with_reducible rfl)
  try simp only [List.getElem_toArray, List.getElem_cons_zero, List.getElem_cons_succ, Act.put, List.setIfInBounds_toArray, List.set_cons_zero, List.set_cons_succ]
  refine wpAnyH_take (i := 2) (v := ?_) rfl (by kernel_rfl) (by kernel_rfl) (by kernel_rfl) (fun _ _ _ h => h) (Or.inl ⟨by rfl, ?_⟩) trivial ?_
  rotate_left
  · (intro w hSw; go_simp; try with_reducible rfl)
  try simp only [List.getElem_toArray, List.getElem_cons_zero, List.getElem_cons_succ, Act.put, List.setIfInBounds_toArray, List.set_cons_zero, List.set_cons_succ]
  refine wpAnyH_take (i := 3) (v := ?_) rfl (by kernel_rfl) (by kernel_rfl) (by kernel_rfl) (fun _ _ _ h => h) (Or.inl ⟨by rfl, ?_⟩) trivial ?_
  rotate_left
  · (intro w hSw; go_simp; try with_reducible rfl)
  try simp only [List.getElem_toArray, List.getElem_cons_zero, List.getElem_cons_succ, Act.put, List.setIfInBounds_toArray, List.set_cons_zero, List.set_cons_succ]
  refine wpAnyH_take (i := 4) (v := ?_) rfl (by kernel_rfl) (by kernel_rfl) (by kernel_rfl) (fun _ _ _ h => h) (Or.inl ⟨by rfl, ?_⟩) trivial ?_
  rotate_left
  · (intro w hSw; go_simp; try with_reducible rfl)
  try simp only [List.getElem_toArray, List.getElem_cons_zero, List.getElem_cons_succ, Act.put, List.setIfInBounds_toArray, List.set_cons_zero, List.set_cons_succ]
  refine wpAnyH_take (i := 5) (v := ?_) rfl (by kernel_rfl) (by kernel_rfl) (by kernel_rfl) (fun _ _ _ h => h) (Or.inl ⟨by rfl, ?_⟩) trivial ?_
  rotate_left
  · (intro w hSw; go_simp; try with_reducible rfl)
  try simp only [List.getElem_toArray, List.getElem_cons_zero, List.getElem_cons_succ, Act.put, List.setIfInBounds_toArray, List.set_cons_zero, List.set_cons_succ]
  refine wpAnyH_take (i := 6) (v := ?_) rfl (by kernel_rfl) (by kernel_rfl) (by kernel_rfl) (fun _ _ _ h => h) (Or.inl ⟨by rfl, ?_⟩) trivial ?_
  rotate_left
  · (intro w hSw; go_simp; try with_reducible rfl)
  try simp only [List.getElem_toArray, List.getElem_cons_zero, List.getElem_cons_succ, Act.put, List.setIfInBounds_toArray, List.set_cons_zero, List.set_cons_succ]
  refine wpAnyH_take (i := 7) (v := ?_) rfl (by kernel_rfl) (by kernel_rfl) (by kernel_rfl) (fun _ _ _ h => h) (Or.inl ⟨by rfl, ?_⟩) trivial ?_
  rotate_left
  · (intro w hSw; go_simp; try with_reducible rfl)
  try simp only [List.getElem_toArray, List.getElem_cons_zero, List.getElem_cons_succ, Act.put, List.setIfInBounds_toArray, List.set_cons_zero, List.set_cons_succ]
  refine wpAnyH_take (i := 8) (v := ?_) rfl (by kernel_rfl) (by kernel_rfl) (by kernel_rfl) (fun _ _ _ h => h) (Or.inl ⟨by rfl, ?_⟩) trivial ?_
  rotate_left
  · (intro w hSw; go_simp; try with_reducible rfl)
  try simp only [List.getElem_toArray, List.getElem_cons_zero, List.getElem_cons_succ, Act.put, List.setIfInBounds_toArray, List.set_cons_zero, List.set_cons_succ]
  refine wpAnyH_take (i := 9) (v := ?_) rfl (by kernel_rfl) (by kernel_rfl) (by kernel_rfl) (fun _ _ _ h => h) (Or.inl ⟨by rfl, ?_⟩) trivial ?_
  rotate_left
  · (intro w hSw; go_simp; try with_reducible rfl)
  try simp only [List.getElem_toArray, List.getElem_cons_zero, List.getElem_cons_succ, Act.put, List.setIfInBounds_toArray, List.set_cons_zero, List.set_cons_succ]
  refine wpAnyH_take (i := 10) (v := ?_) rfl (by kernel_rfl) (by kernel_rfl) (by kernel_rfl) (fun _ _ _ h => h) (Or.inl ⟨by rfl, ?_⟩) trivial ?_
  rotate_left
  · (intro w hSw; go_simp; try with_reducible rfl)
  try simp only [List.getElem_toArray, List.getElem_cons_zero, List.getElem_cons_succ, Act.put, List.setIfInBounds_toArray, List.set_cons_zero, List.set_cons_succ]
  refine wpAnyH_take (i := 11) (v := ?_) rfl (by kernel_rfl) (by kernel_rfl) (by kernel_rfl) (fun _ _ _ h => h) (Or.inl ⟨by rfl, ?_⟩) trivial ?_
  rotate_left
  · (intro w hSw; go_simp; try with_reducible rfl)
  try simp only [List.getElem_toArray, List.getElem_cons_zero, List.getElem_cons_succ, Act.put, List.setIfInBounds_toArray, List.set_cons_zero, List.set_cons_succ]
  refine wpAnyH_take (i := 12) (v := ?_) rfl (by kernel_rfl) (by kernel_rfl) (by kernel_rfl) (fun _ _ _ h => h) (Or.inl ⟨by rfl, ?_⟩) trivial ?_
  rotate_left
  · (intro w hSw; go_simp; try with_reducible rfl)
  try simp only [List.getElem_toArray, List.getElem_cons_zero, List.getElem_cons_succ, Act.put, List.setIfInBounds_toArray, List.set_cons_zero, List.set_cons_succ]
  refine wpAnyH_take (i := 13) (v := ?_) rfl (by kernel_rfl) (by kernel_rfl) (by kernel_rfl) (fun _ _ _ h => h) (Or.inl ⟨by rfl, ?_⟩) trivial ?_
  rotate_left
  · (intro w hSw; go_simp; try with_reducible rfl)
  try simp only [List.getElem_toArray, List.getElem_cons_zero, List.getElem_cons_succ, Act.put, List.setIfInBounds_toArray, List.set_cons_zero, List.set_cons_succ]
  refine wpAnyH_take (i := 14) (v := ?_) rfl (by kernel_rfl) (by kernel_rfl) (by kernel_rfl) (fun _ _ _ h => h) (Or.inl ⟨by rfl, ?_⟩) trivial ?_
  rotate_left
  · (intro w hSw; go_simp; try with_reducible rfl)
  try simp only [List.getElem_toArray, List.getElem_cons_zero, List.getElem_cons_succ, Act.put, List.setIfInBounds_toArray, List.set_cons_zero, List.set_cons_succ]
  refine wpAnyH_take (i := 15) (v := ?_) rfl (by kernel_rfl) (by kernel_rfl) (by kernel_rfl) (fun _ _ _ h => h) (Or.inl ⟨by rfl, ?_⟩) trivial ?_
  rotate_left
  · (intro w hSw; go_simp; try with_reducible rfl)
  try simp only [List.getElem_toArray, List.getElem_cons_zero, List.getElem_cons_succ, Act.put, List.setIfInBounds_toArray, List.set_cons_zero, List.set_cons_succ]
  refine wpAnyH_take (i := 16) (v := ?_) rfl (by kernel_rfl) (by kernel_rfl) (by kernel_rfl) (fun _ _ _ h => h) (Or.inl ⟨by rfl, ?_⟩) trivial ?_
  rotate_left
  · (intro w hSw; go_simp; try with_reducible rfl)
  try simp only [List.getElem_toArray, List.getElem_cons_zero, List.getElem_cons_succ, Act.put, List.setIfInBounds_toArray, List.set_cons_zero, List.set_cons_succ]
  refine wpAnyH_take (i := 17) (v := ?_) rfl (by kernel_rfl) (by kernel_rfl) (by kernel_rfl) (fun _ _ _ h => h) (Or.inl ⟨by rfl, ?_⟩) trivial ?_
  rotate_left
  · (intro w hSw; go_simp; try with_reducible rfl)
  try simp only [List.getElem_toArray, List.getElem_cons_zero, List.getElem_cons_succ, Act.put, List.setIfInBounds_toArray, List.set_cons_zero, List.set_cons_succ]
  refine wpAnyH_take (i := 18) (v := ?_) rfl (by kernel_rfl) (by kernel_rfl) (by kernel_rfl) (fun _ _ _ h => h) (Or.inl ⟨by rfl, ?_⟩) trivial ?_
  rotate_left
  · (intro w hSw; go_simp; try with_reducible rfl)
  try simp only [List.getElem_toArray, List.getElem_cons_zero, List.getElem_cons_succ, Act.put, List.setIfInBounds_toArray, List.set_cons_zero, List.set_cons_succ]
  refine wpAnyH_take (i := 19) (v := ?_) rfl (by kernel_rfl) (by kernel_rfl) (by kernel_rfl) (fun _ _ _ h => h) (Or.inl ⟨by rfl, ?_⟩) trivial ?_
  rotate_left
  · (intro w hSw; go_simp; try with_reducible rfl)
  try simp only [List.getElem_toArray, List.getElem_cons_zero, List.getElem_cons_succ, Act.put, List.setIfInBounds_toArray, List.set_cons_zero, List.set_cons_succ]
  refine wpAnyH_take (i := 20) (v := ?_) rfl (by kernel_rfl) (by kernel_rfl) (by kernel_rfl) (fun _ _ _ h => h) (Or.inl ⟨by rfl, ?_⟩) trivial ?_
  rotate_left
  · (intro w hSw; go_simp; try with_reducible rfl)
  try simp only [List.getElem_toArray, List.getElem_cons_zero, List.getElem_cons_succ, Act.put, List.setIfInBounds_toArray, List.set_cons_zero, List.set_cons_succ]
  refine wpAnyH_take (i := 21) (v := ?_) rfl (by kernel_rfl) (by kernel_rfl) (by kernel_rfl) (fun _ _ _ h => h) (Or.inl ⟨by rfl, ?_⟩) trivial ?_
  rotate_left
  · (intro w hSw; go_simp; try with_reducible rfl)
  try simp only [List.getElem_toArray, List.getElem_cons_zero, List.getElem_cons_succ, Act.put, List.setIfInBounds_toArray, List.set_cons_zero, List.set_cons_succ]
  refine wpAnyH_take (i := 22) (v := ?_) rfl (by kernel_rfl) (by kernel_rfl) (by kernel_rfl) (fun _ _ _ h => h) (Or.inl ⟨by rfl, ?_⟩) trivial ?_
  rotate_left
  · (intro w hSw; go_simp; try with_reducible rfl)
  try simp only [List.getElem_toArray, List.getElem_cons_zero, List.getElem_cons_succ, Act.put, List.setIfInBounds_toArray, List.set_cons_zero, List.set_cons_succ]
  refine wpAnyH_take (i := 23) (v := ?_) rfl (by kernel_rfl) (by kernel_rfl) (by kernel_rfl) (fun _ _ _ h => h) (Or.inl ⟨by rfl, ?_⟩) trivial ?_
  rotate_left
  · (intro w hSw; go_simp; try with_reducible rfl)
  try simp only [List.getElem_toArray, List.getElem_cons_zero, List.getElem_cons_succ, Act.put, List.setIfInBounds_toArray, List.set_cons_zero, List.set_cons_succ]
  refine wpAnyH_take (i := 24) (v := ?_) rfl (by kernel_rfl) (by kernel_rfl) (by kernel_rfl) (fun _ _ _ h => h) (Or.inl ⟨by rfl, ?_⟩) trivial ?_
  rotate_left
  · (intro w hSw; go_simp; try with_reducible rfl)
  try simp only [List.getElem_toArray, List.getElem_cons_zero, List.getElem_cons_succ, Act.put, List.setIfInBounds_toArray, List.set_cons_zero, List.set_cons_succ]
  refine wpAnyH_take (i := 25) (v := ?_) rfl (by kernel_rfl) (by kernel_rfl) (by kernel_rfl) (fun _ _ _ h => h) (Or.inl ⟨by rfl, ?_⟩) trivial ?_
  rotate_left
  · (intro w hSw; go_simp; try with_reducible rfl)
  try simp only [List.getElem_toArray, List.getElem_cons_zero, List.getElem_cons_succ, Act.put, List.setIfInBounds_toArray, List.set_cons_zero, List.set_cons_succ]
  refine wpAnyH_take (i := 26) (v := ?_) rfl (by kernel_rfl) (by kernel_rfl) (by kernel_rfl) (fun _ _ _ h => h) (Or.inl ⟨by rfl, ?_⟩) trivial ?_
  rotate_left
  · (intro w hSw; go_simp; try with_reducible rfl)
  try simp only [List.getElem_toArray, List.getElem_cons_zero, List.getElem_cons_succ, Act.put, List.setIfInBounds_toArray, List.set_cons_zero, List.set_cons_succ]
  refine wpAnyH_take (i := 27) (v := ?_) rfl (by kernel_rfl) (by kernel_rfl) (by kernel_rfl) (fun _ _ _ h => h) (Or.inl ⟨by rfl, ?_⟩) trivial ?_
  rotate_left
  · (intro w hSw; go_simp; try with_reducible rfl)
  try simp only [List.getElem_toArray, List.getElem_cons_zero, List.getElem_cons_succ, Act.put, List.setIfInBounds_toArray, List.set_cons_zero, List.set_cons_succ]
  refine wpAnyH_take (i := 28) (v := ?_) rfl (by kernel_rfl) (by kernel_rfl) (by kernel_rfl) (fun _ _ _ h => h) (Or.inl ⟨by rfl, ?_⟩) trivial ?_
  rotate_left
  · (intro w hSw; go_simp; try with_reducible rfl)
  try simp only [List.getElem_toArray, List.getElem_cons_zero, List.getElem_cons_succ, Act.put, List.setIfInBounds_toArray, List.set_cons_zero, List.set_cons_succ]
  refine wpAnyH_take (i := 29) (v := ?_) rfl (by kernel_rfl) (by kernel_rfl) (by kernel_rfl) (fun _ _ _ h => h) (Or.inl ⟨by rfl, ?_⟩) trivial ?_
  rotate_left
  · (intro w hSw; go_simp; try with_reducible rfl)
  try simp only [List.getElem_toArray, List.getElem_cons_zero, List.getElem_cons_succ, Act.put, List.setIfInBounds_toArray, List.set_cons_zero, List.set_cons_succ]
  refine wpAnyH_take (i := 30) (v := ?_) rfl (by kernel_rfl) (by kernel_rfl) (by kernel_rfl) (fun _ _ _ h => h) (Or.inl ⟨by rfl, ?_⟩) trivial ?_
  rotate_left
  · (intro w hSw; go_simp; try with_reducible rfl)
  try simp only [List.getElem_toArray, List.getElem_cons_zero, List.getElem_cons_succ, Act.put, List.setIfInBounds_toArray, List.set_cons_zero, List.set_cons_succ]
  refine wpAnyH_take (i := 31) (v := ?_) rfl (by kernel_rfl) (by kernel_rfl) (by kernel_rfl) (fun _ _ _ h => h) (Or.inl ⟨by rfl, ?_⟩) trivial ?_
  rotate_left
  · (intro w hSw; go_simp; try with_reducible rfl)
  try simp only [List.getElem_toArray, List.getElem_cons_zero, List.getElem_cons_succ, Act.put, List.setIfInBounds_toArray, List.set_cons_zero, List.set_cons_succ]
  refine wpAnyH_take (i := 32) (v := ?_) rfl (by kernel_rfl) (by kernel_rfl) (by kernel_rfl) (fun _ _ _ h => h) (Or.inl ⟨by rfl, ?_⟩) trivial ?_
  rotate_left
  · (intro w hSw; go_simp; try with_reducible rfl)
  try simp only [List.getElem_toArray, List.getElem_cons_zero, List.getElem_cons_succ, Act.put, List.setIfInBounds_toArray, List.set_cons_zero, List.set_cons_succ]
  refine wpAnyH_take (i := 33) (v := ?_) rfl (by kernel_rfl) (by kernel_rfl) (by kernel_rfl) (fun _ _ _ h => h) (Or.inl ⟨by rfl, ?_⟩) trivial ?_
  rotate_left
  · (intro w hSw; go_simp; try with_reducible rfl)
  try simp only [List.getElem_toArray, List.getElem_cons_zero, List.getElem_cons_succ, Act.put, List.setIfInBounds_toArray, List.set_cons_zero, List.set_cons_succ]
  refine wpAnyH_take (i := 34) (v := ?_) rfl (by kernel_rfl) (by kernel_rfl) (by kernel_rfl) (fun _ _ _ h => h) (Or.inl ⟨by rfl, ?_⟩) trivial ?_
  rotate_left
  · (intro w hSw; go_simp; try with_reducible rfl)
  try simp only [List.getElem_toArray, List.getElem_cons_zero, List.getElem_cons_succ, Act.put, List.setIfInBounds_toArray, List.set_cons_zero, List.set_cons_succ]
  refine wpAnyH_take (i := 35) (v := ?_) rfl (by kernel_rfl) (by kernel_rfl) (by kernel_rfl) (fun _ _ _ h => h) (Or.inl ⟨by rfl, ?_⟩) trivial ?_
  rotate_left
  · (intro w hSw; go_simp; try with_reducible rfl)
  try simp only [List.getElem_toArray, List.getElem_cons_zero, List.getElem_cons_succ, Act.put, List.setIfInBounds_toArray, List.set_cons_zero, List.set_cons_succ]
  refine wpAnyH_take (i := 36) (v := ?_) rfl (by kernel_rfl) (by kernel_rfl) (by kernel_rfl) (fun _ _ _ h => h) (Or.inl ⟨by rfl, ?_⟩) trivial ?_
  rotate_left
  · (intro w hSw; go_simp; try with_reducible rfl)
  try simp only [List.getElem_toArray, List.getElem_cons_zero, List.getElem_cons_succ, Act.put, List.setIfInBounds_toArray, List.set_cons_zero, List.set_cons_succ]
  refine wpAnyH_take (i := 37) (v := ?_) rfl (by kernel_rfl) (by kernel_rfl) (by kernel_rfl) (fun _ _ _ h => h) (Or.inl ⟨by rfl, ?_⟩) trivial ?_
  rotate_left
  · (intro w hSw; go_simp; try with_reducible rfl)
  try simp only [List.getElem_toArray, List.getElem_cons_zero, List.getElem_cons_succ, Act.put, List.setIfInBounds_toArray, List.set_cons_zero, List.set_cons_succ]
  refine wpAnyH_take (i := 38) (v := ?_) rfl (by kernel_rfl) (by kernel_rfl) (by kernel_rfl) (fun _ _ _ h => h) (Or.inl ⟨by rfl, ?_⟩) trivial ?_
  rotate_left
  · (intro w hSw; go_simp; try with_reducible rfl)
  try simp only [List.getElem_toArray, List.getElem_cons_zero, List.getElem_cons_succ, Act.put, List.setIfInBounds_toArray, List.set_cons_zero, List.set_cons_succ]
  refine wpAnyH_done (by kernel_rfl) ?_ _
  go_wp2
  all_goals go_returns
  all_goals exact ⟨by first | rfl | (simp; done) | (simp; omega), by first | exact g9 | exact below_drewN' g9 _⟩

set_option maxRecDepth 100000 in
set_option maxHeartbeats 16000000 in
theorem flat_fz (v u : Value) (W H : Int) (a : List Int) (W2 H2 : Int) (b : List Int) (w : World) (hv : FrameV w v W H a) (hu : FrameV w u W2 H2 b) (hg : TypeIs w) (hp : pixB [(⟨W, H, a⟩ : Fr), (⟨W2, H2, b⟩ : Fr)] = true) (hm : mayB W H a = true) (hw : withinB a (a.getD 0 0) (a.getD 0 0) = false) (he : unlE (⟨W, H, a⟩ : Fr) (⟨W2, H2, b⟩ : Fr) = 0) :
    Calls Tryd.prog 7 #[v, u] w fun e w' => e = .returned (.bool true) ∧ Below w.heap.size w w' := by
  have HG := Lib.hid hg
  have cp := fun x w h => pix_any x [(⟨W, H, a⟩ : Fr), (⟨W2, H2, b⟩ : Fr)] w h
  rw [hp] at cp
  have C1 := Lib.hid cp
  clear cp hp
  have c2 := fun v w h => cinn v W H a w h
  have c3 := fun v u w h1 h2 => cout v u W H a W H a w h1 h2
  have c4 := fun v u w h1 h2 => cout v u W H a W2 H2 b w h1 h2
  have c5 := fun v u w h1 h2 => csum v u W H a W2 H2 b w h1 h2
  have hbd := innV_bd (⟨W, H, a⟩ : Fr)
  have hob := outV_bd (⟨W, H, a⟩ : Fr) (⟨W2, H2, b⟩ : Fr)
  have hlen := (mayB_iff.1 hm).bd
  have i0 := (within_get (mayB_iff.1 hm).pix (show (0 : Int) ≤ 0 by omega) (show (0 : Int) ≤ 255 by omega) 0)
  rw [show innE (⟨W, H, a⟩ : Fr) = 0 from by unfold innE; rw [hm]; rfl, errV_zero] at c2
  rw [may_self (f := (⟨W, H, a⟩ : Fr)) hm, show outV (⟨W, H, a⟩ : Fr) (⟨W, H, a⟩ : Fr) = 0 from outV_self _, errV_zero] at c3
  have hs := outV_le_sad he
  rw [he, errV_zero] at c4
  rw [he, errV_zero, okI_zero rfl] at c5
  have hs2 : outV (⟨W, H, a⟩ : Fr) (⟨W2, H2, b⟩ : Fr) ≤ sadV a b := hs
  generalize sadV a b = s at *
  have C2 := Lib.hid c2
  have C3 := Lib.hid c3
  have C4 := Lib.hid c4
  have C5 := Lib.hid c5
  have CW0 := Lib.hid (fun x w h => within_any x a (a.getD 0 0) (a.getD 0 0) w h)
  rw [hw] at CW0
  clear c2 c3 c4 c5 hm he hs hw
  generalize unlE (⟨W, H, a⟩ : Fr) (⟨W2, H2, b⟩ : Fr) = ee at *
  generalize innV (⟨W, H, a⟩ : Fr) = n at *
  generalize outV (⟨W, H, a⟩ : Fr) (⟨W2, H2, b⟩ : Fr) = m at *
  generalize hx0 : a.getD 0 0 = x0 at *
  have HX0 := Lib.hid hx0
  obtain ⟨hbd1, hbd2⟩ := hbd
  obtain ⟨hob1, hob2⟩ := hob
  obtain ⟨hl1, hl2⟩ := hlen
  obtain ⟨i1, i2⟩ := i0
  clear hx0
  have HV := Lib.hid hv
  have HU := Lib.hid hu
  obtain ⟨ao, cap, rfl, hpx⟩ := hv.cells
  obtain ⟨bo, bcap, rfl, -⟩ := hu.cells
  have HPX := Lib.hid hpx
  have BA0 := Lib.hid ((Blk.new w #[.int .i64 W, .int .i64 H, .slice ao a.length cap] 24).alloc (.cells #[.int .i64 W2, .int .i64 H2, .slice bo b.length bcap] 24))
  have BB0 := Lib.hid (Blk.new (w.alloc (.cells #[.int .i64 W, .int .i64 H, .slice ao a.length cap] 24)) #[.int .i64 W2, .int .i64 H2, .slice bo b.length bcap] 24)
  simp only [World.size_alloc] at BB0
  clear hv hu hg hpx
  go_enter Tryd.func7, Tryd.ntmps7
  have g0 : Below w.heap.size w w := Below.refl _ _
  go_wp2_with fail
  refine (first_any _ (HG.out.ext (by go_grown))).mono ?_
  rintro e w1 ⟨rfl, hb1⟩
  have j1 : Below w.heap.size w w1 := ext (by go_grown) hb1
  have g1 : Below w.heap.size w w1 := ext g0 j1
  have s1 := j1.size
  have t1 := g1.size
  have BA := Lib.hid (BA0.out.ext hb1)
  have BB := Lib.hid (BB0.out.ext hb1)
  have jL : Below w1.heap.size w1 (w1.alloc (.cells #[.int .i64 W, .int .i64 H, .slice ao a.length cap, .int .i64 W2, .int .i64 H2, .slice bo b.length bcap] 24)) := by go_grown
  have FL := Lib.hid (show Frames (w1.alloc (.cells #[.int .i64 W, .int .i64 H, .slice ao a.length cap, .int .i64 W2, .int .i64 H2, .slice bo b.length bcap] 24)) (.slice (some ⟨w1.heap.size, 0, none⟩) 2 2) [(⟨W, H, a⟩ : Fr), (⟨W2, H2, b⟩ : Fr)] from frames_two (Blk.new w1 #[.int .i64 W, .int .i64 H, .slice ao a.length cap, .int .i64 W2, .int .i64 H2, .slice bo b.length bcap] 24) ((HV.out.ext j1).ext jL) ((HU.out.ext j1).ext jL))
  obtain ⟨BA0, BA1, BA2, BA3, BA4, BA5⟩ := (BA.out).three
  have BAl := (BA.out).lt
  obtain ⟨BB0, BB1, BB2, BB3, BB4, BB5⟩ := (BB.out).three
  have BBl := (BB.out).lt
  go_wp2_with fail
  clear BA0 BA1 BA2 BA3 BA4 BA5 BAl
  clear BB0 BB1 BB2 BB3 BB4 BB5 BBl
  refine (C1.out _ _ FL.out).mono ?_
  rintro e w2 ⟨rfl, hb2⟩
  have j2 : Below w1.heap.size w1 w2 := ext (by go_grown) hb2
  have g2 : Below w.heap.size w w2 := ext g1 j2
  have s2 := j2.size
  have t2 := g2.size
  obtain ⟨BA0, BA1, BA2, BA3, BA4, BA5⟩ := ((BA.out.ext j2)).three
  have BAl := ((BA.out.ext j2)).lt
  go_wp2_with fail
  clear BA0 BA1 BA2 BA3 BA4 BA5 BAl
  refine (C2.out _ _ (((HV.out.ext j1).ext j2).ext (by go_grown))).mono ?_
  rintro e w3 ⟨rfl, hb3⟩
  have j3 : Below w2.heap.size w2 w3 := ext (by go_grown) hb3
  have g3 : Below w.heap.size w w3 := ext g2 j3
  have s3 := j3.size
  have t3 := g3.size
  obtain ⟨BA0, BA1, BA2, BA3, BA4, BA5⟩ := (((BA.out.ext j2).ext j3)).three
  have BAl := (((BA.out.ext j2).ext j3)).lt
  go_wp2_with fail
  clear BA0 BA1 BA2 BA3 BA4 BA5 BAl
  refine (C3.out _ _ _ ((((HV.out.ext j1).ext j2).ext j3).ext (by go_grown)) ((((HV.out.ext j1).ext j2).ext j3).ext (by go_grown))).mono ?_
  rintro e w4 ⟨rfl, hb4⟩
  have j4 : Below w3.heap.size w3 w4 := ext (by go_grown) hb4
  have g4 : Below w.heap.size w w4 := ext g3 j4
  have s4 := j4.size
  have t4 := g4.size
  obtain ⟨pb, po, rfl, cx, lbx⟩ := (((((HPX.out.ext j1).ext j2).ext j3).ext j4)).cellN (j := 0) (by omega)
  rw [HX0.out] at cx
  simp only [Nat.add_zero] at cx
  have CW : Hid (∀ n, Calls Tryd.prog 21 #[.slice (some ⟨pb, po, none⟩) a.length cap, .int .i64 x0, .int .i64 x0] (w4.drewN n) fun e w' => e = .returned (.bool false) ∧ w' = w4.drewN n) := fun n => (CW0.out _ _ (show Ints (w4.drewN n) _ a from (((((HPX.out.ext j1).ext j2).ext j3).ext j4)).ext (below_drewN' (Below.refl _ _) n))).mono fun e w' ⟨h1, h2⟩ => ⟨h1, h2.symm⟩
  obtain ⟨f0, f1, f2, -, -, -⟩ := ((((BA.out.ext j2).ext j3).ext j4)).three
  have lf := ((((BA.out.ext j2).ext j3).ext j4)).lt
  have hlp : 0 < a.length := by omega
  go_wp2_with fail
  go_quiet ((go_at_call 21; exact Calls.quiet_of_same (CW.out _)))
  rename_i nq
  have j5 : Below w4.heap.size w4 (w4.drewN nq) := below_drewN' (Below.refl _ _) nq
  generalize hq5 : w4.drewN nq = w5 at *
  clear hq5
  have g5 : Below w.heap.size w w5 := ext g4 j5
  have s5 := j5.size
  have t5 := g5.size
  clear f0 f1 f2 lf cx lbx
  obtain ⟨BA0, BA1, BA2, BA3, BA4, BA5⟩ := (((((BA.out.ext j2).ext j3).ext j4).ext j5)).three
  have BAl := (((((BA.out.ext j2).ext j3).ext j4).ext j5)).lt
  obtain ⟨BB0, BB1, BB2, BB3, BB4, BB5⟩ := (((((BB.out.ext j2).ext j3).ext j4).ext j5)).three
  have BBl := (((((BB.out.ext j2).ext j3).ext j4).ext j5)).lt
  go_wp2_with fail
  clear BA0 BA1 BA2 BA3 BA4 BA5 BAl
  clear BB0 BB1 BB2 BB3 BB4 BB5 BBl
  refine (C4.out _ _ _ ((((((HV.out.ext j1).ext j2).ext j3).ext j4).ext j5).ext (by go_grown)) ((((((HU.out.ext j1).ext j2).ext j3).ext j4).ext j5).ext (by go_grown))).mono ?_
  rintro e w6 ⟨rfl, hb6⟩
  have j6 : Below w5.heap.size w5 w6 := ext (by go_grown) hb6
  have g6 : Below w.heap.size w w6 := ext g5 j6
  have s6 := j6.size
  have t6 := g6.size
  obtain ⟨BA0, BA1, BA2, BA3, BA4, BA5⟩ := ((((((BA.out.ext j2).ext j3).ext j4).ext j5).ext j6)).three
  have BAl := ((((((BA.out.ext j2).ext j3).ext j4).ext j5).ext j6)).lt
  obtain ⟨BB0, BB1, BB2, BB3, BB4, BB5⟩ := ((((((BB.out.ext j2).ext j3).ext j4).ext j5).ext j6)).three
  have BBl := ((((((BB.out.ext j2).ext j3).ext j4).ext j5).ext j6)).lt
  go_wp2_with fail
  clear BA0 BA1 BA2 BA3 BA4 BA5 BAl
  clear BB0 BB1 BB2 BB3 BB4 BB5 BBl
  refine (C5.out _ _ _ (((((((HV.out.ext j1).ext j2).ext j3).ext j4).ext j5).ext j6).ext (by go_grown)) (((((((HU.out.ext j1).ext j2).ext j3).ext j4).ext j5).ext j6).ext (by go_grown))).mono ?_
  rintro e w7 ⟨rfl, hb7⟩
  have j7 : Below w6.heap.size w6 w7 := ext (by go_grown) hb7
  have g7 : Below w.heap.size w w7 := ext g6 j7
  have s7 := j7.size
  have t7 := g7.size
  go_wp2
  refine wp_region_held_drew (S := fun _ => True) (by kernel_rfl) trivial (fun hHeld => ?_)
  refine wpAnyH_ready (rs := [0]) (by kernel_rfl) (by simp) ?_
  refine AllReadyH.cons rfl (fun K hK => ?_) AllReadyH.nil
  go_simp
  (go_at_call 8; refine (first_any _ ((((((((HG.out.ext j1).ext j2).ext j3).ext j4).ext j5).ext j6).ext j7).ext (by go_grown))).mono ?_; rintro e w9 ⟨rfl, hb9⟩; have g9 : Below w.heap.size w w9 := ext g7 (ext (by go_grown) hb9))
  go_wp2_with fail
  refine hK.out _ _ trivial (fun hHeld => ?_)
  clear hK K
  try simp only [List.getElem_toArray, List.getElem_cons_zero, List.getElem_cons_succ, Act.put, List.setIfInBounds_toArray, List.set_cons_zero, List.set_cons_succ]
  refine wpAnyH_take (i := 1) (v := ?_) rfl (by kernel_rfl) (by kernel_rfl) (by kernel_rfl) (fun _ _ _ h => h) (Or.inl ⟨by rfl, ?_⟩) trivial ?_
  rotate_left
  · (intro w hSw; go_simp; try with_reducible rfl)
  try simp only [List.getElem_toArray, List.getElem_cons_zero, List.getElem_cons_succ, Act.put, List.setIfInBounds_toArray, List.set_cons_zero, List.set_cons_succ]
  refine wpAnyH_take (i := 2) (v := ?_) rfl (by kernel_rfl) (by kernel_rfl) (by kernel_rfl) (fun _ _ _ h => h) (Or.inl ⟨by rfl, ?_⟩) trivial ?_
  rotate_left
  · (intro w hSw; go_simp; try with_reducible rfl)
  try simp only [List.getElem_toArray, List.getElem_cons_zero, List.getElem_cons_succ, Act.put, List.setIfInBounds_toArray, List.set_cons_zero, List.set_cons_succ]
  refine wpAnyH_take (i := 3) (v := ?_) rfl (by kernel_rfl) (by kernel_rfl) (by kernel_rfl) (fun _ _ _ h => h) (Or.inl ⟨by rfl, ?_⟩) trivial ?_
  rotate_left
  · (intro w hSw; go_simp; try with_reducible rfl)
  try simp only [List.getElem_toArray, List.getElem_cons_zero, List.getElem_cons_succ, Act.put, List.setIfInBounds_toArray, List.set_cons_zero, List.set_cons_succ]
  refine wpAnyH_take (i := 4) (v := ?_) rfl (by kernel_rfl) (by kernel_rfl) (by kernel_rfl) (fun _ _ _ h => h) (Or.inl ⟨by rfl, ?_⟩) trivial ?_
  rotate_left
  · (intro w hSw; go_simp; try with_reducible rfl)
  try simp only [List.getElem_toArray, List.getElem_cons_zero, List.getElem_cons_succ, Act.put, List.setIfInBounds_toArray, List.set_cons_zero, List.set_cons_succ]
  refine wpAnyH_take (i := 5) (v := ?_) rfl (by kernel_rfl) (by kernel_rfl) (by kernel_rfl) (fun _ _ _ h => h) (Or.inl ⟨by rfl, ?_⟩) trivial ?_
  rotate_left
  · (intro w hSw; go_simp; try with_reducible rfl)
  try simp only [List.getElem_toArray, List.getElem_cons_zero, List.getElem_cons_succ, Act.put, List.setIfInBounds_toArray, List.set_cons_zero, List.set_cons_succ]
  refine wpAnyH_take (i := 6) (v := ?_) rfl (by kernel_rfl) (by kernel_rfl) (by kernel_rfl) (fun _ _ _ h => h) (Or.inl ⟨by rfl, ?_⟩) trivial ?_
  rotate_left
  · (intro w hSw; go_simp; try with_reducible rfl)
  try simp only [List.getElem_toArray, List.getElem_cons_zero, List.getElem_cons_succ, Act.put, List.setIfInBounds_toArray, List.set_cons_zero, List.set_cons_succ]
  refine wpAnyH_take (i := 7) (v := ?_) rfl (by kernel_rfl) (by kernel_rfl) (by kernel_rfl) (fun _ _ _ h => h) (Or.inl ⟨by rfl, ?_⟩) trivial ?_
  rotate_left
  · (intro w hSw; go_simp; try with_reducible rfl)
  try simp only [List.getElem_toArray, List.getElem_cons_zero, List.getElem_cons_succ, Act.put, List.setIfInBounds_toArray, List.set_cons_zero, List.set_cons_succ]
  refine wpAnyH_take (i := 8) (v := ?_) rfl (by kernel_rfl) (by kernel_rfl) (by kernel_rfl) (fun _ _ _ h => h) (Or.inl ⟨by rfl, ?_⟩) trivial ?_
  rotate_left
  · (intro w hSw; go_simp; try with_reducible rfl)
  try simp only [List.getElem_toArray, List.getElem_cons_zero, List.getElem_cons_succ, Act.put, List.setIfInBounds_toArray, List.set_cons_zero, List.set_cons_succ]
  refine wpAnyH_take (i := 9) (v := undef) rfl (by kernel_rfl) (by kernel_rfl) (by kernel_rfl) (fun _ _ _ h => h) (Or.inr ⟨by rfl, rfl⟩) trivial ?_
  try simp only [List.getElem_toArray, List.getElem_cons_zero, List.getElem_cons_succ, Act.put, List.setIfInBounds_toArray, List.set_cons_zero, List.set_cons_succ]
  refine wpAnyH_take (i := 10) (v := undef) rfl (by kernel_rfl) (by kernel_rfl) (by kernel_rfl) (fun _ _ _ h => h) (Or.inr ⟨by rfl, rfl⟩) trivial ?_
  try simp only [List.getElem_toArray, List.getElem_cons_zero, List.getElem_cons_succ, Act.put, List.setIfInBounds_toArray, List.set_cons_zero, List.set_cons_succ]
  refine wpAnyH_take (i := 11) (v := ?_) rfl (by kernel_rfl) (by kernel_rfl) (by kernel_rfl) (fun _ _ _ h => h) (Or.inl ⟨by rfl, ?_⟩) trivial ?_
  rotate_left
  · (intro w hSw; go_simp; try with_reducible rfl)
  try simp only [List.getElem_toArray, List.getElem_cons_zero, List.getElem_cons_succ, Act.put, List.setIfInBounds_toArray, List.set_cons_zero, List.set_cons_succ]
  refine wpAnyH_take (i := 12) (v := ?_) rfl (by kernel_rfl) (by kernel_rfl) (by kernel_rfl) (fun _ _ _ h => h) (Or.inl ⟨by rfl, ?_⟩) trivial ?_
  rotate_left
  · (intro w hSw; go_simp; try with_reducible rfl)
  try simp only [List.getElem_toArray, List.getElem_cons_zero, List.getElem_cons_succ, Act.put, List.setIfInBounds_toArray, List.set_cons_zero, List.set_cons_succ]
  refine wpAnyH_take (i := 13) (v := ?_) rfl (by kernel_rfl) (by kernel_rfl) (by kernel_rfl) (fun _ _ _ h => h) (Or.inl ⟨by rfl, ?_⟩) trivial ?_
  rotate_left
  · (intro w hSw; go_simp; try with_reducible rfl)
  try simp only [List.getElem_toArray, List.getElem_cons_zero, List.getElem_cons_succ, Act.put, List.setIfInBounds_toArray, List.set_cons_zero, List.set_cons_succ]
  refine wpAnyH_take (i := 14) (v := ?_) rfl (by kernel_rfl) (by kernel_rfl) (by kernel_rfl) (fun _ _ _ h => h) (Or.inl ⟨by rfl, ?_⟩) trivial ?_
  rotate_left
  · (intro w hSw; go_simp; try with_reducible rfl)
  try simp only [List.getElem_toArray, List.getElem_cons_zero, List.getElem_cons_succ, Act.put, List.setIfInBounds_toArray, List.set_cons_zero, List.set_cons_succ]
  refine wpAnyH_take (i := 15) (v := ?_) rfl (by kernel_rfl) (by kernel_rfl) (by kernel_rfl) (fun _ _ _ h => h) (Or.inl ⟨by rfl, ?_⟩) trivial ?_
  rotate_left
  · (intro w hSw; go_simp; try with_reducible rfl)
  try simp only [List.getElem_toArray, List.getElem_cons_zero, List.getElem_cons_succ, Act.put, List.setIfInBounds_toArray, List.set_cons_zero, List.set_cons_succ]
  refine wpAnyH_take (i := 16) (v := ?_) rfl (by kernel_rfl) (by kernel_rfl) (by kernel_rfl) (fun _ _ _ h => h) (Or.inl ⟨by rfl, ?_⟩) trivial ?_
  rotate_left
  · (intro w hSw; go_simp; try with_reducible rfl)
  try simp only [List.getElem_toArray, List.getElem_cons_zero, List.getElem_cons_succ, Act.put, List.setIfInBounds_toArray, List.set_cons_zero, List.set_cons_succ]
  refine wpAnyH_take (i := 17) (v := ?_) rfl (by kernel_rfl) (by kernel_rfl) (by kernel_rfl) (fun _ _ _ h => h) (Or.inl ⟨by rfl, ?_⟩) trivial ?_
  rotate_left
  · (intro w hSw; go_simp; try with_reducible rfl)
  try simp only [List.getElem_toArray, List.getElem_cons_zero, List.getElem_cons_succ, Act.put, List.setIfInBounds_toArray, List.set_cons_zero, List.set_cons_succ]
  refine wpAnyH_take (i := 18) (v := ?_) rfl (by kernel_rfl) (by kernel_rfl) (by kernel_rfl) (fun _ _ _ h => h) (Or.inl ⟨by rfl, ?_⟩) trivial ?_
  rotate_left
  · (intro w hSw; go_simp; try with_reducible rfl)
  try simp only [List.getElem_toArray, List.getElem_cons_zero, List.getElem_cons_succ, Act.put, List.setIfInBounds_toArray, List.set_cons_zero, List.set_cons_succ]
  refine wpAnyH_take (i := 19) (v := ?_) rfl (by kernel_rfl) (by kernel_rfl) (by kernel_rfl) (fun _ _ _ h => h) (Or.inl ⟨by rfl, ?_⟩) trivial ?_
  rotate_left
  · (intro w hSw; go_simp; try with_reducible rfl)
  try simp only [List.getElem_toArray, List.getElem_cons_zero, List.getElem_cons_succ, Act.put, List.setIfInBounds_toArray, List.set_cons_zero, List.set_cons_succ]
  refine wpAnyH_take (i := 20) (v := ?_) rfl (by kernel_rfl) (by kernel_rfl) (by kernel_rfl) (fun _ _ _ h => h) (Or.inl ⟨by rfl, ?_⟩) trivial ?_
  rotate_left
  · (intro w hSw; go_simp; try with_reducible rfl)
  try simp only [List.getElem_toArray, List.getElem_cons_zero, List.getElem_cons_succ, Act.put, List.setIfInBounds_toArray, List.set_cons_zero, List.set_cons_succ]
  refine wpAnyH_take (i := 21) (v := ?_) rfl (by kernel_rfl) (by kernel_rfl) (by kernel_rfl) (fun _ _ _ h => h) (Or.inl ⟨by rfl, ?_⟩) trivial ?_
  rotate_left
  · (intro w hSw; go_simp; try with_reducible rfl)
  try simp only [List.getElem_toArray, List.getElem_cons_zero, List.getElem_cons_succ, Act.put, List.setIfInBounds_toArray, List.set_cons_zero, List.set_cons_succ]
  refine wpAnyH_take (i := 22) (v := ?_) rfl (by kernel_rfl) (by kernel_rfl) (by kernel_rfl) (fun _ _ _ h => h) (Or.inl ⟨by rfl, ?_⟩) trivial ?_
  rotate_left
  · (intro w hSw; go_simp; try with_reducible rfl)
  try simp only [List.getElem_toArray, List.getElem_cons_zero, List.getElem_cons_succ, Act.put, List.setIfInBounds_toArray, List.set_cons_zero, List.set_cons_succ]
  refine wpAnyH_take (i := 23) (v := ?_) rfl (by kernel_rfl) (by kernel_rfl) (by kernel_rfl) (fun _ _ _ h => h) (Or.inl ⟨by rfl, ?_⟩) trivial ?_
  rotate_left
  · (intro w hSw; go_simp; try with_reducible rfl)
  try simp only [List.getElem_toArray, List.getElem_cons_zero, List.getElem_cons_succ, Act.put, List.setIfInBounds_toArray, List.set_cons_zero, List.set_cons_succ]
  refine wpAnyH_take (i := 24) (v := ?_) rfl (by kernel_rfl) (by kernel_rfl) (by kernel_rfl) (fun _ _ _ h => h) (Or.inl ⟨by rfl, ?_⟩) trivial ?_
  rotate_left
  · (intro w hSw; go_simp; try with_reducible rfl)
  try simp only [List.getElem_toArray, List.getElem_cons_zero, List.getElem_cons_succ, Act.put, List.setIfInBounds_toArray, List.set_cons_zero, List.set_cons_succ]
  refine wpAnyH_take (i := 25) (v := ?_) rfl (by kernel_rfl) (by kernel_rfl) (by kernel_rfl) (fun _ _ _ h => h) (Or.inl ⟨by rfl, ?_⟩) trivial ?_
  rotate_left
  · (intro w hSw; go_simp; try with_reducible rfl)
  try simp only [List.getElem_toArray, List.getElem_cons_zero, List.getElem_cons_succ, Act.put, List.setIfInBounds_toArray, List.set_cons_zero, List.set_cons_succ]
  refine wpAnyH_take (i := 26) (v := ?_) rfl (by kernel_rfl) (by kernel_rfl) (by kernel_rfl) (fun _ _ _ h => h) (Or.inl ⟨by rfl, ?_⟩) trivial ?_
  rotate_left
  · (intro w hSw; go_simp; try with_reducible rfl)
  try simp only [List.getElem_toArray, List.getElem_cons_zero, List.getElem_cons_succ, Act.put, List.setIfInBounds_toArray, List.set_cons_zero, List.set_cons_succ]
  refine wpAnyH_take (i := 27) (v := ?_) rfl (by kernel_rfl) (by kernel_rfl) (by kernel_rfl) (fun _ _ _ h => h) (Or.inl ⟨by rfl, ?_⟩) trivial ?_
  rotate_left
  · (intro w hSw; go_simp; try with_reducible rfl)
  try simp only [List.getElem_toArray, List.getElem_cons_zero, List.getElem_cons_succ, Act.put, List.setIfInBounds_toArray, List.set_cons_zero, List.set_cons_succ]
  refine wpAnyH_take (i := 28) (v := ?_) rfl (by kernel_rfl) (by kernel_rfl) (by kernel_rfl) (fun _ _ _ h => h) (Or.inl ⟨by rfl, ?_⟩) trivial ?_
  rotate_left
  · (intro w hSw; go_simp; try with_reducible rfl)
  try simp only [List.getElem_toArray, List.getElem_cons_zero, List.getElem_cons_succ, Act.put, List.setIfInBounds_toArray, List.set_cons_zero, List.set_cons_succ]
  refine wpAnyH_take (i := 29) (v := ?_) rfl (by kernel_rfl) (by kernel_rfl) (by kernel_rfl) (fun _ _ _ h => h) (Or.inl ⟨by rfl, ?_⟩) trivial ?_
  rotate_left
  · (intro w hSw; go_simp; try with_reducible rfl)
  try simp only [List.getElem_toArray, List.getElem_cons_zero, List.getElem_cons_succ, Act.put, List.setIfInBounds_toArray, List.set_cons_zero, List.set_cons_succ]
  refine wpAnyH_take (i := 30) (v := ?_) rfl (by kernel_rfl) (by kernel_rfl) (by kernel_rfl) (fun _ _ _ h => h) (Or.inl ⟨by rfl, ?_⟩) trivial ?_
  rotate_left
  · (intro w hSw; go_simp; try with_reducible rfl)
  try simp only [List.getElem_toArray, List.getElem_cons_zero, List.getElem_cons_succ, Act.put, List.setIfInBounds_toArray, List.set_cons_zero, List.set_cons_succ]
  refine wpAnyH_take (i := 31) (v := ?_) rfl (by kernel_rfl) (by kernel_rfl) (by kernel_rfl) (fun _ _ _ h => h) (Or.inl ⟨by rfl, ?_⟩) trivial ?_
  rotate_left
  · (intro w hSw; go_simp; try with_reducible rfl)
  try simp only [List.getElem_toArray, List.getElem_cons_zero, List.getElem_cons_succ, Act.put, List.setIfInBounds_toArray, List.set_cons_zero, List.set_cons_succ]
  refine wpAnyH_take (i := 32) (v := ?_) rfl (by kernel_rfl) (by kernel_rfl) (by kernel_rfl) (fun _ _ _ h => h) (Or.inl ⟨by rfl, ?_⟩) trivial ?_
  rotate_left
  · (intro w hSw; go_simp; try with_reducible rfl)
  try simp only [List.getElem_toArray, List.getElem_cons_zero, List.getElem_cons_succ, Act.put, List.setIfInBounds_toArray, List.set_cons_zero, List.set_cons_succ]
  refine wpAnyH_take (i := 33) (v := ?_) rfl (by kernel_rfl) (by kernel_rfl) (by kernel_rfl) (fun _ _ _ h => h) (Or.inl ⟨by rfl, ?_⟩) trivial ?_
  rotate_left
  · (intro w hSw; go_simp; try with_reducible rfl)
  try simp only [List.getElem_toArray, List.getElem_cons_zero, List.getElem_cons_succ, Act.put, List.setIfInBounds_toArray, List.set_cons_zero, List.set_cons_succ]
  refine wpAnyH_take (i := 34) (v := ?_) rfl (by kernel_rfl) (by kernel_rfl) (by kernel_rfl) (fun _ _ _ h => h) (Or.inl ⟨by rfl, ?_⟩) trivial ?_
  rotate_left
  · (intro w hSw; go_simp; try with_reducible rfl)
  try simp only [List.getElem_toArray, List.getElem_cons_zero, List.getElem_cons_succ, Act.put, List.setIfInBounds_toArray, List.set_cons_zero, List.set_cons_succ]
  refine wpAnyH_take (i := 35) (v := ?_) rfl (by kernel_rfl) (by kernel_rfl) (by kernel_rfl) (fun _ _ _ h => h) (Or.inl ⟨by rfl, ?_⟩) trivial ?_
  rotate_left
  · (intro w hSw; go_simp; try with_reducible rfl)
  try simp only [List.getElem_toArray, List.getElem_cons_zero, List.getElem_cons_succ, Act.put, List.setIfInBounds_toArray, List.set_cons_zero, List.set_cons_succ]
  refine wpAnyH_take (i := 36) (v := ?_) rfl (by kernel_rfl) (by kernel_rfl) (by kernel_rfl) (fun _ _ _ h => h) (Or.inl ⟨by rfl, ?_⟩) trivial ?_
  rotate_left
  · (intro w hSw; go_simp; try with_reducible rfl)
  try simp only [List.getElem_toArray, List.getElem_cons_zero, List.getElem_cons_succ, Act.put, List.setIfInBounds_toArray, List.set_cons_zero, List.set_cons_succ]
  refine wpAnyH_take (i := 37) (v := ?_) rfl (by kernel_rfl) (by kernel_rfl) (by kernel_rfl) (fun _ _ _ h => h) (Or.inl ⟨by rfl, ?_⟩) trivial ?_
  rotate_left
  · (intro w hSw; go_simp; try with_reducible rfl)
  try simp only [List.getElem_toArray, List.getElem_cons_zero, List.getElem_cons_succ, Act.put, List.setIfInBounds_toArray, List.set_cons_zero, List.set_cons_succ]
  refine wpAnyH_take (i := 38) (v := ?_) rfl (by kernel_rfl) (by kernel_rfl) (by kernel_rfl) (fun _ _ _ h => h) (Or.inl ⟨by rfl, ?_⟩) trivial ?_
  rotate_left
  · (intro w hSw; go_simp; try with_reducible rfl)
  try simp only [List.getElem_toArray, List.getElem_cons_zero, List.getElem_cons_succ, Act.put, List.setIfInBounds_toArray, List.set_cons_zero, List.set_cons_succ]
  refine wpAnyH_done (by kernel_rfl) ?_ _
  go_wp2
  all_goals go_returns
  all_goals exact ⟨by first | rfl | (simp; done) | (simp; omega), by first | exact g9 | exact below_drewN' g9 _⟩

set_option maxRecDepth 100000 in
set_option maxHeartbeats 16000000 in
theorem flat_fe (v u : Value) (W H : Int) (a : List Int) (W2 H2 : Int) (b : List Int) (w : World) (hv : FrameV w v W H a) (hu : FrameV w u W2 H2 b) (hg : TypeIs w) (hp : pixB [(⟨W, H, a⟩ : Fr), (⟨W2, H2, b⟩ : Fr)] = true) (hm : mayB W H a = true) (hw : withinB a (a.getD 0 0) (a.getD 0 0) = false) (he : unlE (⟨W, H, a⟩ : Fr) (⟨W2, H2, b⟩ : Fr) ≠ 0) :
    Calls Tryd.prog 7 #[v, u] w fun e w' => e = .returned (.bool true) ∧ Below w.heap.size w w' := by
  have HG := Lib.hid hg
  have cp := fun x w h => pix_any x [(⟨W, H, a⟩ : Fr), (⟨W2, H2, b⟩ : Fr)] w h
  rw [hp] at cp
  have C1 := Lib.hid cp
  clear cp hp
  have c2 := fun v w h => cinn v W H a w h
  have c3 := fun v u w h1 h2 => cout v u W H a W H a w h1 h2
  have c4 := fun v u w h1 h2 => cout v u W H a W2 H2 b w h1 h2
  have c5 := fun v u w h1 h2 => csum v u W H a W2 H2 b w h1 h2
  have hbd := innV_bd (⟨W, H, a⟩ : Fr)
  have hob := outV_bd (⟨W, H, a⟩ : Fr) (⟨W2, H2, b⟩ : Fr)
  have hlen := (mayB_iff.1 hm).bd
  have i0 := (within_get (mayB_iff.1 hm).pix (show (0 : Int) ≤ 0 by omega) (show (0 : Int) ≤ 255 by omega) 0)
  rw [show innE (⟨W, H, a⟩ : Fr) = 0 from by unfold innE; rw [hm]; rfl, errV_zero] at c2
  rw [may_self (f := (⟨W, H, a⟩ : Fr)) hm, show outV (⟨W, H, a⟩ : Fr) (⟨W, H, a⟩ : Fr) = 0 from outV_self _, errV_zero] at c3
  rw [errV_ne he, show outV (⟨W, H, a⟩ : Fr) (⟨W2, H2, b⟩ : Fr) = 0 from by unfold outV; rw [if_neg he]] at c4
  rw [errV_ne he, okI_ne he] at c5
  have C2 := Lib.hid c2
  have C3 := Lib.hid c3
  have C4 := Lib.hid c4
  have C5 := Lib.hid c5
  have CW0 := Lib.hid (fun x w h => within_any x a (a.getD 0 0) (a.getD 0 0) w h)
  rw [hw] at CW0
  clear c2 c3 c4 c5 hm he hw
  generalize unlE (⟨W, H, a⟩ : Fr) (⟨W2, H2, b⟩ : Fr) = ee at *
  generalize innV (⟨W, H, a⟩ : Fr) = n at *
  generalize outV (⟨W, H, a⟩ : Fr) (⟨W2, H2, b⟩ : Fr) = m at *
  generalize hx0 : a.getD 0 0 = x0 at *
  have HX0 := Lib.hid hx0
  obtain ⟨hbd1, hbd2⟩ := hbd
  obtain ⟨hob1, hob2⟩ := hob
  obtain ⟨hl1, hl2⟩ := hlen
  obtain ⟨i1, i2⟩ := i0
  clear hx0
  have HV := Lib.hid hv
  have HU := Lib.hid hu
  obtain ⟨ao, cap, rfl, hpx⟩ := hv.cells
  obtain ⟨bo, bcap, rfl, -⟩ := hu.cells
  have HPX := Lib.hid hpx
  have BA0 := Lib.hid ((Blk.new w #[.int .i64 W, .int .i64 H, .slice ao a.length cap] 24).alloc (.cells #[.int .i64 W2, .int .i64 H2, .slice bo b.length bcap] 24))
  have BB0 := Lib.hid (Blk.new (w.alloc (.cells #[.int .i64 W, .int .i64 H, .slice ao a.length cap] 24)) #[.int .i64 W2, .int .i64 H2, .slice bo b.length bcap] 24)
  simp only [World.size_alloc] at BB0
  clear hv hu hg hpx
  go_enter Tryd.func7, Tryd.ntmps7
  have g0 : Below w.heap.size w w := Below.refl _ _
  go_wp2_with fail
  refine (first_any _ (HG.out.ext (by go_grown))).mono ?_
  rintro e w1 ⟨rfl, hb1⟩
  have j1 : Below w.heap.size w w1 := ext (by go_grown) hb1
  have g1 : Below w.heap.size w w1 := ext g0 j1
  have s1 := j1.size
  have t1 := g1.size
  have BA := Lib.hid (BA0.out.ext hb1)
  have BB := Lib.hid (BB0.out.ext hb1)
  have jL : Below w1.heap.size w1 (w1.alloc (.cells #[.int .i64 W, .int .i64 H, .slice ao a.length cap, .int .i64 W2, .int .i64 H2, .slice bo b.length bcap] 24)) := by go_grown
  have FL := Lib.hid (show Frames (w1.alloc (.cells #[.int .i64 W, .int .i64 H, .slice ao a.length cap, .int .i64 W2, .int .i64 H2, .slice bo b.length bcap] 24)) (.slice (some ⟨w1.heap.size, 0, none⟩) 2 2) [(⟨W, H, a⟩ : Fr), (⟨W2, H2, b⟩ : Fr)] from frames_two (Blk.new w1 #[.int .i64 W, .int .i64 H, .slice ao a.length cap, .int .i64 W2, .int .i64 H2, .slice bo b.length bcap] 24) ((HV.out.ext j1).ext jL) ((HU.out.ext j1).ext jL))
  obtain ⟨BA0, BA1, BA2, BA3, BA4, BA5⟩ := (BA.out).three
  have BAl := (BA.out).lt
  obtain ⟨BB0, BB1, BB2, BB3, BB4, BB5⟩ := (BB.out).three
  have BBl := (BB.out).lt
  go_wp2_with fail
  clear BA0 BA1 BA2 BA3 BA4 BA5 BAl
  clear BB0 BB1 BB2 BB3 BB4 BB5 BBl
  refine (C1.out _ _ FL.out).mono ?_
  rintro e w2 ⟨rfl, hb2⟩
  have j2 : Below w1.heap.size w1 w2 := ext (by go_grown) hb2
  have g2 : Below w.heap.size w w2 := ext g1 j2
  have s2 := j2.size
  have t2 := g2.size
  obtain ⟨BA0, BA1, BA2, BA3, BA4, BA5⟩ := ((BA.out.ext j2)).three
  have BAl := ((BA.out.ext j2)).lt
  go_wp2_with fail
  clear BA0 BA1 BA2 BA3 BA4 BA5 BAl
  refine (C2.out _ _ (((HV.out.ext j1).ext j2).ext (by go_grown))).mono ?_
  rintro e w3 ⟨rfl, hb3⟩
  have j3 : Below w2.heap.size w2 w3 := ext (by go_grown) hb3
  have g3 : Below w.heap.size w w3 := ext g2 j3
  have s3 := j3.size
  have t3 := g3.size
  obtain ⟨BA0, BA1, BA2, BA3, BA4, BA5⟩ := (((BA.out.ext j2).ext j3)).three
  have BAl := (((BA.out.ext j2).ext j3)).lt
  go_wp2_with fail
  clear BA0 BA1 BA2 BA3 BA4 BA5 BAl
  refine (C3.out _ _ _ ((((HV.out.ext j1).ext j2).ext j3).ext (by go_grown)) ((((HV.out.ext j1).ext j2).ext j3).ext (by go_grown))).mono ?_
  rintro e w4 ⟨rfl, hb4⟩
  have j4 : Below w3.heap.size w3 w4 := ext (by go_grown) hb4
  have g4 : Below w.heap.size w w4 := ext g3 j4
  have s4 := j4.size
  have t4 := g4.size
  obtain ⟨pb, po, rfl, cx, lbx⟩ := (((((HPX.out.ext j1).ext j2).ext j3).ext j4)).cellN (j := 0) (by omega)
  rw [HX0.out] at cx
  simp only [Nat.add_zero] at cx
  have CW : Hid (∀ n, Calls Tryd.prog 21 #[.slice (some ⟨pb, po, none⟩) a.length cap, .int .i64 x0, .int .i64 x0] (w4.drewN n) fun e w' => e = .returned (.bool false) ∧ w' = w4.drewN n) := fun n => (CW0.out _ _ (show Ints (w4.drewN n) _ a from (((((HPX.out.ext j1).ext j2).ext j3).ext j4)).ext (below_drewN' (Below.refl _ _) n))).mono fun e w' ⟨h1, h2⟩ => ⟨h1, h2.symm⟩
  obtain ⟨f0, f1, f2, -, -, -⟩ := ((((BA.out.ext j2).ext j3).ext j4)).three
  have lf := ((((BA.out.ext j2).ext j3).ext j4)).lt
  have hlp : 0 < a.length := by omega
  go_wp2_with fail
  go_quiet ((go_at_call 21; exact Calls.quiet_of_same (CW.out _)))
  rename_i nq
  have j5 : Below w4.heap.size w4 (w4.drewN nq) := below_drewN' (Below.refl _ _) nq
  generalize hq5 : w4.drewN nq = w5 at *
  clear hq5
  have g5 : Below w.heap.size w w5 := ext g4 j5
  have s5 := j5.size
  have t5 := g5.size
  clear f0 f1 f2 lf cx lbx
  obtain ⟨BA0, BA1, BA2, BA3, BA4, BA5⟩ := (((((BA.out.ext j2).ext j3).ext j4).ext j5)).three
  have BAl := (((((BA.out.ext j2).ext j3).ext j4).ext j5)).lt
  obtain ⟨BB0, BB1, BB2, BB3, BB4, BB5⟩ := (((((BB.out.ext j2).ext j3).ext j4).ext j5)).three
  have BBl := (((((BB.out.ext j2).ext j3).ext j4).ext j5)).lt
  go_wp2_with fail
  clear BA0 BA1 BA2 BA3 BA4 BA5 BAl
  clear BB0 BB1 BB2 BB3 BB4 BB5 BBl
  refine (C4.out _ _ _ ((((((HV.out.ext j1).ext j2).ext j3).ext j4).ext j5).ext (by go_grown)) ((((((HU.out.ext j1).ext j2).ext j3).ext j4).ext j5).ext (by go_grown))).mono ?_
  rintro e w6 ⟨rfl, hb6⟩
  have j6 : Below w5.heap.size w5 w6 := ext (by go_grown) hb6
  have g6 : Below w.heap.size w w6 := ext g5 j6
  have s6 := j6.size
  have t6 := g6.size
  obtain ⟨BA0, BA1, BA2, BA3, BA4, BA5⟩ := ((((((BA.out.ext j2).ext j3).ext j4).ext j5).ext j6)).three
  have BAl := ((((((BA.out.ext j2).ext j3).ext j4).ext j5).ext j6)).lt
  obtain ⟨BB0, BB1, BB2, BB3, BB4, BB5⟩ := ((((((BB.out.ext j2).ext j3).ext j4).ext j5).ext j6)).three
  have BBl := ((((((BB.out.ext j2).ext j3).ext j4).ext j5).ext j6)).lt
  go_wp2_with fail
  clear BA0 BA1 BA2 BA3 BA4 BA5 BAl
  clear BB0 BB1 BB2 BB3 BB4 BB5 BBl
  refine (C5.out _ _ _ (((((((HV.out.ext j1).ext j2).ext j3).ext j4).ext j5).ext j6).ext (by go_grown)) (((((((HU.out.ext j1).ext j2).ext j3).ext j4).ext j5).ext j6).ext (by go_grown))).mono ?_
  rintro e w7 ⟨rfl, hb7⟩
  have j7 : Below w6.heap.size w6 w7 := ext (by go_grown) hb7
  have g7 : Below w.heap.size w w7 := ext g6 j7
  have s7 := j7.size
  have t7 := g7.size
  go_wp2
  refine wp_region_held_drew (S := fun _ => True) (by kernel_rfl) trivial (fun hHeld => ?_)
  refine wpAnyH_ready (rs := [0]) (by kernel_rfl) (by simp) ?_
  refine AllReadyH.cons rfl (fun K hK => ?_) AllReadyH.nil
  go_simp
  (go_at_call 8; refine (first_any _ ((((((((HG.out.ext j1).ext j2).ext j3).ext j4).ext j5).ext j6).ext j7).ext (by go_grown))).mono ?_; rintro e w9 ⟨rfl, hb9⟩; have g9 : Below w.heap.size w w9 := ext g7 (ext (by go_grown) hb9))
  go_wp2_with fail
  refine hK.out _ _ trivial (fun hHeld => ?_)
  clear hK K
  try simp only [List.getElem_toArray, List.getElem_cons_zero, List.getElem_cons_succ, Act.put, List.setIfInBounds_toArray, List.set_cons_zero, List.set_cons_succ]
  refine wpAnyH_take (i := 1) (v := ?_) rfl (by kernel_rfl) (by kernel_rfl) (by kernel_rfl) (fun _ _ _ h => h) (Or.inl ⟨by rfl, ?_⟩) trivial ?_
  rotate_left
  · (intro w hSw; go_simp; try with_reducible rfl)
  try simp only [List.getElem_toArray, List.getElem_cons_zero, List.getElem_cons_succ, Act.put, List.setIfInBounds_toArray, List.set_cons_zero, List.set_cons_succ]
  refine wpAnyH_take (i := 2) (v := ?_) rfl (by kernel_rfl) (by kernel_rfl) (by kernel_rfl) (fun _ _ _ h => h) (Or.inl ⟨by rfl, ?_⟩) trivial ?_
  rotate_left
  · (intro w hSw; go_simp; try with_reducible rfl)
  try simp only [List.getElem_toArray, List.getElem_cons_zero, List.getElem_cons_succ, Act.put, List.setIfInBounds_toArray, List.set_cons_zero, List.set_cons_succ]
  refine wpAnyH_take (i := 3) (v := ?_) rfl (by kernel_rfl) (by kernel_rfl) (by kernel_rfl) (fun _ _ _ h => h) (Or.inl ⟨by rfl, ?_⟩) trivial ?_
  rotate_left
  · (intro w hSw; go_simp; try with_reducible rfl)
  try simp only [List.getElem_toArray, List.getElem_cons_zero, List.getElem_cons_succ, Act.put, List.setIfInBounds_toArray, List.set_cons_zero, List.set_cons_succ]
  refine wpAnyH_take (i := 4) (v := ?_) rfl (by kernel_rfl) (by kernel_rfl) (by kernel_rfl) (fun _ _ _ h => h) (Or.inl ⟨by rfl, ?_⟩) trivial ?_
  rotate_left
  · (intro w hSw; go_simp; try with_reducible rfl)
  try simp only [List.getElem_toArray, List.getElem_cons_zero, List.getElem_cons_succ, Act.put, List.setIfInBounds_toArray, List.set_cons_zero, List.set_cons_succ]
  refine wpAnyH_take (i := 5) (v := ?_) rfl (by kernel_rfl) (by kernel_rfl) (by kernel_rfl) (fun _ _ _ h => h) (Or.inl ⟨by rfl, ?_⟩) trivial ?_
  rotate_left
  · (intro w hSw; go_simp; try with_reducible rfl)
  try simp only [List.getElem_toArray, List.getElem_cons_zero, List.getElem_cons_succ, Act.put, List.setIfInBounds_toArray, List.set_cons_zero, List.set_cons_succ]
  refine wpAnyH_take (i := 6) (v := ?_) rfl (by kernel_rfl) (by kernel_rfl) (by kernel_rfl) (fun _ _ _ h => h) (Or.inl ⟨by rfl, ?_⟩) trivial ?_
  rotate_left
  · (intro w hSw; go_simp; try with_reducible rfl)
  try simp only [List.getElem_toArray, List.getElem_cons_zero, List.getElem_cons_succ, Act.put, List.setIfInBounds_toArray, List.set_cons_zero, List.set_cons_succ]
  refine wpAnyH_take (i := 7) (v := ?_) rfl (by kernel_rfl) (by kernel_rfl) (by kernel_rfl) (fun _ _ _ h => h) (Or.inl ⟨by rfl, ?_⟩) trivial ?_
  rotate_left
  · (intro w hSw; go_simp; try with_reducible rfl)
  try simp only [List.getElem_toArray, List.getElem_cons_zero, List.getElem_cons_succ, Act.put, List.setIfInBounds_toArray, List.set_cons_zero, List.set_cons_succ]
  refine wpAnyH_take (i := 8) (v := ?_) rfl (by kernel_rfl) (by kernel_rfl) (by kernel_rfl) (fun _ _ _ h => h) (Or.inl ⟨by rfl, ?_⟩) trivial ?_
  rotate_left
  · (intro w hSw; go_simp; try with_reducible rfl)
  try simp only [List.getElem_toArray, List.getElem_cons_zero, List.getElem_cons_succ, Act.put, List.setIfInBounds_toArray, List.set_cons_zero, List.set_cons_succ]
  refine wpAnyH_take (i := 9) (v := undef) rfl (by kernel_rfl) (by kernel_rfl) (by kernel_rfl) (fun _ _ _ h => h) (Or.inr ⟨by rfl, rfl⟩) trivial ?_
  try simp only [List.getElem_toArray, List.getElem_cons_zero, List.getElem_cons_succ, Act.put, List.setIfInBounds_toArray, List.set_cons_zero, List.set_cons_succ]
  refine wpAnyH_take (i := 10) (v := undef) rfl (by kernel_rfl) (by kernel_rfl) (by kernel_rfl) (fun _ _ _ h => h) (Or.inr ⟨by rfl, rfl⟩) trivial ?_
  try simp only [List.getElem_toArray, List.getElem_cons_zero, List.getElem_cons_succ, Act.put, List.setIfInBounds_toArray, List.set_cons_zero, List.set_cons_succ]
  refine wpAnyH_take (i := 11) (v := ?_) rfl (by kernel_rfl) (by kernel_rfl) (by kernel_rfl) (fun _ _ _ h => h) (Or.inl ⟨by rfl, ?_⟩) trivial ?_
  rotate_left
  · (intro w hSw; go_simp; try with_reducible rfl)
  try simp only [List.getElem_toArray, List.getElem_cons_zero, List.getElem_cons_succ, Act.put, List.setIfInBounds_toArray, List.set_cons_zero, List.set_cons_succ]
  refine wpAnyH_take (i := 12) (v := ?_) rfl (by kernel_rfl) (by kernel_rfl) (by kernel_rfl) (fun _ _ _ h => h) (Or.inl ⟨by rfl, ?_⟩) trivial ?_
  rotate_left
  · (intro w hSw; go_simp; try with_reducible rfl)
  try simp only [List.getElem_toArray, List.getElem_cons_zero, List.getElem_cons_succ, Act.put, List.setIfInBounds_toArray, List.set_cons_zero, List.set_cons_succ]
  refine wpAnyH_take (i := 13) (v := ?_) rfl (by kernel_rfl) (by kernel_rfl) (by kernel_rfl) (fun _ _ _ h => h) (Or.inl ⟨by rfl, ?_⟩) trivial ?_
  rotate_left
  · (intro w hSw; go_simp; try with_reducible rfl)
  try simp only [List.getElem_toArray, List.getElem_cons_zero, List.getElem_cons_succ, Act.put, List.setIfInBounds_toArray, List.set_cons_zero, List.set_cons_succ]
  refine wpAnyH_take (i := 14) (v := ?_) rfl (by kernel_rfl) (by kernel_rfl) (by kernel_rfl) (fun _ _ _ h => h) (Or.inl ⟨by rfl, ?_⟩) trivial ?_
  rotate_left
  · (intro w hSw; go_simp; try with_reducible rfl)
  try simp only [List.getElem_toArray, List.getElem_cons_zero, List.getElem_cons_succ, Act.put, List.setIfInBounds_toArray, List.set_cons_zero, List.set_cons_succ]
  refine wpAnyH_take (i := 15) (v := ?_) rfl (by kernel_rfl) (by kernel_rfl) (by kernel_rfl) (fun _ _ _ h => h) (Or.inl ⟨by rfl, ?_⟩) trivial ?_
  rotate_left
  · (intro w hSw; go_simp; try with_reducible rfl)
  try simp only [List.getElem_toArray, List.getElem_cons_zero, List.getElem_cons_succ, Act.put, List.setIfInBounds_toArray, List.set_cons_zero, List.set_cons_succ]
  refine wpAnyH_take (i := 16) (v := ?_) rfl (by kernel_rfl) (by kernel_rfl) (by kernel_rfl) (fun _ _ _ h => h) (Or.inl ⟨by rfl, ?_⟩) trivial ?_
  rotate_left
  · (intro w hSw; go_simp; try with_reducible rfl)
  try simp only [List.getElem_toArray, List.getElem_cons_zero, List.getElem_cons_succ, Act.put, List.setIfInBounds_toArray, List.set_cons_zero, List.set_cons_succ]
  refine wpAnyH_take (i := 17) (v := ?_) rfl (by kernel_rfl) (by kernel_rfl) (by kernel_rfl) (fun _ _ _ h => h) (Or.inl ⟨by rfl, ?_⟩) trivial ?_
  rotate_left
  · (intro w hSw; go_simp; try with_reducible rfl)
  try simp only [List.getElem_toArray, List.getElem_cons_zero, List.getElem_cons_succ, Act.put, List.setIfInBounds_toArray, List.set_cons_zero, List.set_cons_succ]
  refine wpAnyH_take (i := 18) (v := ?_) rfl (by kernel_rfl) (by kernel_rfl) (by kernel_rfl) (fun _ _ _ h => h) (Or.inl ⟨by rfl, ?_⟩) trivial ?_
  rotate_left
  · (intro w hSw; go_simp; try with_reducible rfl)
  try simp only [List.getElem_toArray, List.getElem_cons_zero, List.getElem_cons_succ, Act.put, List.setIfInBounds_toArray, List.set_cons_zero, List.set_cons_succ]
  refine wpAnyH_take (i := 19) (v := ?_) rfl (by kernel_rfl) (by kernel_rfl) (by kernel_rfl) (fun _ _ _ h => h) (Or.inl ⟨by rfl, ?_⟩) trivial ?_
  rotate_left
  · (intro w hSw; go_simp; try with_reducible rfl)
  try simp only [List.getElem_toArray, List.getElem_cons_zero, List.getElem_cons_succ, Act.put, List.setIfInBounds_toArray, List.set_cons_zero, List.set_cons_succ]
  refine wpAnyH_take (i := 20) (v := ?_) rfl (by kernel_rfl) (by kernel_rfl) (by kernel_rfl) (fun _ _ _ h => h) (Or.inl ⟨by rfl, ?_⟩) trivial ?_
  rotate_left
  · (intro w hSw; go_simp; try with_reducible rfl)
  try simp only [List.getElem_toArray, List.getElem_cons_zero, List.getElem_cons_succ, Act.put, List.setIfInBounds_toArray, List.set_cons_zero, List.set_cons_succ]
  refine wpAnyH_take (i := 21) (v := ?_) rfl (by kernel_rfl) (by kernel_rfl) (by kernel_rfl) (fun _ _ _ h => h) (Or.inl ⟨by rfl, ?_⟩) trivial ?_
  rotate_left
  · (intro w hSw; go_simp; try with_reducible rfl)
  try simp only [List.getElem_toArray, List.getElem_cons_zero, List.getElem_cons_succ, Act.put, List.setIfInBounds_toArray, List.set_cons_zero, List.set_cons_succ]
  refine wpAnyH_take (i := 22) (v := ?_) rfl (by kernel_rfl) (by kernel_rfl) (by kernel_rfl) (fun _ _ _ h => h) (Or.inl ⟨by rfl, ?_⟩) trivial ?_
  rotate_left
  · (intro w hSw; go_simp; try with_reducible rfl)
  try simp only [List.getElem_toArray, List.getElem_cons_zero, List.getElem_cons_succ, Act.put, List.setIfInBounds_toArray, List.set_cons_zero, List.set_cons_succ]
  refine wpAnyH_take (i := 23) (v := ?_) rfl (by kernel_rfl) (by kernel_rfl) (by kernel_rfl) (fun _ _ _ h => h) (Or.inl ⟨by rfl, ?_⟩) trivial ?_
  rotate_left
  · (intro w hSw; go_simp; try with_reducible rfl)
  try simp only [List.getElem_toArray, List.getElem_cons_zero, List.getElem_cons_succ, Act.put, List.setIfInBounds_toArray, List.set_cons_zero, List.set_cons_succ]
  refine wpAnyH_take (i := 24) (v := ?_) rfl (by kernel_rfl) (by kernel_rfl) (by kernel_rfl) (fun _ _ _ h => h) (Or.inl ⟨by rfl, ?_⟩) trivial ?_
  rotate_left
  · (intro w hSw; go_simp; try with_reducible rfl)
  try simp only [List.getElem_toArray, List.getElem_cons_zero, List.getElem_cons_succ, Act.put, List.setIfInBounds_toArray, List.set_cons_zero, List.set_cons_succ]
  refine wpAnyH_take (i := 25) (v := ?_) rfl (by kernel_rfl) (by kernel_rfl) (by kernel_rfl) (fun _ _ _ h => h) (Or.inl ⟨by rfl, ?_⟩) trivial ?_
  rotate_left
  · (intro w hSw; go_simp; try with_reducible rfl)
  try simp only [List.getElem_toArray, List.getElem_cons_zero, List.getElem_cons_succ, Act.put, List.setIfInBounds_toArray, List.set_cons_zero, List.set_cons_succ]
  refine wpAnyH_take (i := 26) (v := ?_) rfl (by kernel_rfl) (by kernel_rfl) (by kernel_rfl) (fun _ _ _ h => h) (Or.inl ⟨by rfl, ?_⟩) trivial ?_
  rotate_left
  · (intro w hSw; go_simp; try with_reducible rfl)
  try simp only [List.getElem_toArray, List.getElem_cons_zero, List.getElem_cons_succ, Act.put, List.setIfInBounds_toArray, List.set_cons_zero, List.set_cons_succ]
  refine wpAnyH_take (i := 27) (v := ?_) rfl (by kernel_rfl) (by kernel_rfl) (by kernel_rfl) (fun _ _ _ h => h) (Or.inl ⟨by rfl, ?_⟩) trivial ?_
  rotate_left
  · (intro w hSw; go_simp; try with_reducible rfl)
  try simp only [List.getElem_toArray, List.getElem_cons_zero, List.getElem_cons_succ, Act.put, List.setIfInBounds_toArray, List.set_cons_zero, List.set_cons_succ]
  refine wpAnyH_take (i := 28) (v := ?_) rfl (by kernel_rfl) (by kernel_rfl) (by kernel_rfl) (fun _ _ _ h => h) (Or.inl ⟨by rfl, ?_⟩) trivial ?_
  rotate_left
  · (intro w hSw; go_simp; try with_reducible rfl)
  try simp only [List.getElem_toArray, List.getElem_cons_zero, List.getElem_cons_succ, Act.put, List.setIfInBounds_toArray, List.set_cons_zero, List.set_cons_succ]
  refine wpAnyH_take (i := 29) (v := ?_) rfl (by kernel_rfl) (by kernel_rfl) (by kernel_rfl) (fun _ _ _ h => h) (Or.inl ⟨by rfl, ?_⟩) trivial ?_
  rotate_left
  · (intro w hSw; go_simp; try with_reducible rfl)
  try simp only [List.getElem_toArray, List.getElem_cons_zero, List.getElem_cons_succ, Act.put, List.setIfInBounds_toArray, List.set_cons_zero, List.set_cons_succ]
  refine wpAnyH_take (i := 30) (v := ?_) rfl (by kernel_rfl) (by kernel_rfl) (by kernel_rfl) (fun _ _ _ h => h) (Or.inl ⟨by rfl, ?_⟩) trivial ?_
  rotate_left
  · (intro w hSw; go_simp; try with_reducible rfl)
  try simp only [List.getElem_toArray, List.getElem_cons_zero, List.getElem_cons_succ, Act.put, List.setIfInBounds_toArray, List.set_cons_zero, List.set_cons_succ]
  refine wpAnyH_take (i := 31) (v := ?_) rfl (by kernel_rfl) (by kernel_rfl) (by kernel_rfl) (fun _ _ _ h => h) (Or.inl ⟨by rfl, ?_⟩) trivial ?_
  rotate_left
  · (intro w hSw; go_simp; try with_reducible rfl)
  try simp only [List.getElem_toArray, List.getElem_cons_zero, List.getElem_cons_succ, Act.put, List.setIfInBounds_toArray, List.set_cons_zero, List.set_cons_succ]
  refine wpAnyH_take (i := 32) (v := ?_) rfl (by kernel_rfl) (by kernel_rfl) (by kernel_rfl) (fun _ _ _ h => h) (Or.inl ⟨by rfl, ?_⟩) trivial ?_
  rotate_left
  · (intro w hSw; go_simp; try with_reducible rfl)
  try simp only [List.getElem_toArray, List.getElem_cons_zero, List.getElem_cons_succ, Act.put, List.setIfInBounds_toArray, List.set_cons_zero, List.set_cons_succ]
  refine wpAnyH_take (i := 33) (v := ?_) rfl (by kernel_rfl) (by kernel_rfl) (by kernel_rfl) (fun _ _ _ h => h) (Or.inl ⟨by rfl, ?_⟩) trivial ?_
  rotate_left
  · (intro w hSw; go_simp; try with_reducible rfl)
  try simp only [List.getElem_toArray, List.getElem_cons_zero, List.getElem_cons_succ, Act.put, List.setIfInBounds_toArray, List.set_cons_zero, List.set_cons_succ]
  refine wpAnyH_take (i := 34) (v := ?_) rfl (by kernel_rfl) (by kernel_rfl) (by kernel_rfl) (fun _ _ _ h => h) (Or.inl ⟨by rfl, ?_⟩) trivial ?_
  rotate_left
  · (intro w hSw; go_simp; try with_reducible rfl)
  try simp only [List.getElem_toArray, List.getElem_cons_zero, List.getElem_cons_succ, Act.put, List.setIfInBounds_toArray, List.set_cons_zero, List.set_cons_succ]
  refine wpAnyH_take (i := 35) (v := ?_) rfl (by kernel_rfl) (by kernel_rfl) (by kernel_rfl) (fun _ _ _ h => h) (Or.inl ⟨by rfl, ?_⟩) trivial ?_
  rotate_left
  · (intro w hSw; go_simp; try with_reducible rfl)
  try simp only [List.getElem_toArray, List.getElem_cons_zero, List.getElem_cons_succ, Act.put, List.setIfInBounds_toArray, List.set_cons_zero, List.set_cons_succ]
  refine wpAnyH_take (i := 36) (v := ?_) rfl (by kernel_rfl) (by kernel_rfl) (by kernel_rfl) (fun _ _ _ h => h) (Or.inl ⟨by rfl, ?_⟩) trivial ?_
  rotate_left
  · (intro w hSw; go_simp; try with_reducible rfl)
  try simp only [List.getElem_toArray, List.getElem_cons_zero, List.getElem_cons_succ, Act.put, List.setIfInBounds_toArray, List.set_cons_zero, List.set_cons_succ]
  refine wpAnyH_take (i := 37) (v := ?_) rfl (by kernel_rfl) (by kernel_rfl) (by kernel_rfl) (fun _ _ _ h => h) (Or.inl ⟨by rfl, ?_⟩) trivial ?_
  rotate_left
  · (intro w hSw; go_simp; try with_reducible rfl)
  try simp only [List.getElem_toArray, List.getElem_cons_zero, List.getElem_cons_succ, Act.put, List.setIfInBounds_toArray, List.set_cons_zero, List.set_cons_succ]
  refine wpAnyH_take (i := 38) (v := ?_) rfl (by kernel_rfl) (by kernel_rfl) (by kernel_rfl) (fun _ _ _ h => h) (Or.inl ⟨by rfl, ?_⟩) trivial ?_
  rotate_left
  · (intro w hSw; go_simp; try with_reducible rfl)
  try simp only [List.getElem_toArray, List.getElem_cons_zero, List.getElem_cons_succ, Act.put, List.setIfInBounds_toArray, List.set_cons_zero, List.set_cons_succ]
  refine wpAnyH_done (by kernel_rfl) ?_ _
  go_wp2
  all_goals go_returns
  all_goals exact ⟨by first | rfl | (simp; done) | (simp; omega), by first | exact g9 | exact below_drewN' g9 _⟩

theorem flat_walk (v u : Value) (W H : Int) (a : List Int) (W2 H2 : Int) (b : List Int) (w : World) (hv : FrameV w v W H a) (hu : FrameV w u W2 H2 b) (hg : TypeIs w) :
    Calls Tryd.prog 7 #[v, u] w fun e w' => e = .returned (.bool true) ∧ Below w.heap.size w w' := by
  cases hp : pixB [(⟨W, H, a⟩ : Fr), (⟨W2, H2, b⟩ : Fr)] with
  | false => exact flat_p v u W H a W2 H2 b w hv hu hg hp
  | true =>
    cases hm : mayB W H a with
    | false => exact flat_e v u W H a W2 H2 b w hv hu hg hp hm
    | true =>
      cases hw : withinB a (a.getD 0 0) (a.getD 0 0) with
      | true =>
        by_cases he : unlE (⟨W, H, a⟩ : Fr) (⟨W2, H2, b⟩ : Fr) = 0
        · exact flat_tz v u W H a W2 H2 b w hv hu hg hp hm hw he
        · exact flat_te v u W H a W2 H2 b w hv hu hg hp hm hw he
      | false =>
        by_cases he : unlE (⟨W, H, a⟩ : Fr) (⟨W2, H2, b⟩ : Fr) = 0
        · exact flat_fz v u W H a W2 H2 b w hv hu hg hp hm hw he
        · exact flat_fe v u W H a W2 H2 b w hv hu hg hp hm hw he
end Go.Proofs.YtmdpfjjbehpnbaaDoor
