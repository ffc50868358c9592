/- kinlaw6.few and the laws PlanePeaks, PlaneAsks. -/
import Derived.Test.YtlpifjnjddgfaaaDoorPlaneF
set_option linter.unusedSimpArgs false
set_option linter.unusedVariables false
namespace Go.Proofs.YtlpifjnjddgfaaaDoor
open Go.RowKit Go.Extern.Stop Go.Stop Go.Extern


set_option maxRecDepth 100000 in
set_option maxHeartbeats 8000000 in
theorem peaks_long0 (v u : Value) (W H : Int) (a : List Int) (W2 H2 : Int) (b : List Int) (w : World) (hv : FrameV w v W H a) (hu : FrameV w u W2 H2 b) (hg : TypeIs w) (h1 : 5000 < a.length) :
    Calls Tryd.prog 7 #[v, u] w fun e w' => e = .returned (.bool true) ∧ Below w.heap.size w w' := by
  have HG := Lib.hid hg
  have HV := Lib.hid hv
  have HU := Lib.hid hu
  have c1 := fun w hv => few_any v W H a w hv
  have c2 := fun w hu => few_any u W2 H2 b w hu
  rw [show decide (a.length ≤ 5000) = false from by simp; omega] at c1
  have C1 := Lib.hid c1
  have C2 := Lib.hid c2
  obtain ⟨ao, cap, rfl, hp⟩ := hv.cells
  obtain ⟨bo, cap2, rfl, hq⟩ := hu.cells
  have hla := hp.len
  have hlb := hq.len
  have BA0 := Lib.hid ((Blk.new w #[.int .i64 W, .int .i64 H, .slice ao a.length cap] 24).alloc (.cells #[.int .i64 W2, .int .i64 H2, .slice bo b.length cap2] 24))
  have BB0 := Lib.hid (Blk.new (w.alloc (.cells #[.int .i64 W, .int .i64 H, .slice ao a.length cap] 24)) #[.int .i64 W2, .int .i64 H2, .slice bo b.length cap2] 24)
  simp only [World.size_alloc] at BB0
  clear hv hu hg hp hq c1 c2 h1
  go_enter Tryd.func7, Tryd.ntmps7
  have g0 : Below w.heap.size w w := Below.refl _ _
  go_wp2_with fail
  refine (first_any _ (HG.out.ext (by go_grown))).mono ?_
  rintro e w1 ⟨rfl, hb1⟩
  have j1 : Below w.heap.size w w1 := ext (by go_grown) hb1
  have g1 : Below w.heap.size w w1 := ext g0 j1
  have s1 := j1.size
  have t1 := g1.size
  have BA := Lib.hid (BA0.out.ext hb1)
  have BB := Lib.hid (BB0.out.ext hb1)
  obtain ⟨BA0, BA1, BA2, BA3, BA4, BA5⟩ := (BA.out).three
  have BAl := (BA.out).lt
  go_wp2_with fail
  clear BA0 BA1 BA2 BA3 BA4 BA5 BAl
  refine (C1.out _ ((HV.out.ext j1).ext (by go_grown))).mono ?_
  rintro e w2 ⟨rfl, hb2⟩
  have j2 : Below w1.heap.size w1 w2 := ext (by go_grown) hb2
  have g2 : Below w.heap.size w w2 := ext g1 j2
  have s2 := j2.size
  have t2 := g2.size
  go_wp2_with fail
  refine (first_any _ (((HG.out.ext j1).ext j2).ext (by go_grown))).mono ?_
  rintro e w3 ⟨rfl, hb3⟩
  have j3 : Below w2.heap.size w2 w3 := ext (by go_grown) hb3
  have g3 : Below w.heap.size w w3 := ext g2 j3
  have s3 := j3.size
  have t3 := g3.size
  go_wp2
  all_goals go_returns
  all_goals exact ⟨by first | rfl | (simp; done) | (simp; omega), g3⟩

set_option maxRecDepth 100000 in
set_option maxHeartbeats 8000000 in
theorem peaks_long1 (v u : Value) (W H : Int) (a : List Int) (W2 H2 : Int) (b : List Int) (w : World) (hv : FrameV w v W H a) (hu : FrameV w u W2 H2 b) (hg : TypeIs w) (h1 : a.length ≤ 5000) (h2 : 5000 < b.length) :
    Calls Tryd.prog 7 #[v, u] w fun e w' => e = .returned (.bool true) ∧ Below w.heap.size w w' := by
  have HG := Lib.hid hg
  have HV := Lib.hid hv
  have HU := Lib.hid hu
  have c1 := fun w hv => few_any v W H a w hv
  have c2 := fun w hu => few_any u W2 H2 b w hu
  rw [show decide (a.length ≤ 5000) = true from by simp; omega] at c1
  rw [show decide (b.length ≤ 5000) = false from by simp; omega] at c2
  have C1 := Lib.hid c1
  have C2 := Lib.hid c2
  obtain ⟨ao, cap, rfl, hp⟩ := hv.cells
  obtain ⟨bo, cap2, rfl, hq⟩ := hu.cells
  have hla := hp.len
  have hlb := hq.len
  have BA0 := Lib.hid ((Blk.new w #[.int .i64 W, .int .i64 H, .slice ao a.length cap] 24).alloc (.cells #[.int .i64 W2, .int .i64 H2, .slice bo b.length cap2] 24))
  have BB0 := Lib.hid (Blk.new (w.alloc (.cells #[.int .i64 W, .int .i64 H, .slice ao a.length cap] 24)) #[.int .i64 W2, .int .i64 H2, .slice bo b.length cap2] 24)
  simp only [World.size_alloc] at BB0
  clear hv hu hg hp hq c1 c2 h1 h2
  go_enter Tryd.func7, Tryd.ntmps7
  have g0 : Below w.heap.size w w := Below.refl _ _
  go_wp2_with fail
  refine (first_any _ (HG.out.ext (by go_grown))).mono ?_
  rintro e w1 ⟨rfl, hb1⟩
  have j1 : Below w.heap.size w w1 := ext (by go_grown) hb1
  have g1 : Below w.heap.size w w1 := ext g0 j1
  have s1 := j1.size
  have t1 := g1.size
  have BA := Lib.hid (BA0.out.ext hb1)
  have BB := Lib.hid (BB0.out.ext hb1)
  obtain ⟨BA0, BA1, BA2, BA3, BA4, BA5⟩ := (BA.out).three
  have BAl := (BA.out).lt
  go_wp2_with fail
  clear BA0 BA1 BA2 BA3 BA4 BA5 BAl
  refine (C1.out _ ((HV.out.ext j1).ext (by go_grown))).mono ?_
  rintro e w2 ⟨rfl, hb2⟩
  have j2 : Below w1.heap.size w1 w2 := ext (by go_grown) hb2
  have g2 : Below w.heap.size w w2 := ext g1 j2
  have s2 := j2.size
  have t2 := g2.size
  obtain ⟨BB0, BB1, BB2, BB3, BB4, BB5⟩ := ((BB.out.ext j2)).three
  have BBl := ((BB.out.ext j2)).lt
  go_wp2_with fail
  clear BB0 BB1 BB2 BB3 BB4 BB5 BBl
  refine (C2.out _ (((HU.out.ext j1).ext j2).ext (by go_grown))).mono ?_
  rintro e w3 ⟨rfl, hb3⟩
  have j3 : Below w2.heap.size w2 w3 := ext (by go_grown) hb3
  have g3 : Below w.heap.size w w3 := ext g2 j3
  have s3 := j3.size
  have t3 := g3.size
  go_wp2_with fail
  refine (first_any _ ((((HG.out.ext j1).ext j2).ext j3).ext (by go_grown))).mono ?_
  rintro e w4 ⟨rfl, hb4⟩
  have j4 : Below w3.heap.size w3 w4 := ext (by go_grown) hb4
  have g4 : Below w.heap.size w w4 := ext g3 j4
  have s4 := j4.size
  have t4 := g4.size
  go_wp2
  all_goals go_returns
  all_goals exact ⟨by first | rfl | (simp; done) | (simp; omega), g4⟩

set_option maxRecDepth 100000 in
set_option maxHeartbeats 8000000 in
theorem peaks_e (v u : Value) (W H : Int) (a : List Int) (W2 H2 : Int) (b : List Int) (w : World) (hv : FrameV w v W H a) (hu : FrameV w u W2 H2 b) (hg : TypeIs w) (h1 : a.length ≤ 5000) (h2 : b.length ≤ 5000) (he : fbothE W H a W2 H2 b ≠ 0) :
    Calls Tryd.prog 7 #[v, u] w fun e w' => e = .returned (.bool true) ∧ Below w.heap.size w w' := by
  have HG := Lib.hid hg
  have HV := Lib.hid hv
  have HU := Lib.hid hu
  have c1 := fun w hv => few_any v W H a w hv
  have c2 := fun w hu => few_any u W2 H2 b w hu
  rw [show decide (a.length ≤ 5000) = true from by simp; omega] at c1
  rw [show decide (b.length ≤ 5000) = true from by simp; omega] at c2
  have C1 := Lib.hid c1
  have C2 := Lib.hid c2
  have c3 := fun w hv hu => ppeak_any v u W H a W2 H2 b w hv hu
  have c4 := fun w hv hu => psum_any v u W H a W2 H2 b w hv hu
  have c5 := fun w hu hv => ppeak_any u v W2 H2 b W H a w hu hv
  have c6 := fun w hu hv => psum_any u v W2 H2 b W H a w hu hv
  have c7 := fun w hv hu => psame_any v u W H a W2 H2 b w hv hu
  rw [same_no he] at c7
  rw [fbothE_comm W2 H2 b W H a, okI_ne he] at c5 c6
  rw [okI_ne he] at c3 c4
  have he0 : (fbothE W H a W2 H2 b == 0) = false := by simpa using he
  have C3 := Lib.hid c3
  have C4 := Lib.hid c4
  have C5 := Lib.hid c5
  have C6 := Lib.hid c6
  have C7 := Lib.hid c7
  obtain ⟨ao, cap, rfl, hp⟩ := hv.cells
  obtain ⟨bo, cap2, rfl, hq⟩ := hu.cells
  have hla := hp.len
  have hlb := hq.len
  have BA0 := Lib.hid ((Blk.new w #[.int .i64 W, .int .i64 H, .slice ao a.length cap] 24).alloc (.cells #[.int .i64 W2, .int .i64 H2, .slice bo b.length cap2] 24))
  have BB0 := Lib.hid (Blk.new (w.alloc (.cells #[.int .i64 W, .int .i64 H, .slice ao a.length cap] 24)) #[.int .i64 W2, .int .i64 H2, .slice bo b.length cap2] 24)
  simp only [World.size_alloc] at BB0
  clear hv hu hg hp hq c1 c2 c3 c4 c5 c6 c7 he h1 h2
  generalize fbothE W H a W2 H2 b = k0 at *
  go_enter Tryd.func7, Tryd.ntmps7
  have g0 : Below w.heap.size w w := Below.refl _ _
  go_wp2_with fail
  refine (first_any _ (HG.out.ext (by go_grown))).mono ?_
  rintro e w1 ⟨rfl, hb1⟩
  have j1 : Below w.heap.size w w1 := ext (by go_grown) hb1
  have g1 : Below w.heap.size w w1 := ext g0 j1
  have s1 := j1.size
  have t1 := g1.size
  have BA := Lib.hid (BA0.out.ext hb1)
  have BB := Lib.hid (BB0.out.ext hb1)
  obtain ⟨BA0, BA1, BA2, BA3, BA4, BA5⟩ := (BA.out).three
  have BAl := (BA.out).lt
  go_wp2_with fail
  clear BA0 BA1 BA2 BA3 BA4 BA5 BAl
  refine (C1.out _ ((HV.out.ext j1).ext (by go_grown))).mono ?_
  rintro e w2 ⟨rfl, hb2⟩
  have j2 : Below w1.heap.size w1 w2 := ext (by go_grown) hb2
  have g2 : Below w.heap.size w w2 := ext g1 j2
  have s2 := j2.size
  have t2 := g2.size
  obtain ⟨BB0, BB1, BB2, BB3, BB4, BB5⟩ := ((BB.out.ext j2)).three
  have BBl := ((BB.out.ext j2)).lt
  go_wp2_with fail
  clear BB0 BB1 BB2 BB3 BB4 BB5 BBl
  refine (C2.out _ (((HU.out.ext j1).ext j2).ext (by go_grown))).mono ?_
  rintro e w3 ⟨rfl, hb3⟩
  have j3 : Below w2.heap.size w2 w3 := ext (by go_grown) hb3
  have g3 : Below w.heap.size w w3 := ext g2 j3
  have s3 := j3.size
  have t3 := g3.size
  obtain ⟨BA0, BA1, BA2, BA3, BA4, BA5⟩ := (((BA.out.ext j2).ext j3)).three
  have BAl := (((BA.out.ext j2).ext j3)).lt
  obtain ⟨BB0, BB1, BB2, BB3, BB4, BB5⟩ := (((BB.out.ext j2).ext j3)).three
  have BBl := (((BB.out.ext j2).ext j3)).lt
  go_wp2_with fail
  clear BA0 BA1 BA2 BA3 BA4 BA5 BAl
  clear BB0 BB1 BB2 BB3 BB4 BB5 BBl
  refine (C3.out _ ((((HV.out.ext j1).ext j2).ext j3).ext (by go_grown)) ((((HU.out.ext j1).ext j2).ext j3).ext (by go_grown))).mono ?_
  rintro e w4 ⟨rfl, hb4⟩
  have j4 : Below w3.heap.size w3 w4 := ext (by go_grown) hb4
  have g4 : Below w.heap.size w w4 := ext g3 j4
  have s4 := j4.size
  have t4 := g4.size
  obtain ⟨BA0, BA1, BA2, BA3, BA4, BA5⟩ := ((((BA.out.ext j2).ext j3).ext j4)).three
  have BAl := ((((BA.out.ext j2).ext j3).ext j4)).lt
  obtain ⟨BB0, BB1, BB2, BB3, BB4, BB5⟩ := ((((BB.out.ext j2).ext j3).ext j4)).three
  have BBl := ((((BB.out.ext j2).ext j3).ext j4)).lt
  go_wp2_with fail
  clear BA0 BA1 BA2 BA3 BA4 BA5 BAl
  clear BB0 BB1 BB2 BB3 BB4 BB5 BBl
  refine (C4.out _ (((((HV.out.ext j1).ext j2).ext j3).ext j4).ext (by go_grown)) (((((HU.out.ext j1).ext j2).ext j3).ext j4).ext (by go_grown))).mono ?_
  rintro e w5 ⟨rfl, hb5⟩
  have j5 : Below w4.heap.size w4 w5 := ext (by go_grown) hb5
  have g5 : Below w.heap.size w w5 := ext g4 j5
  have s5 := j5.size
  have t5 := g5.size
  obtain ⟨BA0, BA1, BA2, BA3, BA4, BA5⟩ := (((((BA.out.ext j2).ext j3).ext j4).ext j5)).three
  have BAl := (((((BA.out.ext j2).ext j3).ext j4).ext j5)).lt
  obtain ⟨BB0, BB1, BB2, BB3, BB4, BB5⟩ := (((((BB.out.ext j2).ext j3).ext j4).ext j5)).three
  have BBl := (((((BB.out.ext j2).ext j3).ext j4).ext j5)).lt
  go_wp2_with fail
  clear BA0 BA1 BA2 BA3 BA4 BA5 BAl
  clear BB0 BB1 BB2 BB3 BB4 BB5 BBl
  refine (C5.out _ ((((((HU.out.ext j1).ext j2).ext j3).ext j4).ext j5).ext (by go_grown)) ((((((HV.out.ext j1).ext j2).ext j3).ext j4).ext j5).ext (by go_grown))).mono ?_
  rintro e w6 ⟨rfl, hb6⟩
  have j6 : Below w5.heap.size w5 w6 := ext (by go_grown) hb6
  have g6 : Below w.heap.size w w6 := ext g5 j6
  have s6 := j6.size
  have t6 := g6.size
  obtain ⟨BA0, BA1, BA2, BA3, BA4, BA5⟩ := ((((((BA.out.ext j2).ext j3).ext j4).ext j5).ext j6)).three
  have BAl := ((((((BA.out.ext j2).ext j3).ext j4).ext j5).ext j6)).lt
  obtain ⟨BB0, BB1, BB2, BB3, BB4, BB5⟩ := ((((((BB.out.ext j2).ext j3).ext j4).ext j5).ext j6)).three
  have BBl := ((((((BB.out.ext j2).ext j3).ext j4).ext j5).ext j6)).lt
  go_wp2_with fail
  clear BA0 BA1 BA2 BA3 BA4 BA5 BAl
  clear BB0 BB1 BB2 BB3 BB4 BB5 BBl
  refine (C6.out _ (((((((HU.out.ext j1).ext j2).ext j3).ext j4).ext j5).ext j6).ext (by go_grown)) (((((((HV.out.ext j1).ext j2).ext j3).ext j4).ext j5).ext j6).ext (by go_grown))).mono ?_
  rintro e w7 ⟨rfl, hb7⟩
  have j7 : Below w6.heap.size w6 w7 := ext (by go_grown) hb7
  have g7 : Below w.heap.size w w7 := ext g6 j7
  have s7 := j7.size
  have t7 := g7.size
  go_wp2_with fail
  refine (first_any _ ((((((((HG.out.ext j1).ext j2).ext j3).ext j4).ext j5).ext j6).ext j7).ext (by go_grown))).mono ?_
  rintro e w8 ⟨rfl, hb8⟩
  have j8 : Below w7.heap.size w7 w8 := ext (by go_grown) hb8
  have g8 : Below w.heap.size w w8 := ext g7 j8
  have s8 := j8.size
  have t8 := g8.size
  obtain ⟨BA0, BA1, BA2, BA3, BA4, BA5⟩ := ((((((((BA.out.ext j2).ext j3).ext j4).ext j5).ext j6).ext j7).ext j8)).three
  have BAl := ((((((((BA.out.ext j2).ext j3).ext j4).ext j5).ext j6).ext j7).ext j8)).lt
  obtain ⟨BB0, BB1, BB2, BB3, BB4, BB5⟩ := ((((((((BB.out.ext j2).ext j3).ext j4).ext j5).ext j6).ext j7).ext j8)).three
  have BBl := ((((((((BB.out.ext j2).ext j3).ext j4).ext j5).ext j6).ext j7).ext j8)).lt
  go_wp2_with fail
  clear BA0 BA1 BA2 BA3 BA4 BA5 BAl
  clear BB0 BB1 BB2 BB3 BB4 BB5 BBl
  refine (C7.out _ (((((((((HV.out.ext j1).ext j2).ext j3).ext j4).ext j5).ext j6).ext j7).ext j8).ext (by go_grown)) (((((((((HU.out.ext j1).ext j2).ext j3).ext j4).ext j5).ext j6).ext j7).ext j8).ext (by go_grown))).mono ?_
  rintro e w9 ⟨rfl, hb9⟩
  have j9 : Below w8.heap.size w8 w9 := ext (by go_grown) hb9
  have g9 : Below w.heap.size w w9 := ext g8 j9
  have s9 := j9.size
  have t9 := g9.size
  go_wp2
  all_goals go_returns
  all_goals exact ⟨by first | rfl | (simp; done) | (simp; omega), g9⟩

set_option maxRecDepth 100000 in
set_option maxHeartbeats 8000000 in
theorem peaks_ok (v u : Value) (W H : Int) (a : List Int) (W2 H2 : Int) (b : List Int) (w : World) (hv : FrameV w v W H a) (hu : FrameV w u W2 H2 b) (hg : TypeIs w) (h1 : a.length ≤ 5000) (h2 : b.length ≤ 5000) (he : fbothE W H a W2 H2 b = 0) :
    Calls Tryd.prog 7 #[v, u] w fun e w' => e = .returned (.bool true) ∧ Below w.heap.size w w' := by
  have HG := Lib.hid hg
  have HV := Lib.hid hv
  have HU := Lib.hid hu
  have c1 := fun w hv => few_any v W H a w hv
  have c2 := fun w hu => few_any u W2 H2 b w hu
  rw [show decide (a.length ≤ 5000) = true from by simp; omega] at c1
  rw [show decide (b.length ≤ 5000) = true from by simp; omega] at c2
  have C1 := Lib.hid c1
  have C2 := Lib.hid c2
  have c3 := fun w hv hu => ppeak_any v u W H a W2 H2 b w hv hu
  have c4 := fun w hv hu => psum_any v u W H a W2 H2 b w hv hu
  have c5 := fun w hu hv => ppeak_any u v W2 H2 b W H a w hu hv
  have c6 := fun w hu hv => psum_any u v W2 H2 b W H a w hu hv
  have c7 := fun w hv hu => psame_any v u W H a W2 H2 b w hv hu
  obtain ⟨m1, m2, e1, e2⟩ := fbothE_zero he
  have hab : a.length = b.length := by have := m1.len; have := m2.len; rw [← e1, ← e2] at this; omega
  rw [same_yes he] at c7
  rw [fbothE_comm W2 H2 b W H a, he, okI_zero rfl] at c5 c6
  rw [he, okI_zero rfl] at c3 c4
  rw [← hab, peakTo_comm b a] at c5
  rw [sad_comm hab.symm] at c6
  have hp0 := peakTo_bd m1.pix m2.pix a.length
  have hz1 := peak_zero hab
  have hz2 := sad_zero hab
  have hle : sadV a b ≤ peakTo a b a.length * W * H := by
    have := sum_le_peak (a := a) (b := b) (n := a.length)
    rw [m1.len, ← Int.mul_assoc] at this
    exact this
  have hge : peakTo a b a.length ≤ sadV a b := peakTo_le
  have hw : 0 ≤ peakTo a b a.length * W ∧ peakTo a b a.length * W ≤ 8160 := by
    have := hp0; rcases m1.w with rfl | rfl | rfl | rfl <;> omega
  have hwh : 0 ≤ peakTo a b a.length * W * H ∧ peakTo a b a.length * W * H ≤ 261120 := by
    have := hw; generalize peakTo a b a.length * W = pw at *; rcases m1.h with rfl | rfl | rfl | rfl <;> omega
  have hab1 : (peakTo a b a.length == 0) = decide (a = b) := by
    by_cases h : a = b
    · rw [decide_eq_true h, beq_iff_eq]; exact hz1.2 h
    · rw [decide_eq_false h, beq_eq_false_iff_ne]; exact fun e => h (hz1.1 e)
  have hab2 : (sadV a b == 0) = decide (a = b) := by
    by_cases h : a = b
    · rw [decide_eq_true h, beq_iff_eq]; exact hz2.2 h
    · rw [decide_eq_false h, beq_eq_false_iff_ne]; exact fun e => h (hz2.1 e)
  have C3 := Lib.hid c3
  have C4 := Lib.hid c4
  have C5 := Lib.hid c5
  have C6 := Lib.hid c6
  have C7 := Lib.hid c7
  obtain ⟨ao, cap, rfl, hp⟩ := hv.cells
  obtain ⟨bo, cap2, rfl, hq⟩ := hu.cells
  have hla := hp.len
  have hlb := hq.len
  have BA0 := Lib.hid ((Blk.new w #[.int .i64 W, .int .i64 H, .slice ao a.length cap] 24).alloc (.cells #[.int .i64 W2, .int .i64 H2, .slice bo b.length cap2] 24))
  have BB0 := Lib.hid (Blk.new (w.alloc (.cells #[.int .i64 W, .int .i64 H, .slice ao a.length cap] 24)) #[.int .i64 W2, .int .i64 H2, .slice bo b.length cap2] 24)
  simp only [World.size_alloc] at BB0
  clear hv hu hg hp hq c1 c2 c3 c4 c5 c6 c7 he h1 h2 m1 m2 e1 e2 hab hz1 hz2
  generalize decide (a = b) = ab at *
  generalize peakTo a b a.length = pk at *
  generalize sadV a b = sm at *
  obtain ⟨hp01, hp02⟩ := hp0
  obtain ⟨hw1, hw2⟩ := hw
  obtain ⟨hwh1, hwh2⟩ := hwh
  go_enter Tryd.func7, Tryd.ntmps7
  have g0 : Below w.heap.size w w := Below.refl _ _
  go_wp2_with fail
  refine (first_any _ (HG.out.ext (by go_grown))).mono ?_
  rintro e w1 ⟨rfl, hb1⟩
  have j1 : Below w.heap.size w w1 := ext (by go_grown) hb1
  have g1 : Below w.heap.size w w1 := ext g0 j1
  have s1 := j1.size
  have t1 := g1.size
  have BA := Lib.hid (BA0.out.ext hb1)
  have BB := Lib.hid (BB0.out.ext hb1)
  obtain ⟨BA0, BA1, BA2, BA3, BA4, BA5⟩ := (BA.out).three
  have BAl := (BA.out).lt
  go_wp2_with fail
  clear BA0 BA1 BA2 BA3 BA4 BA5 BAl
  refine (C1.out _ ((HV.out.ext j1).ext (by go_grown))).mono ?_
  rintro e w2 ⟨rfl, hb2⟩
  have j2 : Below w1.heap.size w1 w2 := ext (by go_grown) hb2
  have g2 : Below w.heap.size w w2 := ext g1 j2
  have s2 := j2.size
  have t2 := g2.size
  obtain ⟨BB0, BB1, BB2, BB3, BB4, BB5⟩ := ((BB.out.ext j2)).three
  have BBl := ((BB.out.ext j2)).lt
  go_wp2_with fail
  clear BB0 BB1 BB2 BB3 BB4 BB5 BBl
  refine (C2.out _ (((HU.out.ext j1).ext j2).ext (by go_grown))).mono ?_
  rintro e w3 ⟨rfl, hb3⟩
  have j3 : Below w2.heap.size w2 w3 := ext (by go_grown) hb3
  have g3 : Below w.heap.size w w3 := ext g2 j3
  have s3 := j3.size
  have t3 := g3.size
  obtain ⟨BA0, BA1, BA2, BA3, BA4, BA5⟩ := (((BA.out.ext j2).ext j3)).three
  have BAl := (((BA.out.ext j2).ext j3)).lt
  obtain ⟨BB0, BB1, BB2, BB3, BB4, BB5⟩ := (((BB.out.ext j2).ext j3)).three
  have BBl := (((BB.out.ext j2).ext j3)).lt
  go_wp2_with fail
  clear BA0 BA1 BA2 BA3 BA4 BA5 BAl
  clear BB0 BB1 BB2 BB3 BB4 BB5 BBl
  refine (C3.out _ ((((HV.out.ext j1).ext j2).ext j3).ext (by go_grown)) ((((HU.out.ext j1).ext j2).ext j3).ext (by go_grown))).mono ?_
  rintro e w4 ⟨rfl, hb4⟩
  have j4 : Below w3.heap.size w3 w4 := ext (by go_grown) hb4
  have g4 : Below w.heap.size w w4 := ext g3 j4
  have s4 := j4.size
  have t4 := g4.size
  obtain ⟨BA0, BA1, BA2, BA3, BA4, BA5⟩ := ((((BA.out.ext j2).ext j3).ext j4)).three
  have BAl := ((((BA.out.ext j2).ext j3).ext j4)).lt
  obtain ⟨BB0, BB1, BB2, BB3, BB4, BB5⟩ := ((((BB.out.ext j2).ext j3).ext j4)).three
  have BBl := ((((BB.out.ext j2).ext j3).ext j4)).lt
  go_wp2_with fail
  clear BA0 BA1 BA2 BA3 BA4 BA5 BAl
  clear BB0 BB1 BB2 BB3 BB4 BB5 BBl
  refine (C4.out _ (((((HV.out.ext j1).ext j2).ext j3).ext j4).ext (by go_grown)) (((((HU.out.ext j1).ext j2).ext j3).ext j4).ext (by go_grown))).mono ?_
  rintro e w5 ⟨rfl, hb5⟩
  have j5 : Below w4.heap.size w4 w5 := ext (by go_grown) hb5
  have g5 : Below w.heap.size w w5 := ext g4 j5
  have s5 := j5.size
  have t5 := g5.size
  obtain ⟨BA0, BA1, BA2, BA3, BA4, BA5⟩ := (((((BA.out.ext j2).ext j3).ext j4).ext j5)).three
  have BAl := (((((BA.out.ext j2).ext j3).ext j4).ext j5)).lt
  obtain ⟨BB0, BB1, BB2, BB3, BB4, BB5⟩ := (((((BB.out.ext j2).ext j3).ext j4).ext j5)).three
  have BBl := (((((BB.out.ext j2).ext j3).ext j4).ext j5)).lt
  go_wp2_with fail
  clear BA0 BA1 BA2 BA3 BA4 BA5 BAl
  clear BB0 BB1 BB2 BB3 BB4 BB5 BBl
  refine (C5.out _ ((((((HU.out.ext j1).ext j2).ext j3).ext j4).ext j5).ext (by go_grown)) ((((((HV.out.ext j1).ext j2).ext j3).ext j4).ext j5).ext (by go_grown))).mono ?_
  rintro e w6 ⟨rfl, hb6⟩
  have j6 : Below w5.heap.size w5 w6 := ext (by go_grown) hb6
  have g6 : Below w.heap.size w w6 := ext g5 j6
  have s6 := j6.size
  have t6 := g6.size
  obtain ⟨BA0, BA1, BA2, BA3, BA4, BA5⟩ := ((((((BA.out.ext j2).ext j3).ext j4).ext j5).ext j6)).three
  have BAl := ((((((BA.out.ext j2).ext j3).ext j4).ext j5).ext j6)).lt
  obtain ⟨BB0, BB1, BB2, BB3, BB4, BB5⟩ := ((((((BB.out.ext j2).ext j3).ext j4).ext j5).ext j6)).three
  have BBl := ((((((BB.out.ext j2).ext j3).ext j4).ext j5).ext j6)).lt
  go_wp2_with fail
  clear BA0 BA1 BA2 BA3 BA4 BA5 BAl
  clear BB0 BB1 BB2 BB3 BB4 BB5 BBl
  refine (C6.out _ (((((((HU.out.ext j1).ext j2).ext j3).ext j4).ext j5).ext j6).ext (by go_grown)) (((((((HV.out.ext j1).ext j2).ext j3).ext j4).ext j5).ext j6).ext (by go_grown))).mono ?_
  rintro e w7 ⟨rfl, hb7⟩
  have j7 : Below w6.heap.size w6 w7 := ext (by go_grown) hb7
  have g7 : Below w.heap.size w w7 := ext g6 j7
  have s7 := j7.size
  have t7 := g7.size
  go_wp2_with fail
  refine (first_any _ ((((((((HG.out.ext j1).ext j2).ext j3).ext j4).ext j5).ext j6).ext j7).ext (by go_grown))).mono ?_
  rintro e w8 ⟨rfl, hb8⟩
  have j8 : Below w7.heap.size w7 w8 := ext (by go_grown) hb8
  have g8 : Below w.heap.size w w8 := ext g7 j8
  have s8 := j8.size
  have t8 := g8.size
  obtain ⟨BA0, BA1, BA2, BA3, BA4, BA5⟩ := ((((((((BA.out.ext j2).ext j3).ext j4).ext j5).ext j6).ext j7).ext j8)).three
  have BAl := ((((((((BA.out.ext j2).ext j3).ext j4).ext j5).ext j6).ext j7).ext j8)).lt
  obtain ⟨BB0, BB1, BB2, BB3, BB4, BB5⟩ := ((((((((BB.out.ext j2).ext j3).ext j4).ext j5).ext j6).ext j7).ext j8)).three
  have BBl := ((((((((BB.out.ext j2).ext j3).ext j4).ext j5).ext j6).ext j7).ext j8)).lt
  go_wp2_with fail
  clear BA0 BA1 BA2 BA3 BA4 BA5 BAl
  clear BB0 BB1 BB2 BB3 BB4 BB5 BBl
  refine (C7.out _ (((((((((HV.out.ext j1).ext j2).ext j3).ext j4).ext j5).ext j6).ext j7).ext j8).ext (by go_grown)) (((((((((HU.out.ext j1).ext j2).ext j3).ext j4).ext j5).ext j6).ext j7).ext j8).ext (by go_grown))).mono ?_
  rintro e w9 ⟨rfl, hb9⟩
  have j9 : Below w8.heap.size w8 w9 := ext (by go_grown) hb9
  have g9 : Below w.heap.size w w9 := ext g8 j9
  have s9 := j9.size
  have t9 := g9.size
  cases ab
  all_goals
    obtain ⟨BA0, BA1, BA2, BA3, BA4, BA5⟩ := (((((((((BA.out.ext j2).ext j3).ext j4).ext j5).ext j6).ext j7).ext j8).ext j9)).three
    have BAl := (((((((((BA.out.ext j2).ext j3).ext j4).ext j5).ext j6).ext j7).ext j8).ext j9)).lt
    go_wp2
    all_goals go_returns
    all_goals exact ⟨by first | rfl | (simp; done) | (simp; omega), g9⟩

theorem peaks_walk (v u : Value) (W H : Int) (a : List Int) (W2 H2 : Int) (b : List Int) (w : World) (hv : FrameV w v W H a) (hu : FrameV w u W2 H2 b) (hg : TypeIs w) :
    Calls Tryd.prog 7 #[v, u] w fun e w' => e = .returned (.bool true) ∧ Below w.heap.size w w' := by
  by_cases h1 : a.length ≤ 5000
  · by_cases h2 : b.length ≤ 5000
    · by_cases he : fbothE W H a W2 H2 b = 0
      · exact peaks_ok v u W H a W2 H2 b w hv hu hg h1 h2 he
      · exact peaks_e v u W H a W2 H2 b w hv hu hg h1 h2 he
    · exact peaks_long1 v u W H a W2 H2 b w hv hu hg h1 (by omega)
  · exact peaks_long0 v u W H a W2 H2 b w hv hu hg (by omega)
end Go.Proofs.YtlpifjnjddgfaaaDoor
