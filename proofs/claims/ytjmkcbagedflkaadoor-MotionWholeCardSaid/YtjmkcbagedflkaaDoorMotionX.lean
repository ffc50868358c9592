/- kinlaw11.MotionWhole: the walk. -/
import Derived.Test.YtjmkcbagedflkaaDoorMotionK
import Derived.Test.YtjmkcbagedflkaaDoorPlaneG
import Derived.Laws.Cover1
set_option linter.unusedSimpArgs false
set_option linter.unusedVariables false
namespace Go.Proofs.YtjmkcbagedflkaaDoor
open Go.RowKit Go.Extern.Stop Go.Stop Go.Extern
theorem slice_len {w : World} {v : Value} {xs : List Int} (hv : Ints w v xs) {n : Nat} (hn : xs.length = n) : ∃ ao cap, v = .slice ao n cap := by
  obtain ⟨ao, cap, e, _⟩ := hv; exact ⟨ao, cap, by rw [e, hn]⟩
theorem mid_bd {x y z : Int} (h : z = (x + y + 1) / 2) : x + y ≤ 2 * z ∧ 2 * z ≤ x + y + 1 := by omega
theorem pblk4 {W H : Int} {a : List Int} {x y : Int} (hm : May W H a) (hx : 0 ≤ x ∧ x ≤ 32) (hy : 0 ≤ y ∧ y ≤ 32) {ux uy : Int} (h : vecB ux uy = true) (fv : Value) (w : World) (hv : FrameV w fv W H a) :
    Calls Tryd.prog 14 #[fv, .int .i64 x, .int .i64 y, .int .i64 4, .agg #[.int .i64 ux, .int .i64 uy]] w fun e w' => ∃ v', e = .returned v' ∧ OwnInts w' w.heap.size v' (sqV W H a x y 4 ux uy) ∧ Below w.heap.size w w' := by
  have hc := pblock_any fv W H a x y 4 ux uy w hv
  rw [blkV_yes (blkB_iff.2 ⟨hm, Or.inl rfl, hx, hy, h⟩)] at hc
  exact hc
theorem pget4 {W H : Int} {a : List Int} {x y vx vy : Int} (hm : May W H a) (hx : 0 ≤ x ∧ x ≤ 32) (hy : 0 ≤ y ∧ y ≤ 32) (hp : -7 ≤ vx ∧ vx ≤ 6) (hq : -7 ≤ vy ∧ vy ≤ 7) (fv : Value) (w : World) (hv : FrameV w fv W H a) :
    Calls Tryd.prog 25 #[fv, .int .i64 (x + vx), .int .i64 (y + vy), .int .i64 4] w fun e w' => ∃ v', e = .returned v' ∧ OwnInts w' w.heap.size v' (sqV W H a x y 4 (2 * vx) (2 * vy)) ∧ Below w.heap.size w w' := by
  have hc := pget_any fv W H a (x + vx) (y + vy) 4 w hv
  have hg : getB W H a (x + vx) (y + vy) 4 = true := getB_iff.2 ⟨hm, by omega, by omega, by omega, by omega, by omega, by omega⟩
  unfold getA at hc
  rw [if_pos hg] at hc
  rw [sq_whole]
  exact hc
theorem pblk8 {W H : Int} {a : List Int} {x y : Int} (hm : May W H a) (hx : 0 ≤ x ∧ x ≤ 32) (hy : 0 ≤ y ∧ y ≤ 32) {ux uy : Int} (h : vecB ux uy = true) (fv : Value) (w : World) (hv : FrameV w fv W H a) :
    Calls Tryd.prog 14 #[fv, .int .i64 x, .int .i64 y, .int .i64 8, .agg #[.int .i64 ux, .int .i64 uy]] w fun e w' => ∃ v', e = .returned v' ∧ OwnInts w' w.heap.size v' (sqV W H a x y 8 ux uy) ∧ Below w.heap.size w w' := by
  have hc := pblock_any fv W H a x y 8 ux uy w hv
  rw [blkV_yes (blkB_iff.2 ⟨hm, Or.inr rfl, hx, hy, h⟩)] at hc
  exact hc
theorem pget8 {W H : Int} {a : List Int} {x y vx vy : Int} (hm : May W H a) (hx : 0 ≤ x ∧ x ≤ 32) (hy : 0 ≤ y ∧ y ≤ 32) (hp : -7 ≤ vx ∧ vx ≤ 6) (hq : -7 ≤ vy ∧ vy ≤ 7) (fv : Value) (w : World) (hv : FrameV w fv W H a) :
    Calls Tryd.prog 25 #[fv, .int .i64 (x + vx), .int .i64 (y + vy), .int .i64 8] w fun e w' => ∃ v', e = .returned v' ∧ OwnInts w' w.heap.size v' (sqV W H a x y 8 (2 * vx) (2 * vy)) ∧ Below w.heap.size w w' := by
  have hc := pget_any fv W H a (x + vx) (y + vy) 8 w hv
  have hg : getB W H a (x + vx) (y + vy) 8 = true := getB_iff.2 ⟨hm, by omega, by omega, by omega, by omega, by omega, by omega⟩
  unfold getA at hc
  rw [if_pos hg] at hc
  rw [sq_whole]
  exact hc

set_option maxRecDepth 100000 in
set_option maxHeartbeats 8000000 in
theorem whole_w (v : Value) (W H : Int) (a : List Int) (x y n vx vy : Int) (w : World) (hv : FrameV w v W H a) (hg : TypeIs w) (h0 : 5000 < a.length) :
    Calls Tryd.prog 8 #[v, .int .i64 x, .int .i64 y, .int .i64 n, .agg #[.int .i64 vx, .int .i64 vy]] w fun e w' => e = .returned (.bool true) ∧ Below w.heap.size w w' := by
  have HG := Lib.hid hg
  have HV := Lib.hid hv
  obtain ⟨ao, cap, rfl, hp⟩ := hv.cells
  have hla := hp.len
  have BA0 := Lib.hid ((Blk.new w #[.int .i64 W, .int .i64 H, .slice ao a.length cap] 24).alloc (.cells #[.int .i64 vx, .int .i64 vy] 26))
  have BV0 := Lib.hid (Blk.new (w.alloc (.cells #[.int .i64 W, .int .i64 H, .slice ao a.length cap] 24)) #[.int .i64 vx, .int .i64 vy] 26)
  simp only [World.size_alloc] at BV0
  clear hg hv hp
  go_enter Tryd.func8, Tryd.ntmps8
  have g0 : Below w.heap.size w w := Below.refl _ _
  go_wp2_with fail
  refine (first_any _ (HG.out.ext (by go_grown))).mono ?_
  rintro e w1 ⟨rfl, hb1⟩
  have j1 : Below w.heap.size w w1 := ext (by go_grown) hb1
  have g1 : Below w.heap.size w w1 := ext g0 j1
  have s1 := j1.size
  have t1 := g1.size
  have BA := Lib.hid (BA0.out.ext hb1)
  have BX := Lib.hid (BV0.out.ext hb1)
  obtain ⟨BA0, BA1, BA2, BA3, BA4, BA5⟩ := (BA.out).three
  have BAl := (BA.out).lt
  go_wp2_with fail
  clear BA0 BA1 BA2 BA3 BA4 BA5 BAl
  refine (first_any _ ((HG.out.ext j1).ext (by go_grown))).mono ?_
  rintro e w2 ⟨rfl, hb2⟩
  have j2 : Below w1.heap.size w1 w2 := ext (by go_grown) hb2
  have g2 : Below w.heap.size w w2 := ext g1 j2
  have s2 := j2.size
  have t2 := g2.size
  go_wp2
  all_goals go_returns
  all_goals exact ⟨by first | rfl | (simp; done) | (simp; omega), g2⟩

set_option maxRecDepth 100000 in
set_option maxHeartbeats 8000000 in
theorem whole_m (v : Value) (W H : Int) (a : List Int) (x y n vx vy : Int) (w : World) (hv : FrameV w v W H a) (hg : TypeIs w) (h0 : a.length ≤ 5000) (h1 : mayB W H a = false) :
    Calls Tryd.prog 8 #[v, .int .i64 x, .int .i64 y, .int .i64 n, .agg #[.int .i64 vx, .int .i64 vy]] w fun e w' => e = .returned (.bool true) ∧ Below w.heap.size w w' := by
  have HG := Lib.hid hg
  have c1 := fun w hv => rmay_any v W H a w hv
  rw [h1] at c1
  have C1 := Lib.hid c1
  have HV := Lib.hid hv
  obtain ⟨ao, cap, rfl, hp⟩ := hv.cells
  have hla := hp.len
  have BA0 := Lib.hid ((Blk.new w #[.int .i64 W, .int .i64 H, .slice ao a.length cap] 24).alloc (.cells #[.int .i64 vx, .int .i64 vy] 26))
  have BV0 := Lib.hid (Blk.new (w.alloc (.cells #[.int .i64 W, .int .i64 H, .slice ao a.length cap] 24)) #[.int .i64 vx, .int .i64 vy] 26)
  simp only [World.size_alloc] at BV0
  clear hg hv hp c1 h1
  go_enter Tryd.func8, Tryd.ntmps8
  have g0 : Below w.heap.size w w := Below.refl _ _
  go_wp2_with fail
  refine (first_any _ (HG.out.ext (by go_grown))).mono ?_
  rintro e w1 ⟨rfl, hb1⟩
  have j1 : Below w.heap.size w w1 := ext (by go_grown) hb1
  have g1 : Below w.heap.size w w1 := ext g0 j1
  have s1 := j1.size
  have t1 := g1.size
  have BA := Lib.hid (BA0.out.ext hb1)
  have BX := Lib.hid (BV0.out.ext hb1)
  obtain ⟨BA0, BA1, BA2, BA3, BA4, BA5⟩ := (BA.out).three
  have BAl := (BA.out).lt
  go_wp2_with fail
  clear BA0 BA1 BA2 BA3 BA4 BA5 BAl
  refine (C1.out _ ((HV.out.ext j1).ext (by go_grown))).mono ?_
  rintro e w2 ⟨rfl, hb2⟩
  have j2 : Below w1.heap.size w1 w2 := ext (by go_grown) hb2
  have g2 : Below w.heap.size w w2 := ext g1 j2
  have s2 := j2.size
  have t2 := g2.size
  go_wp2_with fail
  refine (first_any _ (((HG.out.ext j1).ext j2).ext (by go_grown))).mono ?_
  rintro e w3 ⟨rfl, hb3⟩
  have j3 : Below w2.heap.size w2 w3 := ext (by go_grown) hb3
  have g3 : Below w.heap.size w w3 := ext g2 j3
  have s3 := j3.size
  have t3 := g3.size
  go_wp2
  all_goals go_returns
  all_goals exact ⟨by first | rfl | (simp; done) | (simp; omega), g3⟩

set_option maxRecDepth 100000 in
set_option maxHeartbeats 8000000 in
theorem whole_n (v : Value) (W H : Int) (a : List Int) (x y n vx vy : Int) (w : World) (hv : FrameV w v W H a) (hg : TypeIs w) (h0 : a.length ≤ 5000) (h1 : mayB W H a = true) (hn : n ≠ 4 ∧ n ≠ 8) :
    Calls Tryd.prog 8 #[v, .int .i64 x, .int .i64 y, .int .i64 n, .agg #[.int .i64 vx, .int .i64 vy]] w fun e w' => e = .returned (.bool true) ∧ Below w.heap.size w w' := by
  have HG := Lib.hid hg
  have c1 := fun w hv => rmay_any v W H a w hv
  rw [h1] at c1
  have C1 := Lib.hid c1
  have HV := Lib.hid hv
  obtain ⟨ao, cap, rfl, hp⟩ := hv.cells
  have hla := hp.len
  have BA0 := Lib.hid ((Blk.new w #[.int .i64 W, .int .i64 H, .slice ao a.length cap] 24).alloc (.cells #[.int .i64 vx, .int .i64 vy] 26))
  have BV0 := Lib.hid (Blk.new (w.alloc (.cells #[.int .i64 W, .int .i64 H, .slice ao a.length cap] 24)) #[.int .i64 vx, .int .i64 vy] 26)
  simp only [World.size_alloc] at BV0
  clear hg hv hp c1 h1
  have q1 : (n != 4) = true := by simp; omega
  have q2 : (n != 8) = true := by simp; omega
  clear hn
  go_enter Tryd.func8, Tryd.ntmps8
  have g0 : Below w.heap.size w w := Below.refl _ _
  go_wp2_with fail
  refine (first_any _ (HG.out.ext (by go_grown))).mono ?_
  rintro e w1 ⟨rfl, hb1⟩
  have j1 : Below w.heap.size w w1 := ext (by go_grown) hb1
  have g1 : Below w.heap.size w w1 := ext g0 j1
  have s1 := j1.size
  have t1 := g1.size
  have BA := Lib.hid (BA0.out.ext hb1)
  have BX := Lib.hid (BV0.out.ext hb1)
  obtain ⟨BA0, BA1, BA2, BA3, BA4, BA5⟩ := (BA.out).three
  have BAl := (BA.out).lt
  go_wp2_with fail
  clear BA0 BA1 BA2 BA3 BA4 BA5 BAl
  refine (C1.out _ ((HV.out.ext j1).ext (by go_grown))).mono ?_
  rintro e w2 ⟨rfl, hb2⟩
  have j2 : Below w1.heap.size w1 w2 := ext (by go_grown) hb2
  have g2 : Below w.heap.size w w2 := ext g1 j2
  have s2 := j2.size
  have t2 := g2.size
  go_wp2_with fail
  refine (first_any _ (((HG.out.ext j1).ext j2).ext (by go_grown))).mono ?_
  rintro e w3 ⟨rfl, hb3⟩
  have j3 : Below w2.heap.size w2 w3 := ext (by go_grown) hb3
  have g3 : Below w.heap.size w w3 := ext g2 j3
  have s3 := j3.size
  have t3 := g3.size
  go_wp2
  all_goals go_returns
  all_goals exact ⟨by first | rfl | (simp; done) | (simp; omega), g3⟩

set_option maxRecDepth 100000 in
set_option maxHeartbeats 8000000 in
theorem whole4_o0 (v : Value) (W H : Int) (a : List Int) (x y vx vy : Int) (w : World) (hv : FrameV w v W H a) (hg : TypeIs w) (h0 : a.length ≤ 5000) (h1 : mayB W H a = true)  (ko : x < 0) :
    Calls Tryd.prog 8 #[v, .int .i64 x, .int .i64 y, .int .i64 4, .agg #[.int .i64 vx, .int .i64 vy]] w fun e w' => e = .returned (.bool true) ∧ Below w.heap.size w w' := by
  have HG := Lib.hid hg
  have c1 := fun w hv => rmay_any v W H a w hv
  rw [h1] at c1
  have C1 := Lib.hid c1
  have HV := Lib.hid hv
  obtain ⟨ao, cap, rfl, hp⟩ := hv.cells
  have hla := hp.len
  have BA0 := Lib.hid ((Blk.new w #[.int .i64 W, .int .i64 H, .slice ao a.length cap] 24).alloc (.cells #[.int .i64 vx, .int .i64 vy] 26))
  have BV0 := Lib.hid (Blk.new (w.alloc (.cells #[.int .i64 W, .int .i64 H, .slice ao a.length cap] 24)) #[.int .i64 vx, .int .i64 vy] 26)
  simp only [World.size_alloc] at BV0
  clear hg hv hp c1 h1
  go_enter Tryd.func8, Tryd.ntmps8
  have g0 : Below w.heap.size w w := Below.refl _ _
  go_wp2_with fail
  refine (first_any _ (HG.out.ext (by go_grown))).mono ?_
  rintro e w1 ⟨rfl, hb1⟩
  have j1 : Below w.heap.size w w1 := ext (by go_grown) hb1
  have g1 : Below w.heap.size w w1 := ext g0 j1
  have s1 := j1.size
  have t1 := g1.size
  have BA := Lib.hid (BA0.out.ext hb1)
  have BX := Lib.hid (BV0.out.ext hb1)
  obtain ⟨BA0, BA1, BA2, BA3, BA4, BA5⟩ := (BA.out).three
  have BAl := (BA.out).lt
  go_wp2_with fail
  clear BA0 BA1 BA2 BA3 BA4 BA5 BAl
  refine (C1.out _ ((HV.out.ext j1).ext (by go_grown))).mono ?_
  rintro e w2 ⟨rfl, hb2⟩
  have j2 : Below w1.heap.size w1 w2 := ext (by go_grown) hb2
  have g2 : Below w.heap.size w w2 := ext g1 j2
  have s2 := j2.size
  have t2 := g2.size
  obtain ⟨BX0, BX1, BX2, BX3⟩ := (BX.out.ext j2).two
  go_wp2_with fail
  clear BX0 BX1 BX2 BX3
  refine (first_any _ (((HG.out.ext j1).ext j2).ext (by go_grown))).mono ?_
  rintro e w3 ⟨rfl, hb3⟩
  have j3 : Below w2.heap.size w2 w3 := ext (by go_grown) hb3
  have g3 : Below w.heap.size w w3 := ext g2 j3
  have s3 := j3.size
  have t3 := g3.size
  go_wp2
  all_goals go_returns
  all_goals exact ⟨by first | rfl | (simp; done) | (simp; omega), g3⟩

set_option maxRecDepth 100000 in
set_option maxHeartbeats 8000000 in
theorem whole4_o1 (v : Value) (W H : Int) (a : List Int) (x y vx vy : Int) (w : World) (hv : FrameV w v W H a) (hg : TypeIs w) (h0 : a.length ≤ 5000) (h1 : mayB W H a = true) (k0 : 0 ≤ x) (ko : 32 < x) :
    Calls Tryd.prog 8 #[v, .int .i64 x, .int .i64 y, .int .i64 4, .agg #[.int .i64 vx, .int .i64 vy]] w fun e w' => e = .returned (.bool true) ∧ Below w.heap.size w w' := by
  have HG := Lib.hid hg
  have c1 := fun w hv => rmay_any v W H a w hv
  rw [h1] at c1
  have C1 := Lib.hid c1
  have HV := Lib.hid hv
  obtain ⟨ao, cap, rfl, hp⟩ := hv.cells
  have hla := hp.len
  have BA0 := Lib.hid ((Blk.new w #[.int .i64 W, .int .i64 H, .slice ao a.length cap] 24).alloc (.cells #[.int .i64 vx, .int .i64 vy] 26))
  have BV0 := Lib.hid (Blk.new (w.alloc (.cells #[.int .i64 W, .int .i64 H, .slice ao a.length cap] 24)) #[.int .i64 vx, .int .i64 vy] 26)
  simp only [World.size_alloc] at BV0
  clear hg hv hp c1 h1
  go_enter Tryd.func8, Tryd.ntmps8
  have g0 : Below w.heap.size w w := Below.refl _ _
  go_wp2_with fail
  refine (first_any _ (HG.out.ext (by go_grown))).mono ?_
  rintro e w1 ⟨rfl, hb1⟩
  have j1 : Below w.heap.size w w1 := ext (by go_grown) hb1
  have g1 : Below w.heap.size w w1 := ext g0 j1
  have s1 := j1.size
  have t1 := g1.size
  have BA := Lib.hid (BA0.out.ext hb1)
  have BX := Lib.hid (BV0.out.ext hb1)
  obtain ⟨BA0, BA1, BA2, BA3, BA4, BA5⟩ := (BA.out).three
  have BAl := (BA.out).lt
  go_wp2_with fail
  clear BA0 BA1 BA2 BA3 BA4 BA5 BAl
  refine (C1.out _ ((HV.out.ext j1).ext (by go_grown))).mono ?_
  rintro e w2 ⟨rfl, hb2⟩
  have j2 : Below w1.heap.size w1 w2 := ext (by go_grown) hb2
  have g2 : Below w.heap.size w w2 := ext g1 j2
  have s2 := j2.size
  have t2 := g2.size
  obtain ⟨BX0, BX1, BX2, BX3⟩ := (BX.out.ext j2).two
  go_wp2_with fail
  clear BX0 BX1 BX2 BX3
  refine (first_any _ (((HG.out.ext j1).ext j2).ext (by go_grown))).mono ?_
  rintro e w3 ⟨rfl, hb3⟩
  have j3 : Below w2.heap.size w2 w3 := ext (by go_grown) hb3
  have g3 : Below w.heap.size w w3 := ext g2 j3
  have s3 := j3.size
  have t3 := g3.size
  go_wp2
  all_goals go_returns
  all_goals exact ⟨by first | rfl | (simp; done) | (simp; omega), g3⟩

set_option maxRecDepth 100000 in
set_option maxHeartbeats 8000000 in
theorem whole4_o2 (v : Value) (W H : Int) (a : List Int) (x y vx vy : Int) (w : World) (hv : FrameV w v W H a) (hg : TypeIs w) (h0 : a.length ≤ 5000) (h1 : mayB W H a = true) (k0 : 0 ≤ x) (k1 : x ≤ 32) (ko : y < 0) :
    Calls Tryd.prog 8 #[v, .int .i64 x, .int .i64 y, .int .i64 4, .agg #[.int .i64 vx, .int .i64 vy]] w fun e w' => e = .returned (.bool true) ∧ Below w.heap.size w w' := by
  have HG := Lib.hid hg
  have c1 := fun w hv => rmay_any v W H a w hv
  rw [h1] at c1
  have C1 := Lib.hid c1
  have HV := Lib.hid hv
  obtain ⟨ao, cap, rfl, hp⟩ := hv.cells
  have hla := hp.len
  have BA0 := Lib.hid ((Blk.new w #[.int .i64 W, .int .i64 H, .slice ao a.length cap] 24).alloc (.cells #[.int .i64 vx, .int .i64 vy] 26))
  have BV0 := Lib.hid (Blk.new (w.alloc (.cells #[.int .i64 W, .int .i64 H, .slice ao a.length cap] 24)) #[.int .i64 vx, .int .i64 vy] 26)
  simp only [World.size_alloc] at BV0
  clear hg hv hp c1 h1
  go_enter Tryd.func8, Tryd.ntmps8
  have g0 : Below w.heap.size w w := Below.refl _ _
  go_wp2_with fail
  refine (first_any _ (HG.out.ext (by go_grown))).mono ?_
  rintro e w1 ⟨rfl, hb1⟩
  have j1 : Below w.heap.size w w1 := ext (by go_grown) hb1
  have g1 : Below w.heap.size w w1 := ext g0 j1
  have s1 := j1.size
  have t1 := g1.size
  have BA := Lib.hid (BA0.out.ext hb1)
  have BX := Lib.hid (BV0.out.ext hb1)
  obtain ⟨BA0, BA1, BA2, BA3, BA4, BA5⟩ := (BA.out).three
  have BAl := (BA.out).lt
  go_wp2_with fail
  clear BA0 BA1 BA2 BA3 BA4 BA5 BAl
  refine (C1.out _ ((HV.out.ext j1).ext (by go_grown))).mono ?_
  rintro e w2 ⟨rfl, hb2⟩
  have j2 : Below w1.heap.size w1 w2 := ext (by go_grown) hb2
  have g2 : Below w.heap.size w w2 := ext g1 j2
  have s2 := j2.size
  have t2 := g2.size
  obtain ⟨BX0, BX1, BX2, BX3⟩ := (BX.out.ext j2).two
  go_wp2_with fail
  clear BX0 BX1 BX2 BX3
  refine (first_any _ (((HG.out.ext j1).ext j2).ext (by go_grown))).mono ?_
  rintro e w3 ⟨rfl, hb3⟩
  have j3 : Below w2.heap.size w2 w3 := ext (by go_grown) hb3
  have g3 : Below w.heap.size w w3 := ext g2 j3
  have s3 := j3.size
  have t3 := g3.size
  go_wp2
  all_goals go_returns
  all_goals exact ⟨by first | rfl | (simp; done) | (simp; omega), g3⟩

set_option maxRecDepth 100000 in
set_option maxHeartbeats 8000000 in
theorem whole4_o3 (v : Value) (W H : Int) (a : List Int) (x y vx vy : Int) (w : World) (hv : FrameV w v W H a) (hg : TypeIs w) (h0 : a.length ≤ 5000) (h1 : mayB W H a = true) (k0 : 0 ≤ x) (k1 : x ≤ 32) (k2 : 0 ≤ y) (ko : 32 < y) :
    Calls Tryd.prog 8 #[v, .int .i64 x, .int .i64 y, .int .i64 4, .agg #[.int .i64 vx, .int .i64 vy]] w fun e w' => e = .returned (.bool true) ∧ Below w.heap.size w w' := by
  have HG := Lib.hid hg
  have c1 := fun w hv => rmay_any v W H a w hv
  rw [h1] at c1
  have C1 := Lib.hid c1
  have HV := Lib.hid hv
  obtain ⟨ao, cap, rfl, hp⟩ := hv.cells
  have hla := hp.len
  have BA0 := Lib.hid ((Blk.new w #[.int .i64 W, .int .i64 H, .slice ao a.length cap] 24).alloc (.cells #[.int .i64 vx, .int .i64 vy] 26))
  have BV0 := Lib.hid (Blk.new (w.alloc (.cells #[.int .i64 W, .int .i64 H, .slice ao a.length cap] 24)) #[.int .i64 vx, .int .i64 vy] 26)
  simp only [World.size_alloc] at BV0
  clear hg hv hp c1 h1
  go_enter Tryd.func8, Tryd.ntmps8
  have g0 : Below w.heap.size w w := Below.refl _ _
  go_wp2_with fail
  refine (first_any _ (HG.out.ext (by go_grown))).mono ?_
  rintro e w1 ⟨rfl, hb1⟩
  have j1 : Below w.heap.size w w1 := ext (by go_grown) hb1
  have g1 : Below w.heap.size w w1 := ext g0 j1
  have s1 := j1.size
  have t1 := g1.size
  have BA := Lib.hid (BA0.out.ext hb1)
  have BX := Lib.hid (BV0.out.ext hb1)
  obtain ⟨BA0, BA1, BA2, BA3, BA4, BA5⟩ := (BA.out).three
  have BAl := (BA.out).lt
  go_wp2_with fail
  clear BA0 BA1 BA2 BA3 BA4 BA5 BAl
  refine (C1.out _ ((HV.out.ext j1).ext (by go_grown))).mono ?_
  rintro e w2 ⟨rfl, hb2⟩
  have j2 : Below w1.heap.size w1 w2 := ext (by go_grown) hb2
  have g2 : Below w.heap.size w w2 := ext g1 j2
  have s2 := j2.size
  have t2 := g2.size
  obtain ⟨BX0, BX1, BX2, BX3⟩ := (BX.out.ext j2).two
  go_wp2_with fail
  clear BX0 BX1 BX2 BX3
  refine (first_any _ (((HG.out.ext j1).ext j2).ext (by go_grown))).mono ?_
  rintro e w3 ⟨rfl, hb3⟩
  have j3 : Below w2.heap.size w2 w3 := ext (by go_grown) hb3
  have g3 : Below w.heap.size w w3 := ext g2 j3
  have s3 := j3.size
  have t3 := g3.size
  go_wp2
  all_goals go_returns
  all_goals exact ⟨by first | rfl | (simp; done) | (simp; omega), g3⟩

set_option maxRecDepth 100000 in
set_option maxHeartbeats 8000000 in
theorem whole4_o4 (v : Value) (W H : Int) (a : List Int) (x y vx vy : Int) (w : World) (hv : FrameV w v W H a) (hg : TypeIs w) (h0 : a.length ≤ 5000) (h1 : mayB W H a = true) (k0 : 0 ≤ x) (k1 : x ≤ 32) (k2 : 0 ≤ y) (k3 : y ≤ 32) (ko : vx < -7) :
    Calls Tryd.prog 8 #[v, .int .i64 x, .int .i64 y, .int .i64 4, .agg #[.int .i64 vx, .int .i64 vy]] w fun e w' => e = .returned (.bool true) ∧ Below w.heap.size w w' := by
  have HG := Lib.hid hg
  have c1 := fun w hv => rmay_any v W H a w hv
  rw [h1] at c1
  have C1 := Lib.hid c1
  have HV := Lib.hid hv
  obtain ⟨ao, cap, rfl, hp⟩ := hv.cells
  have hla := hp.len
  have BA0 := Lib.hid ((Blk.new w #[.int .i64 W, .int .i64 H, .slice ao a.length cap] 24).alloc (.cells #[.int .i64 vx, .int .i64 vy] 26))
  have BV0 := Lib.hid (Blk.new (w.alloc (.cells #[.int .i64 W, .int .i64 H, .slice ao a.length cap] 24)) #[.int .i64 vx, .int .i64 vy] 26)
  simp only [World.size_alloc] at BV0
  clear hg hv hp c1 h1
  go_enter Tryd.func8, Tryd.ntmps8
  have g0 : Below w.heap.size w w := Below.refl _ _
  go_wp2_with fail
  refine (first_any _ (HG.out.ext (by go_grown))).mono ?_
  rintro e w1 ⟨rfl, hb1⟩
  have j1 : Below w.heap.size w w1 := ext (by go_grown) hb1
  have g1 : Below w.heap.size w w1 := ext g0 j1
  have s1 := j1.size
  have t1 := g1.size
  have BA := Lib.hid (BA0.out.ext hb1)
  have BX := Lib.hid (BV0.out.ext hb1)
  obtain ⟨BA0, BA1, BA2, BA3, BA4, BA5⟩ := (BA.out).three
  have BAl := (BA.out).lt
  go_wp2_with fail
  clear BA0 BA1 BA2 BA3 BA4 BA5 BAl
  refine (C1.out _ ((HV.out.ext j1).ext (by go_grown))).mono ?_
  rintro e w2 ⟨rfl, hb2⟩
  have j2 : Below w1.heap.size w1 w2 := ext (by go_grown) hb2
  have g2 : Below w.heap.size w w2 := ext g1 j2
  have s2 := j2.size
  have t2 := g2.size
  obtain ⟨BX0, BX1, BX2, BX3⟩ := (BX.out.ext j2).two
  go_wp2_with fail
  clear BX0 BX1 BX2 BX3
  refine (first_any _ (((HG.out.ext j1).ext j2).ext (by go_grown))).mono ?_
  rintro e w3 ⟨rfl, hb3⟩
  have j3 : Below w2.heap.size w2 w3 := ext (by go_grown) hb3
  have g3 : Below w.heap.size w w3 := ext g2 j3
  have s3 := j3.size
  have t3 := g3.size
  go_wp2
  all_goals go_returns
  all_goals exact ⟨by first | rfl | (simp; done) | (simp; omega), g3⟩

set_option maxRecDepth 100000 in
set_option maxHeartbeats 8000000 in
theorem whole4_o5 (v : Value) (W H : Int) (a : List Int) (x y vx vy : Int) (w : World) (hv : FrameV w v W H a) (hg : TypeIs w) (h0 : a.length ≤ 5000) (h1 : mayB W H a = true) (k0 : 0 ≤ x) (k1 : x ≤ 32) (k2 : 0 ≤ y) (k3 : y ≤ 32) (k4 : -7 ≤ vx) (ko : 6 < vx) :
    Calls Tryd.prog 8 #[v, .int .i64 x, .int .i64 y, .int .i64 4, .agg #[.int .i64 vx, .int .i64 vy]] w fun e w' => e = .returned (.bool true) ∧ Below w.heap.size w w' := by
  have HG := Lib.hid hg
  have c1 := fun w hv => rmay_any v W H a w hv
  rw [h1] at c1
  have C1 := Lib.hid c1
  have HV := Lib.hid hv
  obtain ⟨ao, cap, rfl, hp⟩ := hv.cells
  have hla := hp.len
  have BA0 := Lib.hid ((Blk.new w #[.int .i64 W, .int .i64 H, .slice ao a.length cap] 24).alloc (.cells #[.int .i64 vx, .int .i64 vy] 26))
  have BV0 := Lib.hid (Blk.new (w.alloc (.cells #[.int .i64 W, .int .i64 H, .slice ao a.length cap] 24)) #[.int .i64 vx, .int .i64 vy] 26)
  simp only [World.size_alloc] at BV0
  clear hg hv hp c1 h1
  go_enter Tryd.func8, Tryd.ntmps8
  have g0 : Below w.heap.size w w := Below.refl _ _
  go_wp2_with fail
  refine (first_any _ (HG.out.ext (by go_grown))).mono ?_
  rintro e w1 ⟨rfl, hb1⟩
  have j1 : Below w.heap.size w w1 := ext (by go_grown) hb1
  have g1 : Below w.heap.size w w1 := ext g0 j1
  have s1 := j1.size
  have t1 := g1.size
  have BA := Lib.hid (BA0.out.ext hb1)
  have BX := Lib.hid (BV0.out.ext hb1)
  obtain ⟨BA0, BA1, BA2, BA3, BA4, BA5⟩ := (BA.out).three
  have BAl := (BA.out).lt
  go_wp2_with fail
  clear BA0 BA1 BA2 BA3 BA4 BA5 BAl
  refine (C1.out _ ((HV.out.ext j1).ext (by go_grown))).mono ?_
  rintro e w2 ⟨rfl, hb2⟩
  have j2 : Below w1.heap.size w1 w2 := ext (by go_grown) hb2
  have g2 : Below w.heap.size w w2 := ext g1 j2
  have s2 := j2.size
  have t2 := g2.size
  obtain ⟨BX0, BX1, BX2, BX3⟩ := (BX.out.ext j2).two
  go_wp2_with fail
  clear BX0 BX1 BX2 BX3
  refine (first_any _ (((HG.out.ext j1).ext j2).ext (by go_grown))).mono ?_
  rintro e w3 ⟨rfl, hb3⟩
  have j3 : Below w2.heap.size w2 w3 := ext (by go_grown) hb3
  have g3 : Below w.heap.size w w3 := ext g2 j3
  have s3 := j3.size
  have t3 := g3.size
  go_wp2
  all_goals go_returns
  all_goals exact ⟨by first | rfl | (simp; done) | (simp; omega), g3⟩

set_option maxRecDepth 100000 in
set_option maxHeartbeats 8000000 in
theorem whole4_o6 (v : Value) (W H : Int) (a : List Int) (x y vx vy : Int) (w : World) (hv : FrameV w v W H a) (hg : TypeIs w) (h0 : a.length ≤ 5000) (h1 : mayB W H a = true) (k0 : 0 ≤ x) (k1 : x ≤ 32) (k2 : 0 ≤ y) (k3 : y ≤ 32) (k4 : -7 ≤ vx) (k5 : vx ≤ 6) (ko : vy < -7) :
    Calls Tryd.prog 8 #[v, .int .i64 x, .int .i64 y, .int .i64 4, .agg #[.int .i64 vx, .int .i64 vy]] w fun e w' => e = .returned (.bool true) ∧ Below w.heap.size w w' := by
  have HG := Lib.hid hg
  have c1 := fun w hv => rmay_any v W H a w hv
  rw [h1] at c1
  have C1 := Lib.hid c1
  have HV := Lib.hid hv
  obtain ⟨ao, cap, rfl, hp⟩ := hv.cells
  have hla := hp.len
  have BA0 := Lib.hid ((Blk.new w #[.int .i64 W, .int .i64 H, .slice ao a.length cap] 24).alloc (.cells #[.int .i64 vx, .int .i64 vy] 26))
  have BV0 := Lib.hid (Blk.new (w.alloc (.cells #[.int .i64 W, .int .i64 H, .slice ao a.length cap] 24)) #[.int .i64 vx, .int .i64 vy] 26)
  simp only [World.size_alloc] at BV0
  clear hg hv hp c1 h1
  go_enter Tryd.func8, Tryd.ntmps8
  have g0 : Below w.heap.size w w := Below.refl _ _
  go_wp2_with fail
  refine (first_any _ (HG.out.ext (by go_grown))).mono ?_
  rintro e w1 ⟨rfl, hb1⟩
  have j1 : Below w.heap.size w w1 := ext (by go_grown) hb1
  have g1 : Below w.heap.size w w1 := ext g0 j1
  have s1 := j1.size
  have t1 := g1.size
  have BA := Lib.hid (BA0.out.ext hb1)
  have BX := Lib.hid (BV0.out.ext hb1)
  obtain ⟨BA0, BA1, BA2, BA3, BA4, BA5⟩ := (BA.out).three
  have BAl := (BA.out).lt
  go_wp2_with fail
  clear BA0 BA1 BA2 BA3 BA4 BA5 BAl
  refine (C1.out _ ((HV.out.ext j1).ext (by go_grown))).mono ?_
  rintro e w2 ⟨rfl, hb2⟩
  have j2 : Below w1.heap.size w1 w2 := ext (by go_grown) hb2
  have g2 : Below w.heap.size w w2 := ext g1 j2
  have s2 := j2.size
  have t2 := g2.size
  obtain ⟨BX0, BX1, BX2, BX3⟩ := (BX.out.ext j2).two
  go_wp2_with fail
  clear BX0 BX1 BX2 BX3
  refine (first_any _ (((HG.out.ext j1).ext j2).ext (by go_grown))).mono ?_
  rintro e w3 ⟨rfl, hb3⟩
  have j3 : Below w2.heap.size w2 w3 := ext (by go_grown) hb3
  have g3 : Below w.heap.size w w3 := ext g2 j3
  have s3 := j3.size
  have t3 := g3.size
  go_wp2
  all_goals go_returns
  all_goals exact ⟨by first | rfl | (simp; done) | (simp; omega), g3⟩

set_option maxRecDepth 100000 in
set_option maxHeartbeats 8000000 in
theorem whole4_o7 (v : Value) (W H : Int) (a : List Int) (x y vx vy : Int) (w : World) (hv : FrameV w v W H a) (hg : TypeIs w) (h0 : a.length ≤ 5000) (h1 : mayB W H a = true) (k0 : 0 ≤ x) (k1 : x ≤ 32) (k2 : 0 ≤ y) (k3 : y ≤ 32) (k4 : -7 ≤ vx) (k5 : vx ≤ 6) (k6 : -7 ≤ vy) (ko : 7 < vy) :
    Calls Tryd.prog 8 #[v, .int .i64 x, .int .i64 y, .int .i64 4, .agg #[.int .i64 vx, .int .i64 vy]] w fun e w' => e = .returned (.bool true) ∧ Below w.heap.size w w' := by
  have HG := Lib.hid hg
  have c1 := fun w hv => rmay_any v W H a w hv
  rw [h1] at c1
  have C1 := Lib.hid c1
  have HV := Lib.hid hv
  obtain ⟨ao, cap, rfl, hp⟩ := hv.cells
  have hla := hp.len
  have BA0 := Lib.hid ((Blk.new w #[.int .i64 W, .int .i64 H, .slice ao a.length cap] 24).alloc (.cells #[.int .i64 vx, .int .i64 vy] 26))
  have BV0 := Lib.hid (Blk.new (w.alloc (.cells #[.int .i64 W, .int .i64 H, .slice ao a.length cap] 24)) #[.int .i64 vx, .int .i64 vy] 26)
  simp only [World.size_alloc] at BV0
  clear hg hv hp c1 h1
  go_enter Tryd.func8, Tryd.ntmps8
  have g0 : Below w.heap.size w w := Below.refl _ _
  go_wp2_with fail
  refine (first_any _ (HG.out.ext (by go_grown))).mono ?_
  rintro e w1 ⟨rfl, hb1⟩
  have j1 : Below w.heap.size w w1 := ext (by go_grown) hb1
  have g1 : Below w.heap.size w w1 := ext g0 j1
  have s1 := j1.size
  have t1 := g1.size
  have BA := Lib.hid (BA0.out.ext hb1)
  have BX := Lib.hid (BV0.out.ext hb1)
  obtain ⟨BA0, BA1, BA2, BA3, BA4, BA5⟩ := (BA.out).three
  have BAl := (BA.out).lt
  go_wp2_with fail
  clear BA0 BA1 BA2 BA3 BA4 BA5 BAl
  refine (C1.out _ ((HV.out.ext j1).ext (by go_grown))).mono ?_
  rintro e w2 ⟨rfl, hb2⟩
  have j2 : Below w1.heap.size w1 w2 := ext (by go_grown) hb2
  have g2 : Below w.heap.size w w2 := ext g1 j2
  have s2 := j2.size
  have t2 := g2.size
  obtain ⟨BX0, BX1, BX2, BX3⟩ := (BX.out.ext j2).two
  go_wp2_with fail
  clear BX0 BX1 BX2 BX3
  refine (first_any _ (((HG.out.ext j1).ext j2).ext (by go_grown))).mono ?_
  rintro e w3 ⟨rfl, hb3⟩
  have j3 : Below w2.heap.size w2 w3 := ext (by go_grown) hb3
  have g3 : Below w.heap.size w w3 := ext g2 j3
  have s3 := j3.size
  have t3 := g3.size
  go_wp2
  all_goals go_returns
  all_goals exact ⟨by first | rfl | (simp; done) | (simp; omega), g3⟩

set_option maxRecDepth 100000 in
set_option maxHeartbeats 8000000 in
theorem whole4_i (v : Value) (W H : Int) (a : List Int) (x y vx vy : Int) (w : World) (hv : FrameV w v W H a) (hg : TypeIs w) (h0 : a.length ≤ 5000) (h1 : mayB W H a = true) (k0 : 0 ≤ x) (k1 : x ≤ 32) (k2 : 0 ≤ y) (k3 : y ≤ 32) (k4 : -7 ≤ vx) (k5 : vx ≤ 6) (k6 : -7 ≤ vy) (k7 : vy ≤ 7) :
    Calls Tryd.prog 8 #[v, .int .i64 x, .int .i64 y, .int .i64 4, .agg #[.int .i64 vx, .int .i64 vy]] w fun e w' => e = .returned (.bool true) ∧ Below w.heap.size w w' := by
  have HG := Lib.hid hg
  have hm := mayB_iff.1 h1
  have c1 := fun w hv => rmay_any v W H a w hv
  rw [h1] at c1
  have C1 := Lib.hid c1
  have C2 := Lib.hid (fun fv w h => pblk4 hm ⟨k0, k1⟩ ⟨k2, k3⟩ (show vecB (2 * vx) (2 * vy) = true from vecB_of (by omega)) fv w h)
  have C3 := Lib.hid (fun fv w h => pblk4 hm ⟨k0, k1⟩ ⟨k2, k3⟩ (show vecB (2 * vx + 2) (2 * vy) = true from vecB_of (by omega)) fv w h)
  have C4 := Lib.hid (fun fv w h => pblk4 hm ⟨k0, k1⟩ ⟨k2, k3⟩ (show vecB (2 * vx + 1) (2 * vy) = true from vecB_of (by omega)) fv w h)
  have C5 := Lib.hid (fun fv w h => pget4 hm ⟨k0, k1⟩ ⟨k2, k3⟩ ⟨k4, k5⟩ ⟨k6, k7⟩ fv w h)
  have LA := Lib.hid (show (sqV W H a x y 4 (2 * vx) (2 * vy)).length = 16 from length_sqV W H a x y 4 (2 * vx) (2 * vy))
  have LB := Lib.hid (show (sqV W H a x y 4 (2 * vx + 2) (2 * vy)).length = 16 from length_sqV W H a x y 4 (2 * vx + 2) (2 * vy))
  have LC := Lib.hid (show (sqV W H a x y 4 (2 * vx + 1) (2 * vy)).length = 16 from length_sqV W H a x y 4 (2 * vx + 1) (2 * vy))
  have MA := Lib.hid (fun k => within_get (sqV_within hm x y 4 (2 * vx) (2 * vy)) (show (0 : Int) ≤ 0 by omega) (show (0 : Int) ≤ 255 by omega) k)
  have MB := Lib.hid (fun k => within_get (sqV_within hm x y 4 (2 * vx + 2) (2 * vy)) (show (0 : Int) ≤ 0 by omega) (show (0 : Int) ≤ 255 by omega) k)
  have MM := Lib.hid (fun (k : Nat) (hk : k < 16) => mid_bd (sq_mid (W := W) (H := H) (pix := a) x y 4 vx vy (k := k) hk))
  generalize sqV W H a x y 4 (2 * vx) (2 * vy) = la at *
  generalize sqV W H a x y 4 (2 * vx + 2) (2 * vy) = lb at *
  generalize sqV W H a x y 4 (2 * vx + 1) (2 * vy) = lc at *
  have HV := Lib.hid hv
  obtain ⟨ao, cap, rfl, hp⟩ := hv.cells
  have hla := hp.len
  have BA0 := Lib.hid ((Blk.new w #[.int .i64 W, .int .i64 H, .slice ao a.length cap] 24).alloc (.cells #[.int .i64 vx, .int .i64 vy] 26))
  have BV0 := Lib.hid (Blk.new (w.alloc (.cells #[.int .i64 W, .int .i64 H, .slice ao a.length cap] 24)) #[.int .i64 vx, .int .i64 vy] 26)
  simp only [World.size_alloc] at BV0
  clear hg hv hp c1 h1 hm
  go_enter Tryd.func8, Tryd.ntmps8
  have g0 : Below w.heap.size w w := Below.refl _ _
  go_wp2_with fail
  refine (first_any _ (HG.out.ext (by go_grown))).mono ?_
  rintro e w1 ⟨rfl, hb1⟩
  have j1 : Below w.heap.size w w1 := ext (by go_grown) hb1
  have g1 : Below w.heap.size w w1 := ext g0 j1
  have s1 := j1.size
  have t1 := g1.size
  have BA := Lib.hid (BA0.out.ext hb1)
  have BX := Lib.hid (BV0.out.ext hb1)
  obtain ⟨BA0, BA1, BA2, BA3, BA4, BA5⟩ := (BA.out).three
  have BAl := (BA.out).lt
  go_wp2_with fail
  clear BA0 BA1 BA2 BA3 BA4 BA5 BAl
  refine (C1.out _ ((HV.out.ext j1).ext (by go_grown))).mono ?_
  rintro e w2 ⟨rfl, hb2⟩
  have j2 : Below w1.heap.size w1 w2 := ext (by go_grown) hb2
  have g2 : Below w.heap.size w w2 := ext g1 j2
  have s2 := j2.size
  have t2 := g2.size
  obtain ⟨BX0, BX1, BX2, BX3⟩ := (BX.out.ext j2).two
  obtain ⟨BA0, BA1, BA2, BA3, BA4, BA5⟩ := ((BA.out.ext j2)).three
  have BAl := ((BA.out.ext j2)).lt
  go_wp2_with fail
  clear BA0 BA1 BA2 BA3 BA4 BA5 BAl
  clear BX0 BX1 BX2 BX3
  refine (C2.out _ _ (((HV.out.ext j1).ext j2).ext (by go_grown))).mono ?_
  rintro e w3 ⟨x0, rfl, hx0, hb3⟩
  have j3 : Below w2.heap.size w2 w3 := ext (by go_grown) hb3
  have g3 : Below w.heap.size w w3 := ext g2 j3
  have s3 := j3.size
  have t3 := g3.size
  obtain ⟨p0, c0, rfl⟩ := slice_len hx0.ints LA.out
  have HLA := Lib.hid (hx0.ints)
  clear hx0
  obtain ⟨BX0, BX1, BX2, BX3⟩ := ((BX.out.ext j2).ext j3).two
  obtain ⟨BA0, BA1, BA2, BA3, BA4, BA5⟩ := (((BA.out.ext j2).ext j3)).three
  have BAl := (((BA.out.ext j2).ext j3)).lt
  go_wp2_with fail
  clear BA0 BA1 BA2 BA3 BA4 BA5 BAl
  clear BX0 BX1 BX2 BX3
  refine (C3.out _ _ ((((HV.out.ext j1).ext j2).ext j3).ext (by go_grown))).mono ?_
  rintro e w4 ⟨x1, rfl, hx1, hb4⟩
  have j4 : Below w3.heap.size w3 w4 := ext (by go_grown) hb4
  have g4 : Below w.heap.size w w4 := ext g3 j4
  have s4 := j4.size
  have t4 := g4.size
  obtain ⟨p1, c1, rfl⟩ := slice_len hx1.ints LB.out
  have HLB := Lib.hid (hx1.ints)
  clear hx1
  obtain ⟨BX0, BX1, BX2, BX3⟩ := (((BX.out.ext j2).ext j3).ext j4).two
  obtain ⟨BA0, BA1, BA2, BA3, BA4, BA5⟩ := ((((BA.out.ext j2).ext j3).ext j4)).three
  have BAl := ((((BA.out.ext j2).ext j3).ext j4)).lt
  go_wp2_with fail
  clear BA0 BA1 BA2 BA3 BA4 BA5 BAl
  clear BX0 BX1 BX2 BX3
  refine (C4.out _ _ (((((HV.out.ext j1).ext j2).ext j3).ext j4).ext (by go_grown))).mono ?_
  rintro e w5 ⟨x2, rfl, hx2, hb5⟩
  have j5 : Below w4.heap.size w4 w5 := ext (by go_grown) hb5
  have g5 : Below w.heap.size w w5 := ext g4 j5
  have s5 := j5.size
  have t5 := g5.size
  obtain ⟨p2, c2, rfl⟩ := slice_len hx2.ints LC.out
  have HLC := Lib.hid (hx2.ints)
  clear hx2
  obtain ⟨BX0, BX1, BX2, BX3⟩ := ((((BX.out.ext j2).ext j3).ext j4).ext j5).two
  obtain ⟨BA0, BA1, BA2, BA3, BA4, BA5⟩ := (((((BA.out.ext j2).ext j3).ext j4).ext j5)).three
  have BAl := (((((BA.out.ext j2).ext j3).ext j4).ext j5)).lt
  go_wp2_with fail
  clear BA0 BA1 BA2 BA3 BA4 BA5 BAl
  clear BX0 BX1 BX2 BX3
  refine (C5.out _ _ ((((((HV.out.ext j1).ext j2).ext j3).ext j4).ext j5).ext (by go_grown))).mono ?_
  rintro e w6 ⟨x5, rfl, hx5, hb6⟩
  have j6 : Below w5.heap.size w5 w6 := ext (by go_grown) hb6
  have g6 : Below w.heap.size w w6 := ext g5 j6
  have s6 := j6.size
  have t6 := g6.size
  obtain ⟨p5, c5, rfl⟩ := slice_len hx5.ints LA.out
  have HGL := Lib.hid (hx5.ints)
  clear hx5
  go_wp2_with fail
  refine (ints_same _ _ la _ ((((HLA.out.ext j4).ext j5).ext j6).ext (by go_grown)) (HGL.out.ext (by go_grown))).mono ?_
  rintro e w7 ⟨rfl, hb7⟩
  have j7 : Below w6.heap.size w6 w7 := ext (by go_grown) hb7
  have g7 : Below w.heap.size w w7 := ext g6 j7
  have s7 := j7.size
  have t7 := g7.size
  go_wp2
  go_loopw [14] (fun i wr => ∃ k : Nat, k ≤ 16 ∧ i = .int .i64 k ∧ Below w7.heap.size w7 wr) (fun i _ => 16 - (intOf i).toNat)
  case atStart => exact ⟨0, Nat.zero_le _, rfl, Below.refl _ _⟩
  case round =>
    obtain ⟨k, hk, rfl, hbr⟩ := hrel
    have gr : Below w.heap.size w wr := ext g7 hbr
    by_cases hlt : k < 16
    · obtain ⟨b1, o1, rfl, ca, lb1⟩ := (((((HLA.out.ext j4).ext j5).ext j6).ext j7).ext hbr).cellN (j := k) (by rw [LA.out]; exact hlt)
      obtain ⟨b2, o2, rfl, cb, lb2⟩ := ((((HLB.out.ext j5).ext j6).ext j7).ext hbr).cellN (j := k) (by rw [LB.out]; exact hlt)
      obtain ⟨b3, o3, rfl, cc, lb3⟩ := (((HLC.out.ext j6).ext j7).ext hbr).cellN (j := k) (by rw [LC.out]; exact hlt)
      obtain ⟨x1, x2⟩ := MA.out k
      obtain ⟨y1, y2⟩ := MB.out k
      obtain ⟨z1, z2⟩ := MM.out k hlt
      clear LA LB LC MA MB MM HLA HLB HLC HGL
      generalize la.getD k 0 = xx at *
      generalize lb.getD k 0 = yy at *
      generalize lc.getD k 0 = zz at *
      have d3 : decide (2 * zz < xx + yy) = false := by simp; omega
      have d4 : decide (xx + yy + 1 < 2 * zz) = false := by simp; omega
      have q1 : IntKind.i64.wrap (2 * zz) = 2 * zz := IntWalk.i64_in _ (by omega)
      have q2 : IntKind.i64.wrap (xx + yy) = xx + yy := IntWalk.i64_in _ (by omega)
      have q3 : IntKind.i64.wrap (xx + yy + 1) = xx + yy + 1 := IntWalk.i64_in _ (by omega)
      have hmn : ∃ mn : Int, (if yy < xx then yy else xx) = mn ∧ mn ≤ zz := ⟨_, rfl, by split <;> omega⟩
      have hmx : ∃ mx : Int, (if yy > xx then yy else xx) = mx ∧ zz ≤ mx := ⟨_, rfl, by split <;> omega⟩
      obtain ⟨mn, hmn, hmn2⟩ := hmn
      obtain ⟨mx, hmx, hmx2⟩ := hmx
      have hmx3 : (if xx < yy then yy else xx) = mx := hmx
      have d1 : decide (zz < mn) = false := by simp; omega
      have d2 : decide (mx < zz) = false := by simp; omega
      clear z1 z2 x1 x2 y1 y2 hmn2 hmx2
      go_wp2
      go_quiet (fail)
      go_wp2
      go_roundw
      case rel => exact ⟨k + 1, by omega, by go_num, by first | exact hbr | exact below_drewN' hbr _⟩
      case measure => simp [intOf]; omega
    · have e : k = 16 := by omega
      subst e
      obtain ⟨wa, rfl⟩ : ∃ wa : World, wa = wr := ⟨_, rfl⟩
      have HGa := Lib.hid (HG.out.ext gr)
      go_wp2_with fail
      refine (first_any _ (HGa.out.ext (by go_grown))).mono ?_
      rintro e wz ⟨rfl, hbz⟩
      have gz : Below w.heap.size w wz := ext gr (ext (by go_grown) hbz)
      go_wp2
      all_goals go_returns
      all_goals exact ⟨by first | rfl | (simp; done) | (simp; omega), gz⟩

set_option maxRecDepth 100000 in
set_option maxHeartbeats 8000000 in
theorem whole8_o0 (v : Value) (W H : Int) (a : List Int) (x y vx vy : Int) (w : World) (hv : FrameV w v W H a) (hg : TypeIs w) (h0 : a.length ≤ 5000) (h1 : mayB W H a = true)  (ko : x < 0) :
    Calls Tryd.prog 8 #[v, .int .i64 x, .int .i64 y, .int .i64 8, .agg #[.int .i64 vx, .int .i64 vy]] w fun e w' => e = .returned (.bool true) ∧ Below w.heap.size w w' := by
  have HG := Lib.hid hg
  have c1 := fun w hv => rmay_any v W H a w hv
  rw [h1] at c1
  have C1 := Lib.hid c1
  have HV := Lib.hid hv
  obtain ⟨ao, cap, rfl, hp⟩ := hv.cells
  have hla := hp.len
  have BA0 := Lib.hid ((Blk.new w #[.int .i64 W, .int .i64 H, .slice ao a.length cap] 24).alloc (.cells #[.int .i64 vx, .int .i64 vy] 26))
  have BV0 := Lib.hid (Blk.new (w.alloc (.cells #[.int .i64 W, .int .i64 H, .slice ao a.length cap] 24)) #[.int .i64 vx, .int .i64 vy] 26)
  simp only [World.size_alloc] at BV0
  clear hg hv hp c1 h1
  go_enter Tryd.func8, Tryd.ntmps8
  have g0 : Below w.heap.size w w := Below.refl _ _
  go_wp2_with fail
  refine (first_any _ (HG.out.ext (by go_grown))).mono ?_
  rintro e w1 ⟨rfl, hb1⟩
  have j1 : Below w.heap.size w w1 := ext (by go_grown) hb1
  have g1 : Below w.heap.size w w1 := ext g0 j1
  have s1 := j1.size
  have t1 := g1.size
  have BA := Lib.hid (BA0.out.ext hb1)
  have BX := Lib.hid (BV0.out.ext hb1)
  obtain ⟨BA0, BA1, BA2, BA3, BA4, BA5⟩ := (BA.out).three
  have BAl := (BA.out).lt
  go_wp2_with fail
  clear BA0 BA1 BA2 BA3 BA4 BA5 BAl
  refine (C1.out _ ((HV.out.ext j1).ext (by go_grown))).mono ?_
  rintro e w2 ⟨rfl, hb2⟩
  have j2 : Below w1.heap.size w1 w2 := ext (by go_grown) hb2
  have g2 : Below w.heap.size w w2 := ext g1 j2
  have s2 := j2.size
  have t2 := g2.size
  obtain ⟨BX0, BX1, BX2, BX3⟩ := (BX.out.ext j2).two
  go_wp2_with fail
  clear BX0 BX1 BX2 BX3
  refine (first_any _ (((HG.out.ext j1).ext j2).ext (by go_grown))).mono ?_
  rintro e w3 ⟨rfl, hb3⟩
  have j3 : Below w2.heap.size w2 w3 := ext (by go_grown) hb3
  have g3 : Below w.heap.size w w3 := ext g2 j3
  have s3 := j3.size
  have t3 := g3.size
  go_wp2
  all_goals go_returns
  all_goals exact ⟨by first | rfl | (simp; done) | (simp; omega), g3⟩

set_option maxRecDepth 100000 in
set_option maxHeartbeats 8000000 in
theorem whole8_o1 (v : Value) (W H : Int) (a : List Int) (x y vx vy : Int) (w : World) (hv : FrameV w v W H a) (hg : TypeIs w) (h0 : a.length ≤ 5000) (h1 : mayB W H a = true) (k0 : 0 ≤ x) (ko : 32 < x) :
    Calls Tryd.prog 8 #[v, .int .i64 x, .int .i64 y, .int .i64 8, .agg #[.int .i64 vx, .int .i64 vy]] w fun e w' => e = .returned (.bool true) ∧ Below w.heap.size w w' := by
  have HG := Lib.hid hg
  have c1 := fun w hv => rmay_any v W H a w hv
  rw [h1] at c1
  have C1 := Lib.hid c1
  have HV := Lib.hid hv
  obtain ⟨ao, cap, rfl, hp⟩ := hv.cells
  have hla := hp.len
  have BA0 := Lib.hid ((Blk.new w #[.int .i64 W, .int .i64 H, .slice ao a.length cap] 24).alloc (.cells #[.int .i64 vx, .int .i64 vy] 26))
  have BV0 := Lib.hid (Blk.new (w.alloc (.cells #[.int .i64 W, .int .i64 H, .slice ao a.length cap] 24)) #[.int .i64 vx, .int .i64 vy] 26)
  simp only [World.size_alloc] at BV0
  clear hg hv hp c1 h1
  go_enter Tryd.func8, Tryd.ntmps8
  have g0 : Below w.heap.size w w := Below.refl _ _
  go_wp2_with fail
  refine (first_any _ (HG.out.ext (by go_grown))).mono ?_
  rintro e w1 ⟨rfl, hb1⟩
  have j1 : Below w.heap.size w w1 := ext (by go_grown) hb1
  have g1 : Below w.heap.size w w1 := ext g0 j1
  have s1 := j1.size
  have t1 := g1.size
  have BA := Lib.hid (BA0.out.ext hb1)
  have BX := Lib.hid (BV0.out.ext hb1)
  obtain ⟨BA0, BA1, BA2, BA3, BA4, BA5⟩ := (BA.out).three
  have BAl := (BA.out).lt
  go_wp2_with fail
  clear BA0 BA1 BA2 BA3 BA4 BA5 BAl
  refine (C1.out _ ((HV.out.ext j1).ext (by go_grown))).mono ?_
  rintro e w2 ⟨rfl, hb2⟩
  have j2 : Below w1.heap.size w1 w2 := ext (by go_grown) hb2
  have g2 : Below w.heap.size w w2 := ext g1 j2
  have s2 := j2.size
  have t2 := g2.size
  obtain ⟨BX0, BX1, BX2, BX3⟩ := (BX.out.ext j2).two
  go_wp2_with fail
  clear BX0 BX1 BX2 BX3
  refine (first_any _ (((HG.out.ext j1).ext j2).ext (by go_grown))).mono ?_
  rintro e w3 ⟨rfl, hb3⟩
  have j3 : Below w2.heap.size w2 w3 := ext (by go_grown) hb3
  have g3 : Below w.heap.size w w3 := ext g2 j3
  have s3 := j3.size
  have t3 := g3.size
  go_wp2
  all_goals go_returns
  all_goals exact ⟨by first | rfl | (simp; done) | (simp; omega), g3⟩

set_option maxRecDepth 100000 in
set_option maxHeartbeats 8000000 in
theorem whole8_o2 (v : Value) (W H : Int) (a : List Int) (x y vx vy : Int) (w : World) (hv : FrameV w v W H a) (hg : TypeIs w) (h0 : a.length ≤ 5000) (h1 : mayB W H a = true) (k0 : 0 ≤ x) (k1 : x ≤ 32) (ko : y < 0) :
    Calls Tryd.prog 8 #[v, .int .i64 x, .int .i64 y, .int .i64 8, .agg #[.int .i64 vx, .int .i64 vy]] w fun e w' => e = .returned (.bool true) ∧ Below w.heap.size w w' := by
  have HG := Lib.hid hg
  have c1 := fun w hv => rmay_any v W H a w hv
  rw [h1] at c1
  have C1 := Lib.hid c1
  have HV := Lib.hid hv
  obtain ⟨ao, cap, rfl, hp⟩ := hv.cells
  have hla := hp.len
  have BA0 := Lib.hid ((Blk.new w #[.int .i64 W, .int .i64 H, .slice ao a.length cap] 24).alloc (.cells #[.int .i64 vx, .int .i64 vy] 26))
  have BV0 := Lib.hid (Blk.new (w.alloc (.cells #[.int .i64 W, .int .i64 H, .slice ao a.length cap] 24)) #[.int .i64 vx, .int .i64 vy] 26)
  simp only [World.size_alloc] at BV0
  clear hg hv hp c1 h1
  go_enter Tryd.func8, Tryd.ntmps8
  have g0 : Below w.heap.size w w := Below.refl _ _
  go_wp2_with fail
  refine (first_any _ (HG.out.ext (by go_grown))).mono ?_
  rintro e w1 ⟨rfl, hb1⟩
  have j1 : Below w.heap.size w w1 := ext (by go_grown) hb1
  have g1 : Below w.heap.size w w1 := ext g0 j1
  have s1 := j1.size
  have t1 := g1.size
  have BA := Lib.hid (BA0.out.ext hb1)
  have BX := Lib.hid (BV0.out.ext hb1)
  obtain ⟨BA0, BA1, BA2, BA3, BA4, BA5⟩ := (BA.out).three
  have BAl := (BA.out).lt
  go_wp2_with fail
  clear BA0 BA1 BA2 BA3 BA4 BA5 BAl
  refine (C1.out _ ((HV.out.ext j1).ext (by go_grown))).mono ?_
  rintro e w2 ⟨rfl, hb2⟩
  have j2 : Below w1.heap.size w1 w2 := ext (by go_grown) hb2
  have g2 : Below w.heap.size w w2 := ext g1 j2
  have s2 := j2.size
  have t2 := g2.size
  obtain ⟨BX0, BX1, BX2, BX3⟩ := (BX.out.ext j2).two
  go_wp2_with fail
  clear BX0 BX1 BX2 BX3
  refine (first_any _ (((HG.out.ext j1).ext j2).ext (by go_grown))).mono ?_
  rintro e w3 ⟨rfl, hb3⟩
  have j3 : Below w2.heap.size w2 w3 := ext (by go_grown) hb3
  have g3 : Below w.heap.size w w3 := ext g2 j3
  have s3 := j3.size
  have t3 := g3.size
  go_wp2
  all_goals go_returns
  all_goals exact ⟨by first | rfl | (simp; done) | (simp; omega), g3⟩

set_option maxRecDepth 100000 in
set_option maxHeartbeats 8000000 in
theorem whole8_o3 (v : Value) (W H : Int) (a : List Int) (x y vx vy : Int) (w : World) (hv : FrameV w v W H a) (hg : TypeIs w) (h0 : a.length ≤ 5000) (h1 : mayB W H a = true) (k0 : 0 ≤ x) (k1 : x ≤ 32) (k2 : 0 ≤ y) (ko : 32 < y) :
    Calls Tryd.prog 8 #[v, .int .i64 x, .int .i64 y, .int .i64 8, .agg #[.int .i64 vx, .int .i64 vy]] w fun e w' => e = .returned (.bool true) ∧ Below w.heap.size w w' := by
  have HG := Lib.hid hg
  have c1 := fun w hv => rmay_any v W H a w hv
  rw [h1] at c1
  have C1 := Lib.hid c1
  have HV := Lib.hid hv
  obtain ⟨ao, cap, rfl, hp⟩ := hv.cells
  have hla := hp.len
  have BA0 := Lib.hid ((Blk.new w #[.int .i64 W, .int .i64 H, .slice ao a.length cap] 24).alloc (.cells #[.int .i64 vx, .int .i64 vy] 26))
  have BV0 := Lib.hid (Blk.new (w.alloc (.cells #[.int .i64 W, .int .i64 H, .slice ao a.length cap] 24)) #[.int .i64 vx, .int .i64 vy] 26)
  simp only [World.size_alloc] at BV0
  clear hg hv hp c1 h1
  go_enter Tryd.func8, Tryd.ntmps8
  have g0 : Below w.heap.size w w := Below.refl _ _
  go_wp2_with fail
  refine (first_any _ (HG.out.ext (by go_grown))).mono ?_
  rintro e w1 ⟨rfl, hb1⟩
  have j1 : Below w.heap.size w w1 := ext (by go_grown) hb1
  have g1 : Below w.heap.size w w1 := ext g0 j1
  have s1 := j1.size
  have t1 := g1.size
  have BA := Lib.hid (BA0.out.ext hb1)
  have BX := Lib.hid (BV0.out.ext hb1)
  obtain ⟨BA0, BA1, BA2, BA3, BA4, BA5⟩ := (BA.out).three
  have BAl := (BA.out).lt
  go_wp2_with fail
  clear BA0 BA1 BA2 BA3 BA4 BA5 BAl
  refine (C1.out _ ((HV.out.ext j1).ext (by go_grown))).mono ?_
  rintro e w2 ⟨rfl, hb2⟩
  have j2 : Below w1.heap.size w1 w2 := ext (by go_grown) hb2
  have g2 : Below w.heap.size w w2 := ext g1 j2
  have s2 := j2.size
  have t2 := g2.size
  obtain ⟨BX0, BX1, BX2, BX3⟩ := (BX.out.ext j2).two
  go_wp2_with fail
  clear BX0 BX1 BX2 BX3
  refine (first_any _ (((HG.out.ext j1).ext j2).ext (by go_grown))).mono ?_
  rintro e w3 ⟨rfl, hb3⟩
  have j3 : Below w2.heap.size w2 w3 := ext (by go_grown) hb3
  have g3 : Below w.heap.size w w3 := ext g2 j3
  have s3 := j3.size
  have t3 := g3.size
  go_wp2
  all_goals go_returns
  all_goals exact ⟨by first | rfl | (simp; done) | (simp; omega), g3⟩

set_option maxRecDepth 100000 in
set_option maxHeartbeats 8000000 in
theorem whole8_o4 (v : Value) (W H : Int) (a : List Int) (x y vx vy : Int) (w : World) (hv : FrameV w v W H a) (hg : TypeIs w) (h0 : a.length ≤ 5000) (h1 : mayB W H a = true) (k0 : 0 ≤ x) (k1 : x ≤ 32) (k2 : 0 ≤ y) (k3 : y ≤ 32) (ko : vx < -7) :
    Calls Tryd.prog 8 #[v, .int .i64 x, .int .i64 y, .int .i64 8, .agg #[.int .i64 vx, .int .i64 vy]] w fun e w' => e = .returned (.bool true) ∧ Below w.heap.size w w' := by
  have HG := Lib.hid hg
  have c1 := fun w hv => rmay_any v W H a w hv
  rw [h1] at c1
  have C1 := Lib.hid c1
  have HV := Lib.hid hv
  obtain ⟨ao, cap, rfl, hp⟩ := hv.cells
  have hla := hp.len
  have BA0 := Lib.hid ((Blk.new w #[.int .i64 W, .int .i64 H, .slice ao a.length cap] 24).alloc (.cells #[.int .i64 vx, .int .i64 vy] 26))
  have BV0 := Lib.hid (Blk.new (w.alloc (.cells #[.int .i64 W, .int .i64 H, .slice ao a.length cap] 24)) #[.int .i64 vx, .int .i64 vy] 26)
  simp only [World.size_alloc] at BV0
  clear hg hv hp c1 h1
  go_enter Tryd.func8, Tryd.ntmps8
  have g0 : Below w.heap.size w w := Below.refl _ _
  go_wp2_with fail
  refine (first_any _ (HG.out.ext (by go_grown))).mono ?_
  rintro e w1 ⟨rfl, hb1⟩
  have j1 : Below w.heap.size w w1 := ext (by go_grown) hb1
  have g1 : Below w.heap.size w w1 := ext g0 j1
  have s1 := j1.size
  have t1 := g1.size
  have BA := Lib.hid (BA0.out.ext hb1)
  have BX := Lib.hid (BV0.out.ext hb1)
  obtain ⟨BA0, BA1, BA2, BA3, BA4, BA5⟩ := (BA.out).three
  have BAl := (BA.out).lt
  go_wp2_with fail
  clear BA0 BA1 BA2 BA3 BA4 BA5 BAl
  refine (C1.out _ ((HV.out.ext j1).ext (by go_grown))).mono ?_
  rintro e w2 ⟨rfl, hb2⟩
  have j2 : Below w1.heap.size w1 w2 := ext (by go_grown) hb2
  have g2 : Below w.heap.size w w2 := ext g1 j2
  have s2 := j2.size
  have t2 := g2.size
  obtain ⟨BX0, BX1, BX2, BX3⟩ := (BX.out.ext j2).two
  go_wp2_with fail
  clear BX0 BX1 BX2 BX3
  refine (first_any _ (((HG.out.ext j1).ext j2).ext (by go_grown))).mono ?_
  rintro e w3 ⟨rfl, hb3⟩
  have j3 : Below w2.heap.size w2 w3 := ext (by go_grown) hb3
  have g3 : Below w.heap.size w w3 := ext g2 j3
  have s3 := j3.size
  have t3 := g3.size
  go_wp2
  all_goals go_returns
  all_goals exact ⟨by first | rfl | (simp; done) | (simp; omega), g3⟩

set_option maxRecDepth 100000 in
set_option maxHeartbeats 8000000 in
theorem whole8_o5 (v : Value) (W H : Int) (a : List Int) (x y vx vy : Int) (w : World) (hv : FrameV w v W H a) (hg : TypeIs w) (h0 : a.length ≤ 5000) (h1 : mayB W H a = true) (k0 : 0 ≤ x) (k1 : x ≤ 32) (k2 : 0 ≤ y) (k3 : y ≤ 32) (k4 : -7 ≤ vx) (ko : 6 < vx) :
    Calls Tryd.prog 8 #[v, .int .i64 x, .int .i64 y, .int .i64 8, .agg #[.int .i64 vx, .int .i64 vy]] w fun e w' => e = .returned (.bool true) ∧ Below w.heap.size w w' := by
  have HG := Lib.hid hg
  have c1 := fun w hv => rmay_any v W H a w hv
  rw [h1] at c1
  have C1 := Lib.hid c1
  have HV := Lib.hid hv
  obtain ⟨ao, cap, rfl, hp⟩ := hv.cells
  have hla := hp.len
  have BA0 := Lib.hid ((Blk.new w #[.int .i64 W, .int .i64 H, .slice ao a.length cap] 24).alloc (.cells #[.int .i64 vx, .int .i64 vy] 26))
  have BV0 := Lib.hid (Blk.new (w.alloc (.cells #[.int .i64 W, .int .i64 H, .slice ao a.length cap] 24)) #[.int .i64 vx, .int .i64 vy] 26)
  simp only [World.size_alloc] at BV0
  clear hg hv hp c1 h1
  go_enter Tryd.func8, Tryd.ntmps8
  have g0 : Below w.heap.size w w := Below.refl _ _
  go_wp2_with fail
  refine (first_any _ (HG.out.ext (by go_grown))).mono ?_
  rintro e w1 ⟨rfl, hb1⟩
  have j1 : Below w.heap.size w w1 := ext (by go_grown) hb1
  have g1 : Below w.heap.size w w1 := ext g0 j1
  have s1 := j1.size
  have t1 := g1.size
  have BA := Lib.hid (BA0.out.ext hb1)
  have BX := Lib.hid (BV0.out.ext hb1)
  obtain ⟨BA0, BA1, BA2, BA3, BA4, BA5⟩ := (BA.out).three
  have BAl := (BA.out).lt
  go_wp2_with fail
  clear BA0 BA1 BA2 BA3 BA4 BA5 BAl
  refine (C1.out _ ((HV.out.ext j1).ext (by go_grown))).mono ?_
  rintro e w2 ⟨rfl, hb2⟩
  have j2 : Below w1.heap.size w1 w2 := ext (by go_grown) hb2
  have g2 : Below w.heap.size w w2 := ext g1 j2
  have s2 := j2.size
  have t2 := g2.size
  obtain ⟨BX0, BX1, BX2, BX3⟩ := (BX.out.ext j2).two
  go_wp2_with fail
  clear BX0 BX1 BX2 BX3
  refine (first_any _ (((HG.out.ext j1).ext j2).ext (by go_grown))).mono ?_
  rintro e w3 ⟨rfl, hb3⟩
  have j3 : Below w2.heap.size w2 w3 := ext (by go_grown) hb3
  have g3 : Below w.heap.size w w3 := ext g2 j3
  have s3 := j3.size
  have t3 := g3.size
  go_wp2
  all_goals go_returns
  all_goals exact ⟨by first | rfl | (simp; done) | (simp; omega), g3⟩

set_option maxRecDepth 100000 in
set_option maxHeartbeats 8000000 in
theorem whole8_o6 (v : Value) (W H : Int) (a : List Int) (x y vx vy : Int) (w : World) (hv : FrameV w v W H a) (hg : TypeIs w) (h0 : a.length ≤ 5000) (h1 : mayB W H a = true) (k0 : 0 ≤ x) (k1 : x ≤ 32) (k2 : 0 ≤ y) (k3 : y ≤ 32) (k4 : -7 ≤ vx) (k5 : vx ≤ 6) (ko : vy < -7) :
    Calls Tryd.prog 8 #[v, .int .i64 x, .int .i64 y, .int .i64 8, .agg #[.int .i64 vx, .int .i64 vy]] w fun e w' => e = .returned (.bool true) ∧ Below w.heap.size w w' := by
  have HG := Lib.hid hg
  have c1 := fun w hv => rmay_any v W H a w hv
  rw [h1] at c1
  have C1 := Lib.hid c1
  have HV := Lib.hid hv
  obtain ⟨ao, cap, rfl, hp⟩ := hv.cells
  have hla := hp.len
  have BA0 := Lib.hid ((Blk.new w #[.int .i64 W, .int .i64 H, .slice ao a.length cap] 24).alloc (.cells #[.int .i64 vx, .int .i64 vy] 26))
  have BV0 := Lib.hid (Blk.new (w.alloc (.cells #[.int .i64 W, .int .i64 H, .slice ao a.length cap] 24)) #[.int .i64 vx, .int .i64 vy] 26)
  simp only [World.size_alloc] at BV0
  clear hg hv hp c1 h1
  go_enter Tryd.func8, Tryd.ntmps8
  have g0 : Below w.heap.size w w := Below.refl _ _
  go_wp2_with fail
  refine (first_any _ (HG.out.ext (by go_grown))).mono ?_
  rintro e w1 ⟨rfl, hb1⟩
  have j1 : Below w.heap.size w w1 := ext (by go_grown) hb1
  have g1 : Below w.heap.size w w1 := ext g0 j1
  have s1 := j1.size
  have t1 := g1.size
  have BA := Lib.hid (BA0.out.ext hb1)
  have BX := Lib.hid (BV0.out.ext hb1)
  obtain ⟨BA0, BA1, BA2, BA3, BA4, BA5⟩ := (BA.out).three
  have BAl := (BA.out).lt
  go_wp2_with fail
  clear BA0 BA1 BA2 BA3 BA4 BA5 BAl
  refine (C1.out _ ((HV.out.ext j1).ext (by go_grown))).mono ?_
  rintro e w2 ⟨rfl, hb2⟩
  have j2 : Below w1.heap.size w1 w2 := ext (by go_grown) hb2
  have g2 : Below w.heap.size w w2 := ext g1 j2
  have s2 := j2.size
  have t2 := g2.size
  obtain ⟨BX0, BX1, BX2, BX3⟩ := (BX.out.ext j2).two
  go_wp2_with fail
  clear BX0 BX1 BX2 BX3
  refine (first_any _ (((HG.out.ext j1).ext j2).ext (by go_grown))).mono ?_
  rintro e w3 ⟨rfl, hb3⟩
  have j3 : Below w2.heap.size w2 w3 := ext (by go_grown) hb3
  have g3 : Below w.heap.size w w3 := ext g2 j3
  have s3 := j3.size
  have t3 := g3.size
  go_wp2
  all_goals go_returns
  all_goals exact ⟨by first | rfl | (simp; done) | (simp; omega), g3⟩

set_option maxRecDepth 100000 in
set_option maxHeartbeats 8000000 in
theorem whole8_o7 (v : Value) (W H : Int) (a : List Int) (x y vx vy : Int) (w : World) (hv : FrameV w v W H a) (hg : TypeIs w) (h0 : a.length ≤ 5000) (h1 : mayB W H a = true) (k0 : 0 ≤ x) (k1 : x ≤ 32) (k2 : 0 ≤ y) (k3 : y ≤ 32) (k4 : -7 ≤ vx) (k5 : vx ≤ 6) (k6 : -7 ≤ vy) (ko : 7 < vy) :
    Calls Tryd.prog 8 #[v, .int .i64 x, .int .i64 y, .int .i64 8, .agg #[.int .i64 vx, .int .i64 vy]] w fun e w' => e = .returned (.bool true) ∧ Below w.heap.size w w' := by
  have HG := Lib.hid hg
  have c1 := fun w hv => rmay_any v W H a w hv
  rw [h1] at c1
  have C1 := Lib.hid c1
  have HV := Lib.hid hv
  obtain ⟨ao, cap, rfl, hp⟩ := hv.cells
  have hla := hp.len
  have BA0 := Lib.hid ((Blk.new w #[.int .i64 W, .int .i64 H, .slice ao a.length cap] 24).alloc (.cells #[.int .i64 vx, .int .i64 vy] 26))
  have BV0 := Lib.hid (Blk.new (w.alloc (.cells #[.int .i64 W, .int .i64 H, .slice ao a.length cap] 24)) #[.int .i64 vx, .int .i64 vy] 26)
  simp only [World.size_alloc] at BV0
  clear hg hv hp c1 h1
  go_enter Tryd.func8, Tryd.ntmps8
  have g0 : Below w.heap.size w w := Below.refl _ _
  go_wp2_with fail
  refine (first_any _ (HG.out.ext (by go_grown))).mono ?_
  rintro e w1 ⟨rfl, hb1⟩
  have j1 : Below w.heap.size w w1 := ext (by go_grown) hb1
  have g1 : Below w.heap.size w w1 := ext g0 j1
  have s1 := j1.size
  have t1 := g1.size
  have BA := Lib.hid (BA0.out.ext hb1)
  have BX := Lib.hid (BV0.out.ext hb1)
  obtain ⟨BA0, BA1, BA2, BA3, BA4, BA5⟩ := (BA.out).three
  have BAl := (BA.out).lt
  go_wp2_with fail
  clear BA0 BA1 BA2 BA3 BA4 BA5 BAl
  refine (C1.out _ ((HV.out.ext j1).ext (by go_grown))).mono ?_
  rintro e w2 ⟨rfl, hb2⟩
  have j2 : Below w1.heap.size w1 w2 := ext (by go_grown) hb2
  have g2 : Below w.heap.size w w2 := ext g1 j2
  have s2 := j2.size
  have t2 := g2.size
  obtain ⟨BX0, BX1, BX2, BX3⟩ := (BX.out.ext j2).two
  go_wp2_with fail
  clear BX0 BX1 BX2 BX3
  refine (first_any _ (((HG.out.ext j1).ext j2).ext (by go_grown))).mono ?_
  rintro e w3 ⟨rfl, hb3⟩
  have j3 : Below w2.heap.size w2 w3 := ext (by go_grown) hb3
  have g3 : Below w.heap.size w w3 := ext g2 j3
  have s3 := j3.size
  have t3 := g3.size
  go_wp2
  all_goals go_returns
  all_goals exact ⟨by first | rfl | (simp; done) | (simp; omega), g3⟩

set_option maxRecDepth 100000 in
set_option maxHeartbeats 8000000 in
theorem whole8_i (v : Value) (W H : Int) (a : List Int) (x y vx vy : Int) (w : World) (hv : FrameV w v W H a) (hg : TypeIs w) (h0 : a.length ≤ 5000) (h1 : mayB W H a = true) (k0 : 0 ≤ x) (k1 : x ≤ 32) (k2 : 0 ≤ y) (k3 : y ≤ 32) (k4 : -7 ≤ vx) (k5 : vx ≤ 6) (k6 : -7 ≤ vy) (k7 : vy ≤ 7) :
    Calls Tryd.prog 8 #[v, .int .i64 x, .int .i64 y, .int .i64 8, .agg #[.int .i64 vx, .int .i64 vy]] w fun e w' => e = .returned (.bool true) ∧ Below w.heap.size w w' := by
  have HG := Lib.hid hg
  have hm := mayB_iff.1 h1
  have c1 := fun w hv => rmay_any v W H a w hv
  rw [h1] at c1
  have C1 := Lib.hid c1
  have C2 := Lib.hid (fun fv w h => pblk8 hm ⟨k0, k1⟩ ⟨k2, k3⟩ (show vecB (2 * vx) (2 * vy) = true from vecB_of (by omega)) fv w h)
  have C3 := Lib.hid (fun fv w h => pblk8 hm ⟨k0, k1⟩ ⟨k2, k3⟩ (show vecB (2 * vx + 2) (2 * vy) = true from vecB_of (by omega)) fv w h)
  have C4 := Lib.hid (fun fv w h => pblk8 hm ⟨k0, k1⟩ ⟨k2, k3⟩ (show vecB (2 * vx + 1) (2 * vy) = true from vecB_of (by omega)) fv w h)
  have C5 := Lib.hid (fun fv w h => pget8 hm ⟨k0, k1⟩ ⟨k2, k3⟩ ⟨k4, k5⟩ ⟨k6, k7⟩ fv w h)
  have LA := Lib.hid (show (sqV W H a x y 8 (2 * vx) (2 * vy)).length = 64 from length_sqV W H a x y 8 (2 * vx) (2 * vy))
  have LB := Lib.hid (show (sqV W H a x y 8 (2 * vx + 2) (2 * vy)).length = 64 from length_sqV W H a x y 8 (2 * vx + 2) (2 * vy))
  have LC := Lib.hid (show (sqV W H a x y 8 (2 * vx + 1) (2 * vy)).length = 64 from length_sqV W H a x y 8 (2 * vx + 1) (2 * vy))
  have MA := Lib.hid (fun k => within_get (sqV_within hm x y 8 (2 * vx) (2 * vy)) (show (0 : Int) ≤ 0 by omega) (show (0 : Int) ≤ 255 by omega) k)
  have MB := Lib.hid (fun k => within_get (sqV_within hm x y 8 (2 * vx + 2) (2 * vy)) (show (0 : Int) ≤ 0 by omega) (show (0 : Int) ≤ 255 by omega) k)
  have MM := Lib.hid (fun (k : Nat) (hk : k < 64) => mid_bd (sq_mid (W := W) (H := H) (pix := a) x y 8 vx vy (k := k) hk))
  generalize sqV W H a x y 8 (2 * vx) (2 * vy) = la at *
  generalize sqV W H a x y 8 (2 * vx + 2) (2 * vy) = lb at *
  generalize sqV W H a x y 8 (2 * vx + 1) (2 * vy) = lc at *
  have HV := Lib.hid hv
  obtain ⟨ao, cap, rfl, hp⟩ := hv.cells
  have hla := hp.len
  have BA0 := Lib.hid ((Blk.new w #[.int .i64 W, .int .i64 H, .slice ao a.length cap] 24).alloc (.cells #[.int .i64 vx, .int .i64 vy] 26))
  have BV0 := Lib.hid (Blk.new (w.alloc (.cells #[.int .i64 W, .int .i64 H, .slice ao a.length cap] 24)) #[.int .i64 vx, .int .i64 vy] 26)
  simp only [World.size_alloc] at BV0
  clear hg hv hp c1 h1 hm
  go_enter Tryd.func8, Tryd.ntmps8
  have g0 : Below w.heap.size w w := Below.refl _ _
  go_wp2_with fail
  refine (first_any _ (HG.out.ext (by go_grown))).mono ?_
  rintro e w1 ⟨rfl, hb1⟩
  have j1 : Below w.heap.size w w1 := ext (by go_grown) hb1
  have g1 : Below w.heap.size w w1 := ext g0 j1
  have s1 := j1.size
  have t1 := g1.size
  have BA := Lib.hid (BA0.out.ext hb1)
  have BX := Lib.hid (BV0.out.ext hb1)
  obtain ⟨BA0, BA1, BA2, BA3, BA4, BA5⟩ := (BA.out).three
  have BAl := (BA.out).lt
  go_wp2_with fail
  clear BA0 BA1 BA2 BA3 BA4 BA5 BAl
  refine (C1.out _ ((HV.out.ext j1).ext (by go_grown))).mono ?_
  rintro e w2 ⟨rfl, hb2⟩
  have j2 : Below w1.heap.size w1 w2 := ext (by go_grown) hb2
  have g2 : Below w.heap.size w w2 := ext g1 j2
  have s2 := j2.size
  have t2 := g2.size
  obtain ⟨BX0, BX1, BX2, BX3⟩ := (BX.out.ext j2).two
  obtain ⟨BA0, BA1, BA2, BA3, BA4, BA5⟩ := ((BA.out.ext j2)).three
  have BAl := ((BA.out.ext j2)).lt
  go_wp2_with fail
  clear BA0 BA1 BA2 BA3 BA4 BA5 BAl
  clear BX0 BX1 BX2 BX3
  refine (C2.out _ _ (((HV.out.ext j1).ext j2).ext (by go_grown))).mono ?_
  rintro e w3 ⟨x0, rfl, hx0, hb3⟩
  have j3 : Below w2.heap.size w2 w3 := ext (by go_grown) hb3
  have g3 : Below w.heap.size w w3 := ext g2 j3
  have s3 := j3.size
  have t3 := g3.size
  obtain ⟨p0, c0, rfl⟩ := slice_len hx0.ints LA.out
  have HLA := Lib.hid (hx0.ints)
  clear hx0
  obtain ⟨BX0, BX1, BX2, BX3⟩ := ((BX.out.ext j2).ext j3).two
  obtain ⟨BA0, BA1, BA2, BA3, BA4, BA5⟩ := (((BA.out.ext j2).ext j3)).three
  have BAl := (((BA.out.ext j2).ext j3)).lt
  go_wp2_with fail
  clear BA0 BA1 BA2 BA3 BA4 BA5 BAl
  clear BX0 BX1 BX2 BX3
  refine (C3.out _ _ ((((HV.out.ext j1).ext j2).ext j3).ext (by go_grown))).mono ?_
  rintro e w4 ⟨x1, rfl, hx1, hb4⟩
  have j4 : Below w3.heap.size w3 w4 := ext (by go_grown) hb4
  have g4 : Below w.heap.size w w4 := ext g3 j4
  have s4 := j4.size
  have t4 := g4.size
  obtain ⟨p1, c1, rfl⟩ := slice_len hx1.ints LB.out
  have HLB := Lib.hid (hx1.ints)
  clear hx1
  obtain ⟨BX0, BX1, BX2, BX3⟩ := (((BX.out.ext j2).ext j3).ext j4).two
  obtain ⟨BA0, BA1, BA2, BA3, BA4, BA5⟩ := ((((BA.out.ext j2).ext j3).ext j4)).three
  have BAl := ((((BA.out.ext j2).ext j3).ext j4)).lt
  go_wp2_with fail
  clear BA0 BA1 BA2 BA3 BA4 BA5 BAl
  clear BX0 BX1 BX2 BX3
  refine (C4.out _ _ (((((HV.out.ext j1).ext j2).ext j3).ext j4).ext (by go_grown))).mono ?_
  rintro e w5 ⟨x2, rfl, hx2, hb5⟩
  have j5 : Below w4.heap.size w4 w5 := ext (by go_grown) hb5
  have g5 : Below w.heap.size w w5 := ext g4 j5
  have s5 := j5.size
  have t5 := g5.size
  obtain ⟨p2, c2, rfl⟩ := slice_len hx2.ints LC.out
  have HLC := Lib.hid (hx2.ints)
  clear hx2
  obtain ⟨BX0, BX1, BX2, BX3⟩ := ((((BX.out.ext j2).ext j3).ext j4).ext j5).two
  obtain ⟨BA0, BA1, BA2, BA3, BA4, BA5⟩ := (((((BA.out.ext j2).ext j3).ext j4).ext j5)).three
  have BAl := (((((BA.out.ext j2).ext j3).ext j4).ext j5)).lt
  go_wp2_with fail
  clear BA0 BA1 BA2 BA3 BA4 BA5 BAl
  clear BX0 BX1 BX2 BX3
  refine (C5.out _ _ ((((((HV.out.ext j1).ext j2).ext j3).ext j4).ext j5).ext (by go_grown))).mono ?_
  rintro e w6 ⟨x5, rfl, hx5, hb6⟩
  have j6 : Below w5.heap.size w5 w6 := ext (by go_grown) hb6
  have g6 : Below w.heap.size w w6 := ext g5 j6
  have s6 := j6.size
  have t6 := g6.size
  obtain ⟨p5, c5, rfl⟩ := slice_len hx5.ints LA.out
  have HGL := Lib.hid (hx5.ints)
  clear hx5
  go_wp2_with fail
  refine (ints_same _ _ la _ ((((HLA.out.ext j4).ext j5).ext j6).ext (by go_grown)) (HGL.out.ext (by go_grown))).mono ?_
  rintro e w7 ⟨rfl, hb7⟩
  have j7 : Below w6.heap.size w6 w7 := ext (by go_grown) hb7
  have g7 : Below w.heap.size w w7 := ext g6 j7
  have s7 := j7.size
  have t7 := g7.size
  go_wp2
  go_loopw [14] (fun i wr => ∃ k : Nat, k ≤ 64 ∧ i = .int .i64 k ∧ Below w7.heap.size w7 wr) (fun i _ => 64 - (intOf i).toNat)
  case atStart => exact ⟨0, Nat.zero_le _, rfl, Below.refl _ _⟩
  case round =>
    obtain ⟨k, hk, rfl, hbr⟩ := hrel
    have gr : Below w.heap.size w wr := ext g7 hbr
    by_cases hlt : k < 64
    · obtain ⟨b1, o1, rfl, ca, lb1⟩ := (((((HLA.out.ext j4).ext j5).ext j6).ext j7).ext hbr).cellN (j := k) (by rw [LA.out]; exact hlt)
      obtain ⟨b2, o2, rfl, cb, lb2⟩ := ((((HLB.out.ext j5).ext j6).ext j7).ext hbr).cellN (j := k) (by rw [LB.out]; exact hlt)
      obtain ⟨b3, o3, rfl, cc, lb3⟩ := (((HLC.out.ext j6).ext j7).ext hbr).cellN (j := k) (by rw [LC.out]; exact hlt)
      obtain ⟨x1, x2⟩ := MA.out k
      obtain ⟨y1, y2⟩ := MB.out k
      obtain ⟨z1, z2⟩ := MM.out k hlt
      clear LA LB LC MA MB MM HLA HLB HLC HGL
      generalize la.getD k 0 = xx at *
      generalize lb.getD k 0 = yy at *
      generalize lc.getD k 0 = zz at *
      have d3 : decide (2 * zz < xx + yy) = false := by simp; omega
      have d4 : decide (xx + yy + 1 < 2 * zz) = false := by simp; omega
      have q1 : IntKind.i64.wrap (2 * zz) = 2 * zz := IntWalk.i64_in _ (by omega)
      have q2 : IntKind.i64.wrap (xx + yy) = xx + yy := IntWalk.i64_in _ (by omega)
      have q3 : IntKind.i64.wrap (xx + yy + 1) = xx + yy + 1 := IntWalk.i64_in _ (by omega)
      have hmn : ∃ mn : Int, (if yy < xx then yy else xx) = mn ∧ mn ≤ zz := ⟨_, rfl, by split <;> omega⟩
      have hmx : ∃ mx : Int, (if yy > xx then yy else xx) = mx ∧ zz ≤ mx := ⟨_, rfl, by split <;> omega⟩
      obtain ⟨mn, hmn, hmn2⟩ := hmn
      obtain ⟨mx, hmx, hmx2⟩ := hmx
      have hmx3 : (if xx < yy then yy else xx) = mx := hmx
      have d1 : decide (zz < mn) = false := by simp; omega
      have d2 : decide (mx < zz) = false := by simp; omega
      clear z1 z2 x1 x2 y1 y2 hmn2 hmx2
      go_wp2
      go_quiet (fail)
      go_wp2
      go_roundw
      case rel => exact ⟨k + 1, by omega, by go_num, by first | exact hbr | exact below_drewN' hbr _⟩
      case measure => simp [intOf]; omega
    · have e : k = 64 := by omega
      subst e
      obtain ⟨wa, rfl⟩ : ∃ wa : World, wa = wr := ⟨_, rfl⟩
      have HGa := Lib.hid (HG.out.ext gr)
      go_wp2_with fail
      refine (first_any _ (HGa.out.ext (by go_grown))).mono ?_
      rintro e wz ⟨rfl, hbz⟩
      have gz : Below w.heap.size w wz := ext gr (ext (by go_grown) hbz)
      go_wp2
      all_goals go_returns
      all_goals exact ⟨by first | rfl | (simp; done) | (simp; omega), gz⟩

theorem whole_walk (v : Value) (W H : Int) (a : List Int) (x y n vx vy : Int) (w : World) (hv : FrameV w v W H a) (hg : TypeIs w) :
    Calls Tryd.prog 8 #[v, .int .i64 x, .int .i64 y, .int .i64 n, .agg #[.int .i64 vx, .int .i64 vy]] w fun e w' => e = .returned (.bool true) ∧ Below w.heap.size w w' := by
  by_cases h0 : 5000 < a.length
  · exact whole_w v W H a x y n vx vy w hv hg h0
  cases h1 : mayB W H a with
  | false => exact whole_m v W H a x y n vx vy w hv hg (by omega) h1
  | true =>
    by_cases hn : n ≠ 4 ∧ n ≠ 8
    · exact whole_n v W H a x y n vx vy w hv hg (by omega) h1 hn
    have hn2 : n = 4 ∨ n = 8 := by omega
    rcases hn2 with rfl | rfl
    · clear hn
      by_cases o0 : x < 0
      · exact whole4_o0 v W H a x y vx vy w hv hg (by omega) h1  o0
      have k0 : 0 ≤ x := by omega
      by_cases o1 : 32 < x
      · exact whole4_o1 v W H a x y vx vy w hv hg (by omega) h1 k0 o1
      have k1 : x ≤ 32 := by omega
      by_cases o2 : y < 0
      · exact whole4_o2 v W H a x y vx vy w hv hg (by omega) h1 k0 k1 o2
      have k2 : 0 ≤ y := by omega
      by_cases o3 : 32 < y
      · exact whole4_o3 v W H a x y vx vy w hv hg (by omega) h1 k0 k1 k2 o3
      have k3 : y ≤ 32 := by omega
      by_cases o4 : vx < -7
      · exact whole4_o4 v W H a x y vx vy w hv hg (by omega) h1 k0 k1 k2 k3 o4
      have k4 : -7 ≤ vx := by omega
      by_cases o5 : 6 < vx
      · exact whole4_o5 v W H a x y vx vy w hv hg (by omega) h1 k0 k1 k2 k3 k4 o5
      have k5 : vx ≤ 6 := by omega
      by_cases o6 : vy < -7
      · exact whole4_o6 v W H a x y vx vy w hv hg (by omega) h1 k0 k1 k2 k3 k4 k5 o6
      have k6 : -7 ≤ vy := by omega
      by_cases o7 : 7 < vy
      · exact whole4_o7 v W H a x y vx vy w hv hg (by omega) h1 k0 k1 k2 k3 k4 k5 k6 o7
      have k7 : vy ≤ 7 := by omega
      exact whole4_i v W H a x y vx vy w hv hg (by omega) h1 k0 k1 k2 k3 k4 k5 k6 k7
    · clear hn
      by_cases o0 : x < 0
      · exact whole8_o0 v W H a x y vx vy w hv hg (by omega) h1  o0
      have k0 : 0 ≤ x := by omega
      by_cases o1 : 32 < x
      · exact whole8_o1 v W H a x y vx vy w hv hg (by omega) h1 k0 o1
      have k1 : x ≤ 32 := by omega
      by_cases o2 : y < 0
      · exact whole8_o2 v W H a x y vx vy w hv hg (by omega) h1 k0 k1 o2
      have k2 : 0 ≤ y := by omega
      by_cases o3 : 32 < y
      · exact whole8_o3 v W H a x y vx vy w hv hg (by omega) h1 k0 k1 k2 o3
      have k3 : y ≤ 32 := by omega
      by_cases o4 : vx < -7
      · exact whole8_o4 v W H a x y vx vy w hv hg (by omega) h1 k0 k1 k2 k3 o4
      have k4 : -7 ≤ vx := by omega
      by_cases o5 : 6 < vx
      · exact whole8_o5 v W H a x y vx vy w hv hg (by omega) h1 k0 k1 k2 k3 k4 o5
      have k5 : vx ≤ 6 := by omega
      by_cases o6 : vy < -7
      · exact whole8_o6 v W H a x y vx vy w hv hg (by omega) h1 k0 k1 k2 k3 k4 k5 o6
      have k6 : -7 ≤ vy := by omega
      by_cases o7 : 7 < vy
      · exact whole8_o7 v W H a x y vx vy w hv hg (by omega) h1 k0 k1 k2 k3 k4 k5 k6 o7
      have k7 : vy ≤ 7 := by omega
      exact whole8_i v W H a x y vx vy w hv hg (by omega) h1 k0 k1 k2 k3 k4 k5 k6 k7
end Go.Proofs.YtjmkcbagedflkaaDoor
