/- kinlaw6.PlaneTwo: the walk. -/
import Derived.Test.YtlpifjnjddgfaaaDoorPlaneF
import Derived.Test.YtlpifjnjddgfaaaDoorPutP
set_option linter.unusedSimpArgs false
set_option linter.unusedVariables false
namespace Go.Proofs.YtlpifjnjddgfaaaDoor
open Go.RowKit Go.Extern.Stop Go.Stop Go.Extern

theorem same_may (v u : Value) (W H : Int) (l : List Int) (w : World) (hm : May W H l) (hv : FrameV w v W H l) (hu : FrameV w u W H l) :
    Calls Tryd.prog 31 #[v, u] w fun e w' => e = .returned (.bool true) ∧ Below w.heap.size w w' := by
  have c := psame_any v u W H l W H l w hv hu
  rw [mayB_iff.2 hm] at c
  simpa using c

set_option maxRecDepth 100000 in
set_option maxHeartbeats 8000000 in
theorem two_w (v bv cv : Value) (W H x y u t n : Int) (a b c : List Int) (w : World) (hv : FrameV w v W H a) (hb : Ints w bv b) (hc : Ints w cv c) (hg : TypeIs w) (h1 : 5000 < a.length) :
    Calls Tryd.prog 8 #[v, .int .i64 x, .int .i64 y, .int .i64 u, .int .i64 t, .int .i64 n, bv, cv] w fun e w' => e = .returned (.bool true) ∧ Below w.heap.size w w' := by
  have HG := Lib.hid hg
  have HV := Lib.hid hv
  have HB := Lib.hid hb
  have HC := Lib.hid hc
  have c1 := fun w hv => few_any v W H a w hv
  rw [show decide (a.length ≤ 5000) = false from by simp; omega] at c1
  have C1 := Lib.hid c1
  obtain ⟨ao, cap, rfl, hp⟩ := hv.cells
  obtain ⟨bo, cap2, rfl⟩ := hb.shape
  obtain ⟨co, cap3, rfl⟩ := hc.shape
  have hla := hp.len
  have hlb := hb.len
  have hlc := hc.len
  have BA0 := Lib.hid (Blk.new w #[.int .i64 W, .int .i64 H, .slice ao a.length cap] 24)
  clear hv hg hp hb hc c1
  clear h1
  go_enter Tryd.func8, Tryd.ntmps8
  have g0 : Below w.heap.size w w := Below.refl _ _
  go_wp2_with fail
  refine (first_any _ (HG.out.ext (by go_grown))).mono ?_
  rintro e w1 ⟨rfl, hb1⟩
  have j1 : Below w.heap.size w w1 := ext (by go_grown) hb1
  have g1 : Below w.heap.size w w1 := ext g0 j1
  have s1 := j1.size
  have t1 := g1.size
  have BA := Lib.hid (BA0.out.ext hb1)
  obtain ⟨BA0, BA1, BA2, BA3, BA4, BA5⟩ := (BA.out).three
  have BAl := (BA.out).lt
  go_wp2_with fail
  clear BA0 BA1 BA2 BA3 BA4 BA5 BAl
  refine (C1.out _ ((HV.out.ext j1).ext (by go_grown))).mono ?_
  rintro e w2 ⟨rfl, hb2⟩
  have j2 : Below w1.heap.size w1 w2 := ext (by go_grown) hb2
  have g2 : Below w.heap.size w w2 := ext g1 j2
  have s2 := j2.size
  have t2 := g2.size
  go_wp2_with fail
  refine (first_any _ (((HG.out.ext j1).ext j2).ext (by go_grown))).mono ?_
  rintro e w3 ⟨rfl, hb3⟩
  have j3 : Below w2.heap.size w2 w3 := ext (by go_grown) hb3
  have g3 : Below w.heap.size w w3 := ext g2 j3
  have s3 := j3.size
  have t3 := g3.size
  go_wp2
  all_goals go_returns
  all_goals exact ⟨by first | rfl | (simp; done) | (simp; omega), g3⟩

set_option maxRecDepth 100000 in
set_option maxHeartbeats 8000000 in
theorem two_w0 (v bv cv : Value) (W H x y u t n : Int) (a b c : List Int) (w : World) (hv : FrameV w v W H a) (hb : Ints w bv b) (hc : Ints w cv c) (hg : TypeIs w) (h1 : a.length ≤ 5000) (k0 : 5000 < b.length) :
    Calls Tryd.prog 8 #[v, .int .i64 x, .int .i64 y, .int .i64 u, .int .i64 t, .int .i64 n, bv, cv] w fun e w' => e = .returned (.bool true) ∧ Below w.heap.size w w' := by
  have HG := Lib.hid hg
  have HV := Lib.hid hv
  have HB := Lib.hid hb
  have HC := Lib.hid hc
  have c1 := fun w hv => few_any v W H a w hv
  rw [show decide (a.length ≤ 5000) = true from by simp; omega] at c1
  have C1 := Lib.hid c1
  obtain ⟨ao, cap, rfl, hp⟩ := hv.cells
  obtain ⟨bo, cap2, rfl⟩ := hb.shape
  obtain ⟨co, cap3, rfl⟩ := hc.shape
  have hla := hp.len
  have hlb := hb.len
  have hlc := hc.len
  have BA0 := Lib.hid (Blk.new w #[.int .i64 W, .int .i64 H, .slice ao a.length cap] 24)
  clear hv hg hp hb hc c1
  clear h1
  go_enter Tryd.func8, Tryd.ntmps8
  have g0 : Below w.heap.size w w := Below.refl _ _
  go_wp2_with fail
  refine (first_any _ (HG.out.ext (by go_grown))).mono ?_
  rintro e w1 ⟨rfl, hb1⟩
  have j1 : Below w.heap.size w w1 := ext (by go_grown) hb1
  have g1 : Below w.heap.size w w1 := ext g0 j1
  have s1 := j1.size
  have t1 := g1.size
  have BA := Lib.hid (BA0.out.ext hb1)
  obtain ⟨BA0, BA1, BA2, BA3, BA4, BA5⟩ := (BA.out).three
  have BAl := (BA.out).lt
  go_wp2_with fail
  clear BA0 BA1 BA2 BA3 BA4 BA5 BAl
  refine (C1.out _ ((HV.out.ext j1).ext (by go_grown))).mono ?_
  rintro e w2 ⟨rfl, hb2⟩
  have j2 : Below w1.heap.size w1 w2 := ext (by go_grown) hb2
  have g2 : Below w.heap.size w w2 := ext g1 j2
  have s2 := j2.size
  have t2 := g2.size
  go_wp2_with fail
  refine (first_any _ (((HG.out.ext j1).ext j2).ext (by go_grown))).mono ?_
  rintro e w3 ⟨rfl, hb3⟩
  have j3 : Below w2.heap.size w2 w3 := ext (by go_grown) hb3
  have g3 : Below w.heap.size w w3 := ext g2 j3
  have s3 := j3.size
  have t3 := g3.size
  go_wp2
  all_goals go_returns
  all_goals exact ⟨by first | rfl | (simp; done) | (simp; omega), g3⟩

set_option maxRecDepth 100000 in
set_option maxHeartbeats 8000000 in
theorem two_w1 (v bv cv : Value) (W H x y u t n : Int) (a b c : List Int) (w : World) (hv : FrameV w v W H a) (hb : Ints w bv b) (hc : Ints w cv c) (hg : TypeIs w) (h1 : a.length ≤ 5000) (k0 : b.length ≤ 5000) (k1 : 5000 < c.length) :
    Calls Tryd.prog 8 #[v, .int .i64 x, .int .i64 y, .int .i64 u, .int .i64 t, .int .i64 n, bv, cv] w fun e w' => e = .returned (.bool true) ∧ Below w.heap.size w w' := by
  have HG := Lib.hid hg
  have HV := Lib.hid hv
  have HB := Lib.hid hb
  have HC := Lib.hid hc
  have c1 := fun w hv => few_any v W H a w hv
  rw [show decide (a.length ≤ 5000) = true from by simp; omega] at c1
  have C1 := Lib.hid c1
  obtain ⟨ao, cap, rfl, hp⟩ := hv.cells
  obtain ⟨bo, cap2, rfl⟩ := hb.shape
  obtain ⟨co, cap3, rfl⟩ := hc.shape
  have hla := hp.len
  have hlb := hb.len
  have hlc := hc.len
  have BA0 := Lib.hid (Blk.new w #[.int .i64 W, .int .i64 H, .slice ao a.length cap] 24)
  clear hv hg hp hb hc c1
  clear h1
  go_enter Tryd.func8, Tryd.ntmps8
  have g0 : Below w.heap.size w w := Below.refl _ _
  go_wp2_with fail
  refine (first_any _ (HG.out.ext (by go_grown))).mono ?_
  rintro e w1 ⟨rfl, hb1⟩
  have j1 : Below w.heap.size w w1 := ext (by go_grown) hb1
  have g1 : Below w.heap.size w w1 := ext g0 j1
  have s1 := j1.size
  have t1 := g1.size
  have BA := Lib.hid (BA0.out.ext hb1)
  obtain ⟨BA0, BA1, BA2, BA3, BA4, BA5⟩ := (BA.out).three
  have BAl := (BA.out).lt
  go_wp2_with fail
  clear BA0 BA1 BA2 BA3 BA4 BA5 BAl
  refine (C1.out _ ((HV.out.ext j1).ext (by go_grown))).mono ?_
  rintro e w2 ⟨rfl, hb2⟩
  have j2 : Below w1.heap.size w1 w2 := ext (by go_grown) hb2
  have g2 : Below w.heap.size w w2 := ext g1 j2
  have s2 := j2.size
  have t2 := g2.size
  go_wp2_with fail
  refine (first_any _ (((HG.out.ext j1).ext j2).ext (by go_grown))).mono ?_
  rintro e w3 ⟨rfl, hb3⟩
  have j3 : Below w2.heap.size w2 w3 := ext (by go_grown) hb3
  have g3 : Below w.heap.size w w3 := ext g2 j3
  have s3 := j3.size
  have t3 := g3.size
  go_wp2
  all_goals go_returns
  all_goals exact ⟨by first | rfl | (simp; done) | (simp; omega), g3⟩

set_option maxRecDepth 100000 in
set_option maxHeartbeats 8000000 in
theorem two_w2 (v bv cv : Value) (W H x y u t n : Int) (a b c : List Int) (w : World) (hv : FrameV w v W H a) (hb : Ints w bv b) (hc : Ints w cv c) (hg : TypeIs w) (h1 : a.length ≤ 5000) (k0 : b.length ≤ 5000) (k1 : c.length ≤ 5000) (k2 : n < 1) :
    Calls Tryd.prog 8 #[v, .int .i64 x, .int .i64 y, .int .i64 u, .int .i64 t, .int .i64 n, bv, cv] w fun e w' => e = .returned (.bool true) ∧ Below w.heap.size w w' := by
  have HG := Lib.hid hg
  have HV := Lib.hid hv
  have HB := Lib.hid hb
  have HC := Lib.hid hc
  have c1 := fun w hv => few_any v W H a w hv
  rw [show decide (a.length ≤ 5000) = true from by simp; omega] at c1
  have C1 := Lib.hid c1
  obtain ⟨ao, cap, rfl, hp⟩ := hv.cells
  obtain ⟨bo, cap2, rfl⟩ := hb.shape
  obtain ⟨co, cap3, rfl⟩ := hc.shape
  have hla := hp.len
  have hlb := hb.len
  have hlc := hc.len
  have BA0 := Lib.hid (Blk.new w #[.int .i64 W, .int .i64 H, .slice ao a.length cap] 24)
  clear hv hg hp hb hc c1
  clear h1
  go_enter Tryd.func8, Tryd.ntmps8
  have g0 : Below w.heap.size w w := Below.refl _ _
  go_wp2_with fail
  refine (first_any _ (HG.out.ext (by go_grown))).mono ?_
  rintro e w1 ⟨rfl, hb1⟩
  have j1 : Below w.heap.size w w1 := ext (by go_grown) hb1
  have g1 : Below w.heap.size w w1 := ext g0 j1
  have s1 := j1.size
  have t1 := g1.size
  have BA := Lib.hid (BA0.out.ext hb1)
  obtain ⟨BA0, BA1, BA2, BA3, BA4, BA5⟩ := (BA.out).three
  have BAl := (BA.out).lt
  go_wp2_with fail
  clear BA0 BA1 BA2 BA3 BA4 BA5 BAl
  refine (C1.out _ ((HV.out.ext j1).ext (by go_grown))).mono ?_
  rintro e w2 ⟨rfl, hb2⟩
  have j2 : Below w1.heap.size w1 w2 := ext (by go_grown) hb2
  have g2 : Below w.heap.size w w2 := ext g1 j2
  have s2 := j2.size
  have t2 := g2.size
  go_wp2_with fail
  refine (first_any _ (((HG.out.ext j1).ext j2).ext (by go_grown))).mono ?_
  rintro e w3 ⟨rfl, hb3⟩
  have j3 : Below w2.heap.size w2 w3 := ext (by go_grown) hb3
  have g3 : Below w.heap.size w w3 := ext g2 j3
  have s3 := j3.size
  have t3 := g3.size
  go_wp2
  all_goals go_returns
  all_goals exact ⟨by first | rfl | (simp; done) | (simp; omega), g3⟩

set_option maxRecDepth 100000 in
set_option maxHeartbeats 8000000 in
theorem two_w3 (v bv cv : Value) (W H x y u t n : Int) (a b c : List Int) (w : World) (hv : FrameV w v W H a) (hb : Ints w bv b) (hc : Ints w cv c) (hg : TypeIs w) (h1 : a.length ≤ 5000) (k0 : b.length ≤ 5000) (k1 : c.length ≤ 5000) (k2 : 1 ≤ n) (k3 : 8 < n) :
    Calls Tryd.prog 8 #[v, .int .i64 x, .int .i64 y, .int .i64 u, .int .i64 t, .int .i64 n, bv, cv] w fun e w' => e = .returned (.bool true) ∧ Below w.heap.size w w' := by
  have HG := Lib.hid hg
  have HV := Lib.hid hv
  have HB := Lib.hid hb
  have HC := Lib.hid hc
  have c1 := fun w hv => few_any v W H a w hv
  rw [show decide (a.length ≤ 5000) = true from by simp; omega] at c1
  have C1 := Lib.hid c1
  obtain ⟨ao, cap, rfl, hp⟩ := hv.cells
  obtain ⟨bo, cap2, rfl⟩ := hb.shape
  obtain ⟨co, cap3, rfl⟩ := hc.shape
  have hla := hp.len
  have hlb := hb.len
  have hlc := hc.len
  have BA0 := Lib.hid (Blk.new w #[.int .i64 W, .int .i64 H, .slice ao a.length cap] 24)
  clear hv hg hp hb hc c1
  clear h1
  go_enter Tryd.func8, Tryd.ntmps8
  have g0 : Below w.heap.size w w := Below.refl _ _
  go_wp2_with fail
  refine (first_any _ (HG.out.ext (by go_grown))).mono ?_
  rintro e w1 ⟨rfl, hb1⟩
  have j1 : Below w.heap.size w w1 := ext (by go_grown) hb1
  have g1 : Below w.heap.size w w1 := ext g0 j1
  have s1 := j1.size
  have t1 := g1.size
  have BA := Lib.hid (BA0.out.ext hb1)
  obtain ⟨BA0, BA1, BA2, BA3, BA4, BA5⟩ := (BA.out).three
  have BAl := (BA.out).lt
  go_wp2_with fail
  clear BA0 BA1 BA2 BA3 BA4 BA5 BAl
  refine (C1.out _ ((HV.out.ext j1).ext (by go_grown))).mono ?_
  rintro e w2 ⟨rfl, hb2⟩
  have j2 : Below w1.heap.size w1 w2 := ext (by go_grown) hb2
  have g2 : Below w.heap.size w w2 := ext g1 j2
  have s2 := j2.size
  have t2 := g2.size
  go_wp2_with fail
  refine (first_any _ (((HG.out.ext j1).ext j2).ext (by go_grown))).mono ?_
  rintro e w3 ⟨rfl, hb3⟩
  have j3 : Below w2.heap.size w2 w3 := ext (by go_grown) hb3
  have g3 : Below w.heap.size w w3 := ext g2 j3
  have s3 := j3.size
  have t3 := g3.size
  go_wp2
  all_goals go_returns
  all_goals exact ⟨by first | rfl | (simp; done) | (simp; omega), g3⟩

set_option maxRecDepth 100000 in
set_option maxHeartbeats 8000000 in
theorem two_w4 (v bv cv : Value) (W H x y u t n : Int) (a b c : List Int) (w : World) (hv : FrameV w v W H a) (hb : Ints w bv b) (hc : Ints w cv c) (hg : TypeIs w) (h1 : a.length ≤ 5000) (k0 : b.length ≤ 5000) (k1 : c.length ≤ 5000) (k2 : 1 ≤ n) (k3 : n ≤ 8) (k4 : x < 0) :
    Calls Tryd.prog 8 #[v, .int .i64 x, .int .i64 y, .int .i64 u, .int .i64 t, .int .i64 n, bv, cv] w fun e w' => e = .returned (.bool true) ∧ Below w.heap.size w w' := by
  have HG := Lib.hid hg
  have HV := Lib.hid hv
  have HB := Lib.hid hb
  have HC := Lib.hid hc
  have c1 := fun w hv => few_any v W H a w hv
  rw [show decide (a.length ≤ 5000) = true from by simp; omega] at c1
  have C1 := Lib.hid c1
  obtain ⟨ao, cap, rfl, hp⟩ := hv.cells
  obtain ⟨bo, cap2, rfl⟩ := hb.shape
  obtain ⟨co, cap3, rfl⟩ := hc.shape
  have hla := hp.len
  have hlb := hb.len
  have hlc := hc.len
  have BA0 := Lib.hid (Blk.new w #[.int .i64 W, .int .i64 H, .slice ao a.length cap] 24)
  clear hv hg hp hb hc c1
  clear h1
  go_enter Tryd.func8, Tryd.ntmps8
  have g0 : Below w.heap.size w w := Below.refl _ _
  go_wp2_with fail
  refine (first_any _ (HG.out.ext (by go_grown))).mono ?_
  rintro e w1 ⟨rfl, hb1⟩
  have j1 : Below w.heap.size w w1 := ext (by go_grown) hb1
  have g1 : Below w.heap.size w w1 := ext g0 j1
  have s1 := j1.size
  have t1 := g1.size
  have BA := Lib.hid (BA0.out.ext hb1)
  obtain ⟨BA0, BA1, BA2, BA3, BA4, BA5⟩ := (BA.out).three
  have BAl := (BA.out).lt
  go_wp2_with fail
  clear BA0 BA1 BA2 BA3 BA4 BA5 BAl
  refine (C1.out _ ((HV.out.ext j1).ext (by go_grown))).mono ?_
  rintro e w2 ⟨rfl, hb2⟩
  have j2 : Below w1.heap.size w1 w2 := ext (by go_grown) hb2
  have g2 : Below w.heap.size w w2 := ext g1 j2
  have s2 := j2.size
  have t2 := g2.size
  go_wp2_with fail
  refine (first_any _ (((HG.out.ext j1).ext j2).ext (by go_grown))).mono ?_
  rintro e w3 ⟨rfl, hb3⟩
  have j3 : Below w2.heap.size w2 w3 := ext (by go_grown) hb3
  have g3 : Below w.heap.size w w3 := ext g2 j3
  have s3 := j3.size
  have t3 := g3.size
  go_wp2
  all_goals go_returns
  all_goals exact ⟨by first | rfl | (simp; done) | (simp; omega), g3⟩

set_option maxRecDepth 100000 in
set_option maxHeartbeats 8000000 in
theorem two_w5 (v bv cv : Value) (W H x y u t n : Int) (a b c : List Int) (w : World) (hv : FrameV w v W H a) (hb : Ints w bv b) (hc : Ints w cv c) (hg : TypeIs w) (h1 : a.length ≤ 5000) (k0 : b.length ≤ 5000) (k1 : c.length ≤ 5000) (k2 : 1 ≤ n) (k3 : n ≤ 8) (k4 : 0 ≤ x) (k5 : y < 0) :
    Calls Tryd.prog 8 #[v, .int .i64 x, .int .i64 y, .int .i64 u, .int .i64 t, .int .i64 n, bv, cv] w fun e w' => e = .returned (.bool true) ∧ Below w.heap.size w w' := by
  have HG := Lib.hid hg
  have HV := Lib.hid hv
  have HB := Lib.hid hb
  have HC := Lib.hid hc
  have c1 := fun w hv => few_any v W H a w hv
  rw [show decide (a.length ≤ 5000) = true from by simp; omega] at c1
  have C1 := Lib.hid c1
  obtain ⟨ao, cap, rfl, hp⟩ := hv.cells
  obtain ⟨bo, cap2, rfl⟩ := hb.shape
  obtain ⟨co, cap3, rfl⟩ := hc.shape
  have hla := hp.len
  have hlb := hb.len
  have hlc := hc.len
  have BA0 := Lib.hid (Blk.new w #[.int .i64 W, .int .i64 H, .slice ao a.length cap] 24)
  clear hv hg hp hb hc c1
  clear h1
  go_enter Tryd.func8, Tryd.ntmps8
  have g0 : Below w.heap.size w w := Below.refl _ _
  go_wp2_with fail
  refine (first_any _ (HG.out.ext (by go_grown))).mono ?_
  rintro e w1 ⟨rfl, hb1⟩
  have j1 : Below w.heap.size w w1 := ext (by go_grown) hb1
  have g1 : Below w.heap.size w w1 := ext g0 j1
  have s1 := j1.size
  have t1 := g1.size
  have BA := Lib.hid (BA0.out.ext hb1)
  obtain ⟨BA0, BA1, BA2, BA3, BA4, BA5⟩ := (BA.out).three
  have BAl := (BA.out).lt
  go_wp2_with fail
  clear BA0 BA1 BA2 BA3 BA4 BA5 BAl
  refine (C1.out _ ((HV.out.ext j1).ext (by go_grown))).mono ?_
  rintro e w2 ⟨rfl, hb2⟩
  have j2 : Below w1.heap.size w1 w2 := ext (by go_grown) hb2
  have g2 : Below w.heap.size w w2 := ext g1 j2
  have s2 := j2.size
  have t2 := g2.size
  go_wp2_with fail
  refine (first_any _ (((HG.out.ext j1).ext j2).ext (by go_grown))).mono ?_
  rintro e w3 ⟨rfl, hb3⟩
  have j3 : Below w2.heap.size w2 w3 := ext (by go_grown) hb3
  have g3 : Below w.heap.size w w3 := ext g2 j3
  have s3 := j3.size
  have t3 := g3.size
  go_wp2
  all_goals go_returns
  all_goals exact ⟨by first | rfl | (simp; done) | (simp; omega), g3⟩

set_option maxRecDepth 100000 in
set_option maxHeartbeats 8000000 in
theorem two_w6 (v bv cv : Value) (W H x y u t n : Int) (a b c : List Int) (w : World) (hv : FrameV w v W H a) (hb : Ints w bv b) (hc : Ints w cv c) (hg : TypeIs w) (h1 : a.length ≤ 5000) (k0 : b.length ≤ 5000) (k1 : c.length ≤ 5000) (k2 : 1 ≤ n) (k3 : n ≤ 8) (k4 : 0 ≤ x) (k5 : 0 ≤ y) (k6 : u < 0) :
    Calls Tryd.prog 8 #[v, .int .i64 x, .int .i64 y, .int .i64 u, .int .i64 t, .int .i64 n, bv, cv] w fun e w' => e = .returned (.bool true) ∧ Below w.heap.size w w' := by
  have HG := Lib.hid hg
  have HV := Lib.hid hv
  have HB := Lib.hid hb
  have HC := Lib.hid hc
  have c1 := fun w hv => few_any v W H a w hv
  rw [show decide (a.length ≤ 5000) = true from by simp; omega] at c1
  have C1 := Lib.hid c1
  obtain ⟨ao, cap, rfl, hp⟩ := hv.cells
  obtain ⟨bo, cap2, rfl⟩ := hb.shape
  obtain ⟨co, cap3, rfl⟩ := hc.shape
  have hla := hp.len
  have hlb := hb.len
  have hlc := hc.len
  have BA0 := Lib.hid (Blk.new w #[.int .i64 W, .int .i64 H, .slice ao a.length cap] 24)
  clear hv hg hp hb hc c1
  clear h1
  go_enter Tryd.func8, Tryd.ntmps8
  have g0 : Below w.heap.size w w := Below.refl _ _
  go_wp2_with fail
  refine (first_any _ (HG.out.ext (by go_grown))).mono ?_
  rintro e w1 ⟨rfl, hb1⟩
  have j1 : Below w.heap.size w w1 := ext (by go_grown) hb1
  have g1 : Below w.heap.size w w1 := ext g0 j1
  have s1 := j1.size
  have t1 := g1.size
  have BA := Lib.hid (BA0.out.ext hb1)
  obtain ⟨BA0, BA1, BA2, BA3, BA4, BA5⟩ := (BA.out).three
  have BAl := (BA.out).lt
  go_wp2_with fail
  clear BA0 BA1 BA2 BA3 BA4 BA5 BAl
  refine (C1.out _ ((HV.out.ext j1).ext (by go_grown))).mono ?_
  rintro e w2 ⟨rfl, hb2⟩
  have j2 : Below w1.heap.size w1 w2 := ext (by go_grown) hb2
  have g2 : Below w.heap.size w w2 := ext g1 j2
  have s2 := j2.size
  have t2 := g2.size
  go_wp2_with fail
  refine (first_any _ (((HG.out.ext j1).ext j2).ext (by go_grown))).mono ?_
  rintro e w3 ⟨rfl, hb3⟩
  have j3 : Below w2.heap.size w2 w3 := ext (by go_grown) hb3
  have g3 : Below w.heap.size w w3 := ext g2 j3
  have s3 := j3.size
  have t3 := g3.size
  go_wp2
  all_goals go_returns
  all_goals exact ⟨by first | rfl | (simp; done) | (simp; omega), g3⟩

set_option maxRecDepth 100000 in
set_option maxHeartbeats 8000000 in
theorem two_w7 (v bv cv : Value) (W H x y u t n : Int) (a b c : List Int) (w : World) (hv : FrameV w v W H a) (hb : Ints w bv b) (hc : Ints w cv c) (hg : TypeIs w) (h1 : a.length ≤ 5000) (k0 : b.length ≤ 5000) (k1 : c.length ≤ 5000) (k2 : 1 ≤ n) (k3 : n ≤ 8) (k4 : 0 ≤ x) (k5 : 0 ≤ y) (k6 : 0 ≤ u) (k7 : t < 0) :
    Calls Tryd.prog 8 #[v, .int .i64 x, .int .i64 y, .int .i64 u, .int .i64 t, .int .i64 n, bv, cv] w fun e w' => e = .returned (.bool true) ∧ Below w.heap.size w w' := by
  have HG := Lib.hid hg
  have HV := Lib.hid hv
  have HB := Lib.hid hb
  have HC := Lib.hid hc
  have c1 := fun w hv => few_any v W H a w hv
  rw [show decide (a.length ≤ 5000) = true from by simp; omega] at c1
  have C1 := Lib.hid c1
  obtain ⟨ao, cap, rfl, hp⟩ := hv.cells
  obtain ⟨bo, cap2, rfl⟩ := hb.shape
  obtain ⟨co, cap3, rfl⟩ := hc.shape
  have hla := hp.len
  have hlb := hb.len
  have hlc := hc.len
  have BA0 := Lib.hid (Blk.new w #[.int .i64 W, .int .i64 H, .slice ao a.length cap] 24)
  clear hv hg hp hb hc c1
  clear h1
  go_enter Tryd.func8, Tryd.ntmps8
  have g0 : Below w.heap.size w w := Below.refl _ _
  go_wp2_with fail
  refine (first_any _ (HG.out.ext (by go_grown))).mono ?_
  rintro e w1 ⟨rfl, hb1⟩
  have j1 : Below w.heap.size w w1 := ext (by go_grown) hb1
  have g1 : Below w.heap.size w w1 := ext g0 j1
  have s1 := j1.size
  have t1 := g1.size
  have BA := Lib.hid (BA0.out.ext hb1)
  obtain ⟨BA0, BA1, BA2, BA3, BA4, BA5⟩ := (BA.out).three
  have BAl := (BA.out).lt
  go_wp2_with fail
  clear BA0 BA1 BA2 BA3 BA4 BA5 BAl
  refine (C1.out _ ((HV.out.ext j1).ext (by go_grown))).mono ?_
  rintro e w2 ⟨rfl, hb2⟩
  have j2 : Below w1.heap.size w1 w2 := ext (by go_grown) hb2
  have g2 : Below w.heap.size w w2 := ext g1 j2
  have s2 := j2.size
  have t2 := g2.size
  go_wp2_with fail
  refine (first_any _ (((HG.out.ext j1).ext j2).ext (by go_grown))).mono ?_
  rintro e w3 ⟨rfl, hb3⟩
  have j3 : Below w2.heap.size w2 w3 := ext (by go_grown) hb3
  have g3 : Below w.heap.size w w3 := ext g2 j3
  have s3 := j3.size
  have t3 := g3.size
  go_wp2
  all_goals go_returns
  all_goals exact ⟨by first | rfl | (simp; done) | (simp; omega), g3⟩

set_option maxRecDepth 100000 in
set_option maxHeartbeats 8000000 in
theorem two_w8 (v bv cv : Value) (W H x y u t n : Int) (a b c : List Int) (w : World) (hv : FrameV w v W H a) (hb : Ints w bv b) (hc : Ints w cv c) (hg : TypeIs w) (h1 : a.length ≤ 5000) (k0 : b.length ≤ 5000) (k1 : c.length ≤ 5000) (k2 : 1 ≤ n) (k3 : n ≤ 8) (k4 : 0 ≤ x) (k5 : 0 ≤ y) (k6 : 0 ≤ u) (k7 : 0 ≤ t) (k8 : 32 < x) :
    Calls Tryd.prog 8 #[v, .int .i64 x, .int .i64 y, .int .i64 u, .int .i64 t, .int .i64 n, bv, cv] w fun e w' => e = .returned (.bool true) ∧ Below w.heap.size w w' := by
  have HG := Lib.hid hg
  have HV := Lib.hid hv
  have HB := Lib.hid hb
  have HC := Lib.hid hc
  have c1 := fun w hv => few_any v W H a w hv
  rw [show decide (a.length ≤ 5000) = true from by simp; omega] at c1
  have C1 := Lib.hid c1
  obtain ⟨ao, cap, rfl, hp⟩ := hv.cells
  obtain ⟨bo, cap2, rfl⟩ := hb.shape
  obtain ⟨co, cap3, rfl⟩ := hc.shape
  have hla := hp.len
  have hlb := hb.len
  have hlc := hc.len
  have BA0 := Lib.hid (Blk.new w #[.int .i64 W, .int .i64 H, .slice ao a.length cap] 24)
  clear hv hg hp hb hc c1
  clear h1
  go_enter Tryd.func8, Tryd.ntmps8
  have g0 : Below w.heap.size w w := Below.refl _ _
  go_wp2_with fail
  refine (first_any _ (HG.out.ext (by go_grown))).mono ?_
  rintro e w1 ⟨rfl, hb1⟩
  have j1 : Below w.heap.size w w1 := ext (by go_grown) hb1
  have g1 : Below w.heap.size w w1 := ext g0 j1
  have s1 := j1.size
  have t1 := g1.size
  have BA := Lib.hid (BA0.out.ext hb1)
  obtain ⟨BA0, BA1, BA2, BA3, BA4, BA5⟩ := (BA.out).three
  have BAl := (BA.out).lt
  go_wp2_with fail
  clear BA0 BA1 BA2 BA3 BA4 BA5 BAl
  refine (C1.out _ ((HV.out.ext j1).ext (by go_grown))).mono ?_
  rintro e w2 ⟨rfl, hb2⟩
  have j2 : Below w1.heap.size w1 w2 := ext (by go_grown) hb2
  have g2 : Below w.heap.size w w2 := ext g1 j2
  have s2 := j2.size
  have t2 := g2.size
  go_wp2_with fail
  refine (first_any _ (((HG.out.ext j1).ext j2).ext (by go_grown))).mono ?_
  rintro e w3 ⟨rfl, hb3⟩
  have j3 : Below w2.heap.size w2 w3 := ext (by go_grown) hb3
  have g3 : Below w.heap.size w w3 := ext g2 j3
  have s3 := j3.size
  have t3 := g3.size
  go_wp2
  all_goals go_returns
  all_goals exact ⟨by first | rfl | (simp; done) | (simp; omega), g3⟩

set_option maxRecDepth 100000 in
set_option maxHeartbeats 8000000 in
theorem two_w9 (v bv cv : Value) (W H x y u t n : Int) (a b c : List Int) (w : World) (hv : FrameV w v W H a) (hb : Ints w bv b) (hc : Ints w cv c) (hg : TypeIs w) (h1 : a.length ≤ 5000) (k0 : b.length ≤ 5000) (k1 : c.length ≤ 5000) (k2 : 1 ≤ n) (k3 : n ≤ 8) (k4 : 0 ≤ x) (k5 : 0 ≤ y) (k6 : 0 ≤ u) (k7 : 0 ≤ t) (k8 : x ≤ 32) (k9 : 32 < y) :
    Calls Tryd.prog 8 #[v, .int .i64 x, .int .i64 y, .int .i64 u, .int .i64 t, .int .i64 n, bv, cv] w fun e w' => e = .returned (.bool true) ∧ Below w.heap.size w w' := by
  have HG := Lib.hid hg
  have HV := Lib.hid hv
  have HB := Lib.hid hb
  have HC := Lib.hid hc
  have c1 := fun w hv => few_any v W H a w hv
  rw [show decide (a.length ≤ 5000) = true from by simp; omega] at c1
  have C1 := Lib.hid c1
  obtain ⟨ao, cap, rfl, hp⟩ := hv.cells
  obtain ⟨bo, cap2, rfl⟩ := hb.shape
  obtain ⟨co, cap3, rfl⟩ := hc.shape
  have hla := hp.len
  have hlb := hb.len
  have hlc := hc.len
  have BA0 := Lib.hid (Blk.new w #[.int .i64 W, .int .i64 H, .slice ao a.length cap] 24)
  clear hv hg hp hb hc c1
  clear h1
  go_enter Tryd.func8, Tryd.ntmps8
  have g0 : Below w.heap.size w w := Below.refl _ _
  go_wp2_with fail
  refine (first_any _ (HG.out.ext (by go_grown))).mono ?_
  rintro e w1 ⟨rfl, hb1⟩
  have j1 : Below w.heap.size w w1 := ext (by go_grown) hb1
  have g1 : Below w.heap.size w w1 := ext g0 j1
  have s1 := j1.size
  have t1 := g1.size
  have BA := Lib.hid (BA0.out.ext hb1)
  obtain ⟨BA0, BA1, BA2, BA3, BA4, BA5⟩ := (BA.out).three
  have BAl := (BA.out).lt
  go_wp2_with fail
  clear BA0 BA1 BA2 BA3 BA4 BA5 BAl
  refine (C1.out _ ((HV.out.ext j1).ext (by go_grown))).mono ?_
  rintro e w2 ⟨rfl, hb2⟩
  have j2 : Below w1.heap.size w1 w2 := ext (by go_grown) hb2
  have g2 : Below w.heap.size w w2 := ext g1 j2
  have s2 := j2.size
  have t2 := g2.size
  go_wp2_with fail
  refine (first_any _ (((HG.out.ext j1).ext j2).ext (by go_grown))).mono ?_
  rintro e w3 ⟨rfl, hb3⟩
  have j3 : Below w2.heap.size w2 w3 := ext (by go_grown) hb3
  have g3 : Below w.heap.size w w3 := ext g2 j3
  have s3 := j3.size
  have t3 := g3.size
  go_wp2
  all_goals go_returns
  all_goals exact ⟨by first | rfl | (simp; done) | (simp; omega), g3⟩

set_option maxRecDepth 100000 in
set_option maxHeartbeats 8000000 in
theorem two_w10 (v bv cv : Value) (W H x y u t n : Int) (a b c : List Int) (w : World) (hv : FrameV w v W H a) (hb : Ints w bv b) (hc : Ints w cv c) (hg : TypeIs w) (h1 : a.length ≤ 5000) (k0 : b.length ≤ 5000) (k1 : c.length ≤ 5000) (k2 : 1 ≤ n) (k3 : n ≤ 8) (k4 : 0 ≤ x) (k5 : 0 ≤ y) (k6 : 0 ≤ u) (k7 : 0 ≤ t) (k8 : x ≤ 32) (k9 : y ≤ 32) (k10 : 32 < u) :
    Calls Tryd.prog 8 #[v, .int .i64 x, .int .i64 y, .int .i64 u, .int .i64 t, .int .i64 n, bv, cv] w fun e w' => e = .returned (.bool true) ∧ Below w.heap.size w w' := by
  have HG := Lib.hid hg
  have HV := Lib.hid hv
  have HB := Lib.hid hb
  have HC := Lib.hid hc
  have c1 := fun w hv => few_any v W H a w hv
  rw [show decide (a.length ≤ 5000) = true from by simp; omega] at c1
  have C1 := Lib.hid c1
  obtain ⟨ao, cap, rfl, hp⟩ := hv.cells
  obtain ⟨bo, cap2, rfl⟩ := hb.shape
  obtain ⟨co, cap3, rfl⟩ := hc.shape
  have hla := hp.len
  have hlb := hb.len
  have hlc := hc.len
  have BA0 := Lib.hid (Blk.new w #[.int .i64 W, .int .i64 H, .slice ao a.length cap] 24)
  clear hv hg hp hb hc c1
  clear h1
  go_enter Tryd.func8, Tryd.ntmps8
  have g0 : Below w.heap.size w w := Below.refl _ _
  go_wp2_with fail
  refine (first_any _ (HG.out.ext (by go_grown))).mono ?_
  rintro e w1 ⟨rfl, hb1⟩
  have j1 : Below w.heap.size w w1 := ext (by go_grown) hb1
  have g1 : Below w.heap.size w w1 := ext g0 j1
  have s1 := j1.size
  have t1 := g1.size
  have BA := Lib.hid (BA0.out.ext hb1)
  obtain ⟨BA0, BA1, BA2, BA3, BA4, BA5⟩ := (BA.out).three
  have BAl := (BA.out).lt
  go_wp2_with fail
  clear BA0 BA1 BA2 BA3 BA4 BA5 BAl
  refine (C1.out _ ((HV.out.ext j1).ext (by go_grown))).mono ?_
  rintro e w2 ⟨rfl, hb2⟩
  have j2 : Below w1.heap.size w1 w2 := ext (by go_grown) hb2
  have g2 : Below w.heap.size w w2 := ext g1 j2
  have s2 := j2.size
  have t2 := g2.size
  go_wp2_with fail
  refine (first_any _ (((HG.out.ext j1).ext j2).ext (by go_grown))).mono ?_
  rintro e w3 ⟨rfl, hb3⟩
  have j3 : Below w2.heap.size w2 w3 := ext (by go_grown) hb3
  have g3 : Below w.heap.size w w3 := ext g2 j3
  have s3 := j3.size
  have t3 := g3.size
  go_wp2
  all_goals go_returns
  all_goals exact ⟨by first | rfl | (simp; done) | (simp; omega), g3⟩

set_option maxRecDepth 100000 in
set_option maxHeartbeats 8000000 in
theorem two_w11 (v bv cv : Value) (W H x y u t n : Int) (a b c : List Int) (w : World) (hv : FrameV w v W H a) (hb : Ints w bv b) (hc : Ints w cv c) (hg : TypeIs w) (h1 : a.length ≤ 5000) (k0 : b.length ≤ 5000) (k1 : c.length ≤ 5000) (k2 : 1 ≤ n) (k3 : n ≤ 8) (k4 : 0 ≤ x) (k5 : 0 ≤ y) (k6 : 0 ≤ u) (k7 : 0 ≤ t) (k8 : x ≤ 32) (k9 : y ≤ 32) (k10 : u ≤ 32) (k11 : 32 < t) :
    Calls Tryd.prog 8 #[v, .int .i64 x, .int .i64 y, .int .i64 u, .int .i64 t, .int .i64 n, bv, cv] w fun e w' => e = .returned (.bool true) ∧ Below w.heap.size w w' := by
  have HG := Lib.hid hg
  have HV := Lib.hid hv
  have HB := Lib.hid hb
  have HC := Lib.hid hc
  have c1 := fun w hv => few_any v W H a w hv
  rw [show decide (a.length ≤ 5000) = true from by simp; omega] at c1
  have C1 := Lib.hid c1
  obtain ⟨ao, cap, rfl, hp⟩ := hv.cells
  obtain ⟨bo, cap2, rfl⟩ := hb.shape
  obtain ⟨co, cap3, rfl⟩ := hc.shape
  have hla := hp.len
  have hlb := hb.len
  have hlc := hc.len
  have BA0 := Lib.hid (Blk.new w #[.int .i64 W, .int .i64 H, .slice ao a.length cap] 24)
  clear hv hg hp hb hc c1
  clear h1
  have d9 : decide (32 < t) = true := by simp; omega
  go_enter Tryd.func8, Tryd.ntmps8
  have g0 : Below w.heap.size w w := Below.refl _ _
  go_wp2_with fail
  refine (first_any _ (HG.out.ext (by go_grown))).mono ?_
  rintro e w1 ⟨rfl, hb1⟩
  have j1 : Below w.heap.size w w1 := ext (by go_grown) hb1
  have g1 : Below w.heap.size w w1 := ext g0 j1
  have s1 := j1.size
  have t1 := g1.size
  have BA := Lib.hid (BA0.out.ext hb1)
  obtain ⟨BA0, BA1, BA2, BA3, BA4, BA5⟩ := (BA.out).three
  have BAl := (BA.out).lt
  go_wp2_with fail
  clear BA0 BA1 BA2 BA3 BA4 BA5 BAl
  refine (C1.out _ ((HV.out.ext j1).ext (by go_grown))).mono ?_
  rintro e w2 ⟨rfl, hb2⟩
  have j2 : Below w1.heap.size w1 w2 := ext (by go_grown) hb2
  have g2 : Below w.heap.size w w2 := ext g1 j2
  have s2 := j2.size
  have t2 := g2.size
  go_wp2_with fail
  refine (first_any _ (((HG.out.ext j1).ext j2).ext (by go_grown))).mono ?_
  rintro e w3 ⟨rfl, hb3⟩
  have j3 : Below w2.heap.size w2 w3 := ext (by go_grown) hb3
  have g3 : Below w.heap.size w w3 := ext g2 j3
  have s3 := j3.size
  have t3 := g3.size
  go_wp2
  all_goals go_returns
  all_goals exact ⟨by first | rfl | (simp; done) | (simp; omega), g3⟩

set_option maxRecDepth 100000 in
set_option maxHeartbeats 8000000 in
theorem two_n0 (v bv cv : Value) (W H x y u t n : Int) (a b c : List Int) (w : World) (hv : FrameV w v W H a) (hb : Ints w bv b) (hc : Ints w cv c) (hg : TypeIs w) (h1 : a.length ≤ 5000) (k0 : b.length ≤ 5000) (k1 : c.length ≤ 5000) (k2 : 1 ≤ n) (k3 : n ≤ 8) (k4 : 0 ≤ x) (k5 : 0 ≤ y) (k6 : 0 ≤ u) (k7 : 0 ≤ t) (k8 : x ≤ 32) (k9 : y ≤ 32) (k10 : u ≤ 32) (k11 : t ≤ 32) (e1 : putE W H a x y n b ≠ 0) :
    Calls Tryd.prog 8 #[v, .int .i64 x, .int .i64 y, .int .i64 u, .int .i64 t, .int .i64 n, bv, cv] w fun e w' => e = .returned (.bool true) ∧ Below w.heap.size w w' := by
  have HG := Lib.hid hg
  have HV := Lib.hid hv
  have HB := Lib.hid hb
  have HC := Lib.hid hc
  have c1 := fun w hv => few_any v W H a w hv
  rw [show decide (a.length ≤ 5000) = true from by simp; omega] at c1
  have C1 := Lib.hid c1
  have c2 := fun w hv hb => pput_any v bv W H a x y n b w hv hb
  have c3 := fun w hv hc => pput_any v cv W H a u t n c w hv hc
  obtain ⟨ao, cap, rfl, hp⟩ := hv.cells
  obtain ⟨bo, cap2, rfl⟩ := hb.shape
  obtain ⟨co, cap3, rfl⟩ := hc.shape
  have hla := hp.len
  have hlb := hb.len
  have hlc := hc.len
  have BA0 := Lib.hid (Blk.new w #[.int .i64 W, .int .i64 H, .slice ao a.length cap] 24)
  clear h1 hv hg hp hb hc c1
  have hk : (putE W H a x y n b == 0) = false := by simpa using e1
  generalize putE W H a x y n b = k1 at *
  generalize putE W H a u t n c = k2 at *
  have he : errV k1 = .iface 31 (.int .i64 k1) := by unfold errV; rw [if_neg e1]
  rw [he] at c2
  clear e1 he
  have C2 := Lib.hid c2
  have C3 := Lib.hid c3
  clear c2 c3
  generalize putP W H a x y n b = l1 at *
  generalize putP W H a u t n c = l2 at *
  generalize putS W H a x y n b W = s1 at *
  generalize putS W H a x y n b H = s2 at *
  generalize putS W H a u t n c W = s3 at *
  generalize putS W H a u t n c H = s4 at *
  go_enter Tryd.func8, Tryd.ntmps8
  have g0 : Below w.heap.size w w := Below.refl _ _
  go_wp2_with fail
  refine (first_any _ (HG.out.ext (by go_grown))).mono ?_
  rintro e w1 ⟨rfl, hb1⟩
  have j1 : Below w.heap.size w w1 := ext (by go_grown) hb1
  have g1 : Below w.heap.size w w1 := ext g0 j1
  have s1 := j1.size
  have t1 := g1.size
  have BA := Lib.hid (BA0.out.ext hb1)
  obtain ⟨BA0, BA1, BA2, BA3, BA4, BA5⟩ := (BA.out).three
  have BAl := (BA.out).lt
  go_wp2_with fail
  clear BA0 BA1 BA2 BA3 BA4 BA5 BAl
  refine (C1.out _ ((HV.out.ext j1).ext (by go_grown))).mono ?_
  rintro e w2 ⟨rfl, hb2⟩
  have j2 : Below w1.heap.size w1 w2 := ext (by go_grown) hb2
  have g2 : Below w.heap.size w w2 := ext g1 j2
  have s2 := j2.size
  have t2 := g2.size
  obtain ⟨BA0, BA1, BA2, BA3, BA4, BA5⟩ := ((BA.out.ext j2)).three
  have BAl := ((BA.out.ext j2)).lt
  go_wp2_with fail
  clear BA0 BA1 BA2 BA3 BA4 BA5 BAl
  refine (C2.out _ (((HV.out.ext j1).ext j2).ext (by go_grown)) (((HB.out.ext j1).ext j2).ext (by go_grown))).mono ?_
  rintro e w3 ⟨p1, rfl, hp1, hb3⟩
  have j3 : Below w2.heap.size w2 w3 := ext (by go_grown) hb3
  have g3 : Below w.heap.size w w3 := ext g2 j3
  have s3 := j3.size
  have t3 := g3.size
  obtain ⟨oz1, qz1, rfl⟩ := hp1.shape
  clear hp1
  obtain ⟨BA0, BA1, BA2, BA3, BA4, BA5⟩ := (((BA.out.ext j2).ext j3)).three
  have BAl := (((BA.out.ext j2).ext j3)).lt
  go_wp2_with fail
  clear BA0 BA1 BA2 BA3 BA4 BA5 BAl
  refine (C3.out _ ((((HV.out.ext j1).ext j2).ext j3).ext (by go_grown)) ((((HC.out.ext j1).ext j2).ext j3).ext (by go_grown))).mono ?_
  rintro e w4 ⟨p2, rfl, hp2, hb4⟩
  have j4 : Below w3.heap.size w3 w4 := ext (by go_grown) hb4
  have g4 : Below w.heap.size w w4 := ext g3 j4
  have s4 := j4.size
  have t4 := g4.size
  obtain ⟨oz2, qz2, rfl⟩ := hp2.shape
  clear hp2
  go_wp2_with fail
  refine (first_any _ (((((HG.out.ext j1).ext j2).ext j3).ext j4).ext (by go_grown))).mono ?_
  rintro e w5 ⟨rfl, hb5⟩
  have j5 : Below w4.heap.size w4 w5 := ext (by go_grown) hb5
  have g5 : Below w.heap.size w w5 := ext g4 j5
  have s5 := j5.size
  have t5 := g5.size
  go_wp2
  all_goals go_returns
  all_goals exact ⟨by first | rfl | (simp; done) | (simp; omega), g5⟩

set_option maxRecDepth 100000 in
set_option maxHeartbeats 8000000 in
theorem two_n1 (v bv cv : Value) (W H x y u t n : Int) (a b c : List Int) (w : World) (hv : FrameV w v W H a) (hb : Ints w bv b) (hc : Ints w cv c) (hg : TypeIs w) (h1 : a.length ≤ 5000) (k0 : b.length ≤ 5000) (k1 : c.length ≤ 5000) (k2 : 1 ≤ n) (k3 : n ≤ 8) (k4 : 0 ≤ x) (k5 : 0 ≤ y) (k6 : 0 ≤ u) (k7 : 0 ≤ t) (k8 : x ≤ 32) (k9 : y ≤ 32) (k10 : u ≤ 32) (k11 : t ≤ 32) (e1 : putE W H a x y n b = 0) (e2 : putE W H a u t n c ≠ 0) :
    Calls Tryd.prog 8 #[v, .int .i64 x, .int .i64 y, .int .i64 u, .int .i64 t, .int .i64 n, bv, cv] w fun e w' => e = .returned (.bool true) ∧ Below w.heap.size w w' := by
  have HG := Lib.hid hg
  have HV := Lib.hid hv
  have HB := Lib.hid hb
  have HC := Lib.hid hc
  have c1 := fun w hv => few_any v W H a w hv
  rw [show decide (a.length ≤ 5000) = true from by simp; omega] at c1
  have C1 := Lib.hid c1
  have c2 := fun w hv hb => pput_any v bv W H a x y n b w hv hb
  have c3 := fun w hv hc => pput_any v cv W H a u t n c w hv hc
  obtain ⟨ao, cap, rfl, hp⟩ := hv.cells
  obtain ⟨bo, cap2, rfl⟩ := hb.shape
  obtain ⟨co, cap3, rfl⟩ := hc.shape
  have hla := hp.len
  have hlb := hb.len
  have hlc := hc.len
  have BA0 := Lib.hid (Blk.new w #[.int .i64 W, .int .i64 H, .slice ao a.length cap] 24)
  clear h1 hv hg hp hb hc c1
  have hk : (putE W H a u t n c == 0) = false := by simpa using e2
  rw [e1] at c2
  generalize putE W H a u t n c = k2 at *
  have he0 : errV 0 = .nilIface := rfl
  have he : errV k2 = .iface 31 (.int .i64 k2) := by unfold errV; rw [if_neg e2]
  rw [he0] at c2
  rw [he] at c3
  clear e1 e2 he he0
  have C2 := Lib.hid c2
  have C3 := Lib.hid c3
  clear c2 c3
  generalize putP W H a x y n b = l1 at *
  generalize putP W H a u t n c = l2 at *
  generalize putS W H a x y n b W = s1 at *
  generalize putS W H a x y n b H = s2 at *
  generalize putS W H a u t n c W = s3 at *
  generalize putS W H a u t n c H = s4 at *
  go_enter Tryd.func8, Tryd.ntmps8
  have g0 : Below w.heap.size w w := Below.refl _ _
  go_wp2_with fail
  refine (first_any _ (HG.out.ext (by go_grown))).mono ?_
  rintro e w1 ⟨rfl, hb1⟩
  have j1 : Below w.heap.size w w1 := ext (by go_grown) hb1
  have g1 : Below w.heap.size w w1 := ext g0 j1
  have s1 := j1.size
  have t1 := g1.size
  have BA := Lib.hid (BA0.out.ext hb1)
  obtain ⟨BA0, BA1, BA2, BA3, BA4, BA5⟩ := (BA.out).three
  have BAl := (BA.out).lt
  go_wp2_with fail
  clear BA0 BA1 BA2 BA3 BA4 BA5 BAl
  refine (C1.out _ ((HV.out.ext j1).ext (by go_grown))).mono ?_
  rintro e w2 ⟨rfl, hb2⟩
  have j2 : Below w1.heap.size w1 w2 := ext (by go_grown) hb2
  have g2 : Below w.heap.size w w2 := ext g1 j2
  have s2 := j2.size
  have t2 := g2.size
  obtain ⟨BA0, BA1, BA2, BA3, BA4, BA5⟩ := ((BA.out.ext j2)).three
  have BAl := ((BA.out.ext j2)).lt
  go_wp2_with fail
  clear BA0 BA1 BA2 BA3 BA4 BA5 BAl
  refine (C2.out _ (((HV.out.ext j1).ext j2).ext (by go_grown)) (((HB.out.ext j1).ext j2).ext (by go_grown))).mono ?_
  rintro e w3 ⟨p1, rfl, hp1, hb3⟩
  have j3 : Below w2.heap.size w2 w3 := ext (by go_grown) hb3
  have g3 : Below w.heap.size w w3 := ext g2 j3
  have s3 := j3.size
  have t3 := g3.size
  obtain ⟨oz1, qz1, rfl⟩ := hp1.shape
  clear hp1
  obtain ⟨BA0, BA1, BA2, BA3, BA4, BA5⟩ := (((BA.out.ext j2).ext j3)).three
  have BAl := (((BA.out.ext j2).ext j3)).lt
  go_wp2_with fail
  clear BA0 BA1 BA2 BA3 BA4 BA5 BAl
  refine (C3.out _ ((((HV.out.ext j1).ext j2).ext j3).ext (by go_grown)) ((((HC.out.ext j1).ext j2).ext j3).ext (by go_grown))).mono ?_
  rintro e w4 ⟨p2, rfl, hp2, hb4⟩
  have j4 : Below w3.heap.size w3 w4 := ext (by go_grown) hb4
  have g4 : Below w.heap.size w w4 := ext g3 j4
  have s4 := j4.size
  have t4 := g4.size
  obtain ⟨oz2, qz2, rfl⟩ := hp2.shape
  clear hp2
  go_wp2_with fail
  refine (first_any _ (((((HG.out.ext j1).ext j2).ext j3).ext j4).ext (by go_grown))).mono ?_
  rintro e w5 ⟨rfl, hb5⟩
  have j5 : Below w4.heap.size w4 w5 := ext (by go_grown) hb5
  have g5 : Below w.heap.size w w5 := ext g4 j5
  have s5 := j5.size
  have t5 := g5.size
  go_wp2
  all_goals go_returns
  all_goals exact ⟨by first | rfl | (simp; done) | (simp; omega), g5⟩

set_option maxRecDepth 100000 in
set_option maxHeartbeats 8000000 in
theorem two_o0 (v bv cv : Value) (W H x y u t n : Nat) (a b c : List Int) (w : World) (hv : FrameV w v W H a) (hb : Ints w bv b) (hc : Ints w cv c) (hg : TypeIs w) (h1 : a.length ≤ 5000) (k0 : b.length ≤ 5000) (k1 : c.length ≤ 5000) (x2 : x ≤ 32) (y2 : y ≤ 32) (u2 : u ≤ 32) (t2 : t ≤ 32) (f1 : Fit W H x y n a b) (f2 : Fit W H u t n a c)  (o0 : ¬ u < x + n) :
    Calls Tryd.prog 8 #[v, .int .i64 x, .int .i64 y, .int .i64 u, .int .i64 t, .int .i64 n, bv, cv] w fun e w' => e = .returned (.bool true) ∧ Below w.heap.size w w' := by
  have HG := Lib.hid hg
  have HV := Lib.hid hv
  have HB := Lib.hid hb
  have HC := Lib.hid hc
  have c1 := fun w hv => few_any v W H a w hv
  rw [show decide (a.length ≤ 5000) = true from by simp; omega] at c1
  have C1 := Lib.hid c1
  have C2 := Lib.hid (fun w hv hb => pput_ok v bv W H x y n a b w hv hb f1)
  have C3 := Lib.hid (fun w hv hc => pput_ok v cv W H u t n a c w hv hc f2)
  obtain ⟨W1, W2, H1, H2, -⟩ := f1.bd
  have W64 : in64 (W : Int) ∧ in64 (H : Int) := by unfold in64; omega
  have HI := Lib.hid W64.1
  have HJ := Lib.hid W64.2
  have n1 := f1.n1
  have n2 := f1.n2
  have C4 := Lib.hid (fun v w hv hc => pput_ok v cv W H u t n (layV W x y n b a) c w hv hc (f1.on f2))
  have c5 := fun v w hv hb => pput_ok v bv W H x y n (layV W u t n c a) b w hv hb (f2.on f1)
  rw [← lay_comm b c a (by omega)] at c5
  have C5 := Lib.hid c5
  have c6 := fun v w hv hb => pput_ok v bv W H x y n (layV W x y n b a) b w hv hb (f1.on f1)
  rw [lay_twice] at c6
  have C6 := Lib.hid c6
  have C7 := Lib.hid (fun v u' w hv hu => same_may v u' W H _ w (f1.on f2).lay hv hu)
  have C8 := Lib.hid (fun v u' w hv hu => same_may v u' W H _ w f1.lay hv hu)
  clear c5 c6
  obtain ⟨ao, cap, rfl, hp⟩ := hv.cells
  obtain ⟨bo, cap2, rfl⟩ := hb.shape
  obtain ⟨co, cap3, rfl⟩ := hc.shape
  have hla := hp.len
  have hlb := hb.len
  have hlc := hc.len
  have BA0 := Lib.hid (Blk.new w #[.int .i64 W, .int .i64 H, .slice ao a.length cap] 24)
  clear h1 f1 f2 W64 hv hg hp hb hc c1
  generalize layV W u t n c (layV W x y n b a) = l3 at *
  generalize layV W x y n b a = l1 at *
  generalize layV W u t n c a = l2 at *
  go_enter Tryd.func8, Tryd.ntmps8
  have g0 : Below w.heap.size w w := Below.refl _ _
  go_wp2_with fail
  refine (first_any _ (HG.out.ext (by go_grown))).mono ?_
  rintro e w1 ⟨rfl, hb1⟩
  have j1 : Below w.heap.size w w1 := ext (by go_grown) hb1
  have g1 : Below w.heap.size w w1 := ext g0 j1
  have s1 := j1.size
  have t1 := g1.size
  have BA := Lib.hid (BA0.out.ext hb1)
  obtain ⟨BA0, BA1, BA2, BA3, BA4, BA5⟩ := (BA.out).three
  have BAl := (BA.out).lt
  go_wp2_with fail
  clear BA0 BA1 BA2 BA3 BA4 BA5 BAl
  refine (C1.out _ ((HV.out.ext j1).ext (by go_grown))).mono ?_
  rintro e w2 ⟨rfl, hb2⟩
  have j2 : Below w1.heap.size w1 w2 := ext (by go_grown) hb2
  have g2 : Below w.heap.size w w2 := ext g1 j2
  have s2 := j2.size
  have t2 := g2.size
  obtain ⟨BA0, BA1, BA2, BA3, BA4, BA5⟩ := ((BA.out.ext j2)).three
  have BAl := ((BA.out.ext j2)).lt
  go_wp2_with fail
  clear BA0 BA1 BA2 BA3 BA4 BA5 BAl
  refine (C2.out _ (((HV.out.ext j1).ext j2).ext (by go_grown)) (((HB.out.ext j1).ext j2).ext (by go_grown))).mono ?_
  rintro e w3 ⟨p1, rfl, h1, hb3⟩
  have j3 : Below w2.heap.size w2 w3 := ext (by go_grown) hb3
  have g3 : Below w.heap.size w w3 := ext g2 j3
  have s3 := j3.size
  have t3 := g3.size
  obtain ⟨o1, q1, rfl⟩ := h1.shape
  have F1 : Hid (FrameV w3 (.agg #[.int .i64 W, .int .i64 H, .slice o1 l1.length q1]) W H l1) := Lib.hid ⟨_, rfl, HI.out, HJ.out, h1.ints⟩
  clear h1
  obtain ⟨BA0, BA1, BA2, BA3, BA4, BA5⟩ := (((BA.out.ext j2).ext j3)).three
  have BAl := (((BA.out.ext j2).ext j3)).lt
  go_wp2_with fail
  clear BA0 BA1 BA2 BA3 BA4 BA5 BAl
  refine (C3.out _ ((((HV.out.ext j1).ext j2).ext j3).ext (by go_grown)) ((((HC.out.ext j1).ext j2).ext j3).ext (by go_grown))).mono ?_
  rintro e w4 ⟨p2, rfl, h2, hb4⟩
  have j4 : Below w3.heap.size w3 w4 := ext (by go_grown) hb4
  have g4 : Below w.heap.size w w4 := ext g3 j4
  have s4 := j4.size
  have t4 := g4.size
  obtain ⟨o2, q2, rfl⟩ := h2.shape
  have F2 : Hid (FrameV w4 (.agg #[.int .i64 W, .int .i64 H, .slice o2 l2.length q2]) W H l2) := Lib.hid ⟨_, rfl, HI.out, HJ.out, h2.ints⟩
  clear h2
  have B1 := Lib.hid ((Blk.new w3 #[.int .i64 W, .int .i64 H, .slice o1 l1.length q1] 24).ext hb4)
  obtain ⟨B10, B11, B12, B13, B14, B15⟩ := (B1.out).three
  have B1l := (B1.out).lt
  go_wp2_with fail
  clear B10 B11 B12 B13 B14 B15 B1l
  refine (C4.out _ _ ((F1.out.ext j4).ext (by go_grown)) (((((HC.out.ext j1).ext j2).ext j3).ext j4).ext (by go_grown))).mono ?_
  rintro e w5 ⟨p3, rfl, h3, hb5⟩
  have j5 : Below w4.heap.size w4 w5 := ext (by go_grown) hb5
  have g5 : Below w.heap.size w w5 := ext g4 j5
  have s5 := j5.size
  have t5 := g5.size
  obtain ⟨o3, q3, rfl⟩ := h3.shape
  have F3 : Hid (FrameV w5 (.agg #[.int .i64 W, .int .i64 H, .slice o3 l3.length q3]) W H l3) := Lib.hid ⟨_, rfl, HI.out, HJ.out, h3.ints⟩
  clear h3
  have B2 := Lib.hid ((Blk.new w4 #[.int .i64 W, .int .i64 H, .slice o2 l2.length q2] 24).ext hb5)
  obtain ⟨B20, B21, B22, B23, B24, B25⟩ := (B2.out).three
  have B2l := (B2.out).lt
  go_wp2_with fail
  clear B20 B21 B22 B23 B24 B25 B2l
  refine (C5.out _ _ ((F2.out.ext j5).ext (by go_grown)) ((((((HB.out.ext j1).ext j2).ext j3).ext j4).ext j5).ext (by go_grown))).mono ?_
  rintro e w6 ⟨p4, rfl, h4, hb6⟩
  have j6 : Below w5.heap.size w5 w6 := ext (by go_grown) hb6
  have g6 : Below w.heap.size w w6 := ext g5 j6
  have s6 := j6.size
  have t6 := g6.size
  obtain ⟨o4, q4, rfl⟩ := h4.shape
  have F4 : Hid (FrameV w6 (.agg #[.int .i64 W, .int .i64 H, .slice o4 l3.length q4]) W H l3) := Lib.hid ⟨_, rfl, HI.out, HJ.out, h4.ints⟩
  clear h4
  have B3 := Lib.hid ((Blk.new w5 #[.int .i64 W, .int .i64 H, .slice o3 l3.length q3] 24).ext hb6)
  obtain ⟨B10, B11, B12, B13, B14, B15⟩ := (((B1.out.ext j5).ext j6)).three
  have B1l := (((B1.out.ext j5).ext j6)).lt
  go_wp2_with fail
  clear B10 B11 B12 B13 B14 B15 B1l
  refine (C6.out _ _ ((((F1.out.ext j4).ext j5).ext j6).ext (by go_grown)) (((((((HB.out.ext j1).ext j2).ext j3).ext j4).ext j5).ext j6).ext (by go_grown))).mono ?_
  rintro e w7 ⟨p5, rfl, h5, hb7⟩
  have j7 : Below w6.heap.size w6 w7 := ext (by go_grown) hb7
  have g7 : Below w.heap.size w w7 := ext g6 j7
  have s7 := j7.size
  have t7 := g7.size
  obtain ⟨o5, q5, rfl⟩ := h5.shape
  have F5 : Hid (FrameV w7 (.agg #[.int .i64 W, .int .i64 H, .slice o5 l1.length q5]) W H l1) := Lib.hid ⟨_, rfl, HI.out, HJ.out, h5.ints⟩
  clear h5
  have B4 := Lib.hid ((Blk.new w6 #[.int .i64 W, .int .i64 H, .slice o4 l3.length q4] 24).ext hb7)
  go_wp2_with fail
  refine (first_any _ ((((((((HG.out.ext j1).ext j2).ext j3).ext j4).ext j5).ext j6).ext j7).ext (by go_grown))).mono ?_
  rintro e w8 ⟨rfl, hb8⟩
  have j8 : Below w7.heap.size w7 w8 := ext (by go_grown) hb8
  have g8 : Below w.heap.size w w8 := ext g7 j8
  have s8 := j8.size
  have t8 := g8.size
  have B5 := Lib.hid ((Blk.new w7 #[.int .i64 W, .int .i64 H, .slice o5 l1.length q5] 24).ext hb8)
  obtain ⟨B30, B31, B32, B33, B34, B35⟩ := (((B3.out.ext j7).ext j8)).three
  have B3l := (((B3.out.ext j7).ext j8)).lt
  obtain ⟨B40, B41, B42, B43, B44, B45⟩ := ((B4.out.ext j8)).three
  have B4l := ((B4.out.ext j8)).lt
  go_wp2_with fail
  clear B30 B31 B32 B33 B34 B35 B3l
  clear B40 B41 B42 B43 B44 B45 B4l
  refine (C7.out _ _ _ ((((F3.out.ext j6).ext j7).ext j8).ext (by go_grown)) (((F4.out.ext j7).ext j8).ext (by go_grown))).mono ?_
  rintro e w9 ⟨rfl, hb9⟩
  have j9 : Below w8.heap.size w8 w9 := ext (by go_grown) hb9
  have g9 : Below w.heap.size w w9 := ext g8 j9
  have s9 := j9.size
  have t9 := g9.size
  obtain ⟨B50, B51, B52, B53, B54, B55⟩ := ((B5.out.ext j9)).three
  have B5l := ((B5.out.ext j9)).lt
  obtain ⟨B10, B11, B12, B13, B14, B15⟩ := ((((((B1.out.ext j5).ext j6).ext j7).ext j8).ext j9)).three
  have B1l := ((((((B1.out.ext j5).ext j6).ext j7).ext j8).ext j9)).lt
  go_wp2_with fail
  clear B50 B51 B52 B53 B54 B55 B5l
  clear B10 B11 B12 B13 B14 B15 B1l
  refine (C8.out _ _ _ (((F5.out.ext j8).ext j9).ext (by go_grown)) (((((((F1.out.ext j4).ext j5).ext j6).ext j7).ext j8).ext j9).ext (by go_grown))).mono ?_
  rintro e w10 ⟨rfl, hb10⟩
  have j10 : Below w9.heap.size w9 w10 := ext (by go_grown) hb10
  have g10 : Below w.heap.size w w10 := ext g9 j10
  have s10 := j10.size
  have t10 := g10.size
  go_wp2
  all_goals go_returns
  all_goals exact ⟨by first | rfl | (simp; done) | (simp; omega), g10⟩

set_option maxRecDepth 100000 in
set_option maxHeartbeats 8000000 in
theorem two_o1 (v bv cv : Value) (W H x y u t n : Nat) (a b c : List Int) (w : World) (hv : FrameV w v W H a) (hb : Ints w bv b) (hc : Ints w cv c) (hg : TypeIs w) (h1 : a.length ≤ 5000) (k0 : b.length ≤ 5000) (k1 : c.length ≤ 5000) (x2 : x ≤ 32) (y2 : y ≤ 32) (u2 : u ≤ 32) (t2 : t ≤ 32) (f1 : Fit W H x y n a b) (f2 : Fit W H u t n a c) (o0 : u < x + n) (o1 : ¬ x < u + n) :
    Calls Tryd.prog 8 #[v, .int .i64 x, .int .i64 y, .int .i64 u, .int .i64 t, .int .i64 n, bv, cv] w fun e w' => e = .returned (.bool true) ∧ Below w.heap.size w w' := by
  have HG := Lib.hid hg
  have HV := Lib.hid hv
  have HB := Lib.hid hb
  have HC := Lib.hid hc
  have c1 := fun w hv => few_any v W H a w hv
  rw [show decide (a.length ≤ 5000) = true from by simp; omega] at c1
  have C1 := Lib.hid c1
  have C2 := Lib.hid (fun w hv hb => pput_ok v bv W H x y n a b w hv hb f1)
  have C3 := Lib.hid (fun w hv hc => pput_ok v cv W H u t n a c w hv hc f2)
  obtain ⟨W1, W2, H1, H2, -⟩ := f1.bd
  have W64 : in64 (W : Int) ∧ in64 (H : Int) := by unfold in64; omega
  have HI := Lib.hid W64.1
  have HJ := Lib.hid W64.2
  have n1 := f1.n1
  have n2 := f1.n2
  have C4 := Lib.hid (fun v w hv hc => pput_ok v cv W H u t n (layV W x y n b a) c w hv hc (f1.on f2))
  have c5 := fun v w hv hb => pput_ok v bv W H x y n (layV W u t n c a) b w hv hb (f2.on f1)
  rw [← lay_comm b c a (by omega)] at c5
  have C5 := Lib.hid c5
  have c6 := fun v w hv hb => pput_ok v bv W H x y n (layV W x y n b a) b w hv hb (f1.on f1)
  rw [lay_twice] at c6
  have C6 := Lib.hid c6
  have C7 := Lib.hid (fun v u' w hv hu => same_may v u' W H _ w (f1.on f2).lay hv hu)
  have C8 := Lib.hid (fun v u' w hv hu => same_may v u' W H _ w f1.lay hv hu)
  clear c5 c6
  obtain ⟨ao, cap, rfl, hp⟩ := hv.cells
  obtain ⟨bo, cap2, rfl⟩ := hb.shape
  obtain ⟨co, cap3, rfl⟩ := hc.shape
  have hla := hp.len
  have hlb := hb.len
  have hlc := hc.len
  have BA0 := Lib.hid (Blk.new w #[.int .i64 W, .int .i64 H, .slice ao a.length cap] 24)
  clear h1 f1 f2 W64 hv hg hp hb hc c1
  generalize layV W u t n c (layV W x y n b a) = l3 at *
  generalize layV W x y n b a = l1 at *
  generalize layV W u t n c a = l2 at *
  go_enter Tryd.func8, Tryd.ntmps8
  have g0 : Below w.heap.size w w := Below.refl _ _
  go_wp2_with fail
  refine (first_any _ (HG.out.ext (by go_grown))).mono ?_
  rintro e w1 ⟨rfl, hb1⟩
  have j1 : Below w.heap.size w w1 := ext (by go_grown) hb1
  have g1 : Below w.heap.size w w1 := ext g0 j1
  have s1 := j1.size
  have t1 := g1.size
  have BA := Lib.hid (BA0.out.ext hb1)
  obtain ⟨BA0, BA1, BA2, BA3, BA4, BA5⟩ := (BA.out).three
  have BAl := (BA.out).lt
  go_wp2_with fail
  clear BA0 BA1 BA2 BA3 BA4 BA5 BAl
  refine (C1.out _ ((HV.out.ext j1).ext (by go_grown))).mono ?_
  rintro e w2 ⟨rfl, hb2⟩
  have j2 : Below w1.heap.size w1 w2 := ext (by go_grown) hb2
  have g2 : Below w.heap.size w w2 := ext g1 j2
  have s2 := j2.size
  have t2 := g2.size
  obtain ⟨BA0, BA1, BA2, BA3, BA4, BA5⟩ := ((BA.out.ext j2)).three
  have BAl := ((BA.out.ext j2)).lt
  go_wp2_with fail
  clear BA0 BA1 BA2 BA3 BA4 BA5 BAl
  refine (C2.out _ (((HV.out.ext j1).ext j2).ext (by go_grown)) (((HB.out.ext j1).ext j2).ext (by go_grown))).mono ?_
  rintro e w3 ⟨p1, rfl, h1, hb3⟩
  have j3 : Below w2.heap.size w2 w3 := ext (by go_grown) hb3
  have g3 : Below w.heap.size w w3 := ext g2 j3
  have s3 := j3.size
  have t3 := g3.size
  obtain ⟨o1, q1, rfl⟩ := h1.shape
  have F1 : Hid (FrameV w3 (.agg #[.int .i64 W, .int .i64 H, .slice o1 l1.length q1]) W H l1) := Lib.hid ⟨_, rfl, HI.out, HJ.out, h1.ints⟩
  clear h1
  obtain ⟨BA0, BA1, BA2, BA3, BA4, BA5⟩ := (((BA.out.ext j2).ext j3)).three
  have BAl := (((BA.out.ext j2).ext j3)).lt
  go_wp2_with fail
  clear BA0 BA1 BA2 BA3 BA4 BA5 BAl
  refine (C3.out _ ((((HV.out.ext j1).ext j2).ext j3).ext (by go_grown)) ((((HC.out.ext j1).ext j2).ext j3).ext (by go_grown))).mono ?_
  rintro e w4 ⟨p2, rfl, h2, hb4⟩
  have j4 : Below w3.heap.size w3 w4 := ext (by go_grown) hb4
  have g4 : Below w.heap.size w w4 := ext g3 j4
  have s4 := j4.size
  have t4 := g4.size
  obtain ⟨o2, q2, rfl⟩ := h2.shape
  have F2 : Hid (FrameV w4 (.agg #[.int .i64 W, .int .i64 H, .slice o2 l2.length q2]) W H l2) := Lib.hid ⟨_, rfl, HI.out, HJ.out, h2.ints⟩
  clear h2
  have B1 := Lib.hid ((Blk.new w3 #[.int .i64 W, .int .i64 H, .slice o1 l1.length q1] 24).ext hb4)
  obtain ⟨B10, B11, B12, B13, B14, B15⟩ := (B1.out).three
  have B1l := (B1.out).lt
  go_wp2_with fail
  clear B10 B11 B12 B13 B14 B15 B1l
  refine (C4.out _ _ ((F1.out.ext j4).ext (by go_grown)) (((((HC.out.ext j1).ext j2).ext j3).ext j4).ext (by go_grown))).mono ?_
  rintro e w5 ⟨p3, rfl, h3, hb5⟩
  have j5 : Below w4.heap.size w4 w5 := ext (by go_grown) hb5
  have g5 : Below w.heap.size w w5 := ext g4 j5
  have s5 := j5.size
  have t5 := g5.size
  obtain ⟨o3, q3, rfl⟩ := h3.shape
  have F3 : Hid (FrameV w5 (.agg #[.int .i64 W, .int .i64 H, .slice o3 l3.length q3]) W H l3) := Lib.hid ⟨_, rfl, HI.out, HJ.out, h3.ints⟩
  clear h3
  have B2 := Lib.hid ((Blk.new w4 #[.int .i64 W, .int .i64 H, .slice o2 l2.length q2] 24).ext hb5)
  obtain ⟨B20, B21, B22, B23, B24, B25⟩ := (B2.out).three
  have B2l := (B2.out).lt
  go_wp2_with fail
  clear B20 B21 B22 B23 B24 B25 B2l
  refine (C5.out _ _ ((F2.out.ext j5).ext (by go_grown)) ((((((HB.out.ext j1).ext j2).ext j3).ext j4).ext j5).ext (by go_grown))).mono ?_
  rintro e w6 ⟨p4, rfl, h4, hb6⟩
  have j6 : Below w5.heap.size w5 w6 := ext (by go_grown) hb6
  have g6 : Below w.heap.size w w6 := ext g5 j6
  have s6 := j6.size
  have t6 := g6.size
  obtain ⟨o4, q4, rfl⟩ := h4.shape
  have F4 : Hid (FrameV w6 (.agg #[.int .i64 W, .int .i64 H, .slice o4 l3.length q4]) W H l3) := Lib.hid ⟨_, rfl, HI.out, HJ.out, h4.ints⟩
  clear h4
  have B3 := Lib.hid ((Blk.new w5 #[.int .i64 W, .int .i64 H, .slice o3 l3.length q3] 24).ext hb6)
  obtain ⟨B10, B11, B12, B13, B14, B15⟩ := (((B1.out.ext j5).ext j6)).three
  have B1l := (((B1.out.ext j5).ext j6)).lt
  go_wp2_with fail
  clear B10 B11 B12 B13 B14 B15 B1l
  refine (C6.out _ _ ((((F1.out.ext j4).ext j5).ext j6).ext (by go_grown)) (((((((HB.out.ext j1).ext j2).ext j3).ext j4).ext j5).ext j6).ext (by go_grown))).mono ?_
  rintro e w7 ⟨p5, rfl, h5, hb7⟩
  have j7 : Below w6.heap.size w6 w7 := ext (by go_grown) hb7
  have g7 : Below w.heap.size w w7 := ext g6 j7
  have s7 := j7.size
  have t7 := g7.size
  obtain ⟨o5, q5, rfl⟩ := h5.shape
  have F5 : Hid (FrameV w7 (.agg #[.int .i64 W, .int .i64 H, .slice o5 l1.length q5]) W H l1) := Lib.hid ⟨_, rfl, HI.out, HJ.out, h5.ints⟩
  clear h5
  have B4 := Lib.hid ((Blk.new w6 #[.int .i64 W, .int .i64 H, .slice o4 l3.length q4] 24).ext hb7)
  go_wp2_with fail
  refine (first_any _ ((((((((HG.out.ext j1).ext j2).ext j3).ext j4).ext j5).ext j6).ext j7).ext (by go_grown))).mono ?_
  rintro e w8 ⟨rfl, hb8⟩
  have j8 : Below w7.heap.size w7 w8 := ext (by go_grown) hb8
  have g8 : Below w.heap.size w w8 := ext g7 j8
  have s8 := j8.size
  have t8 := g8.size
  have B5 := Lib.hid ((Blk.new w7 #[.int .i64 W, .int .i64 H, .slice o5 l1.length q5] 24).ext hb8)
  obtain ⟨B30, B31, B32, B33, B34, B35⟩ := (((B3.out.ext j7).ext j8)).three
  have B3l := (((B3.out.ext j7).ext j8)).lt
  obtain ⟨B40, B41, B42, B43, B44, B45⟩ := ((B4.out.ext j8)).three
  have B4l := ((B4.out.ext j8)).lt
  go_wp2_with fail
  clear B30 B31 B32 B33 B34 B35 B3l
  clear B40 B41 B42 B43 B44 B45 B4l
  refine (C7.out _ _ _ ((((F3.out.ext j6).ext j7).ext j8).ext (by go_grown)) (((F4.out.ext j7).ext j8).ext (by go_grown))).mono ?_
  rintro e w9 ⟨rfl, hb9⟩
  have j9 : Below w8.heap.size w8 w9 := ext (by go_grown) hb9
  have g9 : Below w.heap.size w w9 := ext g8 j9
  have s9 := j9.size
  have t9 := g9.size
  obtain ⟨B50, B51, B52, B53, B54, B55⟩ := ((B5.out.ext j9)).three
  have B5l := ((B5.out.ext j9)).lt
  obtain ⟨B10, B11, B12, B13, B14, B15⟩ := ((((((B1.out.ext j5).ext j6).ext j7).ext j8).ext j9)).three
  have B1l := ((((((B1.out.ext j5).ext j6).ext j7).ext j8).ext j9)).lt
  go_wp2_with fail
  clear B50 B51 B52 B53 B54 B55 B5l
  clear B10 B11 B12 B13 B14 B15 B1l
  refine (C8.out _ _ _ (((F5.out.ext j8).ext j9).ext (by go_grown)) (((((((F1.out.ext j4).ext j5).ext j6).ext j7).ext j8).ext j9).ext (by go_grown))).mono ?_
  rintro e w10 ⟨rfl, hb10⟩
  have j10 : Below w9.heap.size w9 w10 := ext (by go_grown) hb10
  have g10 : Below w.heap.size w w10 := ext g9 j10
  have s10 := j10.size
  have t10 := g10.size
  go_wp2
  all_goals go_returns
  all_goals exact ⟨by first | rfl | (simp; done) | (simp; omega), g10⟩

set_option maxRecDepth 100000 in
set_option maxHeartbeats 8000000 in
theorem two_o2 (v bv cv : Value) (W H x y u t n : Nat) (a b c : List Int) (w : World) (hv : FrameV w v W H a) (hb : Ints w bv b) (hc : Ints w cv c) (hg : TypeIs w) (h1 : a.length ≤ 5000) (k0 : b.length ≤ 5000) (k1 : c.length ≤ 5000) (x2 : x ≤ 32) (y2 : y ≤ 32) (u2 : u ≤ 32) (t2 : t ≤ 32) (f1 : Fit W H x y n a b) (f2 : Fit W H u t n a c) (o0 : u < x + n) (o1 : x < u + n) (o2 : ¬ t < y + n) :
    Calls Tryd.prog 8 #[v, .int .i64 x, .int .i64 y, .int .i64 u, .int .i64 t, .int .i64 n, bv, cv] w fun e w' => e = .returned (.bool true) ∧ Below w.heap.size w w' := by
  have HG := Lib.hid hg
  have HV := Lib.hid hv
  have HB := Lib.hid hb
  have HC := Lib.hid hc
  have c1 := fun w hv => few_any v W H a w hv
  rw [show decide (a.length ≤ 5000) = true from by simp; omega] at c1
  have C1 := Lib.hid c1
  have C2 := Lib.hid (fun w hv hb => pput_ok v bv W H x y n a b w hv hb f1)
  have C3 := Lib.hid (fun w hv hc => pput_ok v cv W H u t n a c w hv hc f2)
  obtain ⟨W1, W2, H1, H2, -⟩ := f1.bd
  have W64 : in64 (W : Int) ∧ in64 (H : Int) := by unfold in64; omega
  have HI := Lib.hid W64.1
  have HJ := Lib.hid W64.2
  have n1 := f1.n1
  have n2 := f1.n2
  have C4 := Lib.hid (fun v w hv hc => pput_ok v cv W H u t n (layV W x y n b a) c w hv hc (f1.on f2))
  have c5 := fun v w hv hb => pput_ok v bv W H x y n (layV W u t n c a) b w hv hb (f2.on f1)
  rw [← lay_comm b c a (by omega)] at c5
  have C5 := Lib.hid c5
  have c6 := fun v w hv hb => pput_ok v bv W H x y n (layV W x y n b a) b w hv hb (f1.on f1)
  rw [lay_twice] at c6
  have C6 := Lib.hid c6
  have C7 := Lib.hid (fun v u' w hv hu => same_may v u' W H _ w (f1.on f2).lay hv hu)
  have C8 := Lib.hid (fun v u' w hv hu => same_may v u' W H _ w f1.lay hv hu)
  clear c5 c6
  obtain ⟨ao, cap, rfl, hp⟩ := hv.cells
  obtain ⟨bo, cap2, rfl⟩ := hb.shape
  obtain ⟨co, cap3, rfl⟩ := hc.shape
  have hla := hp.len
  have hlb := hb.len
  have hlc := hc.len
  have BA0 := Lib.hid (Blk.new w #[.int .i64 W, .int .i64 H, .slice ao a.length cap] 24)
  clear h1 f1 f2 W64 hv hg hp hb hc c1
  generalize layV W u t n c (layV W x y n b a) = l3 at *
  generalize layV W x y n b a = l1 at *
  generalize layV W u t n c a = l2 at *
  go_enter Tryd.func8, Tryd.ntmps8
  have g0 : Below w.heap.size w w := Below.refl _ _
  go_wp2_with fail
  refine (first_any _ (HG.out.ext (by go_grown))).mono ?_
  rintro e w1 ⟨rfl, hb1⟩
  have j1 : Below w.heap.size w w1 := ext (by go_grown) hb1
  have g1 : Below w.heap.size w w1 := ext g0 j1
  have s1 := j1.size
  have t1 := g1.size
  have BA := Lib.hid (BA0.out.ext hb1)
  obtain ⟨BA0, BA1, BA2, BA3, BA4, BA5⟩ := (BA.out).three
  have BAl := (BA.out).lt
  go_wp2_with fail
  clear BA0 BA1 BA2 BA3 BA4 BA5 BAl
  refine (C1.out _ ((HV.out.ext j1).ext (by go_grown))).mono ?_
  rintro e w2 ⟨rfl, hb2⟩
  have j2 : Below w1.heap.size w1 w2 := ext (by go_grown) hb2
  have g2 : Below w.heap.size w w2 := ext g1 j2
  have s2 := j2.size
  have t2 := g2.size
  obtain ⟨BA0, BA1, BA2, BA3, BA4, BA5⟩ := ((BA.out.ext j2)).three
  have BAl := ((BA.out.ext j2)).lt
  go_wp2_with fail
  clear BA0 BA1 BA2 BA3 BA4 BA5 BAl
  refine (C2.out _ (((HV.out.ext j1).ext j2).ext (by go_grown)) (((HB.out.ext j1).ext j2).ext (by go_grown))).mono ?_
  rintro e w3 ⟨p1, rfl, h1, hb3⟩
  have j3 : Below w2.heap.size w2 w3 := ext (by go_grown) hb3
  have g3 : Below w.heap.size w w3 := ext g2 j3
  have s3 := j3.size
  have t3 := g3.size
  obtain ⟨o1, q1, rfl⟩ := h1.shape
  have F1 : Hid (FrameV w3 (.agg #[.int .i64 W, .int .i64 H, .slice o1 l1.length q1]) W H l1) := Lib.hid ⟨_, rfl, HI.out, HJ.out, h1.ints⟩
  clear h1
  obtain ⟨BA0, BA1, BA2, BA3, BA4, BA5⟩ := (((BA.out.ext j2).ext j3)).three
  have BAl := (((BA.out.ext j2).ext j3)).lt
  go_wp2_with fail
  clear BA0 BA1 BA2 BA3 BA4 BA5 BAl
  refine (C3.out _ ((((HV.out.ext j1).ext j2).ext j3).ext (by go_grown)) ((((HC.out.ext j1).ext j2).ext j3).ext (by go_grown))).mono ?_
  rintro e w4 ⟨p2, rfl, h2, hb4⟩
  have j4 : Below w3.heap.size w3 w4 := ext (by go_grown) hb4
  have g4 : Below w.heap.size w w4 := ext g3 j4
  have s4 := j4.size
  have t4 := g4.size
  obtain ⟨o2, q2, rfl⟩ := h2.shape
  have F2 : Hid (FrameV w4 (.agg #[.int .i64 W, .int .i64 H, .slice o2 l2.length q2]) W H l2) := Lib.hid ⟨_, rfl, HI.out, HJ.out, h2.ints⟩
  clear h2
  have B1 := Lib.hid ((Blk.new w3 #[.int .i64 W, .int .i64 H, .slice o1 l1.length q1] 24).ext hb4)
  obtain ⟨B10, B11, B12, B13, B14, B15⟩ := (B1.out).three
  have B1l := (B1.out).lt
  go_wp2_with fail
  clear B10 B11 B12 B13 B14 B15 B1l
  refine (C4.out _ _ ((F1.out.ext j4).ext (by go_grown)) (((((HC.out.ext j1).ext j2).ext j3).ext j4).ext (by go_grown))).mono ?_
  rintro e w5 ⟨p3, rfl, h3, hb5⟩
  have j5 : Below w4.heap.size w4 w5 := ext (by go_grown) hb5
  have g5 : Below w.heap.size w w5 := ext g4 j5
  have s5 := j5.size
  have t5 := g5.size
  obtain ⟨o3, q3, rfl⟩ := h3.shape
  have F3 : Hid (FrameV w5 (.agg #[.int .i64 W, .int .i64 H, .slice o3 l3.length q3]) W H l3) := Lib.hid ⟨_, rfl, HI.out, HJ.out, h3.ints⟩
  clear h3
  have B2 := Lib.hid ((Blk.new w4 #[.int .i64 W, .int .i64 H, .slice o2 l2.length q2] 24).ext hb5)
  obtain ⟨B20, B21, B22, B23, B24, B25⟩ := (B2.out).three
  have B2l := (B2.out).lt
  go_wp2_with fail
  clear B20 B21 B22 B23 B24 B25 B2l
  refine (C5.out _ _ ((F2.out.ext j5).ext (by go_grown)) ((((((HB.out.ext j1).ext j2).ext j3).ext j4).ext j5).ext (by go_grown))).mono ?_
  rintro e w6 ⟨p4, rfl, h4, hb6⟩
  have j6 : Below w5.heap.size w5 w6 := ext (by go_grown) hb6
  have g6 : Below w.heap.size w w6 := ext g5 j6
  have s6 := j6.size
  have t6 := g6.size
  obtain ⟨o4, q4, rfl⟩ := h4.shape
  have F4 : Hid (FrameV w6 (.agg #[.int .i64 W, .int .i64 H, .slice o4 l3.length q4]) W H l3) := Lib.hid ⟨_, rfl, HI.out, HJ.out, h4.ints⟩
  clear h4
  have B3 := Lib.hid ((Blk.new w5 #[.int .i64 W, .int .i64 H, .slice o3 l3.length q3] 24).ext hb6)
  obtain ⟨B10, B11, B12, B13, B14, B15⟩ := (((B1.out.ext j5).ext j6)).three
  have B1l := (((B1.out.ext j5).ext j6)).lt
  go_wp2_with fail
  clear B10 B11 B12 B13 B14 B15 B1l
  refine (C6.out _ _ ((((F1.out.ext j4).ext j5).ext j6).ext (by go_grown)) (((((((HB.out.ext j1).ext j2).ext j3).ext j4).ext j5).ext j6).ext (by go_grown))).mono ?_
  rintro e w7 ⟨p5, rfl, h5, hb7⟩
  have j7 : Below w6.heap.size w6 w7 := ext (by go_grown) hb7
  have g7 : Below w.heap.size w w7 := ext g6 j7
  have s7 := j7.size
  have t7 := g7.size
  obtain ⟨o5, q5, rfl⟩ := h5.shape
  have F5 : Hid (FrameV w7 (.agg #[.int .i64 W, .int .i64 H, .slice o5 l1.length q5]) W H l1) := Lib.hid ⟨_, rfl, HI.out, HJ.out, h5.ints⟩
  clear h5
  have B4 := Lib.hid ((Blk.new w6 #[.int .i64 W, .int .i64 H, .slice o4 l3.length q4] 24).ext hb7)
  go_wp2_with fail
  refine (first_any _ ((((((((HG.out.ext j1).ext j2).ext j3).ext j4).ext j5).ext j6).ext j7).ext (by go_grown))).mono ?_
  rintro e w8 ⟨rfl, hb8⟩
  have j8 : Below w7.heap.size w7 w8 := ext (by go_grown) hb8
  have g8 : Below w.heap.size w w8 := ext g7 j8
  have s8 := j8.size
  have t8 := g8.size
  have B5 := Lib.hid ((Blk.new w7 #[.int .i64 W, .int .i64 H, .slice o5 l1.length q5] 24).ext hb8)
  obtain ⟨B30, B31, B32, B33, B34, B35⟩ := (((B3.out.ext j7).ext j8)).three
  have B3l := (((B3.out.ext j7).ext j8)).lt
  obtain ⟨B40, B41, B42, B43, B44, B45⟩ := ((B4.out.ext j8)).three
  have B4l := ((B4.out.ext j8)).lt
  go_wp2_with fail
  clear B30 B31 B32 B33 B34 B35 B3l
  clear B40 B41 B42 B43 B44 B45 B4l
  refine (C7.out _ _ _ ((((F3.out.ext j6).ext j7).ext j8).ext (by go_grown)) (((F4.out.ext j7).ext j8).ext (by go_grown))).mono ?_
  rintro e w9 ⟨rfl, hb9⟩
  have j9 : Below w8.heap.size w8 w9 := ext (by go_grown) hb9
  have g9 : Below w.heap.size w w9 := ext g8 j9
  have s9 := j9.size
  have t9 := g9.size
  obtain ⟨B50, B51, B52, B53, B54, B55⟩ := ((B5.out.ext j9)).three
  have B5l := ((B5.out.ext j9)).lt
  obtain ⟨B10, B11, B12, B13, B14, B15⟩ := ((((((B1.out.ext j5).ext j6).ext j7).ext j8).ext j9)).three
  have B1l := ((((((B1.out.ext j5).ext j6).ext j7).ext j8).ext j9)).lt
  go_wp2_with fail
  clear B50 B51 B52 B53 B54 B55 B5l
  clear B10 B11 B12 B13 B14 B15 B1l
  refine (C8.out _ _ _ (((F5.out.ext j8).ext j9).ext (by go_grown)) (((((((F1.out.ext j4).ext j5).ext j6).ext j7).ext j8).ext j9).ext (by go_grown))).mono ?_
  rintro e w10 ⟨rfl, hb10⟩
  have j10 : Below w9.heap.size w9 w10 := ext (by go_grown) hb10
  have g10 : Below w.heap.size w w10 := ext g9 j10
  have s10 := j10.size
  have t10 := g10.size
  go_wp2
  all_goals go_returns
  all_goals exact ⟨by first | rfl | (simp; done) | (simp; omega), g10⟩

set_option maxRecDepth 100000 in
set_option maxHeartbeats 8000000 in
theorem two_o3 (v bv cv : Value) (W H x y u t n : Nat) (a b c : List Int) (w : World) (hv : FrameV w v W H a) (hb : Ints w bv b) (hc : Ints w cv c) (hg : TypeIs w) (h1 : a.length ≤ 5000) (k0 : b.length ≤ 5000) (k1 : c.length ≤ 5000) (x2 : x ≤ 32) (y2 : y ≤ 32) (u2 : u ≤ 32) (t2 : t ≤ 32) (f1 : Fit W H x y n a b) (f2 : Fit W H u t n a c) (o0 : u < x + n) (o1 : x < u + n) (o2 : t < y + n) (o3 : ¬ y < t + n) :
    Calls Tryd.prog 8 #[v, .int .i64 x, .int .i64 y, .int .i64 u, .int .i64 t, .int .i64 n, bv, cv] w fun e w' => e = .returned (.bool true) ∧ Below w.heap.size w w' := by
  have HG := Lib.hid hg
  have HV := Lib.hid hv
  have HB := Lib.hid hb
  have HC := Lib.hid hc
  have c1 := fun w hv => few_any v W H a w hv
  rw [show decide (a.length ≤ 5000) = true from by simp; omega] at c1
  have C1 := Lib.hid c1
  have C2 := Lib.hid (fun w hv hb => pput_ok v bv W H x y n a b w hv hb f1)
  have C3 := Lib.hid (fun w hv hc => pput_ok v cv W H u t n a c w hv hc f2)
  obtain ⟨W1, W2, H1, H2, -⟩ := f1.bd
  have W64 : in64 (W : Int) ∧ in64 (H : Int) := by unfold in64; omega
  have HI := Lib.hid W64.1
  have HJ := Lib.hid W64.2
  have n1 := f1.n1
  have n2 := f1.n2
  have C4 := Lib.hid (fun v w hv hc => pput_ok v cv W H u t n (layV W x y n b a) c w hv hc (f1.on f2))
  have c5 := fun v w hv hb => pput_ok v bv W H x y n (layV W u t n c a) b w hv hb (f2.on f1)
  rw [← lay_comm b c a (by omega)] at c5
  have C5 := Lib.hid c5
  have c6 := fun v w hv hb => pput_ok v bv W H x y n (layV W x y n b a) b w hv hb (f1.on f1)
  rw [lay_twice] at c6
  have C6 := Lib.hid c6
  have C7 := Lib.hid (fun v u' w hv hu => same_may v u' W H _ w (f1.on f2).lay hv hu)
  have C8 := Lib.hid (fun v u' w hv hu => same_may v u' W H _ w f1.lay hv hu)
  clear c5 c6
  obtain ⟨ao, cap, rfl, hp⟩ := hv.cells
  obtain ⟨bo, cap2, rfl⟩ := hb.shape
  obtain ⟨co, cap3, rfl⟩ := hc.shape
  have hla := hp.len
  have hlb := hb.len
  have hlc := hc.len
  have BA0 := Lib.hid (Blk.new w #[.int .i64 W, .int .i64 H, .slice ao a.length cap] 24)
  clear h1 f1 f2 W64 hv hg hp hb hc c1
  generalize layV W u t n c (layV W x y n b a) = l3 at *
  generalize layV W x y n b a = l1 at *
  generalize layV W u t n c a = l2 at *
  have d9 : decide ((y : Int) < (t : Int) + n) = false := by simp; omega
  go_enter Tryd.func8, Tryd.ntmps8
  have g0 : Below w.heap.size w w := Below.refl _ _
  go_wp2_with fail
  refine (first_any _ (HG.out.ext (by go_grown))).mono ?_
  rintro e w1 ⟨rfl, hb1⟩
  have j1 : Below w.heap.size w w1 := ext (by go_grown) hb1
  have g1 : Below w.heap.size w w1 := ext g0 j1
  have s1 := j1.size
  have t1 := g1.size
  have BA := Lib.hid (BA0.out.ext hb1)
  obtain ⟨BA0, BA1, BA2, BA3, BA4, BA5⟩ := (BA.out).three
  have BAl := (BA.out).lt
  go_wp2_with fail
  clear BA0 BA1 BA2 BA3 BA4 BA5 BAl
  refine (C1.out _ ((HV.out.ext j1).ext (by go_grown))).mono ?_
  rintro e w2 ⟨rfl, hb2⟩
  have j2 : Below w1.heap.size w1 w2 := ext (by go_grown) hb2
  have g2 : Below w.heap.size w w2 := ext g1 j2
  have s2 := j2.size
  have t2 := g2.size
  obtain ⟨BA0, BA1, BA2, BA3, BA4, BA5⟩ := ((BA.out.ext j2)).three
  have BAl := ((BA.out.ext j2)).lt
  go_wp2_with fail
  clear BA0 BA1 BA2 BA3 BA4 BA5 BAl
  refine (C2.out _ (((HV.out.ext j1).ext j2).ext (by go_grown)) (((HB.out.ext j1).ext j2).ext (by go_grown))).mono ?_
  rintro e w3 ⟨p1, rfl, h1, hb3⟩
  have j3 : Below w2.heap.size w2 w3 := ext (by go_grown) hb3
  have g3 : Below w.heap.size w w3 := ext g2 j3
  have s3 := j3.size
  have t3 := g3.size
  obtain ⟨o1, q1, rfl⟩ := h1.shape
  have F1 : Hid (FrameV w3 (.agg #[.int .i64 W, .int .i64 H, .slice o1 l1.length q1]) W H l1) := Lib.hid ⟨_, rfl, HI.out, HJ.out, h1.ints⟩
  clear h1
  obtain ⟨BA0, BA1, BA2, BA3, BA4, BA5⟩ := (((BA.out.ext j2).ext j3)).three
  have BAl := (((BA.out.ext j2).ext j3)).lt
  go_wp2_with fail
  clear BA0 BA1 BA2 BA3 BA4 BA5 BAl
  refine (C3.out _ ((((HV.out.ext j1).ext j2).ext j3).ext (by go_grown)) ((((HC.out.ext j1).ext j2).ext j3).ext (by go_grown))).mono ?_
  rintro e w4 ⟨p2, rfl, h2, hb4⟩
  have j4 : Below w3.heap.size w3 w4 := ext (by go_grown) hb4
  have g4 : Below w.heap.size w w4 := ext g3 j4
  have s4 := j4.size
  have t4 := g4.size
  obtain ⟨o2, q2, rfl⟩ := h2.shape
  have F2 : Hid (FrameV w4 (.agg #[.int .i64 W, .int .i64 H, .slice o2 l2.length q2]) W H l2) := Lib.hid ⟨_, rfl, HI.out, HJ.out, h2.ints⟩
  clear h2
  have B1 := Lib.hid ((Blk.new w3 #[.int .i64 W, .int .i64 H, .slice o1 l1.length q1] 24).ext hb4)
  obtain ⟨B10, B11, B12, B13, B14, B15⟩ := (B1.out).three
  have B1l := (B1.out).lt
  go_wp2_with fail
  clear B10 B11 B12 B13 B14 B15 B1l
  refine (C4.out _ _ ((F1.out.ext j4).ext (by go_grown)) (((((HC.out.ext j1).ext j2).ext j3).ext j4).ext (by go_grown))).mono ?_
  rintro e w5 ⟨p3, rfl, h3, hb5⟩
  have j5 : Below w4.heap.size w4 w5 := ext (by go_grown) hb5
  have g5 : Below w.heap.size w w5 := ext g4 j5
  have s5 := j5.size
  have t5 := g5.size
  obtain ⟨o3, q3, rfl⟩ := h3.shape
  have F3 : Hid (FrameV w5 (.agg #[.int .i64 W, .int .i64 H, .slice o3 l3.length q3]) W H l3) := Lib.hid ⟨_, rfl, HI.out, HJ.out, h3.ints⟩
  clear h3
  have B2 := Lib.hid ((Blk.new w4 #[.int .i64 W, .int .i64 H, .slice o2 l2.length q2] 24).ext hb5)
  obtain ⟨B20, B21, B22, B23, B24, B25⟩ := (B2.out).three
  have B2l := (B2.out).lt
  go_wp2_with fail
  clear B20 B21 B22 B23 B24 B25 B2l
  refine (C5.out _ _ ((F2.out.ext j5).ext (by go_grown)) ((((((HB.out.ext j1).ext j2).ext j3).ext j4).ext j5).ext (by go_grown))).mono ?_
  rintro e w6 ⟨p4, rfl, h4, hb6⟩
  have j6 : Below w5.heap.size w5 w6 := ext (by go_grown) hb6
  have g6 : Below w.heap.size w w6 := ext g5 j6
  have s6 := j6.size
  have t6 := g6.size
  obtain ⟨o4, q4, rfl⟩ := h4.shape
  have F4 : Hid (FrameV w6 (.agg #[.int .i64 W, .int .i64 H, .slice o4 l3.length q4]) W H l3) := Lib.hid ⟨_, rfl, HI.out, HJ.out, h4.ints⟩
  clear h4
  have B3 := Lib.hid ((Blk.new w5 #[.int .i64 W, .int .i64 H, .slice o3 l3.length q3] 24).ext hb6)
  obtain ⟨B10, B11, B12, B13, B14, B15⟩ := (((B1.out.ext j5).ext j6)).three
  have B1l := (((B1.out.ext j5).ext j6)).lt
  go_wp2_with fail
  clear B10 B11 B12 B13 B14 B15 B1l
  refine (C6.out _ _ ((((F1.out.ext j4).ext j5).ext j6).ext (by go_grown)) (((((((HB.out.ext j1).ext j2).ext j3).ext j4).ext j5).ext j6).ext (by go_grown))).mono ?_
  rintro e w7 ⟨p5, rfl, h5, hb7⟩
  have j7 : Below w6.heap.size w6 w7 := ext (by go_grown) hb7
  have g7 : Below w.heap.size w w7 := ext g6 j7
  have s7 := j7.size
  have t7 := g7.size
  obtain ⟨o5, q5, rfl⟩ := h5.shape
  have F5 : Hid (FrameV w7 (.agg #[.int .i64 W, .int .i64 H, .slice o5 l1.length q5]) W H l1) := Lib.hid ⟨_, rfl, HI.out, HJ.out, h5.ints⟩
  clear h5
  have B4 := Lib.hid ((Blk.new w6 #[.int .i64 W, .int .i64 H, .slice o4 l3.length q4] 24).ext hb7)
  go_wp2_with fail
  refine (first_any _ ((((((((HG.out.ext j1).ext j2).ext j3).ext j4).ext j5).ext j6).ext j7).ext (by go_grown))).mono ?_
  rintro e w8 ⟨rfl, hb8⟩
  have j8 : Below w7.heap.size w7 w8 := ext (by go_grown) hb8
  have g8 : Below w.heap.size w w8 := ext g7 j8
  have s8 := j8.size
  have t8 := g8.size
  have B5 := Lib.hid ((Blk.new w7 #[.int .i64 W, .int .i64 H, .slice o5 l1.length q5] 24).ext hb8)
  obtain ⟨B30, B31, B32, B33, B34, B35⟩ := (((B3.out.ext j7).ext j8)).three
  have B3l := (((B3.out.ext j7).ext j8)).lt
  obtain ⟨B40, B41, B42, B43, B44, B45⟩ := ((B4.out.ext j8)).three
  have B4l := ((B4.out.ext j8)).lt
  go_wp2_with fail
  clear B30 B31 B32 B33 B34 B35 B3l
  clear B40 B41 B42 B43 B44 B45 B4l
  refine (C7.out _ _ _ ((((F3.out.ext j6).ext j7).ext j8).ext (by go_grown)) (((F4.out.ext j7).ext j8).ext (by go_grown))).mono ?_
  rintro e w9 ⟨rfl, hb9⟩
  have j9 : Below w8.heap.size w8 w9 := ext (by go_grown) hb9
  have g9 : Below w.heap.size w w9 := ext g8 j9
  have s9 := j9.size
  have t9 := g9.size
  obtain ⟨B50, B51, B52, B53, B54, B55⟩ := ((B5.out.ext j9)).three
  have B5l := ((B5.out.ext j9)).lt
  obtain ⟨B10, B11, B12, B13, B14, B15⟩ := ((((((B1.out.ext j5).ext j6).ext j7).ext j8).ext j9)).three
  have B1l := ((((((B1.out.ext j5).ext j6).ext j7).ext j8).ext j9)).lt
  go_wp2_with fail
  clear B50 B51 B52 B53 B54 B55 B5l
  clear B10 B11 B12 B13 B14 B15 B1l
  refine (C8.out _ _ _ (((F5.out.ext j8).ext j9).ext (by go_grown)) (((((((F1.out.ext j4).ext j5).ext j6).ext j7).ext j8).ext j9).ext (by go_grown))).mono ?_
  rintro e w10 ⟨rfl, hb10⟩
  have j10 : Below w9.heap.size w9 w10 := ext (by go_grown) hb10
  have g10 : Below w.heap.size w w10 := ext g9 j10
  have s10 := j10.size
  have t10 := g10.size
  go_wp2
  all_goals go_returns
  all_goals exact ⟨by first | rfl | (simp; done) | (simp; omega), g10⟩

set_option maxRecDepth 100000 in
set_option maxHeartbeats 8000000 in
theorem two_o4 (v bv cv : Value) (W H x y u t n : Nat) (a b c : List Int) (w : World) (hv : FrameV w v W H a) (hb : Ints w bv b) (hc : Ints w cv c) (hg : TypeIs w) (h1 : a.length ≤ 5000) (k0 : b.length ≤ 5000) (k1 : c.length ≤ 5000) (x2 : x ≤ 32) (y2 : y ≤ 32) (u2 : u ≤ 32) (t2 : t ≤ 32) (f1 : Fit W H x y n a b) (f2 : Fit W H u t n a c) (o0 : u < x + n) (o1 : x < u + n) (o2 : t < y + n) (o3 : y < t + n) :
    Calls Tryd.prog 8 #[v, .int .i64 x, .int .i64 y, .int .i64 u, .int .i64 t, .int .i64 n, bv, cv] w fun e w' => e = .returned (.bool true) ∧ Below w.heap.size w w' := by
  have HG := Lib.hid hg
  have HV := Lib.hid hv
  have HB := Lib.hid hb
  have HC := Lib.hid hc
  have c1 := fun w hv => few_any v W H a w hv
  rw [show decide (a.length ≤ 5000) = true from by simp; omega] at c1
  have C1 := Lib.hid c1
  have C2 := Lib.hid (fun w hv hb => pput_ok v bv W H x y n a b w hv hb f1)
  have C3 := Lib.hid (fun w hv hc => pput_ok v cv W H u t n a c w hv hc f2)
  obtain ⟨W1, W2, H1, H2, -⟩ := f1.bd
  have W64 : in64 (W : Int) ∧ in64 (H : Int) := by unfold in64; omega
  have HI := Lib.hid W64.1
  have HJ := Lib.hid W64.2
  have n1 := f1.n1
  have n2 := f1.n2
  obtain ⟨ao, cap, rfl, hp⟩ := hv.cells
  obtain ⟨bo, cap2, rfl⟩ := hb.shape
  obtain ⟨co, cap3, rfl⟩ := hc.shape
  have hla := hp.len
  have hlb := hb.len
  have hlc := hc.len
  have BA0 := Lib.hid (Blk.new w #[.int .i64 W, .int .i64 H, .slice ao a.length cap] 24)
  clear h1 f1 f2 W64 hv hg hp hb hc c1
  generalize layV W x y n b a = l1 at *
  generalize layV W u t n c a = l2 at *
  have d9 : decide ((y : Int) < (t : Int) + n) = true := by simp; omega
  go_enter Tryd.func8, Tryd.ntmps8
  have g0 : Below w.heap.size w w := Below.refl _ _
  go_wp2_with fail
  refine (first_any _ (HG.out.ext (by go_grown))).mono ?_
  rintro e w1 ⟨rfl, hb1⟩
  have j1 : Below w.heap.size w w1 := ext (by go_grown) hb1
  have g1 : Below w.heap.size w w1 := ext g0 j1
  have s1 := j1.size
  have t1 := g1.size
  have BA := Lib.hid (BA0.out.ext hb1)
  obtain ⟨BA0, BA1, BA2, BA3, BA4, BA5⟩ := (BA.out).three
  have BAl := (BA.out).lt
  go_wp2_with fail
  clear BA0 BA1 BA2 BA3 BA4 BA5 BAl
  refine (C1.out _ ((HV.out.ext j1).ext (by go_grown))).mono ?_
  rintro e w2 ⟨rfl, hb2⟩
  have j2 : Below w1.heap.size w1 w2 := ext (by go_grown) hb2
  have g2 : Below w.heap.size w w2 := ext g1 j2
  have s2 := j2.size
  have t2 := g2.size
  obtain ⟨BA0, BA1, BA2, BA3, BA4, BA5⟩ := ((BA.out.ext j2)).three
  have BAl := ((BA.out.ext j2)).lt
  go_wp2_with fail
  clear BA0 BA1 BA2 BA3 BA4 BA5 BAl
  refine (C2.out _ (((HV.out.ext j1).ext j2).ext (by go_grown)) (((HB.out.ext j1).ext j2).ext (by go_grown))).mono ?_
  rintro e w3 ⟨p1, rfl, h1, hb3⟩
  have j3 : Below w2.heap.size w2 w3 := ext (by go_grown) hb3
  have g3 : Below w.heap.size w w3 := ext g2 j3
  have s3 := j3.size
  have t3 := g3.size
  obtain ⟨o1, q1, rfl⟩ := h1.shape
  have F1 : Hid (FrameV w3 (.agg #[.int .i64 W, .int .i64 H, .slice o1 l1.length q1]) W H l1) := Lib.hid ⟨_, rfl, HI.out, HJ.out, h1.ints⟩
  clear h1
  obtain ⟨BA0, BA1, BA2, BA3, BA4, BA5⟩ := (((BA.out.ext j2).ext j3)).three
  have BAl := (((BA.out.ext j2).ext j3)).lt
  go_wp2_with fail
  clear BA0 BA1 BA2 BA3 BA4 BA5 BAl
  refine (C3.out _ ((((HV.out.ext j1).ext j2).ext j3).ext (by go_grown)) ((((HC.out.ext j1).ext j2).ext j3).ext (by go_grown))).mono ?_
  rintro e w4 ⟨p2, rfl, h2, hb4⟩
  have j4 : Below w3.heap.size w3 w4 := ext (by go_grown) hb4
  have g4 : Below w.heap.size w w4 := ext g3 j4
  have s4 := j4.size
  have t4 := g4.size
  obtain ⟨o2, q2, rfl⟩ := h2.shape
  have F2 : Hid (FrameV w4 (.agg #[.int .i64 W, .int .i64 H, .slice o2 l2.length q2]) W H l2) := Lib.hid ⟨_, rfl, HI.out, HJ.out, h2.ints⟩
  clear h2
  have B1 := Lib.hid ((Blk.new w3 #[.int .i64 W, .int .i64 H, .slice o1 l1.length q1] 24).ext hb4)
  go_wp2_with fail
  refine (first_any _ (((((HG.out.ext j1).ext j2).ext j3).ext j4).ext (by go_grown))).mono ?_
  rintro e w5 ⟨rfl, hb5⟩
  have j5 : Below w4.heap.size w4 w5 := ext (by go_grown) hb5
  have g5 : Below w.heap.size w w5 := ext g4 j5
  have s5 := j5.size
  have t5 := g5.size
  go_wp2
  all_goals go_returns
  all_goals exact ⟨by first | rfl | (simp; done) | (simp; omega), g5⟩

theorem two_walk (v bv cv : Value) (W H x y u t n : Int) (a b c : List Int) (w : World) (hv : FrameV w v W H a) (hb : Ints w bv b) (hc : Ints w cv c) (hg : TypeIs w) :
    Calls Tryd.prog 8 #[v, .int .i64 x, .int .i64 y, .int .i64 u, .int .i64 t, .int .i64 n, bv, cv] w fun e w' => e = .returned (.bool true) ∧ Below w.heap.size w w' := by
  rcases Nat.lt_or_ge 5000 a.length with h1 | h1
  · exact two_w v bv cv W H x y u t n a b c w hv hb hc hg h1
  by_cases k0 : 5000 < b.length
  · exact two_w0 v bv cv W H x y u t n a b c w hv hb hc hg h1 k0
  replace k0 : b.length ≤ 5000 := by omega
  by_cases k1 : 5000 < c.length
  · exact two_w1 v bv cv W H x y u t n a b c w hv hb hc hg h1 k0 k1
  replace k1 : c.length ≤ 5000 := by omega
  by_cases k2 : n < 1
  · exact two_w2 v bv cv W H x y u t n a b c w hv hb hc hg h1 k0 k1 k2
  replace k2 : 1 ≤ n := by omega
  by_cases k3 : 8 < n
  · exact two_w3 v bv cv W H x y u t n a b c w hv hb hc hg h1 k0 k1 k2 k3
  replace k3 : n ≤ 8 := by omega
  by_cases k4 : x < 0
  · exact two_w4 v bv cv W H x y u t n a b c w hv hb hc hg h1 k0 k1 k2 k3 k4
  replace k4 : 0 ≤ x := by omega
  by_cases k5 : y < 0
  · exact two_w5 v bv cv W H x y u t n a b c w hv hb hc hg h1 k0 k1 k2 k3 k4 k5
  replace k5 : 0 ≤ y := by omega
  by_cases k6 : u < 0
  · exact two_w6 v bv cv W H x y u t n a b c w hv hb hc hg h1 k0 k1 k2 k3 k4 k5 k6
  replace k6 : 0 ≤ u := by omega
  by_cases k7 : t < 0
  · exact two_w7 v bv cv W H x y u t n a b c w hv hb hc hg h1 k0 k1 k2 k3 k4 k5 k6 k7
  replace k7 : 0 ≤ t := by omega
  by_cases k8 : 32 < x
  · exact two_w8 v bv cv W H x y u t n a b c w hv hb hc hg h1 k0 k1 k2 k3 k4 k5 k6 k7 k8
  replace k8 : x ≤ 32 := by omega
  by_cases k9 : 32 < y
  · exact two_w9 v bv cv W H x y u t n a b c w hv hb hc hg h1 k0 k1 k2 k3 k4 k5 k6 k7 k8 k9
  replace k9 : y ≤ 32 := by omega
  by_cases k10 : 32 < u
  · exact two_w10 v bv cv W H x y u t n a b c w hv hb hc hg h1 k0 k1 k2 k3 k4 k5 k6 k7 k8 k9 k10
  replace k10 : u ≤ 32 := by omega
  by_cases k11 : 32 < t
  · exact two_w11 v bv cv W H x y u t n a b c w hv hb hc hg h1 k0 k1 k2 k3 k4 k5 k6 k7 k8 k9 k10 k11
  replace k11 : t ≤ 32 := by omega
  by_cases e1 : putE W H a x y n b = 0
  · by_cases e2 : putE W H a u t n c = 0
    · obtain ⟨W', H', x', y', n', rfl, rfl, rfl, rfl, rfl⟩ := put_nat e1
      obtain ⟨_, _, u', t', _, -, -, rfl, rfl, -⟩ := put_nat e2
      have f1 := fit_iff.1 e1
      have f2 := fit_iff.1 e2
      by_cases o0 : u' < x' + n'
      rotate_left
      · exact two_o0 v bv cv W' H' x' y' u' t' n' a b c w hv hb hc hg h1 k0 k1 (by omega) (by omega) (by omega) (by omega) f1 f2 o0
      by_cases o1 : x' < u' + n'
      rotate_left
      · exact two_o1 v bv cv W' H' x' y' u' t' n' a b c w hv hb hc hg h1 k0 k1 (by omega) (by omega) (by omega) (by omega) f1 f2 o0 o1
      by_cases o2 : t' < y' + n'
      rotate_left
      · exact two_o2 v bv cv W' H' x' y' u' t' n' a b c w hv hb hc hg h1 k0 k1 (by omega) (by omega) (by omega) (by omega) f1 f2 o0 o1 o2
      by_cases o3 : y' < t' + n'
      rotate_left
      · exact two_o3 v bv cv W' H' x' y' u' t' n' a b c w hv hb hc hg h1 k0 k1 (by omega) (by omega) (by omega) (by omega) f1 f2 o0 o1 o2 o3
      exact two_o4 v bv cv W' H' x' y' u' t' n' a b c w hv hb hc hg h1 k0 k1 (by omega) (by omega) (by omega) (by omega) f1 f2 o0 o1 o2 o3
    · exact two_n1 v bv cv W H x y u t n a b c w hv hb hc hg h1 k0 k1 k2 k3 k4 k5 k6 k7 k8 k9 k10 k11 e1 e2
  · exact two_n0 v bv cv W H x y u t n a b c w hv hb hc hg h1 k0 k1 k2 k3 k4 k5 k6 k7 k8 k9 k10 k11 e1
end Go.Proofs.YtlpifjnjddgfaaaDoor
