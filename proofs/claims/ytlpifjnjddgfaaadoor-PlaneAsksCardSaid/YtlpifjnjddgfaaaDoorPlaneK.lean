/- kinlaw6.PlaneAsks: the walk. -/
import Derived.Test.YtlpifjnjddgfaaaDoorPlaneF
set_option linter.unusedSimpArgs false
set_option linter.unusedVariables false
namespace Go.Proofs.YtlpifjnjddgfaaaDoor
open Go.RowKit Go.Extern.Stop Go.Stop Go.Extern

structure StandA (W H : Int) (a : List Int) (W2 H2 : Int) (b : List Int) (ao : Option Addr) (cap : Nat) (bo : Option Addr) (cap2 : Nat) (n e1 e2 : Nat) (k : Int) (w : World) : Prop where
  ty : TypeIs w
  fv : FrameV w (.agg #[.int .i64 W, .int .i64 H, .slice ao a.length cap]) W H a
  fu : FrameV w (.agg #[.int .i64 W2, .int .i64 H2, .slice bo b.length cap2]) W2 H2 b
  ba : Blk w n #[.int .i64 W, .int .i64 H, .slice ao a.length cap] 24
  bb : Blk w (n + 1) #[.int .i64 W2, .int .i64 H2, .slice bo b.length cap2] 24
  ea : Blk w e1 #[.int .i64 k, .slice none 0 0] 34
  eb : Blk w e2 #[.int .i64 k, .slice none 0 0] 34
theorem StandA.ext {W H : Int} {a : List Int} {W2 H2 : Int} {b : List Int} {ao : Option Addr} {cap : Nat} {bo : Option Addr} {cap2 : Nat} {n e1 e2 : Nat} {k : Int} {w w' : World} (h : StandA W H a W2 H2 b ao cap bo cap2 n e1 e2 k w) (hb : Below w.heap.size w w') : StandA W H a W2 H2 b ao cap bo cap2 n e1 e2 k w' :=
  ⟨h.ty.ext hb, h.fv.ext hb, h.fu.ext hb, h.ba.ext hb, h.bb.ext hb, h.ea.ext hb, h.eb.ext hb⟩
theorem StandA.cells {W H : Int} {a : List Int} {W2 H2 : Int} {b : List Int} {ao : Option Addr} {cap : Nat} {bo : Option Addr} {cap2 : Nat} {n e1 e2 : Nat} {k : Int} {w : World} (h : StandA W H a W2 H2 b ao cap bo cap2 n e1 e2 k w) :
    w.cell? ⟨n, 0, none⟩ = some (.int .i64 W) ∧ w.cell? ⟨n, 1, none⟩ = some (.int .i64 H) ∧ w.cell? ⟨n, 2, none⟩ = some (.slice ao a.length cap) ∧ w.cell? ⟨n + 1, 0, none⟩ = some (.int .i64 W2) ∧ w.cell? ⟨n + 1, 1, none⟩ = some (.int .i64 H2) ∧ w.cell? ⟨n + 1, 2, none⟩ = some (.slice bo b.length cap2) ∧
    w.cell? ⟨e1, 0, none⟩ = some (.int .i64 k) ∧ w.cell? ⟨e1, 1, none⟩ = some (.slice none 0 0) ∧ w.cell? ⟨e2, 0, none⟩ = some (.int .i64 k) ∧ w.cell? ⟨e2, 1, none⟩ = some (.slice none 0 0) :=
  ⟨h.ba.cell 0, h.ba.cell 1, h.ba.cell 2, h.bb.cell 0, h.bb.cell 1, h.bb.cell 2, h.ea.cell 0, h.ea.cell 1, h.eb.cell 0, h.eb.cell 1⟩

set_option maxRecDepth 100000 in
set_option maxHeartbeats 8000000 in
theorem asks_long0 (v u : Value) (W H : Int) (a : List Int) (W2 H2 : Int) (b : List Int) (x y : Int) (w : World) (hv : FrameV w v W H a) (hu : FrameV w u W2 H2 b) (hg : TypeIs w) (h1 : 5000 < a.length) :
    Calls Tryd.prog 6 #[v, u, .int .i64 x, .int .i64 y] w fun e w' => e = .returned (.bool true) ∧ Below w.heap.size w w' := by
  have HG := Lib.hid hg
  have HV := Lib.hid hv
  have HU := Lib.hid hu
  have c1 := fun w hv => few_any v W H a w hv
  have c2 := fun w hu => few_any u W2 H2 b w hu
  rw [show decide (a.length ≤ 5000) = false from by simp; omega] at c1
  have C1 := Lib.hid c1
  have C2 := Lib.hid c2
  obtain ⟨ao, cap, rfl, hp⟩ := hv.cells
  obtain ⟨bo, cap2, rfl, hq⟩ := hu.cells
  have hla := hp.len
  have hlb := hq.len
  have BA0 := Lib.hid ((Blk.new w #[.int .i64 W, .int .i64 H, .slice ao a.length cap] 24).alloc (.cells #[.int .i64 W2, .int .i64 H2, .slice bo b.length cap2] 24))
  have BB0 := Lib.hid (Blk.new (w.alloc (.cells #[.int .i64 W, .int .i64 H, .slice ao a.length cap] 24)) #[.int .i64 W2, .int .i64 H2, .slice bo b.length cap2] 24)
  simp only [World.size_alloc] at BB0
  clear hv hu hg hp hq c1 c2 h1
  go_enter Tryd.func6, Tryd.ntmps6
  have g0 : Below w.heap.size w w := Below.refl _ _
  go_wp2_with fail
  refine (first_any _ (HG.out.ext (by go_grown))).mono ?_
  rintro e w1 ⟨rfl, hb1⟩
  have j1 : Below w.heap.size w w1 := ext (by go_grown) hb1
  have g1 : Below w.heap.size w w1 := ext g0 j1
  have s1 := j1.size
  have t1 := g1.size
  have BA := Lib.hid (BA0.out.ext hb1)
  have BB := Lib.hid (BB0.out.ext hb1)
  obtain ⟨BA0, BA1, BA2, BA3, BA4, BA5⟩ := (BA.out).three
  have BAl := (BA.out).lt
  go_wp2_with fail
  clear BA0 BA1 BA2 BA3 BA4 BA5 BAl
  refine (C1.out _ ((HV.out.ext j1).ext (by go_grown))).mono ?_
  rintro e w2 ⟨rfl, hb2⟩
  have j2 : Below w1.heap.size w1 w2 := ext (by go_grown) hb2
  have g2 : Below w.heap.size w w2 := ext g1 j2
  have s2 := j2.size
  have t2 := g2.size
  go_wp2_with fail
  refine (first_any _ (((HG.out.ext j1).ext j2).ext (by go_grown))).mono ?_
  rintro e w3 ⟨rfl, hb3⟩
  have j3 : Below w2.heap.size w2 w3 := ext (by go_grown) hb3
  have g3 : Below w.heap.size w w3 := ext g2 j3
  have s3 := j3.size
  have t3 := g3.size
  go_wp2
  all_goals go_returns
  all_goals exact ⟨by first | rfl | (simp; done) | (simp; omega), g3⟩

set_option maxRecDepth 100000 in
set_option maxHeartbeats 8000000 in
theorem asks_long1 (v u : Value) (W H : Int) (a : List Int) (W2 H2 : Int) (b : List Int) (x y : Int) (w : World) (hv : FrameV w v W H a) (hu : FrameV w u W2 H2 b) (hg : TypeIs w) (h1 : a.length ≤ 5000) (h2 : 5000 < b.length) :
    Calls Tryd.prog 6 #[v, u, .int .i64 x, .int .i64 y] w fun e w' => e = .returned (.bool true) ∧ Below w.heap.size w w' := by
  have HG := Lib.hid hg
  have HV := Lib.hid hv
  have HU := Lib.hid hu
  have c1 := fun w hv => few_any v W H a w hv
  have c2 := fun w hu => few_any u W2 H2 b w hu
  rw [show decide (a.length ≤ 5000) = true from by simp; omega] at c1
  rw [show decide (b.length ≤ 5000) = false from by simp; omega] at c2
  have C1 := Lib.hid c1
  have C2 := Lib.hid c2
  obtain ⟨ao, cap, rfl, hp⟩ := hv.cells
  obtain ⟨bo, cap2, rfl, hq⟩ := hu.cells
  have hla := hp.len
  have hlb := hq.len
  have BA0 := Lib.hid ((Blk.new w #[.int .i64 W, .int .i64 H, .slice ao a.length cap] 24).alloc (.cells #[.int .i64 W2, .int .i64 H2, .slice bo b.length cap2] 24))
  have BB0 := Lib.hid (Blk.new (w.alloc (.cells #[.int .i64 W, .int .i64 H, .slice ao a.length cap] 24)) #[.int .i64 W2, .int .i64 H2, .slice bo b.length cap2] 24)
  simp only [World.size_alloc] at BB0
  clear hv hu hg hp hq c1 c2 h1 h2
  go_enter Tryd.func6, Tryd.ntmps6
  have g0 : Below w.heap.size w w := Below.refl _ _
  go_wp2_with fail
  refine (first_any _ (HG.out.ext (by go_grown))).mono ?_
  rintro e w1 ⟨rfl, hb1⟩
  have j1 : Below w.heap.size w w1 := ext (by go_grown) hb1
  have g1 : Below w.heap.size w w1 := ext g0 j1
  have s1 := j1.size
  have t1 := g1.size
  have BA := Lib.hid (BA0.out.ext hb1)
  have BB := Lib.hid (BB0.out.ext hb1)
  obtain ⟨BA0, BA1, BA2, BA3, BA4, BA5⟩ := (BA.out).three
  have BAl := (BA.out).lt
  go_wp2_with fail
  clear BA0 BA1 BA2 BA3 BA4 BA5 BAl
  refine (C1.out _ ((HV.out.ext j1).ext (by go_grown))).mono ?_
  rintro e w2 ⟨rfl, hb2⟩
  have j2 : Below w1.heap.size w1 w2 := ext (by go_grown) hb2
  have g2 : Below w.heap.size w w2 := ext g1 j2
  have s2 := j2.size
  have t2 := g2.size
  obtain ⟨BB0, BB1, BB2, BB3, BB4, BB5⟩ := ((BB.out.ext j2)).three
  have BBl := ((BB.out.ext j2)).lt
  go_wp2_with fail
  clear BB0 BB1 BB2 BB3 BB4 BB5 BBl
  refine (C2.out _ (((HU.out.ext j1).ext j2).ext (by go_grown))).mono ?_
  rintro e w3 ⟨rfl, hb3⟩
  have j3 : Below w2.heap.size w2 w3 := ext (by go_grown) hb3
  have g3 : Below w.heap.size w w3 := ext g2 j3
  have s3 := j3.size
  have t3 := g3.size
  go_wp2_with fail
  refine (first_any _ ((((HG.out.ext j1).ext j2).ext j3).ext (by go_grown))).mono ?_
  rintro e w4 ⟨rfl, hb4⟩
  have j4 : Below w3.heap.size w3 w4 := ext (by go_grown) hb4
  have g4 : Below w.heap.size w w4 := ext g3 j4
  have s4 := j4.size
  have t4 := g4.size
  go_wp2
  all_goals go_returns
  all_goals exact ⟨by first | rfl | (simp; done) | (simp; omega), g4⟩

set_option maxRecDepth 100000 in
set_option maxHeartbeats 8000000 in
theorem asks_in (v u : Value) (W H : Int) (a : List Int) (W2 H2 : Int) (b : List Int) (x y : Int) (w : World) (hv : FrameV w v W H a) (hu : FrameV w u W2 H2 b) (hg : TypeIs w) (h1 : a.length ≤ 5000) (h2 : b.length ≤ 5000) :
    Calls Tryd.prog 6 #[v, u, .int .i64 x, .int .i64 y] w fun e w' => e = .returned (.bool true) ∧ Below w.heap.size w w' := by
  have HG := Lib.hid hg
  have HV := Lib.hid hv
  have HU := Lib.hid hu
  have c1 := fun w hv => few_any v W H a w hv
  have c2 := fun w hu => few_any u W2 H2 b w hu
  rw [show decide (a.length ≤ 5000) = true from by simp; omega] at c1
  rw [show decide (b.length ≤ 5000) = true from by simp; omega] at c2
  have C1 := Lib.hid c1
  have C2 := Lib.hid c2
  have C3 := Lib.hid (fun w hv hu => ppeak_any v u W H a W2 H2 b w hv hu)
  have C4 := Lib.hid (fun w hv hu => rpeak_any v u W H a W2 H2 b w hv hu)
  have C5 := Lib.hid (fun w hv hu => psum_any v u W H a W2 H2 b w hv hu)
  have C6 := Lib.hid (fun w hv hu => rsum_any v u W H a W2 H2 b w hv hu)
  have C7 := Lib.hid (fun w hv => rmay_any v W H a w hv)
  have C8 := Lib.hid (fun w hu => rmay_any u W2 H2 b w hu)
  have C9 := Lib.hid (fun w hv hu => rframe_any v u W H a W2 H2 b w hv hu)
  have CA := Lib.hid (fun w hv => pAt_any v W H a x y w hv)
  have CB := Lib.hid (fun w hv => rAt_any v W H a x y w hv)
  have CC := Lib.hid (fun w hv hu => psame_any v u W H a W2 H2 b w hv hu)
  obtain ⟨ao, cap, rfl, hp⟩ := hv.cells
  obtain ⟨bo, cap2, rfl, hq⟩ := hu.cells
  have hla := hp.len
  have hlb := hq.len
  have BA0 := Lib.hid ((Blk.new w #[.int .i64 W, .int .i64 H, .slice ao a.length cap] 24).alloc (.cells #[.int .i64 W2, .int .i64 H2, .slice bo b.length cap2] 24))
  have BB0 := Lib.hid (Blk.new (w.alloc (.cells #[.int .i64 W, .int .i64 H, .slice ao a.length cap] 24)) #[.int .i64 W2, .int .i64 H2, .slice bo b.length cap2] 24)
  simp only [World.size_alloc] at BB0
  clear hv hu hg hp hq c1 c2 h1 h2
  generalize okI (fbothE W H a W2 H2 b) (peakTo a b a.length) = pk at *
  generalize okI (fbothE W H a W2 H2 b) (sadV a b) = sm at *
  generalize fbothE W H a W2 H2 b = k0 at *
  generalize (decide (W = W2) && (decide (H = H2) && decide (a = b))) = al at *
  generalize (if mayB W H a then atV W H a x y else 0) = av at *
  generalize mayB W H a = m1 at *
  generalize mayB W2 H2 b = m2 at *
  go_enter Tryd.func6, Tryd.ntmps6
  have g0 : Below w.heap.size w w := Below.refl _ _
  go_wp2_with fail
  refine (first_any _ (HG.out.ext (by go_grown))).mono ?_
  rintro e w1 ⟨rfl, hb1⟩
  have j1 : Below w.heap.size w w1 := ext (by go_grown) hb1
  have g1 : Below w.heap.size w w1 := ext g0 j1
  have s1 := j1.size
  have t1 := g1.size
  have BA := Lib.hid (BA0.out.ext hb1)
  have BB := Lib.hid (BB0.out.ext hb1)
  obtain ⟨BA0, BA1, BA2, BA3, BA4, BA5⟩ := (BA.out).three
  have BAl := (BA.out).lt
  go_wp2_with fail
  clear BA0 BA1 BA2 BA3 BA4 BA5 BAl
  refine (C1.out _ ((HV.out.ext j1).ext (by go_grown))).mono ?_
  rintro e w2 ⟨rfl, hb2⟩
  have j2 : Below w1.heap.size w1 w2 := ext (by go_grown) hb2
  have g2 : Below w.heap.size w w2 := ext g1 j2
  have s2 := j2.size
  have t2 := g2.size
  obtain ⟨BB0, BB1, BB2, BB3, BB4, BB5⟩ := ((BB.out.ext j2)).three
  have BBl := ((BB.out.ext j2)).lt
  go_wp2_with fail
  clear BB0 BB1 BB2 BB3 BB4 BB5 BBl
  refine (C2.out _ (((HU.out.ext j1).ext j2).ext (by go_grown))).mono ?_
  rintro e w3 ⟨rfl, hb3⟩
  have j3 : Below w2.heap.size w2 w3 := ext (by go_grown) hb3
  have g3 : Below w.heap.size w w3 := ext g2 j3
  have s3 := j3.size
  have t3 := g3.size
  obtain ⟨BA0, BA1, BA2, BA3, BA4, BA5⟩ := (((BA.out.ext j2).ext j3)).three
  have BAl := (((BA.out.ext j2).ext j3)).lt
  obtain ⟨BB0, BB1, BB2, BB3, BB4, BB5⟩ := (((BB.out.ext j2).ext j3)).three
  have BBl := (((BB.out.ext j2).ext j3)).lt
  go_wp2_with fail
  clear BA0 BA1 BA2 BA3 BA4 BA5 BAl
  clear BB0 BB1 BB2 BB3 BB4 BB5 BBl
  refine (C3.out _ ((((HV.out.ext j1).ext j2).ext j3).ext (by go_grown)) ((((HU.out.ext j1).ext j2).ext j3).ext (by go_grown))).mono ?_
  rintro e w4 ⟨rfl, hb4⟩
  have j4 : Below w3.heap.size w3 w4 := ext (by go_grown) hb4
  have g4 : Below w.heap.size w w4 := ext g3 j4
  have s4 := j4.size
  have t4 := g4.size
  obtain ⟨BA0, BA1, BA2, BA3, BA4, BA5⟩ := ((((BA.out.ext j2).ext j3).ext j4)).three
  have BAl := ((((BA.out.ext j2).ext j3).ext j4)).lt
  obtain ⟨BB0, BB1, BB2, BB3, BB4, BB5⟩ := ((((BB.out.ext j2).ext j3).ext j4)).three
  have BBl := ((((BB.out.ext j2).ext j3).ext j4)).lt
  go_wp2_with fail
  clear BA0 BA1 BA2 BA3 BA4 BA5 BAl
  clear BB0 BB1 BB2 BB3 BB4 BB5 BBl
  refine (C4.out _ (((((HV.out.ext j1).ext j2).ext j3).ext j4).ext (by go_grown)) (((((HU.out.ext j1).ext j2).ext j3).ext j4).ext (by go_grown))).mono ?_
  rintro e w5 ⟨rfl, hb5⟩
  have j5 : Below w4.heap.size w4 w5 := ext (by go_grown) hb5
  have g5 : Below w.heap.size w w5 := ext g4 j5
  have s5 := j5.size
  have t5 := g5.size
  obtain ⟨BA0, BA1, BA2, BA3, BA4, BA5⟩ := (((((BA.out.ext j2).ext j3).ext j4).ext j5)).three
  have BAl := (((((BA.out.ext j2).ext j3).ext j4).ext j5)).lt
  obtain ⟨BB0, BB1, BB2, BB3, BB4, BB5⟩ := (((((BB.out.ext j2).ext j3).ext j4).ext j5)).three
  have BBl := (((((BB.out.ext j2).ext j3).ext j4).ext j5)).lt
  go_wp2_with fail
  clear BA0 BA1 BA2 BA3 BA4 BA5 BAl
  clear BB0 BB1 BB2 BB3 BB4 BB5 BBl
  refine (C5.out _ ((((((HV.out.ext j1).ext j2).ext j3).ext j4).ext j5).ext (by go_grown)) ((((((HU.out.ext j1).ext j2).ext j3).ext j4).ext j5).ext (by go_grown))).mono ?_
  rintro e w6 ⟨rfl, hb6⟩
  have j6 : Below w5.heap.size w5 w6 := ext (by go_grown) hb6
  have g6 : Below w.heap.size w w6 := ext g5 j6
  have s6 := j6.size
  have t6 := g6.size
  have EF := Lib.hid ((Blk.new w5 #[.int .i64 (k0), .slice none 0 0] 34).ext hb6)
  obtain ⟨BA0, BA1, BA2, BA3, BA4, BA5⟩ := ((((((BA.out.ext j2).ext j3).ext j4).ext j5).ext j6)).three
  have BAl := ((((((BA.out.ext j2).ext j3).ext j4).ext j5).ext j6)).lt
  obtain ⟨BB0, BB1, BB2, BB3, BB4, BB5⟩ := ((((((BB.out.ext j2).ext j3).ext j4).ext j5).ext j6)).three
  have BBl := ((((((BB.out.ext j2).ext j3).ext j4).ext j5).ext j6)).lt
  go_wp2_with fail
  clear BA0 BA1 BA2 BA3 BA4 BA5 BAl
  clear BB0 BB1 BB2 BB3 BB4 BB5 BBl
  refine (C6.out _ (((((((HV.out.ext j1).ext j2).ext j3).ext j4).ext j5).ext j6).ext (by go_grown)) (((((((HU.out.ext j1).ext j2).ext j3).ext j4).ext j5).ext j6).ext (by go_grown))).mono ?_
  rintro e w7 ⟨rfl, hb7⟩
  have j7 : Below w6.heap.size w6 w7 := ext (by go_grown) hb7
  have g7 : Below w.heap.size w w7 := ext g6 j7
  have s7 := j7.size
  have t7 := g7.size
  obtain ⟨BA0, BA1, BA2, BA3, BA4, BA5⟩ := (((((((BA.out.ext j2).ext j3).ext j4).ext j5).ext j6).ext j7)).three
  have BAl := (((((((BA.out.ext j2).ext j3).ext j4).ext j5).ext j6).ext j7)).lt
  go_wp2_with fail
  clear BA0 BA1 BA2 BA3 BA4 BA5 BAl
  refine (C7.out _ ((((((((HV.out.ext j1).ext j2).ext j3).ext j4).ext j5).ext j6).ext j7).ext (by go_grown))).mono ?_
  rintro e w8 ⟨rfl, hb8⟩
  have j8 : Below w7.heap.size w7 w8 := ext (by go_grown) hb8
  have g8 : Below w.heap.size w w8 := ext g7 j8
  have s8 := j8.size
  have t8 := g8.size
  have EH := Lib.hid ((Blk.new w7 #[.int .i64 (k0), .slice none 0 0] 34).ext hb8)
  cases m1 with
  | false =>
    have P : Hid (StandA W H a W2 H2 b ao cap bo cap2 w.heap.size w5.heap.size w7.heap.size k0 w8) := ⟨((((((((HG.out.ext j1).ext j2).ext j3).ext j4).ext j5).ext j6).ext j7).ext j8), ((((((((HV.out.ext j1).ext j2).ext j3).ext j4).ext j5).ext j6).ext j7).ext j8), ((((((((HU.out.ext j1).ext j2).ext j3).ext j4).ext j5).ext j6).ext j7).ext j8), (((((((BA.out.ext j2).ext j3).ext j4).ext j5).ext j6).ext j7).ext j8), (((((((BB.out.ext j2).ext j3).ext j4).ext j5).ext j6).ext j7).ext j8), ((EF.out.ext j7).ext j8), EH.out⟩
    have gP := g8
    obtain ⟨z0, z1, z2, z3, z4, z5, z6, z7, z8, z9⟩ := P.out.cells
    go_wp2
    go_region_held3 (fun w' => w'.cell? ⟨w.heap.size, 0, none⟩ = some (.int .i64 W) ∧ w'.cell? ⟨w.heap.size, 1, none⟩ = some (.int .i64 H) ∧ w'.cell? ⟨w.heap.size, 2, none⟩ = some (.slice ao a.length cap) ∧ w'.cell? ⟨w.heap.size + 1, 0, none⟩ = some (.int .i64 W2) ∧ w'.cell? ⟨w.heap.size + 1, 1, none⟩ = some (.int .i64 H2) ∧ w'.cell? ⟨w.heap.size + 1, 2, none⟩ = some (.slice bo b.length cap2) ∧ w'.cell? ⟨w5.heap.size, 0, none⟩ = some (.int .i64 k0) ∧ w'.cell? ⟨w5.heap.size, 1, none⟩ = some (.slice none 0 0) ∧ w'.cell? ⟨w7.heap.size, 0, none⟩ = some (.int .i64 k0) ∧ w'.cell? ⟨w7.heap.size, 1, none⟩ = some (.slice none 0 0))
      (first | go_keep | exact P.out.cells)
      (first | (go_at_call 9; refine (first_any _ ?_).mono ?_; exact P.out.ty.ext (by go_grown); rintro e wN ⟨rfl, hbN⟩; replace gP := ext gP (ext (by go_grown) hbN); replace P := Lib.hid (P.out.ext (ext (by go_grown) hbN))) | (go_at_call 25; refine (CA.out _ ?_).mono ?_; exact P.out.fv.ext (by go_grown); rintro e wN ⟨rfl, hbN⟩; replace gP := ext gP (ext (by go_grown) hbN); replace P := Lib.hid (P.out.ext (ext (by go_grown) hbN))) | (go_at_call 30; refine (CB.out _ ?_).mono ?_; exact P.out.fv.ext (by go_grown); rintro e wN ⟨rfl, hbN⟩; replace gP := ext gP (ext (by go_grown) hbN); replace P := Lib.hid (P.out.ext (ext (by go_grown) hbN))) | (go_at_call 14; refine (same_any k0 _ ?_).mono ?_; exact P.out.ty.ext (by go_grown); rintro e wN ⟨rfl, hbN⟩; replace gP := ext gP (ext (by go_grown) hbN); replace P := Lib.hid (P.out.ext (ext (by go_grown) hbN))) | (go_at_call 31; refine (CC.out _ ?_ ?_).mono ?_; exact P.out.fv.ext (by go_grown); exact P.out.fu.ext (by go_grown); rintro e wN ⟨rfl, hbN⟩; replace gP := ext gP (ext (by go_grown) hbN); replace P := Lib.hid (P.out.ext (ext (by go_grown) hbN))))
    all_goals go_wp2
    all_goals go_returns
    all_goals exact ⟨by first | rfl | (simp; done) | (simp; omega), gP⟩
  | true =>
    obtain ⟨BB0, BB1, BB2, BB3, BB4, BB5⟩ := ((((((((BB.out.ext j2).ext j3).ext j4).ext j5).ext j6).ext j7).ext j8)).three
    have BBl := ((((((((BB.out.ext j2).ext j3).ext j4).ext j5).ext j6).ext j7).ext j8)).lt
    go_wp2_with fail
    clear BB0 BB1 BB2 BB3 BB4 BB5 BBl
    refine (C8.out _ (((((((((HU.out.ext j1).ext j2).ext j3).ext j4).ext j5).ext j6).ext j7).ext j8).ext (by go_grown))).mono ?_
    rintro e w9 ⟨rfl, hb9⟩
    have j9 : Below w8.heap.size w8 w9 := ext (by go_grown) hb9
    have g9 : Below w.heap.size w w9 := ext g8 j9
    have s9 := j9.size
    have t9 := g9.size
    cases m2 with
    | false =>
      have P : Hid (StandA W H a W2 H2 b ao cap bo cap2 w.heap.size w5.heap.size w7.heap.size k0 w9) := ⟨(((((((((HG.out.ext j1).ext j2).ext j3).ext j4).ext j5).ext j6).ext j7).ext j8).ext j9), (((((((((HV.out.ext j1).ext j2).ext j3).ext j4).ext j5).ext j6).ext j7).ext j8).ext j9), (((((((((HU.out.ext j1).ext j2).ext j3).ext j4).ext j5).ext j6).ext j7).ext j8).ext j9), ((((((((BA.out.ext j2).ext j3).ext j4).ext j5).ext j6).ext j7).ext j8).ext j9), ((((((((BB.out.ext j2).ext j3).ext j4).ext j5).ext j6).ext j7).ext j8).ext j9), (((EF.out.ext j7).ext j8).ext j9), (EH.out.ext j9)⟩
      have gP := g9
      obtain ⟨z0, z1, z2, z3, z4, z5, z6, z7, z8, z9⟩ := P.out.cells
      go_wp2
      go_region_held3 (fun w' => w'.cell? ⟨w.heap.size, 0, none⟩ = some (.int .i64 W) ∧ w'.cell? ⟨w.heap.size, 1, none⟩ = some (.int .i64 H) ∧ w'.cell? ⟨w.heap.size, 2, none⟩ = some (.slice ao a.length cap) ∧ w'.cell? ⟨w.heap.size + 1, 0, none⟩ = some (.int .i64 W2) ∧ w'.cell? ⟨w.heap.size + 1, 1, none⟩ = some (.int .i64 H2) ∧ w'.cell? ⟨w.heap.size + 1, 2, none⟩ = some (.slice bo b.length cap2) ∧ w'.cell? ⟨w5.heap.size, 0, none⟩ = some (.int .i64 k0) ∧ w'.cell? ⟨w5.heap.size, 1, none⟩ = some (.slice none 0 0) ∧ w'.cell? ⟨w7.heap.size, 0, none⟩ = some (.int .i64 k0) ∧ w'.cell? ⟨w7.heap.size, 1, none⟩ = some (.slice none 0 0))
        (first | go_keep | exact P.out.cells)
        (first | (go_at_call 9; refine (first_any _ ?_).mono ?_; exact P.out.ty.ext (by go_grown); rintro e wN ⟨rfl, hbN⟩; replace gP := ext gP (ext (by go_grown) hbN); replace P := Lib.hid (P.out.ext (ext (by go_grown) hbN))) | (go_at_call 25; refine (CA.out _ ?_).mono ?_; exact P.out.fv.ext (by go_grown); rintro e wN ⟨rfl, hbN⟩; replace gP := ext gP (ext (by go_grown) hbN); replace P := Lib.hid (P.out.ext (ext (by go_grown) hbN))) | (go_at_call 30; refine (CB.out _ ?_).mono ?_; exact P.out.fv.ext (by go_grown); rintro e wN ⟨rfl, hbN⟩; replace gP := ext gP (ext (by go_grown) hbN); replace P := Lib.hid (P.out.ext (ext (by go_grown) hbN))) | (go_at_call 14; refine (same_any k0 _ ?_).mono ?_; exact P.out.ty.ext (by go_grown); rintro e wN ⟨rfl, hbN⟩; replace gP := ext gP (ext (by go_grown) hbN); replace P := Lib.hid (P.out.ext (ext (by go_grown) hbN))) | (go_at_call 31; refine (CC.out _ ?_ ?_).mono ?_; exact P.out.fv.ext (by go_grown); exact P.out.fu.ext (by go_grown); rintro e wN ⟨rfl, hbN⟩; replace gP := ext gP (ext (by go_grown) hbN); replace P := Lib.hid (P.out.ext (ext (by go_grown) hbN))))
      all_goals go_wp2
      all_goals go_returns
      all_goals exact ⟨by first | rfl | (simp; done) | (simp; omega), gP⟩
    | true =>
      obtain ⟨BA0, BA1, BA2, BA3, BA4, BA5⟩ := (((((((((BA.out.ext j2).ext j3).ext j4).ext j5).ext j6).ext j7).ext j8).ext j9)).three
      have BAl := (((((((((BA.out.ext j2).ext j3).ext j4).ext j5).ext j6).ext j7).ext j8).ext j9)).lt
      obtain ⟨BB0, BB1, BB2, BB3, BB4, BB5⟩ := (((((((((BB.out.ext j2).ext j3).ext j4).ext j5).ext j6).ext j7).ext j8).ext j9)).three
      have BBl := (((((((((BB.out.ext j2).ext j3).ext j4).ext j5).ext j6).ext j7).ext j8).ext j9)).lt
      go_wp2_with fail
      clear BA0 BA1 BA2 BA3 BA4 BA5 BAl
      clear BB0 BB1 BB2 BB3 BB4 BB5 BBl
      refine (C9.out _ ((((((((((HV.out.ext j1).ext j2).ext j3).ext j4).ext j5).ext j6).ext j7).ext j8).ext j9).ext (by go_grown)) ((((((((((HU.out.ext j1).ext j2).ext j3).ext j4).ext j5).ext j6).ext j7).ext j8).ext j9).ext (by go_grown))).mono ?_
      rintro e w10 ⟨rfl, hb10⟩
      have j10 : Below w9.heap.size w9 w10 := ext (by go_grown) hb10
      have g10 : Below w.heap.size w w10 := ext g9 j10
      have s10 := j10.size
      have t10 := g10.size
      have P : Hid (StandA W H a W2 H2 b ao cap bo cap2 w.heap.size w5.heap.size w7.heap.size k0 w10) := ⟨((((((((((HG.out.ext j1).ext j2).ext j3).ext j4).ext j5).ext j6).ext j7).ext j8).ext j9).ext j10), ((((((((((HV.out.ext j1).ext j2).ext j3).ext j4).ext j5).ext j6).ext j7).ext j8).ext j9).ext j10), ((((((((((HU.out.ext j1).ext j2).ext j3).ext j4).ext j5).ext j6).ext j7).ext j8).ext j9).ext j10), (((((((((BA.out.ext j2).ext j3).ext j4).ext j5).ext j6).ext j7).ext j8).ext j9).ext j10), (((((((((BB.out.ext j2).ext j3).ext j4).ext j5).ext j6).ext j7).ext j8).ext j9).ext j10), ((((EF.out.ext j7).ext j8).ext j9).ext j10), ((EH.out.ext j9).ext j10)⟩
      have gP := g10
      obtain ⟨z0, z1, z2, z3, z4, z5, z6, z7, z8, z9⟩ := P.out.cells
      go_wp2
      go_region_held3 (fun w' => w'.cell? ⟨w.heap.size, 0, none⟩ = some (.int .i64 W) ∧ w'.cell? ⟨w.heap.size, 1, none⟩ = some (.int .i64 H) ∧ w'.cell? ⟨w.heap.size, 2, none⟩ = some (.slice ao a.length cap) ∧ w'.cell? ⟨w.heap.size + 1, 0, none⟩ = some (.int .i64 W2) ∧ w'.cell? ⟨w.heap.size + 1, 1, none⟩ = some (.int .i64 H2) ∧ w'.cell? ⟨w.heap.size + 1, 2, none⟩ = some (.slice bo b.length cap2) ∧ w'.cell? ⟨w5.heap.size, 0, none⟩ = some (.int .i64 k0) ∧ w'.cell? ⟨w5.heap.size, 1, none⟩ = some (.slice none 0 0) ∧ w'.cell? ⟨w7.heap.size, 0, none⟩ = some (.int .i64 k0) ∧ w'.cell? ⟨w7.heap.size, 1, none⟩ = some (.slice none 0 0))
        (first | go_keep | exact P.out.cells)
        (first | (go_at_call 9; refine (first_any _ ?_).mono ?_; exact P.out.ty.ext (by go_grown); rintro e wN ⟨rfl, hbN⟩; replace gP := ext gP (ext (by go_grown) hbN); replace P := Lib.hid (P.out.ext (ext (by go_grown) hbN))) | (go_at_call 25; refine (CA.out _ ?_).mono ?_; exact P.out.fv.ext (by go_grown); rintro e wN ⟨rfl, hbN⟩; replace gP := ext gP (ext (by go_grown) hbN); replace P := Lib.hid (P.out.ext (ext (by go_grown) hbN))) | (go_at_call 30; refine (CB.out _ ?_).mono ?_; exact P.out.fv.ext (by go_grown); rintro e wN ⟨rfl, hbN⟩; replace gP := ext gP (ext (by go_grown) hbN); replace P := Lib.hid (P.out.ext (ext (by go_grown) hbN))) | (go_at_call 14; refine (same_any k0 _ ?_).mono ?_; exact P.out.ty.ext (by go_grown); rintro e wN ⟨rfl, hbN⟩; replace gP := ext gP (ext (by go_grown) hbN); replace P := Lib.hid (P.out.ext (ext (by go_grown) hbN))) | (go_at_call 31; refine (CC.out _ ?_ ?_).mono ?_; exact P.out.fv.ext (by go_grown); exact P.out.fu.ext (by go_grown); rintro e wN ⟨rfl, hbN⟩; replace gP := ext gP (ext (by go_grown) hbN); replace P := Lib.hid (P.out.ext (ext (by go_grown) hbN))))
      all_goals go_wp2
      all_goals go_returns
      all_goals exact ⟨by first | rfl | (simp; done) | (simp; omega), gP⟩

theorem asks_walk (v u : Value) (W H : Int) (a : List Int) (W2 H2 : Int) (b : List Int) (x y : Int) (w : World) (hv : FrameV w v W H a) (hu : FrameV w u W2 H2 b) (hg : TypeIs w) :
    Calls Tryd.prog 6 #[v, u, .int .i64 x, .int .i64 y] w fun e w' => e = .returned (.bool true) ∧ Below w.heap.size w w' := by
  by_cases h1 : a.length ≤ 5000
  · by_cases h2 : b.length ≤ 5000
    · exact asks_in v u W H a W2 H2 b x y w hv hu hg h1 h2
    · exact asks_long1 v u W H a W2 H2 b x y w hv hu hg h1 (by omega)
  · exact asks_long0 v u W H a W2 H2 b x y w hv hu hg (by omega)
end Go.Proofs.YtlpifjnjddgfaaaDoor
