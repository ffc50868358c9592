/- kinlaw11.MotionHalves: the walk. -/
import Derived.Test.YtjmkcbagedflkaaDoorMotionK
set_option linter.unusedSimpArgs false
set_option linter.unusedVariables false
namespace Go.Proofs.YtjmkcbagedflkaaDoor
open Go.RowKit Go.Extern.Stop Go.Stop Go.Extern
structure StandH (W H : Int) (a : List Int) (ao : Option Addr) (cap : Nat) (xo : Option Addr) (xc : Nat) (vx vy : Int) (n n1 : Nat) (w : World) : Prop where
  ty : TypeIs w
  fv : FrameV w (.agg #[.int .i64 W, .int .i64 H, .slice ao a.length cap]) W H a
  fi : FrameV w (.agg #[.int .i64 W, .int .i64 H, .slice xo a.length xc]) W H a
  bf : Blk w n #[.int .i64 W, .int .i64 H, .slice ao a.length cap] 24
  bi : Blk w n1 #[.int .i64 W, .int .i64 H, .slice xo a.length xc] 24
  bv : Blk w (n + 1) #[.int .i64 vx, .int .i64 vy] 26
theorem StandH.ext {W H : Int} {a : List Int} {ao : Option Addr} {cap : Nat} {xo : Option Addr} {xc : Nat} {vx vy : Int} {n n1 : Nat} {w w' : World} (h : StandH W H a ao cap xo xc vx vy n n1 w) (hb : Below w.heap.size w w') : StandH W H a ao cap xo xc vx vy n n1 w' :=
  ⟨h.ty.ext hb, h.fv.ext hb, h.fi.ext hb, h.bf.ext hb, h.bi.ext hb, h.bv.ext hb⟩
theorem StandH.cells {W H : Int} {a : List Int} {ao : Option Addr} {cap : Nat} {xo : Option Addr} {xc : Nat} {vx vy : Int} {n n1 : Nat} {w : World} (h : StandH W H a ao cap xo xc vx vy n n1 w) :
    w.cell? ⟨n, 0, none⟩ = some (.int .i64 W) ∧ w.cell? ⟨n, 1, none⟩ = some (.int .i64 H) ∧ w.cell? ⟨n, 2, none⟩ = some (.slice ao a.length cap) ∧ w.cell? ⟨n1, 0, none⟩ = some (.int .i64 W) ∧ w.cell? ⟨n1, 1, none⟩ = some (.int .i64 H) ∧ w.cell? ⟨n1, 2, none⟩ = some (.slice xo a.length xc) ∧
    w.cell? ⟨n + 1, 0, none⟩ = some (.int .i64 vx) ∧ w.cell? ⟨n + 1, 1, none⟩ = some (.int .i64 vy) :=
  ⟨h.bf.cell 0, h.bf.cell 1, h.bf.cell 2, h.bi.cell 0, h.bi.cell 1, h.bi.cell 2, h.bv.cell 0, h.bv.cell 1⟩

set_option maxRecDepth 100000 in
set_option maxHeartbeats 8000000 in
theorem halves_w (v : Value) (W H : Int) (a : List Int) (hx hy x y n vx vy : Int) (w : World) (hv : FrameV w v W H a) (hg : TypeIs w) (h0 : 5000 < a.length) :
    Calls Tryd.prog 3 #[v, .int .i64 hx, .int .i64 hy, .int .i64 x, .int .i64 y, .int .i64 n, .agg #[.int .i64 vx, .int .i64 vy]] w fun e w' => e = .returned (.bool true) ∧ Below w.heap.size w w' := by
  have HG := Lib.hid hg
  have HV := Lib.hid hv
  obtain ⟨ao, cap, rfl, hp⟩ := hv.cells
  have hla := hp.len
  have BA0 := Lib.hid ((Blk.new w #[.int .i64 W, .int .i64 H, .slice ao a.length cap] 24).alloc (.cells #[.int .i64 vx, .int .i64 vy] 26))
  have BV0 := Lib.hid (Blk.new (w.alloc (.cells #[.int .i64 W, .int .i64 H, .slice ao a.length cap] 24)) #[.int .i64 vx, .int .i64 vy] 26)
  simp only [World.size_alloc] at BV0
  clear hg hv hp
  go_enter Tryd.func3, Tryd.ntmps3
  have g0 : Below w.heap.size w w := Below.refl _ _
  go_wp2_with fail
  refine (first_any _ (HG.out.ext (by go_grown))).mono ?_
  rintro e w1 ⟨rfl, hb1⟩
  have j1 : Below w.heap.size w w1 := ext (by go_grown) hb1
  have g1 : Below w.heap.size w w1 := ext g0 j1
  have s1 := j1.size
  have t1 := g1.size
  have BA := Lib.hid (BA0.out.ext hb1)
  have BX := Lib.hid (BV0.out.ext hb1)
  obtain ⟨BA0, BA1, BA2, BA3, BA4, BA5⟩ := (BA.out).three
  have BAl := (BA.out).lt
  go_wp2_with fail
  clear BA0 BA1 BA2 BA3 BA4 BA5 BAl
  refine (first_any _ ((HG.out.ext j1).ext (by go_grown))).mono ?_
  rintro e w2 ⟨rfl, hb2⟩
  have j2 : Below w1.heap.size w1 w2 := ext (by go_grown) hb2
  have g2 : Below w.heap.size w w2 := ext g1 j2
  have s2 := j2.size
  have t2 := g2.size
  go_wp2
  all_goals go_returns
  all_goals exact ⟨by first | rfl | (simp; done) | (simp; omega), g2⟩

set_option maxRecDepth 100000 in
set_option maxHeartbeats 8000000 in
theorem halves_ok (v : Value) (W H : Int) (a : List Int) (hx hy x y n vx vy : Int) (w : World) (hv : FrameV w v W H a) (hg : TypeIs w) (h0 : a.length ≤ 5000) :
    Calls Tryd.prog 3 #[v, .int .i64 hx, .int .i64 hy, .int .i64 x, .int .i64 y, .int .i64 n, .agg #[.int .i64 vx, .int .i64 vy]] w fun e w' => e = .returned (.bool true) ∧ Below w.heap.size w w' := by
  have HG := Lib.hid hg
  have C1 := Lib.hid (fun w hv => copyframe_any v W H a w hv (by omega))
  have C3 := Lib.hid (fun fv w h => pHalf_any fv W H a hx hy w h)
  have C4 := Lib.hid (fun fv w h => rHalf_any fv W H a hx hy w h)
  have C5 := Lib.hid (fun fv w h => pblock_any fv W H a x y n vx vy w h)
  have C6 := Lib.hid (fun fv w h => rblock_any fv W H a x y n vx vy w h)
  have C7 := Lib.hid (fun v u w h1 h2 => ints_same v u (blkV W H a x y n vx vy) w h1 h2)
  have C8 := Lib.hid (fun v u w h1 h2 => frame_same v u W H a w h1 h2)
  obtain ⟨-, -, i1, i2, -⟩ := id hv
  have HI := Lib.hid (And.intro i1 i2)
  clear i1 i2
  have HV := Lib.hid hv
  obtain ⟨ao, cap, rfl, hp⟩ := hv.cells
  have hla := hp.len
  have BA0 := Lib.hid ((Blk.new w #[.int .i64 W, .int .i64 H, .slice ao a.length cap] 24).alloc (.cells #[.int .i64 vx, .int .i64 vy] 26))
  have BV0 := Lib.hid (Blk.new (w.alloc (.cells #[.int .i64 W, .int .i64 H, .slice ao a.length cap] 24)) #[.int .i64 vx, .int .i64 vy] 26)
  simp only [World.size_alloc] at BV0
  clear hg hv hp hla
  generalize blkV W H a x y n vx vy = l at *
  generalize halfA W H a hx hy = hz at *
  go_enter Tryd.func3, Tryd.ntmps3
  have g0 : Below w.heap.size w w := Below.refl _ _
  go_wp2_with fail
  refine (first_any _ (HG.out.ext (by go_grown))).mono ?_
  rintro e w1 ⟨rfl, hb1⟩
  have j1 : Below w.heap.size w w1 := ext (by go_grown) hb1
  have g1 : Below w.heap.size w w1 := ext g0 j1
  have s1 := j1.size
  have t1 := g1.size
  have BA := Lib.hid (BA0.out.ext hb1)
  have BX := Lib.hid (BV0.out.ext hb1)
  obtain ⟨BA0, BA1, BA2, BA3, BA4, BA5⟩ := (BA.out).three
  have BAl := (BA.out).lt
  go_wp2_with fail
  clear BA0 BA1 BA2 BA3 BA4 BA5 BAl
  refine (C1.out _ ((HV.out.ext j1).ext (by go_grown))).mono ?_
  rintro e w2 ⟨x1, rfl, hx1, hb2⟩
  have j2 : Below w1.heap.size w1 w2 := ext (by go_grown) hb2
  have g2 : Below w.heap.size w w2 := ext g1 j2
  have s2 := j2.size
  have t2 := g2.size
  obtain ⟨xo, xc, rfl⟩ := hx1.shape
  have HX : Hid (FrameV w2 (.agg #[.int .i64 W, .int .i64 H, .slice xo a.length xc]) W H a) := Lib.hid ⟨_, rfl, HI.out.1, HI.out.2, hx1.ints⟩
  clear hx1
  have hbe : Below w2.heap.size w2 (w2.alloc (.cells #[.int .i64 W, .int .i64 H, .slice xo a.length xc] 24)) := by go_grown
  have P : Hid (StandH W H a ao cap xo xc vx vy w.heap.size w2.heap.size (w2.alloc (.cells #[.int .i64 W, .int .i64 H, .slice xo a.length xc] 24))) := ⟨(((HG.out.ext j1).ext j2)).ext hbe, (((HV.out.ext j1).ext j2)).ext hbe, (HX.out).ext hbe, ((BA.out.ext j2)).ext hbe, Blk.new _ _ _, ((BX.out.ext j2)).ext hbe⟩
  have gP : Below w.heap.size w (w2.alloc (.cells #[.int .i64 W, .int .i64 H, .slice xo a.length xc] 24)) := ext g2 hbe
  clear hbe
  obtain ⟨z0, z1, z2, z3, z4, z5, z6, z7⟩ := P.out.cells
  go_wp2_with fail
  go_region_held3 (fun w' => w'.cell? ⟨w.heap.size, 0, none⟩ = some (.int .i64 W) ∧ w'.cell? ⟨w.heap.size, 1, none⟩ = some (.int .i64 H) ∧ w'.cell? ⟨w.heap.size, 2, none⟩ = some (.slice ao a.length cap) ∧ w'.cell? ⟨w2.heap.size, 0, none⟩ = some (.int .i64 W) ∧ w'.cell? ⟨w2.heap.size, 1, none⟩ = some (.int .i64 H) ∧ w'.cell? ⟨w2.heap.size, 2, none⟩ = some (.slice xo a.length xc) ∧ w'.cell? ⟨w.heap.size + 1, 0, none⟩ = some (.int .i64 vx) ∧ w'.cell? ⟨w.heap.size + 1, 1, none⟩ = some (.int .i64 vy))
    (first | go_keep | exact P.out.cells)
    (first | (go_at_call 9; refine (first_any _ ?_).mono ?_; exact P.out.ty.ext (by go_grown); rintro e wN ⟨rfl, hbN⟩; replace gP := ext gP (ext (by go_grown) hbN); replace P := Lib.hid (P.out.ext (ext (by go_grown) hbN))) | (go_at_call 11; refine (C3.out _ _ ?_).mono ?_; exact P.out.fi.ext (by go_grown); rintro e wN ⟨rfl, hbN⟩; replace gP := ext gP (ext (by go_grown) hbN); replace P := Lib.hid (P.out.ext (ext (by go_grown) hbN))) | (go_at_call 12; refine (C4.out _ _ ?_).mono ?_; exact P.out.fv.ext (by go_grown); rintro e wN ⟨rfl, hbN⟩; replace gP := ext gP (ext (by go_grown) hbN); replace P := Lib.hid (P.out.ext (ext (by go_grown) hbN))) | (go_at_call 14; refine (C5.out _ _ ?_).mono ?_; exact P.out.fi.ext (by go_grown); rintro e wN ⟨v1, rfl, hown1, hbN⟩; have L1 := Lib.hid hown1.ints; clear hown1; replace gP := ext gP (ext (by go_grown) hbN); replace P := Lib.hid (P.out.ext (ext (by go_grown) hbN))) | (go_at_call 15; refine (C6.out _ _ ?_).mono ?_; exact P.out.fv.ext (by go_grown); rintro e wM ⟨v2, rfl, hown2, hbN⟩; have L2 := Lib.hid hown2.ints; replace L1 := Lib.hid (L1.out.ext (ext (by go_grown) hbN)); clear hown2; replace gP := ext gP (ext (by go_grown) hbN); replace P := Lib.hid (P.out.ext (ext (by go_grown) hbN))) | (go_at_call 13; refine (C7.out _ _ _ ?_ ?_).mono ?_; exact L1.out.ext (by go_grown); exact L2.out.ext (by go_grown); rintro e wN ⟨rfl, hbN⟩; replace gP := ext gP (ext (by go_grown) hbN); replace P := Lib.hid (P.out.ext (ext (by go_grown) hbN))) | (go_at_call 16; refine (C8.out _ _ _ ?_ ?_).mono ?_; exact P.out.fi.ext (by go_grown); exact P.out.fv.ext (by go_grown); rintro e wN ⟨rfl, hbN⟩; replace gP := ext gP (ext (by go_grown) hbN); replace P := Lib.hid (P.out.ext (ext (by go_grown) hbN))))
  all_goals go_wp2
  all_goals go_returns
  all_goals exact ⟨by first | rfl | (simp; done) | (simp; omega), by first | exact gP | exact ext gP (by go_grown)⟩

theorem halves_walk (v : Value) (W H : Int) (a : List Int) (hx hy x y n vx vy : Int) (w : World) (hv : FrameV w v W H a) (hg : TypeIs w) :
    Calls Tryd.prog 3 #[v, .int .i64 hx, .int .i64 hy, .int .i64 x, .int .i64 y, .int .i64 n, .agg #[.int .i64 vx, .int .i64 vy]] w fun e w' => e = .returned (.bool true) ∧ Below w.heap.size w w' := by
  by_cases h0 : a.length ≤ 5000
  · exact halves_ok v W H a hx hy x y n vx vy w hv hg h0
  · exact halves_w v W H a hx hy x y n vx vy w hv hg (by omega)
end Go.Proofs.YtjmkcbagedflkaaDoor
