/- kinlaw6.PlanePuts: the walk. -/
import Derived.Test.YtlpifjnjddgfaaaDoorPlaneF
import Derived.Test.YtlpifjnjddgfaaaDoorPutP
set_option linter.unusedSimpArgs false
set_option linter.unusedVariables false
namespace Go.Proofs.YtlpifjnjddgfaaaDoor
open Go.RowKit Go.Extern.Stop Go.Stop Go.Extern

structure StandP (W H : Int) (a : List Int) (ao io : Option Addr) (cap ic n n1 : Nat) (w : World) : Prop where
  ty : TypeIs w
  fv : FrameV w (.agg #[.int .i64 W, .int .i64 H, .slice ao a.length cap]) W H a
  fi : FrameV w (.agg #[.int .i64 W, .int .i64 H, .slice io a.length ic]) W H a
  ba : Blk w n #[.int .i64 W, .int .i64 H, .slice ao a.length cap] 24
  bi : Blk w n1 #[.int .i64 W, .int .i64 H, .slice io a.length ic] 24
theorem StandP.ext {W H : Int} {a : List Int} {ao io : Option Addr} {cap ic n n1 : Nat} {w w' : World} (h : StandP W H a ao io cap ic n n1 w) (hb : Below w.heap.size w w') : StandP W H a ao io cap ic n n1 w' :=
  ⟨h.ty.ext hb, h.fv.ext hb, h.fi.ext hb, h.ba.ext hb, h.bi.ext hb⟩
theorem StandP.cells {W H : Int} {a : List Int} {ao io : Option Addr} {cap ic n n1 : Nat} {w : World} (h : StandP W H a ao io cap ic n n1 w) :
    w.cell? ⟨n, 0, none⟩ = some (.int .i64 W) ∧ w.cell? ⟨n, 1, none⟩ = some (.int .i64 H) ∧ w.cell? ⟨n, 2, none⟩ = some (.slice ao a.length cap) ∧
    w.cell? ⟨n1, 0, none⟩ = some (.int .i64 W) ∧ w.cell? ⟨n1, 1, none⟩ = some (.int .i64 H) ∧ w.cell? ⟨n1, 2, none⟩ = some (.slice io a.length ic) :=
  ⟨h.ba.cell 0, h.ba.cell 1, h.ba.cell 2, h.bi.cell 0, h.bi.cell 1, h.bi.cell 2⟩
theorem FrameV.wi {w : World} {v : Value} {W H : Int} {pix : List Int} (h : FrameV w v W H pix) : in64 W ∧ in64 H := by
  obtain ⟨_, _, h1, h2, _⟩ := h; exact ⟨h1, h2⟩

set_option maxRecDepth 100000 in
set_option maxHeartbeats 8000000 in
theorem puts_long0 (v bv : Value) (W H x y n : Int) (a b : List Int) (w : World) (hv : FrameV w v W H a) (hb : Ints w bv b) (hg : TypeIs w) (h1 : 5000 < a.length) :
    Calls Tryd.prog 4 #[v, .int .i64 x, .int .i64 y, .int .i64 n, bv] w fun e w' => e = .returned (.bool true) ∧ Below w.heap.size w w' := by
  have HG := Lib.hid hg
  have HV := Lib.hid hv
  have HB := Lib.hid hb
  have c1 := fun w hv => few_any v W H a w hv
  rw [show decide (a.length ≤ 5000) = false from by simp; omega] at c1
  have C1 := Lib.hid c1
  have WI := hv.wi
  have HI0 := Lib.hid WI.1
  have HJ0 := Lib.hid WI.2
  obtain ⟨ao, cap, rfl, hp⟩ := hv.cells
  obtain ⟨bo, cap2, rfl⟩ := hb.shape
  have hla := hp.len
  have hlb := hb.len
  have BA0 := Lib.hid (Blk.new w #[.int .i64 W, .int .i64 H, .slice ao a.length cap] 24)
  clear WI hv hg hp hb c1
  clear h1
  go_enter Tryd.func4, Tryd.ntmps4
  have g0 : Below w.heap.size w w := Below.refl _ _
  go_wp2_with fail
  refine (first_any _ (HG.out.ext (by go_grown))).mono ?_
  rintro e w1 ⟨rfl, hb1⟩
  have j1 : Below w.heap.size w w1 := ext (by go_grown) hb1
  have g1 : Below w.heap.size w w1 := ext g0 j1
  have s1 := j1.size
  have t1 := g1.size
  have BA := Lib.hid (BA0.out.ext hb1)
  obtain ⟨BA0, BA1, BA2, BA3, BA4, BA5⟩ := (BA.out).three
  have BAl := (BA.out).lt
  go_wp2_with fail
  clear BA0 BA1 BA2 BA3 BA4 BA5 BAl
  refine (C1.out _ ((HV.out.ext j1).ext (by go_grown))).mono ?_
  rintro e w2 ⟨rfl, hb2⟩
  have j2 : Below w1.heap.size w1 w2 := ext (by go_grown) hb2
  have g2 : Below w.heap.size w w2 := ext g1 j2
  have s2 := j2.size
  have t2 := g2.size
  go_wp2_with fail
  refine (first_any _ (((HG.out.ext j1).ext j2).ext (by go_grown))).mono ?_
  rintro e w3 ⟨rfl, hb3⟩
  have j3 : Below w2.heap.size w2 w3 := ext (by go_grown) hb3
  have g3 : Below w.heap.size w w3 := ext g2 j3
  have s3 := j3.size
  have t3 := g3.size
  go_wp2
  all_goals go_returns
  all_goals exact ⟨by first | rfl | (simp; done) | (simp; omega), g3⟩

set_option maxRecDepth 100000 in
set_option maxHeartbeats 8000000 in
theorem puts_long1 (v bv : Value) (W H x y n : Int) (a b : List Int) (w : World) (hv : FrameV w v W H a) (hb : Ints w bv b) (hg : TypeIs w) (h1 : a.length ≤ 5000) (h2 : 5000 < b.length) :
    Calls Tryd.prog 4 #[v, .int .i64 x, .int .i64 y, .int .i64 n, bv] w fun e w' => e = .returned (.bool true) ∧ Below w.heap.size w w' := by
  have HG := Lib.hid hg
  have HV := Lib.hid hv
  have HB := Lib.hid hb
  have c1 := fun w hv => few_any v W H a w hv
  rw [show decide (a.length ≤ 5000) = true from by simp; omega] at c1
  have C1 := Lib.hid c1
  have WI := hv.wi
  have HI0 := Lib.hid WI.1
  have HJ0 := Lib.hid WI.2
  obtain ⟨ao, cap, rfl, hp⟩ := hv.cells
  obtain ⟨bo, cap2, rfl⟩ := hb.shape
  have hla := hp.len
  have hlb := hb.len
  have BA0 := Lib.hid (Blk.new w #[.int .i64 W, .int .i64 H, .slice ao a.length cap] 24)
  clear WI hv hg hp hb c1
  clear h1
  go_enter Tryd.func4, Tryd.ntmps4
  have g0 : Below w.heap.size w w := Below.refl _ _
  go_wp2_with fail
  refine (first_any _ (HG.out.ext (by go_grown))).mono ?_
  rintro e w1 ⟨rfl, hb1⟩
  have j1 : Below w.heap.size w w1 := ext (by go_grown) hb1
  have g1 : Below w.heap.size w w1 := ext g0 j1
  have s1 := j1.size
  have t1 := g1.size
  have BA := Lib.hid (BA0.out.ext hb1)
  obtain ⟨BA0, BA1, BA2, BA3, BA4, BA5⟩ := (BA.out).three
  have BAl := (BA.out).lt
  go_wp2_with fail
  clear BA0 BA1 BA2 BA3 BA4 BA5 BAl
  refine (C1.out _ ((HV.out.ext j1).ext (by go_grown))).mono ?_
  rintro e w2 ⟨rfl, hb2⟩
  have j2 : Below w1.heap.size w1 w2 := ext (by go_grown) hb2
  have g2 : Below w.heap.size w w2 := ext g1 j2
  have s2 := j2.size
  have t2 := g2.size
  go_wp2_with fail
  refine (first_any _ (((HG.out.ext j1).ext j2).ext (by go_grown))).mono ?_
  rintro e w3 ⟨rfl, hb3⟩
  have j3 : Below w2.heap.size w2 w3 := ext (by go_grown) hb3
  have g3 : Below w.heap.size w w3 := ext g2 j3
  have s3 := j3.size
  have t3 := g3.size
  go_wp2
  all_goals go_returns
  all_goals exact ⟨by first | rfl | (simp; done) | (simp; omega), g3⟩

set_option maxRecDepth 100000 in
set_option maxHeartbeats 8000000 in
theorem puts_in (v bv : Value) (W H x y n : Int) (a b : List Int) (w : World) (hv : FrameV w v W H a) (hb : Ints w bv b) (hg : TypeIs w) (h1 : a.length ≤ 5000) (h2 : b.length ≤ 5000) :
    Calls Tryd.prog 4 #[v, .int .i64 x, .int .i64 y, .int .i64 n, bv] w fun e w' => e = .returned (.bool true) ∧ Below w.heap.size w w' := by
  have HG := Lib.hid hg
  have HV := Lib.hid hv
  have HB := Lib.hid hb
  have c1 := fun w hv => few_any v W H a w hv
  rw [show decide (a.length ≤ 5000) = true from by simp; omega] at c1
  have C1 := Lib.hid c1
  have C2 := Lib.hid (fun w hv => copyframe_any v W H a w hv (by omega))
  have C3 := Lib.hid (fun v w hv hb => pput_any v bv W H a x y n b w hv hb)
  have C4 := Lib.hid (fun w hv hb => rput_any v bv W H a x y n b w hv hb)
  have c5 := fun v u w hv hu => rframe_any v u (putS W H a x y n b W) (putS W H a x y n b H) (putP W H a x y n b) (putS W H a x y n b W) (putS W H a x y n b H) (putP W H a x y n b) w hv hu
  rw [show (decide (putS W H a x y n b W = putS W H a x y n b W) && (decide (putS W H a x y n b H = putS W H a x y n b H) && decide (putP W H a x y n b = putP W H a x y n b))) = true from by simp] at c5
  have C5 := Lib.hid c5
  have c6 := fun v u w hv hu => rframe_any v u W H a W H a w hv hu
  rw [show (decide (W = W) && (decide (H = H) && decide (a = a))) = true from by simp] at c6
  have C6 := Lib.hid c6
  have C7 := Lib.hid (fun v w hv => pget_any v W H a x y n w hv)
  have C8 := Lib.hid (fun v w hv => rget_any v W H a x y n w hv)
  have c9 := fun v u w hv hu => ints_any v u (getA W H a x y n) (getA W H a x y n) w hv hu
  rw [decide_eq_true rfl] at c9
  have C9 := Lib.hid c9
  have hll : (putP W H a x y n b).length ≤ 5000 := by
    unfold putP layI; split
    · rw [length_layV]; exact h1
    · simp
  clear c5 c6 c9
  have WI := hv.wi
  have HI0 := Lib.hid WI.1
  have HJ0 := Lib.hid WI.2
  obtain ⟨ao, cap, rfl, hp⟩ := hv.cells
  obtain ⟨bo, cap2, rfl⟩ := hb.shape
  have hla := hp.len
  have hlb := hb.len
  have BA0 := Lib.hid (Blk.new w #[.int .i64 W, .int .i64 H, .slice ao a.length cap] 24)
  have HI := Lib.hid (putS_in (W := W) (H := H) (pix := a) (x := x) (y := y) (n := n) (b := b) HI0.out)
  have HJ := Lib.hid (putS_in (W := W) (H := H) (pix := a) (x := x) (y := y) (n := n) (b := b) HJ0.out)
  clear h1 WI hv hg hp hb c1
  generalize putP W H a x y n b = l at *
  generalize putS W H a x y n b W = sW at *
  generalize putS W H a x y n b H = sH at *
  generalize putE W H a x y n b = k0 at *
  generalize getA W H a x y n = gl at *
  go_enter Tryd.func4, Tryd.ntmps4
  have g0 : Below w.heap.size w w := Below.refl _ _
  go_wp2_with fail
  refine (first_any _ (HG.out.ext (by go_grown))).mono ?_
  rintro e w1 ⟨rfl, hb1⟩
  have j1 : Below w.heap.size w w1 := ext (by go_grown) hb1
  have g1 : Below w.heap.size w w1 := ext g0 j1
  have s1 := j1.size
  have t1 := g1.size
  have BA := Lib.hid (BA0.out.ext hb1)
  obtain ⟨BA0, BA1, BA2, BA3, BA4, BA5⟩ := (BA.out).three
  have BAl := (BA.out).lt
  go_wp2_with fail
  clear BA0 BA1 BA2 BA3 BA4 BA5 BAl
  refine (C1.out _ ((HV.out.ext j1).ext (by go_grown))).mono ?_
  rintro e w2 ⟨rfl, hb2⟩
  have j2 : Below w1.heap.size w1 w2 := ext (by go_grown) hb2
  have g2 : Below w.heap.size w w2 := ext g1 j2
  have s2 := j2.size
  have t2 := g2.size
  obtain ⟨BA0, BA1, BA2, BA3, BA4, BA5⟩ := ((BA.out.ext j2)).three
  have BAl := ((BA.out.ext j2)).lt
  go_wp2_with fail
  clear BA0 BA1 BA2 BA3 BA4 BA5 BAl
  refine (C2.out _ (((HV.out.ext j1).ext j2).ext (by go_grown))).mono ?_
  rintro e w3 ⟨p0, rfl, h0, hb3⟩
  have j3 : Below w2.heap.size w2 w3 := ext (by go_grown) hb3
  have g3 : Below w.heap.size w w3 := ext g2 j3
  have s3 := j3.size
  have t3 := g3.size
  obtain ⟨io, ic, rfl⟩ := h0.shape
  have FI : Hid (FrameV w3 (.agg #[.int .i64 W, .int .i64 H, .slice io a.length ic]) W H a) := Lib.hid ⟨_, rfl, HI0.out, HJ0.out, h0.ints⟩
  clear h0
  have P3 : Hid (StandP W H a ao io cap ic w.heap.size w3.heap.size (w3.alloc (.cells #[.int .i64 W, .int .i64 H, .slice io a.length ic] 24))) := ⟨((((HG.out.ext j1).ext j2).ext j3)).ext (by go_grown), ((((HV.out.ext j1).ext j2).ext j3)).ext (by go_grown), (FI.out).ext (by go_grown), (((BA.out.ext j2).ext j3)).ext (by go_grown), Blk.new _ _ _⟩
  go_wp2_with fail
  refine (C3.out _ _ (FI.out.ext (by go_grown)) ((((HB.out.ext j1).ext j2).ext j3).ext (by go_grown))).mono ?_
  rintro e w4 ⟨p1, rfl, h1, hb4⟩
  have j4 : Below w3.heap.size w3 w4 := ext (by go_grown) hb4
  have g4 : Below w.heap.size w w4 := ext g3 j4
  have s4 := j4.size
  have t4 := g4.size
  have BI := Lib.hid ((Blk.new w3 #[.int .i64 W, .int .i64 H, .slice io a.length ic] 24).ext hb4)
  obtain ⟨o1, q1, rfl⟩ := h1.shape
  have FG : Hid (FrameV w4 (.agg #[.int .i64 sW, .int .i64 sH, .slice o1 l.length q1]) sW sH l) := Lib.hid ⟨_, rfl, HI.out, HJ.out, h1.ints⟩
  have OG := Lib.hid h1
  clear h1
  simp only [World.size_alloc] at OG
  have HG4 : Hid (∀ g, (Value.slice o1 l.length q1).ownBlock = some g → g < w4.heap.size) := Lib.hid (fun g hg => (OG.out.1.lt g hg).2)
  obtain ⟨BA0, BA1, BA2, BA3, BA4, BA5⟩ := ((((BA.out.ext j2).ext j3).ext j4)).three
  have BAl := ((((BA.out.ext j2).ext j3).ext j4)).lt
  go_wp2_with fail
  clear BA0 BA1 BA2 BA3 BA4 BA5 BAl
  refine (C4.out _ (((((HV.out.ext j1).ext j2).ext j3).ext j4).ext (by go_grown)) (((((HB.out.ext j1).ext j2).ext j3).ext j4).ext (by go_grown))).mono ?_
  rintro e w5 ⟨p2, rfl, h2, hb5⟩
  have j5 : Below w4.heap.size w4 w5 := ext (by go_grown) hb5
  have g5 : Below w.heap.size w w5 := ext g4 j5
  have s5 := j5.size
  have t5 := g5.size
  have BG := Lib.hid ((Blk.new w4 #[.int .i64 sW, .int .i64 sH, .slice o1 l.length q1] 24).ext hb5)
  obtain ⟨o2, q2, rfl⟩ := h2.shape
  have FH : Hid (FrameV w5 (.agg #[.int .i64 sW, .int .i64 sH, .slice o2 l.length q2]) sW sH l) := Lib.hid ⟨_, rfl, HI.out, HJ.out, h2.ints⟩
  clear h2
  obtain ⟨BG0, BG1, BG2, BG3, BG4, BG5⟩ := (BG.out).three
  have BGl := (BG.out).lt
  go_wp2_with fail
  clear BG0 BG1 BG2 BG3 BG4 BG5 BGl
  refine (C5.out _ _ _ ((FG.out.ext j5).ext (by go_grown)) (FH.out.ext (by go_grown))).mono ?_
  rintro e w6 ⟨rfl, hb6⟩
  have j6 : Below w5.heap.size w5 w6 := ext (by go_grown) hb6
  have g6 : Below w.heap.size w w6 := ext g5 j6
  have s6 := j6.size
  have t6 := g6.size
  have EB := Lib.hid ((Blk.new (w5.alloc (.cells #[.int .i64 sW, .int .i64 sH, .slice o2 l.length q2] 24)) #[.int .i64 k0, .slice none 0 0] 34).ext hb6)
  simp only [World.size_alloc] at EB
  obtain ⟨EB0, EB1, EB2, EB3⟩ := EB.out.two
  go_wp2_with fail
  clear EB0 EB1 EB2 EB3
  refine (same_any k0 _ (((((((HG.out.ext j1).ext j2).ext j3).ext j4).ext j5).ext j6).ext (by go_grown))).mono ?_
  rintro e w7 ⟨rfl, hb7⟩
  have j7 : Below w6.heap.size w6 w7 := ext (by go_grown) hb7
  have g7 : Below w.heap.size w w7 := ext g6 j7
  have s7 := j7.size
  have t7 := g7.size
  obtain ⟨BI0, BI1, BI2, BI3, BI4, BI5⟩ := ((((BI.out.ext j5).ext j6).ext j7)).three
  have BIl := ((((BI.out.ext j5).ext j6).ext j7)).lt
  obtain ⟨BA0, BA1, BA2, BA3, BA4, BA5⟩ := (((((((BA.out.ext j2).ext j3).ext j4).ext j5).ext j6).ext j7)).three
  have BAl := (((((((BA.out.ext j2).ext j3).ext j4).ext j5).ext j6).ext j7)).lt
  go_wp2_with fail
  clear BI0 BI1 BI2 BI3 BI4 BI5 BIl
  clear BA0 BA1 BA2 BA3 BA4 BA5 BAl
  refine (C6.out _ _ _ (((((FI.out.ext j4).ext j5).ext j6).ext j7).ext (by go_grown)) ((((((((HV.out.ext j1).ext j2).ext j3).ext j4).ext j5).ext j6).ext j7).ext (by go_grown))).mono ?_
  rintro e w8 ⟨rfl, hb8⟩
  have j8 : Below w7.heap.size w7 w8 := ext (by go_grown) hb8
  have g8 : Below w.heap.size w w8 := ext g7 j8
  have s8 := j8.size
  have t8 := g8.size
  have G3 : Below (w3.alloc (.cells #[.int .i64 W, .int .i64 H, .slice io a.length ic] 24)).heap.size (w3.alloc (.cells #[.int .i64 W, .int .i64 H, .slice io a.length ic] 24)) w8 := ext (ext (ext (ext hb4 j5) j6) j7) j8
  have OG0 := Lib.hid (((((OG.out.ext j5).ext j6).ext j7).ext j8))
  have BG0 := Lib.hid ((((BG.out.ext j6).ext j7).ext j8))
  have ss : w3.heap.size + 1 ≤ w4.heap.size := by have := j4.size; have := hb4.size; simp at this; omega
  have sw : w.heap.size < w3.heap.size := by have := BA0.out.lt; have := BA.out.lt; have := j2.size; have := j3.size; omega
  have s48 : w4.heap.size < w8.heap.size := BG0.out.lt
  clear BA0 BA BI BG EB FG FH OG FI HV HB C1 C2 C3 C4 C5 j1 j2 j3 j4 j5 j6 j7 j8 hb1 hb2 hb3 hb4 hb5 hb6 hb7 hb8 g1 g2 g3 g4 g5 g6 g7 HG
  go_wp2
  go_loopw [16] (fun i wr => ∃ k : Nat, k ≤ l.length ∧ i = .int .i64 k ∧ OwnInts wr (w3.heap.size + 1) (.slice o1 l.length q1) (overTo (fun _ => -1) l k) ∧ Blk wr w4.heap.size #[.int .i64 sW, .int .i64 sH, .slice o1 l.length q1] 24 ∧ Below w.heap.size w wr ∧ Below (w3.alloc (.cells #[.int .i64 W, .int .i64 H, .slice io a.length ic] 24)).heap.size (w3.alloc (.cells #[.int .i64 W, .int .i64 H, .slice io a.length ic] 24)) wr) (fun i _ => l.length - (intOf i).toNat)
  case atStart => exact ⟨0, Nat.zero_le _, rfl, by rw [overTo_zero]; exact OG0.out, BG0.out, g8, G3⟩
  case round =>
    clear OG0 BG0 g8 G3
    obtain ⟨k, hk, rfl, hown, hBG, gP, g8r⟩ := hrel
    have P := Lib.hid (P3.out.ext g8r)
    have BG := Lib.hid hBG
    have OG := Lib.hid hown
    have bl := hBG.lt
    clear hBG hown
    by_cases hlt : k < l.length
    · obtain ⟨g, q', e, hBg, hgw⟩ := OG.out.head (by rw [length_overTo]; omega)
      simp only [Value.slice.injEq] at e
      obtain ⟨rfl, -, rfl⟩ := e
      obtain ⟨-, -, -, hcell, hfz⟩ := OG.out.at
      have hc0 := hcell k (by rw [length_overTo]; exact hlt)
      have hf0 := hfz k
      obtain ⟨d0, d1, d2, -, -, -⟩ := BG.out.three
      have hg4 : g < w4.heap.size := HG4.out g rfl
      have HS := Lib.hid (show OwnInts (wr.setCell ⟨g, k, none⟩ (.int .i64 (-1))) (w3.heap.size + 1) (.slice (some ⟨g, 0, none⟩) l.length q1) (overTo (fun _ => -1) l (k + 1)) from by
        rw [← overTo_succ hlt]; exact OG.out.set' k _ (by unfold in64; omega))
      have hf : (overTo (fun _ => (-1 : Int)) l k).getD k 0 = (overTo (fun _ => (-1 : Int)) l k).getD k 0 := rfl
      have BG2 := Lib.hid (BG.out.setOther ⟨g, k, none⟩ (.int .i64 (-1)) (by show w4.heap.size ≠ g; omega))
      have gP2 : Below w.heap.size w (wr.setCell ⟨g, k, none⟩ (.int .i64 (-1))) := gP.setCell (by show w.heap.size ≤ g; omega) _
      have g8r2 := g8r.setCell (p := ⟨g, k, none⟩) (by show _ ≤ g; simp; omega) (.int .i64 (-1))
      generalize (overTo (fun _ => (-1 : Int)) l k).getD k 0 = z at *
      clear hcell hfz hf
      go_wp2
      go_roundw
      case rel => exact ⟨k + 1, by omega, by go_num, HS.out, BG2.out, gP2, g8r2⟩
      case measure => simp [intOf]; omega
    · obtain ⟨d0, d1, d2, -, -, -⟩ := BG.out.three
      obtain ⟨z0, z1, z2, z3, z4, z5⟩ := P.out.cells
      clear OG BG g8r
      go_wp2_with fail
      go_region_held3 (fun w' => w'.cell? ⟨w.heap.size, 0, none⟩ = some (.int .i64 W) ∧ w'.cell? ⟨w.heap.size, 1, none⟩ = some (.int .i64 H) ∧ w'.cell? ⟨w.heap.size, 2, none⟩ = some (.slice ao a.length cap) ∧ w'.cell? ⟨w3.heap.size, 0, none⟩ = some (.int .i64 W) ∧ w'.cell? ⟨w3.heap.size, 1, none⟩ = some (.int .i64 H) ∧ w'.cell? ⟨w3.heap.size, 2, none⟩ = some (.slice io a.length ic))
        (first | go_keep | exact P.out.cells)
        (first | (go_at_call 9; refine (first_any _ ?_).mono ?_; exact P.out.ty.ext (by go_grown); rintro e wN ⟨rfl, hbN⟩; replace gP := ext gP (ext (by go_grown) hbN); replace P := Lib.hid (P.out.ext (ext (by go_grown) hbN)); (try replace G1 := Lib.hid (G1.out.ext (ext (by go_grown) hbN))); (try replace G2 := Lib.hid (G2.out.ext (ext (by go_grown) hbN)))) | (go_at_call 13; refine (C6.out _ _ _ ?_ ?_).mono ?_; exact P.out.fi.ext (by go_grown); exact P.out.fv.ext (by go_grown); rintro e wN ⟨rfl, hbN⟩; replace gP := ext gP (ext (by go_grown) hbN); replace P := Lib.hid (P.out.ext (ext (by go_grown) hbN)); (try replace G1 := Lib.hid (G1.out.ext (ext (by go_grown) hbN))); (try replace G2 := Lib.hid (G2.out.ext (ext (by go_grown) hbN)))) | (go_at_call 23; refine (C7.out _ _ ?_).mono ?_; exact P.out.fi.ext (by go_grown); rintro e wN ⟨r1, rfl, hr1, hbN⟩; replace gP := ext gP (ext (by go_grown) hbN); replace P := Lib.hid (P.out.ext (ext (by go_grown) hbN)); (try replace G1 := Lib.hid (G1.out.ext (ext (by go_grown) hbN))); (try replace G2 := Lib.hid (G2.out.ext (ext (by go_grown) hbN))); have G1 := Lib.hid hr1.ints; clear hr1) | (go_at_call 24; refine (C8.out _ _ ?_).mono ?_; exact P.out.fv.ext (by go_grown); rintro e wN ⟨r2, rfl, hr2, hbN⟩; replace gP := ext gP (ext (by go_grown) hbN); replace P := Lib.hid (P.out.ext (ext (by go_grown) hbN)); (try replace G1 := Lib.hid (G1.out.ext (ext (by go_grown) hbN))); (try replace G2 := Lib.hid (G2.out.ext (ext (by go_grown) hbN))); have G2 := Lib.hid hr2.ints; clear hr2) | (go_at_call 22; refine (C9.out _ _ _ ?_ ?_).mono ?_; exact G1.out.ext (by go_grown); exact G2.out.ext (by go_grown); rintro e wN ⟨rfl, hbN⟩; replace gP := ext gP (ext (by go_grown) hbN); replace P := Lib.hid (P.out.ext (ext (by go_grown) hbN)); (try replace G1 := Lib.hid (G1.out.ext (ext (by go_grown) hbN))); (try replace G2 := Lib.hid (G2.out.ext (ext (by go_grown) hbN)))))
      all_goals go_wp2
      all_goals go_returns
      all_goals exact ⟨by first | rfl | (simp; done) | (simp; omega), gP⟩

theorem puts_walk (v bv : Value) (W H x y n : Int) (a b : List Int) (w : World) (hv : FrameV w v W H a) (hb : Ints w bv b) (hg : TypeIs w) :
    Calls Tryd.prog 4 #[v, .int .i64 x, .int .i64 y, .int .i64 n, bv] w fun e w' => e = .returned (.bool true) ∧ Below w.heap.size w w' := by
  by_cases h1 : a.length ≤ 5000
  · by_cases h2 : b.length ≤ 5000
    · exact puts_in v bv W H x y n a b w hv hb hg h1 h2
    · exact puts_long1 v bv W H x y n a b w hv hb hg h1 (by omega)
  · exact puts_long0 v bv W H x y n a b w hv hb hg (by omega)
end Go.Proofs.YtlpifjnjddgfaaaDoor
