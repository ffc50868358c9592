/- New whole; kinlaw6.PlaneMakes: the walk. -/
import Derived.Test.YtlpifjnjddgfaaaDoorPlaneF
import Derived.Test.YtlpifjnjddgfaaaDoorPlaneG
set_option linter.unusedSimpArgs false
set_option linter.unusedVariables false
namespace Go.Proofs.YtlpifjnjddgfaaaDoor
open Go.RowKit Go.Extern.Stop Go.Stop Go.Extern

def newW (W H v : Int) : Int := if newB W H v then W else 0
def newH (W H v : Int) : Int := if newB W H v then H else 0
def newP (W H v : Int) : List Int := if newB W H v then mapTo (fun _ => v) (W * H).toNat else []
def newK (W H v : Int) : Int := if newB W H v then 0 else 3
theorem newW_in (W H v : Int) : in64 (newW W H v) ∧ in64 (newH W H v) := by
  unfold newW newH
  cases h : newB W H v with
  | false => exact ⟨by show in64 0; unfold in64; omega, by show in64 0; unfold in64; omega⟩
  | true =>
    obtain ⟨h1, h2, _⟩ := newB_iff.1 h
    have := sideB_bd h1
    have := sideB_bd h2
    exact ⟨by show in64 W; unfold in64; omega, by show in64 H; unfold in64; omega⟩
theorem pnew_any (W H v : Int) (w : World) : Calls Tryd.prog 11 #[.int .i64 W, .int .i64 H, .int .i64 v] w
    fun e w' => ∃ p, e = .returned (.tuple #[.agg #[.int .i64 (newW W H v), .int .i64 (newH W H v), p], errV (newK W H v)]) ∧ OwnInts w' w.heap.size p (newP W H v) ∧ Below w.heap.size w w' := by
  cases h : newB W H v with
  | false =>
    have e1 : newW W H v = 0 := by unfold newW; rw [h]; rfl
    have e2 : newH W H v = 0 := by unfold newH; rw [h]; rfl
    have e3 : newP W H v = [] := by unfold newP; rw [h]; rfl
    have e4 : newK W H v = 3 := by unfold newK; rw [h]; rfl
    rw [e1, e2, e3, e4]
    refine (pnew_no W H v w h).mono ?_
    rintro e w1 ⟨rfl, hb⟩
    exact ⟨_, rfl, OwnInts.nil _ _, hb⟩
  | true =>
    obtain ⟨n, hn, n1, n2⟩ := newB_wh h
    have e1 : newW W H v = W := by unfold newW; rw [h]; rfl
    have e2 : newH W H v = H := by unfold newH; rw [h]; rfl
    have e3 : newP W H v = mapTo (fun _ => v) n := by unfold newP; rw [h, hn]; rfl
    have e4 : newK W H v = 0 := by unfold newK; rw [h]; rfl
    rw [e1, e2, e3, e4]
    exact pnew_ok W H v n w h hn n2
theorem rnew_any (W H v : Int) (w : World) : Calls Tryd.prog 12 #[.int .i64 W, .int .i64 H, .int .i64 v] w
    fun e w' => ∃ p, e = .returned (.tuple #[.agg #[.int .i64 (newW W H v), .int .i64 (newH W H v), p], .agg #[.int .i64 (newK W H v), .slice none 0 0]]) ∧ OwnInts w' w.heap.size p (newP W H v) ∧ Below w.heap.size w w' := by
  cases h : newB W H v with
  | false =>
    have e1 : newW W H v = 0 := by unfold newW; rw [h]; rfl
    have e2 : newH W H v = 0 := by unfold newH; rw [h]; rfl
    have e3 : newP W H v = [] := by unfold newP; rw [h]; rfl
    have e4 : newK W H v = 3 := by unfold newK; rw [h]; rfl
    rw [e1, e2, e3, e4]
    refine (rnew_no W H v w h).mono ?_
    rintro e w1 ⟨rfl, hb⟩
    exact ⟨_, rfl, OwnInts.nil _ _, hb⟩
  | true =>
    obtain ⟨n, hn, n1, n2⟩ := newB_wh h
    have e1 : newW W H v = W := by unfold newW; rw [h]; rfl
    have e2 : newH W H v = H := by unfold newH; rw [h]; rfl
    have e3 : newP W H v = mapTo (fun _ => v) n := by unfold newP; rw [h, hn]; rfl
    have e4 : newK W H v = 0 := by unfold newK; rw [h]; rfl
    rw [e1, e2, e3, e4]
    exact rnew_ok W H v n w h hn n2
structure StandM (W H : Int) (a : List Int) (ao : Option Addr) (cap : Nat) (W2 H2 : Int) (b : List Int) (bo co : Option Addr) (bc cc : Nat) (n n1 n2 : Nat) (k : Int) (w : World) : Prop where
  ty : TypeIs w
  fv : FrameV w (.agg #[.int .i64 W, .int .i64 H, .slice ao a.length cap]) W H a
  f1 : FrameV w (.agg #[.int .i64 W2, .int .i64 H2, .slice bo b.length bc]) W2 H2 b
  f2 : FrameV w (.agg #[.int .i64 W2, .int .i64 H2, .slice co b.length cc]) W2 H2 b
  ba : Blk w n #[.int .i64 W, .int .i64 H, .slice ao a.length cap] 24
  b1 : Blk w n1 #[.int .i64 W2, .int .i64 H2, .slice bo b.length bc] 24
  b2 : Blk w n2 #[.int .i64 W2, .int .i64 H2, .slice co b.length cc] 24
  eb : Blk w (n2 + 1) #[.int .i64 k, .slice none 0 0] 34
theorem StandM.ext {W H : Int} {a : List Int} {ao : Option Addr} {cap : Nat} {W2 H2 : Int} {b : List Int} {bo co : Option Addr} {bc cc : Nat} {n n1 n2 : Nat} {k : Int} {w w' : World} (h : StandM W H a ao cap W2 H2 b bo co bc cc n n1 n2 k w) (hb : Below w.heap.size w w') : StandM W H a ao cap W2 H2 b bo co bc cc n n1 n2 k w' :=
  ⟨h.ty.ext hb, h.fv.ext hb, h.f1.ext hb, h.f2.ext hb, h.ba.ext hb, h.b1.ext hb, h.b2.ext hb, h.eb.ext hb⟩
theorem StandM.cells {W H : Int} {a : List Int} {ao : Option Addr} {cap : Nat} {W2 H2 : Int} {b : List Int} {bo co : Option Addr} {bc cc : Nat} {n n1 n2 : Nat} {k : Int} {w : World} (h : StandM W H a ao cap W2 H2 b bo co bc cc n n1 n2 k w) :
    w.cell? ⟨n, 0, none⟩ = some (.int .i64 W) ∧ w.cell? ⟨n, 1, none⟩ = some (.int .i64 H) ∧ w.cell? ⟨n, 2, none⟩ = some (.slice ao a.length cap) ∧
    w.cell? ⟨n1, 0, none⟩ = some (.int .i64 W2) ∧ w.cell? ⟨n1, 1, none⟩ = some (.int .i64 H2) ∧ w.cell? ⟨n1, 2, none⟩ = some (.slice bo b.length bc) ∧
    w.cell? ⟨n2, 0, none⟩ = some (.int .i64 W2) ∧ w.cell? ⟨n2, 1, none⟩ = some (.int .i64 H2) ∧ w.cell? ⟨n2, 2, none⟩ = some (.slice co b.length cc) ∧
    w.cell? ⟨n2 + 1, 0, none⟩ = some (.int .i64 k) ∧ w.cell? ⟨n2 + 1, 1, none⟩ = some (.slice none 0 0) :=
  ⟨h.ba.cell 0, h.ba.cell 1, h.ba.cell 2, h.b1.cell 0, h.b1.cell 1, h.b1.cell 2, h.b2.cell 0, h.b2.cell 1, h.b2.cell 2, h.eb.cell 0, h.eb.cell 1⟩

set_option maxRecDepth 100000 in
set_option maxHeartbeats 8000000 in
theorem makes_long (W0 H0 v0 : Int) (v : Value) (W H : Int) (a : List Int) (w : World) (hv : FrameV w v W H a) (hg : TypeIs w) (h1 : 5000 < a.length) :
    Calls Tryd.prog 3 #[.int .i64 W0, .int .i64 H0, .int .i64 v0, v] w fun e w' => e = .returned (.bool true) ∧ Below w.heap.size w w' := by
  have HG := Lib.hid hg
  have HV := Lib.hid hv
  have c1 := fun w hv => few_any v W H a w hv
  rw [show decide (a.length ≤ 5000) = false from by simp; omega] at c1
  have C1 := Lib.hid c1
  obtain ⟨ao, cap, rfl, hp⟩ := hv.cells
  have hla := hp.len
  have BA0 := Lib.hid (Blk.new w #[.int .i64 W, .int .i64 H, .slice ao a.length cap] 24)
  clear hv hg hp c1 h1
  go_enter Tryd.func3, Tryd.ntmps3
  have g0 : Below w.heap.size w w := Below.refl _ _
  go_wp2_with fail
  refine (first_any _ (HG.out.ext (by go_grown))).mono ?_
  rintro e w1 ⟨rfl, hb1⟩
  have j1 : Below w.heap.size w w1 := ext (by go_grown) hb1
  have g1 : Below w.heap.size w w1 := ext g0 j1
  have s1 := j1.size
  have t1 := g1.size
  have BA := Lib.hid (BA0.out.ext hb1)
  obtain ⟨BA0, BA1, BA2, BA3, BA4, BA5⟩ := (BA.out).three
  have BAl := (BA.out).lt
  go_wp2_with fail
  clear BA0 BA1 BA2 BA3 BA4 BA5 BAl
  refine (C1.out _ ((HV.out.ext j1).ext (by go_grown))).mono ?_
  rintro e w2 ⟨rfl, hb2⟩
  have j2 : Below w1.heap.size w1 w2 := ext (by go_grown) hb2
  have g2 : Below w.heap.size w w2 := ext g1 j2
  have s2 := j2.size
  have t2 := g2.size
  go_wp2_with fail
  refine (first_any _ (((HG.out.ext j1).ext j2).ext (by go_grown))).mono ?_
  rintro e w3 ⟨rfl, hb3⟩
  have j3 : Below w2.heap.size w2 w3 := ext (by go_grown) hb3
  have g3 : Below w.heap.size w w3 := ext g2 j3
  have s3 := j3.size
  have t3 := g3.size
  go_wp2
  all_goals go_returns
  all_goals exact ⟨by first | rfl | (simp; done) | (simp; omega), g3⟩

set_option maxRecDepth 100000 in
set_option maxHeartbeats 8000000 in
theorem makes_in (W0 H0 v0 : Int) (v : Value) (W H : Int) (a : List Int) (w : World) (hv : FrameV w v W H a) (hg : TypeIs w) (h1 : a.length ≤ 5000) :
    Calls Tryd.prog 3 #[.int .i64 W0, .int .i64 H0, .int .i64 v0, v] w fun e w' => e = .returned (.bool true) ∧ Below w.heap.size w w' := by
  have HG := Lib.hid hg
  have HV := Lib.hid hv
  have c1 := fun w hv => few_any v W H a w hv
  rw [show decide (a.length ≤ 5000) = true from by simp; omega] at c1
  have C1 := Lib.hid c1
  have C2 := Lib.hid (fun w => pnew_any W0 H0 v0 w)
  have C3 := Lib.hid (fun w => rnew_any W0 H0 v0 w)
  have c4 := fun v u w hv hu => rframe_any v u (newW W0 H0 v0) (newH W0 H0 v0) (newP W0 H0 v0) (newW W0 H0 v0) (newH W0 H0 v0) (newP W0 H0 v0) w hv hu
  rw [show (decide (newW W0 H0 v0 = newW W0 H0 v0) && (decide (newH W0 H0 v0 = newH W0 H0 v0) && decide (newP W0 H0 v0 = newP W0 H0 v0))) = true from by simp] at c4
  have C4 := Lib.hid c4
  have C5 := Lib.hid (fun w hv => pmay_any v W H a w hv)
  have C6 := Lib.hid (fun w hv => rmay_any v W H a w hv)
  have C7 := Lib.hid (fun w => pclip_any v0 w)
  have C8 := Lib.hid (fun w => rclip_any v0 w)
  have HI := Lib.hid (newW_in W0 H0 v0)
  obtain ⟨ao, cap, rfl, hp⟩ := hv.cells
  have hla := hp.len
  have BA0 := Lib.hid (Blk.new w #[.int .i64 W, .int .i64 H, .slice ao a.length cap] 24)
  clear hv hg hp c1 h1
  clear c4
  generalize newP W0 H0 v0 = b at *
  generalize newW W0 H0 v0 = W2 at *
  generalize newH W0 H0 v0 = H2 at *
  generalize newK W0 H0 v0 = k0 at *
  generalize clipV v0 = cv at *
  generalize mayB W H a = m1 at *
  go_enter Tryd.func3, Tryd.ntmps3
  have g0 : Below w.heap.size w w := Below.refl _ _
  go_wp2_with fail
  refine (first_any _ (HG.out.ext (by go_grown))).mono ?_
  rintro e w1 ⟨rfl, hb1⟩
  have j1 : Below w.heap.size w w1 := ext (by go_grown) hb1
  have g1 : Below w.heap.size w w1 := ext g0 j1
  have s1 := j1.size
  have t1 := g1.size
  have BA := Lib.hid (BA0.out.ext hb1)
  obtain ⟨BA0, BA1, BA2, BA3, BA4, BA5⟩ := (BA.out).three
  have BAl := (BA.out).lt
  go_wp2_with fail
  clear BA0 BA1 BA2 BA3 BA4 BA5 BAl
  refine (C1.out _ ((HV.out.ext j1).ext (by go_grown))).mono ?_
  rintro e w2 ⟨rfl, hb2⟩
  have j2 : Below w1.heap.size w1 w2 := ext (by go_grown) hb2
  have g2 : Below w.heap.size w w2 := ext g1 j2
  have s2 := j2.size
  have t2 := g2.size
  go_wp2_with fail
  refine (C2.out _).mono ?_
  rintro e w3 ⟨p1, rfl, hp1, hb3⟩
  have j3 : Below w2.heap.size w2 w3 := ext (by go_grown) hb3
  have g3 : Below w.heap.size w w3 := ext g2 j3
  have s3 := j3.size
  have t3 := g3.size
  obtain ⟨bo, bc, rfl⟩ := hp1.shape
  have F1 : Hid (FrameV w3 (.agg #[.int .i64 W2, .int .i64 H2, .slice bo b.length bc]) W2 H2 b) := Lib.hid ⟨_, rfl, HI.out.1, HI.out.2, hp1.ints⟩
  clear hp1
  go_wp2_with fail
  refine (C3.out _).mono ?_
  rintro e w4 ⟨p2, rfl, hp2, hb4⟩
  have j4 : Below w3.heap.size w3 w4 := ext (by go_grown) hb4
  have g4 : Below w.heap.size w w4 := ext g3 j4
  have s4 := j4.size
  have t4 := g4.size
  obtain ⟨co, cc, rfl⟩ := hp2.shape
  have F2 : Hid (FrameV w4 (.agg #[.int .i64 W2, .int .i64 H2, .slice co b.length cc]) W2 H2 b) := Lib.hid ⟨_, rfl, HI.out.1, HI.out.2, hp2.ints⟩
  clear hp2
  have B1 := Lib.hid ((Blk.new w3 #[.int .i64 W2, .int .i64 H2, .slice bo b.length bc] 24).ext hb4)
  have hbe : Below w4.heap.size w4 ((w4.alloc (.cells #[.int .i64 W2, .int .i64 H2, .slice co b.length cc] 24)).alloc (.cells #[.int .i64 k0, .slice none 0 0] 34)) := by go_grown
  have B2 := Lib.hid ((Blk.new w4 #[.int .i64 W2, .int .i64 H2, .slice co b.length cc] 24).alloc (.cells #[.int .i64 k0, .slice none 0 0] 34))
  have EB := Lib.hid (Blk.new (w4.alloc (.cells #[.int .i64 W2, .int .i64 H2, .slice co b.length cc] 24)) #[.int .i64 k0, .slice none 0 0] 34)
  simp only [World.size_alloc] at EB
  have P : Hid (StandM W H a ao cap W2 H2 b bo co bc cc w.heap.size w3.heap.size w4.heap.size k0 ((w4.alloc (.cells #[.int .i64 W2, .int .i64 H2, .slice co b.length cc] 24)).alloc (.cells #[.int .i64 k0, .slice none 0 0] 34))) := ⟨(((((HG.out.ext j1).ext j2).ext j3).ext j4)).ext hbe, (((((HV.out.ext j1).ext j2).ext j3).ext j4)).ext hbe, ((F1.out.ext j4)).ext hbe, (F2.out).ext hbe, ((((BA.out.ext j2).ext j3).ext j4)).ext hbe, (B1.out).ext hbe, B2.out, EB.out⟩
  have gP : Below w.heap.size w ((w4.alloc (.cells #[.int .i64 W2, .int .i64 H2, .slice co b.length cc] 24)).alloc (.cells #[.int .i64 k0, .slice none 0 0] 34)) := ext g4 hbe
  clear hbe B2 EB
  obtain ⟨z0, z1, z2, z3, z4, z5, z6, z7, z8, z9, z10⟩ := P.out.cells
  go_wp2_with fail
  go_region_held3 (fun w' => w'.cell? ⟨w.heap.size, 0, none⟩ = some (.int .i64 W) ∧ w'.cell? ⟨w.heap.size, 1, none⟩ = some (.int .i64 H) ∧ w'.cell? ⟨w.heap.size, 2, none⟩ = some (.slice ao a.length cap) ∧ w'.cell? ⟨w3.heap.size, 0, none⟩ = some (.int .i64 W2) ∧ w'.cell? ⟨w3.heap.size, 1, none⟩ = some (.int .i64 H2) ∧ w'.cell? ⟨w3.heap.size, 2, none⟩ = some (.slice bo b.length bc) ∧ w'.cell? ⟨w4.heap.size, 0, none⟩ = some (.int .i64 W2) ∧ w'.cell? ⟨w4.heap.size, 1, none⟩ = some (.int .i64 H2) ∧ w'.cell? ⟨w4.heap.size, 2, none⟩ = some (.slice co b.length cc) ∧ w'.cell? ⟨w4.heap.size + 1, 0, none⟩ = some (.int .i64 k0) ∧ w'.cell? ⟨w4.heap.size + 1, 1, none⟩ = some (.slice none 0 0))
    (first | go_keep | exact P.out.cells)
    (first | (go_at_call 9; refine (first_any _ ?_).mono ?_; exact P.out.ty.ext (by go_grown); rintro e wN ⟨rfl, hbN⟩; replace gP := ext gP (ext (by go_grown) hbN); replace P := Lib.hid (P.out.ext (ext (by go_grown) hbN))) | (go_at_call 13; refine (C4.out _ _ _ ?_ ?_).mono ?_; exact P.out.f1.ext (by go_grown); exact P.out.f2.ext (by go_grown); rintro e wN ⟨rfl, hbN⟩; replace gP := ext gP (ext (by go_grown) hbN); replace P := Lib.hid (P.out.ext (ext (by go_grown) hbN))) | (go_at_call 14; refine (same_any k0 _ ?_).mono ?_; exact P.out.ty.ext (by go_grown); rintro e wN ⟨rfl, hbN⟩; replace gP := ext gP (ext (by go_grown) hbN); replace P := Lib.hid (P.out.ext (ext (by go_grown) hbN))) | (go_at_call 15; refine (C5.out _ ?_).mono ?_; exact P.out.fv.ext (by go_grown); rintro e wN ⟨rfl, hbN⟩; replace gP := ext gP (ext (by go_grown) hbN); replace P := Lib.hid (P.out.ext (ext (by go_grown) hbN))) | (go_at_call 16; refine (C6.out _ ?_).mono ?_; exact P.out.fv.ext (by go_grown); rintro e wN ⟨rfl, hbN⟩; replace gP := ext gP (ext (by go_grown) hbN); replace P := Lib.hid (P.out.ext (ext (by go_grown) hbN))) | (go_at_call 17; refine (C7.out _).mono ?_; rintro e wN ⟨rfl, rfl⟩) | (go_at_call 18; refine (C8.out _).mono ?_; rintro e wN ⟨rfl, rfl⟩))
  all_goals go_wp2
  all_goals go_returns
  all_goals exact ⟨by first | rfl | (simp; done) | (simp; omega), by first | exact gP | exact ext gP (by go_grown)⟩

theorem makes_walk (W0 H0 v0 : Int) (v : Value) (W H : Int) (a : List Int) (w : World) (hv : FrameV w v W H a) (hg : TypeIs w) :
    Calls Tryd.prog 3 #[.int .i64 W0, .int .i64 H0, .int .i64 v0, v] w fun e w' => e = .returned (.bool true) ∧ Below w.heap.size w w' := by
  by_cases h1 : a.length ≤ 5000
  · exact makes_in W0 H0 v0 v W H a w hv hg h1
  · exact makes_long W0 H0 v0 v W H a w hv hg (by omega)
end Go.Proofs.YtlpifjnjddgfaaaDoor
