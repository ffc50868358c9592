/- kinlaw6.PlaneBack: the walk. -/
import Derived.Test.YtlpifjnjddgfaaaDoorPlaneF
import Derived.Test.YtlpifjnjddgfaaaDoorPutP
set_option linter.unusedSimpArgs false
set_option linter.unusedVariables false
namespace Go.Proofs.YtlpifjnjddgfaaaDoor
open Go.RowKit Go.Extern.Stop Go.Stop Go.Extern

structure StandB (W H : Nat) (a L : List Int) (ao go : Option Addr) (cap gc n n1 : Nat) (w : World) : Prop where
  ty : TypeIs w
  fv : FrameV w (.agg #[.int .i64 W, .int .i64 H, .slice ao a.length cap]) W H a
  fg : FrameV w (.agg #[.int .i64 W, .int .i64 H, .slice go L.length gc]) W H L
  ba : Blk w n #[.int .i64 W, .int .i64 H, .slice ao a.length cap] 24
  bg : Blk w n1 #[.int .i64 W, .int .i64 H, .slice go L.length gc] 24
theorem StandB.ext {W H : Nat} {a L : List Int} {ao go : Option Addr} {cap gc n n1 : Nat} {w w' : World} (h : StandB W H a L ao go cap gc n n1 w) (hb : Below w.heap.size w w') : StandB W H a L ao go cap gc n n1 w' :=
  ⟨h.ty.ext hb, h.fv.ext hb, h.fg.ext hb, h.ba.ext hb, h.bg.ext hb⟩
theorem StandB.cells {W H : Nat} {a L : List Int} {ao go : Option Addr} {cap gc n n1 : Nat} {w : World} (h : StandB W H a L ao go cap gc n n1 w) :
    w.cell? ⟨n, 0, none⟩ = some (.int .i64 W) ∧ w.cell? ⟨n, 1, none⟩ = some (.int .i64 H) ∧ w.cell? ⟨n, 2, none⟩ = some (.slice ao a.length cap) ∧
    w.cell? ⟨n1, 0, none⟩ = some (.int .i64 W) ∧ w.cell? ⟨n1, 1, none⟩ = some (.int .i64 H) ∧ w.cell? ⟨n1, 2, none⟩ = some (.slice go L.length gc) :=
  ⟨h.ba.cell 0, h.ba.cell 1, h.ba.cell 2, h.bg.cell 0, h.bg.cell 1, h.bg.cell 2⟩
theorem at_back {W H x y n : Nat} {pix b : List Int} (h : Fit W H x y n pix b) (i j : Nat) (hi : i < W) (hj : j < H) (ho : ¬ (x ≤ i ∧ i < x + n ∧ y ≤ j ∧ j < y + n)) (v : Value) (w : World)
    (hv : FrameV w v W H (layV W x y n b pix) ∨ FrameV w v W H pix) :
    Calls Tryd.prog 25 #[v, .int .i64 i, .int .i64 j] w fun e w' => e = .returned (.int .i64 (atV W H pix i j)) ∧ Below w.heap.size w w' := by
  rcases hv with hv | hv
  · have c := pAt_any v W H _ i j w hv
    rw [if_pos (mayB_iff.2 h.lay), h.stay hi hj ho] at c
    exact c
  · have c := pAt_any v W H _ i j w hv
    rw [if_pos (mayB_iff.2 h.may)] at c
    exact c

set_option maxRecDepth 100000 in
set_option maxHeartbeats 8000000 in
theorem back_long0 (v bv : Value) (W H x y n : Int) (a b : List Int) (w : World) (hv : FrameV w v W H a) (hb : Ints w bv b) (hg : TypeIs w) (h1 : 5000 < a.length) :
    Calls Tryd.prog 5 #[v, .int .i64 x, .int .i64 y, .int .i64 n, bv] w fun e w' => e = .returned (.bool true) ∧ Below w.heap.size w w' := by
  have HG := Lib.hid hg
  have HV := Lib.hid hv
  have HB := Lib.hid hb
  have c1 := fun w hv => few_any v W H a w hv
  rw [show decide (a.length ≤ 5000) = false from by simp; omega] at c1
  have C1 := Lib.hid c1
  obtain ⟨ao, cap, rfl, hp⟩ := hv.cells
  obtain ⟨bo, cap2, rfl⟩ := hb.shape
  have hla := hp.len
  have hlb := hb.len
  have BA0 := Lib.hid (Blk.new w #[.int .i64 W, .int .i64 H, .slice ao a.length cap] 24)
  clear hv hg hp hb c1
  clear h1
  go_enter Tryd.func5, Tryd.ntmps5
  have g0 : Below w.heap.size w w := Below.refl _ _
  go_wp2_with fail
  refine (first_any _ (HG.out.ext (by go_grown))).mono ?_
  rintro e w1 ⟨rfl, hb1⟩
  have j1 : Below w.heap.size w w1 := ext (by go_grown) hb1
  have g1 : Below w.heap.size w w1 := ext g0 j1
  have s1 := j1.size
  have t1 := g1.size
  have BA := Lib.hid (BA0.out.ext hb1)
  obtain ⟨BA0, BA1, BA2, BA3, BA4, BA5⟩ := (BA.out).three
  have BAl := (BA.out).lt
  go_wp2_with fail
  clear BA0 BA1 BA2 BA3 BA4 BA5 BAl
  refine (C1.out _ ((HV.out.ext j1).ext (by go_grown))).mono ?_
  rintro e w2 ⟨rfl, hb2⟩
  have j2 : Below w1.heap.size w1 w2 := ext (by go_grown) hb2
  have g2 : Below w.heap.size w w2 := ext g1 j2
  have s2 := j2.size
  have t2 := g2.size
  go_wp2_with fail
  refine (first_any _ (((HG.out.ext j1).ext j2).ext (by go_grown))).mono ?_
  rintro e w3 ⟨rfl, hb3⟩
  have j3 : Below w2.heap.size w2 w3 := ext (by go_grown) hb3
  have g3 : Below w.heap.size w w3 := ext g2 j3
  have s3 := j3.size
  have t3 := g3.size
  go_wp2
  all_goals go_returns
  all_goals exact ⟨by first | rfl | (simp; done) | (simp; omega), g3⟩

set_option maxRecDepth 100000 in
set_option maxHeartbeats 8000000 in
theorem back_long1 (v bv : Value) (W H x y n : Int) (a b : List Int) (w : World) (hv : FrameV w v W H a) (hb : Ints w bv b) (hg : TypeIs w) (h1 : a.length ≤ 5000) (h2 : 5000 < b.length) :
    Calls Tryd.prog 5 #[v, .int .i64 x, .int .i64 y, .int .i64 n, bv] w fun e w' => e = .returned (.bool true) ∧ Below w.heap.size w w' := by
  have HG := Lib.hid hg
  have HV := Lib.hid hv
  have HB := Lib.hid hb
  have c1 := fun w hv => few_any v W H a w hv
  rw [show decide (a.length ≤ 5000) = true from by simp; omega] at c1
  have C1 := Lib.hid c1
  obtain ⟨ao, cap, rfl, hp⟩ := hv.cells
  obtain ⟨bo, cap2, rfl⟩ := hb.shape
  have hla := hp.len
  have hlb := hb.len
  have BA0 := Lib.hid (Blk.new w #[.int .i64 W, .int .i64 H, .slice ao a.length cap] 24)
  clear hv hg hp hb c1
  clear h1
  go_enter Tryd.func5, Tryd.ntmps5
  have g0 : Below w.heap.size w w := Below.refl _ _
  go_wp2_with fail
  refine (first_any _ (HG.out.ext (by go_grown))).mono ?_
  rintro e w1 ⟨rfl, hb1⟩
  have j1 : Below w.heap.size w w1 := ext (by go_grown) hb1
  have g1 : Below w.heap.size w w1 := ext g0 j1
  have s1 := j1.size
  have t1 := g1.size
  have BA := Lib.hid (BA0.out.ext hb1)
  obtain ⟨BA0, BA1, BA2, BA3, BA4, BA5⟩ := (BA.out).three
  have BAl := (BA.out).lt
  go_wp2_with fail
  clear BA0 BA1 BA2 BA3 BA4 BA5 BAl
  refine (C1.out _ ((HV.out.ext j1).ext (by go_grown))).mono ?_
  rintro e w2 ⟨rfl, hb2⟩
  have j2 : Below w1.heap.size w1 w2 := ext (by go_grown) hb2
  have g2 : Below w.heap.size w w2 := ext g1 j2
  have s2 := j2.size
  have t2 := g2.size
  go_wp2_with fail
  refine (first_any _ (((HG.out.ext j1).ext j2).ext (by go_grown))).mono ?_
  rintro e w3 ⟨rfl, hb3⟩
  have j3 : Below w2.heap.size w2 w3 := ext (by go_grown) hb3
  have g3 : Below w.heap.size w w3 := ext g2 j3
  have s3 := j3.size
  have t3 := g3.size
  go_wp2
  all_goals go_returns
  all_goals exact ⟨by first | rfl | (simp; done) | (simp; omega), g3⟩

set_option maxRecDepth 100000 in
set_option maxHeartbeats 8000000 in
theorem back_no (v bv : Value) (W H x y n : Int) (a b : List Int) (w : World) (hv : FrameV w v W H a) (hb : Ints w bv b) (hg : TypeIs w) (h1 : a.length ≤ 5000) (h2 : b.length ≤ 5000) (h3 : putE W H a x y n b ≠ 0) :
    Calls Tryd.prog 5 #[v, .int .i64 x, .int .i64 y, .int .i64 n, bv] w fun e w' => e = .returned (.bool true) ∧ Below w.heap.size w w' := by
  have HG := Lib.hid hg
  have HV := Lib.hid hv
  have HB := Lib.hid hb
  have c1 := fun w hv => few_any v W H a w hv
  rw [show decide (a.length ≤ 5000) = true from by simp; omega] at c1
  have C1 := Lib.hid c1
  have C2 := Lib.hid (fun w hv hb => pput_no v bv W H a x y n b w hv hb h3)
  obtain ⟨ao, cap, rfl, hp⟩ := hv.cells
  obtain ⟨bo, cap2, rfl⟩ := hb.shape
  have hla := hp.len
  have hlb := hb.len
  have BA0 := Lib.hid (Blk.new w #[.int .i64 W, .int .i64 H, .slice ao a.length cap] 24)
  clear hv hg hp hb c1
  have hk : (putE W H a x y n b == 0) = false := by simpa using h3
  clear h1 h3
  generalize putE W H a x y n b = k0 at *
  have hk2 : ¬ k0 = 0 := by simpa using hk
  have he : errV k0 = .iface 31 (.int .i64 k0) := by unfold errV; rw [if_neg hk2]
  rw [he] at C2
  clear hk2 he
  go_enter Tryd.func5, Tryd.ntmps5
  have g0 : Below w.heap.size w w := Below.refl _ _
  go_wp2_with fail
  refine (first_any _ (HG.out.ext (by go_grown))).mono ?_
  rintro e w1 ⟨rfl, hb1⟩
  have j1 : Below w.heap.size w w1 := ext (by go_grown) hb1
  have g1 : Below w.heap.size w w1 := ext g0 j1
  have s1 := j1.size
  have t1 := g1.size
  have BA := Lib.hid (BA0.out.ext hb1)
  obtain ⟨BA0, BA1, BA2, BA3, BA4, BA5⟩ := (BA.out).three
  have BAl := (BA.out).lt
  go_wp2_with fail
  clear BA0 BA1 BA2 BA3 BA4 BA5 BAl
  refine (C1.out _ ((HV.out.ext j1).ext (by go_grown))).mono ?_
  rintro e w2 ⟨rfl, hb2⟩
  have j2 : Below w1.heap.size w1 w2 := ext (by go_grown) hb2
  have g2 : Below w.heap.size w w2 := ext g1 j2
  have s2 := j2.size
  have t2 := g2.size
  obtain ⟨BA0, BA1, BA2, BA3, BA4, BA5⟩ := ((BA.out.ext j2)).three
  have BAl := ((BA.out.ext j2)).lt
  go_wp2_with fail
  clear BA0 BA1 BA2 BA3 BA4 BA5 BAl
  refine (C2.out _ (((HV.out.ext j1).ext j2).ext (by go_grown)) (((HB.out.ext j1).ext j2).ext (by go_grown))).mono ?_
  rintro e w3 ⟨rfl, hb3⟩
  have j3 : Below w2.heap.size w2 w3 := ext (by go_grown) hb3
  have g3 : Below w.heap.size w w3 := ext g2 j3
  have s3 := j3.size
  have t3 := g3.size
  go_wp2_with fail
  refine (first_any _ ((((HG.out.ext j1).ext j2).ext j3).ext (by go_grown))).mono ?_
  rintro e w4 ⟨rfl, hb4⟩
  have j4 : Below w3.heap.size w3 w4 := ext (by go_grown) hb4
  have g4 : Below w.heap.size w w4 := ext g3 j4
  have s4 := j4.size
  have t4 := g4.size
  obtain ⟨y0, y1, y2, y3, y4, y5⟩ := ((Blk.new w3 #[.int .i64 0, .int .i64 0, .slice none 0 0] 24).ext hb4).three
  have yl := s4
  go_wp2
  all_goals go_returns
  all_goals exact ⟨by first | rfl | (simp; done) | (simp; omega), g4⟩

set_option maxRecDepth 100000 in
set_option maxHeartbeats 8000000 in
theorem back_ok (v bv : Value) (W H x y n : Nat) (a b : List Int) (w : World) (hv : FrameV w v W H a) (hb : Ints w bv b) (hg : TypeIs w) (h1 : a.length ≤ 5000) (h2 : b.length ≤ 5000) (h3 : Fit W H x y n a b) :
    Calls Tryd.prog 5 #[v, .int .i64 x, .int .i64 y, .int .i64 n, bv] w fun e w' => e = .returned (.bool true) ∧ Below w.heap.size w w' := by
  have HG := Lib.hid hg
  have HV := Lib.hid hv
  have HB := Lib.hid hb
  have c1 := fun w hv => few_any v W H a w hv
  rw [show decide (a.length ≤ 5000) = true from by simp; omega] at c1
  have C1 := Lib.hid c1
  have C2 := Lib.hid (fun w hv hb => pput_ok v bv W H x y n a b w hv hb h3)
  have c3 := fun v w hv => pmay_any v W H (layV W x y n b a) w hv
  rw [mayB_iff.2 h3.lay] at c3
  have C3 := Lib.hid c3
  obtain ⟨W1, W2, H1, H2, -⟩ := h3.bd
  have c4 := fun v w hv => pget_any v W H (layV W x y n b a) x y n w hv
  have hgb : getB W H (layV W x y n b a) x y n = true := getB_iff.2 ⟨h3.lay, by have := h3.n1; omega, by have := h3.n2; omega, by omega, by have := h3.xn; omega, by omega, by have := h3.yn; omega⟩
  have hga : getA W H (layV W x y n b a) x y n = b := by
    unfold getA; rw [if_pos hgb]; exact h3.get
  rw [hga] at c4
  have C4 := Lib.hid c4
  have c5 := fun v u w hv hu => ints_any v u b b w hv hu
  rw [decide_eq_true rfl] at c5
  have C5 := Lib.hid c5
  have CA := Lib.hid (fun i j hi hj ho v w hv => at_back h3 i j hi hj ho v w hv)
  have hxn := h3.xn
  have hyn := h3.yn
  have hn2 := h3.n2
  have hn1 := h3.n1
  obtain ⟨ao, cap, rfl, hp⟩ := hv.cells
  obtain ⟨bo, cap2, rfl⟩ := hb.shape
  have hla := hp.len
  have hlb := hb.len
  have BA0 := Lib.hid (Blk.new w #[.int .i64 W, .int .i64 H, .slice ao a.length cap] 24)
  clear hv hg hp hb c1
  have W64 : in64 (W : Int) ∧ in64 (H : Int) := by unfold in64; omega
  obtain ⟨W64a, W64b⟩ := W64
  have HI := Lib.hid W64a
  have HJ := Lib.hid W64b
  clear c3 c4 c5 hga hgb h1 h3 W64a W64b
  generalize layV W x y n b a = L at *
  go_enter Tryd.func5, Tryd.ntmps5
  have g0 : Below w.heap.size w w := Below.refl _ _
  go_wp2_with fail
  refine (first_any _ (HG.out.ext (by go_grown))).mono ?_
  rintro e w1 ⟨rfl, hb1⟩
  have j1 : Below w.heap.size w w1 := ext (by go_grown) hb1
  have g1 : Below w.heap.size w w1 := ext g0 j1
  have s1 := j1.size
  have t1 := g1.size
  have BA := Lib.hid (BA0.out.ext hb1)
  obtain ⟨BA0, BA1, BA2, BA3, BA4, BA5⟩ := (BA.out).three
  have BAl := (BA.out).lt
  go_wp2_with fail
  clear BA0 BA1 BA2 BA3 BA4 BA5 BAl
  refine (C1.out _ ((HV.out.ext j1).ext (by go_grown))).mono ?_
  rintro e w2 ⟨rfl, hb2⟩
  have j2 : Below w1.heap.size w1 w2 := ext (by go_grown) hb2
  have g2 : Below w.heap.size w w2 := ext g1 j2
  have s2 := j2.size
  have t2 := g2.size
  obtain ⟨BA0, BA1, BA2, BA3, BA4, BA5⟩ := ((BA.out.ext j2)).three
  have BAl := ((BA.out.ext j2)).lt
  go_wp2_with fail
  clear BA0 BA1 BA2 BA3 BA4 BA5 BAl
  refine (C2.out _ (((HV.out.ext j1).ext j2).ext (by go_grown)) (((HB.out.ext j1).ext j2).ext (by go_grown))).mono ?_
  rintro e w3 ⟨p, rfl, hp, hb3⟩
  have j3 : Below w2.heap.size w2 w3 := ext (by go_grown) hb3
  have g3 : Below w.heap.size w w3 := ext g2 j3
  have s3 := j3.size
  have t3 := g3.size
  obtain ⟨go, gc, rfl⟩ := hp.shape
  have FG : Hid (FrameV w3 (.agg #[.int .i64 W, .int .i64 H, .slice go L.length gc]) W H L) := Lib.hid ⟨_, rfl, HI.out, HJ.out, hp.ints⟩
  clear hp
  go_wp2_with fail
  refine (C3.out _ _ (FG.out.ext (by go_grown))).mono ?_
  rintro e w4 ⟨rfl, hb4⟩
  have j4 : Below w3.heap.size w3 w4 := ext (by go_grown) hb4
  have g4 : Below w.heap.size w w4 := ext g3 j4
  have s4 := j4.size
  have t4 := g4.size
  have BG := Lib.hid ((Blk.new w3 #[.int .i64 W, .int .i64 H, .slice go L.length gc] 24).ext hb4)
  obtain ⟨BG0, BG1, BG2, BG3, BG4, BG5⟩ := (BG.out).three
  have BGl := (BG.out).lt
  go_wp2_with fail
  clear BG0 BG1 BG2 BG3 BG4 BG5 BGl
  refine (C4.out _ _ ((FG.out.ext j4).ext (by go_grown))).mono ?_
  rintro e w5 ⟨q, rfl, hq, hb5⟩
  have j5 : Below w4.heap.size w4 w5 := ext (by go_grown) hb5
  have g5 : Below w.heap.size w w5 := ext g4 j5
  have s5 := j5.size
  have t5 := g5.size
  have HQ := Lib.hid hq.ints
  clear hq
  go_wp2_with fail
  refine (C5.out _ _ _ (HQ.out.ext (by go_grown)) ((((((HB.out.ext j1).ext j2).ext j3).ext j4).ext j5).ext (by go_grown))).mono ?_
  rintro e w6 ⟨rfl, hb6⟩
  have j6 : Below w5.heap.size w5 w6 := ext (by go_grown) hb6
  have g6 : Below w.heap.size w w6 := ext g5 j6
  have s6 := j6.size
  have t6 := g6.size
  have P0 : Hid (StandB W H a L ao go cap gc w.heap.size w3.heap.size w6) := ⟨((((((HG.out.ext j1).ext j2).ext j3).ext j4).ext j5).ext j6), ((((((HV.out.ext j1).ext j2).ext j3).ext j4).ext j5).ext j6), (((FG.out.ext j4).ext j5).ext j6), (((((BA.out.ext j2).ext j3).ext j4).ext j5).ext j6), ((BG.out.ext j5).ext j6)⟩
  clear BA0 BA BG HQ FG HV HB C1 C2 C3 C4 C5 j1 j2 j3 j4 j5 j6 hb1 hb2 hb3 hb4 hb5 hb6 g1 g2 g3 g4 g5 HG
  have P := P0
  have gP := g6
  clear P0 g6
  obtain ⟨z0, z1, z2, z3, z4, z5⟩ := P.out.cells
  go_wp2
  clear z0 z1 z2 z3 z4 z5
  go_loopw [13] (fun j wr => ∃ k : Nat, k ≤ H ∧ j = .int .i64 k ∧ StandB W H a L ao go cap gc w.heap.size w3.heap.size wr ∧ Below w.heap.size w wr) (fun j _ => H - (intOf j).toNat)
  case atStart => exact ⟨0, Nat.zero_le _, rfl, P.out, gP⟩
  case round =>
    clear P gP
    obtain ⟨j, hj, rfl, hP, gP⟩ := hrel
    have P := Lib.hid hP
    clear hP
    obtain ⟨wo, rfl⟩ : ∃ wo : World, wo = wr := ⟨_, rfl⟩
    obtain ⟨z0, z1, z2, z3, z4, z5⟩ := P.out.cells
    by_cases hlj : j < H
    · go_wp2
      clear z0 z1 z2 z3 z4 z5
      go_loopw [14] (fun i wr => ∃ k : Nat, k ≤ W ∧ i = .int .i64 k ∧ StandB W H a L ao go cap gc w.heap.size w3.heap.size wr ∧ Below w.heap.size w wr) (fun i _ => W - (intOf i).toNat)
      case atStart => exact ⟨0, Nat.zero_le _, rfl, P.out, gP⟩
      case round =>
        clear P gP
        obtain ⟨i, hi, rfl, hP, gP⟩ := hrel
        have P := Lib.hid hP
        clear hP
        by_cases hli : i < W
        · by_cases q1 : x ≤ i
          · by_cases q2 : i < x + n
            · by_cases q3 : y ≤ j
              · by_cases q4 : j < y + n
                · have d4 : decide ((j : Int) < (y : Int) + n) = true := by simp; omega
                  obtain ⟨z0, z1, z2, z3, z4, z5⟩ := P.out.cells
                  go_wp2_with fail
                  go_quiet (fail)
                  rename_i nq
                  have gQ : Below w.heap.size w (wr.drewN nq) := below_drewN' gP nq
                  have PQ := Lib.hid (P.out.ext (below_drewN' (Below.refl _ _) nq))
                  go_wp2
                  go_roundw
                  case rel => exact ⟨i + 1, by omega, by go_num, PQ.out, gQ⟩
                  case measure => simp [intOf]; omega
                · have d4 : decide ((j : Int) < (y : Int) + n) = false := by simp; omega
                  have CZ := Lib.hid (CA.out i j hli hlj (by omega))
                  generalize atV W H a i j = z at *
                  obtain ⟨z0, z1, z2, z3, z4, z5⟩ := P.out.cells
                  go_wp2_with fail
                  go_region_held3 (fun w' => w'.cell? ⟨w.heap.size, 0, none⟩ = some (.int .i64 W) ∧ w'.cell? ⟨w.heap.size, 1, none⟩ = some (.int .i64 H) ∧ w'.cell? ⟨w.heap.size, 2, none⟩ = some (.slice ao a.length cap) ∧ w'.cell? ⟨w3.heap.size, 0, none⟩ = some (.int .i64 W) ∧ w'.cell? ⟨w3.heap.size, 1, none⟩ = some (.int .i64 H) ∧ w'.cell? ⟨w3.heap.size, 2, none⟩ = some (.slice go L.length gc))
                    (first | go_keep | exact P.out.cells)
                    (first | (go_at_call 25; refine (CZ.out _ _ ?_).mono ?_; (first | exact .inl (P.out.fg.ext (by go_grown)) | exact .inr (P.out.fv.ext (by go_grown))); rintro e wN ⟨rfl, hbN⟩; replace gP := ext gP (ext (by go_grown) hbN); replace P := Lib.hid (P.out.ext (ext (by go_grown) hbN))))
                  all_goals go_wp2
                  all_goals go_roundw
                  case rel => exact ⟨i + 1, by omega, by go_num, P.out, gP⟩
                  case measure => simp [intOf]; omega
              · skip
                have CZ := Lib.hid (CA.out i j hli hlj (by omega))
                generalize atV W H a i j = z at *
                obtain ⟨z0, z1, z2, z3, z4, z5⟩ := P.out.cells
                go_wp2_with fail
                go_region_held3 (fun w' => w'.cell? ⟨w.heap.size, 0, none⟩ = some (.int .i64 W) ∧ w'.cell? ⟨w.heap.size, 1, none⟩ = some (.int .i64 H) ∧ w'.cell? ⟨w.heap.size, 2, none⟩ = some (.slice ao a.length cap) ∧ w'.cell? ⟨w3.heap.size, 0, none⟩ = some (.int .i64 W) ∧ w'.cell? ⟨w3.heap.size, 1, none⟩ = some (.int .i64 H) ∧ w'.cell? ⟨w3.heap.size, 2, none⟩ = some (.slice go L.length gc))
                  (first | go_keep | exact P.out.cells)
                  (first | (go_at_call 25; refine (CZ.out _ _ ?_).mono ?_; (first | exact .inl (P.out.fg.ext (by go_grown)) | exact .inr (P.out.fv.ext (by go_grown))); rintro e wN ⟨rfl, hbN⟩; replace gP := ext gP (ext (by go_grown) hbN); replace P := Lib.hid (P.out.ext (ext (by go_grown) hbN))))
                all_goals go_wp2
                all_goals go_roundw
                case rel => exact ⟨i + 1, by omega, by go_num, P.out, gP⟩
                case measure => simp [intOf]; omega
            · skip
              have CZ := Lib.hid (CA.out i j hli hlj (by omega))
              generalize atV W H a i j = z at *
              obtain ⟨z0, z1, z2, z3, z4, z5⟩ := P.out.cells
              go_wp2_with fail
              go_region_held3 (fun w' => w'.cell? ⟨w.heap.size, 0, none⟩ = some (.int .i64 W) ∧ w'.cell? ⟨w.heap.size, 1, none⟩ = some (.int .i64 H) ∧ w'.cell? ⟨w.heap.size, 2, none⟩ = some (.slice ao a.length cap) ∧ w'.cell? ⟨w3.heap.size, 0, none⟩ = some (.int .i64 W) ∧ w'.cell? ⟨w3.heap.size, 1, none⟩ = some (.int .i64 H) ∧ w'.cell? ⟨w3.heap.size, 2, none⟩ = some (.slice go L.length gc))
                (first | go_keep | exact P.out.cells)
                (first | (go_at_call 25; refine (CZ.out _ _ ?_).mono ?_; (first | exact .inl (P.out.fg.ext (by go_grown)) | exact .inr (P.out.fv.ext (by go_grown))); rintro e wN ⟨rfl, hbN⟩; replace gP := ext gP (ext (by go_grown) hbN); replace P := Lib.hid (P.out.ext (ext (by go_grown) hbN))))
              all_goals go_wp2
              all_goals go_roundw
              case rel => exact ⟨i + 1, by omega, by go_num, P.out, gP⟩
              case measure => simp [intOf]; omega
          · skip
            have CZ := Lib.hid (CA.out i j hli hlj (by omega))
            generalize atV W H a i j = z at *
            obtain ⟨z0, z1, z2, z3, z4, z5⟩ := P.out.cells
            go_wp2_with fail
            go_region_held3 (fun w' => w'.cell? ⟨w.heap.size, 0, none⟩ = some (.int .i64 W) ∧ w'.cell? ⟨w.heap.size, 1, none⟩ = some (.int .i64 H) ∧ w'.cell? ⟨w.heap.size, 2, none⟩ = some (.slice ao a.length cap) ∧ w'.cell? ⟨w3.heap.size, 0, none⟩ = some (.int .i64 W) ∧ w'.cell? ⟨w3.heap.size, 1, none⟩ = some (.int .i64 H) ∧ w'.cell? ⟨w3.heap.size, 2, none⟩ = some (.slice go L.length gc))
              (first | go_keep | exact P.out.cells)
              (first | (go_at_call 25; refine (CZ.out _ _ ?_).mono ?_; (first | exact .inl (P.out.fg.ext (by go_grown)) | exact .inr (P.out.fv.ext (by go_grown))); rintro e wN ⟨rfl, hbN⟩; replace gP := ext gP (ext (by go_grown) hbN); replace P := Lib.hid (P.out.ext (ext (by go_grown) hbN))))
            all_goals go_wp2
            all_goals go_roundw
            case rel => exact ⟨i + 1, by omega, by go_num, P.out, gP⟩
            case measure => simp [intOf]; omega
        · obtain ⟨z0, z1, z2, z3, z4, z5⟩ := P.out.cells
          go_wp2
          go_roundw
          case rel => exact ⟨j + 1, by omega, by go_num, P.out, gP⟩
          case measure => simp [intOf]; omega
    · go_wp2_with fail
      clear z0 z1 z2 z3 z4 z5
      refine (first_any _ (P.out.ty.ext (by go_grown))).mono ?_
      rintro e w8 ⟨rfl, hb8⟩
      go_wp2
      go_returns
      exact ⟨by first | rfl | (simp; done) | (simp; omega), ext gP hb8⟩

theorem back_walk (v bv : Value) (W H x y n : Int) (a b : List Int) (w : World) (hv : FrameV w v W H a) (hb : Ints w bv b) (hg : TypeIs w) :
    Calls Tryd.prog 5 #[v, .int .i64 x, .int .i64 y, .int .i64 n, bv] w fun e w' => e = .returned (.bool true) ∧ Below w.heap.size w w' := by
  by_cases h1 : a.length ≤ 5000
  · by_cases h2 : b.length ≤ 5000
    · by_cases h3 : putE W H a x y n b = 0
      · obtain ⟨W', H', x', y', n', rfl, rfl, rfl, rfl, rfl⟩ := put_nat h3
        exact back_ok v bv W' H' x' y' n' a b w hv hb hg h1 h2 (fit_iff.1 h3)
      · exact back_no v bv W H x y n a b w hv hb hg h1 h2 h3
    · exact back_long1 v bv W H x y n a b w hv hb hg h1 (by omega)
  · exact back_long0 v bv W H x y n a b w hv hb hg (by omega)
end Go.Proofs.YtlpifjnjddgfaaaDoor
