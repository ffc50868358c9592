/- kinlaw7.BlockTwo, BlockSads: the walks. -/
import Derived.Test.YtceobpoibiffhaaDoorBlockF
set_option linter.unusedSimpArgs false
set_option linter.unusedVariables false
namespace Go.Proofs.YtceobpoibiffhaaDoor
open Go.RowKit Go.Extern.Stop Go.Stop Go.Extern

theorem two_long (v u : Value) (a b : List Int) (w : World) (hv : Ints w v a) (hu : Ints w u b) (hg : TypeIs w) (hl : 5000 < a.length ∨ 5000 < b.length) :
    Calls Tryd.prog 3 #[v, u] w fun e w' => e = .returned (.bool true) ∧ Below w.heap.size w w' := by
  obtain ⟨vo, vp, rfl, _⟩ := hv
  obtain ⟨uo, up, rfl, _⟩ := hu
  have HG := Lib.hid hg
  by_cases h0 : 5000 < a.length
  · clear hl
    go_enter Tryd.func3, Tryd.ntmps3
    have g0 : Below w.heap.size w w := Below.refl _ _
    go_wp2_with fail
    refine (first_any _ (HG.out.ext (by go_grown))).mono ?_
    rintro e w1 ⟨rfl, hb1⟩
    have j1 : Below w.heap.size w w1 := ext (by go_grown) hb1
    have g1 : Below w.heap.size w w1 := ext g0 j1
    have s1 := j1.size
    have t1 := g1.size
    go_wp2_with fail
    refine (first_any _ ((HG.out.ext j1).ext (by go_grown))).mono ?_
    rintro e w2 ⟨rfl, hb2⟩
    have j2 : Below w1.heap.size w1 w2 := ext (by go_grown) hb2
    have g2 : Below w.heap.size w w2 := ext g1 j2
    have s2 := j2.size
    have t2 := g2.size
    go_wp2
    all_goals go_returns
    all_goals exact ⟨by first | rfl | (simp; done) | (simp; omega), g2⟩
  · have h1 : 5000 < b.length := by omega
    clear hl
    go_enter Tryd.func3, Tryd.ntmps3
    have g0 : Below w.heap.size w w := Below.refl _ _
    go_wp2_with fail
    refine (first_any _ (HG.out.ext (by go_grown))).mono ?_
    rintro e w1 ⟨rfl, hb1⟩
    have j1 : Below w.heap.size w w1 := ext (by go_grown) hb1
    have g1 : Below w.heap.size w w1 := ext g0 j1
    have s1 := j1.size
    have t1 := g1.size
    go_wp2_with fail
    refine (first_any _ ((HG.out.ext j1).ext (by go_grown))).mono ?_
    rintro e w2 ⟨rfl, hb2⟩
    have j2 : Below w1.heap.size w1 w2 := ext (by go_grown) hb2
    have g2 : Below w.heap.size w w2 := ext g1 j2
    have s2 := j2.size
    have t2 := g2.size
    go_wp2
    all_goals go_returns
    all_goals exact ⟨by first | rfl | (simp; done) | (simp; omega), g2⟩

set_option maxRecDepth 100000 in
set_option maxHeartbeats 4000000 in
theorem two_short (v u : Value) (a b : List Int) (w : World) (hv : Ints w v a) (hu : Ints w u b) (hg : TypeIs w) (h1 : a.length ≤ 5000) (h2 : b.length ≤ 5000) :
    Calls Tryd.prog 3 #[v, u] w fun e w' => e = .returned (.bool true) ∧ Below w.heap.size w w' := by
  obtain ⟨ao, cap, rfl⟩ := hv.shape
  obtain ⟨ao2, cap2, rfl⟩ := hu.shape
  have HG := Lib.hid hg
  have HV := Lib.hid hv
  have HU := Lib.hid hu
  have C1 := Lib.hid (fun v u w hv hu => psub_any v u a b w hv hu h1)
  have C2 := Lib.hid (fun v u w hv hu => rsub_any v u a b w hv hu h1)
  have C3 := Lib.hid (fun v u w hv hu => padd_any v u a b w hv hu h1)
  have C4 := Lib.hid (fun v u w hv hu => radd_any v u a b w hv hu h1)
  have C5 := Lib.hid (fun v u w hv hu => psad_any v u a b w hv hu h1)
  have C6 := Lib.hid (fun v u w hv hu => rsad_any v u a b w hv hu h1)
  clear hg hv hu
  generalize okI (bothE a b) (sadV a b) = sd at *
  go_enter Tryd.func3, Tryd.ntmps3
  have g0 : Below w.heap.size w w := Below.refl _ _
  go_wp2_with fail
  refine (first_any _ (HG.out.ext (by go_grown))).mono ?_
  rintro e w1 ⟨rfl, hb1⟩
  have j1 : Below w.heap.size w w1 := ext (by go_grown) hb1
  have g1 : Below w.heap.size w w1 := ext g0 j1
  have s1 := j1.size
  have t1 := g1.size
  go_wp2_with fail
  refine (copy_any _ _ _ ((HV.out.ext j1).ext (by go_grown)) (by omega)).mono ?_
  rintro e w2 ⟨x, rfl, hx, hb2⟩
  have j2 : Below w1.heap.size w1 w2 := ext (by go_grown) hb2
  have g2 : Below w.heap.size w w2 := ext g1 j2
  have s2 := j2.size
  have t2 := g2.size
  have HX := Lib.hid (hx.ints)
  clear hx
  go_wp2_with fail
  refine (copy_any _ _ _ (((HU.out.ext j1).ext j2).ext (by go_grown)) (by omega)).mono ?_
  rintro e w3 ⟨y, rfl, hy, hb3⟩
  have j3 : Below w2.heap.size w2 w3 := ext (by go_grown) hb3
  have g3 : Below w.heap.size w w3 := ext g2 j3
  have s3 := j3.size
  have t3 := g3.size
  have HY := Lib.hid (hy.ints)
  clear hy
  go_wp2_with fail
  refine (C1.out _ _ _ ((HX.out.ext j3).ext (by go_grown)) (HY.out.ext (by go_grown))).mono ?_
  rintro e w4 ⟨c, rfl, hc, hb4⟩
  have j4 : Below w3.heap.size w3 w4 := ext (by go_grown) hb4
  have g4 : Below w.heap.size w w4 := ext g3 j4
  have s4 := j4.size
  have t4 := g4.size
  have HC := Lib.hid (hc.ints)
  clear hc
  go_wp2_with fail
  refine (C2.out _ _ _ (((((HV.out.ext j1).ext j2).ext j3).ext j4).ext (by go_grown)) (((((HU.out.ext j1).ext j2).ext j3).ext j4).ext (by go_grown))).mono ?_
  rintro e w5 ⟨d, rfl, hd, hb5⟩
  have j5 : Below w4.heap.size w4 w5 := ext (by go_grown) hb5
  have g5 : Below w.heap.size w w5 := ext g4 j5
  have s5 := j5.size
  have t5 := g5.size
  have HD := Lib.hid (hd.ints)
  clear hd
  go_wp2_with fail
  refine (C3.out _ _ _ ((((HX.out.ext j3).ext j4).ext j5).ext (by go_grown)) (((HY.out.ext j4).ext j5).ext (by go_grown))).mono ?_
  rintro e w6 ⟨g, rfl, hgg, hb6⟩
  have j6 : Below w5.heap.size w5 w6 := ext (by go_grown) hb6
  have g6 : Below w.heap.size w w6 := ext g5 j6
  have s6 := j6.size
  have t6 := g6.size
  have HGG := Lib.hid (hgg.ints)
  clear hgg
  have EF := Lib.hid ((Blk.new w5 #[.int .i64 (bothE a b), .slice none 0 0] 32).ext hb6)
  go_wp2_with fail
  refine (C4.out _ _ _ (((((((HV.out.ext j1).ext j2).ext j3).ext j4).ext j5).ext j6).ext (by go_grown)) (((((((HU.out.ext j1).ext j2).ext j3).ext j4).ext j5).ext j6).ext (by go_grown))).mono ?_
  rintro e w7 ⟨i, rfl, hi, hb7⟩
  have j7 : Below w6.heap.size w6 w7 := ext (by go_grown) hb7
  have g7 : Below w.heap.size w w7 := ext g6 j7
  have s7 := j7.size
  have t7 := g7.size
  have HI := Lib.hid (hi.ints)
  clear hi
  go_wp2_with fail
  refine (C5.out _ _ _ ((((((HX.out.ext j3).ext j4).ext j5).ext j6).ext j7).ext (by go_grown)) (((((HY.out.ext j4).ext j5).ext j6).ext j7).ext (by go_grown))).mono ?_
  rintro e w8 ⟨rfl, hb8⟩
  have j8 : Below w7.heap.size w7 w8 := ext (by go_grown) hb8
  have g8 : Below w.heap.size w w8 := ext g7 j8
  have s8 := j8.size
  have t8 := g8.size
  have EJ := Lib.hid ((Blk.new w7 #[.int .i64 (bothE a b), .slice none 0 0] 32).ext hb8)
  go_wp2_with fail
  refine (C6.out _ _ _ (((((((((HV.out.ext j1).ext j2).ext j3).ext j4).ext j5).ext j6).ext j7).ext j8).ext (by go_grown)) (((((((((HU.out.ext j1).ext j2).ext j3).ext j4).ext j5).ext j6).ext j7).ext j8).ext (by go_grown))).mono ?_
  rintro e w9 ⟨rfl, hb9⟩
  have j9 : Below w8.heap.size w8 w9 := ext (by go_grown) hb9
  have g9 : Below w.heap.size w w9 := ext g8 j9
  have s9 := j9.size
  have t9 := g9.size
  go_wp2_with fail
  refine (first_any _ ((((((((((HG.out.ext j1).ext j2).ext j3).ext j4).ext j5).ext j6).ext j7).ext j8).ext j9).ext (by go_grown))).mono ?_
  rintro e w10 ⟨rfl, hb10⟩
  have j10 : Below w9.heap.size w9 w10 := ext (by go_grown) hb10
  have g10 : Below w.heap.size w w10 := ext g9 j10
  have s10 := j10.size
  have t10 := g10.size
  have EN := Lib.hid ((Blk.new w9 #[.int .i64 (bothE a b), .slice none 0 0] 32).ext hb10)
  go_wp2_with fail
  refine (ints_any _ _ _ _ _ (((((((HC.out.ext j5).ext j6).ext j7).ext j8).ext j9).ext j10).ext (by go_grown)) ((((((HD.out.ext j6).ext j7).ext j8).ext j9).ext j10).ext (by go_grown))).mono ?_
  rintro e w11 ⟨rfl, hb11⟩
  have j11 : Below w10.heap.size w10 w11 := ext (by go_grown) hb11
  have g11 : Below w.heap.size w w11 := ext g10 j11
  have s11 := j11.size
  have t11 := g11.size
  simp only [decide_true]
  obtain ⟨EF0, EF1, EF2, EF3⟩ := (((((EF.out.ext j7).ext j8).ext j9).ext j10).ext j11).two
  go_wp2_with fail
  clear EF0 EF1 EF2 EF3
  refine (same_any _ _ ((((((((((((HG.out.ext j1).ext j2).ext j3).ext j4).ext j5).ext j6).ext j7).ext j8).ext j9).ext j10).ext j11).ext (by go_grown))).mono ?_
  rintro e w12 ⟨rfl, hb12⟩
  have j12 : Below w11.heap.size w11 w12 := ext (by go_grown) hb12
  have g12 : Below w.heap.size w w12 := ext g11 j12
  have s12 := j12.size
  have t12 := g12.size
  go_wp2_with fail
  refine (ints_any _ _ _ _ _ (((((((HGG.out.ext j7).ext j8).ext j9).ext j10).ext j11).ext j12).ext (by go_grown)) ((((((HI.out.ext j8).ext j9).ext j10).ext j11).ext j12).ext (by go_grown))).mono ?_
  rintro e w13 ⟨rfl, hb13⟩
  have j13 : Below w12.heap.size w12 w13 := ext (by go_grown) hb13
  have g13 : Below w.heap.size w w13 := ext g12 j13
  have s13 := j13.size
  have t13 := g13.size
  simp only [decide_true]
  obtain ⟨EJ0, EJ1, EJ2, EJ3⟩ := (((((EJ.out.ext j9).ext j10).ext j11).ext j12).ext j13).two
  go_wp2_with fail
  clear EJ0 EJ1 EJ2 EJ3
  refine (same_any _ _ ((((((((((((((HG.out.ext j1).ext j2).ext j3).ext j4).ext j5).ext j6).ext j7).ext j8).ext j9).ext j10).ext j11).ext j12).ext j13).ext (by go_grown))).mono ?_
  rintro e w14 ⟨rfl, hb14⟩
  have j14 : Below w13.heap.size w13 w14 := ext (by go_grown) hb14
  have g14 : Below w.heap.size w w14 := ext g13 j14
  have s14 := j14.size
  have t14 := g14.size
  obtain ⟨EN0, EN1, EN2, EN3⟩ := ((((EN.out.ext j11).ext j12).ext j13).ext j14).two
  go_wp2_with fail
  clear EN0 EN1 EN2 EN3
  refine (same_any _ _ (((((((((((((((HG.out.ext j1).ext j2).ext j3).ext j4).ext j5).ext j6).ext j7).ext j8).ext j9).ext j10).ext j11).ext j12).ext j13).ext j14).ext (by go_grown))).mono ?_
  rintro e w15 ⟨rfl, hb15⟩
  have j15 : Below w14.heap.size w14 w15 := ext (by go_grown) hb15
  have g15 : Below w.heap.size w w15 := ext g14 j15
  have s15 := j15.size
  have t15 := g15.size
  go_wp2_with fail
  refine (ints_any _ _ _ _ _ ((((((((((((((HX.out.ext j3).ext j4).ext j5).ext j6).ext j7).ext j8).ext j9).ext j10).ext j11).ext j12).ext j13).ext j14).ext j15).ext (by go_grown)) ((((((((((((((((HV.out.ext j1).ext j2).ext j3).ext j4).ext j5).ext j6).ext j7).ext j8).ext j9).ext j10).ext j11).ext j12).ext j13).ext j14).ext j15).ext (by go_grown))).mono ?_
  rintro e w16 ⟨rfl, hb16⟩
  have j16 : Below w15.heap.size w15 w16 := ext (by go_grown) hb16
  have g16 : Below w.heap.size w w16 := ext g15 j16
  have s16 := j16.size
  have t16 := g16.size
  simp only [decide_true]
  go_wp2_with fail
  refine (ints_any _ _ _ _ _ ((((((((((((((HY.out.ext j4).ext j5).ext j6).ext j7).ext j8).ext j9).ext j10).ext j11).ext j12).ext j13).ext j14).ext j15).ext j16).ext (by go_grown)) (((((((((((((((((HU.out.ext j1).ext j2).ext j3).ext j4).ext j5).ext j6).ext j7).ext j8).ext j9).ext j10).ext j11).ext j12).ext j13).ext j14).ext j15).ext j16).ext (by go_grown))).mono ?_
  rintro e w17 ⟨rfl, hb17⟩
  have j17 : Below w16.heap.size w16 w17 := ext (by go_grown) hb17
  have g17 : Below w.heap.size w w17 := ext g16 j17
  have s17 := j17.size
  have t17 := g17.size
  simp only [decide_true]
  go_wp2
  all_goals go_returns
  all_goals exact ⟨by first | rfl | (simp; done) | (simp; omega), g17⟩

theorem two_walk (v u : Value) (a b : List Int) (w : World) (hv : Ints w v a) (hu : Ints w u b) (hg : TypeIs w) :
    Calls Tryd.prog 3 #[v, u] w fun e w' => e = .returned (.bool true) ∧ Below w.heap.size w w' := by
  by_cases h : a.length ≤ 5000 ∧ b.length ≤ 5000
  · exact two_short v u a b w hv hu hg h.1 h.2
  · exact two_long v u a b w hv hu hg (by omega)

theorem sads_long (v u z : Value) (a b c : List Int) (w : World) (hv : Ints w v a) (hu : Ints w u b) (hz : Ints w z c) (hg : TypeIs w) (hl : 5000 < a.length ∨ 5000 < b.length ∨ 5000 < c.length) :
    Calls Tryd.prog 5 #[v, u, z] w fun e w' => e = .returned (.bool true) ∧ Below w.heap.size w w' := by
  obtain ⟨vo, vp, rfl, _⟩ := hv
  obtain ⟨uo, up, rfl, _⟩ := hu
  obtain ⟨zo, zp, rfl, _⟩ := hz
  have HG := Lib.hid hg
  by_cases h0 : 5000 < a.length
  · clear hl
    go_enter Tryd.func5, Tryd.ntmps5
    have g0 : Below w.heap.size w w := Below.refl _ _
    go_wp2_with fail
    refine (first_any _ (HG.out.ext (by go_grown))).mono ?_
    rintro e w1 ⟨rfl, hb1⟩
    have j1 : Below w.heap.size w w1 := ext (by go_grown) hb1
    have g1 : Below w.heap.size w w1 := ext g0 j1
    have s1 := j1.size
    have t1 := g1.size
    go_wp2_with fail
    refine (first_any _ ((HG.out.ext j1).ext (by go_grown))).mono ?_
    rintro e w2 ⟨rfl, hb2⟩
    have j2 : Below w1.heap.size w1 w2 := ext (by go_grown) hb2
    have g2 : Below w.heap.size w w2 := ext g1 j2
    have s2 := j2.size
    have t2 := g2.size
    go_wp2
    all_goals go_returns
    all_goals exact ⟨by first | rfl | (simp; done) | (simp; omega), g2⟩
  · by_cases h1 : 5000 < b.length
    · clear hl
      go_enter Tryd.func5, Tryd.ntmps5
      have g0 : Below w.heap.size w w := Below.refl _ _
      go_wp2_with fail
      refine (first_any _ (HG.out.ext (by go_grown))).mono ?_
      rintro e w1 ⟨rfl, hb1⟩
      have j1 : Below w.heap.size w w1 := ext (by go_grown) hb1
      have g1 : Below w.heap.size w w1 := ext g0 j1
      have s1 := j1.size
      have t1 := g1.size
      go_wp2_with fail
      refine (first_any _ ((HG.out.ext j1).ext (by go_grown))).mono ?_
      rintro e w2 ⟨rfl, hb2⟩
      have j2 : Below w1.heap.size w1 w2 := ext (by go_grown) hb2
      have g2 : Below w.heap.size w w2 := ext g1 j2
      have s2 := j2.size
      have t2 := g2.size
      go_wp2
      all_goals go_returns
      all_goals exact ⟨by first | rfl | (simp; done) | (simp; omega), g2⟩
    · have h2 : 5000 < c.length := by omega
      clear hl
      go_enter Tryd.func5, Tryd.ntmps5
      have g0 : Below w.heap.size w w := Below.refl _ _
      go_wp2_with fail
      refine (first_any _ (HG.out.ext (by go_grown))).mono ?_
      rintro e w1 ⟨rfl, hb1⟩
      have j1 : Below w.heap.size w w1 := ext (by go_grown) hb1
      have g1 : Below w.heap.size w w1 := ext g0 j1
      have s1 := j1.size
      have t1 := g1.size
      go_wp2_with fail
      refine (first_any _ ((HG.out.ext j1).ext (by go_grown))).mono ?_
      rintro e w2 ⟨rfl, hb2⟩
      have j2 : Below w1.heap.size w1 w2 := ext (by go_grown) hb2
      have g2 : Below w.heap.size w w2 := ext g1 j2
      have s2 := j2.size
      have t2 := g2.size
      go_wp2
      all_goals go_returns
      all_goals exact ⟨by first | rfl | (simp; done) | (simp; omega), g2⟩

set_option maxRecDepth 100000 in
set_option maxHeartbeats 4000000 in
theorem sads_e (v u z : Value) (a b c : List Int) (w : World) (hv : Ints w v a) (hu : Ints w u b) (hz : Ints w z c) (hg : TypeIs w) (h1 : a.length ≤ 5000) (h2 : b.length ≤ 5000) (h3 : c.length ≤ 5000) (he : bothE a b ≠ 0) :
    Calls Tryd.prog 5 #[v, u, z] w fun e w' => e = .returned (.bool true) ∧ Below w.heap.size w w' := by
  have HG := Lib.hid hg
  have HV := Lib.hid hv
  have HU := Lib.hid hu
  have HZ := Lib.hid hz
  have c1 := fun w hv hu => psad_any v u a b w hv hu h1
  have c2 := fun w hv hu => psad_any u v b a w hv hu h2
  have c3 := fun w hv hu => psad_any u z b c w hv hu h2
  have c4 := fun w hv hu => psad_any v z a c w hv hu h1
  obtain ⟨ao, cap, rfl⟩ := hv.shape
  obtain ⟨ao2, cap2, rfl⟩ := hu.shape
  obtain ⟨ao3, cap3, rfl⟩ := hz.shape
  have he0 : (bothE a b == 0) = false := by simpa using he
  rw [bothE_comm b a, okI_ne he] at c2
  rw [okI_ne he] at c1
  have C1 := Lib.hid c1
  have C2 := Lib.hid c2
  have C3 := Lib.hid c3
  have C4 := Lib.hid c4
  clear c1 c2 c3 c4 hg hv hu hz he
  generalize bothE a b = k at *
  generalize okI (bothE b c) (sadV b c) = s3 at *
  generalize okI (bothE a c) (sadV a c) = s4 at *
  generalize bothE b c = k3 at *
  generalize bothE a c = k4 at *
  go_enter Tryd.func5, Tryd.ntmps5
  have g0 : Below w.heap.size w w := Below.refl _ _
  go_wp2_with fail
  refine (first_any _ (HG.out.ext (by go_grown))).mono ?_
  rintro e w1 ⟨rfl, hb1⟩
  have j1 : Below w.heap.size w w1 := ext (by go_grown) hb1
  have g1 : Below w.heap.size w w1 := ext g0 j1
  have s1 := j1.size
  have t1 := g1.size
  go_wp2_with fail
  refine (C1.out _ ((HV.out.ext j1).ext (by go_grown)) ((HU.out.ext j1).ext (by go_grown))).mono ?_
  rintro e w2 ⟨rfl, hb2⟩
  have j2 : Below w1.heap.size w1 w2 := ext (by go_grown) hb2
  have g2 : Below w.heap.size w w2 := ext g1 j2
  have s2 := j2.size
  have t2 := g2.size
  go_wp2_with fail
  refine (C2.out _ (((HU.out.ext j1).ext j2).ext (by go_grown)) (((HV.out.ext j1).ext j2).ext (by go_grown))).mono ?_
  rintro e w3 ⟨rfl, hb3⟩
  have j3 : Below w2.heap.size w2 w3 := ext (by go_grown) hb3
  have g3 : Below w.heap.size w w3 := ext g2 j3
  have s3 := j3.size
  have t3 := g3.size
  go_wp2_with fail
  refine (C3.out _ ((((HU.out.ext j1).ext j2).ext j3).ext (by go_grown)) ((((HZ.out.ext j1).ext j2).ext j3).ext (by go_grown))).mono ?_
  rintro e w4 ⟨rfl, hb4⟩
  have j4 : Below w3.heap.size w3 w4 := ext (by go_grown) hb4
  have g4 : Below w.heap.size w w4 := ext g3 j4
  have s4 := j4.size
  have t4 := g4.size
  go_wp2_with fail
  refine (C4.out _ (((((HV.out.ext j1).ext j2).ext j3).ext j4).ext (by go_grown)) (((((HZ.out.ext j1).ext j2).ext j3).ext j4).ext (by go_grown))).mono ?_
  rintro e w5 ⟨rfl, hb5⟩
  have j5 : Below w4.heap.size w4 w5 := ext (by go_grown) hb5
  have g5 : Below w.heap.size w w5 := ext g4 j5
  have s5 := j5.size
  have t5 := g5.size
  go_wp2_with fail
  go_quiet (fail)
  rename_i nq
  have j6 : Below w5.heap.size w5 (w5.drewN nq) := below_drewN' (Below.refl _ _) nq
  generalize hq6 : w5.drewN nq = w6 at *
  clear hq6
  have g6 : Below w.heap.size w w6 := ext g5 j6
  have s6 := j6.size
  have t6 := g6.size
  go_wp2_with fail
  refine (first_any _ (((((((HG.out.ext j1).ext j2).ext j3).ext j4).ext j5).ext j6).ext (by go_grown))).mono ?_
  rintro e w7 ⟨rfl, hb7⟩
  have j7 : Below w6.heap.size w6 w7 := ext (by go_grown) hb7
  have g7 : Below w.heap.size w w7 := ext g6 j7
  have s7 := j7.size
  have t7 := g7.size
  go_wp2
  all_goals go_returns
  all_goals exact ⟨by first | rfl | (simp; done) | (simp; omega), g7⟩

set_option maxRecDepth 100000 in
set_option maxHeartbeats 4000000 in
theorem sads_g (v u z : Value) (a b c : List Int) (w : World) (hv : Ints w v a) (hu : Ints w u b) (hz : Ints w z c) (hg : TypeIs w) (h1 : a.length ≤ 5000) (h2 : b.length ≤ 5000) (h3 : c.length ≤ 5000) (he : bothE a b = 0) (hq : bothE b c ≠ 0) :
    Calls Tryd.prog 5 #[v, u, z] w fun e w' => e = .returned (.bool true) ∧ Below w.heap.size w w' := by
  have HG := Lib.hid hg
  have HV := Lib.hid hv
  have HU := Lib.hid hu
  have HZ := Lib.hid hz
  have c1 := fun w hv hu => psad_any v u a b w hv hu h1
  have c2 := fun w hv hu => psad_any u v b a w hv hu h2
  have c3 := fun w hv hu => psad_any u z b c w hv hu h2
  have c4 := fun w hv hu => psad_any v z a c w hv hu h1
  obtain ⟨ao, cap, rfl⟩ := hv.shape
  obtain ⟨ao2, cap2, rfl⟩ := hu.shape
  obtain ⟨ao3, cap3, rfl⟩ := hz.shape
  have hq0 : (bothE b c == 0) = false := by simpa using hq
  rw [bothE_comm b a, ← sad_comm (bothE_zero he).1, he, okI_zero rfl] at c2
  rw [he, okI_zero rfl] at c1
  have C1 := Lib.hid c1
  have C2 := Lib.hid c2
  have C3 := Lib.hid c3
  have C4 := Lib.hid c4
  clear c1 c2 c3 c4 hg hv hu hz he hq
  generalize sadV a b = s1 at *
  generalize okI (bothE b c) (sadV b c) = s3 at *
  generalize okI (bothE a c) (sadV a c) = s4 at *
  generalize bothE b c = k3 at *
  generalize bothE a c = k4 at *
  go_enter Tryd.func5, Tryd.ntmps5
  have g0 : Below w.heap.size w w := Below.refl _ _
  go_wp2_with fail
  refine (first_any _ (HG.out.ext (by go_grown))).mono ?_
  rintro e w1 ⟨rfl, hb1⟩
  have j1 : Below w.heap.size w w1 := ext (by go_grown) hb1
  have g1 : Below w.heap.size w w1 := ext g0 j1
  have s1 := j1.size
  have t1 := g1.size
  go_wp2_with fail
  refine (C1.out _ ((HV.out.ext j1).ext (by go_grown)) ((HU.out.ext j1).ext (by go_grown))).mono ?_
  rintro e w2 ⟨rfl, hb2⟩
  have j2 : Below w1.heap.size w1 w2 := ext (by go_grown) hb2
  have g2 : Below w.heap.size w w2 := ext g1 j2
  have s2 := j2.size
  have t2 := g2.size
  go_wp2_with fail
  refine (C2.out _ (((HU.out.ext j1).ext j2).ext (by go_grown)) (((HV.out.ext j1).ext j2).ext (by go_grown))).mono ?_
  rintro e w3 ⟨rfl, hb3⟩
  have j3 : Below w2.heap.size w2 w3 := ext (by go_grown) hb3
  have g3 : Below w.heap.size w w3 := ext g2 j3
  have s3 := j3.size
  have t3 := g3.size
  go_wp2_with fail
  refine (C3.out _ ((((HU.out.ext j1).ext j2).ext j3).ext (by go_grown)) ((((HZ.out.ext j1).ext j2).ext j3).ext (by go_grown))).mono ?_
  rintro e w4 ⟨rfl, hb4⟩
  have j4 : Below w3.heap.size w3 w4 := ext (by go_grown) hb4
  have g4 : Below w.heap.size w w4 := ext g3 j4
  have s4 := j4.size
  have t4 := g4.size
  go_wp2_with fail
  refine (C4.out _ (((((HV.out.ext j1).ext j2).ext j3).ext j4).ext (by go_grown)) (((((HZ.out.ext j1).ext j2).ext j3).ext j4).ext (by go_grown))).mono ?_
  rintro e w5 ⟨rfl, hb5⟩
  have j5 : Below w4.heap.size w4 w5 := ext (by go_grown) hb5
  have g5 : Below w.heap.size w w5 := ext g4 j5
  have s5 := j5.size
  have t5 := g5.size
  go_wp2_with fail
  go_quiet (fail)
  rename_i nq
  have j6 : Below w5.heap.size w5 (w5.drewN nq) := below_drewN' (Below.refl _ _) nq
  generalize hq6 : w5.drewN nq = w6 at *
  clear hq6
  have g6 : Below w.heap.size w w6 := ext g5 j6
  have s6 := j6.size
  have t6 := g6.size
  go_wp2_with fail
  refine (first_any _ (((((((HG.out.ext j1).ext j2).ext j3).ext j4).ext j5).ext j6).ext (by go_grown))).mono ?_
  rintro e w7 ⟨rfl, hb7⟩
  have j7 : Below w6.heap.size w6 w7 := ext (by go_grown) hb7
  have g7 : Below w.heap.size w w7 := ext g6 j7
  have s7 := j7.size
  have t7 := g7.size
  go_wp2
  all_goals go_returns
  all_goals exact ⟨by first | rfl | (simp; done) | (simp; omega), g7⟩

set_option maxRecDepth 100000 in
set_option maxHeartbeats 4000000 in
theorem sads_ok (v u z : Value) (a b c : List Int) (w : World) (hv : Ints w v a) (hu : Ints w u b) (hz : Ints w z c) (hg : TypeIs w) (h1 : a.length ≤ 5000) (h2 : b.length ≤ 5000) (h3 : c.length ≤ 5000) (he : bothE a b = 0) (hq : bothE b c = 0) :
    Calls Tryd.prog 5 #[v, u, z] w fun e w' => e = .returned (.bool true) ∧ Below w.heap.size w w' := by
  have HG := Lib.hid hg
  have HV := Lib.hid hv
  have HU := Lib.hid hu
  have HZ := Lib.hid hz
  have c1 := fun w hv hu => psad_any v u a b w hv hu h1
  have c2 := fun w hv hu => psad_any u v b a w hv hu h2
  have c3 := fun w hv hu => psad_any u z b c w hv hu h2
  have c4 := fun w hv hu => psad_any v z a c w hv hu h1
  obtain ⟨ao, cap, rfl⟩ := hv.shape
  obtain ⟨ao2, cap2, rfl⟩ := hu.shape
  obtain ⟨ao3, cap3, rfl⟩ := hz.shape
  obtain ⟨e1, e2, e3⟩ := bothE_zero he
  obtain ⟨e4, e5, e6⟩ := bothE_zero hq
  have hr : bothE a c = 0 := bothE_ok (e1.trans e4) e2 e6
  have ht := sad_tri (a := a) (b := b) (c := c) e1
  have h0 := sad_nonneg a b
  have hzero := sad_zero (a := a) (b := b) e1
  have hb1 := (sad_bd (by omega) e2 e3).2
  have hb2 := (sad_bd (by omega) e5 e6).2
  have hn3 := sad_nonneg b c
  have hbx : (a.length : Int) * (2 * 1048576) ≤ 5000 * 2097152 := by omega
  have hby : (b.length : Int) * (2 * 1048576) ≤ 5000 * 2097152 := by omega
  have hs1 : sadV a b ≤ 10485760000 := by omega
  have hs3 : sadV b c ≤ 10485760000 := by omega
  have hab : (sadV a b == 0) = decide (a = b) := by
    by_cases h : a = b
    · rw [decide_eq_true h, beq_iff_eq]; exact hzero.2 h
    · rw [decide_eq_false h, beq_eq_false_iff_ne]; exact fun e => h (hzero.1 e)
  rw [bothE_comm b a, ← sad_comm e1, he, okI_zero rfl] at c2
  rw [he, okI_zero rfl] at c1
  rw [hq, okI_zero rfl] at c3
  rw [hr, okI_zero rfl] at c4
  have C1 := Lib.hid c1
  have C2 := Lib.hid c2
  have C3 := Lib.hid c3
  have C4 := Lib.hid c4
  clear c1 c2 c3 c4 hg hv hu hz he hq e1 e2 e3 e4 e5 e6 hr hzero hb1 hb2 hbx hby
  generalize sadV a b = s1 at *
  generalize sadV b c = s3 at *
  generalize sadV a c = s4 at *
  go_enter Tryd.func5, Tryd.ntmps5
  have g0 : Below w.heap.size w w := Below.refl _ _
  go_wp2_with fail
  refine (first_any _ (HG.out.ext (by go_grown))).mono ?_
  rintro e w1 ⟨rfl, hb1⟩
  have j1 : Below w.heap.size w w1 := ext (by go_grown) hb1
  have g1 : Below w.heap.size w w1 := ext g0 j1
  have s1 := j1.size
  have t1 := g1.size
  go_wp2_with fail
  refine (C1.out _ ((HV.out.ext j1).ext (by go_grown)) ((HU.out.ext j1).ext (by go_grown))).mono ?_
  rintro e w2 ⟨rfl, hb2⟩
  have j2 : Below w1.heap.size w1 w2 := ext (by go_grown) hb2
  have g2 : Below w.heap.size w w2 := ext g1 j2
  have s2 := j2.size
  have t2 := g2.size
  go_wp2_with fail
  refine (C2.out _ (((HU.out.ext j1).ext j2).ext (by go_grown)) (((HV.out.ext j1).ext j2).ext (by go_grown))).mono ?_
  rintro e w3 ⟨rfl, hb3⟩
  have j3 : Below w2.heap.size w2 w3 := ext (by go_grown) hb3
  have g3 : Below w.heap.size w w3 := ext g2 j3
  have s3 := j3.size
  have t3 := g3.size
  go_wp2_with fail
  refine (C3.out _ ((((HU.out.ext j1).ext j2).ext j3).ext (by go_grown)) ((((HZ.out.ext j1).ext j2).ext j3).ext (by go_grown))).mono ?_
  rintro e w4 ⟨rfl, hb4⟩
  have j4 : Below w3.heap.size w3 w4 := ext (by go_grown) hb4
  have g4 : Below w.heap.size w w4 := ext g3 j4
  have s4 := j4.size
  have t4 := g4.size
  go_wp2_with fail
  refine (C4.out _ (((((HV.out.ext j1).ext j2).ext j3).ext j4).ext (by go_grown)) (((((HZ.out.ext j1).ext j2).ext j3).ext j4).ext (by go_grown))).mono ?_
  rintro e w5 ⟨rfl, hb5⟩
  have j5 : Below w4.heap.size w4 w5 := ext (by go_grown) hb5
  have g5 : Below w.heap.size w w5 := ext g4 j5
  have s5 := j5.size
  have t5 := g5.size
  go_wp2_with fail
  go_quiet (fail)
  rename_i nq
  have j6 : Below w5.heap.size w5 (w5.drewN nq) := below_drewN' (Below.refl _ _) nq
  generalize hq6 : w5.drewN nq = w6 at *
  clear hq6
  have g6 : Below w.heap.size w w6 := ext g5 j6
  have s6 := j6.size
  have t6 := g6.size
  go_wp2_with fail
  refine (first_any _ (((((((HG.out.ext j1).ext j2).ext j3).ext j4).ext j5).ext j6).ext (by go_grown))).mono ?_
  rintro e w7 ⟨rfl, hb7⟩
  have j7 : Below w6.heap.size w6 w7 := ext (by go_grown) hb7
  have g7 : Below w.heap.size w w7 := ext g6 j7
  have s7 := j7.size
  have t7 := g7.size
  go_wp2_with fail
  refine (ints_any _ _ _ _ _ ((((((((HV.out.ext j1).ext j2).ext j3).ext j4).ext j5).ext j6).ext j7).ext (by go_grown)) ((((((((HU.out.ext j1).ext j2).ext j3).ext j4).ext j5).ext j6).ext j7).ext (by go_grown))).mono ?_
  rintro e w8 ⟨rfl, hb8⟩
  have j8 : Below w7.heap.size w7 w8 := ext (by go_grown) hb8
  have g8 : Below w.heap.size w w8 := ext g7 j8
  have s8 := j8.size
  have t8 := g8.size
  go_wp2
  all_goals go_returns
  all_goals exact ⟨by first | rfl | (simp; done) | (simp; omega), g8⟩

theorem sads_walk (v u z : Value) (a b c : List Int) (w : World) (hv : Ints w v a) (hu : Ints w u b) (hz : Ints w z c) (hg : TypeIs w) :
    Calls Tryd.prog 5 #[v, u, z] w fun e w' => e = .returned (.bool true) ∧ Below w.heap.size w w' := by
  by_cases h : a.length ≤ 5000 ∧ b.length ≤ 5000 ∧ c.length ≤ 5000
  · by_cases he : bothE a b = 0
    · by_cases hq : bothE b c = 0
      · exact sads_ok v u z a b c w hv hu hz hg h.1 h.2.1 h.2.2 he hq
      · exact sads_g v u z a b c w hv hu hz hg h.1 h.2.1 h.2.2 he hq
    · exact sads_e v u z a b c w hv hu hz hg h.1 h.2.1 h.2.2 he
  · exact sads_long v u z a b c w hv hu hz hg (by omega)
end Go.Proofs.YtceobpoibiffhaaDoor
