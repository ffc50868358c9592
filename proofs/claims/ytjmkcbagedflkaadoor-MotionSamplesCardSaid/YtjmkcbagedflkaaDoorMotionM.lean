/- kinlaw11.MotionSamples: the walk. -/
import Derived.Test.YtjmkcbagedflkaaDoorMotionK
import Derived.Test.YtjmkcbagedflkaaDoorPlaneG
set_option linter.unusedSimpArgs false
set_option linter.unusedVariables false
namespace Go.Proofs.YtjmkcbagedflkaaDoor
open Go.RowKit Go.Extern.Stop Go.Stop Go.Extern
theorem blk_zero {W H : Int} {a : List Int} {x y n : Int} (h : blkB W H a x y n 0 0 = true) : getA W H a x y n = blkV W H a x y n 0 0 := by
  obtain ⟨hm, hn, hx, hy, -⟩ := blkB_iff.1 h
  have hg : getB W H a x y n = true := getB_iff.2 ⟨hm, by omega, by omega, by omega, by omega, by omega, by omega⟩
  rw [blkV_yes h]
  unfold getA
  rw [if_pos hg]
  have := sq_whole (W := W) (H := H) (pix := a) x y n.toNat 0 0
  rw [show (2 : Int) * 0 = 0 from rfl, Int.add_zero, Int.add_zero] at this
  exact this.symm
theorem len_no {l : List Int} (h : 16 ≤ l.length) : ((l.length : Int) == 0) = false := by rw [beq_eq_false_iff_ne]; omega
theorem blk_len {W H : Int} {a : List Int} {x y n vx vy : Int} (h : blkB W H a x y n vx vy = true) : ((blkV W H a x y n vx vy).length : Int) = n * n ∧ 16 ≤ (blkV W H a x y n vx vy).length ∧ (blkV W H a x y n vx vy).length ≤ 64 := by
  obtain ⟨-, hn, -, -, -⟩ := blkB_iff.1 h
  rw [blkV_yes h, length_sqV]
  rcases hn with rfl | rfl
  · exact ⟨rfl, by decide, by decide⟩
  · exact ⟨rfl, by decide, by decide⟩
theorem blk_vec {W H : Int} {a : List Int} {x y n vx vy : Int} (h : blkB W H a x y n vx vy = true) : blkB W H a x y n 0 0 = true := by
  obtain ⟨h1, h2, h3, h4, -⟩ := blkB_iff.1 h
  exact blkB_iff.2 ⟨h1, h2, h3, h4, by decide⟩

set_option maxRecDepth 100000 in
set_option maxHeartbeats 8000000 in
theorem samps_w (v : Value) (W H : Int) (a : List Int) (x y n vx vy : Int) (w : World) (hv : FrameV w v W H a) (hg : TypeIs w) (h0 : 5000 < a.length) :
    Calls Tryd.prog 7 #[v, .int .i64 x, .int .i64 y, .int .i64 n, .agg #[.int .i64 vx, .int .i64 vy]] w fun e w' => e = .returned (.bool true) ∧ Below w.heap.size w w' := by
  have HG := Lib.hid hg
  have HV := Lib.hid hv
  obtain ⟨ao, cap, rfl, hp⟩ := hv.cells
  have hla := hp.len
  have BA0 := Lib.hid ((Blk.new w #[.int .i64 W, .int .i64 H, .slice ao a.length cap] 24).alloc (.cells #[.int .i64 vx, .int .i64 vy] 26))
  have BV0 := Lib.hid (Blk.new (w.alloc (.cells #[.int .i64 W, .int .i64 H, .slice ao a.length cap] 24)) #[.int .i64 vx, .int .i64 vy] 26)
  simp only [World.size_alloc] at BV0
  clear hg hv hp
  go_enter Tryd.func7, Tryd.ntmps7
  have g0 : Below w.heap.size w w := Below.refl _ _
  go_wp2_with fail
  refine (first_any _ (HG.out.ext (by go_grown))).mono ?_
  rintro e w1 ⟨rfl, hb1⟩
  have j1 : Below w.heap.size w w1 := ext (by go_grown) hb1
  have g1 : Below w.heap.size w w1 := ext g0 j1
  have s1 := j1.size
  have t1 := g1.size
  have BA := Lib.hid (BA0.out.ext hb1)
  have BX := Lib.hid (BV0.out.ext hb1)
  obtain ⟨BA0, BA1, BA2, BA3, BA4, BA5⟩ := (BA.out).three
  have BAl := (BA.out).lt
  go_wp2_with fail
  clear BA0 BA1 BA2 BA3 BA4 BA5 BAl
  refine (first_any _ ((HG.out.ext j1).ext (by go_grown))).mono ?_
  rintro e w2 ⟨rfl, hb2⟩
  have j2 : Below w1.heap.size w1 w2 := ext (by go_grown) hb2
  have g2 : Below w.heap.size w w2 := ext g1 j2
  have s2 := j2.size
  have t2 := g2.size
  go_wp2
  all_goals go_returns
  all_goals exact ⟨by first | rfl | (simp; done) | (simp; omega), g2⟩

set_option maxRecDepth 100000 in
set_option maxHeartbeats 8000000 in
theorem samps_m (v : Value) (W H : Int) (a : List Int) (x y n vx vy : Int) (w : World) (hv : FrameV w v W H a) (hg : TypeIs w) (h0 : a.length ≤ 5000) (h1 : mayB W H a = false) :
    Calls Tryd.prog 7 #[v, .int .i64 x, .int .i64 y, .int .i64 n, .agg #[.int .i64 vx, .int .i64 vy]] w fun e w' => e = .returned (.bool true) ∧ Below w.heap.size w w' := by
  have HG := Lib.hid hg
  have c1 := fun w hv => rmay_any v W H a w hv
  rw [h1] at c1
  have C1 := Lib.hid c1
  have HV := Lib.hid hv
  obtain ⟨ao, cap, rfl, hp⟩ := hv.cells
  have hla := hp.len
  have BA0 := Lib.hid ((Blk.new w #[.int .i64 W, .int .i64 H, .slice ao a.length cap] 24).alloc (.cells #[.int .i64 vx, .int .i64 vy] 26))
  have BV0 := Lib.hid (Blk.new (w.alloc (.cells #[.int .i64 W, .int .i64 H, .slice ao a.length cap] 24)) #[.int .i64 vx, .int .i64 vy] 26)
  simp only [World.size_alloc] at BV0
  clear hg hv hp c1 h1
  go_enter Tryd.func7, Tryd.ntmps7
  have g0 : Below w.heap.size w w := Below.refl _ _
  go_wp2_with fail
  refine (first_any _ (HG.out.ext (by go_grown))).mono ?_
  rintro e w1 ⟨rfl, hb1⟩
  have j1 : Below w.heap.size w w1 := ext (by go_grown) hb1
  have g1 : Below w.heap.size w w1 := ext g0 j1
  have s1 := j1.size
  have t1 := g1.size
  have BA := Lib.hid (BA0.out.ext hb1)
  have BX := Lib.hid (BV0.out.ext hb1)
  obtain ⟨BA0, BA1, BA2, BA3, BA4, BA5⟩ := (BA.out).three
  have BAl := (BA.out).lt
  go_wp2_with fail
  clear BA0 BA1 BA2 BA3 BA4 BA5 BAl
  refine (C1.out _ ((HV.out.ext j1).ext (by go_grown))).mono ?_
  rintro e w2 ⟨rfl, hb2⟩
  have j2 : Below w1.heap.size w1 w2 := ext (by go_grown) hb2
  have g2 : Below w.heap.size w w2 := ext g1 j2
  have s2 := j2.size
  have t2 := g2.size
  go_wp2_with fail
  refine (first_any _ (((HG.out.ext j1).ext j2).ext (by go_grown))).mono ?_
  rintro e w3 ⟨rfl, hb3⟩
  have j3 : Below w2.heap.size w2 w3 := ext (by go_grown) hb3
  have g3 : Below w.heap.size w w3 := ext g2 j3
  have s3 := j3.size
  have t3 := g3.size
  go_wp2
  all_goals go_returns
  all_goals exact ⟨by first | rfl | (simp; done) | (simp; omega), g3⟩

set_option maxRecDepth 100000 in
set_option maxHeartbeats 8000000 in
theorem samps_tt (v : Value) (W H : Int) (a : List Int) (x y n vx vy : Int) (w : World) (hv : FrameV w v W H a) (hg : TypeIs w) (h0 : a.length ≤ 5000) (h1 : mayB W H a = true) (hb : blkB W H a x y n vx vy = true) :
    Calls Tryd.prog 7 #[v, .int .i64 x, .int .i64 y, .int .i64 n, .agg #[.int .i64 vx, .int .i64 vy]] w fun e w' => e = .returned (.bool true) ∧ Below w.heap.size w w' := by
  have HG := Lib.hid hg
  have hm := mayB_iff.1 h1
  have c1 := fun w hv => rmay_any v W H a w hv
  rw [h1] at c1
  have C1 := Lib.hid c1
  have C2 := Lib.hid (fun fv w h => pblock_any fv W H a x y n vx vy w h)
  have C3 := Lib.hid (fun fv w h => pblock_any fv W H a x y n 0 0 w h)
  have hb0 := blk_vec hb
  have hw : withinB (blkV W H a x y n vx vy) (minTo a a.length) (maxTo a a.length) = true := by rw [blkV_yes hb]; exact sq_minmax hm x y _ vx vy
  have C4 := Lib.hid (fun u w h => pget_any u W H a x y n w h)
  rw [blk_zero hb0] at C4
  obtain ⟨l1, l2, l3⟩ := blk_len hb
  obtain ⟨-, m2, m3⟩ := blk_len hb0
  have qm : IntKind.i64.wrap (n * n) = ((blkV W H a x y n vx vy).length : Nat) := by rw [IntWalk.i64_in _ (by omega), l1]
  have q0 := len_no l2
  have q1 : (((blkV W H a x y n vx vy).length : Int) == ((blkV W H a x y n vx vy).length : Int)) = true := by simp
  have q2 := len_no m2
  clear l1 hb hb0
  generalize blkV W H a x y n vx vy = lp at *
  generalize blkV W H a x y n 0 0 = lq at *
  have HW := Lib.hid hw
  have HMM := Lib.hid (fun k => minmax_bd hm.pix k)
  have HAX := Lib.hid (fun k => within_get hm.pix (show (0 : Int) ≤ 0 by omega) (show (0 : Int) ≤ 255 by omega) k)
  have HV := Lib.hid hv
  obtain ⟨ao, cap, rfl, hp⟩ := hv.cells
  have hla := hp.len
  have BA0 := Lib.hid ((Blk.new w #[.int .i64 W, .int .i64 H, .slice ao a.length cap] 24).alloc (.cells #[.int .i64 vx, .int .i64 vy] 26))
  have BV0 := Lib.hid (Blk.new (w.alloc (.cells #[.int .i64 W, .int .i64 H, .slice ao a.length cap] 24)) #[.int .i64 vx, .int .i64 vy] 26)
  simp only [World.size_alloc] at BV0
  have HP := Lib.hid hp
  clear hg hv hp c1 h1 hm hw
  go_enter Tryd.func7, Tryd.ntmps7
  have g0 : Below w.heap.size w w := Below.refl _ _
  go_wp2_with fail
  refine (first_any _ (HG.out.ext (by go_grown))).mono ?_
  rintro e w1 ⟨rfl, hb1⟩
  have j1 : Below w.heap.size w w1 := ext (by go_grown) hb1
  have g1 : Below w.heap.size w w1 := ext g0 j1
  have s1 := j1.size
  have t1 := g1.size
  have BA := Lib.hid (BA0.out.ext hb1)
  have BX := Lib.hid (BV0.out.ext hb1)
  obtain ⟨BA0, BA1, BA2, BA3, BA4, BA5⟩ := (BA.out).three
  have BAl := (BA.out).lt
  go_wp2_with fail
  clear BA0 BA1 BA2 BA3 BA4 BA5 BAl
  refine (C1.out _ ((HV.out.ext j1).ext (by go_grown))).mono ?_
  rintro e w2 ⟨rfl, hb2⟩
  have j2 : Below w1.heap.size w1 w2 := ext (by go_grown) hb2
  have g2 : Below w.heap.size w w2 := ext g1 j2
  have s2 := j2.size
  have t2 := g2.size
  have BA2 := Lib.hid ((BA.out.ext j2))
  have BX2 := Lib.hid ((BX.out.ext j2))
  obtain ⟨c0, c1, c2, -, -, -⟩ := BA2.out.three
  have lb := BA2.out.lt
  go_wp2
  clear c0 c1 c2 lb
  go_loopw [11, 12, 13] (fun mn mx i wr => ∃ k : Nat, k ≤ a.length ∧ i = .int .i64 k ∧ mn = .int .i64 (minTo a k) ∧ mx = .int .i64 (maxTo a k) ∧ Below w2.heap.size w2 wr) (fun _ _ i _ => a.length - (intOf i).toNat)
  case atStart => exact ⟨0, Nat.zero_le _, rfl, rfl, rfl, Below.refl _ _⟩
  case round =>
    obtain ⟨k, hk, rfl, rfl, rfl, hbr⟩ := hrel
    obtain ⟨c0, c1, c2, -, -, -⟩ := (BA2.out.ext hbr).three
    have lb := (BA2.out.ext hbr).lt
    have gr : Below w.heap.size w wr := ext g2 hbr
    by_cases hlt : k < a.length
    · obtain ⟨⟨p1, p2⟩, p3, p4⟩ := HMM.out k
      obtain ⟨p5, p6⟩ := HAX.out k
      obtain ⟨b1, o1, rfl, ca, lb1⟩ := (HP.out.ext gr).cellN hlt
      have hmn : minTo a (k + 1) = min (minTo a k) (a.getD k 0) := rfl
      have hmx : maxTo a (k + 1) = max (maxTo a k) (a.getD k 0) := rfl
      generalize minTo a k = mn at *
      generalize maxTo a k = mx at *
      generalize a.getD k 0 = z at *
      by_cases q1 : z < mn
      · rw [show min mn z = z from by omega] at hmn
        by_cases q2 : mx < z
        · rw [show max mx z = z from by omega] at hmx
          have HMN := Lib.hid hmn
          have HMX := Lib.hid hmx
          clear hmn hmx
          go_wp2
          go_quiet (fail)
          go_wp2
          go_roundw
          case rel => exact ⟨k + 1, by omega, by go_num, by rw [HMN.out], by rw [HMX.out], by first | exact hbr | exact below_drewN' hbr _⟩
          case measure => simp [intOf]; omega
        · rw [show max mx z = mx from by omega] at hmx
          have HMN := Lib.hid hmn
          have HMX := Lib.hid hmx
          clear hmn hmx
          go_wp2
          go_quiet (fail)
          go_wp2
          go_roundw
          case rel => exact ⟨k + 1, by omega, by go_num, by rw [HMN.out], by rw [HMX.out], by first | exact hbr | exact below_drewN' hbr _⟩
          case measure => simp [intOf]; omega
      · rw [show min mn z = mn from by omega] at hmn
        by_cases q2 : mx < z
        · rw [show max mx z = z from by omega] at hmx
          have HMN := Lib.hid hmn
          have HMX := Lib.hid hmx
          clear hmn hmx
          go_wp2
          go_quiet (fail)
          go_wp2
          go_roundw
          case rel => exact ⟨k + 1, by omega, by go_num, by rw [HMN.out], by rw [HMX.out], by first | exact hbr | exact below_drewN' hbr _⟩
          case measure => simp [intOf]; omega
        · rw [show max mx z = mx from by omega] at hmx
          have HMN := Lib.hid hmn
          have HMX := Lib.hid hmx
          clear hmn hmx
          go_wp2
          go_quiet (fail)
          go_wp2
          go_roundw
          case rel => exact ⟨k + 1, by omega, by go_num, by rw [HMN.out], by rw [HMX.out], by first | exact hbr | exact below_drewN' hbr _⟩
          case measure => simp [intOf]; omega
    · have e : k = a.length := by omega
      subst e
      obtain ⟨wa, rfl⟩ : ∃ wa : World, wa = wr := ⟨_, rfl⟩
      generalize minTo a a.length = mn at *
      generalize maxTo a a.length = mx at *
      have HVa := Lib.hid (HV.out.ext gr)
      have HGa := Lib.hid (HG.out.ext gr)
      have FA := Lib.hid (BA2.out.ext hbr)
      have VA := Lib.hid (BX2.out.ext hbr)
      clear c0 c1 c2 lb
      have g0 : Below wa.heap.size wa wa := Below.refl _ _
      obtain ⟨VA0, VA1, VA2, VA3⟩ := VA.out.two
      obtain ⟨FA0, FA1, FA2, FA3, FA4, FA5⟩ := (FA.out).three
      have FAl := (FA.out).lt
      go_wp2_with fail
      clear FA0 FA1 FA2 FA3 FA4 FA5 FAl
      clear VA0 VA1 VA2 VA3
      refine (C2.out _ _ (HVa.out.ext (by go_grown))).mono ?_
      rintro e w1 ⟨x1, rfl, hx1, hb1⟩
      have j1 : Below wa.heap.size wa w1 := ext (by go_grown) hb1
      have g1 : Below wa.heap.size wa w1 := ext g0 j1
      have s1 := j1.size
      have t1 := g1.size
      obtain ⟨po, pc, rfl⟩ := hx1.shape
      have HPL := Lib.hid (hx1.ints)
      clear hx1
      obtain ⟨FA0, FA1, FA2, FA3, FA4, FA5⟩ := ((FA.out.ext j1)).three
      have FAl := ((FA.out.ext j1)).lt
      go_wp2_with fail
      clear FA0 FA1 FA2 FA3 FA4 FA5 FAl
      refine (C3.out _ _ ((HVa.out.ext j1).ext (by go_grown))).mono ?_
      rintro e w2 ⟨x2, rfl, hx2, hb2⟩
      have j2 : Below w1.heap.size w1 w2 := ext (by go_grown) hb2
      have g2 : Below wa.heap.size wa w2 := ext g1 j2
      have s2 := j2.size
      have t2 := g2.size
      obtain ⟨qo, qc, rfl⟩ := hx2.shape
      have HQL := Lib.hid (hx2.ints)
      clear hx2
      go_wp2_with fail
      refine (first_any _ (((HGa.out.ext j1).ext j2).ext (by go_grown))).mono ?_
      rintro e w3 ⟨rfl, hb3⟩
      have j3 : Below w2.heap.size w2 w3 := ext (by go_grown) hb3
      have g3 : Below wa.heap.size wa w3 := ext g2 j3
      have s3 := j3.size
      have t3 := g3.size
      have cw := fun w h => within_any (.slice po (lp).length pc) (lp) mn mx w h
      rw [HW.out] at cw
      have CW := Lib.hid cw
      clear cw
      go_wp2_with fail
      refine (CW.out _ (((HPL.out.ext j2).ext j3))).mono ?_
      rintro e w' ⟨rfl, rfl⟩
      obtain ⟨FA0, FA1, FA2, FA3, FA4, FA5⟩ := ((((FA.out.ext j1).ext j2).ext j3)).three
      have FAl := ((((FA.out.ext j1).ext j2).ext j3)).lt
      go_wp2_with fail
      clear FA0 FA1 FA2 FA3 FA4 FA5 FAl
      refine (C4.out _ _ ((((HVa.out.ext j1).ext j2).ext j3).ext (by go_grown))).mono ?_
      rintro e w4 ⟨x5, rfl, hx5, hb4⟩
      have j4 : Below w3.heap.size w3 w4 := ext (by go_grown) hb4
      have g4 : Below wa.heap.size wa w4 := ext g3 j4
      have s4 := j4.size
      have t4 := g4.size
      obtain ⟨ro, rc, rfl⟩ := hx5.shape
      have HRL := Lib.hid (hx5.ints)
      clear hx5
      go_wp2_with fail
      refine (ints_same _ _ lq _ (((HQL.out.ext j3).ext j4).ext (by go_grown)) (HRL.out.ext (by go_grown))).mono ?_
      rintro e w5 ⟨rfl, hb5⟩
      have j5 : Below w4.heap.size w4 w5 := ext (by go_grown) hb5
      have g5 : Below wa.heap.size wa w5 := ext g4 j5
      have s5 := j5.size
      have t5 := g5.size
      have gF : Below w.heap.size w w5 := ext gr g5
      go_wp2
      all_goals go_returns
      all_goals exact ⟨by first | rfl | (simp; done) | (simp; omega), gF⟩

set_option maxRecDepth 100000 in
set_option maxHeartbeats 8000000 in
theorem samps_ft (v : Value) (W H : Int) (a : List Int) (x y n vx vy : Int) (w : World) (hv : FrameV w v W H a) (hg : TypeIs w) (h0 : a.length ≤ 5000) (h1 : mayB W H a = true) (hb : blkB W H a x y n vx vy = false) (hb0 : blkB W H a x y n 0 0 = true) :
    Calls Tryd.prog 7 #[v, .int .i64 x, .int .i64 y, .int .i64 n, .agg #[.int .i64 vx, .int .i64 vy]] w fun e w' => e = .returned (.bool true) ∧ Below w.heap.size w w' := by
  have HG := Lib.hid hg
  have hm := mayB_iff.1 h1
  have c1 := fun w hv => rmay_any v W H a w hv
  rw [h1] at c1
  have C1 := Lib.hid c1
  have C2 := Lib.hid (fun fv w h => pblock_any fv W H a x y n vx vy w h)
  have C3 := Lib.hid (fun fv w h => pblock_any fv W H a x y n 0 0 w h)
  have e1 := blkV_no hb
  rw [e1] at C2
  have hw : withinB ([] : List Int) (minTo a a.length) (maxTo a a.length) = true := rfl
  have C4 := Lib.hid (fun u w h => pget_any u W H a x y n w h)
  rw [blk_zero hb0] at C4
  obtain ⟨-, m2, m3⟩ := blk_len hb0
  have q2 := len_no m2
  clear e1 hb hb0
  generalize blkV W H a x y n 0 0 = lq at *
  have HW := Lib.hid hw
  have HMM := Lib.hid (fun k => minmax_bd hm.pix k)
  have HAX := Lib.hid (fun k => within_get hm.pix (show (0 : Int) ≤ 0 by omega) (show (0 : Int) ≤ 255 by omega) k)
  have HV := Lib.hid hv
  obtain ⟨ao, cap, rfl, hp⟩ := hv.cells
  have hla := hp.len
  have BA0 := Lib.hid ((Blk.new w #[.int .i64 W, .int .i64 H, .slice ao a.length cap] 24).alloc (.cells #[.int .i64 vx, .int .i64 vy] 26))
  have BV0 := Lib.hid (Blk.new (w.alloc (.cells #[.int .i64 W, .int .i64 H, .slice ao a.length cap] 24)) #[.int .i64 vx, .int .i64 vy] 26)
  simp only [World.size_alloc] at BV0
  have HP := Lib.hid hp
  clear hg hv hp c1 h1 hm hw
  go_enter Tryd.func7, Tryd.ntmps7
  have g0 : Below w.heap.size w w := Below.refl _ _
  go_wp2_with fail
  refine (first_any _ (HG.out.ext (by go_grown))).mono ?_
  rintro e w1 ⟨rfl, hb1⟩
  have j1 : Below w.heap.size w w1 := ext (by go_grown) hb1
  have g1 : Below w.heap.size w w1 := ext g0 j1
  have s1 := j1.size
  have t1 := g1.size
  have BA := Lib.hid (BA0.out.ext hb1)
  have BX := Lib.hid (BV0.out.ext hb1)
  obtain ⟨BA0, BA1, BA2, BA3, BA4, BA5⟩ := (BA.out).three
  have BAl := (BA.out).lt
  go_wp2_with fail
  clear BA0 BA1 BA2 BA3 BA4 BA5 BAl
  refine (C1.out _ ((HV.out.ext j1).ext (by go_grown))).mono ?_
  rintro e w2 ⟨rfl, hb2⟩
  have j2 : Below w1.heap.size w1 w2 := ext (by go_grown) hb2
  have g2 : Below w.heap.size w w2 := ext g1 j2
  have s2 := j2.size
  have t2 := g2.size
  have BA2 := Lib.hid ((BA.out.ext j2))
  have BX2 := Lib.hid ((BX.out.ext j2))
  obtain ⟨c0, c1, c2, -, -, -⟩ := BA2.out.three
  have lb := BA2.out.lt
  go_wp2
  clear c0 c1 c2 lb
  go_loopw [11, 12, 13] (fun mn mx i wr => ∃ k : Nat, k ≤ a.length ∧ i = .int .i64 k ∧ mn = .int .i64 (minTo a k) ∧ mx = .int .i64 (maxTo a k) ∧ Below w2.heap.size w2 wr) (fun _ _ i _ => a.length - (intOf i).toNat)
  case atStart => exact ⟨0, Nat.zero_le _, rfl, rfl, rfl, Below.refl _ _⟩
  case round =>
    obtain ⟨k, hk, rfl, rfl, rfl, hbr⟩ := hrel
    obtain ⟨c0, c1, c2, -, -, -⟩ := (BA2.out.ext hbr).three
    have lb := (BA2.out.ext hbr).lt
    have gr : Below w.heap.size w wr := ext g2 hbr
    by_cases hlt : k < a.length
    · obtain ⟨⟨p1, p2⟩, p3, p4⟩ := HMM.out k
      obtain ⟨p5, p6⟩ := HAX.out k
      obtain ⟨b1, o1, rfl, ca, lb1⟩ := (HP.out.ext gr).cellN hlt
      have hmn : minTo a (k + 1) = min (minTo a k) (a.getD k 0) := rfl
      have hmx : maxTo a (k + 1) = max (maxTo a k) (a.getD k 0) := rfl
      generalize minTo a k = mn at *
      generalize maxTo a k = mx at *
      generalize a.getD k 0 = z at *
      by_cases q1 : z < mn
      · rw [show min mn z = z from by omega] at hmn
        by_cases q2 : mx < z
        · rw [show max mx z = z from by omega] at hmx
          have HMN := Lib.hid hmn
          have HMX := Lib.hid hmx
          clear hmn hmx
          go_wp2
          go_quiet (fail)
          go_wp2
          go_roundw
          case rel => exact ⟨k + 1, by omega, by go_num, by rw [HMN.out], by rw [HMX.out], by first | exact hbr | exact below_drewN' hbr _⟩
          case measure => simp [intOf]; omega
        · rw [show max mx z = mx from by omega] at hmx
          have HMN := Lib.hid hmn
          have HMX := Lib.hid hmx
          clear hmn hmx
          go_wp2
          go_quiet (fail)
          go_wp2
          go_roundw
          case rel => exact ⟨k + 1, by omega, by go_num, by rw [HMN.out], by rw [HMX.out], by first | exact hbr | exact below_drewN' hbr _⟩
          case measure => simp [intOf]; omega
      · rw [show min mn z = mn from by omega] at hmn
        by_cases q2 : mx < z
        · rw [show max mx z = z from by omega] at hmx
          have HMN := Lib.hid hmn
          have HMX := Lib.hid hmx
          clear hmn hmx
          go_wp2
          go_quiet (fail)
          go_wp2
          go_roundw
          case rel => exact ⟨k + 1, by omega, by go_num, by rw [HMN.out], by rw [HMX.out], by first | exact hbr | exact below_drewN' hbr _⟩
          case measure => simp [intOf]; omega
        · rw [show max mx z = mx from by omega] at hmx
          have HMN := Lib.hid hmn
          have HMX := Lib.hid hmx
          clear hmn hmx
          go_wp2
          go_quiet (fail)
          go_wp2
          go_roundw
          case rel => exact ⟨k + 1, by omega, by go_num, by rw [HMN.out], by rw [HMX.out], by first | exact hbr | exact below_drewN' hbr _⟩
          case measure => simp [intOf]; omega
    · have e : k = a.length := by omega
      subst e
      obtain ⟨wa, rfl⟩ : ∃ wa : World, wa = wr := ⟨_, rfl⟩
      generalize minTo a a.length = mn at *
      generalize maxTo a a.length = mx at *
      have HVa := Lib.hid (HV.out.ext gr)
      have HGa := Lib.hid (HG.out.ext gr)
      have FA := Lib.hid (BA2.out.ext hbr)
      have VA := Lib.hid (BX2.out.ext hbr)
      clear c0 c1 c2 lb
      have g0 : Below wa.heap.size wa wa := Below.refl _ _
      obtain ⟨VA0, VA1, VA2, VA3⟩ := VA.out.two
      obtain ⟨FA0, FA1, FA2, FA3, FA4, FA5⟩ := (FA.out).three
      have FAl := (FA.out).lt
      go_wp2_with fail
      clear FA0 FA1 FA2 FA3 FA4 FA5 FAl
      clear VA0 VA1 VA2 VA3
      refine (C2.out _ _ (HVa.out.ext (by go_grown))).mono ?_
      rintro e w1 ⟨x1, rfl, hx1, hb1⟩
      have j1 : Below wa.heap.size wa w1 := ext (by go_grown) hb1
      have g1 : Below wa.heap.size wa w1 := ext g0 j1
      have s1 := j1.size
      have t1 := g1.size
      obtain ⟨po, pc, rfl⟩ := hx1.shape
      have HPL := Lib.hid (hx1.ints)
      clear hx1
      obtain ⟨FA0, FA1, FA2, FA3, FA4, FA5⟩ := ((FA.out.ext j1)).three
      have FAl := ((FA.out.ext j1)).lt
      go_wp2_with fail
      clear FA0 FA1 FA2 FA3 FA4 FA5 FAl
      refine (C3.out _ _ ((HVa.out.ext j1).ext (by go_grown))).mono ?_
      rintro e w2 ⟨x2, rfl, hx2, hb2⟩
      have j2 : Below w1.heap.size w1 w2 := ext (by go_grown) hb2
      have g2 : Below wa.heap.size wa w2 := ext g1 j2
      have s2 := j2.size
      have t2 := g2.size
      obtain ⟨qo, qc, rfl⟩ := hx2.shape
      have HQL := Lib.hid (hx2.ints)
      clear hx2
      go_wp2_with fail
      refine (first_any _ (((HGa.out.ext j1).ext j2).ext (by go_grown))).mono ?_
      rintro e w3 ⟨rfl, hb3⟩
      have j3 : Below w2.heap.size w2 w3 := ext (by go_grown) hb3
      have g3 : Below wa.heap.size wa w3 := ext g2 j3
      have s3 := j3.size
      have t3 := g3.size
      have cw := fun w h => within_any (.slice po (([] : List Int)).length pc) (([] : List Int)) mn mx w h
      rw [HW.out] at cw
      have CW := Lib.hid cw
      clear cw
      simp only [List.length_nil] at CW HPL ⊢
      go_wp2_with fail
      refine (CW.out _ (((HPL.out.ext j2).ext j3))).mono ?_
      rintro e w' ⟨rfl, rfl⟩
      obtain ⟨FA0, FA1, FA2, FA3, FA4, FA5⟩ := ((((FA.out.ext j1).ext j2).ext j3)).three
      have FAl := ((((FA.out.ext j1).ext j2).ext j3)).lt
      go_wp2_with fail
      clear FA0 FA1 FA2 FA3 FA4 FA5 FAl
      refine (C4.out _ _ ((((HVa.out.ext j1).ext j2).ext j3).ext (by go_grown))).mono ?_
      rintro e w4 ⟨x5, rfl, hx5, hb4⟩
      have j4 : Below w3.heap.size w3 w4 := ext (by go_grown) hb4
      have g4 : Below wa.heap.size wa w4 := ext g3 j4
      have s4 := j4.size
      have t4 := g4.size
      obtain ⟨ro, rc, rfl⟩ := hx5.shape
      have HRL := Lib.hid (hx5.ints)
      clear hx5
      go_wp2_with fail
      refine (ints_same _ _ lq _ (((HQL.out.ext j3).ext j4).ext (by go_grown)) (HRL.out.ext (by go_grown))).mono ?_
      rintro e w5 ⟨rfl, hb5⟩
      have j5 : Below w4.heap.size w4 w5 := ext (by go_grown) hb5
      have g5 : Below wa.heap.size wa w5 := ext g4 j5
      have s5 := j5.size
      have t5 := g5.size
      have gF : Below w.heap.size w w5 := ext gr g5
      go_wp2
      all_goals go_returns
      all_goals exact ⟨by first | rfl | (simp; done) | (simp; omega), gF⟩

set_option maxRecDepth 100000 in
set_option maxHeartbeats 8000000 in
theorem samps_ff (v : Value) (W H : Int) (a : List Int) (x y n vx vy : Int) (w : World) (hv : FrameV w v W H a) (hg : TypeIs w) (h0 : a.length ≤ 5000) (h1 : mayB W H a = true) (hb : blkB W H a x y n vx vy = false) (hb0 : blkB W H a x y n 0 0 = false) :
    Calls Tryd.prog 7 #[v, .int .i64 x, .int .i64 y, .int .i64 n, .agg #[.int .i64 vx, .int .i64 vy]] w fun e w' => e = .returned (.bool true) ∧ Below w.heap.size w w' := by
  have HG := Lib.hid hg
  have hm := mayB_iff.1 h1
  have c1 := fun w hv => rmay_any v W H a w hv
  rw [h1] at c1
  have C1 := Lib.hid c1
  have C2 := Lib.hid (fun fv w h => pblock_any fv W H a x y n vx vy w h)
  have C3 := Lib.hid (fun fv w h => pblock_any fv W H a x y n 0 0 w h)
  have e1 := blkV_no hb
  have e2 := blkV_no hb0
  rw [e1] at C2
  rw [e2] at C3
  have hw : withinB ([] : List Int) (minTo a a.length) (maxTo a a.length) = true := rfl
  clear e1 e2 hb hb0
  have HW := Lib.hid hw
  have HMM := Lib.hid (fun k => minmax_bd hm.pix k)
  have HAX := Lib.hid (fun k => within_get hm.pix (show (0 : Int) ≤ 0 by omega) (show (0 : Int) ≤ 255 by omega) k)
  have HV := Lib.hid hv
  obtain ⟨ao, cap, rfl, hp⟩ := hv.cells
  have hla := hp.len
  have BA0 := Lib.hid ((Blk.new w #[.int .i64 W, .int .i64 H, .slice ao a.length cap] 24).alloc (.cells #[.int .i64 vx, .int .i64 vy] 26))
  have BV0 := Lib.hid (Blk.new (w.alloc (.cells #[.int .i64 W, .int .i64 H, .slice ao a.length cap] 24)) #[.int .i64 vx, .int .i64 vy] 26)
  simp only [World.size_alloc] at BV0
  have HP := Lib.hid hp
  clear hg hv hp c1 h1 hm hw
  go_enter Tryd.func7, Tryd.ntmps7
  have g0 : Below w.heap.size w w := Below.refl _ _
  go_wp2_with fail
  refine (first_any _ (HG.out.ext (by go_grown))).mono ?_
  rintro e w1 ⟨rfl, hb1⟩
  have j1 : Below w.heap.size w w1 := ext (by go_grown) hb1
  have g1 : Below w.heap.size w w1 := ext g0 j1
  have s1 := j1.size
  have t1 := g1.size
  have BA := Lib.hid (BA0.out.ext hb1)
  have BX := Lib.hid (BV0.out.ext hb1)
  obtain ⟨BA0, BA1, BA2, BA3, BA4, BA5⟩ := (BA.out).three
  have BAl := (BA.out).lt
  go_wp2_with fail
  clear BA0 BA1 BA2 BA3 BA4 BA5 BAl
  refine (C1.out _ ((HV.out.ext j1).ext (by go_grown))).mono ?_
  rintro e w2 ⟨rfl, hb2⟩
  have j2 : Below w1.heap.size w1 w2 := ext (by go_grown) hb2
  have g2 : Below w.heap.size w w2 := ext g1 j2
  have s2 := j2.size
  have t2 := g2.size
  have BA2 := Lib.hid ((BA.out.ext j2))
  have BX2 := Lib.hid ((BX.out.ext j2))
  obtain ⟨c0, c1, c2, -, -, -⟩ := BA2.out.three
  have lb := BA2.out.lt
  go_wp2
  clear c0 c1 c2 lb
  go_loopw [11, 12, 13] (fun mn mx i wr => ∃ k : Nat, k ≤ a.length ∧ i = .int .i64 k ∧ mn = .int .i64 (minTo a k) ∧ mx = .int .i64 (maxTo a k) ∧ Below w2.heap.size w2 wr) (fun _ _ i _ => a.length - (intOf i).toNat)
  case atStart => exact ⟨0, Nat.zero_le _, rfl, rfl, rfl, Below.refl _ _⟩
  case round =>
    obtain ⟨k, hk, rfl, rfl, rfl, hbr⟩ := hrel
    obtain ⟨c0, c1, c2, -, -, -⟩ := (BA2.out.ext hbr).three
    have lb := (BA2.out.ext hbr).lt
    have gr : Below w.heap.size w wr := ext g2 hbr
    by_cases hlt : k < a.length
    · obtain ⟨⟨p1, p2⟩, p3, p4⟩ := HMM.out k
      obtain ⟨p5, p6⟩ := HAX.out k
      obtain ⟨b1, o1, rfl, ca, lb1⟩ := (HP.out.ext gr).cellN hlt
      have hmn : minTo a (k + 1) = min (minTo a k) (a.getD k 0) := rfl
      have hmx : maxTo a (k + 1) = max (maxTo a k) (a.getD k 0) := rfl
      generalize minTo a k = mn at *
      generalize maxTo a k = mx at *
      generalize a.getD k 0 = z at *
      by_cases q1 : z < mn
      · rw [show min mn z = z from by omega] at hmn
        by_cases q2 : mx < z
        · rw [show max mx z = z from by omega] at hmx
          have HMN := Lib.hid hmn
          have HMX := Lib.hid hmx
          clear hmn hmx
          go_wp2
          go_quiet (fail)
          go_wp2
          go_roundw
          case rel => exact ⟨k + 1, by omega, by go_num, by rw [HMN.out], by rw [HMX.out], by first | exact hbr | exact below_drewN' hbr _⟩
          case measure => simp [intOf]; omega
        · rw [show max mx z = mx from by omega] at hmx
          have HMN := Lib.hid hmn
          have HMX := Lib.hid hmx
          clear hmn hmx
          go_wp2
          go_quiet (fail)
          go_wp2
          go_roundw
          case rel => exact ⟨k + 1, by omega, by go_num, by rw [HMN.out], by rw [HMX.out], by first | exact hbr | exact below_drewN' hbr _⟩
          case measure => simp [intOf]; omega
      · rw [show min mn z = mn from by omega] at hmn
        by_cases q2 : mx < z
        · rw [show max mx z = z from by omega] at hmx
          have HMN := Lib.hid hmn
          have HMX := Lib.hid hmx
          clear hmn hmx
          go_wp2
          go_quiet (fail)
          go_wp2
          go_roundw
          case rel => exact ⟨k + 1, by omega, by go_num, by rw [HMN.out], by rw [HMX.out], by first | exact hbr | exact below_drewN' hbr _⟩
          case measure => simp [intOf]; omega
        · rw [show max mx z = mx from by omega] at hmx
          have HMN := Lib.hid hmn
          have HMX := Lib.hid hmx
          clear hmn hmx
          go_wp2
          go_quiet (fail)
          go_wp2
          go_roundw
          case rel => exact ⟨k + 1, by omega, by go_num, by rw [HMN.out], by rw [HMX.out], by first | exact hbr | exact below_drewN' hbr _⟩
          case measure => simp [intOf]; omega
    · have e : k = a.length := by omega
      subst e
      obtain ⟨wa, rfl⟩ : ∃ wa : World, wa = wr := ⟨_, rfl⟩
      generalize minTo a a.length = mn at *
      generalize maxTo a a.length = mx at *
      have HVa := Lib.hid (HV.out.ext gr)
      have HGa := Lib.hid (HG.out.ext gr)
      have FA := Lib.hid (BA2.out.ext hbr)
      have VA := Lib.hid (BX2.out.ext hbr)
      clear c0 c1 c2 lb
      have g0 : Below wa.heap.size wa wa := Below.refl _ _
      obtain ⟨VA0, VA1, VA2, VA3⟩ := VA.out.two
      obtain ⟨FA0, FA1, FA2, FA3, FA4, FA5⟩ := (FA.out).three
      have FAl := (FA.out).lt
      go_wp2_with fail
      clear FA0 FA1 FA2 FA3 FA4 FA5 FAl
      clear VA0 VA1 VA2 VA3
      refine (C2.out _ _ (HVa.out.ext (by go_grown))).mono ?_
      rintro e w1 ⟨x1, rfl, hx1, hb1⟩
      have j1 : Below wa.heap.size wa w1 := ext (by go_grown) hb1
      have g1 : Below wa.heap.size wa w1 := ext g0 j1
      have s1 := j1.size
      have t1 := g1.size
      obtain ⟨po, pc, rfl⟩ := hx1.shape
      have HPL := Lib.hid (hx1.ints)
      clear hx1
      obtain ⟨FA0, FA1, FA2, FA3, FA4, FA5⟩ := ((FA.out.ext j1)).three
      have FAl := ((FA.out.ext j1)).lt
      go_wp2_with fail
      clear FA0 FA1 FA2 FA3 FA4 FA5 FAl
      refine (C3.out _ _ ((HVa.out.ext j1).ext (by go_grown))).mono ?_
      rintro e w2 ⟨x2, rfl, hx2, hb2⟩
      have j2 : Below w1.heap.size w1 w2 := ext (by go_grown) hb2
      have g2 : Below wa.heap.size wa w2 := ext g1 j2
      have s2 := j2.size
      have t2 := g2.size
      obtain ⟨qo, qc, rfl⟩ := hx2.shape
      have HQL := Lib.hid (hx2.ints)
      clear hx2
      go_wp2_with fail
      refine (first_any _ (((HGa.out.ext j1).ext j2).ext (by go_grown))).mono ?_
      rintro e w3 ⟨rfl, hb3⟩
      have j3 : Below w2.heap.size w2 w3 := ext (by go_grown) hb3
      have g3 : Below wa.heap.size wa w3 := ext g2 j3
      have s3 := j3.size
      have t3 := g3.size
      have cw := fun w h => within_any (.slice po (([] : List Int)).length pc) (([] : List Int)) mn mx w h
      rw [HW.out] at cw
      have CW := Lib.hid cw
      clear cw
      simp only [List.length_nil] at CW HPL ⊢
      go_wp2_with fail
      refine (CW.out _ (((HPL.out.ext j2).ext j3))).mono ?_
      rintro e w' ⟨rfl, rfl⟩
      have gF : Below w.heap.size w w3 := ext gr g3
      go_wp2
      all_goals go_returns
      all_goals exact ⟨by first | rfl | (simp; done) | (simp; omega), gF⟩

theorem samps_walk (v : Value) (W H : Int) (a : List Int) (x y n vx vy : Int) (w : World) (hv : FrameV w v W H a) (hg : TypeIs w) :
    Calls Tryd.prog 7 #[v, .int .i64 x, .int .i64 y, .int .i64 n, .agg #[.int .i64 vx, .int .i64 vy]] w fun e w' => e = .returned (.bool true) ∧ Below w.heap.size w w' := by
  by_cases h0 : a.length ≤ 5000
  · cases h1 : mayB W H a with
    | false => exact samps_m v W H a x y n vx vy w hv hg h0 h1
    | true =>
      cases hb : blkB W H a x y n vx vy with
      | true => exact samps_tt v W H a x y n vx vy w hv hg h0 h1 hb
      | false =>
        cases hb0 : blkB W H a x y n 0 0 with
        | true => exact samps_ft v W H a x y n vx vy w hv hg h0 h1 hb hb0
        | false => exact samps_ff v W H a x y n vx vy w hv hg h0 h1 hb hb0
  · exact samps_w v W H a x y n vx vy w hv hg (by omega)
end Go.Proofs.YtjmkcbagedflkaaDoor
