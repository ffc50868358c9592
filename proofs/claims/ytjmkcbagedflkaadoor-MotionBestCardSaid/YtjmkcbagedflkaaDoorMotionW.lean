/- kinlaw11.MotionBest: the walk. -/
import Derived.Test.YtjmkcbagedflkaaDoorMotionK
import Derived.Test.YtjmkcbagedflkaaDoorLists
import Derived.Deep.DeepCutAuto
set_option linter.unusedSimpArgs false
set_option linter.unusedVariables false
namespace Go.Proofs.YtjmkcbagedflkaaDoor
open Go.RowKit Go.Extern.Stop Go.Stop Go.Extern
theorem Blk.pair {w : World} {b : Nat} {x y : Value} {T : Nat} (h : Blk w b #[x, y] T) : w.cell? ⟨b, 0, none⟩ = some x ∧ w.cell? ⟨b, 1, none⟩ = some y := ⟨h.cell 0, h.cell 1⟩
theorem cst_self (W H : Int) (a : List Int) (x y ux uy : Int) : cstV W H a (sqV W H a x y 8 ux uy) x y (ux, uy) = absV ux + absV uy := by
  unfold cstV costV
  rw [(sad_zero rfl).2 rfl]
  show 4 * 0 + absV ux + absV uy = _
  omega
theorem pcost_sq {W H : Int} {a b : List Int} {x y : Int} (hm : May W H a) (hl : b.length = 64) (hs : withinB b 0 255 = true) (bv : Value) (vx vy : Int) (h : vecB vx vy = true) (v : Value) (w : World) (h1 : Ints w v (sqV W H a x y 8 vx vy)) (h2 : Ints w bv b) :
    Calls Tryd.prog 17 #[v, bv, .agg #[.int .i64 vx, .int .i64 vy]] w fun e w' => e = .returned (.tuple #[.int .i64 (cstV W H a b x y (vx, vy)), .nilIface]) ∧ Below w.heap.size w w' := by
  have hc := pcost_any v bv (sqV W H a x y 8 vx vy) b vx vy w h1 h2 (by rw [length_sqV]; omega)
  rw [costE_ok (both_sq hm hl hs x y vx vy) h, okI_zero rfl, errV_zero] at hc
  exact hc
theorem pblk_sq {W H : Int} {a : List Int} {x y : Int} (hm : May W H a) (hi : inB W H x y 8 = true) (fv : Value) (vx vy : Int) (h : vecB vx vy = true) (w : World) (hv : FrameV w fv W H a) :
    Calls Tryd.prog 14 #[fv, .int .i64 x, .int .i64 y, .int .i64 8, .agg #[.int .i64 vx, .int .i64 vy]] w fun e w' => ∃ v', e = .returned v' ∧ OwnInts w' w.heap.size v' (sqV W H a x y 8 vx vy) ∧ Below w.heap.size w w' := by
  have hc := pblock_any fv W H a x y 8 vx vy w hv
  obtain ⟨x1, y1, x3, y3⟩ := inB_iff2.1 hi
  have hb : blkB W H a x y 8 vx vy = true := blkB_iff.2 ⟨hm, Or.inr rfl, by have := hm.w; omega, by have := hm.h; omega, h⟩
  rw [blkV_yes hb] at hc
  exact hc

set_option maxRecDepth 100000 in
set_option maxHeartbeats 16000000 in
theorem best_w0 (v bv : Value) (W H : Int) (a b : List Int) (x y r vx vy : Int) (w : World) (hv : FrameV w v W H a) (hu : Ints w bv b) (hg : TypeIs w) (h0 : 5000 < a.length) :
    Calls Tryd.prog 6 #[v, bv, .int .i64 x, .int .i64 y, .int .i64 r, .agg #[.int .i64 vx, .int .i64 vy]] w fun e w' => e = .returned (.bool true) ∧ Below w.heap.size w w' := by
  have HG := Lib.hid hg
  have HV := Lib.hid hv
  have HU := Lib.hid hu
  obtain ⟨ao, cap, rfl, hp⟩ := hv.cells
  obtain ⟨bo, bcap, rfl⟩ := hu.shape
  have BA := Lib.hid ((Blk.new w #[.int .i64 W, .int .i64 H, .slice ao a.length cap] 24).alloc (.cells #[.int .i64 vx, .int .i64 vy] 26))
  have BX := Lib.hid (Blk.new (w.alloc (.cells #[.int .i64 W, .int .i64 H, .slice ao a.length cap] 24)) #[.int .i64 vx, .int .i64 vy] 26)
  simp only [World.size_alloc] at BX
  clear hg hv hu hp
  go_enter Tryd.func6, Tryd.ntmps6
  have g0 : Below w.heap.size w w := Below.refl _ _
  go_wp2_with fail
  refine (first_any _ (HG.out.ext (by go_grown))).mono ?_
  rintro e w1 ⟨rfl, hb1⟩
  have j1 : Below w.heap.size w w1 := ext (by go_grown) hb1
  have g1 : Below w.heap.size w w1 := ext g0 j1
  have s1 := j1.size
  have t1 := g1.size
  have BA0 := Lib.hid (BA.out.ext hb1)
  have BX0 := Lib.hid (BX.out.ext hb1)
  obtain ⟨BA00, BA01, BA02, BA03, BA04, BA05⟩ := (BA0.out).three
  have BA0l := (BA0.out).lt
  go_wp2_with fail
  clear BA00 BA01 BA02 BA03 BA04 BA05 BA0l
  refine (first_any _ ((HG.out.ext j1).ext (by go_grown))).mono ?_
  rintro e w2 ⟨rfl, hb2⟩
  have j2 : Below w1.heap.size w1 w2 := ext (by go_grown) hb2
  have g2 : Below w.heap.size w w2 := ext g1 j2
  have s2 := j2.size
  have t2 := g2.size
  go_wp2
  all_goals go_returns
  all_goals exact ⟨by first | rfl | (simp; done) | (simp; omega), g2⟩

set_option maxRecDepth 100000 in
set_option maxHeartbeats 16000000 in
theorem best_w1 (v bv : Value) (W H : Int) (a b : List Int) (x y r vx vy : Int) (w : World) (hv : FrameV w v W H a) (hu : Ints w bv b) (hg : TypeIs w) (h0 : a.length ≤ 5000) (h1 : 5000 < b.length) :
    Calls Tryd.prog 6 #[v, bv, .int .i64 x, .int .i64 y, .int .i64 r, .agg #[.int .i64 vx, .int .i64 vy]] w fun e w' => e = .returned (.bool true) ∧ Below w.heap.size w w' := by
  have HG := Lib.hid hg
  have HV := Lib.hid hv
  have HU := Lib.hid hu
  obtain ⟨ao, cap, rfl, hp⟩ := hv.cells
  obtain ⟨bo, bcap, rfl⟩ := hu.shape
  have BA := Lib.hid ((Blk.new w #[.int .i64 W, .int .i64 H, .slice ao a.length cap] 24).alloc (.cells #[.int .i64 vx, .int .i64 vy] 26))
  have BX := Lib.hid (Blk.new (w.alloc (.cells #[.int .i64 W, .int .i64 H, .slice ao a.length cap] 24)) #[.int .i64 vx, .int .i64 vy] 26)
  simp only [World.size_alloc] at BX
  clear hg hv hu hp
  go_enter Tryd.func6, Tryd.ntmps6
  have g0 : Below w.heap.size w w := Below.refl _ _
  go_wp2_with fail
  refine (first_any _ (HG.out.ext (by go_grown))).mono ?_
  rintro e w1 ⟨rfl, hb1⟩
  have j1 : Below w.heap.size w w1 := ext (by go_grown) hb1
  have g1 : Below w.heap.size w w1 := ext g0 j1
  have s1 := j1.size
  have t1 := g1.size
  have BA0 := Lib.hid (BA.out.ext hb1)
  have BX0 := Lib.hid (BX.out.ext hb1)
  obtain ⟨BA00, BA01, BA02, BA03, BA04, BA05⟩ := (BA0.out).three
  have BA0l := (BA0.out).lt
  go_wp2_with fail
  clear BA00 BA01 BA02 BA03 BA04 BA05 BA0l
  refine (first_any _ ((HG.out.ext j1).ext (by go_grown))).mono ?_
  rintro e w2 ⟨rfl, hb2⟩
  have j2 : Below w1.heap.size w1 w2 := ext (by go_grown) hb2
  have g2 : Below w.heap.size w w2 := ext g1 j2
  have s2 := j2.size
  have t2 := g2.size
  go_wp2
  all_goals go_returns
  all_goals exact ⟨by first | rfl | (simp; done) | (simp; omega), g2⟩

set_option maxRecDepth 100000 in
set_option maxHeartbeats 16000000 in
theorem best_e (v bv : Value) (W H : Int) (a b : List Int) (x y r vx vy : Int) (w : World) (hv : FrameV w v W H a) (hu : Ints w bv b) (hg : TypeIs w) (h0 : a.length ≤ 5000) (h1 : b.length ≤ 5000) (he : srchE W H a b x y r ≠ 0) :
    Calls Tryd.prog 6 #[v, bv, .int .i64 x, .int .i64 y, .int .i64 r, .agg #[.int .i64 vx, .int .i64 vy]] w fun e w' => e = .returned (.bool true) ∧ Below w.heap.size w w' := by
  have HG := Lib.hid hg
  have c1 := fun fv bv w h1 h2 => psearch_any fv bv W H a b x y r w h1 h2
  rw [srchR_no he] at c1
  have C1 := Lib.hid c1
  have q0 : (srchE W H a b x y r == 0) = false := by rw [beq_eq_false_iff_ne]; exact he
  generalize srchE W H a b x y r = k at *
  clear c1 he
  have HV := Lib.hid hv
  have HU := Lib.hid hu
  obtain ⟨ao, cap, rfl, hp⟩ := hv.cells
  obtain ⟨bo, bcap, rfl⟩ := hu.shape
  have BA := Lib.hid ((Blk.new w #[.int .i64 W, .int .i64 H, .slice ao a.length cap] 24).alloc (.cells #[.int .i64 vx, .int .i64 vy] 26))
  have BX := Lib.hid (Blk.new (w.alloc (.cells #[.int .i64 W, .int .i64 H, .slice ao a.length cap] 24)) #[.int .i64 vx, .int .i64 vy] 26)
  simp only [World.size_alloc] at BX
  clear hg hv hu hp
  go_enter Tryd.func6, Tryd.ntmps6
  have g0 : Below w.heap.size w w := Below.refl _ _
  go_wp2_with fail
  refine (first_any _ (HG.out.ext (by go_grown))).mono ?_
  rintro e w1 ⟨rfl, hb1⟩
  have j1 : Below w.heap.size w w1 := ext (by go_grown) hb1
  have g1 : Below w.heap.size w w1 := ext g0 j1
  have s1 := j1.size
  have t1 := g1.size
  have BA0 := Lib.hid (BA.out.ext hb1)
  have BX0 := Lib.hid (BX.out.ext hb1)
  obtain ⟨BA00, BA01, BA02, BA03, BA04, BA05⟩ := (BA0.out).three
  have BA0l := (BA0.out).lt
  go_wp2_with fail
  clear BA00 BA01 BA02 BA03 BA04 BA05 BA0l
  refine (C1.out _ _ _ ((HV.out.ext j1).ext (by go_grown)) ((HU.out.ext j1).ext (by go_grown))).mono ?_
  rintro e w2 ⟨rfl, hb2⟩
  have j2 : Below w1.heap.size w1 w2 := ext (by go_grown) hb2
  have g2 : Below w.heap.size w w2 := ext g1 j2
  have s2 := j2.size
  have t2 := g2.size
  go_wp2_with fail
  refine (first_any _ (((HG.out.ext j1).ext j2).ext (by go_grown))).mono ?_
  rintro e w3 ⟨rfl, hb3⟩
  have j3 : Below w2.heap.size w2 w3 := ext (by go_grown) hb3
  have g3 : Below w.heap.size w w3 := ext g2 j3
  have s3 := j3.size
  have t3 := g3.size
  have BW := Lib.hid ((Blk.new w2 #[.int .i64 0, .int .i64 0] 26).ext hb3)
  obtain ⟨c0, c1⟩ := BW.out.pair
  have lw := BW.out.lt
  go_wp2
  all_goals go_returns
  all_goals exact ⟨by first | rfl | (simp; done) | (simp; omega), g3⟩

set_option maxRecDepth 100000 in
set_option maxHeartbeats 16000000 in
theorem best_o0 (v bv : Value) (W H : Int) (a b : List Int) (x y r vx vy : Int) (w : World) (hv : FrameV w v W H a) (hu : Ints w bv b) (hg : TypeIs w) (h0 : a.length ≤ 5000) (h1 : b.length ≤ 5000) (he : srchE W H a b x y r = 0) (ho : r < vx) :
    Calls Tryd.prog 6 #[v, bv, .int .i64 x, .int .i64 y, .int .i64 r, .agg #[.int .i64 vx, .int .i64 vy]] w fun e w' => e = .returned (.bool true) ∧ Below w.heap.size w w' := by
  have HG := Lib.hid hg
  obtain ⟨hm, hr, hi, hl, hs⟩ := srchE_zero he
  obtain ⟨hr1, hr2⟩ := id hr
  have c1 := fun fv bv w h1 h2 => psearch_any fv bv W H a b x y r w h1 h2
  rw [srchR_ok he, he, errV_zero] at c1
  obtain ⟨⟨l1, l2⟩, l3, l4⟩ := searchS_law (cstV W H a b x y) (r := r.toNat) (by omega)
  have CB := Lib.hid (fun fv ux uy h w hv => pblk_sq (x := x) (y := y) hm hi fv ux uy h w hv)
  have CC := Lib.hid (fun bv ux uy h v w h1 h2 => pcost_sq (x := x) (y := y) hm hl hs bv ux uy h v w h1 h2)
  generalize cstV W H a b x y = c at *
  generalize searchS c r.toNat = z at *
  obtain ⟨⟨p, q⟩, zz⟩ := z
  simp only at c1 l1 l2 l3
  have HQ := Lib.hid l2
  have C1 := Lib.hid c1
  have V0 := Lib.hid (show vecB 0 0 = true by decide)
  have q0 : decide (c (0, 0) < c (p, q)) = false := by simp; omega
  clear l1 l2 l3 l4 c1 hm hi hs he hl hr
  have HV := Lib.hid hv
  have HU := Lib.hid hu
  obtain ⟨ao, cap, rfl, hp⟩ := hv.cells
  obtain ⟨bo, bcap, rfl⟩ := hu.shape
  have BA := Lib.hid ((Blk.new w #[.int .i64 W, .int .i64 H, .slice ao a.length cap] 24).alloc (.cells #[.int .i64 vx, .int .i64 vy] 26))
  have BX := Lib.hid (Blk.new (w.alloc (.cells #[.int .i64 W, .int .i64 H, .slice ao a.length cap] 24)) #[.int .i64 vx, .int .i64 vy] 26)
  simp only [World.size_alloc] at BX
  clear hg hv hu hp
  go_enter Tryd.func6, Tryd.ntmps6
  have g0 : Below w.heap.size w w := Below.refl _ _
  go_wp2_with fail
  refine (first_any _ (HG.out.ext (by go_grown))).mono ?_
  rintro e w1 ⟨rfl, hb1⟩
  have j1 : Below w.heap.size w w1 := ext (by go_grown) hb1
  have g1 : Below w.heap.size w w1 := ext g0 j1
  have s1 := j1.size
  have t1 := g1.size
  have BA0 := Lib.hid (BA.out.ext hb1)
  have BX0 := Lib.hid (BX.out.ext hb1)
  obtain ⟨BA00, BA01, BA02, BA03, BA04, BA05⟩ := (BA0.out).three
  have BA0l := (BA0.out).lt
  go_wp2_with fail
  clear BA00 BA01 BA02 BA03 BA04 BA05 BA0l
  refine (C1.out _ _ _ ((HV.out.ext j1).ext (by go_grown)) ((HU.out.ext j1).ext (by go_grown))).mono ?_
  rintro e w2 ⟨rfl, hb2⟩
  have j2 : Below w1.heap.size w1 w2 := ext (by go_grown) hb2
  have g2 : Below w.heap.size w w2 := ext g1 j2
  have s2 := j2.size
  have t2 := g2.size
  have BW := Lib.hid (Blk.new w2 #[.int .i64 (p), .int .i64 (q)] 26)
  have j3 : Below w2.heap.size w2 (w2.alloc (.cells #[.int .i64 (p), .int .i64 (q)] 26)) := by go_grown
  have g3 := ext g2 j3
  have s3 := j3.size
  have t3 := g3.size
  simp only [World.size_alloc] at s3 t3
  have Fr1 := Lib.hid (((BA0.out.ext j2).ext j3))
  have Mr1 := Lib.hid (BW.out)
  obtain ⟨c0, c1, c2, -, -, -⟩ := Fr1.out.three
  have lF := Fr1.out.lt
  obtain ⟨d0, d1⟩ := Mr1.out.pair
  have lM := Mr1.out.lt
  go_upto_region 8 with fail
  go_cut [15, 16] (fun s1 s2 wx => s1 = .int .i64 (c (p, q)) ∧ s2 = .nilIface ∧ Below (w2.alloc (.cells #[.int .i64 (p), .int .i64 (q)] 26)).heap.size (w2.alloc (.cells #[.int .i64 (p), .int .i64 (q)] 26)) wx)
  case first =>
    go_region_held3 (fun w' => w'.cell? ⟨w.heap.size, 0, none⟩ = some (.int .i64 W) ∧ w'.cell? ⟨w.heap.size, 1, none⟩ = some (.int .i64 H) ∧ w'.cell? ⟨w.heap.size, 2, none⟩ = some (.slice ao a.length cap) ∧ w'.cell? ⟨w2.heap.size, 0, none⟩ = some (.int .i64 (p)) ∧ w'.cell? ⟨w2.heap.size, 1, none⟩ = some (.int .i64 (q)))
      (first | with_reducible exact ⟨Fr1B.out.three.1, Fr1B.out.three.2.1, Fr1B.out.three.2.2.1, Mr1B.out.pair.1, Mr1B.out.pair.2⟩ | with_reducible exact ⟨Fr1A.out.three.1, Fr1A.out.three.2.1, Fr1A.out.three.2.2.1, Mr1A.out.pair.1, Mr1A.out.pair.2⟩ | with_reducible exact ⟨Fr1.out.three.1, Fr1.out.three.2.1, Fr1.out.three.2.2.1, Mr1.out.pair.1, Mr1.out.pair.2⟩ | go_keep)
      (first | (go_at_call 14; refine (CB.out _ (p) (q) HQ.out _ ?_).mono ?_; exact (((HV.out.ext j1).ext j2).ext j3).ext (by go_grown); rintro e wA ⟨vA, rfl, hown, hbA⟩; have jA : Below (w2.alloc (.cells #[.int .i64 (p), .int .i64 (q)] 26)).heap.size (w2.alloc (.cells #[.int .i64 (p), .int .i64 (q)] 26)) wA := ext (by go_grown) hbA; have Fr1A := Lib.hid (Fr1.out.ext jA); have Mr1A := Lib.hid (Mr1.out.ext jA); have HO := Lib.hid hown.ints; clear hown) | (go_at_call 17; refine (CC.out _ (p) (q) HQ.out _ _ ?_ ?_).mono ?_; exact HO.out.ext (by go_grown); exact ((((HU.out.ext j1).ext j2).ext j3).ext jA).ext (by go_grown); rintro e wB ⟨rfl, hbB⟩; have jB : Below wA.heap.size wA wB := ext (by go_grown) hbB; have Fr1B := Lib.hid (Fr1A.out.ext jB); have Mr1B := Lib.hid (Mr1A.out.ext jB); have gB := ext jA jB))
    all_goals (go_wp2_with fail; go_meet)
    all_goals exact ⟨rfl, rfl, by first | exact gB | exact ext gB (by go_grown)⟩
  case rest =>
    obtain ⟨rfl, rfl, jc⟩ := hcut
    obtain ⟨w4, rfl⟩ : ∃ w0 : World, w0 = wc := ⟨_, rfl⟩
    have j4 : Below (w2.alloc (.cells #[.int .i64 (p), .int .i64 (q)] 26)).heap.size (w2.alloc (.cells #[.int .i64 (p), .int .i64 (q)] 26)) w4 := jc
    have g4 : Below w.heap.size w w4 := ext g3 j4
    have s4 := j4.size
    have t4 := g4.size
    clear c0 c1 c2 lF jc Fr1 d0 d1 lM Mr1
    obtain ⟨c0, c1, c2, -, -, -⟩ := ((((BA0.out.ext j2).ext j3).ext j4)).three
    have lF := ((((BA0.out.ext j2).ext j3).ext j4)).lt
    go_wp2_with fail
    clear c0 c1 c2 lF
    refine (CB.out _ 0 0 V0.out _ (((((HV.out.ext j1).ext j2).ext j3).ext j4).ext (by go_grown))).mono ?_
    rintro e w5 ⟨v5, rfl, hown, hb5⟩
    have j5 : Below (w4).heap.size w4 w5 := ext (by go_grown) hb5
    have g5 : Below w.heap.size w w5 := ext g4 j5
    have s5 := j5.size
    have t5 := g5.size
    have HO0 := Lib.hid hown.ints
    clear hown
    go_wp2_with fail
    refine (CC.out _ 0 0 V0.out _ _ (HO0.out.ext (by go_grown)) ((((((HU.out.ext j1).ext j2).ext j3).ext j4).ext j5).ext (by go_grown))).mono ?_
    rintro e w6 ⟨rfl, hb6⟩
    have j6 : Below w5.heap.size w5 w6 := ext (by go_grown) hb6
    have g6 : Below w.heap.size w w6 := ext g5 j6
    have s6 := j6.size
    have t6 := g6.size
    obtain ⟨e0, e1⟩ := ((((((BX0.out.ext j2).ext j3).ext j4).ext j5).ext j6)).pair
    have lx := ((((((BX0.out.ext j2).ext j3).ext j4).ext j5).ext j6)).lt
    go_wp2_with fail
    clear e0 e1 lx
    all_goals refine (first_any _ (((((((HG.out.ext j1).ext j2).ext j3).ext j4).ext j5).ext j6).ext (by go_grown))).mono ?_
    all_goals rintro e w7 ⟨rfl, hb7⟩
    all_goals have g7 : Below w.heap.size w w7 := ext g6 (ext (by go_grown) hb7)
    all_goals go_wp2
    all_goals go_returns
    all_goals exact ⟨by first | rfl | (simp; done) | (simp; omega), g7⟩

set_option maxRecDepth 100000 in
set_option maxHeartbeats 16000000 in
theorem best_o1 (v bv : Value) (W H : Int) (a b : List Int) (x y r vx vy : Int) (w : World) (hv : FrameV w v W H a) (hu : Ints w bv b) (hg : TypeIs w) (h0 : a.length ≤ 5000) (h1 : b.length ≤ 5000) (he : srchE W H a b x y r = 0) (ho0 : vx ≤ r) (ho : vx < -r) :
    Calls Tryd.prog 6 #[v, bv, .int .i64 x, .int .i64 y, .int .i64 r, .agg #[.int .i64 vx, .int .i64 vy]] w fun e w' => e = .returned (.bool true) ∧ Below w.heap.size w w' := by
  have HG := Lib.hid hg
  obtain ⟨hm, hr, hi, hl, hs⟩ := srchE_zero he
  obtain ⟨hr1, hr2⟩ := id hr
  have c1 := fun fv bv w h1 h2 => psearch_any fv bv W H a b x y r w h1 h2
  rw [srchR_ok he, he, errV_zero] at c1
  obtain ⟨⟨l1, l2⟩, l3, l4⟩ := searchS_law (cstV W H a b x y) (r := r.toNat) (by omega)
  have CB := Lib.hid (fun fv ux uy h w hv => pblk_sq (x := x) (y := y) hm hi fv ux uy h w hv)
  have CC := Lib.hid (fun bv ux uy h v w h1 h2 => pcost_sq (x := x) (y := y) hm hl hs bv ux uy h v w h1 h2)
  generalize cstV W H a b x y = c at *
  generalize searchS c r.toNat = z at *
  obtain ⟨⟨p, q⟩, zz⟩ := z
  simp only at c1 l1 l2 l3
  have HQ := Lib.hid l2
  have C1 := Lib.hid c1
  have V0 := Lib.hid (show vecB 0 0 = true by decide)
  have q0 : decide (c (0, 0) < c (p, q)) = false := by simp; omega
  clear l1 l2 l3 l4 c1 hm hi hs he hl hr
  have HV := Lib.hid hv
  have HU := Lib.hid hu
  obtain ⟨ao, cap, rfl, hp⟩ := hv.cells
  obtain ⟨bo, bcap, rfl⟩ := hu.shape
  have BA := Lib.hid ((Blk.new w #[.int .i64 W, .int .i64 H, .slice ao a.length cap] 24).alloc (.cells #[.int .i64 vx, .int .i64 vy] 26))
  have BX := Lib.hid (Blk.new (w.alloc (.cells #[.int .i64 W, .int .i64 H, .slice ao a.length cap] 24)) #[.int .i64 vx, .int .i64 vy] 26)
  simp only [World.size_alloc] at BX
  clear hg hv hu hp
  go_enter Tryd.func6, Tryd.ntmps6
  have g0 : Below w.heap.size w w := Below.refl _ _
  go_wp2_with fail
  refine (first_any _ (HG.out.ext (by go_grown))).mono ?_
  rintro e w1 ⟨rfl, hb1⟩
  have j1 : Below w.heap.size w w1 := ext (by go_grown) hb1
  have g1 : Below w.heap.size w w1 := ext g0 j1
  have s1 := j1.size
  have t1 := g1.size
  have BA0 := Lib.hid (BA.out.ext hb1)
  have BX0 := Lib.hid (BX.out.ext hb1)
  obtain ⟨BA00, BA01, BA02, BA03, BA04, BA05⟩ := (BA0.out).three
  have BA0l := (BA0.out).lt
  go_wp2_with fail
  clear BA00 BA01 BA02 BA03 BA04 BA05 BA0l
  refine (C1.out _ _ _ ((HV.out.ext j1).ext (by go_grown)) ((HU.out.ext j1).ext (by go_grown))).mono ?_
  rintro e w2 ⟨rfl, hb2⟩
  have j2 : Below w1.heap.size w1 w2 := ext (by go_grown) hb2
  have g2 : Below w.heap.size w w2 := ext g1 j2
  have s2 := j2.size
  have t2 := g2.size
  have BW := Lib.hid (Blk.new w2 #[.int .i64 (p), .int .i64 (q)] 26)
  have j3 : Below w2.heap.size w2 (w2.alloc (.cells #[.int .i64 (p), .int .i64 (q)] 26)) := by go_grown
  have g3 := ext g2 j3
  have s3 := j3.size
  have t3 := g3.size
  simp only [World.size_alloc] at s3 t3
  have Fr2 := Lib.hid (((BA0.out.ext j2).ext j3))
  have Mr2 := Lib.hid (BW.out)
  obtain ⟨c0, c1, c2, -, -, -⟩ := Fr2.out.three
  have lF := Fr2.out.lt
  obtain ⟨d0, d1⟩ := Mr2.out.pair
  have lM := Mr2.out.lt
  go_upto_region 8 with fail
  go_cut [15, 16] (fun s1 s2 wx => s1 = .int .i64 (c (p, q)) ∧ s2 = .nilIface ∧ Below (w2.alloc (.cells #[.int .i64 (p), .int .i64 (q)] 26)).heap.size (w2.alloc (.cells #[.int .i64 (p), .int .i64 (q)] 26)) wx)
  case first =>
    go_region_held3 (fun w' => w'.cell? ⟨w.heap.size, 0, none⟩ = some (.int .i64 W) ∧ w'.cell? ⟨w.heap.size, 1, none⟩ = some (.int .i64 H) ∧ w'.cell? ⟨w.heap.size, 2, none⟩ = some (.slice ao a.length cap) ∧ w'.cell? ⟨w2.heap.size, 0, none⟩ = some (.int .i64 (p)) ∧ w'.cell? ⟨w2.heap.size, 1, none⟩ = some (.int .i64 (q)))
      (first | with_reducible exact ⟨Fr2B.out.three.1, Fr2B.out.three.2.1, Fr2B.out.three.2.2.1, Mr2B.out.pair.1, Mr2B.out.pair.2⟩ | with_reducible exact ⟨Fr2A.out.three.1, Fr2A.out.three.2.1, Fr2A.out.three.2.2.1, Mr2A.out.pair.1, Mr2A.out.pair.2⟩ | with_reducible exact ⟨Fr2.out.three.1, Fr2.out.three.2.1, Fr2.out.three.2.2.1, Mr2.out.pair.1, Mr2.out.pair.2⟩ | go_keep)
      (first | (go_at_call 14; refine (CB.out _ (p) (q) HQ.out _ ?_).mono ?_; exact (((HV.out.ext j1).ext j2).ext j3).ext (by go_grown); rintro e wA ⟨vA, rfl, hown, hbA⟩; have jA : Below (w2.alloc (.cells #[.int .i64 (p), .int .i64 (q)] 26)).heap.size (w2.alloc (.cells #[.int .i64 (p), .int .i64 (q)] 26)) wA := ext (by go_grown) hbA; have Fr2A := Lib.hid (Fr2.out.ext jA); have Mr2A := Lib.hid (Mr2.out.ext jA); have HO := Lib.hid hown.ints; clear hown) | (go_at_call 17; refine (CC.out _ (p) (q) HQ.out _ _ ?_ ?_).mono ?_; exact HO.out.ext (by go_grown); exact ((((HU.out.ext j1).ext j2).ext j3).ext jA).ext (by go_grown); rintro e wB ⟨rfl, hbB⟩; have jB : Below wA.heap.size wA wB := ext (by go_grown) hbB; have Fr2B := Lib.hid (Fr2A.out.ext jB); have Mr2B := Lib.hid (Mr2A.out.ext jB); have gB := ext jA jB))
    all_goals (go_wp2_with fail; go_meet)
    all_goals exact ⟨rfl, rfl, by first | exact gB | exact ext gB (by go_grown)⟩
  case rest =>
    obtain ⟨rfl, rfl, jc⟩ := hcut
    obtain ⟨w4, rfl⟩ : ∃ w0 : World, w0 = wc := ⟨_, rfl⟩
    have j4 : Below (w2.alloc (.cells #[.int .i64 (p), .int .i64 (q)] 26)).heap.size (w2.alloc (.cells #[.int .i64 (p), .int .i64 (q)] 26)) w4 := jc
    have g4 : Below w.heap.size w w4 := ext g3 j4
    have s4 := j4.size
    have t4 := g4.size
    clear c0 c1 c2 lF jc Fr2 d0 d1 lM Mr2
    obtain ⟨c0, c1, c2, -, -, -⟩ := ((((BA0.out.ext j2).ext j3).ext j4)).three
    have lF := ((((BA0.out.ext j2).ext j3).ext j4)).lt
    go_wp2_with fail
    clear c0 c1 c2 lF
    refine (CB.out _ 0 0 V0.out _ (((((HV.out.ext j1).ext j2).ext j3).ext j4).ext (by go_grown))).mono ?_
    rintro e w5 ⟨v5, rfl, hown, hb5⟩
    have j5 : Below (w4).heap.size w4 w5 := ext (by go_grown) hb5
    have g5 : Below w.heap.size w w5 := ext g4 j5
    have s5 := j5.size
    have t5 := g5.size
    have HO0 := Lib.hid hown.ints
    clear hown
    go_wp2_with fail
    refine (CC.out _ 0 0 V0.out _ _ (HO0.out.ext (by go_grown)) ((((((HU.out.ext j1).ext j2).ext j3).ext j4).ext j5).ext (by go_grown))).mono ?_
    rintro e w6 ⟨rfl, hb6⟩
    have j6 : Below w5.heap.size w5 w6 := ext (by go_grown) hb6
    have g6 : Below w.heap.size w w6 := ext g5 j6
    have s6 := j6.size
    have t6 := g6.size
    obtain ⟨e0, e1⟩ := ((((((BX0.out.ext j2).ext j3).ext j4).ext j5).ext j6)).pair
    have lx := ((((((BX0.out.ext j2).ext j3).ext j4).ext j5).ext j6)).lt
    go_wp2_with fail
    clear e0 e1 lx
    all_goals refine (first_any _ (((((((HG.out.ext j1).ext j2).ext j3).ext j4).ext j5).ext j6).ext (by go_grown))).mono ?_
    all_goals rintro e w7 ⟨rfl, hb7⟩
    all_goals have g7 : Below w.heap.size w w7 := ext g6 (ext (by go_grown) hb7)
    all_goals go_wp2
    all_goals go_returns
    all_goals exact ⟨by first | rfl | (simp; done) | (simp; omega), g7⟩

set_option maxRecDepth 100000 in
set_option maxHeartbeats 16000000 in
theorem best_o2 (v bv : Value) (W H : Int) (a b : List Int) (x y r vx vy : Int) (w : World) (hv : FrameV w v W H a) (hu : Ints w bv b) (hg : TypeIs w) (h0 : a.length ≤ 5000) (h1 : b.length ≤ 5000) (he : srchE W H a b x y r = 0) (ho0 : vx ≤ r) (ho1 : -r ≤ vx) (ho : r < vy) :
    Calls Tryd.prog 6 #[v, bv, .int .i64 x, .int .i64 y, .int .i64 r, .agg #[.int .i64 vx, .int .i64 vy]] w fun e w' => e = .returned (.bool true) ∧ Below w.heap.size w w' := by
  have HG := Lib.hid hg
  obtain ⟨hm, hr, hi, hl, hs⟩ := srchE_zero he
  obtain ⟨hr1, hr2⟩ := id hr
  have c1 := fun fv bv w h1 h2 => psearch_any fv bv W H a b x y r w h1 h2
  rw [srchR_ok he, he, errV_zero] at c1
  obtain ⟨⟨l1, l2⟩, l3, l4⟩ := searchS_law (cstV W H a b x y) (r := r.toNat) (by omega)
  have CB := Lib.hid (fun fv ux uy h w hv => pblk_sq (x := x) (y := y) hm hi fv ux uy h w hv)
  have CC := Lib.hid (fun bv ux uy h v w h1 h2 => pcost_sq (x := x) (y := y) hm hl hs bv ux uy h v w h1 h2)
  generalize cstV W H a b x y = c at *
  generalize searchS c r.toNat = z at *
  obtain ⟨⟨p, q⟩, zz⟩ := z
  simp only at c1 l1 l2 l3
  have HQ := Lib.hid l2
  have C1 := Lib.hid c1
  have V0 := Lib.hid (show vecB 0 0 = true by decide)
  have q0 : decide (c (0, 0) < c (p, q)) = false := by simp; omega
  clear l1 l2 l3 l4 c1 hm hi hs he hl hr
  have HV := Lib.hid hv
  have HU := Lib.hid hu
  obtain ⟨ao, cap, rfl, hp⟩ := hv.cells
  obtain ⟨bo, bcap, rfl⟩ := hu.shape
  have BA := Lib.hid ((Blk.new w #[.int .i64 W, .int .i64 H, .slice ao a.length cap] 24).alloc (.cells #[.int .i64 vx, .int .i64 vy] 26))
  have BX := Lib.hid (Blk.new (w.alloc (.cells #[.int .i64 W, .int .i64 H, .slice ao a.length cap] 24)) #[.int .i64 vx, .int .i64 vy] 26)
  simp only [World.size_alloc] at BX
  clear hg hv hu hp
  go_enter Tryd.func6, Tryd.ntmps6
  have g0 : Below w.heap.size w w := Below.refl _ _
  go_wp2_with fail
  refine (first_any _ (HG.out.ext (by go_grown))).mono ?_
  rintro e w1 ⟨rfl, hb1⟩
  have j1 : Below w.heap.size w w1 := ext (by go_grown) hb1
  have g1 : Below w.heap.size w w1 := ext g0 j1
  have s1 := j1.size
  have t1 := g1.size
  have BA0 := Lib.hid (BA.out.ext hb1)
  have BX0 := Lib.hid (BX.out.ext hb1)
  obtain ⟨BA00, BA01, BA02, BA03, BA04, BA05⟩ := (BA0.out).three
  have BA0l := (BA0.out).lt
  go_wp2_with fail
  clear BA00 BA01 BA02 BA03 BA04 BA05 BA0l
  refine (C1.out _ _ _ ((HV.out.ext j1).ext (by go_grown)) ((HU.out.ext j1).ext (by go_grown))).mono ?_
  rintro e w2 ⟨rfl, hb2⟩
  have j2 : Below w1.heap.size w1 w2 := ext (by go_grown) hb2
  have g2 : Below w.heap.size w w2 := ext g1 j2
  have s2 := j2.size
  have t2 := g2.size
  have BW := Lib.hid (Blk.new w2 #[.int .i64 (p), .int .i64 (q)] 26)
  have j3 : Below w2.heap.size w2 (w2.alloc (.cells #[.int .i64 (p), .int .i64 (q)] 26)) := by go_grown
  have g3 := ext g2 j3
  have s3 := j3.size
  have t3 := g3.size
  simp only [World.size_alloc] at s3 t3
  have Fr3 := Lib.hid (((BA0.out.ext j2).ext j3))
  have Mr3 := Lib.hid (BW.out)
  obtain ⟨c0, c1, c2, -, -, -⟩ := Fr3.out.three
  have lF := Fr3.out.lt
  obtain ⟨d0, d1⟩ := Mr3.out.pair
  have lM := Mr3.out.lt
  go_upto_region 8 with fail
  go_cut [15, 16] (fun s1 s2 wx => s1 = .int .i64 (c (p, q)) ∧ s2 = .nilIface ∧ Below (w2.alloc (.cells #[.int .i64 (p), .int .i64 (q)] 26)).heap.size (w2.alloc (.cells #[.int .i64 (p), .int .i64 (q)] 26)) wx)
  case first =>
    go_region_held3 (fun w' => w'.cell? ⟨w.heap.size, 0, none⟩ = some (.int .i64 W) ∧ w'.cell? ⟨w.heap.size, 1, none⟩ = some (.int .i64 H) ∧ w'.cell? ⟨w.heap.size, 2, none⟩ = some (.slice ao a.length cap) ∧ w'.cell? ⟨w2.heap.size, 0, none⟩ = some (.int .i64 (p)) ∧ w'.cell? ⟨w2.heap.size, 1, none⟩ = some (.int .i64 (q)))
      (first | with_reducible exact ⟨Fr3B.out.three.1, Fr3B.out.three.2.1, Fr3B.out.three.2.2.1, Mr3B.out.pair.1, Mr3B.out.pair.2⟩ | with_reducible exact ⟨Fr3A.out.three.1, Fr3A.out.three.2.1, Fr3A.out.three.2.2.1, Mr3A.out.pair.1, Mr3A.out.pair.2⟩ | with_reducible exact ⟨Fr3.out.three.1, Fr3.out.three.2.1, Fr3.out.three.2.2.1, Mr3.out.pair.1, Mr3.out.pair.2⟩ | go_keep)
      (first | (go_at_call 14; refine (CB.out _ (p) (q) HQ.out _ ?_).mono ?_; exact (((HV.out.ext j1).ext j2).ext j3).ext (by go_grown); rintro e wA ⟨vA, rfl, hown, hbA⟩; have jA : Below (w2.alloc (.cells #[.int .i64 (p), .int .i64 (q)] 26)).heap.size (w2.alloc (.cells #[.int .i64 (p), .int .i64 (q)] 26)) wA := ext (by go_grown) hbA; have Fr3A := Lib.hid (Fr3.out.ext jA); have Mr3A := Lib.hid (Mr3.out.ext jA); have HO := Lib.hid hown.ints; clear hown) | (go_at_call 17; refine (CC.out _ (p) (q) HQ.out _ _ ?_ ?_).mono ?_; exact HO.out.ext (by go_grown); exact ((((HU.out.ext j1).ext j2).ext j3).ext jA).ext (by go_grown); rintro e wB ⟨rfl, hbB⟩; have jB : Below wA.heap.size wA wB := ext (by go_grown) hbB; have Fr3B := Lib.hid (Fr3A.out.ext jB); have Mr3B := Lib.hid (Mr3A.out.ext jB); have gB := ext jA jB))
    all_goals (go_wp2_with fail; go_meet)
    all_goals exact ⟨rfl, rfl, by first | exact gB | exact ext gB (by go_grown)⟩
  case rest =>
    obtain ⟨rfl, rfl, jc⟩ := hcut
    obtain ⟨w4, rfl⟩ : ∃ w0 : World, w0 = wc := ⟨_, rfl⟩
    have j4 : Below (w2.alloc (.cells #[.int .i64 (p), .int .i64 (q)] 26)).heap.size (w2.alloc (.cells #[.int .i64 (p), .int .i64 (q)] 26)) w4 := jc
    have g4 : Below w.heap.size w w4 := ext g3 j4
    have s4 := j4.size
    have t4 := g4.size
    clear c0 c1 c2 lF jc Fr3 d0 d1 lM Mr3
    obtain ⟨c0, c1, c2, -, -, -⟩ := ((((BA0.out.ext j2).ext j3).ext j4)).three
    have lF := ((((BA0.out.ext j2).ext j3).ext j4)).lt
    go_wp2_with fail
    clear c0 c1 c2 lF
    refine (CB.out _ 0 0 V0.out _ (((((HV.out.ext j1).ext j2).ext j3).ext j4).ext (by go_grown))).mono ?_
    rintro e w5 ⟨v5, rfl, hown, hb5⟩
    have j5 : Below (w4).heap.size w4 w5 := ext (by go_grown) hb5
    have g5 : Below w.heap.size w w5 := ext g4 j5
    have s5 := j5.size
    have t5 := g5.size
    have HO0 := Lib.hid hown.ints
    clear hown
    go_wp2_with fail
    refine (CC.out _ 0 0 V0.out _ _ (HO0.out.ext (by go_grown)) ((((((HU.out.ext j1).ext j2).ext j3).ext j4).ext j5).ext (by go_grown))).mono ?_
    rintro e w6 ⟨rfl, hb6⟩
    have j6 : Below w5.heap.size w5 w6 := ext (by go_grown) hb6
    have g6 : Below w.heap.size w w6 := ext g5 j6
    have s6 := j6.size
    have t6 := g6.size
    obtain ⟨e0, e1⟩ := ((((((BX0.out.ext j2).ext j3).ext j4).ext j5).ext j6)).pair
    have lx := ((((((BX0.out.ext j2).ext j3).ext j4).ext j5).ext j6)).lt
    go_wp2_with fail
    clear e0 e1 lx
    all_goals refine (first_any _ (((((((HG.out.ext j1).ext j2).ext j3).ext j4).ext j5).ext j6).ext (by go_grown))).mono ?_
    all_goals rintro e w7 ⟨rfl, hb7⟩
    all_goals have g7 : Below w.heap.size w w7 := ext g6 (ext (by go_grown) hb7)
    all_goals go_wp2
    all_goals go_returns
    all_goals exact ⟨by first | rfl | (simp; done) | (simp; omega), g7⟩

set_option maxRecDepth 100000 in
set_option maxHeartbeats 16000000 in
theorem best_o3 (v bv : Value) (W H : Int) (a b : List Int) (x y r vx vy : Int) (w : World) (hv : FrameV w v W H a) (hu : Ints w bv b) (hg : TypeIs w) (h0 : a.length ≤ 5000) (h1 : b.length ≤ 5000) (he : srchE W H a b x y r = 0) (ho0 : vx ≤ r) (ho1 : -r ≤ vx) (ho2 : vy ≤ r) (ho : vy < -r) :
    Calls Tryd.prog 6 #[v, bv, .int .i64 x, .int .i64 y, .int .i64 r, .agg #[.int .i64 vx, .int .i64 vy]] w fun e w' => e = .returned (.bool true) ∧ Below w.heap.size w w' := by
  have HG := Lib.hid hg
  obtain ⟨hm, hr, hi, hl, hs⟩ := srchE_zero he
  obtain ⟨hr1, hr2⟩ := id hr
  have c1 := fun fv bv w h1 h2 => psearch_any fv bv W H a b x y r w h1 h2
  rw [srchR_ok he, he, errV_zero] at c1
  obtain ⟨⟨l1, l2⟩, l3, l4⟩ := searchS_law (cstV W H a b x y) (r := r.toNat) (by omega)
  have CB := Lib.hid (fun fv ux uy h w hv => pblk_sq (x := x) (y := y) hm hi fv ux uy h w hv)
  have CC := Lib.hid (fun bv ux uy h v w h1 h2 => pcost_sq (x := x) (y := y) hm hl hs bv ux uy h v w h1 h2)
  generalize cstV W H a b x y = c at *
  generalize searchS c r.toNat = z at *
  obtain ⟨⟨p, q⟩, zz⟩ := z
  simp only at c1 l1 l2 l3
  have HQ := Lib.hid l2
  have C1 := Lib.hid c1
  have V0 := Lib.hid (show vecB 0 0 = true by decide)
  have q0 : decide (c (0, 0) < c (p, q)) = false := by simp; omega
  clear l1 l2 l3 l4 c1 hm hi hs he hl hr
  have HV := Lib.hid hv
  have HU := Lib.hid hu
  obtain ⟨ao, cap, rfl, hp⟩ := hv.cells
  obtain ⟨bo, bcap, rfl⟩ := hu.shape
  have BA := Lib.hid ((Blk.new w #[.int .i64 W, .int .i64 H, .slice ao a.length cap] 24).alloc (.cells #[.int .i64 vx, .int .i64 vy] 26))
  have BX := Lib.hid (Blk.new (w.alloc (.cells #[.int .i64 W, .int .i64 H, .slice ao a.length cap] 24)) #[.int .i64 vx, .int .i64 vy] 26)
  simp only [World.size_alloc] at BX
  clear hg hv hu hp
  go_enter Tryd.func6, Tryd.ntmps6
  have g0 : Below w.heap.size w w := Below.refl _ _
  go_wp2_with fail
  refine (first_any _ (HG.out.ext (by go_grown))).mono ?_
  rintro e w1 ⟨rfl, hb1⟩
  have j1 : Below w.heap.size w w1 := ext (by go_grown) hb1
  have g1 : Below w.heap.size w w1 := ext g0 j1
  have s1 := j1.size
  have t1 := g1.size
  have BA0 := Lib.hid (BA.out.ext hb1)
  have BX0 := Lib.hid (BX.out.ext hb1)
  obtain ⟨BA00, BA01, BA02, BA03, BA04, BA05⟩ := (BA0.out).three
  have BA0l := (BA0.out).lt
  go_wp2_with fail
  clear BA00 BA01 BA02 BA03 BA04 BA05 BA0l
  refine (C1.out _ _ _ ((HV.out.ext j1).ext (by go_grown)) ((HU.out.ext j1).ext (by go_grown))).mono ?_
  rintro e w2 ⟨rfl, hb2⟩
  have j2 : Below w1.heap.size w1 w2 := ext (by go_grown) hb2
  have g2 : Below w.heap.size w w2 := ext g1 j2
  have s2 := j2.size
  have t2 := g2.size
  have BW := Lib.hid (Blk.new w2 #[.int .i64 (p), .int .i64 (q)] 26)
  have j3 : Below w2.heap.size w2 (w2.alloc (.cells #[.int .i64 (p), .int .i64 (q)] 26)) := by go_grown
  have g3 := ext g2 j3
  have s3 := j3.size
  have t3 := g3.size
  simp only [World.size_alloc] at s3 t3
  have Fr4 := Lib.hid (((BA0.out.ext j2).ext j3))
  have Mr4 := Lib.hid (BW.out)
  obtain ⟨c0, c1, c2, -, -, -⟩ := Fr4.out.three
  have lF := Fr4.out.lt
  obtain ⟨d0, d1⟩ := Mr4.out.pair
  have lM := Mr4.out.lt
  go_upto_region 8 with fail
  go_cut [15, 16] (fun s1 s2 wx => s1 = .int .i64 (c (p, q)) ∧ s2 = .nilIface ∧ Below (w2.alloc (.cells #[.int .i64 (p), .int .i64 (q)] 26)).heap.size (w2.alloc (.cells #[.int .i64 (p), .int .i64 (q)] 26)) wx)
  case first =>
    go_region_held3 (fun w' => w'.cell? ⟨w.heap.size, 0, none⟩ = some (.int .i64 W) ∧ w'.cell? ⟨w.heap.size, 1, none⟩ = some (.int .i64 H) ∧ w'.cell? ⟨w.heap.size, 2, none⟩ = some (.slice ao a.length cap) ∧ w'.cell? ⟨w2.heap.size, 0, none⟩ = some (.int .i64 (p)) ∧ w'.cell? ⟨w2.heap.size, 1, none⟩ = some (.int .i64 (q)))
      (first | with_reducible exact ⟨Fr4B.out.three.1, Fr4B.out.three.2.1, Fr4B.out.three.2.2.1, Mr4B.out.pair.1, Mr4B.out.pair.2⟩ | with_reducible exact ⟨Fr4A.out.three.1, Fr4A.out.three.2.1, Fr4A.out.three.2.2.1, Mr4A.out.pair.1, Mr4A.out.pair.2⟩ | with_reducible exact ⟨Fr4.out.three.1, Fr4.out.three.2.1, Fr4.out.three.2.2.1, Mr4.out.pair.1, Mr4.out.pair.2⟩ | go_keep)
      (first | (go_at_call 14; refine (CB.out _ (p) (q) HQ.out _ ?_).mono ?_; exact (((HV.out.ext j1).ext j2).ext j3).ext (by go_grown); rintro e wA ⟨vA, rfl, hown, hbA⟩; have jA : Below (w2.alloc (.cells #[.int .i64 (p), .int .i64 (q)] 26)).heap.size (w2.alloc (.cells #[.int .i64 (p), .int .i64 (q)] 26)) wA := ext (by go_grown) hbA; have Fr4A := Lib.hid (Fr4.out.ext jA); have Mr4A := Lib.hid (Mr4.out.ext jA); have HO := Lib.hid hown.ints; clear hown) | (go_at_call 17; refine (CC.out _ (p) (q) HQ.out _ _ ?_ ?_).mono ?_; exact HO.out.ext (by go_grown); exact ((((HU.out.ext j1).ext j2).ext j3).ext jA).ext (by go_grown); rintro e wB ⟨rfl, hbB⟩; have jB : Below wA.heap.size wA wB := ext (by go_grown) hbB; have Fr4B := Lib.hid (Fr4A.out.ext jB); have Mr4B := Lib.hid (Mr4A.out.ext jB); have gB := ext jA jB))
    all_goals (go_wp2_with fail; go_meet)
    all_goals exact ⟨rfl, rfl, by first | exact gB | exact ext gB (by go_grown)⟩
  case rest =>
    obtain ⟨rfl, rfl, jc⟩ := hcut
    obtain ⟨w4, rfl⟩ : ∃ w0 : World, w0 = wc := ⟨_, rfl⟩
    have j4 : Below (w2.alloc (.cells #[.int .i64 (p), .int .i64 (q)] 26)).heap.size (w2.alloc (.cells #[.int .i64 (p), .int .i64 (q)] 26)) w4 := jc
    have g4 : Below w.heap.size w w4 := ext g3 j4
    have s4 := j4.size
    have t4 := g4.size
    clear c0 c1 c2 lF jc Fr4 d0 d1 lM Mr4
    obtain ⟨c0, c1, c2, -, -, -⟩ := ((((BA0.out.ext j2).ext j3).ext j4)).three
    have lF := ((((BA0.out.ext j2).ext j3).ext j4)).lt
    go_wp2_with fail
    clear c0 c1 c2 lF
    refine (CB.out _ 0 0 V0.out _ (((((HV.out.ext j1).ext j2).ext j3).ext j4).ext (by go_grown))).mono ?_
    rintro e w5 ⟨v5, rfl, hown, hb5⟩
    have j5 : Below (w4).heap.size w4 w5 := ext (by go_grown) hb5
    have g5 : Below w.heap.size w w5 := ext g4 j5
    have s5 := j5.size
    have t5 := g5.size
    have HO0 := Lib.hid hown.ints
    clear hown
    go_wp2_with fail
    refine (CC.out _ 0 0 V0.out _ _ (HO0.out.ext (by go_grown)) ((((((HU.out.ext j1).ext j2).ext j3).ext j4).ext j5).ext (by go_grown))).mono ?_
    rintro e w6 ⟨rfl, hb6⟩
    have j6 : Below w5.heap.size w5 w6 := ext (by go_grown) hb6
    have g6 : Below w.heap.size w w6 := ext g5 j6
    have s6 := j6.size
    have t6 := g6.size
    obtain ⟨e0, e1⟩ := ((((((BX0.out.ext j2).ext j3).ext j4).ext j5).ext j6)).pair
    have lx := ((((((BX0.out.ext j2).ext j3).ext j4).ext j5).ext j6)).lt
    go_wp2_with fail
    clear e0 e1 lx
    all_goals refine (first_any _ (((((((HG.out.ext j1).ext j2).ext j3).ext j4).ext j5).ext j6).ext (by go_grown))).mono ?_
    all_goals rintro e w7 ⟨rfl, hb7⟩
    all_goals have g7 : Below w.heap.size w w7 := ext g6 (ext (by go_grown) hb7)
    all_goals go_wp2
    all_goals go_returns
    all_goals exact ⟨by first | rfl | (simp; done) | (simp; omega), g7⟩

set_option maxRecDepth 100000 in
set_option maxHeartbeats 16000000 in
theorem best_i (v bv : Value) (W H : Int) (a b : List Int) (x y r vx vy : Int) (w : World) (hv : FrameV w v W H a) (hu : Ints w bv b) (hg : TypeIs w) (h0 : a.length ≤ 5000) (h1 : b.length ≤ 5000) (he : srchE W H a b x y r = 0) (ho0 : vx ≤ r) (ho1 : -r ≤ vx) (ho2 : vy ≤ r) (ho3 : -r ≤ vy) :
    Calls Tryd.prog 6 #[v, bv, .int .i64 x, .int .i64 y, .int .i64 r, .agg #[.int .i64 vx, .int .i64 vy]] w fun e w' => e = .returned (.bool true) ∧ Below w.heap.size w w' := by
  have HG := Lib.hid hg
  obtain ⟨hm, hr, hi, hl, hs⟩ := srchE_zero he
  obtain ⟨hr1, hr2⟩ := id hr
  have c1 := fun fv bv w h1 h2 => psearch_any fv bv W H a b x y r w h1 h2
  rw [srchR_ok he, he, errV_zero] at c1
  obtain ⟨⟨l1, l2⟩, l3, l4⟩ := searchS_law (cstV W H a b x y) (r := r.toNat) (by omega)
  have CB := Lib.hid (fun fv ux uy h w hv => pblk_sq (x := x) (y := y) hm hi fv ux uy h w hv)
  have CC := Lib.hid (fun bv ux uy h v w h1 h2 => pcost_sq (x := x) (y := y) hm hl hs bv ux uy h v w h1 h2)
  have V7 : vecB (vx * 2) (vy * 2) = true := vecB_of (by omega)
  have l6 := l4 vx vy (by omega) (by omega) (by omega) (by omega)
  have hp2 : (sqV W H a x y 8 (vx * 2) (vy * 2)).length = 64 := length_sqV ..
  have hs2 := sqV_within hm x y 8 (vx * 2) (vy * 2)
  have he2 := srchE_ok hm hr hi hp2 hs2
  have c2 := fun fv bv w h1 h2 => psearch_any fv bv W H a (sqV W H a x y 8 (vx * 2) (vy * 2)) x y r w h1 h2
  rw [srchR_ok he2, he2, errV_zero] at c2
  obtain ⟨⟨m1, m2⟩, -, m4⟩ := searchS_law (cstV W H a (sqV W H a x y 8 (vx * 2) (vy * 2)) x y) (r := r.toNat) (by omega)
  have m6 := m4 vx vy (by omega) (by omega) (by omega) (by omega)
  rw [cst_self] at m6
  have CD := Lib.hid (fun bv ux uy h v w h1 h2 => pcost_sq (x := x) (y := y) hm hp2 hs2 bv ux uy h v w h1 h2)
  clear m4 he2 hs2 hp2
  generalize hP : sqV W H a x y 8 (vx * 2) (vy * 2) = P at *
  have HP := Lib.hid hP
  generalize cstV W H a P x y = d at *
  generalize searchS d r.toNat = z2 at *
  obtain ⟨⟨zp, zq⟩, zc⟩ := z2
  simp only at c2 m1 m2 m6
  have HZ := Lib.hid m2
  have C3 := Lib.hid c2
  have HU2 := Lib.hid V7
  clear hP c2 m2 V7
  generalize cstV W H a b x y = c at *
  generalize searchS c r.toNat = z at *
  obtain ⟨⟨p, q⟩, zz⟩ := z
  simp only at c1 l1 l2 l3
  have HQ := Lib.hid l2
  have C1 := Lib.hid c1
  have V0 := Lib.hid (show vecB 0 0 = true by decide)
  have q0 : decide (c (0, 0) < c (p, q)) = false := by simp; omega
  have q1 : decide (c (p, q) ≤ c (vx * 2, vy * 2)) = true := by simp; omega
  have q3 : d (zp, zq) ≤ max (vx * 2) (-(vx * 2)) + max (vy * 2) (-(vy * 2)) := by unfold absV at m6; omega
  clear m1 m6 l6
  clear l1 l2 l3 l4 c1 hm hi hs he hl hr
  have hx1 : -7 ≤ vx := by omega
  have hx2 : vx ≤ 7 := by omega
  have hy1 : -7 ≤ vy := by omega
  have hy2 : vy ≤ 7 := by omega
  have HV := Lib.hid hv
  have HU := Lib.hid hu
  obtain ⟨ao, cap, rfl, hp⟩ := hv.cells
  obtain ⟨bo, bcap, rfl⟩ := hu.shape
  have BA := Lib.hid ((Blk.new w #[.int .i64 W, .int .i64 H, .slice ao a.length cap] 24).alloc (.cells #[.int .i64 vx, .int .i64 vy] 26))
  have BX := Lib.hid (Blk.new (w.alloc (.cells #[.int .i64 W, .int .i64 H, .slice ao a.length cap] 24)) #[.int .i64 vx, .int .i64 vy] 26)
  simp only [World.size_alloc] at BX
  clear hg hv hu hp
  go_enter Tryd.func6, Tryd.ntmps6
  have g0 : Below w.heap.size w w := Below.refl _ _
  go_wp2_with fail
  refine (first_any _ (HG.out.ext (by go_grown))).mono ?_
  rintro e w1 ⟨rfl, hb1⟩
  have j1 : Below w.heap.size w w1 := ext (by go_grown) hb1
  have g1 : Below w.heap.size w w1 := ext g0 j1
  have s1 := j1.size
  have t1 := g1.size
  have BA0 := Lib.hid (BA.out.ext hb1)
  have BX0 := Lib.hid (BX.out.ext hb1)
  obtain ⟨BA00, BA01, BA02, BA03, BA04, BA05⟩ := (BA0.out).three
  have BA0l := (BA0.out).lt
  go_wp2_with fail
  clear BA00 BA01 BA02 BA03 BA04 BA05 BA0l
  refine (C1.out _ _ _ ((HV.out.ext j1).ext (by go_grown)) ((HU.out.ext j1).ext (by go_grown))).mono ?_
  rintro e w2 ⟨rfl, hb2⟩
  have j2 : Below w1.heap.size w1 w2 := ext (by go_grown) hb2
  have g2 : Below w.heap.size w w2 := ext g1 j2
  have s2 := j2.size
  have t2 := g2.size
  have BW := Lib.hid (Blk.new w2 #[.int .i64 (p), .int .i64 (q)] 26)
  have j3 : Below w2.heap.size w2 (w2.alloc (.cells #[.int .i64 (p), .int .i64 (q)] 26)) := by go_grown
  have g3 := ext g2 j3
  have s3 := j3.size
  have t3 := g3.size
  simp only [World.size_alloc] at s3 t3
  have Fr5 := Lib.hid (((BA0.out.ext j2).ext j3))
  have Mr5 := Lib.hid (BW.out)
  obtain ⟨c0, c1, c2, -, -, -⟩ := Fr5.out.three
  have lF := Fr5.out.lt
  obtain ⟨d0, d1⟩ := Mr5.out.pair
  have lM := Mr5.out.lt
  go_upto_region 8 with fail
  go_cut [15, 16] (fun s1 s2 wx => s1 = .int .i64 (c (p, q)) ∧ s2 = .nilIface ∧ Below (w2.alloc (.cells #[.int .i64 (p), .int .i64 (q)] 26)).heap.size (w2.alloc (.cells #[.int .i64 (p), .int .i64 (q)] 26)) wx)
  case first =>
    go_region_held3 (fun w' => w'.cell? ⟨w.heap.size, 0, none⟩ = some (.int .i64 W) ∧ w'.cell? ⟨w.heap.size, 1, none⟩ = some (.int .i64 H) ∧ w'.cell? ⟨w.heap.size, 2, none⟩ = some (.slice ao a.length cap) ∧ w'.cell? ⟨w2.heap.size, 0, none⟩ = some (.int .i64 (p)) ∧ w'.cell? ⟨w2.heap.size, 1, none⟩ = some (.int .i64 (q)))
      (first | with_reducible exact ⟨Fr5B.out.three.1, Fr5B.out.three.2.1, Fr5B.out.three.2.2.1, Mr5B.out.pair.1, Mr5B.out.pair.2⟩ | with_reducible exact ⟨Fr5A.out.three.1, Fr5A.out.three.2.1, Fr5A.out.three.2.2.1, Mr5A.out.pair.1, Mr5A.out.pair.2⟩ | with_reducible exact ⟨Fr5.out.three.1, Fr5.out.three.2.1, Fr5.out.three.2.2.1, Mr5.out.pair.1, Mr5.out.pair.2⟩ | go_keep)
      (first | (go_at_call 14; refine (CB.out _ (p) (q) HQ.out _ ?_).mono ?_; exact (((HV.out.ext j1).ext j2).ext j3).ext (by go_grown); rintro e wA ⟨vA, rfl, hown, hbA⟩; have jA : Below (w2.alloc (.cells #[.int .i64 (p), .int .i64 (q)] 26)).heap.size (w2.alloc (.cells #[.int .i64 (p), .int .i64 (q)] 26)) wA := ext (by go_grown) hbA; have Fr5A := Lib.hid (Fr5.out.ext jA); have Mr5A := Lib.hid (Mr5.out.ext jA); have HO := Lib.hid hown.ints; clear hown) | (go_at_call 17; refine (CC.out _ (p) (q) HQ.out _ _ ?_ ?_).mono ?_; exact HO.out.ext (by go_grown); exact ((((HU.out.ext j1).ext j2).ext j3).ext jA).ext (by go_grown); rintro e wB ⟨rfl, hbB⟩; have jB : Below wA.heap.size wA wB := ext (by go_grown) hbB; have Fr5B := Lib.hid (Fr5A.out.ext jB); have Mr5B := Lib.hid (Mr5A.out.ext jB); have gB := ext jA jB))
    all_goals (go_wp2_with fail; go_meet)
    all_goals exact ⟨rfl, rfl, by first | exact gB | exact ext gB (by go_grown)⟩
  case rest =>
    obtain ⟨rfl, rfl, jc⟩ := hcut
    obtain ⟨w4, rfl⟩ : ∃ w0 : World, w0 = wc := ⟨_, rfl⟩
    have j4 : Below (w2.alloc (.cells #[.int .i64 (p), .int .i64 (q)] 26)).heap.size (w2.alloc (.cells #[.int .i64 (p), .int .i64 (q)] 26)) w4 := jc
    have g4 : Below w.heap.size w w4 := ext g3 j4
    have s4 := j4.size
    have t4 := g4.size
    clear c0 c1 c2 lF jc Fr5 d0 d1 lM Mr5
    obtain ⟨c0, c1, c2, -, -, -⟩ := ((((BA0.out.ext j2).ext j3).ext j4)).three
    have lF := ((((BA0.out.ext j2).ext j3).ext j4)).lt
    go_wp2_with fail
    clear c0 c1 c2 lF
    refine (CB.out _ 0 0 V0.out _ (((((HV.out.ext j1).ext j2).ext j3).ext j4).ext (by go_grown))).mono ?_
    rintro e w5 ⟨v5, rfl, hown, hb5⟩
    have j5 : Below (w4).heap.size w4 w5 := ext (by go_grown) hb5
    have g5 : Below w.heap.size w w5 := ext g4 j5
    have s5 := j5.size
    have t5 := g5.size
    have HO0 := Lib.hid hown.ints
    clear hown
    go_wp2_with fail
    refine (CC.out _ 0 0 V0.out _ _ (HO0.out.ext (by go_grown)) ((((((HU.out.ext j1).ext j2).ext j3).ext j4).ext j5).ext (by go_grown))).mono ?_
    rintro e w6 ⟨rfl, hb6⟩
    have j6 : Below w5.heap.size w5 w6 := ext (by go_grown) hb6
    have g6 : Below w.heap.size w w6 := ext g5 j6
    have s6 := j6.size
    have t6 := g6.size
    obtain ⟨e0, e1⟩ := ((((((BX0.out.ext j2).ext j3).ext j4).ext j5).ext j6)).pair
    have lx := ((((((BX0.out.ext j2).ext j3).ext j4).ext j5).ext j6)).lt
    have z1 : -15 ≤ vx * 2 ∧ vx * 2 ≤ 15 ∧ -15 ≤ vy * 2 ∧ vy * 2 ≤ 15 := by omega
    obtain ⟨z1, z2, z3, z4⟩ := z1
    have BU := Lib.hid (Blk.new w6 #[.int .i64 (vx * 2), .int .i64 (vy * 2)] 26)
    have j7 : Below w6.heap.size w6 (w6.alloc (.cells #[.int .i64 (vx * 2), .int .i64 (vy * 2)] 26)) := by go_grown
    have g7 := ext g6 j7
    have s7 := j7.size
    have t7 := g7.size
    simp only [World.size_alloc] at s7 t7
    obtain ⟨c0, c1, c2, -, -, -⟩ := ((((((BA0.out.ext j2).ext j3).ext j4).ext j5).ext j6)).three
    have lF := ((((((BA0.out.ext j2).ext j3).ext j4).ext j5).ext j6)).lt
    go_wp2_with fail
    clear e0 e1 lx c0 c1 c2 lF
    refine (CB.out _ (vx * 2) (vy * 2) HU2.out _ ((((((((HV.out.ext j1).ext j2).ext j3).ext j4).ext j5).ext j6).ext j7).ext (by go_grown))).mono ?_
    rintro e w8 ⟨v8, rfl, hown, hb8⟩
    have j8 : Below ((w6.alloc (.cells #[.int .i64 (vx * 2), .int .i64 (vy * 2)] 26))).heap.size (w6.alloc (.cells #[.int .i64 (vx * 2), .int .i64 (vy * 2)] 26)) w8 := ext (by go_grown) hb8
    have g8 : Below w.heap.size w w8 := ext g7 j8
    have s8 := j8.size
    have t8 := g8.size
    have HO := Lib.hid hown.ints
    have HOP := Lib.hid (show Ints w8 v8 P from by rw [← HP.out]; exact HO.out)
    clear hown
    obtain ⟨d0, d1⟩ := ((BU.out.ext j8)).pair
    have lM := ((BU.out.ext j8)).lt
    go_wp2_with fail
    clear d0 d1 lM
    refine (CC.out _ (vx * 2) (vy * 2) HU2.out _ _ (HO.out.ext (by go_grown)) (((((((((HU.out.ext j1).ext j2).ext j3).ext j4).ext j5).ext j6).ext j7).ext j8).ext (by go_grown))).mono ?_
    rintro e w9 ⟨rfl, hb9⟩
    have j9 : Below (w8).heap.size w8 w9 := ext (by go_grown) hb9
    have g9 : Below w.heap.size w w9 := ext g8 j9
    have s9 := j9.size
    have t9 := g9.size
    obtain ⟨BA00, BA01, BA02, BA03, BA04, BA05⟩ := (((((((((BA0.out.ext j2).ext j3).ext j4).ext j5).ext j6).ext j7).ext j8).ext j9)).three
    have BA0l := (((((((((BA0.out.ext j2).ext j3).ext j4).ext j5).ext j6).ext j7).ext j8).ext j9)).lt
    go_wp2_with fail
    clear BA00 BA01 BA02 BA03 BA04 BA05 BA0l
    refine (C3.out _ _ _ ((((((((((HV.out.ext j1).ext j2).ext j3).ext j4).ext j5).ext j6).ext j7).ext j8).ext j9).ext (by go_grown)) ((HOP.out.ext j9).ext (by go_grown))).mono ?_
    rintro e w10 ⟨rfl, hb10⟩
    have j10 : Below w9.heap.size w9 w10 := ext (by go_grown) hb10
    have g10 : Below w.heap.size w w10 := ext g9 j10
    have s10 := j10.size
    have t10 := g10.size
    have BZ := Lib.hid (Blk.new w10 #[.int .i64 (zp), .int .i64 (zq)] 26)
    have j11 : Below w10.heap.size w10 (w10.alloc (.cells #[.int .i64 (zp), .int .i64 (zq)] 26)) := by go_grown
    have g11 := ext g10 j11
    have s11 := j11.size
    have t11 := g11.size
    simp only [World.size_alloc] at s11 t11
    have Fr6 := Lib.hid (((((((((((BA0.out.ext j2).ext j3).ext j4).ext j5).ext j6).ext j7).ext j8).ext j9).ext j10).ext j11))
    have Mr6 := Lib.hid (BZ.out)
    obtain ⟨c0, c1, c2, -, -, -⟩ := Fr6.out.three
    have lF := Fr6.out.lt
    obtain ⟨d0, d1⟩ := Mr6.out.pair
    have lM := Mr6.out.lt
    go_upto_region 18 with fail
    go_cut [25, 26] (fun s1 s2 wx => s1 = .int .i64 (d (zp, zq)) ∧ s2 = .nilIface ∧ Below (w10.alloc (.cells #[.int .i64 (zp), .int .i64 (zq)] 26)).heap.size (w10.alloc (.cells #[.int .i64 (zp), .int .i64 (zq)] 26)) wx)
    case first =>
      go_region_held3 (fun w' => w'.cell? ⟨w.heap.size, 0, none⟩ = some (.int .i64 W) ∧ w'.cell? ⟨w.heap.size, 1, none⟩ = some (.int .i64 H) ∧ w'.cell? ⟨w.heap.size, 2, none⟩ = some (.slice ao a.length cap) ∧ w'.cell? ⟨w10.heap.size, 0, none⟩ = some (.int .i64 (zp)) ∧ w'.cell? ⟨w10.heap.size, 1, none⟩ = some (.int .i64 (zq)))
        (first | with_reducible exact ⟨Fr6B.out.three.1, Fr6B.out.three.2.1, Fr6B.out.three.2.2.1, Mr6B.out.pair.1, Mr6B.out.pair.2⟩ | with_reducible exact ⟨Fr6A.out.three.1, Fr6A.out.three.2.1, Fr6A.out.three.2.2.1, Mr6A.out.pair.1, Mr6A.out.pair.2⟩ | with_reducible exact ⟨Fr6.out.three.1, Fr6.out.three.2.1, Fr6.out.three.2.2.1, Mr6.out.pair.1, Mr6.out.pair.2⟩ | go_keep)
        (first | (go_at_call 14; refine (CB.out _ (zp) (zq) HZ.out _ ?_).mono ?_; exact (((((((((((HV.out.ext j1).ext j2).ext j3).ext j4).ext j5).ext j6).ext j7).ext j8).ext j9).ext j10).ext j11).ext (by go_grown); rintro e wA ⟨vA, rfl, hown, hbA⟩; have jA : Below (w10.alloc (.cells #[.int .i64 (zp), .int .i64 (zq)] 26)).heap.size (w10.alloc (.cells #[.int .i64 (zp), .int .i64 (zq)] 26)) wA := ext (by go_grown) hbA; have Fr6A := Lib.hid (Fr6.out.ext jA); have Mr6A := Lib.hid (Mr6.out.ext jA); have HO := Lib.hid hown.ints; clear hown) | (go_at_call 17; refine (CD.out _ (zp) (zq) HZ.out _ _ ?_ ?_).mono ?_; exact HO.out.ext (by go_grown); exact ((((HOP.out.ext j9).ext j10).ext j11).ext jA).ext (by go_grown); rintro e wB ⟨rfl, hbB⟩; have jB : Below wA.heap.size wA wB := ext (by go_grown) hbB; have Fr6B := Lib.hid (Fr6A.out.ext jB); have Mr6B := Lib.hid (Mr6A.out.ext jB); have gB := ext jA jB))
      all_goals (go_wp2_with fail; go_meet)
      all_goals exact ⟨rfl, rfl, by first | exact gB | exact ext gB (by go_grown)⟩
    case rest =>
      obtain ⟨rfl, rfl, jc⟩ := hcut
      obtain ⟨w12, rfl⟩ : ∃ w0 : World, w0 = wc := ⟨_, rfl⟩
      have j12 : Below (w10.alloc (.cells #[.int .i64 (zp), .int .i64 (zq)] 26)).heap.size (w10.alloc (.cells #[.int .i64 (zp), .int .i64 (zq)] 26)) w12 := jc
      have g12 : Below w.heap.size w w12 := ext g11 j12
      have s12 := j12.size
      have t12 := g12.size
      clear c0 c1 c2 lF jc Fr6 d0 d1 lM Mr6
      go_wp2_with fail
      refine (first_any _ (((((((((((((HG.out.ext j1).ext j2).ext j3).ext j4).ext j5).ext j6).ext j7).ext j8).ext j9).ext j10).ext j11).ext j12).ext (by go_grown))).mono ?_
      rintro e w13 ⟨rfl, hb13⟩
      have j13 : Below w12.heap.size w12 w13 := ext (by go_grown) hb13
      have g13 : Below w.heap.size w w13 := ext g12 j13
      have s13 := j13.size
      have t13 := g13.size
      obtain ⟨d0, d1⟩ := (((((((BU.out.ext j8).ext j9).ext j10).ext j11).ext j12).ext j13)).pair
      have lM := (((((((BU.out.ext j8).ext j9).ext j10).ext j11).ext j12).ext j13)).lt
      go_wp2
      all_goals go_returns
      all_goals exact ⟨by first | rfl | (simp; done) | (simp; omega), g13⟩

theorem best_walk (v bv : Value) (W H : Int) (a b : List Int) (x y r vx vy : Int) (w : World) (hv : FrameV w v W H a) (hu : Ints w bv b) (hg : TypeIs w) :
    Calls Tryd.prog 6 #[v, bv, .int .i64 x, .int .i64 y, .int .i64 r, .agg #[.int .i64 vx, .int .i64 vy]] w fun e w' => e = .returned (.bool true) ∧ Below w.heap.size w w' := by
  by_cases h0 : 5000 < a.length
  · exact best_w0 v bv W H a b x y r vx vy w hv hu hg h0
  by_cases h1 : 5000 < b.length
  · exact best_w1 v bv W H a b x y r vx vy w hv hu hg (by omega) h1
  by_cases he : srchE W H a b x y r = 0
  · by_cases o0 : r < vx
    · exact best_o0 v bv W H a b x y r vx vy w hv hu hg (by omega) (by omega) he o0
    by_cases o1 : vx < -r
    · exact best_o1 v bv W H a b x y r vx vy w hv hu hg (by omega) (by omega) he (by omega) o1
    by_cases o2 : r < vy
    · exact best_o2 v bv W H a b x y r vx vy w hv hu hg (by omega) (by omega) he (by omega) (by omega) o2
    by_cases o3 : vy < -r
    · exact best_o3 v bv W H a b x y r vx vy w hv hu hg (by omega) (by omega) he (by omega) (by omega) (by omega) o3
    exact best_i v bv W H a b x y r vx vy w hv hu hg (by omega) (by omega) he (by omega) (by omega) (by omega) (by omega)
  · exact best_e v bv W H a b x y r vx vy w hv hu hg (by omega) (by omega) he
end Go.Proofs.YtjmkcbagedflkaaDoor
