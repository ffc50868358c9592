/- kinlaw9.QuantPeak: the walk. -/
import Derived.Test.YtkiigodkbmcpfaaDoorPeakP
import Derived.Test.YtkiigodkbmcpfaaDoorStep
set_option linter.unusedSimpArgs false
set_option linter.unusedVariables false
namespace Go.Proofs.YtkiigodkbmcpfaaDoor
open Go.RowKit Go.Extern.Stop Go.Stop Go.Extern Q
theorem Ints.cellN {w : World} {ao : Option Addr} {n cap : Nat} {xs : List Int} (h : Ints w (.slice ao n cap) xs) {j : Nat} (hj : j < xs.length) : ∃ b off, ao = some ⟨b, off, none⟩ ∧ w.cell? ⟨b, off + j, none⟩ = some (.int .i64 (xs.getD j 0)) ∧ b < w.heap.size := by
  obtain ⟨ao', cap', e, _, _, _, _, h4⟩ := h
  simp only [Value.slice.injEq] at e
  obtain ⟨rfl, -, rfl⟩ := e
  obtain ⟨b, off, rfl, hc⟩ := h4 j hj
  exact ⟨b, off, rfl, hc, World.block_lt_of_cell? w _ hc⟩

theorem within_is (v : Value) (xs : List Int) (a b : Int) (r : Bool) (h : withinB xs a b = r) (w : World) (hv : Ints w v xs) :
    Calls Tryd.prog 25 #[v, .int .i64 a, .int .i64 b] w fun e w' => e = .returned (.bool r) ∧ w = w' := by
  rw [← h]; exact within_any v xs a b w hv
theorem peak_round {q x y k : Int} (h1 : y - x ≤ k) (h2 : x - y ≤ k) (h0 : 0 ≤ q + x) (h3 : q + x ≤ 255) : ∃ m s : Int, (if (0 : Int) > q + y then (0 : Int) else q + y) = m ∧ (if (255 : Int) < m then (255 : Int) else m) = s ∧ 0 ≤ s ∧ s ≤ 255 ∧ s - q - x ≤ k ∧ q + x - s ≤ k := by
  refine ⟨_, _, rfl, rfl, ?_⟩
  by_cases a : (0 : Int) > q + y
  · rw [if_pos a, if_neg (by omega)]; omega
  · rw [if_neg a]
    by_cases b : (255 : Int) < q + y
    · rw [if_pos b]; omega
    · rw [if_neg b]; omega

set_option maxRecDepth 100000 in
set_option maxHeartbeats 16000000 in
theorem peak_len (v u : Value) (b p : List Int) (qp : Int) (w : World) (hv : Ints w v b) (hu : Ints w u p) (hg : TypeIs w) (h16 : b.length ≠ 16) (h64 : b.length ≠ 64) :
    Calls Tryd.prog 8 #[v, u, .int .i64 qp] w fun e w' => e = .returned (.bool true) ∧ Below w.heap.size w w' := by
  have HG := Lib.hid hg
  have HV := Lib.hid hv
  have HU := Lib.hid hu
  have hl := hv.len
  have hl2 := hu.len
  obtain ⟨n, hn⟩ : ∃ n, b.length = n := ⟨_, rfl⟩
  obtain ⟨m, hm⟩ : ∃ m, p.length = m := ⟨_, rfl⟩
  obtain ⟨ao, cap, rfl⟩ : ∃ ao cap, v = .slice ao n cap := by obtain ⟨ao, cap, e⟩ := hv.shape; exact ⟨ao, cap, by rw [e, hn]⟩
  obtain ⟨bo, bcap, rfl⟩ : ∃ ao cap, u = .slice ao m cap := by obtain ⟨ao, cap, e⟩ := hu.shape; exact ⟨ao, cap, by rw [e, hm]⟩
  have LN := Lib.hid hn
  have LM := Lib.hid hm
  rw [hn] at hl
  rw [hm] at hl2
  rw [hn] at h16 h64
  have q1 : ((n : Int) != 16) = true := by simp; omega
  have q2 : ((n : Int) != 64) = true := by simp; omega
  clear hv hu hg hn hm h16 h64
  go_enter Tryd.func8, Tryd.ntmps8
  have g0 : Below w.heap.size w w := Below.refl _ _
  go_wp2_with fail
  refine (first_any _ (HG.out.ext (by go_grown))).mono ?_
  rintro e w1 ⟨rfl, hb1⟩
  have j1 : Below w.heap.size w w1 := ext (by go_grown) hb1
  have g1 : Below w.heap.size w w1 := ext g0 j1
  have s1 := j1.size
  have t1 := g1.size
  go_wp2_with fail
  refine (first_any _ ((HG.out.ext j1).ext (by go_grown))).mono ?_
  rintro e w2 ⟨rfl, hb2⟩
  have j2 : Below w1.heap.size w1 w2 := ext (by go_grown) hb2
  have g2 : Below w.heap.size w w2 := ext g1 j2
  have s2 := j2.size
  have t2 := g2.size
  go_wp2
  all_goals go_returns
  all_goals exact ⟨by first | rfl | (simp; done) | (simp; omega), g2⟩

set_option maxRecDepth 100000 in
set_option maxHeartbeats 16000000 in
theorem peak_w16 (v u : Value) (b p : List Int) (qp : Int) (w : World) (hv : Ints w v b) (hu : Ints w u p) (hg : TypeIs w) (hb : b.length = 16) (hw : withinB b (-255) 255 = false) :
    Calls Tryd.prog 8 #[v, u, .int .i64 qp] w fun e w' => e = .returned (.bool true) ∧ Below w.heap.size w w' := by
  have HG := Lib.hid hg
  have HV := Lib.hid hv
  have HU := Lib.hid hu
  have hl := hv.len
  have hl2 := hu.len
  obtain ⟨n, hn, hn2⟩ : ∃ n, b.length = n ∧ n = 16 := ⟨_, rfl, hb⟩
  obtain ⟨m, hm⟩ : ∃ m, p.length = m := ⟨_, rfl⟩
  obtain ⟨ao, cap, rfl⟩ : ∃ ao cap, v = .slice ao n cap := by obtain ⟨ao, cap, e⟩ := hv.shape; exact ⟨ao, cap, by rw [e, hn]⟩
  obtain ⟨bo, bcap, rfl⟩ : ∃ ao cap, u = .slice ao m cap := by obtain ⟨ao, cap, e⟩ := hu.shape; exact ⟨ao, cap, by rw [e, hm]⟩
  have LN := Lib.hid hn
  have LM := Lib.hid hm
  rw [hn] at hl
  rw [hm] at hl2
  have q1 : ((n : Int) != 16) = false := by rw [hn2]; rfl
  have q2 : ((n : Int) != 64) = true := by rw [hn2]; rfl
  have n1 : n ≤ 64 := by omega
  have CW := Lib.hid (fun w h => within_is (.slice ao n cap) b (-255) 255 false hw w h)
  clear hv hu hg hn hm hb hn2 hw
  go_enter Tryd.func8, Tryd.ntmps8
  have g0 : Below w.heap.size w w := Below.refl _ _
  go_wp2_with fail
  refine (first_any _ (HG.out.ext (by go_grown))).mono ?_
  rintro e w1 ⟨rfl, hb1⟩
  have j1 : Below w.heap.size w w1 := ext (by go_grown) hb1
  have g1 : Below w.heap.size w w1 := ext g0 j1
  have s1 := j1.size
  have t1 := g1.size
  go_wp2_with fail
  refine (CW.out _ ((HV.out.ext j1).ext (by go_grown))).mono ?_
  rintro e w' ⟨rfl, rfl⟩
  go_wp2_with fail
  refine (first_any _ ((HG.out.ext j1).ext (by go_grown))).mono ?_
  rintro e w2 ⟨rfl, hb2⟩
  have j2 : Below w1.heap.size w1 w2 := ext (by go_grown) hb2
  have g2 : Below w.heap.size w w2 := ext g1 j2
  have s2 := j2.size
  have t2 := g2.size
  go_wp2
  all_goals go_returns
  all_goals exact ⟨by first | rfl | (simp; done) | (simp; omega), g2⟩

set_option maxRecDepth 100000 in
set_option maxHeartbeats 16000000 in
theorem peak_ql16 (v u : Value) (b p : List Int) (qp : Int) (w : World) (hv : Ints w v b) (hu : Ints w u p) (hg : TypeIs w) (hb : b.length = 16) (hw : withinB b (-255) 255 = true) (hq : qp < 0) :
    Calls Tryd.prog 8 #[v, u, .int .i64 qp] w fun e w' => e = .returned (.bool true) ∧ Below w.heap.size w w' := by
  have HG := Lib.hid hg
  have HV := Lib.hid hv
  have HU := Lib.hid hu
  have hl := hv.len
  have hl2 := hu.len
  obtain ⟨n, hn, hn2⟩ : ∃ n, b.length = n ∧ n = 16 := ⟨_, rfl, hb⟩
  obtain ⟨m, hm⟩ : ∃ m, p.length = m := ⟨_, rfl⟩
  obtain ⟨ao, cap, rfl⟩ : ∃ ao cap, v = .slice ao n cap := by obtain ⟨ao, cap, e⟩ := hv.shape; exact ⟨ao, cap, by rw [e, hn]⟩
  obtain ⟨bo, bcap, rfl⟩ : ∃ ao cap, u = .slice ao m cap := by obtain ⟨ao, cap, e⟩ := hu.shape; exact ⟨ao, cap, by rw [e, hm]⟩
  have LN := Lib.hid hn
  have LM := Lib.hid hm
  rw [hn] at hl
  rw [hm] at hl2
  have q1 : ((n : Int) != 16) = false := by rw [hn2]; rfl
  have q2 : ((n : Int) != 64) = true := by rw [hn2]; rfl
  have n1 : n ≤ 64 := by omega
  have CW := Lib.hid (fun w h => within_is (.slice ao n cap) b (-255) 255 true hw w h)
  clear hv hu hg hn hm hb hn2 hw
  go_enter Tryd.func8, Tryd.ntmps8
  have g0 : Below w.heap.size w w := Below.refl _ _
  go_wp2_with fail
  refine (first_any _ (HG.out.ext (by go_grown))).mono ?_
  rintro e w1 ⟨rfl, hb1⟩
  have j1 : Below w.heap.size w w1 := ext (by go_grown) hb1
  have g1 : Below w.heap.size w w1 := ext g0 j1
  have s1 := j1.size
  have t1 := g1.size
  go_wp2_with fail
  refine (CW.out _ ((HV.out.ext j1).ext (by go_grown))).mono ?_
  rintro e w' ⟨rfl, rfl⟩
  go_wp2_with fail
  refine (first_any _ ((HG.out.ext j1).ext (by go_grown))).mono ?_
  rintro e w2 ⟨rfl, hb2⟩
  have j2 : Below w1.heap.size w1 w2 := ext (by go_grown) hb2
  have g2 : Below w.heap.size w w2 := ext g1 j2
  have s2 := j2.size
  have t2 := g2.size
  go_wp2
  all_goals go_returns
  all_goals exact ⟨by first | rfl | (simp; done) | (simp; omega), g2⟩

set_option maxRecDepth 100000 in
set_option maxHeartbeats 16000000 in
theorem peak_qg16 (v u : Value) (b p : List Int) (qp : Int) (w : World) (hv : Ints w v b) (hu : Ints w u p) (hg : TypeIs w) (hb : b.length = 16) (hw : withinB b (-255) 255 = true) (hq0 : 0 ≤ qp) (hq : 15 < qp) :
    Calls Tryd.prog 8 #[v, u, .int .i64 qp] w fun e w' => e = .returned (.bool true) ∧ Below w.heap.size w w' := by
  have HG := Lib.hid hg
  have HV := Lib.hid hv
  have HU := Lib.hid hu
  have hl := hv.len
  have hl2 := hu.len
  obtain ⟨n, hn, hn2⟩ : ∃ n, b.length = n ∧ n = 16 := ⟨_, rfl, hb⟩
  obtain ⟨m, hm⟩ : ∃ m, p.length = m := ⟨_, rfl⟩
  obtain ⟨ao, cap, rfl⟩ : ∃ ao cap, v = .slice ao n cap := by obtain ⟨ao, cap, e⟩ := hv.shape; exact ⟨ao, cap, by rw [e, hn]⟩
  obtain ⟨bo, bcap, rfl⟩ : ∃ ao cap, u = .slice ao m cap := by obtain ⟨ao, cap, e⟩ := hu.shape; exact ⟨ao, cap, by rw [e, hm]⟩
  have LN := Lib.hid hn
  have LM := Lib.hid hm
  rw [hn] at hl
  rw [hm] at hl2
  have q1 : ((n : Int) != 16) = false := by rw [hn2]; rfl
  have q2 : ((n : Int) != 64) = true := by rw [hn2]; rfl
  have n1 : n ≤ 64 := by omega
  have CW := Lib.hid (fun w h => within_is (.slice ao n cap) b (-255) 255 true hw w h)
  clear hv hu hg hn hm hb hn2 hw
  go_enter Tryd.func8, Tryd.ntmps8
  have g0 : Below w.heap.size w w := Below.refl _ _
  go_wp2_with fail
  refine (first_any _ (HG.out.ext (by go_grown))).mono ?_
  rintro e w1 ⟨rfl, hb1⟩
  have j1 : Below w.heap.size w w1 := ext (by go_grown) hb1
  have g1 : Below w.heap.size w w1 := ext g0 j1
  have s1 := j1.size
  have t1 := g1.size
  go_wp2_with fail
  refine (CW.out _ ((HV.out.ext j1).ext (by go_grown))).mono ?_
  rintro e w' ⟨rfl, rfl⟩
  go_wp2_with fail
  refine (first_any _ ((HG.out.ext j1).ext (by go_grown))).mono ?_
  rintro e w2 ⟨rfl, hb2⟩
  have j2 : Below w1.heap.size w1 w2 := ext (by go_grown) hb2
  have g2 : Below w.heap.size w w2 := ext g1 j2
  have s2 := j2.size
  have t2 := g2.size
  go_wp2
  all_goals go_returns
  all_goals exact ⟨by first | rfl | (simp; done) | (simp; omega), g2⟩

set_option maxRecDepth 100000 in
set_option maxHeartbeats 16000000 in
theorem peak_in16 (v u : Value) (b p : List Int) (qp : Int) (w : World) (hv : Ints w v b) (hu : Ints w u p) (hg : TypeIs w) (hb : b.length = 16) (hw : withinB b (-255) 255 = true) (hq0 : 0 ≤ qp) (hq : qp ≤ 15) :
    Calls Tryd.prog 8 #[v, u, .int .i64 qp] w fun e w' => e = .returned (.bool true) ∧ Below w.heap.size w w' := by
  have HG := Lib.hid hg
  have HV := Lib.hid hv
  have HU := Lib.hid hu
  have hl := hv.len
  have hl2 := hu.len
  have hbl : b.length ≤ 64 := by omega
  have hin : inQ qp = true := by simp [inQ]; omega
  obtain ⟨c, l, x, d, hp⟩ := peak (by omega) hw hin
  have c1 := fun w h => pforward_any v b w h
  rw [hp.fe, hp.fv, errV_zero] at c1
  have c2 := fun u w h => plevels_any u c qp w h (by rw [hp.cl]; omega)
  rw [hp.le, hp.lv, errV_zero] at c2
  have c3 := fun u w h => pvalues_any u l qp w h (by rw [hp.ll]; omega)
  rw [hp.ve, hp.vv, errV_zero] at c3
  have c4 := fun u w h => pinverse_any u x w h
  rw [hp.ie, hp.iv, errV_zero] at c4
  have c5 := fun w => pbound_ok (qp := qp) w hin
  have c6 := fun u w h => within_is u l (-16320) 16320 true hp.lw w h
  have HN := Lib.hid (fun j hj => And.intro (hp.near j hj) (within_get hw (by omega) (by omega) j))
  obtain ⟨kb1, kb2⟩ := half_bd qp
  have kb3 : 0 ≤ boundV qp := kb1
  have kb4 : boundV qp ≤ 192 := kb2
  clear kb1 kb2
  have HDL := Lib.hid hp.dl
  have HLL := Lib.hid hp.ll
  have HXL := Lib.hid hp.vl
  have HCL := Lib.hid hp.cl
  generalize boundV qp = kk at *
  obtain ⟨n, hn, hn2⟩ : ∃ n, b.length = n ∧ n = 16 := ⟨_, rfl, hb⟩
  obtain ⟨m, hm⟩ : ∃ m, p.length = m := ⟨_, rfl⟩
  obtain ⟨ao, cap, rfl⟩ : ∃ ao cap, v = .slice ao n cap := by obtain ⟨ao, cap, e⟩ := hv.shape; exact ⟨ao, cap, by rw [e, hn]⟩
  obtain ⟨bo, bcap, rfl⟩ : ∃ ao cap, u = .slice ao m cap := by obtain ⟨ao, cap, e⟩ := hu.shape; exact ⟨ao, cap, by rw [e, hm]⟩
  have LN := Lib.hid hn
  have LM := Lib.hid hm
  rw [hn] at hl
  rw [hm] at hl2
  have q1 : ((n : Int) != 16) = false := by rw [hn2]; rfl
  have q2 : ((n : Int) != 64) = true := by rw [hn2]; rfl
  have n1 : n ≤ 64 := by omega
  have CW := Lib.hid (fun w h => within_is (.slice ao n cap) b (-255) 255 true hw w h)
  have C1 := Lib.hid c1
  have C2 := Lib.hid c2
  have C3 := Lib.hid c3
  have C4 := Lib.hid c4
  have C5 := Lib.hid c5
  have C6 := Lib.hid c6
  have HIU := Lib.hid hu.in64
  have qnn : ((n : Int) != (n : Int)) = false := by simp
  clear hv hu hg hn hm hb hn2 hw hp c1 c2 c3 c4 c5 c6 hin hbl
  go_enter Tryd.func8, Tryd.ntmps8
  have g0 : Below w.heap.size w w := Below.refl _ _
  go_wp2_with fail
  refine (first_any _ (HG.out.ext (by go_grown))).mono ?_
  rintro e w1 ⟨rfl, hb1⟩
  have j1 : Below w.heap.size w w1 := ext (by go_grown) hb1
  have g1 : Below w.heap.size w w1 := ext g0 j1
  have s1 := j1.size
  have t1 := g1.size
  go_wp2_with fail
  refine (CW.out _ ((HV.out.ext j1).ext (by go_grown))).mono ?_
  rintro e w' ⟨rfl, rfl⟩
  go_wp2_with fail
  refine (C1.out _ ((HV.out.ext j1).ext (by go_grown))).mono ?_
  rintro e w2 ⟨vc, rfl, oc, hb2⟩
  have j2 : Below w1.heap.size w1 w2 := ext (by go_grown) hb2
  have g2 : Below w.heap.size w w2 := ext g1 j2
  have s2 := j2.size
  have t2 := g2.size
  obtain ⟨ac, kc, rfl⟩ : ∃ ao cap, vc = .slice ao n cap := by obtain ⟨ao, cap, e⟩ := oc.shape; exact ⟨ao, cap, by rw [e, HCL.out, LN.out]⟩
  have Ic := Lib.hid (oc.ints)
  clear oc
  go_wp2_with fail
  refine (C2.out _ _ (Ic.out.ext (by go_grown))).mono ?_
  rintro e w3 ⟨vl, rfl, ol, hb3⟩
  have j3 : Below w2.heap.size w2 w3 := ext (by go_grown) hb3
  have g3 : Below w.heap.size w w3 := ext g2 j3
  have s3 := j3.size
  have t3 := g3.size
  obtain ⟨al, kl, rfl⟩ : ∃ ao cap, vl = .slice ao n cap := by obtain ⟨ao, cap, e⟩ := ol.shape; exact ⟨ao, cap, by rw [e, HLL.out, LN.out]⟩
  have Il := Lib.hid (ol.ints)
  clear ol
  go_wp2_with fail
  refine (C3.out _ _ (Il.out.ext (by go_grown))).mono ?_
  rintro e w4 ⟨vx, rfl, ox, hb4⟩
  have j4 : Below w3.heap.size w3 w4 := ext (by go_grown) hb4
  have g4 : Below w.heap.size w w4 := ext g3 j4
  have s4 := j4.size
  have t4 := g4.size
  obtain ⟨ax, kx, rfl⟩ : ∃ ao cap, vx = .slice ao n cap := by obtain ⟨ao, cap, e⟩ := ox.shape; exact ⟨ao, cap, by rw [e, HXL.out, LN.out]⟩
  have Ix := Lib.hid (ox.ints)
  clear ox
  go_wp2_with fail
  refine (C4.out _ _ (Ix.out.ext (by go_grown))).mono ?_
  rintro e w5 ⟨vd, rfl, od, hb5⟩
  have j5 : Below w4.heap.size w4 w5 := ext (by go_grown) hb5
  have g5 : Below w.heap.size w w5 := ext g4 j5
  have s5 := j5.size
  have t5 := g5.size
  obtain ⟨ad, kd, rfl⟩ : ∃ ao cap, vd = .slice ao n cap := by obtain ⟨ao, cap, e⟩ := od.shape; exact ⟨ao, cap, by rw [e, HDL.out, LN.out]⟩
  have Id := Lib.hid (od.ints)
  clear od
  go_wp2_with fail
  refine (C5.out _).mono ?_
  rintro e w6 ⟨rfl, hb6⟩
  have j6 : Below w5.heap.size w5 w6 := ext (by go_grown) hb6
  have g6 : Below w.heap.size w w6 := ext g5 j6
  have s6 := j6.size
  have t6 := g6.size
  go_wp2_with fail
  refine (C6.out _ _ ((((Il.out.ext j4).ext j5).ext j6).ext (by go_grown))).mono ?_
  rintro e w' ⟨rfl, rfl⟩
  go_wp2
  go_loopw [17] (fun z wr => ∃ i : Nat, i ≤ n ∧ z = .int .i64 i ∧ Below w6.heap.size w6 wr) (fun z _ => n - (intOf z).toNat)
  case atStart => exact ⟨0, Nat.zero_le _, rfl, Below.refl _ _⟩
  case round =>
    obtain ⟨i, hi, rfl, hbr⟩ := hrel
    have gr : Below w.heap.size w wr := ext g6 hbr
    by_cases hlt : i < n
    · obtain ⟨⟨e1, e2⟩, e3, e4⟩ := HN.out i (by rw [LN.out]; exact hlt)
      have hxb := ((((((((HV.out.ext j1).ext j2).ext j3).ext j4).ext j5).ext j6)).ext hbr).cellN (j := i) (by rw [LN.out]; exact hlt)
      obtain ⟨g1, o1, rfl, cb, lb⟩ := hxb
      have hxd := (((Id.out.ext j6)).ext hbr).cellN (j := i) (by rw [HDL.out, LN.out]; exact hlt)
      obtain ⟨g2, o2, rfl, cd, ld⟩ := hxd
      generalize b.getD i 0 = x0 at *
      generalize d.getD i 0 = y0 at *
      have f1 : IntKind.i64.wrap (y0 - x0) = y0 - x0 := IntWalk.i64_in _ (by omega)
      have f2 : IntKind.i64.wrap (x0 - y0) = x0 - y0 := IntWalk.i64_in _ (by omega)
      have f3 : decide (kk < y0 - x0) = false := by simp; omega
      have f4 : decide (kk < x0 - y0) = false := by simp; omega
      by_cases hm : i < m
      · have hxp := ((((((((HU.out.ext j1).ext j2).ext j3).ext j4).ext j5).ext j6)).ext hbr).cellN (j := i) (by rw [LM.out]; exact hm)
        obtain ⟨g3, o3, rfl, cp, lp⟩ := hxp
        obtain ⟨p1, p2⟩ := getD_in64 HIU.out i
        generalize p.getD i 0 = q at *
        by_cases h1 : 0 ≤ q
        · by_cases h2 : q ≤ 255
          · have f5 : IntKind.i64.wrap (q + x0) = q + x0 := IntWalk.i64_in _ (by omega)
            have f6 : IntKind.i64.wrap (q + y0) = q + y0 := IntWalk.i64_in _ (by omega)
            by_cases h3 : 0 ≤ q + x0
            · by_cases h4 : q + x0 ≤ 255
              · obtain ⟨mm, s, a1, a2, a3, a4, a5, a6⟩ := peak_round e1 e2 h3 h4
                have f7 : IntKind.i64.wrap (s - q) = s - q := IntWalk.i64_in _ (by omega)
                have f8 : IntKind.i64.wrap (s - q - x0) = s - q - x0 := IntWalk.i64_in _ (by omega)
                have f9 : IntKind.i64.wrap (q + x0 - s) = q + x0 - s := IntWalk.i64_in _ (by omega)
                have f10 : decide (kk < s - q - x0) = false := by simp; omega
                have f11 : decide (kk < q + x0 - s) = false := by simp; omega
                clear e1 e2 a5 a6
                go_wp2
                go_quiet (fail)
                go_wp2
                go_quiet (fail)
                go_wp2
                go_quiet (fail)
                go_wp2
                go_quiet (fail)
                go_wp2
                go_roundw
                case rel => exact ⟨i + 1, by omega, by go_num, by first | exact hbr | exact hbr.drew | exact below_drewN' hbr _ | exact below_drewN' (below_drewN' hbr _) _ | exact below_drewN' (below_drewN' (below_drewN' hbr _) _) _ | exact below_drewN' (below_drewN' (below_drewN' (below_drewN' hbr _) _) _) _⟩
                case measure => simp [intOf]; omega
              · go_wp2
                go_quiet (fail)
                go_wp2
                go_quiet (fail)
                go_wp2
                go_roundw
                case rel => exact ⟨i + 1, by omega, by go_num, by first | exact hbr | exact hbr.drew | exact below_drewN' hbr _ | exact below_drewN' (below_drewN' hbr _) _⟩
                case measure => simp [intOf]; omega
            · have z3 : decide (0 ≤ q + x0) = false := by simp; omega
              go_wp2
              go_quiet (fail)
              go_wp2
              go_quiet (fail)
              go_wp2
              go_roundw
              case rel => exact ⟨i + 1, by omega, by go_num, by first | exact hbr | exact hbr.drew | exact below_drewN' hbr _ | exact below_drewN' (below_drewN' hbr _) _⟩
              case measure => simp [intOf]; omega
          · have z3 : decide (q ≤ 255) = false := by simp; omega
            go_wp2
            go_quiet (fail)
            go_wp2
            go_quiet (fail)
            go_wp2
            go_roundw
            case rel => exact ⟨i + 1, by omega, by go_num, by first | exact hbr | exact hbr.drew | exact below_drewN' hbr _ | exact below_drewN' (below_drewN' hbr _) _⟩
            case measure => simp [intOf]; omega
        · have z3 : decide (0 ≤ q) = false := by simp; omega
          go_wp2
          go_quiet (fail)
          go_wp2
          go_quiet (fail)
          go_wp2
          go_roundw
          case rel => exact ⟨i + 1, by omega, by go_num, by first | exact hbr | exact hbr.drew | exact below_drewN' hbr _ | exact below_drewN' (below_drewN' hbr _) _⟩
          case measure => simp [intOf]; omega
      · go_wp2
        go_quiet (fail)
        go_wp2
        go_quiet (fail)
        go_wp2
        go_roundw
        case rel => exact ⟨i + 1, by omega, by go_num, by first | exact hbr | exact hbr.drew | exact below_drewN' hbr _ | exact below_drewN' (below_drewN' hbr _) _⟩
        case measure => simp [intOf]; omega
    · go_wp2_with fail
      refine (first_any _ (((((((HG.out.ext j1).ext j2).ext j3).ext j4).ext j5).ext j6).ext hbr |>.ext (by go_grown))).mono ?_
      rintro e wz ⟨rfl, hbz⟩
      have gz : Below w.heap.size w wz := ext gr (ext (by go_grown) hbz)
      go_wp2
      go_returns
      exact ⟨rfl, gz⟩

set_option maxRecDepth 100000 in
set_option maxHeartbeats 16000000 in
theorem peak_w64 (v u : Value) (b p : List Int) (qp : Int) (w : World) (hv : Ints w v b) (hu : Ints w u p) (hg : TypeIs w) (hb : b.length = 64) (hw : withinB b (-255) 255 = false) :
    Calls Tryd.prog 8 #[v, u, .int .i64 qp] w fun e w' => e = .returned (.bool true) ∧ Below w.heap.size w w' := by
  have HG := Lib.hid hg
  have HV := Lib.hid hv
  have HU := Lib.hid hu
  have hl := hv.len
  have hl2 := hu.len
  obtain ⟨n, hn, hn2⟩ : ∃ n, b.length = n ∧ n = 64 := ⟨_, rfl, hb⟩
  obtain ⟨m, hm⟩ : ∃ m, p.length = m := ⟨_, rfl⟩
  obtain ⟨ao, cap, rfl⟩ : ∃ ao cap, v = .slice ao n cap := by obtain ⟨ao, cap, e⟩ := hv.shape; exact ⟨ao, cap, by rw [e, hn]⟩
  obtain ⟨bo, bcap, rfl⟩ : ∃ ao cap, u = .slice ao m cap := by obtain ⟨ao, cap, e⟩ := hu.shape; exact ⟨ao, cap, by rw [e, hm]⟩
  have LN := Lib.hid hn
  have LM := Lib.hid hm
  rw [hn] at hl
  rw [hm] at hl2
  have q1 : ((n : Int) != 16) = true := by rw [hn2]; rfl
  have q2 : ((n : Int) != 64) = false := by rw [hn2]; rfl
  have n1 : n ≤ 64 := by omega
  have CW := Lib.hid (fun w h => within_is (.slice ao n cap) b (-255) 255 false hw w h)
  clear hv hu hg hn hm hb hn2 hw
  go_enter Tryd.func8, Tryd.ntmps8
  have g0 : Below w.heap.size w w := Below.refl _ _
  go_wp2_with fail
  refine (first_any _ (HG.out.ext (by go_grown))).mono ?_
  rintro e w1 ⟨rfl, hb1⟩
  have j1 : Below w.heap.size w w1 := ext (by go_grown) hb1
  have g1 : Below w.heap.size w w1 := ext g0 j1
  have s1 := j1.size
  have t1 := g1.size
  go_wp2_with fail
  refine (CW.out _ ((HV.out.ext j1).ext (by go_grown))).mono ?_
  rintro e w' ⟨rfl, rfl⟩
  go_wp2_with fail
  refine (first_any _ ((HG.out.ext j1).ext (by go_grown))).mono ?_
  rintro e w2 ⟨rfl, hb2⟩
  have j2 : Below w1.heap.size w1 w2 := ext (by go_grown) hb2
  have g2 : Below w.heap.size w w2 := ext g1 j2
  have s2 := j2.size
  have t2 := g2.size
  go_wp2
  all_goals go_returns
  all_goals exact ⟨by first | rfl | (simp; done) | (simp; omega), g2⟩

set_option maxRecDepth 100000 in
set_option maxHeartbeats 16000000 in
theorem peak_ql64 (v u : Value) (b p : List Int) (qp : Int) (w : World) (hv : Ints w v b) (hu : Ints w u p) (hg : TypeIs w) (hb : b.length = 64) (hw : withinB b (-255) 255 = true) (hq : qp < 0) :
    Calls Tryd.prog 8 #[v, u, .int .i64 qp] w fun e w' => e = .returned (.bool true) ∧ Below w.heap.size w w' := by
  have HG := Lib.hid hg
  have HV := Lib.hid hv
  have HU := Lib.hid hu
  have hl := hv.len
  have hl2 := hu.len
  obtain ⟨n, hn, hn2⟩ : ∃ n, b.length = n ∧ n = 64 := ⟨_, rfl, hb⟩
  obtain ⟨m, hm⟩ : ∃ m, p.length = m := ⟨_, rfl⟩
  obtain ⟨ao, cap, rfl⟩ : ∃ ao cap, v = .slice ao n cap := by obtain ⟨ao, cap, e⟩ := hv.shape; exact ⟨ao, cap, by rw [e, hn]⟩
  obtain ⟨bo, bcap, rfl⟩ : ∃ ao cap, u = .slice ao m cap := by obtain ⟨ao, cap, e⟩ := hu.shape; exact ⟨ao, cap, by rw [e, hm]⟩
  have LN := Lib.hid hn
  have LM := Lib.hid hm
  rw [hn] at hl
  rw [hm] at hl2
  have q1 : ((n : Int) != 16) = true := by rw [hn2]; rfl
  have q2 : ((n : Int) != 64) = false := by rw [hn2]; rfl
  have n1 : n ≤ 64 := by omega
  have CW := Lib.hid (fun w h => within_is (.slice ao n cap) b (-255) 255 true hw w h)
  clear hv hu hg hn hm hb hn2 hw
  go_enter Tryd.func8, Tryd.ntmps8
  have g0 : Below w.heap.size w w := Below.refl _ _
  go_wp2_with fail
  refine (first_any _ (HG.out.ext (by go_grown))).mono ?_
  rintro e w1 ⟨rfl, hb1⟩
  have j1 : Below w.heap.size w w1 := ext (by go_grown) hb1
  have g1 : Below w.heap.size w w1 := ext g0 j1
  have s1 := j1.size
  have t1 := g1.size
  go_wp2_with fail
  refine (CW.out _ ((HV.out.ext j1).ext (by go_grown))).mono ?_
  rintro e w' ⟨rfl, rfl⟩
  go_wp2_with fail
  refine (first_any _ ((HG.out.ext j1).ext (by go_grown))).mono ?_
  rintro e w2 ⟨rfl, hb2⟩
  have j2 : Below w1.heap.size w1 w2 := ext (by go_grown) hb2
  have g2 : Below w.heap.size w w2 := ext g1 j2
  have s2 := j2.size
  have t2 := g2.size
  go_wp2
  all_goals go_returns
  all_goals exact ⟨by first | rfl | (simp; done) | (simp; omega), g2⟩

set_option maxRecDepth 100000 in
set_option maxHeartbeats 16000000 in
theorem peak_qg64 (v u : Value) (b p : List Int) (qp : Int) (w : World) (hv : Ints w v b) (hu : Ints w u p) (hg : TypeIs w) (hb : b.length = 64) (hw : withinB b (-255) 255 = true) (hq0 : 0 ≤ qp) (hq : 15 < qp) :
    Calls Tryd.prog 8 #[v, u, .int .i64 qp] w fun e w' => e = .returned (.bool true) ∧ Below w.heap.size w w' := by
  have HG := Lib.hid hg
  have HV := Lib.hid hv
  have HU := Lib.hid hu
  have hl := hv.len
  have hl2 := hu.len
  obtain ⟨n, hn, hn2⟩ : ∃ n, b.length = n ∧ n = 64 := ⟨_, rfl, hb⟩
  obtain ⟨m, hm⟩ : ∃ m, p.length = m := ⟨_, rfl⟩
  obtain ⟨ao, cap, rfl⟩ : ∃ ao cap, v = .slice ao n cap := by obtain ⟨ao, cap, e⟩ := hv.shape; exact ⟨ao, cap, by rw [e, hn]⟩
  obtain ⟨bo, bcap, rfl⟩ : ∃ ao cap, u = .slice ao m cap := by obtain ⟨ao, cap, e⟩ := hu.shape; exact ⟨ao, cap, by rw [e, hm]⟩
  have LN := Lib.hid hn
  have LM := Lib.hid hm
  rw [hn] at hl
  rw [hm] at hl2
  have q1 : ((n : Int) != 16) = true := by rw [hn2]; rfl
  have q2 : ((n : Int) != 64) = false := by rw [hn2]; rfl
  have n1 : n ≤ 64 := by omega
  have CW := Lib.hid (fun w h => within_is (.slice ao n cap) b (-255) 255 true hw w h)
  clear hv hu hg hn hm hb hn2 hw
  go_enter Tryd.func8, Tryd.ntmps8
  have g0 : Below w.heap.size w w := Below.refl _ _
  go_wp2_with fail
  refine (first_any _ (HG.out.ext (by go_grown))).mono ?_
  rintro e w1 ⟨rfl, hb1⟩
  have j1 : Below w.heap.size w w1 := ext (by go_grown) hb1
  have g1 : Below w.heap.size w w1 := ext g0 j1
  have s1 := j1.size
  have t1 := g1.size
  go_wp2_with fail
  refine (CW.out _ ((HV.out.ext j1).ext (by go_grown))).mono ?_
  rintro e w' ⟨rfl, rfl⟩
  go_wp2_with fail
  refine (first_any _ ((HG.out.ext j1).ext (by go_grown))).mono ?_
  rintro e w2 ⟨rfl, hb2⟩
  have j2 : Below w1.heap.size w1 w2 := ext (by go_grown) hb2
  have g2 : Below w.heap.size w w2 := ext g1 j2
  have s2 := j2.size
  have t2 := g2.size
  go_wp2
  all_goals go_returns
  all_goals exact ⟨by first | rfl | (simp; done) | (simp; omega), g2⟩

set_option maxRecDepth 100000 in
set_option maxHeartbeats 16000000 in
theorem peak_in64 (v u : Value) (b p : List Int) (qp : Int) (w : World) (hv : Ints w v b) (hu : Ints w u p) (hg : TypeIs w) (hb : b.length = 64) (hw : withinB b (-255) 255 = true) (hq0 : 0 ≤ qp) (hq : qp ≤ 15) :
    Calls Tryd.prog 8 #[v, u, .int .i64 qp] w fun e w' => e = .returned (.bool true) ∧ Below w.heap.size w w' := by
  have HG := Lib.hid hg
  have HV := Lib.hid hv
  have HU := Lib.hid hu
  have hl := hv.len
  have hl2 := hu.len
  have hbl : b.length ≤ 64 := by omega
  have hin : inQ qp = true := by simp [inQ]; omega
  obtain ⟨c, l, x, d, hp⟩ := peak (by omega) hw hin
  have c1 := fun w h => pforward_any v b w h
  rw [hp.fe, hp.fv, errV_zero] at c1
  have c2 := fun u w h => plevels_any u c qp w h (by rw [hp.cl]; omega)
  rw [hp.le, hp.lv, errV_zero] at c2
  have c3 := fun u w h => pvalues_any u l qp w h (by rw [hp.ll]; omega)
  rw [hp.ve, hp.vv, errV_zero] at c3
  have c4 := fun u w h => pinverse_any u x w h
  rw [hp.ie, hp.iv, errV_zero] at c4
  have c5 := fun w => pbound_ok (qp := qp) w hin
  have c6 := fun u w h => within_is u l (-16320) 16320 true hp.lw w h
  have HN := Lib.hid (fun j hj => And.intro (hp.near j hj) (within_get hw (by omega) (by omega) j))
  obtain ⟨kb1, kb2⟩ := half_bd qp
  have kb3 : 0 ≤ boundV qp := kb1
  have kb4 : boundV qp ≤ 192 := kb2
  clear kb1 kb2
  have HDL := Lib.hid hp.dl
  have HLL := Lib.hid hp.ll
  have HXL := Lib.hid hp.vl
  have HCL := Lib.hid hp.cl
  generalize boundV qp = kk at *
  obtain ⟨n, hn, hn2⟩ : ∃ n, b.length = n ∧ n = 64 := ⟨_, rfl, hb⟩
  obtain ⟨m, hm⟩ : ∃ m, p.length = m := ⟨_, rfl⟩
  obtain ⟨ao, cap, rfl⟩ : ∃ ao cap, v = .slice ao n cap := by obtain ⟨ao, cap, e⟩ := hv.shape; exact ⟨ao, cap, by rw [e, hn]⟩
  obtain ⟨bo, bcap, rfl⟩ : ∃ ao cap, u = .slice ao m cap := by obtain ⟨ao, cap, e⟩ := hu.shape; exact ⟨ao, cap, by rw [e, hm]⟩
  have LN := Lib.hid hn
  have LM := Lib.hid hm
  rw [hn] at hl
  rw [hm] at hl2
  have q1 : ((n : Int) != 16) = true := by rw [hn2]; rfl
  have q2 : ((n : Int) != 64) = false := by rw [hn2]; rfl
  have n1 : n ≤ 64 := by omega
  have CW := Lib.hid (fun w h => within_is (.slice ao n cap) b (-255) 255 true hw w h)
  have C1 := Lib.hid c1
  have C2 := Lib.hid c2
  have C3 := Lib.hid c3
  have C4 := Lib.hid c4
  have C5 := Lib.hid c5
  have C6 := Lib.hid c6
  have HIU := Lib.hid hu.in64
  have qnn : ((n : Int) != (n : Int)) = false := by simp
  clear hv hu hg hn hm hb hn2 hw hp c1 c2 c3 c4 c5 c6 hin hbl
  go_enter Tryd.func8, Tryd.ntmps8
  have g0 : Below w.heap.size w w := Below.refl _ _
  go_wp2_with fail
  refine (first_any _ (HG.out.ext (by go_grown))).mono ?_
  rintro e w1 ⟨rfl, hb1⟩
  have j1 : Below w.heap.size w w1 := ext (by go_grown) hb1
  have g1 : Below w.heap.size w w1 := ext g0 j1
  have s1 := j1.size
  have t1 := g1.size
  go_wp2_with fail
  refine (CW.out _ ((HV.out.ext j1).ext (by go_grown))).mono ?_
  rintro e w' ⟨rfl, rfl⟩
  go_wp2_with fail
  refine (C1.out _ ((HV.out.ext j1).ext (by go_grown))).mono ?_
  rintro e w2 ⟨vc, rfl, oc, hb2⟩
  have j2 : Below w1.heap.size w1 w2 := ext (by go_grown) hb2
  have g2 : Below w.heap.size w w2 := ext g1 j2
  have s2 := j2.size
  have t2 := g2.size
  obtain ⟨ac, kc, rfl⟩ : ∃ ao cap, vc = .slice ao n cap := by obtain ⟨ao, cap, e⟩ := oc.shape; exact ⟨ao, cap, by rw [e, HCL.out, LN.out]⟩
  have Ic := Lib.hid (oc.ints)
  clear oc
  go_wp2_with fail
  refine (C2.out _ _ (Ic.out.ext (by go_grown))).mono ?_
  rintro e w3 ⟨vl, rfl, ol, hb3⟩
  have j3 : Below w2.heap.size w2 w3 := ext (by go_grown) hb3
  have g3 : Below w.heap.size w w3 := ext g2 j3
  have s3 := j3.size
  have t3 := g3.size
  obtain ⟨al, kl, rfl⟩ : ∃ ao cap, vl = .slice ao n cap := by obtain ⟨ao, cap, e⟩ := ol.shape; exact ⟨ao, cap, by rw [e, HLL.out, LN.out]⟩
  have Il := Lib.hid (ol.ints)
  clear ol
  go_wp2_with fail
  refine (C3.out _ _ (Il.out.ext (by go_grown))).mono ?_
  rintro e w4 ⟨vx, rfl, ox, hb4⟩
  have j4 : Below w3.heap.size w3 w4 := ext (by go_grown) hb4
  have g4 : Below w.heap.size w w4 := ext g3 j4
  have s4 := j4.size
  have t4 := g4.size
  obtain ⟨ax, kx, rfl⟩ : ∃ ao cap, vx = .slice ao n cap := by obtain ⟨ao, cap, e⟩ := ox.shape; exact ⟨ao, cap, by rw [e, HXL.out, LN.out]⟩
  have Ix := Lib.hid (ox.ints)
  clear ox
  go_wp2_with fail
  refine (C4.out _ _ (Ix.out.ext (by go_grown))).mono ?_
  rintro e w5 ⟨vd, rfl, od, hb5⟩
  have j5 : Below w4.heap.size w4 w5 := ext (by go_grown) hb5
  have g5 : Below w.heap.size w w5 := ext g4 j5
  have s5 := j5.size
  have t5 := g5.size
  obtain ⟨ad, kd, rfl⟩ : ∃ ao cap, vd = .slice ao n cap := by obtain ⟨ao, cap, e⟩ := od.shape; exact ⟨ao, cap, by rw [e, HDL.out, LN.out]⟩
  have Id := Lib.hid (od.ints)
  clear od
  go_wp2_with fail
  refine (C5.out _).mono ?_
  rintro e w6 ⟨rfl, hb6⟩
  have j6 : Below w5.heap.size w5 w6 := ext (by go_grown) hb6
  have g6 : Below w.heap.size w w6 := ext g5 j6
  have s6 := j6.size
  have t6 := g6.size
  go_wp2_with fail
  refine (C6.out _ _ ((((Il.out.ext j4).ext j5).ext j6).ext (by go_grown))).mono ?_
  rintro e w' ⟨rfl, rfl⟩
  go_wp2
  go_loopw [17] (fun z wr => ∃ i : Nat, i ≤ n ∧ z = .int .i64 i ∧ Below w6.heap.size w6 wr) (fun z _ => n - (intOf z).toNat)
  case atStart => exact ⟨0, Nat.zero_le _, rfl, Below.refl _ _⟩
  case round =>
    obtain ⟨i, hi, rfl, hbr⟩ := hrel
    have gr : Below w.heap.size w wr := ext g6 hbr
    by_cases hlt : i < n
    · obtain ⟨⟨e1, e2⟩, e3, e4⟩ := HN.out i (by rw [LN.out]; exact hlt)
      have hxb := ((((((((HV.out.ext j1).ext j2).ext j3).ext j4).ext j5).ext j6)).ext hbr).cellN (j := i) (by rw [LN.out]; exact hlt)
      obtain ⟨g1, o1, rfl, cb, lb⟩ := hxb
      have hxd := (((Id.out.ext j6)).ext hbr).cellN (j := i) (by rw [HDL.out, LN.out]; exact hlt)
      obtain ⟨g2, o2, rfl, cd, ld⟩ := hxd
      generalize b.getD i 0 = x0 at *
      generalize d.getD i 0 = y0 at *
      have f1 : IntKind.i64.wrap (y0 - x0) = y0 - x0 := IntWalk.i64_in _ (by omega)
      have f2 : IntKind.i64.wrap (x0 - y0) = x0 - y0 := IntWalk.i64_in _ (by omega)
      have f3 : decide (kk < y0 - x0) = false := by simp; omega
      have f4 : decide (kk < x0 - y0) = false := by simp; omega
      by_cases hm : i < m
      · have hxp := ((((((((HU.out.ext j1).ext j2).ext j3).ext j4).ext j5).ext j6)).ext hbr).cellN (j := i) (by rw [LM.out]; exact hm)
        obtain ⟨g3, o3, rfl, cp, lp⟩ := hxp
        obtain ⟨p1, p2⟩ := getD_in64 HIU.out i
        generalize p.getD i 0 = q at *
        by_cases h1 : 0 ≤ q
        · by_cases h2 : q ≤ 255
          · have f5 : IntKind.i64.wrap (q + x0) = q + x0 := IntWalk.i64_in _ (by omega)
            have f6 : IntKind.i64.wrap (q + y0) = q + y0 := IntWalk.i64_in _ (by omega)
            by_cases h3 : 0 ≤ q + x0
            · by_cases h4 : q + x0 ≤ 255
              · obtain ⟨mm, s, a1, a2, a3, a4, a5, a6⟩ := peak_round e1 e2 h3 h4
                have f7 : IntKind.i64.wrap (s - q) = s - q := IntWalk.i64_in _ (by omega)
                have f8 : IntKind.i64.wrap (s - q - x0) = s - q - x0 := IntWalk.i64_in _ (by omega)
                have f9 : IntKind.i64.wrap (q + x0 - s) = q + x0 - s := IntWalk.i64_in _ (by omega)
                have f10 : decide (kk < s - q - x0) = false := by simp; omega
                have f11 : decide (kk < q + x0 - s) = false := by simp; omega
                clear e1 e2 a5 a6
                go_wp2
                go_quiet (fail)
                go_wp2
                go_quiet (fail)
                go_wp2
                go_quiet (fail)
                go_wp2
                go_quiet (fail)
                go_wp2
                go_roundw
                case rel => exact ⟨i + 1, by omega, by go_num, by first | exact hbr | exact hbr.drew | exact below_drewN' hbr _ | exact below_drewN' (below_drewN' hbr _) _ | exact below_drewN' (below_drewN' (below_drewN' hbr _) _) _ | exact below_drewN' (below_drewN' (below_drewN' (below_drewN' hbr _) _) _) _⟩
                case measure => simp [intOf]; omega
              · go_wp2
                go_quiet (fail)
                go_wp2
                go_quiet (fail)
                go_wp2
                go_roundw
                case rel => exact ⟨i + 1, by omega, by go_num, by first | exact hbr | exact hbr.drew | exact below_drewN' hbr _ | exact below_drewN' (below_drewN' hbr _) _⟩
                case measure => simp [intOf]; omega
            · have z3 : decide (0 ≤ q + x0) = false := by simp; omega
              go_wp2
              go_quiet (fail)
              go_wp2
              go_quiet (fail)
              go_wp2
              go_roundw
              case rel => exact ⟨i + 1, by omega, by go_num, by first | exact hbr | exact hbr.drew | exact below_drewN' hbr _ | exact below_drewN' (below_drewN' hbr _) _⟩
              case measure => simp [intOf]; omega
          · have z3 : decide (q ≤ 255) = false := by simp; omega
            go_wp2
            go_quiet (fail)
            go_wp2
            go_quiet (fail)
            go_wp2
            go_roundw
            case rel => exact ⟨i + 1, by omega, by go_num, by first | exact hbr | exact hbr.drew | exact below_drewN' hbr _ | exact below_drewN' (below_drewN' hbr _) _⟩
            case measure => simp [intOf]; omega
        · have z3 : decide (0 ≤ q) = false := by simp; omega
          go_wp2
          go_quiet (fail)
          go_wp2
          go_quiet (fail)
          go_wp2
          go_roundw
          case rel => exact ⟨i + 1, by omega, by go_num, by first | exact hbr | exact hbr.drew | exact below_drewN' hbr _ | exact below_drewN' (below_drewN' hbr _) _⟩
          case measure => simp [intOf]; omega
      · go_wp2
        go_quiet (fail)
        go_wp2
        go_quiet (fail)
        go_wp2
        go_roundw
        case rel => exact ⟨i + 1, by omega, by go_num, by first | exact hbr | exact hbr.drew | exact below_drewN' hbr _ | exact below_drewN' (below_drewN' hbr _) _⟩
        case measure => simp [intOf]; omega
    · go_wp2_with fail
      refine (first_any _ (((((((HG.out.ext j1).ext j2).ext j3).ext j4).ext j5).ext j6).ext hbr |>.ext (by go_grown))).mono ?_
      rintro e wz ⟨rfl, hbz⟩
      have gz : Below w.heap.size w wz := ext gr (ext (by go_grown) hbz)
      go_wp2
      go_returns
      exact ⟨rfl, gz⟩

theorem peak_walk (v u : Value) (b p : List Int) (qp : Int) (w : World) (hv : Ints w v b) (hu : Ints w u p) (hg : TypeIs w) :
    Calls Tryd.prog 8 #[v, u, .int .i64 qp] w fun e w' => e = .returned (.bool true) ∧ Below w.heap.size w w' := by
  by_cases h16 : b.length = 16
  · cases hw : withinB b (-255) 255 with
    | false => exact peak_w16 v u b p qp w hv hu hg h16 hw
    | true =>
      by_cases q1 : qp < 0
      · exact peak_ql16 v u b p qp w hv hu hg h16 hw q1
      by_cases q2 : 15 < qp
      · exact peak_qg16 v u b p qp w hv hu hg h16 hw (by omega) q2
      exact peak_in16 v u b p qp w hv hu hg h16 hw (by omega) (by omega)
  by_cases h64 : b.length = 64
  · cases hw : withinB b (-255) 255 with
    | false => exact peak_w64 v u b p qp w hv hu hg h64 hw
    | true =>
      by_cases q1 : qp < 0
      · exact peak_ql64 v u b p qp w hv hu hg h64 hw q1
      by_cases q2 : 15 < qp
      · exact peak_qg64 v u b p qp w hv hu hg h64 hw (by omega) q2
      exact peak_in64 v u b p qp w hv hu hg h64 hw (by omega) (by omega)
  exact peak_len v u b p qp w hv hu hg h16 h64
end Go.Proofs.YtkiigodkbmcpfaaDoor
