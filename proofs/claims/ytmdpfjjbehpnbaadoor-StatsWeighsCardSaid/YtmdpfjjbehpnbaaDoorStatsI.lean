/- stats.Inner, Outer; kinref16.Inner, Outer: contracts. -/
import Derived.Test.YtmdpfjjbehpnbaaDoorStatsW
import Derived.Test.YtmdpfjjbehpnbaaDoorBlockR
set_option linter.unusedSimpArgs false
set_option linter.unusedVariables false
namespace Go.Proofs.YtmdpfjjbehpnbaaDoor
open Go.RowKit Go.Extern.Stop Go.Stop Go.Extern
theorem OwnInts.sliceN {w : World} {B : Nat} {v : Value} {xs : List Int} (h : OwnInts w B v xs) {n : Nat} (hn : xs.length = n) : ∃ ao cap, v = .slice ao n cap := by
  obtain ⟨ao, cap, e⟩ := h.shape; exact ⟨ao, cap, by rw [e, hn]⟩
theorem bothQ {W H : Int} {a b : List Int} (ha : May W H a) (hb : May W H b) (k : Nat) : bothE (sqA W H a k) (sqA W H b k) = 0 := by
  have h1 := within_iff.1 (sqA_within ha k)
  have h2 := within_iff.1 (sqA_within hb k)
  have e1 : withinB (sqA W H a k) (-1048576) 1048576 = true := within_iff.2 fun i hi => by have := h1 i hi; omega
  have e2 : withinB (sqA W H b k) (-1048576) 1048576 = true := within_iff.2 fun i hi => by have := h2 i hi; omega
  unfold bothE
  rw [if_pos (by rw [length_sqA, length_sqA]), e1, e2]; rfl
set_option maxRecDepth 100000 in
theorem pinner_no (v : Value) (W H : Int) (pix : List Int) (w : World) (hv : FrameV w v W H pix) (hm : mayB W H pix = false) :
    Calls Tryd.prog 10 #[v] w fun e w' => e = .returned (.tuple #[.int .i64 0, .iface 32 (.int .i64 2)]) ∧ Below w.heap.size w w' := by
  have c1 := fun u w h => pmay_any u W H pix w h
  rw [hm] at c1
  have C1 := Lib.hid c1
  have HV := Lib.hid hv
  obtain ⟨ao, cap, rfl, -⟩ := hv.cells
  clear hv hm c1
  go_enter Tryd.func10, Tryd.ntmps10
  go_wp2_with fail
  refine (C1.out _ _ (HV.out.ext (by go_grown))).mono ?_
  rintro e w1 ⟨rfl, hb1⟩
  have g1 : Below w.heap.size w w1 := ext (by go_grown) hb1
  go_wp2
  go_returns
  exact ⟨rfl, g1⟩
set_option maxRecDepth 100000 in
set_option maxHeartbeats 4000000 in
theorem pinner_yes (v : Value) (W H : Int) (pix : List Int) (w : World) (hv : FrameV w v W H pix) (hm : mayB W H pix = true) :
    Calls Tryd.prog 10 #[v] w fun e w' => e = .returned (.tuple #[.int .i64 (inTo W H pix (sqN W H)), .nilIface]) ∧ Below w.heap.size w w' := by
  have c1 := fun u w h => pmay_any u W H pix w h
  rw [hm] at c1
  have C1 := Lib.hid c1
  have hM := mayB_iff.1 hm
  have C2 := Lib.hid (fun u w h => psquares_any u W H pix w h hM)
  have C3 := Lib.hid (fun u k w h => pwithin_any u (sqA W H pix k) w h (sqA_within hM k) (length_sqA ..))
  have HB := Lib.hid (fun k => inTo_bounds hM k)
  have HD := Lib.hid (fun k => inV_bd (sqA_within hM k) (by rw [length_sqA]; omega))
  have HU := Lib.hid (fun k => inTo_succ W H pix k)
  have HL := Lib.hid (length_sqL W H pix)
  have hq : sqN W H ≤ 16 := by obtain ⟨C, R, -, -, -, -, -, -, -, e, h⟩ := hM.sides; omega
  have HA := Lib.hid (fun k (h : k < sqN W H) => sqL_at W H pix h)
  have HQ := Lib.hid (fun k => length_sqA W H pix k)
  have HV := Lib.hid hv
  obtain ⟨ao, cap, rfl, -⟩ := hv.cells
  have BF := Lib.hid (Blk.new w #[.int .i64 W, .int .i64 H, .slice ao pix.length cap] 24)
  clear hv hm c1 hM
  generalize hN : sqN W H = N at *
  clear hN
  go_enter Tryd.func10, Tryd.ntmps10
  go_wp2_with fail
  refine (C1.out _ _ (HV.out.ext (by go_grown))).mono ?_
  rintro e w1 ⟨rfl, hb1⟩
  have g1 : Below w.heap.size w w1 := ext (by go_grown) hb1
  obtain ⟨c0, c1, c2, -, -, -⟩ := (BF.out.ext hb1).three
  have lb := (BF.out.ext hb1).lt
  go_wp2_with fail
  clear c0 c1 c2 lb
  refine (C2.out _ _ (HV.out.ext (ext g1 (by go_grown)))).mono ?_
  rintro e w2 ⟨q, rfl, hq2, hb2⟩
  have g2 : Below w.heap.size w w2 := ext g1 (ext (by go_grown) hb2)
  obtain ⟨qo, qc, rfl⟩ := hq2.shapeN (HL.out N)
  have HR := Lib.hid hq2
  clear hq2
  go_wp2
  go_loopw [4, 14] (fun n i wr => ∃ k : Nat, k ≤ N ∧ i = .int .i64 k ∧ n = .int .i64 (inTo W H pix k) ∧ Below w2.heap.size w2 wr) (fun _ i _ => N - (intOf i).toNat)
  case atStart => exact ⟨0, Nat.zero_le _, rfl, rfl, Below.refl _ _⟩
  case round =>
    obtain ⟨k, hk, rfl, rfl, hbr⟩ := hrel
    obtain ⟨h1, h2⟩ := HB.out k
    by_cases hlt : k < N
    · obtain ⟨g, p, rfl, lg, cp, hp⟩ := (HR.out.ext hbr).at (j := k) (by rw [HL.out]; exact hlt)
      rw [HA.out k hlt] at hp
      obtain ⟨po, pc, rfl⟩ := hp.sliceN (HQ.out k)
      have HP := Lib.hid hp.ints
      obtain ⟨d1, d2⟩ := HD.out k
      have he := HU.out k
      have CW := Lib.hid (fun u w h => C3.out u k w h)
      generalize inTo W H pix k = s at *
      generalize inV (sqA W H pix k) = z at *
      have HE := Lib.hid he
      clear hp he
      have q1 : IntKind.i64.wrap (s + z) = s + z := IntWalk.i64_in _ (by omega)
      go_wp2_with fail
      refine (CW.out _ _ (HP.out.ext (by go_grown))).mono ?_
      rintro e w5 ⟨rfl, hb5⟩
      have g5 : Below w2.heap.size w2 w5 := ext hbr (ext (by go_grown) hb5)
      go_wp2
      go_roundw
      case rel => exact ⟨k + 1, by omega, by go_num, int_eq HE.out.symm, g5⟩
      case measure => simp [intOf]; omega
    · obtain rfl : k = N := by omega
      go_wp2
      go_returns
      exact ⟨rfl, ext g2 hbr⟩
theorem pinner_any (v : Value) (f : Fr) (w : World) (hv : FrameV w v f.W f.H f.pix) :
    Calls Tryd.prog 10 #[v] w fun e w' => e = .returned (.tuple #[.int .i64 (innV f), errV (innE f)]) ∧ Below w.heap.size w w' := by
  unfold innV innE
  cases hm : mayB f.W f.H f.pix with
  | true => exact pinner_yes v f.W f.H f.pix w hv hm
  | false => exact pinner_no v f.W f.H f.pix w hv hm
set_option maxRecDepth 100000 in
theorem pouter_m1 (v u : Value) (W H : Int) (a : List Int) (W2 H2 : Int) (b : List Int) (w : World) (hv : FrameV w v W H a) (hu : FrameV w u W2 H2 b) (h1 : mayB W H a = false) :
    Calls Tryd.prog 12 #[v, u] w fun e w' => e = .returned (.tuple #[.int .i64 0, .iface 32 (.int .i64 2)]) ∧ Below w.heap.size w w' := by
  have c1 := fun x w h => pmay_any x W H a w h
  have c2 := fun x w h => pmay_any x W2 H2 b w h
  rw [h1] at c1
  clear h1
  have C1 := Lib.hid c1
  have C2 := Lib.hid c2
  have HV := Lib.hid hv
  have HU := Lib.hid hu
  obtain ⟨ao, cap, rfl, -⟩ := hv.cells
  obtain ⟨bo, bcap, rfl, -⟩ := hu.cells
  have BA := Lib.hid ((Blk.new w #[.int .i64 W, .int .i64 H, .slice ao a.length cap] 24).alloc (.cells #[.int .i64 W2, .int .i64 H2, .slice bo b.length bcap] 24))
  have BB := Lib.hid (Blk.new (w.alloc (.cells #[.int .i64 W, .int .i64 H, .slice ao a.length cap] 24)) #[.int .i64 W2, .int .i64 H2, .slice bo b.length bcap] 24)
  simp only [World.size_alloc] at BB
  clear hv hu c1 c2
  go_enter Tryd.func12, Tryd.ntmps12
  go_wp2_with fail
  refine (C1.out _ _ (HV.out.ext (by go_grown))).mono ?_
  rintro e w1 ⟨rfl, hb1⟩
  have g1 : Below w.heap.size w w1 := ext (by go_grown) hb1
  go_wp2
  go_returns
  exact ⟨rfl, g1⟩
set_option maxRecDepth 100000 in
theorem pouter_m2 (v u : Value) (W H : Int) (a : List Int) (W2 H2 : Int) (b : List Int) (w : World) (hv : FrameV w v W H a) (hu : FrameV w u W2 H2 b) (h1 : mayB W H a = true) (h2 : mayB W2 H2 b = false) :
    Calls Tryd.prog 12 #[v, u] w fun e w' => e = .returned (.tuple #[.int .i64 0, .iface 32 (.int .i64 2)]) ∧ Below w.heap.size w w' := by
  have c1 := fun x w h => pmay_any x W H a w h
  have c2 := fun x w h => pmay_any x W2 H2 b w h
  rw [h1] at c1
  rw [h2] at c2
  clear h1 h2
  have C1 := Lib.hid c1
  have C2 := Lib.hid c2
  have HV := Lib.hid hv
  have HU := Lib.hid hu
  obtain ⟨ao, cap, rfl, -⟩ := hv.cells
  obtain ⟨bo, bcap, rfl, -⟩ := hu.cells
  have BA := Lib.hid ((Blk.new w #[.int .i64 W, .int .i64 H, .slice ao a.length cap] 24).alloc (.cells #[.int .i64 W2, .int .i64 H2, .slice bo b.length bcap] 24))
  have BB := Lib.hid (Blk.new (w.alloc (.cells #[.int .i64 W, .int .i64 H, .slice ao a.length cap] 24)) #[.int .i64 W2, .int .i64 H2, .slice bo b.length bcap] 24)
  simp only [World.size_alloc] at BB
  clear hv hu c1 c2
  go_enter Tryd.func12, Tryd.ntmps12
  go_wp2_with fail
  refine (C1.out _ _ (HV.out.ext (by go_grown))).mono ?_
  rintro e w1 ⟨rfl, hb1⟩
  have g1 : Below w.heap.size w w1 := ext (by go_grown) hb1
  obtain ⟨d0, d1, d2, -, -, -⟩ := (BB.out.ext hb1).three
  have ld := (BB.out.ext hb1).lt
  go_wp2_with fail
  clear d0 d1 d2 ld
  refine (C2.out _ _ (HU.out.ext (ext g1 (by go_grown)))).mono ?_
  rintro e w2 ⟨rfl, hb2⟩
  have g2 : Below w.heap.size w w2 := ext g1 (ext (by go_grown) hb2)
  obtain ⟨c0, c1, c2, -, -, -⟩ := ((BA.out.ext hb1).ext hb2).three
  obtain ⟨d0, d1, d2, -, -, -⟩ := ((BB.out.ext hb1).ext hb2).three
  go_wp2
  go_returns
  exact ⟨rfl, g2⟩
set_option maxRecDepth 100000 in
theorem pouter_w (v u : Value) (W H : Int) (a : List Int) (W2 H2 : Int) (b : List Int) (w : World) (hv : FrameV w v W H a) (hu : FrameV w u W2 H2 b) (h1 : mayB W H a = true) (h2 : mayB W2 H2 b = true) (h3 : W ≠ W2) :
    Calls Tryd.prog 12 #[v, u] w fun e w' => e = .returned (.tuple #[.int .i64 0, .iface 32 (.int .i64 14)]) ∧ Below w.heap.size w w' := by
  have c1 := fun x w h => pmay_any x W H a w h
  have c2 := fun x w h => pmay_any x W2 H2 b w h
  rw [h1] at c1
  rw [h2] at c2
  have q : (W != W2) = true := by simp; exact h3
  clear h1 h2 h3
  have C1 := Lib.hid c1
  have C2 := Lib.hid c2
  have HV := Lib.hid hv
  have HU := Lib.hid hu
  obtain ⟨ao, cap, rfl, -⟩ := hv.cells
  obtain ⟨bo, bcap, rfl, -⟩ := hu.cells
  have BA := Lib.hid ((Blk.new w #[.int .i64 W, .int .i64 H, .slice ao a.length cap] 24).alloc (.cells #[.int .i64 W2, .int .i64 H2, .slice bo b.length bcap] 24))
  have BB := Lib.hid (Blk.new (w.alloc (.cells #[.int .i64 W, .int .i64 H, .slice ao a.length cap] 24)) #[.int .i64 W2, .int .i64 H2, .slice bo b.length bcap] 24)
  simp only [World.size_alloc] at BB
  clear hv hu c1 c2
  go_enter Tryd.func12, Tryd.ntmps12
  go_wp2_with fail
  refine (C1.out _ _ (HV.out.ext (by go_grown))).mono ?_
  rintro e w1 ⟨rfl, hb1⟩
  have g1 : Below w.heap.size w w1 := ext (by go_grown) hb1
  obtain ⟨d0, d1, d2, -, -, -⟩ := (BB.out.ext hb1).three
  have ld := (BB.out.ext hb1).lt
  go_wp2_with fail
  clear d0 d1 d2 ld
  refine (C2.out _ _ (HU.out.ext (ext g1 (by go_grown)))).mono ?_
  rintro e w2 ⟨rfl, hb2⟩
  have g2 : Below w.heap.size w w2 := ext g1 (ext (by go_grown) hb2)
  obtain ⟨c0, c1, c2, -, -, -⟩ := ((BA.out.ext hb1).ext hb2).three
  obtain ⟨d0, d1, d2, -, -, -⟩ := ((BB.out.ext hb1).ext hb2).three
  go_wp2
  go_returns
  exact ⟨rfl, g2⟩
set_option maxRecDepth 100000 in
theorem pouter_h (v u : Value) (W H : Int) (a : List Int) (W2 H2 : Int) (b : List Int) (w : World) (hv : FrameV w v W H a) (hu : FrameV w u W2 H2 b) (h1 : mayB W H a = true) (h2 : mayB W2 H2 b = true) (h0 : W = W2) (h3 : H ≠ H2) :
    Calls Tryd.prog 12 #[v, u] w fun e w' => e = .returned (.tuple #[.int .i64 0, .iface 32 (.int .i64 14)]) ∧ Below w.heap.size w w' := by
  have c1 := fun x w h => pmay_any x W H a w h
  have c2 := fun x w h => pmay_any x W2 H2 b w h
  rw [h1] at c1
  rw [h2] at c2
  have q0 : (W != W2) = false := by simp; exact h0
  have q : (H != H2) = true := by simp; exact h3
  clear h0 h1 h2 h3
  have C1 := Lib.hid c1
  have C2 := Lib.hid c2
  have HV := Lib.hid hv
  have HU := Lib.hid hu
  obtain ⟨ao, cap, rfl, -⟩ := hv.cells
  obtain ⟨bo, bcap, rfl, -⟩ := hu.cells
  have BA := Lib.hid ((Blk.new w #[.int .i64 W, .int .i64 H, .slice ao a.length cap] 24).alloc (.cells #[.int .i64 W2, .int .i64 H2, .slice bo b.length bcap] 24))
  have BB := Lib.hid (Blk.new (w.alloc (.cells #[.int .i64 W, .int .i64 H, .slice ao a.length cap] 24)) #[.int .i64 W2, .int .i64 H2, .slice bo b.length bcap] 24)
  simp only [World.size_alloc] at BB
  clear hv hu c1 c2
  go_enter Tryd.func12, Tryd.ntmps12
  go_wp2_with fail
  refine (C1.out _ _ (HV.out.ext (by go_grown))).mono ?_
  rintro e w1 ⟨rfl, hb1⟩
  have g1 : Below w.heap.size w w1 := ext (by go_grown) hb1
  obtain ⟨d0, d1, d2, -, -, -⟩ := (BB.out.ext hb1).three
  have ld := (BB.out.ext hb1).lt
  go_wp2_with fail
  clear d0 d1 d2 ld
  refine (C2.out _ _ (HU.out.ext (ext g1 (by go_grown)))).mono ?_
  rintro e w2 ⟨rfl, hb2⟩
  have g2 : Below w.heap.size w w2 := ext g1 (ext (by go_grown) hb2)
  obtain ⟨c0, c1, c2, -, -, -⟩ := ((BA.out.ext hb1).ext hb2).three
  obtain ⟨d0, d1, d2, -, -, -⟩ := ((BB.out.ext hb1).ext hb2).three
  go_wp2
  go_returns
  exact ⟨rfl, g2⟩
set_option maxRecDepth 100000 in
set_option maxHeartbeats 8000000 in
theorem pouter_yes (v u : Value) (W H : Int) (a b : List Int) (w : World) (hv : FrameV w v W H a) (hu : FrameV w u W H b) (h1 : mayB W H a = true) (h2 : mayB W H b = true) :
    Calls Tryd.prog 12 #[v, u] w fun e w' => e = .returned (.tuple #[.int .i64 (outTo W H a b (sqN W H)), .nilIface]) ∧ Below w.heap.size w w' := by
  have c1 := fun x w h => pmay_any x W H a w h
  have c2 := fun x w h => pmay_any x W H b w h
  rw [h1] at c1
  rw [h2] at c2
  have C1 := Lib.hid c1
  have C2 := Lib.hid c2
  have hA := mayB_iff.1 h1
  have hB := mayB_iff.1 h2
  have C3 := Lib.hid (fun x w h => psquares_any x W H a w h hA)
  have C4 := Lib.hid (fun x w h => psquares_any x W H b w h hB)
  have C5 := Lib.hid (fun x k w h => pwithin_any x (sqA W H a k) w h (sqA_within hA k) (length_sqA ..))
  have C6 : Hid (∀ (x y : Value) (k : Nat) (w : World), Ints w x (sqA W H a k) → Ints w y (sqA W H b k) → Calls Tryd.prog 31 #[x, y] w fun e w' => e = .returned (.tuple #[.int .i64 (sadV (sqA W H a k) (sqA W H b k)), .nilIface]) ∧ Below w.heap.size w w') := fun x y k w h1 h2 => by
    have hc := psad_any x y (sqA W H a k) (sqA W H b k) w h1 h2 (by rw [length_sqA]; omega)
    rw [bothQ hA hB k, okI_zero rfl, errV_zero] at hc
    exact hc
  have HIB := Lib.hid (fun k => inTo_bounds hA k)
  have HOB := Lib.hid (fun k => outTo_bounds hA hB k)
  have HD := Lib.hid (fun k => inV_bd (sqA_within hA k) (by rw [length_sqA]; omega))
  have HS := Lib.hid (fun k => sadQ_bd hA hB k)
  have HU1 := Lib.hid (fun k => outTo_succ W H a b k)
  have HLA := Lib.hid (length_sqL W H a)
  have HLB := Lib.hid (length_sqL W H b)
  have hq : sqN W H ≤ 16 := by obtain ⟨C, R, -, -, -, -, -, -, -, e, h⟩ := hA.sides; omega
  have HA := Lib.hid (fun k (h : k < sqN W H) => sqL_at W H a h)
  have HB := Lib.hid (fun k (h : k < sqN W H) => sqL_at W H b h)
  have HQA := Lib.hid (fun k => length_sqA W H a k)
  have HQB := Lib.hid (fun k => length_sqA W H b k)
  have HV := Lib.hid hv
  have HU := Lib.hid hu
  obtain ⟨ao, cap, rfl, -⟩ := hv.cells
  obtain ⟨bo, bcap, rfl, -⟩ := hu.cells
  have BA := Lib.hid ((Blk.new w #[.int .i64 W, .int .i64 H, .slice ao a.length cap] 24).alloc (.cells #[.int .i64 W, .int .i64 H, .slice bo b.length bcap] 24))
  have BB := Lib.hid (Blk.new (w.alloc (.cells #[.int .i64 W, .int .i64 H, .slice ao a.length cap] 24)) #[.int .i64 W, .int .i64 H, .slice bo b.length bcap] 24)
  simp only [World.size_alloc] at BB
  clear hv hu h1 h2 c1 c2 hA hB
  generalize hN : sqN W H = N at *
  clear hN
  go_enter Tryd.func12, Tryd.ntmps12
  go_wp2_with fail
  refine (C1.out _ _ (HV.out.ext (by go_grown))).mono ?_
  rintro e w1 ⟨rfl, hb1⟩
  have g1 : Below w.heap.size w w1 := ext (by go_grown) hb1
  obtain ⟨d0, d1, d2, -, -, -⟩ := (BB.out.ext hb1).three
  have ld := (BB.out.ext hb1).lt
  go_wp2_with fail
  clear d0 d1 d2 ld
  refine (C2.out _ _ (HU.out.ext (ext g1 (by go_grown)))).mono ?_
  rintro e w2 ⟨rfl, hb2⟩
  have g2 : Below w.heap.size w w2 := ext g1 (ext (by go_grown) hb2)
  have BA2 := Lib.hid ((BA.out.ext hb1).ext hb2)
  have BB2 := Lib.hid ((BB.out.ext hb1).ext hb2)
  obtain ⟨c0, c1, c2, -, -, -⟩ := BA2.out.three
  obtain ⟨d0, d1, d2, -, -, -⟩ := BB2.out.three
  have lc := BA2.out.lt
  have ld := BB2.out.lt
  have qw : (W != W) = false := by simp
  have qh : (H != H) = false := by simp
  go_wp2_with fail
  clear c0 c1 c2 d0 d1 d2 lc ld
  refine (C4.out _ _ (HU.out.ext (ext g2 (by go_grown)))).mono ?_
  rintro e w3 ⟨q, rfl, hq2, hb3⟩
  have j3 : Below w2.heap.size w2 w3 := ext (by go_grown) hb3
  have g3 : Below w.heap.size w w3 := ext g2 j3
  obtain ⟨qo, qc, rfl⟩ := hq2.shapeN (HLB.out N)
  have HRB := Lib.hid hq2
  clear hq2
  obtain ⟨c0, c1, c2, -, -, -⟩ := (BA2.out.ext j3).three
  have lc := (BA2.out.ext j3).lt
  go_wp2_with fail
  clear c0 c1 c2 lc
  refine (C3.out _ _ (HV.out.ext (ext g3 (by go_grown)))).mono ?_
  rintro e w4 ⟨q, rfl, hq2, hb4⟩
  have j4 : Below w3.heap.size w3 w4 := ext (by go_grown) hb4
  have g4 : Below w.heap.size w w4 := ext g3 j4
  obtain ⟨ro, rc, rfl⟩ := hq2.shapeN (HLA.out N)
  have HRA := Lib.hid hq2
  have HRB4 := Lib.hid (HRB.out.ext j4)
  clear hq2
  go_wp2
  go_loopw [6, 41] (fun n i wr => ∃ k : Nat, k ≤ N ∧ i = .int .i64 k ∧ n = .int .i64 (outTo W H a b k) ∧ Below w4.heap.size w4 wr) (fun _ i _ => N - (intOf i).toNat)
  case atStart => exact ⟨0, Nat.zero_le _, rfl, rfl, Below.refl _ _⟩
  case round =>
    obtain ⟨k, hk, rfl, rfl, hbr⟩ := hrel
    obtain ⟨h1, h2⟩ := HOB.out k
    obtain ⟨h3, h4⟩ := HIB.out k
    by_cases hlt : k < N
    · obtain ⟨g, p, rfl, lg, cp, hp⟩ := (HRA.out.ext hbr).at (j := k) (by rw [HLA.out]; exact hlt)
      obtain ⟨g', p', rfl, lg', cp', hp'⟩ := (HRB4.out.ext hbr).at (j := k) (by rw [HLB.out]; exact hlt)
      rw [HA.out k hlt] at hp
      rw [HB.out k hlt] at hp'
      obtain ⟨po, pc, rfl⟩ := hp.sliceN (HQA.out k)
      obtain ⟨po', pc', rfl⟩ := hp'.sliceN (HQB.out k)
      have HP := Lib.hid hp.ints
      have HP' := Lib.hid hp'.ints
      obtain ⟨e1, e2⟩ := HD.out k
      obtain ⟨f1, f2⟩ := HS.out k
      have he := HU1.out k
      have CW := Lib.hid (fun x w h => C5.out x k w h)
      have CS := Lib.hid (fun x y w h1 h2 => C6.out x y k w h1 h2)
      generalize outTo W H a b k = s at *
      generalize inTo W H a k = t at *
      generalize inV (sqA W H a k) = z at *
      generalize sadV (sqA W H a k) (sqA W H b k) = y at *
      have hmn : ∃ m : Int, (if z < y then z else y) = m ∧ min y z = m ∧ 0 ≤ m ∧ m ≤ z := ⟨_, rfl, by split <;> omega, by split <;> omega, by split <;> omega⟩
      obtain ⟨m, qm, qm2, qm3, qm4⟩ := hmn
      rw [qm2] at he
      have HE := Lib.hid he
      clear hp hp' he qm2
      have q1 : IntKind.i64.wrap (s + m) = s + m := IntWalk.i64_in _ (by omega)
      go_wp2_with fail
      refine (CS.out _ _ _ (HP.out.ext (by go_grown)) (HP'.out.ext (by go_grown))).mono ?_
      rintro e w5 ⟨rfl, hb5⟩
      have j5 : Below wr.heap.size wr w5 := ext (by go_grown) hb5
      have g5 : Below w4.heap.size w4 w5 := ext hbr j5
      go_wp2_with fail
      refine (CW.out _ _ ((HP.out.ext j5).ext (by go_grown))).mono ?_
      rintro e w6 ⟨rfl, hb6⟩
      have g6 : Below w4.heap.size w4 w6 := ext g5 (ext (by go_grown) hb6)
      go_wp2
      go_roundw
      case rel => exact ⟨k + 1, by omega, by go_num, int_eq HE.out.symm, g6⟩
      case measure => simp [intOf]; omega
    · obtain rfl : k = N := by omega
      go_wp2
      go_returns
      exact ⟨rfl, ext g4 hbr⟩
theorem pouter_any (v u : Value) (f p : Fr) (w : World) (hv : FrameV w v f.W f.H f.pix) (hu : FrameV w u p.W p.H p.pix) :
    Calls Tryd.prog 12 #[v, u] w fun e w' => e = .returned (.tuple #[.int .i64 (outV f p), errV (unlE f p)]) ∧ Below w.heap.size w w' := by
  cases h1 : mayB f.W f.H f.pix with
  | false =>
    have e : unlE f p = 2 := by unfold unlE fbothE; rw [h1]; rfl
    rw [show outV f p = 0 from by unfold outV; rw [e]; rfl, e]
    exact pouter_m1 v u f.W f.H f.pix p.W p.H p.pix w hv hu h1
  | true =>
    cases h2 : mayB p.W p.H p.pix with
    | false =>
      have e : unlE f p = 2 := by unfold unlE fbothE; rw [h1, h2]; rfl
      rw [show outV f p = 0 from by unfold outV; rw [e]; rfl, e]
      exact pouter_m2 v u f.W f.H f.pix p.W p.H p.pix w hv hu h1 h2
    | true =>
      by_cases h3 : f.W = p.W
      · by_cases h4 : f.H = p.H
        · have e : unlE f p = 0 := by unfold unlE fbothE; rw [h1, h2]; simp [h3, h4]
          rw [e, errV_zero, show outV f p = outTo f.W f.H f.pix p.pix (sqN f.W f.H) from by unfold outV; rw [if_pos e]]
          rw [← h3, ← h4] at hu h2
          exact pouter_yes v u f.W f.H f.pix p.pix w hv hu h1 h2
        · have e : unlE f p = 14 := by unfold unlE fbothE; rw [h1, h2]; simp [h4]
          rw [show outV f p = 0 from by unfold outV; rw [e]; rfl, e]
          exact pouter_h v u f.W f.H f.pix p.W p.H p.pix w hv hu h1 h2 h3 h4
      · have e : unlE f p = 14 := by unfold unlE fbothE; rw [h1, h2]; simp [h3]
        rw [show outV f p = 0 from by unfold outV; rw [e]; rfl, e]
        exact pouter_w v u f.W f.H f.pix p.W p.H p.pix w hv hu h1 h2 h3
end Go.Proofs.YtmdpfjjbehpnbaaDoor
