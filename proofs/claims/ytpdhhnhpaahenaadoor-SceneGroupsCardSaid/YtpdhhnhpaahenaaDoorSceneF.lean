/- kinlaw16.plain, kinlaw16.first. -/
import Derived.Test.YtpdhhnhpaahenaaDoorSceneG
import Derived.Test.YtpdhhnhpaahenaaDoorSame
set_option linter.unusedSimpArgs false
set_option linter.unusedVariables false
namespace Go.Proofs.YtpdhhnhpaahenaaDoor
open Go.RowKit Go.Extern.Stop Go.Stop Go.Extern

theorem frames_two {w : World} {b T : Nat} {W1 H1 W2 H2 : Int} {p1 p2 : Value} {a1 a2 : List Int} (h : Blk w b #[.int .i64 W1, .int .i64 H1, p1, .int .i64 W2, .int .i64 H2, p2] T)
    (f1 : FrameV w (.agg #[.int .i64 W1, .int .i64 H1, p1]) W1 H1 a1) (f2 : FrameV w (.agg #[.int .i64 W2, .int .i64 H2, p2]) W2 H2 a2) : Frames w (.slice (some ⟨b, 0, none⟩) 2 2) [⟨W1, H1, a1⟩, ⟨W2, H2, a2⟩] := by
  obtain ⟨q1, e1, i1, i2, x1⟩ := f1
  obtain ⟨q2, e2, i3, i4, x2⟩ := f2
  simp only [Value.agg.injEq] at e1 e2
  obtain rfl : p1 = q1 := by simpa using e1
  obtain rfl : p2 = q2 := by simpa using e2
  refine ⟨_, 2, rfl, by simp, by simp [maxLen], fun h => (by cases h), fun j hj => ?_⟩
  match j, hj with
  | 0, _ => exact ⟨b, 0, p1, rfl, h.cell 0, h.cell 1, h.cell 2, i1, i2, x1⟩
  | 1, _ => exact ⟨b, 0, p2, rfl, h.cell 3, h.cell 4, h.cell 5, i3, i4, x2⟩
theorem frames_three {w : World} {b T : Nat} {W1 H1 W2 H2 W3 H3 : Int} {p1 p2 p3 : Value} {a1 a2 a3 : List Int} (h : Blk w b #[.int .i64 W1, .int .i64 H1, p1, .int .i64 W2, .int .i64 H2, p2, .int .i64 W3, .int .i64 H3, p3] T)
    (f1 : FrameV w (.agg #[.int .i64 W1, .int .i64 H1, p1]) W1 H1 a1) (f2 : FrameV w (.agg #[.int .i64 W2, .int .i64 H2, p2]) W2 H2 a2) (f3 : FrameV w (.agg #[.int .i64 W3, .int .i64 H3, p3]) W3 H3 a3) : Frames w (.slice (some ⟨b, 0, none⟩) 3 3) [⟨W1, H1, a1⟩, ⟨W2, H2, a2⟩, ⟨W3, H3, a3⟩] := by
  obtain ⟨q1, e1, i1, i2, x1⟩ := f1
  obtain ⟨q2, e2, i3, i4, x2⟩ := f2
  obtain ⟨q3, e3, i5, i6, x3⟩ := f3
  obtain rfl : p1 = q1 := by simpa using e1
  obtain rfl : p2 = q2 := by simpa using e2
  obtain rfl : p3 = q3 := by simpa using e3
  refine ⟨_, 3, rfl, by simp, by simp [maxLen], fun h => (by cases h), fun j hj => ?_⟩
  match j, hj with
  | 0, _ => exact ⟨b, 0, p1, rfl, h.cell 0, h.cell 1, h.cell 2, i1, i2, x1⟩
  | 1, _ => exact ⟨b, 0, p2, rfl, h.cell 3, h.cell 4, h.cell 5, i3, i4, x2⟩
  | 2, _ => exact ⟨b, 0, p3, rfl, h.cell 6, h.cell 7, h.cell 8, i5, i6, x3⟩

set_option maxRecDepth 100000 in
set_option maxHeartbeats 8000000 in
theorem plain_any (v : Int) (w : World) (hv : in64 v) : Calls Tryd.prog 19 #[.int .i64 v] w fun e w' => ∃ po pc, e = .returned (.agg #[.int .i64 8, .int .i64 8, .slice po 64 pc]) ∧ FrameV w' (.agg #[.int .i64 8, .int .i64 8, .slice po 64 pc]) 8 8 (mapTo (fun _ => v) 64) ∧ Below w.heap.size w w' := by
  have HI := Lib.hid hv
  have R0 := Lib.hid ((Blk.new w #[.int .i64 0, .int .i64 0, .slice none 0 0] 24).alloc (.cells #[.int .i64 8, .int .i64 8, .slice none 0 0] 24))
  have F0 := Lib.hid (Blk.new (w.alloc (.cells #[.int .i64 0, .int .i64 0, .slice none 0 0] 24)) #[.int .i64 8, .int .i64 8, .slice none 0 0] 24)
  simp only [World.size_alloc] at F0
  clear hv
  go_enter Tryd.func19, Tryd.ntmps19
  go_wp2
  go_loopw [4] (fun i wr => ∃ (k : Nat) (p : Value), k ≤ 64 ∧ i = .int .i64 k ∧ OwnInts wr (w.heap.size + 2) p (mapTo (fun _ => v) k) ∧ Below w.heap.size w wr ∧ Blk wr (w.heap.size + 1) #[.int .i64 8, .int .i64 8, p] 24 ∧ Blk wr w.heap.size #[.int .i64 0, .int .i64 0, .slice none 0 0] 24) (fun i _ => 64 - (intOf i).toNat)
  case atStart => exact ⟨0, _, Nat.zero_le _, rfl, OwnInts.nil _ _, by go_grown, F0.out, R0.out⟩
  case round =>
    clear F0 R0
    obtain ⟨k, p, hk, rfl, hown, hbr, hF, hR⟩ := hrel
    have FF := Lib.hid hF
    have HO := Lib.hid hown
    have RR := Lib.hid hR
    have lF := hF.lt
    clear hF hown hR
    by_cases hlt : k < 64
    · have q : decide ((k : Int) < 64) = true := by simp; omega
      obtain ⟨f0, f1, f2, -, -, -⟩ := FF.out.three
      have HMS := Lib.hid (mapTo_succ (fun _ => v) k)
      have Hlen := Lib.hid (show (mapTo (fun _ => v) k).length ≤ 1099511627776 from by rw [length_mapTo]; omega)
      go_wp2_with (at_builtin; refine wpList_app1 rfl (.tmp 11) (.tmp 13) rfl (w.heap.size + 2) _ _ v rfl HO.out rfl (by simp) HI.out Hlen.out (by omega) ?_)
      clear f0 f1 f2
      intro p' w' hown' hb' _
      have HP := Lib.hid (show OwnInts w' (w.heap.size + 2) p' (mapTo (fun _ => v) (k + 1)) from by rw [HMS.out]; exact hown')
      have FF2 := Lib.hid (FF.out.below hb' (by omega))
      have RR2 := Lib.hid (RR.out.below hb' (by omega))
      have hbw : Below w.heap.size w w' := hbr.trans (hb'.mono (by omega))
      obtain ⟨va, ln, vc, rfl⟩ : ∃ va ln vc, p' = .slice va ln vc := by obtain ⟨va, vc, e⟩ := hown'.shape; exact ⟨va, _, vc, e⟩
      clear hown' hb' HO HMS
      obtain ⟨g0, g1, g2, g3, g4, g5⟩ := FF2.out.three
      have FF3 : Hid (Blk (w'.setCell ⟨w.heap.size + 1, 2, none⟩ (.slice va ln vc)) (w.heap.size + 1) #[.int .i64 8, .int .i64 8, .slice va ln vc] 24) := Lib.hid (FF2.out.set 2 (.slice va ln vc))
      have RR3 := Lib.hid (RR2.out.setOther ⟨w.heap.size + 1, 2, none⟩ (.slice va ln vc) (by show w.heap.size ≠ w.heap.size + 1; omega))
      have HP3 := Lib.hid (HP.out.setOther (a := ⟨w.heap.size + 1, 2, none⟩) (by show w.heap.size + 1 < w.heap.size + 2; omega) (.slice va ln vc))
      have hb3 : Below w.heap.size w (w'.setCell ⟨w.heap.size + 1, 2, none⟩ (.slice va ln vc)) := hbw.setCell (by show w.heap.size ≤ w.heap.size + 1; omega) _
      go_wp2
      go_roundw
      case rel => exact ⟨k + 1, _, by omega, by go_num, HP3.out, hb3, FF3.out, RR3.out⟩
      case measure => simp [intOf]; omega
    · obtain rfl : k = 64 := by omega
      obtain ⟨po, pc, rfl⟩ := HO.out.shape
      have HO2 := HO.out
      rw [length_mapTo] at HO2
      have HO3 := Lib.hid HO2
      clear HO2
      rw [length_mapTo] at FF
      have q : decide (((64 : Nat) : Int) < 64) = false := by decide
      clear HO
      obtain ⟨f0, f1, f2, -, -, -⟩ := FF.out.three
      obtain ⟨r0, r1, r2, r3, r4, r5⟩ := RR.out.three
      go_wp2
      refine bodyPost_ret (by simp [results, Tryd.results19, go_sem, r0, r1, r2, r3, r4, r5]; try rfl) rfl ?_
      exact ⟨po, pc, rfl, ⟨_, rfl, by unfold in64; omega, by unfold in64; omega, (((HO3.out.setOther (a := ⟨w.heap.size, 0, none⟩) (by show w.heap.size < w.heap.size + 2; omega) _).setOther (a := ⟨w.heap.size, 1, none⟩) (by show w.heap.size < w.heap.size + 2; omega) _).setOther (a := ⟨w.heap.size, 2, none⟩) (by show w.heap.size < w.heap.size + 2; omega) _).ints⟩, by go_grown⟩

theorem pgrp_ok (v : Value) (fs : List Fr) (cut gop : Int) (w : World) (hv : Frames w v fs) (h : argE cut gop fs.length = 0) (hz : ∀ j, j < fs.length → ueA fs j = 0) :
    Calls Tryd.prog 14 #[v, .int .i64 cut, .int .i64 gop] w fun e w' => ∃ v', e = .returned (.tuple #[v', .nilIface]) ∧ OwnG w' w.heap.size v' (grpTo fs cut gop fs.length) ∧ Below w.heap.size w w' := by
  refine (pgrp_any v fs cut gop w hv h).mono fun e w' hp => ?_
  rcases hp with ⟨-, h⟩ | ⟨i, h1, -, h2, -⟩
  · exact h
  · exact absurd (hz i h1) h2
def frP (v : Int) : Fr := ⟨8, 8, mapTo (fun _ => v) 64⟩
def ls3 : List Fr := [frP 3, frP 3, frP 3]
theorem ls3_ue : ∀ j, j < ls3.length → ueA ls3 j = 0 := by
  intro j hj
  have h : (List.range 3).all (fun j => decide (ueA ls3 j = 0)) = true := by decide +kernel
  exact of_decide_eq_true (List.all_eq_true.1 h j (List.mem_range.2 hj))
theorem ls3_a : grpTo ls3 0 16 3 = [(0, 3)] := by decide +kernel
theorem ls3_b : grpTo ls3 0 2 3 = [(0, 2), (2, 1)] := by decide +kernel
theorem un01 : unlE (frP 0) (frP 1) = 0 ∧ unlV (frP 0) (frP 1) = 64 := by decide +kernel
theorem of2 : OfIs [(0, 2), (2, 1)] 2 1 := .inl ⟨1, by decide, rfl, by decide, fun j hj => match j, hj with | 0, _ => by decide⟩
theorem grps2_bd : ∀ j, j < ([(0, 2), (2, 1)] : List (Int × Int)).length → (0 ≤ (([(0, 2), (2, 1)] : List (Int × Int)).getD j (0, 0)).1 ∧ (([(0, 2), (2, 1)] : List (Int × Int)).getD j (0, 0)).1 ≤ 1000) ∧ 0 ≤ (([(0, 2), (2, 1)] : List (Int × Int)).getD j (0, 0)).2 ∧ (([(0, 2), (2, 1)] : List (Int × Int)).getD j (0, 0)).2 ≤ 1000 := by
  intro j hj
  match j, hj with
  | 0, _ => decide
  | 1, _ => decide
theorem plainF (v : Int) (w : World) (hv : in64 v) : Calls Tryd.prog 19 #[.int .i64 v] w fun e w' => ∃ po pc, e = .returned (.agg #[.int .i64 8, .int .i64 8, .slice po 64 pc]) ∧ FrameV w' (.agg #[.int .i64 8, .int .i64 8, .slice po 64 pc]) (frP v).W (frP v).H (frP v).pix ∧ Below w.heap.size w w' := plain_any v w hv
theorem grpA (v : Value) (w : World) (hv : Frames w v ls3) : Calls Tryd.prog 14 #[v, .int .i64 0, .int .i64 16] w fun e w' => ∃ v', e = .returned (.tuple #[v', .nilIface]) ∧ OwnG w' w.heap.size v' [(0, 3)] ∧ Below w.heap.size w w' := by
  have h := pgrp_ok v ls3 0 16 w hv (by decide) ls3_ue
  rw [show ls3.length = 3 from rfl, ls3_a] at h
  exact h
theorem grpB (v : Value) (w : World) (hv : Frames w v ls3) : Calls Tryd.prog 14 #[v, .int .i64 0, .int .i64 2] w fun e w' => ∃ v', e = .returned (.tuple #[v', .nilIface]) ∧ OwnG w' w.heap.size v' [(0, 2), (2, 1)] ∧ Below w.heap.size w w' := by
  have h := pgrp_ok v ls3 0 2 w hv (by decide) ls3_ue
  rw [show ls3.length = 3 from rfl, ls3_b] at h
  exact h
theorem grpN (w : World) : Calls Tryd.prog 14 #[.slice none 0 0, .int .i64 0, .int .i64 1] w fun e w' => e = .returned (.tuple #[.slice none 0 0, .iface 32 (.int .i64 2)]) ∧ Below w.heap.size w w' :=
  pgrp_arg (.slice none 0 0) [] 0 1 w (Frames.nil w) (by decide)
theorem unl01c (v u : Value) (w : World) (hv : FrameV w v (frP 0).W (frP 0).H (frP 0).pix) (hu : FrameV w u (frP 1).W (frP 1).H (frP 1).pix) :
    Calls Tryd.prog 10 #[v, u] w fun e w' => e = .returned (.tuple #[.int .i64 64, .nilIface]) ∧ Below w.heap.size w w' := by
  have h := punl_any v u (frP 0) (frP 1) w hv hu
  rw [un01.1, un01.2, errV_zero] at h
  exact h
theorem same2 (w : World) (hg : TypeIs w) : Calls Tryd.prog 12 #[.iface 32 (.int .i64 2), .agg #[.int .i64 2, .slice none 0 0]] w fun e w' => e = .returned (.bool true) ∧ Below w.heap.size w w' := same_any 2 w hg

set_option maxRecDepth 100000 in
set_option maxHeartbeats 8000000 in
theorem first_any (w : World) (hg : TypeIs w) : Calls Tryd.prog 8 #[] w fun e w' => e = .returned (.bool true) ∧ Below w.heap.size w w' := by
  have HG := Lib.hid hg
  clear hg
  go_enter Tryd.func8, Tryd.ntmps8
  have g0 : Below w.heap.size w w := Below.refl _ _
  go_wp2_with fail
  refine (plainF 3 _ (by unfold in64; omega)).mono ?_
  rintro e w1 ⟨o1, k1, rfl, f1, hb1⟩
  have j1 : Below w.heap.size w w1 := ext (by go_grown) hb1
  have g1 : Below w.heap.size w w1 := ext g0 j1
  have s1 := j1.size
  have t1 := g1.size
  have F1 := Lib.hid (f1)
  clear f1
  go_wp2_with fail
  refine (plainF 3 _ (by unfold in64; omega)).mono ?_
  rintro e w2 ⟨o2, k2, rfl, f2, hb2⟩
  have j2 : Below w1.heap.size w1 w2 := ext (by go_grown) hb2
  have g2 : Below w.heap.size w w2 := ext g1 j2
  have s2 := j2.size
  have t2 := g2.size
  have F2 := Lib.hid (f2)
  clear f2
  go_wp2_with fail
  refine (plainF 3 _ (by unfold in64; omega)).mono ?_
  rintro e w3 ⟨o3, k3, rfl, f3, hb3⟩
  have j3 : Below w2.heap.size w2 w3 := ext (by go_grown) hb3
  have g3 : Below w.heap.size w w3 := ext g2 j3
  have s3 := j3.size
  have t3 := g3.size
  have F3 := Lib.hid (f3)
  clear f3
  have BL := Lib.hid (Blk.new w3 #[.int .i64 8, .int .i64 8, .slice o1 64 k1, .int .i64 8, .int .i64 8, .slice o2 64 k2, .int .i64 8, .int .i64 8, .slice o3 64 k3] 24)
  have jL : Below w3.heap.size w3 (w3.alloc (.cells #[.int .i64 8, .int .i64 8, .slice o1 64 k1, .int .i64 8, .int .i64 8, .slice o2 64 k2, .int .i64 8, .int .i64 8, .slice o3 64 k3] 24)) := by go_grown
  have FL := Lib.hid (show Frames (w3.alloc (.cells #[.int .i64 8, .int .i64 8, .slice o1 64 k1, .int .i64 8, .int .i64 8, .slice o2 64 k2, .int .i64 8, .int .i64 8, .slice o3 64 k3] 24)) (.slice (some ⟨w3.heap.size, 0, none⟩) 3 3) ls3 from frames_three BL.out (((F1.out.ext j2).ext j3).ext jL) ((F2.out.ext j3).ext jL) (F3.out.ext jL))
  clear BL
  go_wp2_with fail
  refine (grpA _ _ FL.out).mono ?_
  rintro e w4 ⟨ga, rfl, og, hb4⟩
  have j4 : Below w3.heap.size w3 w4 := ext (by go_grown) hb4
  have g4 : Below w.heap.size w w4 := ext g3 j4
  have s4 := j4.size
  have t4 := g4.size
  have GA := Lib.hid (og)
  clear og
  have FL1 := Lib.hid (FL.out.ext hb4)
  go_wp2_with fail
  refine (grpB _ _ (FL1.out.ext (by go_grown))).mono ?_
  rintro e w5 ⟨gb, rfl, og, hb5⟩
  have j5 : Below w4.heap.size w4 w5 := ext (by go_grown) hb5
  have g5 : Below w.heap.size w w5 := ext g4 j5
  have s5 := j5.size
  have t5 := g5.size
  have GB := Lib.hid (og)
  clear og
  go_wp2_with fail
  refine (plainF 0 _ (by unfold in64; omega)).mono ?_
  rintro e w6 ⟨o4, k4, rfl, f4, hb6⟩
  have j6 : Below w5.heap.size w5 w6 := ext (by go_grown) hb6
  have g6 : Below w.heap.size w w6 := ext g5 j6
  have s6 := j6.size
  have t6 := g6.size
  have F4 := Lib.hid (f4)
  clear f4
  go_wp2_with fail
  refine (plainF 1 _ (by unfold in64; omega)).mono ?_
  rintro e w7 ⟨o5, k5, rfl, f5, hb7⟩
  have j7 : Below w6.heap.size w6 w7 := ext (by go_grown) hb7
  have g7 : Below w.heap.size w w7 := ext g6 j7
  have s7 := j7.size
  have t7 := g7.size
  have F5 := Lib.hid (f5)
  clear f5
  go_wp2_with fail
  refine (unl01c _ _ _ ((F4.out.ext j7).ext (by go_grown)) (F5.out.ext (by go_grown))).mono ?_
  rintro e w8 ⟨rfl, hb8⟩
  have j8 : Below w7.heap.size w7 w8 := ext (by go_grown) hb8
  have g8 : Below w.heap.size w w8 := ext g7 j8
  have s8 := j8.size
  have t8 := g8.size
  go_wp2_with fail
  refine (grpN _).mono ?_
  rintro e w9 ⟨rfl, hb9⟩
  have j9 : Below w8.heap.size w8 w9 := ext (by go_grown) hb9
  have g9 : Below w.heap.size w w9 := ext g8 j9
  have s9 := j9.size
  have t9 := g9.size
  obtain ⟨ba, ca, rfl, -, la, xa, -⟩ := ((((((GA.out.ext j5).ext j6).ext j7).ext j8).ext j9)).at (by decide)
  obtain ⟨bb, cb, rfl, -, lb, xb, -⟩ := (((((GB.out.ext j6).ext j7).ext j8).ext j9)).at (by decide)
  obtain ⟨xa0, xa1⟩ := xa 0 (by decide)
  obtain ⟨xb0, xb1⟩ := xb 1 (by decide)
  simp only [List.length_cons, List.length_nil, Nat.zero_add, Nat.zero_mul, Nat.one_mul, List.getD_cons_zero, List.getD_cons_succ, Nat.reduceAdd] at xa0 xa1 xb0 xb1 GA GB ⊢
  clear xa xb
  go_wp2_with fail
  refine (fail_any _ _).mono ?_
  rintro e w10 ⟨rfl, hb10⟩
  have j10 : Below w9.heap.size w9 w10 := ext (by go_grown) hb10
  have g10 : Below w.heap.size w w10 := ext g9 j10
  have s10 := j10.size
  have t10 := g10.size
  clear xa0 xa1 xb0 xb1
  go_wp2_with fail
  refine (same2 _ (((((((((((HG.out.ext j1).ext j2).ext j3).ext j4).ext j5).ext j6).ext j7).ext j8).ext j9).ext j10).ext (by go_grown))).mono ?_
  rintro e w11 ⟨rfl, hb11⟩
  have j11 : Below w10.heap.size w10 w11 := ext (by go_grown) hb11
  have g11 : Below w.heap.size w w11 := ext g10 j11
  have s11 := j11.size
  have t11 := g11.size
  go_wp2_with fail
  refine (psof_any _ [(0, 2), (2, 1)] 2 1 _ (((((((GB.out.ext j6).ext j7).ext j8).ext j9).ext j10).ext j11).ext (by go_grown)).grps grps2_bd (by omega) (by omega) of2).mono ?_
  rintro e w12 ⟨rfl, hb12⟩
  have j12 : Below w11.heap.size w11 w12 := ext (by go_grown) hb12
  have g12 : Below w.heap.size w w12 := ext g11 j12
  have s12 := j12.size
  have t12 := g12.size
  go_wp2
  all_goals go_returns
  all_goals exact ⟨by first | rfl | (simp; done) | (simp; omega), g12⟩
end Go.Proofs.YtpdhhnhpaahenaaDoor
