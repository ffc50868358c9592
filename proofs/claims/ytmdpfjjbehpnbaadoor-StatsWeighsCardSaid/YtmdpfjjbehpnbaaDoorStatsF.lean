/- kinlaw17.half, kinlaw17.first. -/
import Derived.Test.YtmdpfjjbehpnbaaDoorStatsH
import Derived.Test.YtmdpfjjbehpnbaaDoorSame
set_option linter.unusedSimpArgs false
set_option linter.unusedVariables false
namespace Go.Proofs.YtmdpfjjbehpnbaaDoor
open Go.RowKit Go.Extern.Stop Go.Stop Go.Extern
theorem frames_two {w : World} {b T : Nat} {W1 H1 W2 H2 : Int} {p1 p2 : Value} {a1 a2 : List Int} (h : Blk w b #[.int .i64 W1, .int .i64 H1, p1, .int .i64 W2, .int .i64 H2, p2] T)
    (f1 : FrameV w (.agg #[.int .i64 W1, .int .i64 H1, p1]) W1 H1 a1) (f2 : FrameV w (.agg #[.int .i64 W2, .int .i64 H2, p2]) W2 H2 a2) : Frames w (.slice (some ⟨b, 0, none⟩) 2 2) [⟨W1, H1, a1⟩, ⟨W2, H2, a2⟩] := by
  obtain ⟨q1, e1, i1, i2, x1⟩ := f1
  obtain ⟨q2, e2, i3, i4, x2⟩ := f2
  simp only [Value.agg.injEq] at e1 e2
  obtain rfl : p1 = q1 := by simpa using e1
  obtain rfl : p2 = q2 := by simpa using e2
  refine ⟨_, 2, rfl, by simp, by simp [maxLen], fun h => (by cases h), fun j hj => ?_⟩
  match j, hj with
  | 0, _ => exact ⟨b, 0, p1, rfl, h.cell 0, h.cell 1, h.cell 2, i1, i2, x1⟩
  | 1, _ => exact ⟨b, 0, p2, rfl, h.cell 3, h.cell 4, h.cell 5, i3, i4, x2⟩

theorem two_ints {w : World} {b T : Nat} {x y : Int} (h : Blk w b #[.int .i64 x, .int .i64 y] T) (hx : in64 x) (hy : in64 y) : Ints w (.slice (some ⟨b, 0, none⟩) 2 2) [x, y] := by
  refine ⟨_, 2, rfl, by simp, by simp [maxLen], fun z hz => ?_, fun h => (by cases h), fun j hj => ?_⟩
  · simp at hz; rcases hz with rfl | rfl
    · exact hx
    · exact hy
  · match j, hj with
    | 0, _ => exact ⟨b, 0, rfl, h.cell 0⟩
    | 1, _ => exact ⟨b, 0, rfl, h.cell 1⟩
theorem grps_one {w : World} {b T : Nat} {x y : Int} (h : Blk w b #[.int .i64 x, .int .i64 y] T) (hx : in64 x) (hy : in64 y) : Grps w (.slice (some ⟨b, 0, none⟩) 1 1) [(x, y)] := by
  refine ⟨_, 1, rfl, by simp, by simp [maxLen], fun h => (by cases h), fun p hp => ?_, fun j hj => ?_⟩
  · simp at hp; rw [hp]; exact ⟨hx, hy⟩
  · match j, hj with
    | 0, _ => exact ⟨b, 0, rfl, h.lt, h.cell 0, h.cell 1⟩
theorem grps_two {w : World} {b T : Nat} {x y z u : Int} (h : Blk w b #[.int .i64 x, .int .i64 y, .int .i64 z, .int .i64 u] T) (hx : in64 x) (hy : in64 y) (hz : in64 z) (hu : in64 u) : Grps w (.slice (some ⟨b, 0, none⟩) 2 2) [(x, y), (z, u)] := by
  refine ⟨_, 2, rfl, by simp, by simp [maxLen], fun h => (by cases h), fun p hp => ?_, fun j hj => ?_⟩
  · simp at hp; rcases hp with rfl | rfl
    · exact ⟨hx, hy⟩
    · exact ⟨hz, hu⟩
  · match j, hj with
    | 0, _ => exact ⟨b, 0, rfl, h.lt, h.cell 0, h.cell 1⟩
    | 1, _ => exact ⟨b, 0, rfl, h.lt, h.cell 2, h.cell 3⟩
def hpix (a b : Int) (k : Nat) : List Int := mapTo (fun i => if i % 2 = 0 then a else b) (2 * k)
theorem length_hpix (a b : Int) (k : Nat) : (hpix a b k).length = 2 * k := length_mapTo ..
theorem hpix_succ (a b : Int) (k : Nat) : hpix a b (k + 1) = hpix a b k ++ [a, b] := by
  unfold hpix
  rw [show 2 * (k + 1) = 2 * k + 1 + 1 from by omega, mapTo_succ, mapTo_succ, if_pos (by omega), if_neg (by omega), List.append_assoc]; rfl
set_option maxRecDepth 100000 in
set_option maxHeartbeats 8000000 in
theorem half_any (a b : Int) (w : World) (hv : in64 a ∧ in64 b) : Calls Tryd.prog 23 #[.int .i64 a, .int .i64 b] w fun e w' => ∃ po pc, e = .returned (.agg #[.int .i64 8, .int .i64 8, .slice po 64 pc]) ∧ FrameV w' (.agg #[.int .i64 8, .int .i64 8, .slice po 64 pc]) 8 8 (hpix a b 32) ∧ Below w.heap.size w w' := by
  have HI := Lib.hid hv
  have R0 := Lib.hid ((Blk.new w #[.int .i64 0, .int .i64 0, .slice none 0 0] 24).alloc (.cells #[.int .i64 8, .int .i64 8, .slice none 0 0] 24))
  have F0 := Lib.hid (Blk.new (w.alloc (.cells #[.int .i64 0, .int .i64 0, .slice none 0 0] 24)) #[.int .i64 8, .int .i64 8, .slice none 0 0] 24)
  simp only [World.size_alloc] at F0
  clear hv
  go_enter Tryd.func23, Tryd.ntmps23
  go_wp2
  go_loopw [6] (fun i wr => ∃ (k : Nat) (p : Value), k ≤ 32 ∧ i = .int .i64 k ∧ OwnInts wr (w.heap.size + 2) p (hpix a b k) ∧ Below w.heap.size w wr ∧ Blk wr (w.heap.size + 1) #[.int .i64 8, .int .i64 8, p] 24 ∧ Blk wr w.heap.size #[.int .i64 0, .int .i64 0, .slice none 0 0] 24) (fun i _ => 32 - (intOf i).toNat)
  case atStart => exact ⟨0, _, Nat.zero_le _, rfl, OwnInts.nil _ _, by go_grown, F0.out, R0.out⟩
  case round =>
    clear F0 R0
    obtain ⟨k, p, hk, rfl, hown, hbr, hF, hR⟩ := hrel
    have FF := Lib.hid hF
    have HO := Lib.hid hown
    have RR := Lib.hid hR
    have lF := hF.lt
    clear hF hown hR
    by_cases hlt : k < 32
    · have q : decide ((k : Int) < 32) = true := by simp; omega
      obtain ⟨f0, f1, f2, -, -, -⟩ := FF.out.three
      have HMS := Lib.hid (hpix_succ a b k)
      have Hlen := Lib.hid (show (hpix a b k).length + [a, b].length ≤ 1099511627776 from by rw [length_hpix]; simp; omega)
      have hN := Lib.hid (two_ints (Blk.new wr #[.int .i64 a, .int .i64 b] 3) HI.out.1 HI.out.2)
      have HOA := Lib.hid (HO.out.alloc (.cells #[.int .i64 a, .int .i64 b] 3))
      go_wp2_with (at_builtin; refine wpList_appl rfl (.tmp 13) (.tmp 16) rfl (w.heap.size + 2) _ _ _ [a, b] rfl HOA.out rfl hN.out Hlen.out (by simp; omega) ?_)
      clear f0 f1 f2
      intro p' w' hown' hb' _
      have HP := Lib.hid (show OwnInts w' (w.heap.size + 2) p' (hpix a b (k + 1)) from by rw [HMS.out]; exact hown')
      have FF2 := Lib.hid ((FF.out.alloc (.cells #[.int .i64 a, .int .i64 b] 3)).below hb' (by omega))
      have RR2 := Lib.hid ((RR.out.alloc (.cells #[.int .i64 a, .int .i64 b] 3)).below hb' (by omega))
      have hbw : Below w.heap.size w w' := (hbr.trans ((show Below wr.heap.size wr (wr.alloc (.cells #[.int .i64 a, .int .i64 b] 3)) from by go_grown).mono hbr.size)).trans (hb'.mono (by omega))
      obtain ⟨va, ln, vc, rfl⟩ : ∃ va ln vc, p' = .slice va ln vc := by obtain ⟨va, vc, e⟩ := hown'.shape; exact ⟨va, _, vc, e⟩
      clear hown' hb' HO HMS
      obtain ⟨g0, g1, g2, g3, g4, g5⟩ := FF2.out.three
      have FF3 : Hid (Blk (w'.setCell ⟨w.heap.size + 1, 2, none⟩ (.slice va ln vc)) (w.heap.size + 1) #[.int .i64 8, .int .i64 8, .slice va ln vc] 24) := Lib.hid (FF2.out.set 2 (.slice va ln vc))
      have RR3 := Lib.hid (RR2.out.setOther ⟨w.heap.size + 1, 2, none⟩ (.slice va ln vc) (by show w.heap.size ≠ w.heap.size + 1; omega))
      have HP3 := Lib.hid (HP.out.setOther (a := ⟨w.heap.size + 1, 2, none⟩) (by show w.heap.size + 1 < w.heap.size + 2; omega) (.slice va ln vc))
      have hb3 : Below w.heap.size w (w'.setCell ⟨w.heap.size + 1, 2, none⟩ (.slice va ln vc)) := hbw.setCell (by show w.heap.size ≤ w.heap.size + 1; omega) _
      go_wp2
      go_roundw
      case rel => exact ⟨k + 1, _, by omega, by go_num, HP3.out, hb3, FF3.out, RR3.out⟩
      case measure => simp [intOf]; omega
    · obtain rfl : k = 32 := by omega
      obtain ⟨po, pc, rfl⟩ := HO.out.shape
      have HO2 := HO.out
      rw [length_hpix] at HO2
      have HO3 := Lib.hid HO2
      clear HO2
      rw [length_hpix] at FF
      have q : decide (((32 : Nat) : Int) < 32) = false := by decide
      clear HO
      obtain ⟨f0, f1, f2, -, -, -⟩ := FF.out.three
      obtain ⟨r0, r1, r2, r3, r4, r5⟩ := RR.out.three
      go_wp2
      refine bodyPost_ret (by simp [results, Tryd.results23, go_sem, r0, r1, r2, r3, r4, r5]; try rfl) rfl ?_
      exact ⟨po, pc, rfl, ⟨_, rfl, by unfold in64; omega, by unfold in64; omega, (((HO3.out.setOther (a := ⟨w.heap.size, 0, none⟩) (by show w.heap.size < w.heap.size + 2; omega) _).setOther (a := ⟨w.heap.size, 1, none⟩) (by show w.heap.size < w.heap.size + 2; omega) _).setOther (a := ⟨w.heap.size, 2, none⟩) (by show w.heap.size < w.heap.size + 2; omega) _).ints⟩, by go_grown⟩

theorem pweights_ok (v u : Value) (fs : List Fr) (gs : List (Int × Int)) (w : World) (hv : Frames w v fs) (hu : Grps w u gs) (h : Tiles gs fs.length) (hz : ∀ j, j < fs.length → wE fs gs j = 0) :
    Calls Tryd.prog 16 #[v, u] w fun e w' => ∃ v', e = .returned (.tuple #[v', .nilIface]) ∧ OwnInts w' w.heap.size v' (mapTo (wV fs gs) fs.length) ∧ Below w.heap.size w w' := by
  refine (pweights_any v u fs gs w hv hu h).mono fun e w' hp => ?_
  rcases hp with ⟨-, h⟩ | ⟨i, h1, -, h2, -⟩
  · exact h
  · exact absurd (hz i h1) h2
theorem pweights_bad (v u : Value) (fs : List Fr) (gs : List (Int × Int)) (w : World) (hv : Frames w v fs) (hu : Grps w u gs) (hb : ¬ Tiles gs fs.length ∨ ∃ j, j < fs.length ∧ wE fs gs j ≠ 0) :
    Calls Tryd.prog 16 #[v, u] w fun e w' => ∃ T X, e = .returned (.tuple #[.slice none 0 0, .iface T X]) ∧ Below w.heap.size w w' := by
  by_cases h : Tiles gs fs.length
  · refine (pweights_any v u fs gs w hv hu h).mono fun e w' hp => ?_
    rcases hp with ⟨hz, -⟩ | ⟨i, -, -, -, b, he, -, -, hb2⟩
    · rcases hb with hb | ⟨j, hj, hb⟩
      · exact absurd h hb
      · exact absurd (hz j hj) hb
    · exact ⟨_, _, he, hb2⟩
  · refine (pweights_no v u fs gs w hv hu h).mono fun e w' ⟨he, hb2⟩ => ?_
    exact ⟨_, _, he, hb2⟩
@[go_sem] theorem held_guard (op : BinOp) (t T : TypeId) (X : Value) (x : Operand) (w : World) : (eqGuard op t x (.const .nilIface) (.iface T X) .nilIface).run Tryd.prog w = .ok () w := by
  cases op <;> simp [eqGuard]
@[go_sem] theorem held_neq (T : TypeId) (X : Value) (w : World) : (binOp .neq 29 (.iface T X) .nilIface).run Tryd.prog w = .ok (.bool true) w := run_neq_held_nil w _ _ _ errV_underlying
def frH (a b : Int) : Fr := ⟨8, 8, hpix a b 32⟩
def lsH : List Fr := [frH 5 5, frH 5 5]
theorem inn02 : innV (frH 0 2) = 64 ∧ innE (frH 0 2) = 0 := by decide +kernel
theorem lsH_e : ∀ j, j < lsH.length → wE lsH [(0, 2)] j = 0 := by
  intro j hj
  have h : (List.range 2).all (fun j => decide (wE lsH [(0, 2)] j = 0)) = true := by decide +kernel
  exact of_decide_eq_true (List.all_eq_true.1 h j (List.mem_range.2 hj))
theorem lsH_v : mapTo (wV lsH [(0, 2)]) 2 = [64, 64] := by decide +kernel
theorem tiles02 : Tiles [(0, 2)] 2 := ⟨fun j hj => match j, hj with | 0, _ => by decide, by decide, by decide, by decide⟩
theorem halfF (a b : Int) (w : World) (hv : in64 a ∧ in64 b) : Calls Tryd.prog 23 #[.int .i64 a, .int .i64 b] w fun e w' => ∃ po pc, e = .returned (.agg #[.int .i64 8, .int .i64 8, .slice po 64 pc]) ∧ FrameV w' (.agg #[.int .i64 8, .int .i64 8, .slice po 64 pc]) (frH a b).W (frH a b).H (frH a b).pix ∧ Below w.heap.size w w' := half_any a b w hv
theorem wgtA (v u : Value) (w : World) (hv : Frames w v lsH) (hu : Grps w u [(0, 2)]) : Calls Tryd.prog 16 #[v, u] w fun e w' => ∃ v', e = .returned (.tuple #[v', .nilIface]) ∧ OwnInts w' w.heap.size v' [64, 64] ∧ Below w.heap.size w w' := by
  have h := pweights_ok v u lsH [(0, 2)] w hv hu tiles02 lsH_e
  rw [show lsH.length = 2 from rfl, lsH_v] at h
  exact h
theorem wgtN (w : World) : Calls Tryd.prog 16 #[.slice none 0 0, .slice none 0 0] w fun e w' => e = .returned (.tuple #[.slice none 0 0, .iface 32 (.int .i64 3)]) ∧ Below w.heap.size w w' :=
  pweights_no (.slice none 0 0) (.slice none 0 0) [] [] w (Frames.nil w) (Grps.nil w) fun h => absurd h.2.2.1 (by decide)
theorem innA (v : Value) (w : World) (hv : FrameV w v (frH 0 2).W (frH 0 2).H (frH 0 2).pix) : Calls Tryd.prog 10 #[v] w fun e w' => e = .returned (.tuple #[.int .i64 64, .nilIface]) ∧ Below w.heap.size w w' := by
  have h := pinner_any v (frH 0 2) w hv
  rw [inn02.1, inn02.2, errV_zero] at h
  exact h
theorem same3 (w : World) (hg : TypeIs w) : Calls Tryd.prog 14 #[.iface 32 (.int .i64 3), .agg #[.int .i64 3, .slice none 0 0]] w fun e w' => e = .returned (.bool true) ∧ Below w.heap.size w w' := same_any 3 w hg

set_option maxRecDepth 100000 in
set_option maxHeartbeats 8000000 in
theorem first_any (w : World) (hg : TypeIs w) : Calls Tryd.prog 8 #[] w fun e w' => e = .returned (.bool true) ∧ Below w.heap.size w w' := by
  have HG := Lib.hid hg
  clear hg
  go_enter Tryd.func8, Tryd.ntmps8
  have g0 : Below w.heap.size w w := Below.refl _ _
  go_wp2_with fail
  refine (halfF 0 2 _ ⟨by unfold in64; omega, by unfold in64; omega⟩).mono ?_
  rintro e w1 ⟨o1, k1, rfl, f1, hb1⟩
  have j1 : Below w.heap.size w w1 := ext (by go_grown) hb1
  have g1 : Below w.heap.size w w1 := ext g0 j1
  have s1 := j1.size
  have t1 := g1.size
  have F1 := Lib.hid (f1)
  clear f1
  go_wp2_with fail
  refine (innA _ _ (F1.out.ext (by go_grown))).mono ?_
  rintro e w2 ⟨rfl, hb2⟩
  have j2 : Below w1.heap.size w1 w2 := ext (by go_grown) hb2
  have g2 : Below w.heap.size w w2 := ext g1 j2
  have s2 := j2.size
  have t2 := g2.size
  go_wp2_with fail
  refine (halfF 5 5 _ ⟨by unfold in64; omega, by unfold in64; omega⟩).mono ?_
  rintro e w3 ⟨o2, k2, rfl, f2, hb3⟩
  have j3 : Below w2.heap.size w2 w3 := ext (by go_grown) hb3
  have g3 : Below w.heap.size w w3 := ext g2 j3
  have s3 := j3.size
  have t3 := g3.size
  have F2 := Lib.hid (f2)
  clear f2
  go_wp2_with fail
  refine (halfF 5 5 _ ⟨by unfold in64; omega, by unfold in64; omega⟩).mono ?_
  rintro e w4 ⟨o3, k3, rfl, f3, hb4⟩
  have j4 : Below w3.heap.size w3 w4 := ext (by go_grown) hb4
  have g4 : Below w.heap.size w w4 := ext g3 j4
  have s4 := j4.size
  have t4 := g4.size
  have F3 := Lib.hid (f3)
  clear f3
  have jL : Below w4.heap.size w4 ((w4.alloc (.cells #[.int .i64 8, .int .i64 8, .slice o2 64 k2, .int .i64 8, .int .i64 8, .slice o3 64 k3] 24)).alloc (.cells #[.int .i64 0, .int .i64 2] 52)) := by go_grown
  have FL := Lib.hid (show Frames ((w4.alloc (.cells #[.int .i64 8, .int .i64 8, .slice o2 64 k2, .int .i64 8, .int .i64 8, .slice o3 64 k3] 24)).alloc (.cells #[.int .i64 0, .int .i64 2] 52)) (.slice (some ⟨w4.heap.size, 0, none⟩) 2 2) lsH from frames_two ((Blk.new w4 #[.int .i64 8, .int .i64 8, .slice o2 64 k2, .int .i64 8, .int .i64 8, .slice o3 64 k3] 24).alloc (.cells #[.int .i64 0, .int .i64 2] 52)) ((F2.out.ext j4).ext jL) (F3.out.ext jL))
  have GL0 := grps_one (Blk.new (w4.alloc (.cells #[.int .i64 8, .int .i64 8, .slice o2 64 k2, .int .i64 8, .int .i64 8, .slice o3 64 k3] 24)) #[.int .i64 0, .int .i64 2] 52) (show in64 0 by unfold in64; omega) (show in64 2 by unfold in64; omega)
  simp only [World.size_alloc] at GL0
  have GL := Lib.hid GL0
  clear GL0
  go_wp2_with fail
  refine (wgtA _ _ _ FL.out GL.out).mono ?_
  rintro e w5 ⟨va, rfl, og, hb5⟩
  have j5 : Below w4.heap.size w4 w5 := ext (by go_grown) hb5
  have g5 : Below w.heap.size w w5 := ext g4 j5
  have s5 := j5.size
  have t5 := g5.size
  have WA := Lib.hid (og)
  clear og
  go_wp2_with fail
  refine (wgtN _).mono ?_
  rintro e w6 ⟨rfl, hb6⟩
  have j6 : Below w5.heap.size w5 w6 := ext (by go_grown) hb6
  have g6 : Below w.heap.size w w6 := ext g5 j6
  have s6 := j6.size
  have t6 := g6.size
  obtain ⟨ba, ca, rfl, -, la, xa, -⟩ := ((WA.out.ext j6)).open (by decide)
  have xa0 := xa 0 (by decide)
  have xa1 := xa 1 (by decide)
  simp only [List.length_cons, List.length_nil, Nat.zero_add, List.getD_cons_zero, List.getD_cons_succ, Nat.reduceAdd] at xa0 xa1 WA ⊢
  clear xa
  go_wp2_with fail
  refine (fail_any _ _).mono ?_
  rintro e w7 ⟨rfl, hb7⟩
  have j7 : Below w6.heap.size w6 w7 := ext (by go_grown) hb7
  have g7 : Below w.heap.size w w7 := ext g6 j7
  have s7 := j7.size
  have t7 := g7.size
  clear xa0 xa1
  go_wp2_with fail
  refine (same3 _ ((((((((HG.out.ext j1).ext j2).ext j3).ext j4).ext j5).ext j6).ext j7).ext (by go_grown))).mono ?_
  rintro e w8 ⟨rfl, hb8⟩
  have j8 : Below w7.heap.size w7 w8 := ext (by go_grown) hb8
  have g8 : Below w.heap.size w w8 := ext g7 j8
  have s8 := j8.size
  have t8 := g8.size
  go_wp2
  all_goals go_returns
  all_goals exact ⟨by first | rfl | (simp; done) | (simp; omega), g8⟩
end Go.Proofs.YtmdpfjjbehpnbaaDoor
