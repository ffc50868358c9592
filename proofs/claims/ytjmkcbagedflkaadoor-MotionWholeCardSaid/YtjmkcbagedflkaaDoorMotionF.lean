/- kinlaw11.first. -/
import Derived.Test.YtjmkcbagedflkaaDoorMotionS
import Derived.Test.YtjmkcbagedflkaaDoorSame
set_option linter.unusedSimpArgs false
set_option linter.unusedVariables false
namespace Go.Proofs.YtjmkcbagedflkaaDoor
open Go.RowKit Go.Extern.Stop Go.Stop Go.Extern

theorem scanM_zero {c : Int × Int → Int} (hc : ∀ v, 0 ≤ c v) {f : Nat → Int × Int} {s : Bst} (h : s.2 = 0) (n : Nat) : scanM c f s n = s := by
  induction n with
  | zero => rfl
  | succ n ih =>
    rw [scanM, ih]
    unfold stepM
    split
    · exact stepV_no (by rw [h]; have := hc (f n); omega)
    · rfl
/-- Nothing is better than nothing. -/
theorem search_zero {c : Int × Int → Int} (hc : ∀ v, 0 ≤ c v) (h : c (0, 0) = 0) (r : Nat) : searchS c r = ((0, 0), 0) := by
  have h1 : wholeS c r = ((0, 0), 0) := by
    have := scanTo_zero hc (f := wholeF r) (s := firstS c) (k := 0) (by show c (0, 0) = 0; exact h) ((2 * r + 1) * (2 * r + 1)) (Nat.zero_le _)
    unfold wholeS
    rw [this]
    show firstS c = _
    unfold firstS
    rw [h]
  unfold searchS
  rw [h1]
  exact scanM_zero hc rfl 9
def fpx (i : Nat) : Int := (i % 8 : Nat)
def fpix : List Int := mapTo fpx 64
theorem may_fp : May 8 8 fpix := mayB_iff.1 (by decide +kernel)
theorem sr0 : srchE 8 8 fpix fpix 0 0 3 = 0 := by decide +kernel
theorem sr1 : srchE 8 8 fpix [] 0 0 3 = 14 := by decide +kernel
theorem cst0 : cstV 8 8 fpix fpix 0 0 (0, 0) = 0 := by decide +kernel
theorem srR : srchR 8 8 fpix fpix 0 0 3 = (0, 0) := by rw [srchR_ok sr0, search_zero (cstV_nonneg 8 8 fpix fpix 0 0) cst0]
theorem srR1 : srchR 8 8 fpix [] 0 0 3 = (0, 0) := srchR_no (by rw [sr1]; decide)
theorem hf1 : halfA 8 8 fpix 3 0 = 2 := by decide +kernel
theorem hf2 : halfA 8 8 fpix (-1) 0 = 0 := by decide +kernel
theorem hf3 : halfA 8 8 fpix 15 1 = 7 := by decide +kernel
theorem bk1 : (blkV 8 8 fpix 0 0 8 0 0).length = 64 := by decide +kernel
set_option maxRecDepth 100000 in
set_option maxHeartbeats 8000000 in
theorem first_any (w : World) (hg : TypeIs w) : Calls Tryd.prog 9 #[] w fun e w' => e = .returned (.bool true) ∧ Below w.heap.size w w' := by
  have c1 := fun fv bv w h1 h2 => psearch_any fv bv 8 8 fpix fpix 0 0 3 w h1 h2
  rw [srR, sr0] at c1
  have c2 := fun fv w h1 => psearch_any fv (.slice none 0 0) 8 8 fpix [] 0 0 3 w h1 (Ints.nil w)
  rw [srR1, sr1] at c2
  have c3 := fun fv w h => pHalf_any fv 8 8 fpix 3 0 w h
  rw [hf1] at c3
  have c4 := fun fv w h => pHalf_any fv 8 8 fpix (-1) 0 w h
  rw [hf2] at c4
  have c5 := fun fv w h => pHalf_any fv 8 8 fpix 15 1 w h
  rw [hf3] at c5
  have c6 : ∀ w, TypeIs w → Calls Tryd.prog 19 #[.iface 38 (.int .i64 14), .agg #[.int .i64 14, .slice none 0 0]] w fun e w' => e = .returned (.bool true) ∧ Below w.heap.size w w' := fun w hg => same_any 14 w hg
  have C1 := Lib.hid c1
  have C2 := Lib.hid (show ∀ fv w, FrameV w fv 8 8 fpix → Calls Tryd.prog 21 #[fv, .slice none 0 0, .int .i64 0, .int .i64 0, .int .i64 3] w fun e w' => e = .returned (.tuple #[.agg #[.int .i64 0, .int .i64 0], .iface 38 (.int .i64 14)]) ∧ Below w.heap.size w w' from c2)
  have C3 := Lib.hid c3
  have C4 := Lib.hid c4
  have C5 := Lib.hid c5
  have C6 := Lib.hid c6
  have C7 := Lib.hid (fun fv w h => pblock_any fv 8 8 fpix 0 0 8 0 0 w h)
  have HG := Lib.hid hg
  have F0 := Lib.hid (Blk.new w #[.int .i64 8, .int .i64 8, .slice none 0 0] 24)
  clear hg c1 c2 c3 c4 c5 c6
  go_enter Tryd.func9, Tryd.ntmps9
  go_wp2
  go_loopw [2] (fun i wr => ∃ (k : Nat) (p : Value), k ≤ 64 ∧ i = .int .i64 k ∧ OwnInts wr (w.heap.size + 1) p (mapTo fpx k) ∧ Below w.heap.size w wr ∧ Blk wr w.heap.size #[.int .i64 8, .int .i64 8, p] 24) (fun i _ => 64 - (intOf i).toNat)
  case atStart => exact ⟨0, _, Nat.zero_le _, rfl, OwnInts.nil _ _, by go_grown, F0.out⟩
  case round =>
    clear F0
    obtain ⟨k, p, hk, rfl, hown, hbr, hF⟩ := hrel
    have FF := Lib.hid hF
    have HO := Lib.hid hown
    have lF := hF.lt
    clear hF hown
    by_cases hlt : k < 64
    · have q : decide ((k : Int) < 64) = true := by simp; omega
      obtain ⟨f0, f1, f2, -, -, -⟩ := FF.out.three
      have HMS := Lib.hid (mapTo_succ fpx k)
      have Hlen := Lib.hid (show (mapTo fpx k).length ≤ 1099511627776 from by rw [length_mapTo]; omega)
      have HI := Lib.hid (show in64 ((k % 8 : Nat) : Int) from by unfold in64; omega)
      have HFX := Lib.hid (show fpx k = ((k % 8 : Nat) : Int) from rfl)
      have hM := Nat.mod_lt k (show 0 < 8 by omega)
      have qT : Int.tmod (k : Int) 8 = ((k % 8 : Nat) : Int) := by rw [Int.tmod_eq_emod_of_nonneg (by omega)]; simp
      have qE : (k : Int) % 8 = ((k % 8 : Nat) : Int) := by simp
      generalize k % 8 = M at *
      go_wp2_with (at_builtin; refine wpList_app1 rfl (.tmp 13) (.tmp 16) rfl (w.heap.size + 1) _ _ (M : Int) rfl HO.out rfl (by simp) HI.out Hlen.out (by omega) ?_)
      clear f0 f1 f2
      intro p' w' hown' hb' _
      have HP := Lib.hid (show OwnInts w' (w.heap.size + 1) p' (mapTo fpx (k + 1)) from by rw [HMS.out, HFX.out]; exact hown')
      have FF2 := Lib.hid (FF.out.below hb' (by omega))
      have hbw : Below w.heap.size w w' := hbr.trans (hb'.mono (by omega))
      obtain ⟨va, ln, vc, rfl⟩ : ∃ va ln vc, p' = .slice va ln vc := by obtain ⟨va, vc, e⟩ := hown'.shape; exact ⟨va, _, vc, e⟩
      clear hown' hb' HO HMS
      obtain ⟨g0, g1, g2, g3, g4, g5⟩ := FF2.out.three
      have FF3 : Hid (Blk (w'.setCell ⟨w.heap.size, 2, none⟩ (.slice va ln vc)) w.heap.size #[.int .i64 8, .int .i64 8, .slice va ln vc] 24) := Lib.hid (FF2.out.set 2 (.slice va ln vc))
      have HP3 := Lib.hid (HP.out.setOther (a := ⟨w.heap.size, 2, none⟩) (by show w.heap.size < w.heap.size + 1; omega) (.slice va ln vc))
      have hb3 : Below w.heap.size w (w'.setCell ⟨w.heap.size, 2, none⟩ (.slice va ln vc)) := hbw.setCell (by show w.heap.size ≤ w.heap.size; omega) _
      go_wp2
      go_roundw
      case rel => exact ⟨k + 1, _, by omega, by go_num, HP3.out, hb3, FF3.out⟩
      case measure => simp [intOf]; omega
    · obtain rfl : k = 64 := by omega
      obtain ⟨wa, rfl⟩ : ∃ wa : World, wa = wr := ⟨_, rfl⟩
      obtain ⟨po, pc, rfl⟩ := HO.out.shape
      have HFV := Lib.hid (show FrameV wa (.agg #[.int .i64 8, .int .i64 8, .slice po 64 pc]) 8 8 fpix from ⟨_, rfl, by unfold in64; omega, by unfold in64; omega, by have := HO.out.ints; rw [length_mapTo] at this; exact this⟩)
      have HPX := Lib.hid (show Ints wa (.slice po 64 pc) fpix from by have := HO.out.ints; rw [length_mapTo] at this; exact this)
      rw [length_mapTo] at FF
      have HGA := Lib.hid (HG.out.ext hbr)
      have q : decide (((64 : Nat) : Int) < 64) = false := by decide
      clear HO
      have g0 : Below wa.heap.size wa wa := Below.refl _ _
      obtain ⟨FF0, FF1, FF2, FF3, FF4, FF5⟩ := (FF.out).three
      have FFl := (FF.out).lt
      go_wp2_with fail
      clear FF0 FF1 FF2 FF3 FF4 FF5 FFl
      refine (C1.out _ _ _ (HFV.out.ext (by go_grown)) (HPX.out.ext (by go_grown))).mono ?_
      rintro e w1 ⟨rfl, hb1⟩
      have j1 : Below wa.heap.size wa w1 := ext (by go_grown) hb1
      have g1 : Below wa.heap.size wa w1 := ext g0 j1
      have s1 := j1.size
      have t1 := g1.size
      obtain ⟨FF0, FF1, FF2, FF3, FF4, FF5⟩ := ((FF.out.ext j1)).three
      have FFl := ((FF.out.ext j1)).lt
      go_wp2_with fail
      clear FF0 FF1 FF2 FF3 FF4 FF5 FFl
      refine (C2.out _ _ ((HFV.out.ext j1).ext (by go_grown))).mono ?_
      rintro e w2 ⟨rfl, hb2⟩
      have j2 : Below w1.heap.size w1 w2 := ext (by go_grown) hb2
      have g2 : Below wa.heap.size wa w2 := ext g1 j2
      have s2 := j2.size
      have t2 := g2.size
      have VV := Lib.hid ((Blk.new w1 #[.int .i64 0, .int .i64 0] 26).ext hb2)
      obtain ⟨FF0, FF1, FF2, FF3, FF4, FF5⟩ := (((FF.out.ext j1).ext j2)).three
      have FFl := (((FF.out.ext j1).ext j2)).lt
      go_wp2_with fail
      clear FF0 FF1 FF2 FF3 FF4 FF5 FFl
      refine (C3.out _ _ (((HFV.out.ext j1).ext j2).ext (by go_grown))).mono ?_
      rintro e w3 ⟨rfl, hb3⟩
      have j3 : Below w2.heap.size w2 w3 := ext (by go_grown) hb3
      have g3 : Below wa.heap.size wa w3 := ext g2 j3
      have s3 := j3.size
      have t3 := g3.size
      obtain ⟨FF0, FF1, FF2, FF3, FF4, FF5⟩ := ((((FF.out.ext j1).ext j2).ext j3)).three
      have FFl := ((((FF.out.ext j1).ext j2).ext j3)).lt
      go_wp2_with fail
      clear FF0 FF1 FF2 FF3 FF4 FF5 FFl
      refine (C4.out _ _ ((((HFV.out.ext j1).ext j2).ext j3).ext (by go_grown))).mono ?_
      rintro e w4 ⟨rfl, hb4⟩
      have j4 : Below w3.heap.size w3 w4 := ext (by go_grown) hb4
      have g4 : Below wa.heap.size wa w4 := ext g3 j4
      have s4 := j4.size
      have t4 := g4.size
      obtain ⟨FF0, FF1, FF2, FF3, FF4, FF5⟩ := (((((FF.out.ext j1).ext j2).ext j3).ext j4)).three
      have FFl := (((((FF.out.ext j1).ext j2).ext j3).ext j4)).lt
      go_wp2_with fail
      clear FF0 FF1 FF2 FF3 FF4 FF5 FFl
      refine (C5.out _ _ (((((HFV.out.ext j1).ext j2).ext j3).ext j4).ext (by go_grown))).mono ?_
      rintro e w5 ⟨rfl, hb5⟩
      have j5 : Below w4.heap.size w4 w5 := ext (by go_grown) hb5
      have g5 : Below wa.heap.size wa w5 := ext g4 j5
      have s5 := j5.size
      have t5 := g5.size
      obtain ⟨VV0, VV1, VV2, VV3⟩ := (((VV.out.ext j3).ext j4).ext j5).two
      go_wp2_with fail
      clear VV0 VV1 VV2 VV3
      refine (fail_any _ _).mono ?_
      rintro e w6 ⟨rfl, hb6⟩
      have j6 : Below w5.heap.size w5 w6 := ext (by go_grown) hb6
      have g6 : Below wa.heap.size wa w6 := ext g5 j6
      have s6 := j6.size
      have t6 := g6.size
      go_wp2_with fail
      refine (C6.out _ (((((((HGA.out.ext j1).ext j2).ext j3).ext j4).ext j5).ext j6).ext (by go_grown))).mono ?_
      rintro e w7 ⟨rfl, hb7⟩
      have j7 : Below w6.heap.size w6 w7 := ext (by go_grown) hb7
      have g7 : Below wa.heap.size wa w7 := ext g6 j7
      have s7 := j7.size
      have t7 := g7.size
      obtain ⟨VV0, VV1, VV2, VV3⟩ := (((((VV.out.ext j3).ext j4).ext j5).ext j6).ext j7).two
      obtain ⟨FF0, FF1, FF2, FF3, FF4, FF5⟩ := ((((((((FF.out.ext j1).ext j2).ext j3).ext j4).ext j5).ext j6).ext j7)).three
      have FFl := ((((((((FF.out.ext j1).ext j2).ext j3).ext j4).ext j5).ext j6).ext j7)).lt
      go_wp2_with fail
      clear FF0 FF1 FF2 FF3 FF4 FF5 FFl
      clear VV0 VV1 VV2 VV3
      refine (C7.out _ _ ((((((((HFV.out.ext j1).ext j2).ext j3).ext j4).ext j5).ext j6).ext j7).ext (by go_grown))).mono ?_
      rintro e w8 ⟨v8, rfl, hv8, hb8⟩
      have j8 : Below w7.heap.size w7 w8 := ext (by go_grown) hb8
      have g8 : Below wa.heap.size wa w8 := ext g7 j8
      have s8 := j8.size
      have t8 := g8.size
      obtain ⟨vo, vc, rfl⟩ := hv8.shape
      clear hv8
      rw [bk1]
      have gF : Below w.heap.size w w8 := ext hbr g8
      go_wp2
      all_goals go_returns
      all_goals exact ⟨by first | rfl | (simp; done), gF⟩
end Go.Proofs.YtjmkcbagedflkaaDoor
