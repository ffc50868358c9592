/- kinref6.New; plane.Get, kinref6.Get: whole. -/
import Derived.Test.YtlpifjnjddgfaaaDoorLay
set_option linter.unusedSimpArgs false
set_option linter.unusedVariables false
namespace Go.Proofs.YtlpifjnjddgfaaaDoor
open Go.RowKit

set_option maxRecDepth 100000 in
set_option maxHeartbeats 4000000 in
theorem rnew_ok (W H v : Int) (n : Nat) (w : World) (h : newB W H v = true) (hn : W * H = n) (hn2 : n ≤ 1024) :
    Calls Tryd.prog 12 #[.int .i64 W, .int .i64 H, .int .i64 v] w fun e w' => ∃ p, e = .returned (.tuple #[.agg #[.int .i64 W, .int .i64 H, p], .agg #[.int .i64 0, .slice none 0 0]]) ∧ OwnInts w' w.heap.size p (mapTo (fun _ => v) n) ∧ Below w.heap.size w w' := by
  obtain ⟨h1, h2, h3, h4⟩ := newB_iff.1 h
  have cw := fun w => rside6 W w
  have ch := fun w => rside6 H w
  rw [h1] at cw
  rw [h2] at ch
  have CW := Lib.hid cw
  have CH := Lib.hid ch
  have qm : IntKind.i64.wrap (W * H) = n := by rw [IntWalk.i64_in _ (by omega), hn]
  have HI := Lib.hid (show in64 v from by unfold in64; omega)
  have R0 := Lib.hid (((Blk.new w #[.int .i64 0, .int .i64 0, .slice none 0 0] 24).alloc (.cells #[.int .i64 0, .slice none 0 0] 34)).alloc (.cells #[.int .i64 W, .int .i64 H, .slice none 0 0] 24))
  have R1 := Lib.hid ((Blk.new (w.alloc (.cells #[.int .i64 0, .int .i64 0, .slice none 0 0] 24)) #[.int .i64 0, .slice none 0 0] 34).alloc (.cells #[.int .i64 W, .int .i64 H, .slice none 0 0] 24))
  have F1 := Lib.hid (Blk.new ((w.alloc (.cells #[.int .i64 0, .int .i64 0, .slice none 0 0] 24)).alloc (.cells #[.int .i64 0, .slice none 0 0] 34)) #[.int .i64 W, .int .i64 H, .slice none 0 0] 24)
  simp only [World.size_alloc] at R1 F1
  clear cw ch h h1 h2 hn
  go_enter Tryd.func12, Tryd.ntmps12
  go_wp2_with fail
  refine (CW.out _).mono ?_
  rintro e w1 ⟨rfl, rfl⟩
  go_wp2_with fail
  refine (CH.out _).mono ?_
  rintro e w1 ⟨rfl, rfl⟩
  go_wp2
  go_loopw [9] (fun i wr => ∃ (k : Nat) (p : Value), k ≤ n ∧ i = .int .i64 k ∧ OwnInts wr (w.heap.size + 3) p (mapTo (fun _ => v) k) ∧ Below w.heap.size w wr ∧ Blk wr w.heap.size #[.int .i64 0, .int .i64 0, .slice none 0 0] 24 ∧ Blk wr (w.heap.size + 1) #[.int .i64 0, .slice none 0 0] 34 ∧ Blk wr (w.heap.size + 2) #[.int .i64 W, .int .i64 H, p] 24) (fun i _ => n - (intOf i).toNat)
  case atStart => exact ⟨0, _, Nat.zero_le _, rfl, OwnInts.nil _ _, by go_grown, R0.out, R1.out, F1.out⟩
  case round =>
    obtain ⟨k, p, hk, rfl, hown, hbr, hR, hE, hF⟩ := hrel
    have RR := Lib.hid hR
    have RE := Lib.hid hE
    have FF := Lib.hid hF
    have HO := Lib.hid hown
    have lF := hF.lt
    clear hR hE hF hown
    by_cases hlt : k < n
    · obtain ⟨f0, f1, f2, -, -, -⟩ := FF.out.three
      have HMS := Lib.hid (mapTo_succ (fun _ => v) k)
      have Hlen := Lib.hid (show (mapTo (fun _ => v) k).length ≤ 1099511627776 from by rw [length_mapTo]; omega)
      go_wp2_with (at_builtin; refine wpList_app1 rfl (.tmp 39) (.tmp 41) rfl (w.heap.size + 3) _ _ v rfl HO.out rfl (by simp) HI.out Hlen.out (by omega) ?_)
      clear f0 f1 f2
      intro p' w' hown' hb' _
      have HP := Lib.hid (show OwnInts w' (w.heap.size + 3) p' (mapTo (fun _ => v) (k + 1)) from by rw [HMS.out]; exact hown')
      have RR2 := Lib.hid (RR.out.below hb' (by omega))
      have RE2 := Lib.hid (RE.out.below hb' (by omega))
      have FF2 := Lib.hid (FF.out.below hb' (by omega))
      have hbw : Below w.heap.size w w' := hbr.trans (hb'.mono (by omega))
      obtain ⟨va, ln, vc, rfl⟩ : ∃ va ln vc, p' = .slice va ln vc := by obtain ⟨va, vc, e⟩ := hown'.shape; exact ⟨va, _, vc, e⟩
      clear hown' hb' HO HMS
      obtain ⟨g0, g1, g2, g3, g4, g5⟩ := FF2.out.three
      have RR3 := Lib.hid (RR2.out.setOther ⟨w.heap.size + 2, 2, none⟩ (.slice va ln vc) (by show w.heap.size ≠ w.heap.size + 2; omega))
      have RE3 := Lib.hid (RE2.out.setOther ⟨w.heap.size + 2, 2, none⟩ (.slice va ln vc) (by show w.heap.size + 1 ≠ w.heap.size + 2; omega))
      have FF3 : Hid (Blk (w'.setCell ⟨w.heap.size + 2, 2, none⟩ (.slice va ln vc)) (w.heap.size + 2) #[.int .i64 W, .int .i64 H, .slice va ln vc] 24) := Lib.hid (FF2.out.set 2 (.slice va ln vc))
      have HP3 := Lib.hid (HP.out.setOther (a := ⟨w.heap.size + 2, 2, none⟩) (by show w.heap.size + 2 < w.heap.size + 3; omega) (.slice va ln vc))
      have hb3 : Below w.heap.size w (w'.setCell ⟨w.heap.size + 2, 2, none⟩ (.slice va ln vc)) := hbw.setCell (by show w.heap.size ≤ w.heap.size + 2; omega) _
      go_wp2
      go_roundw
      case rel => exact ⟨k + 1, _, by omega, by go_num, HP3.out, hb3, RR3.out, RE3.out, FF3.out⟩
      case measure => simp [intOf]; omega
    · have e : k = n := by omega
      have HS := Lib.hid (show OwnInts wr (w.heap.size + 3) p (mapTo (fun _ => v) n) from by rw [e] at HO; exact HO.out)
      obtain ⟨va, vc, rfl⟩ := HS.out.shape
      rw [length_mapTo] at FF HS
      obtain ⟨f0, f1, f2, f3, f4, f5⟩ := FF.out.three
      obtain ⟨r0, r1, r2, r3, r4, r5⟩ := RR.out.three
      obtain ⟨t0, t1, t2, t3⟩ := RE.out.two
      clear e HO
      go_wp2
      refine bodyPost_ret (by simp [results, Tryd.results12, go_sem, r0, r1, r2, r3, r4, r5, t0, t1, t2, t3]; try rfl) rfl ?_
      exact ⟨_, rfl, (((((HS.out.setOther (by simp) _).setOther (by simp) _).setOther (by simp) _).setOther (by simp) _).setOther (by simp) _).mono (by omega), by go_grown⟩

set_option maxRecDepth 100000 in
set_option maxHeartbeats 2000000 in
theorem pget_no (fv : Value) (W H : Int) (pix : List Int) (x y n : Int) (w : World) (hv : FrameV w fv W H pix) (h : getB W H pix x y n = false) :
    Calls Tryd.prog 23 #[fv, .int .i64 x, .int .i64 y, .int .i64 n] w fun e w' => e = .returned (.slice none 0 0) ∧ Below w.heap.size w w' := by
  have cm := fun w hv => pmay_any fv W H pix w hv
  have HV := Lib.hid hv
  obtain ⟨ao, cap, rfl, hp⟩ := hv.cells
  clear hv hp
  cases hm : mayB W H pix with
  | false =>
    rw [hm] at cm
    have CM := Lib.hid cm
    clear cm h hm
    go_enter Tryd.func23, Tryd.ntmps23
    go_wp2_with fail
    refine (CM.out _ (HV.out.ext (by go_grown))).mono ?_
    rintro e w1 ⟨rfl, hb1⟩
    have g1 : Below w.heap.size w w1 := ext (by go_grown) hb1
    go_wp2
    go_returns
    exact ⟨rfl, g1⟩
  | true =>
    rw [hm] at cm
    have CM := Lib.hid cm
    have hh : ¬ (1 ≤ n ∧ n ≤ 8 ∧ -65536 ≤ x ∧ x ≤ 65536 ∧ -65536 ≤ y ∧ y ≤ 65536) := fun q => by rw [getB_iff.2 ⟨mayB_iff.1 hm, q⟩] at h; cases h
    clear cm h hm
    by_cases k0 : n < 1
    · clear hh
      go_enter Tryd.func23, Tryd.ntmps23
      go_wp2_with fail
      refine (CM.out _ (HV.out.ext (by go_grown))).mono ?_
      rintro e w1 ⟨rfl, hb1⟩
      have g1 : Below w.heap.size w w1 := ext (by go_grown) hb1
      go_wp2
      go_returns
      exact ⟨rfl, g1⟩
    · skip
      by_cases k1 : 8 < n
      · clear hh
        go_enter Tryd.func23, Tryd.ntmps23
        go_wp2_with fail
        refine (CM.out _ (HV.out.ext (by go_grown))).mono ?_
        rintro e w1 ⟨rfl, hb1⟩
        have g1 : Below w.heap.size w w1 := ext (by go_grown) hb1
        go_wp2
        go_returns
        exact ⟨rfl, g1⟩
      · skip
        by_cases k2 : x < -65536
        · clear hh
          go_enter Tryd.func23, Tryd.ntmps23
          go_wp2_with fail
          refine (CM.out _ (HV.out.ext (by go_grown))).mono ?_
          rintro e w1 ⟨rfl, hb1⟩
          have g1 : Below w.heap.size w w1 := ext (by go_grown) hb1
          go_wp2
          go_returns
          exact ⟨rfl, g1⟩
        · skip
          by_cases k3 : 65536 < x
          · clear hh
            go_enter Tryd.func23, Tryd.ntmps23
            go_wp2_with fail
            refine (CM.out _ (HV.out.ext (by go_grown))).mono ?_
            rintro e w1 ⟨rfl, hb1⟩
            have g1 : Below w.heap.size w w1 := ext (by go_grown) hb1
            go_wp2
            go_returns
            exact ⟨rfl, g1⟩
          · skip
            by_cases k4 : y < -65536
            · clear hh
              go_enter Tryd.func23, Tryd.ntmps23
              go_wp2_with fail
              refine (CM.out _ (HV.out.ext (by go_grown))).mono ?_
              rintro e w1 ⟨rfl, hb1⟩
              have g1 : Below w.heap.size w w1 := ext (by go_grown) hb1
              go_wp2
              go_returns
              exact ⟨rfl, g1⟩
            · skip
              by_cases k5 : 65536 < y
              · clear hh
                go_enter Tryd.func23, Tryd.ntmps23
                go_wp2_with fail
                refine (CM.out _ (HV.out.ext (by go_grown))).mono ?_
                rintro e w1 ⟨rfl, hb1⟩
                have g1 : Below w.heap.size w w1 := ext (by go_grown) hb1
                go_wp2
                go_returns
                exact ⟨rfl, g1⟩
              · skip
                exact absurd (by omega) hh

set_option maxRecDepth 100000 in
set_option maxHeartbeats 2000000 in
theorem rget_no (fv : Value) (W H : Int) (pix : List Int) (x y n : Int) (w : World) (hv : FrameV w fv W H pix) (h : getB W H pix x y n = false) :
    Calls Tryd.prog 24 #[fv, .int .i64 x, .int .i64 y, .int .i64 n] w fun e w' => e = .returned (.slice none 0 0) ∧ Below w.heap.size w w' := by
  have cm := fun w hv => rmay_any fv W H pix w hv
  have HV := Lib.hid hv
  obtain ⟨ao, cap, rfl, hp⟩ := hv.cells
  clear hv hp
  cases hm : mayB W H pix with
  | false =>
    rw [hm] at cm
    have CM := Lib.hid cm
    clear cm h hm
    go_enter Tryd.func24, Tryd.ntmps24
    go_wp2_with fail
    refine (CM.out _ (HV.out.ext (by go_grown))).mono ?_
    rintro e w1 ⟨rfl, hb1⟩
    have g1 : Below w.heap.size w w1 := ext (by go_grown) hb1
    go_wp2
    go_returns
    exact ⟨rfl, g1⟩
  | true =>
    rw [hm] at cm
    have CM := Lib.hid cm
    have hh : ¬ (1 ≤ n ∧ n ≤ 8 ∧ -65536 ≤ x ∧ x ≤ 65536 ∧ -65536 ≤ y ∧ y ≤ 65536) := fun q => by rw [getB_iff.2 ⟨mayB_iff.1 hm, q⟩] at h; cases h
    clear cm h hm
    by_cases k0 : n < 1
    · clear hh
      go_enter Tryd.func24, Tryd.ntmps24
      go_wp2_with fail
      refine (CM.out _ (HV.out.ext (by go_grown))).mono ?_
      rintro e w1 ⟨rfl, hb1⟩
      have g1 : Below w.heap.size w w1 := ext (by go_grown) hb1
      go_wp2
      go_returns
      exact ⟨rfl, g1⟩
    · skip
      by_cases k1 : 8 < n
      · clear hh
        go_enter Tryd.func24, Tryd.ntmps24
        go_wp2_with fail
        refine (CM.out _ (HV.out.ext (by go_grown))).mono ?_
        rintro e w1 ⟨rfl, hb1⟩
        have g1 : Below w.heap.size w w1 := ext (by go_grown) hb1
        go_wp2
        go_returns
        exact ⟨rfl, g1⟩
      · skip
        by_cases k2 : x < -65536
        · clear hh
          go_enter Tryd.func24, Tryd.ntmps24
          go_wp2_with fail
          refine (CM.out _ (HV.out.ext (by go_grown))).mono ?_
          rintro e w1 ⟨rfl, hb1⟩
          have g1 : Below w.heap.size w w1 := ext (by go_grown) hb1
          go_wp2
          go_returns
          exact ⟨rfl, g1⟩
        · skip
          by_cases k3 : 65536 < x
          · clear hh
            go_enter Tryd.func24, Tryd.ntmps24
            go_wp2_with fail
            refine (CM.out _ (HV.out.ext (by go_grown))).mono ?_
            rintro e w1 ⟨rfl, hb1⟩
            have g1 : Below w.heap.size w w1 := ext (by go_grown) hb1
            go_wp2
            go_returns
            exact ⟨rfl, g1⟩
          · skip
            by_cases k4 : y < -65536
            · clear hh
              go_enter Tryd.func24, Tryd.ntmps24
              go_wp2_with fail
              refine (CM.out _ (HV.out.ext (by go_grown))).mono ?_
              rintro e w1 ⟨rfl, hb1⟩
              have g1 : Below w.heap.size w w1 := ext (by go_grown) hb1
              go_wp2
              go_returns
              exact ⟨rfl, g1⟩
            · skip
              by_cases k5 : 65536 < y
              · clear hh
                go_enter Tryd.func24, Tryd.ntmps24
                go_wp2_with fail
                refine (CM.out _ (HV.out.ext (by go_grown))).mono ?_
                rintro e w1 ⟨rfl, hb1⟩
                have g1 : Below w.heap.size w w1 := ext (by go_grown) hb1
                go_wp2
                go_returns
                exact ⟨rfl, g1⟩
              · skip
                exact absurd (by omega) hh

/-- What Get answers. -/
def getA (W H : Int) (pix : List Int) (x y n : Int) : List Int := if getB W H pix x y n then getV W H pix x y n.toNat else []

theorem pget_any (fv : Value) (W H : Int) (pix : List Int) (x y n : Int) (w : World) (hv : FrameV w fv W H pix) :
    Calls Tryd.prog 23 #[fv, .int .i64 x, .int .i64 y, .int .i64 n] w fun e w' => ∃ v', e = .returned v' ∧ OwnInts w' w.heap.size v' (getA W H pix x y n) ∧ Below w.heap.size w w' := by
  unfold getA
  cases h : getB W H pix x y n with
  | false =>
    refine (pget_no fv W H pix x y n w hv h).mono ?_
    rintro e w1 ⟨rfl, hb1⟩
    exact ⟨_, rfl, OwnInts.nil _ _, hb1⟩
  | true =>
    obtain ⟨m, rfl⟩ : ∃ m : Nat, n = m := ⟨n.toNat, by have := (getB_iff.1 h).2.1; omega⟩
    exact pget_ok fv W H pix x y m w hv h

theorem rget_any (fv : Value) (W H : Int) (pix : List Int) (x y n : Int) (w : World) (hv : FrameV w fv W H pix) :
    Calls Tryd.prog 24 #[fv, .int .i64 x, .int .i64 y, .int .i64 n] w fun e w' => ∃ v', e = .returned v' ∧ OwnInts w' w.heap.size v' (getA W H pix x y n) ∧ Below w.heap.size w w' := by
  unfold getA
  cases h : getB W H pix x y n with
  | false =>
    refine (rget_no fv W H pix x y n w hv h).mono ?_
    rintro e w1 ⟨rfl, hb1⟩
    exact ⟨_, rfl, OwnInts.nil _ _, hb1⟩
  | true =>
    obtain ⟨m, rfl⟩ : ∃ m : Nat, n = m := ⟨n.toNat, by have := (getB_iff.1 h).2.1; omega⟩
    exact rget_ok fv W H pix x y m w hv h

end Go.Proofs.YtlpifjnjddgfaaaDoor
