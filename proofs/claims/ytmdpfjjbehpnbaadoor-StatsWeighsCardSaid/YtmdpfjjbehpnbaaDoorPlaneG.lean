/- kinref6.New; plane.Get, kinref6.Get: whole. -/
import Derived.Test.YtmdpfjjbehpnbaaDoorLay
set_option linter.unusedSimpArgs false
set_option linter.unusedVariables false
namespace Go.Proofs.YtmdpfjjbehpnbaaDoor
open Go.RowKit


set_option maxRecDepth 100000 in
set_option maxHeartbeats 2000000 in
theorem pget_no (fv : Value) (W H : Int) (pix : List Int) (x y n : Int) (w : World) (hv : FrameV w fv W H pix) (h : getB W H pix x y n = false) :
    Calls Tryd.prog 46 #[fv, .int .i64 x, .int .i64 y, .int .i64 n] w fun e w' => e = .returned (.slice none 0 0) ∧ Below w.heap.size w w' := by
  have cm := fun w hv => pmay_any fv W H pix w hv
  have HV := Lib.hid hv
  obtain ⟨ao, cap, rfl, hp⟩ := hv.cells
  clear hv hp
  cases hm : mayB W H pix with
  | false =>
    rw [hm] at cm
    have CM := Lib.hid cm
    clear cm h hm
    go_enter Tryd.func46, Tryd.ntmps46
    go_wp2_with fail
    refine (CM.out _ (HV.out.ext (by go_grown))).mono ?_
    rintro e w1 ⟨rfl, hb1⟩
    have g1 : Below w.heap.size w w1 := ext (by go_grown) hb1
    go_wp2
    go_returns
    exact ⟨rfl, g1⟩
  | true =>
    rw [hm] at cm
    have CM := Lib.hid cm
    have hh : ¬ (1 ≤ n ∧ n ≤ 8 ∧ -65536 ≤ x ∧ x ≤ 65536 ∧ -65536 ≤ y ∧ y ≤ 65536) := fun q => by rw [getB_iff.2 ⟨mayB_iff.1 hm, q⟩] at h; cases h
    clear cm h hm
    by_cases k0 : n < 1
    · clear hh
      go_enter Tryd.func46, Tryd.ntmps46
      go_wp2_with fail
      refine (CM.out _ (HV.out.ext (by go_grown))).mono ?_
      rintro e w1 ⟨rfl, hb1⟩
      have g1 : Below w.heap.size w w1 := ext (by go_grown) hb1
      go_wp2
      go_returns
      exact ⟨rfl, g1⟩
    · skip
      by_cases k1 : 8 < n
      · clear hh
        go_enter Tryd.func46, Tryd.ntmps46
        go_wp2_with fail
        refine (CM.out _ (HV.out.ext (by go_grown))).mono ?_
        rintro e w1 ⟨rfl, hb1⟩
        have g1 : Below w.heap.size w w1 := ext (by go_grown) hb1
        go_wp2
        go_returns
        exact ⟨rfl, g1⟩
      · skip
        by_cases k2 : x < -65536
        · clear hh
          go_enter Tryd.func46, Tryd.ntmps46
          go_wp2_with fail
          refine (CM.out _ (HV.out.ext (by go_grown))).mono ?_
          rintro e w1 ⟨rfl, hb1⟩
          have g1 : Below w.heap.size w w1 := ext (by go_grown) hb1
          go_wp2
          go_returns
          exact ⟨rfl, g1⟩
        · skip
          by_cases k3 : 65536 < x
          · clear hh
            go_enter Tryd.func46, Tryd.ntmps46
            go_wp2_with fail
            refine (CM.out _ (HV.out.ext (by go_grown))).mono ?_
            rintro e w1 ⟨rfl, hb1⟩
            have g1 : Below w.heap.size w w1 := ext (by go_grown) hb1
            go_wp2
            go_returns
            exact ⟨rfl, g1⟩
          · skip
            by_cases k4 : y < -65536
            · clear hh
              go_enter Tryd.func46, Tryd.ntmps46
              go_wp2_with fail
              refine (CM.out _ (HV.out.ext (by go_grown))).mono ?_
              rintro e w1 ⟨rfl, hb1⟩
              have g1 : Below w.heap.size w w1 := ext (by go_grown) hb1
              go_wp2
              go_returns
              exact ⟨rfl, g1⟩
            · skip
              by_cases k5 : 65536 < y
              · clear hh
                go_enter Tryd.func46, Tryd.ntmps46
                go_wp2_with fail
                refine (CM.out _ (HV.out.ext (by go_grown))).mono ?_
                rintro e w1 ⟨rfl, hb1⟩
                have g1 : Below w.heap.size w w1 := ext (by go_grown) hb1
                go_wp2
                go_returns
                exact ⟨rfl, g1⟩
              · skip
                exact absurd (by omega) hh

set_option maxRecDepth 100000 in
set_option maxHeartbeats 2000000 in
theorem rget_no (fv : Value) (W H : Int) (pix : List Int) (x y n : Int) (w : World) (hv : FrameV w fv W H pix) (h : getB W H pix x y n = false) :
    Calls Tryd.prog 30 #[fv, .int .i64 x, .int .i64 y, .int .i64 n] w fun e w' => e = .returned (.slice none 0 0) ∧ Below w.heap.size w w' := by
  have cm := fun w hv => rmay_any fv W H pix w hv
  have HV := Lib.hid hv
  obtain ⟨ao, cap, rfl, hp⟩ := hv.cells
  clear hv hp
  cases hm : mayB W H pix with
  | false =>
    rw [hm] at cm
    have CM := Lib.hid cm
    clear cm h hm
    go_enter Tryd.func30, Tryd.ntmps30
    go_wp2_with fail
    refine (CM.out _ (HV.out.ext (by go_grown))).mono ?_
    rintro e w1 ⟨rfl, hb1⟩
    have g1 : Below w.heap.size w w1 := ext (by go_grown) hb1
    go_wp2
    go_returns
    exact ⟨rfl, g1⟩
  | true =>
    rw [hm] at cm
    have CM := Lib.hid cm
    have hh : ¬ (1 ≤ n ∧ n ≤ 8 ∧ -65536 ≤ x ∧ x ≤ 65536 ∧ -65536 ≤ y ∧ y ≤ 65536) := fun q => by rw [getB_iff.2 ⟨mayB_iff.1 hm, q⟩] at h; cases h
    clear cm h hm
    by_cases k0 : n < 1
    · clear hh
      go_enter Tryd.func30, Tryd.ntmps30
      go_wp2_with fail
      refine (CM.out _ (HV.out.ext (by go_grown))).mono ?_
      rintro e w1 ⟨rfl, hb1⟩
      have g1 : Below w.heap.size w w1 := ext (by go_grown) hb1
      go_wp2
      go_returns
      exact ⟨rfl, g1⟩
    · skip
      by_cases k1 : 8 < n
      · clear hh
        go_enter Tryd.func30, Tryd.ntmps30
        go_wp2_with fail
        refine (CM.out _ (HV.out.ext (by go_grown))).mono ?_
        rintro e w1 ⟨rfl, hb1⟩
        have g1 : Below w.heap.size w w1 := ext (by go_grown) hb1
        go_wp2
        go_returns
        exact ⟨rfl, g1⟩
      · skip
        by_cases k2 : x < -65536
        · clear hh
          go_enter Tryd.func30, Tryd.ntmps30
          go_wp2_with fail
          refine (CM.out _ (HV.out.ext (by go_grown))).mono ?_
          rintro e w1 ⟨rfl, hb1⟩
          have g1 : Below w.heap.size w w1 := ext (by go_grown) hb1
          go_wp2
          go_returns
          exact ⟨rfl, g1⟩
        · skip
          by_cases k3 : 65536 < x
          · clear hh
            go_enter Tryd.func30, Tryd.ntmps30
            go_wp2_with fail
            refine (CM.out _ (HV.out.ext (by go_grown))).mono ?_
            rintro e w1 ⟨rfl, hb1⟩
            have g1 : Below w.heap.size w w1 := ext (by go_grown) hb1
            go_wp2
            go_returns
            exact ⟨rfl, g1⟩
          · skip
            by_cases k4 : y < -65536
            · clear hh
              go_enter Tryd.func30, Tryd.ntmps30
              go_wp2_with fail
              refine (CM.out _ (HV.out.ext (by go_grown))).mono ?_
              rintro e w1 ⟨rfl, hb1⟩
              have g1 : Below w.heap.size w w1 := ext (by go_grown) hb1
              go_wp2
              go_returns
              exact ⟨rfl, g1⟩
            · skip
              by_cases k5 : 65536 < y
              · clear hh
                go_enter Tryd.func30, Tryd.ntmps30
                go_wp2_with fail
                refine (CM.out _ (HV.out.ext (by go_grown))).mono ?_
                rintro e w1 ⟨rfl, hb1⟩
                have g1 : Below w.heap.size w w1 := ext (by go_grown) hb1
                go_wp2
                go_returns
                exact ⟨rfl, g1⟩
              · skip
                exact absurd (by omega) hh

/-- What Get answers. -/
def getA (W H : Int) (pix : List Int) (x y n : Int) : List Int := if getB W H pix x y n then getV W H pix x y n.toNat else []

theorem pget_any (fv : Value) (W H : Int) (pix : List Int) (x y n : Int) (w : World) (hv : FrameV w fv W H pix) :
    Calls Tryd.prog 46 #[fv, .int .i64 x, .int .i64 y, .int .i64 n] w fun e w' => ∃ v', e = .returned v' ∧ OwnInts w' w.heap.size v' (getA W H pix x y n) ∧ Below w.heap.size w w' := by
  unfold getA
  cases h : getB W H pix x y n with
  | false =>
    refine (pget_no fv W H pix x y n w hv h).mono ?_
    rintro e w1 ⟨rfl, hb1⟩
    exact ⟨_, rfl, OwnInts.nil _ _, hb1⟩
  | true =>
    obtain ⟨m, rfl⟩ : ∃ m : Nat, n = m := ⟨n.toNat, by have := (getB_iff.1 h).2.1; omega⟩
    exact pget_ok fv W H pix x y m w hv h

theorem rget_any (fv : Value) (W H : Int) (pix : List Int) (x y n : Int) (w : World) (hv : FrameV w fv W H pix) :
    Calls Tryd.prog 30 #[fv, .int .i64 x, .int .i64 y, .int .i64 n] w fun e w' => ∃ v', e = .returned v' ∧ OwnInts w' w.heap.size v' (getA W H pix x y n) ∧ Below w.heap.size w w' := by
  unfold getA
  cases h : getB W H pix x y n with
  | false =>
    refine (rget_no fv W H pix x y n w hv h).mono ?_
    rintro e w1 ⟨rfl, hb1⟩
    exact ⟨_, rfl, OwnInts.nil _ _, hb1⟩
  | true =>
    obtain ⟨m, rfl⟩ : ∃ m : Nat, n = m := ⟨n.toNat, by have := (getB_iff.1 h).2.1; omega⟩
    exact rget_ok fv W H pix x y m w hv h

end Go.Proofs.YtmdpfjjbehpnbaaDoor
