/- motion.Half, May, square, Block; kinref11.Half, may, Block: contracts. -/
import Derived.Test.YtjmkcbagedflkaaDoorMotionA
import Derived.Test.YtjmkcbagedflkaaDoorApp
set_option linter.unusedSimpArgs false
set_option linter.unusedVariables false
namespace Go.Proofs.YtjmkcbagedflkaaDoor
open Go.RowKit

def halfB (W H : Int) (pix : List Int) (hx hy : Int) : Bool := mayB W H pix && (decide (-65536 ≤ hx) && (decide (hx ≤ 65536) && (decide (-65536 ≤ hy) && decide (hy ≤ 65536))))
def halfA (W H : Int) (pix : List Int) (hx hy : Int) : Int := if halfB W H pix hx hy then halfV W H pix hx hy else 0
theorem halfA_no {W H : Int} {pix : List Int} {hx hy : Int} (h : ¬ (mayB W H pix = true ∧ -65536 ≤ hx ∧ hx ≤ 65536 ∧ -65536 ≤ hy ∧ hy ≤ 65536)) : halfA W H pix hx hy = 0 := by
  unfold halfA
  rw [if_neg (by unfold halfB; simp only [Bool.and_eq_true, decide_eq_true_eq]; exact h)]
theorem halfA_yes {W H : Int} {pix : List Int} {hx hy : Int} (h : mayB W H pix = true ∧ -65536 ≤ hx ∧ hx ≤ 65536 ∧ -65536 ≤ hy ∧ hy ≤ 65536) : halfA W H pix hx hy = halfV W H pix hx hy := by
  unfold halfA
  rw [if_pos (by unfold halfB; simp only [Bool.and_eq_true, decide_eq_true_eq]; exact h)]
set_option maxHeartbeats 1000000 in
theorem pHalf_any_w0 (v : Value) (W H : Int) (pix : List Int) (hx hy : Int) (w : World) (hv : FrameV w v W H pix) (hb : mayB W H pix = false) :
    Calls Tryd.prog 11 #[v, .int .i64 hx, .int .i64 hy] w fun e w' => e = .returned (.int .i64 0) ∧ Below w.heap.size w w' := by
  have HV := Lib.hid hv
  obtain ⟨ao, cap, rfl, hpi⟩ := hv.cells
  have BX := Lib.hid (Blk.new w #[.int .i64 W, .int .i64 H, .slice ao pix.length cap] 24)
  have cm := fun w hv => pmay_any (.agg #[.int .i64 W, .int .i64 H, .slice ao pix.length cap]) W H pix w hv
  rw [hb] at cm
  have CM := Lib.hid cm
  clear hv hpi cm hb
  go_enter Tryd.func11, Tryd.ntmps11
  go_wp2_with fail
  refine (CM.out _ (HV.out.ext (by go_grown))).mono ?_
  rintro e w1 ⟨rfl, hb1⟩
  have g1 : Below w.heap.size w w1 := ext (by go_grown) hb1
  go_wp2
  go_returns
  exact ⟨rfl, g1⟩
set_option maxHeartbeats 1000000 in
theorem pHalf_any_w1 (v : Value) (W H : Int) (pix : List Int) (hx hy : Int) (w : World) (hv : FrameV w v W H pix) (hb : mayB W H pix = true) (k0 : hx < -65536) :
    Calls Tryd.prog 11 #[v, .int .i64 hx, .int .i64 hy] w fun e w' => e = .returned (.int .i64 0) ∧ Below w.heap.size w w' := by
  have HV := Lib.hid hv
  obtain ⟨ao, cap, rfl, hpi⟩ := hv.cells
  have BX := Lib.hid (Blk.new w #[.int .i64 W, .int .i64 H, .slice ao pix.length cap] 24)
  have cm := fun w hv => pmay_any (.agg #[.int .i64 W, .int .i64 H, .slice ao pix.length cap]) W H pix w hv
  rw [hb] at cm
  have CM := Lib.hid cm
  clear hv hpi cm hb
  go_enter Tryd.func11, Tryd.ntmps11
  go_wp2_with fail
  refine (CM.out _ (HV.out.ext (by go_grown))).mono ?_
  rintro e w1 ⟨rfl, hb1⟩
  have g1 : Below w.heap.size w w1 := ext (by go_grown) hb1
  go_wp2
  go_returns
  exact ⟨rfl, g1⟩
set_option maxHeartbeats 1000000 in
theorem pHalf_any_w2 (v : Value) (W H : Int) (pix : List Int) (hx hy : Int) (w : World) (hv : FrameV w v W H pix) (hb : mayB W H pix = true) (k0 : ¬ hx < -65536) (k1 : 65536 < hx) :
    Calls Tryd.prog 11 #[v, .int .i64 hx, .int .i64 hy] w fun e w' => e = .returned (.int .i64 0) ∧ Below w.heap.size w w' := by
  have HV := Lib.hid hv
  obtain ⟨ao, cap, rfl, hpi⟩ := hv.cells
  have BX := Lib.hid (Blk.new w #[.int .i64 W, .int .i64 H, .slice ao pix.length cap] 24)
  have cm := fun w hv => pmay_any (.agg #[.int .i64 W, .int .i64 H, .slice ao pix.length cap]) W H pix w hv
  rw [hb] at cm
  have CM := Lib.hid cm
  clear hv hpi cm hb
  go_enter Tryd.func11, Tryd.ntmps11
  go_wp2_with fail
  refine (CM.out _ (HV.out.ext (by go_grown))).mono ?_
  rintro e w1 ⟨rfl, hb1⟩
  have g1 : Below w.heap.size w w1 := ext (by go_grown) hb1
  go_wp2
  go_returns
  exact ⟨rfl, g1⟩
set_option maxHeartbeats 1000000 in
theorem pHalf_any_w3 (v : Value) (W H : Int) (pix : List Int) (hx hy : Int) (w : World) (hv : FrameV w v W H pix) (hb : mayB W H pix = true) (k0 : ¬ hx < -65536) (k1 : ¬ 65536 < hx) (k2 : hy < -65536) :
    Calls Tryd.prog 11 #[v, .int .i64 hx, .int .i64 hy] w fun e w' => e = .returned (.int .i64 0) ∧ Below w.heap.size w w' := by
  have HV := Lib.hid hv
  obtain ⟨ao, cap, rfl, hpi⟩ := hv.cells
  have BX := Lib.hid (Blk.new w #[.int .i64 W, .int .i64 H, .slice ao pix.length cap] 24)
  have cm := fun w hv => pmay_any (.agg #[.int .i64 W, .int .i64 H, .slice ao pix.length cap]) W H pix w hv
  rw [hb] at cm
  have CM := Lib.hid cm
  clear hv hpi cm hb
  go_enter Tryd.func11, Tryd.ntmps11
  go_wp2_with fail
  refine (CM.out _ (HV.out.ext (by go_grown))).mono ?_
  rintro e w1 ⟨rfl, hb1⟩
  have g1 : Below w.heap.size w w1 := ext (by go_grown) hb1
  go_wp2
  go_returns
  exact ⟨rfl, g1⟩
set_option maxHeartbeats 1000000 in
theorem pHalf_any_w4 (v : Value) (W H : Int) (pix : List Int) (hx hy : Int) (w : World) (hv : FrameV w v W H pix) (hb : mayB W H pix = true) (k0 : ¬ hx < -65536) (k1 : ¬ 65536 < hx) (k2 : ¬ hy < -65536) (k3 : 65536 < hy) :
    Calls Tryd.prog 11 #[v, .int .i64 hx, .int .i64 hy] w fun e w' => e = .returned (.int .i64 0) ∧ Below w.heap.size w w' := by
  have HV := Lib.hid hv
  obtain ⟨ao, cap, rfl, hpi⟩ := hv.cells
  have BX := Lib.hid (Blk.new w #[.int .i64 W, .int .i64 H, .slice ao pix.length cap] 24)
  have cm := fun w hv => pmay_any (.agg #[.int .i64 W, .int .i64 H, .slice ao pix.length cap]) W H pix w hv
  rw [hb] at cm
  have CM := Lib.hid cm
  clear hv hpi cm hb
  go_enter Tryd.func11, Tryd.ntmps11
  go_wp2_with fail
  refine (CM.out _ (HV.out.ext (by go_grown))).mono ?_
  rintro e w1 ⟨rfl, hb1⟩
  have g1 : Below w.heap.size w w1 := ext (by go_grown) hb1
  go_wp2
  go_returns
  exact ⟨rfl, g1⟩
set_option maxHeartbeats 1000000 in
theorem pHalf_any_ok (v : Value) (W H : Int) (pix : List Int) (hx hy : Int) (w : World) (hv : FrameV w v W H pix) (hb : mayB W H pix = true) (k0 : ¬ hx < -65536) (k1 : ¬ 65536 < hx) (k2 : ¬ hy < -65536) (k3 : ¬ 65536 < hy) :
    Calls Tryd.prog 11 #[v, .int .i64 hx, .int .i64 hy] w fun e w' => e = .returned (.int .i64 (halfV W H pix hx hy)) ∧ Below w.heap.size w w' := by
  have hm := mayB_iff.1 hb
  have HV := Lib.hid hv
  obtain ⟨ao, cap, rfl, hpi⟩ := hv.cells
  have BX := Lib.hid (Blk.new w #[.int .i64 W, .int .i64 H, .slice ao pix.length cap] 24)
  have cm := fun w hv => pmay_any (.agg #[.int .i64 W, .int .i64 H, .slice ao pix.length cap]) W H pix w hv
  rw [hb] at cm
  have CM := Lib.hid cm
  have CH := Lib.hid (fun w hv => phalf_any (.agg #[.int .i64 W, .int .i64 H, .slice ao pix.length cap]) W H pix hx hy w hv hm (by omega) (by omega) (by omega) (by omega))
  clear hv hpi cm hb hm
  go_enter Tryd.func11, Tryd.ntmps11
  go_wp2_with fail
  refine (CM.out _ (HV.out.ext (by go_grown))).mono ?_
  rintro e w1 ⟨rfl, hb1⟩
  have g1 : Below w.heap.size w w1 := ext (by go_grown) hb1
  obtain ⟨c0, c1, c2, -, -, -⟩ := (BX.out.ext hb1).three
  go_wp2_with fail
  clear c0 c1 c2
  refine (CH.out _ (HV.out.ext g1)).mono ?_
  rintro e w2 ⟨rfl, hb2⟩
  go_wp2
  go_returns
  exact ⟨rfl, ext g1 hb2⟩
theorem pHalf_any (v : Value) (W H : Int) (pix : List Int) (hx hy : Int) (w : World) (hv : FrameV w v W H pix) :
    Calls Tryd.prog 11 #[v, .int .i64 hx, .int .i64 hy] w fun e w' => e = .returned (.int .i64 (halfA W H pix hx hy)) ∧ Below w.heap.size w w' := by
  cases hb : mayB W H pix with
  | false => rw [halfA_no (fun q => by rw [hb] at q; exact absurd q.1 (by decide))]; exact pHalf_any_w0 v W H pix hx hy w hv hb
  | true =>
    by_cases k0 : hx < -65536
    · rw [halfA_no (by omega)]; exact pHalf_any_w1 v W H pix hx hy w hv hb k0
    · by_cases k1 : 65536 < hx
      · rw [halfA_no (by omega)]; exact pHalf_any_w2 v W H pix hx hy w hv hb k0 k1
      · by_cases k2 : hy < -65536
        · rw [halfA_no (by omega)]; exact pHalf_any_w3 v W H pix hx hy w hv hb k0 k1 k2
        · by_cases k3 : 65536 < hy
          · rw [halfA_no (by omega)]; exact pHalf_any_w4 v W H pix hx hy w hv hb k0 k1 k2 k3
          · rw [halfA_yes ⟨hb, by omega, by omega, by omega, by omega⟩]; exact pHalf_any_ok v W H pix hx hy w hv hb k0 k1 k2 k3
set_option maxHeartbeats 1000000 in
theorem rHalf_any_w0 (v : Value) (W H : Int) (pix : List Int) (hx hy : Int) (w : World) (hv : FrameV w v W H pix) (hb : mayB W H pix = false) :
    Calls Tryd.prog 12 #[v, .int .i64 hx, .int .i64 hy] w fun e w' => e = .returned (.int .i64 0) ∧ Below w.heap.size w w' := by
  have HV := Lib.hid hv
  obtain ⟨ao, cap, rfl, hpi⟩ := hv.cells
  have BX := Lib.hid (Blk.new w #[.int .i64 W, .int .i64 H, .slice ao pix.length cap] 24)
  have cm := fun w hv => rmay_any (.agg #[.int .i64 W, .int .i64 H, .slice ao pix.length cap]) W H pix w hv
  rw [hb] at cm
  have CM := Lib.hid cm
  clear hv hpi cm hb
  go_enter Tryd.func12, Tryd.ntmps12
  go_wp2_with fail
  refine (CM.out _ (HV.out.ext (by go_grown))).mono ?_
  rintro e w1 ⟨rfl, hb1⟩
  have g1 : Below w.heap.size w w1 := ext (by go_grown) hb1
  go_wp2
  go_returns
  exact ⟨rfl, g1⟩
set_option maxHeartbeats 1000000 in
theorem rHalf_any_w1 (v : Value) (W H : Int) (pix : List Int) (hx hy : Int) (w : World) (hv : FrameV w v W H pix) (hb : mayB W H pix = true) (k0 : hx < -65536) :
    Calls Tryd.prog 12 #[v, .int .i64 hx, .int .i64 hy] w fun e w' => e = .returned (.int .i64 0) ∧ Below w.heap.size w w' := by
  have HV := Lib.hid hv
  obtain ⟨ao, cap, rfl, hpi⟩ := hv.cells
  have BX := Lib.hid (Blk.new w #[.int .i64 W, .int .i64 H, .slice ao pix.length cap] 24)
  have cm := fun w hv => rmay_any (.agg #[.int .i64 W, .int .i64 H, .slice ao pix.length cap]) W H pix w hv
  rw [hb] at cm
  have CM := Lib.hid cm
  clear hv hpi cm hb
  go_enter Tryd.func12, Tryd.ntmps12
  go_wp2_with fail
  refine (CM.out _ (HV.out.ext (by go_grown))).mono ?_
  rintro e w1 ⟨rfl, hb1⟩
  have g1 : Below w.heap.size w w1 := ext (by go_grown) hb1
  go_wp2
  go_returns
  exact ⟨rfl, g1⟩
set_option maxHeartbeats 1000000 in
theorem rHalf_any_w2 (v : Value) (W H : Int) (pix : List Int) (hx hy : Int) (w : World) (hv : FrameV w v W H pix) (hb : mayB W H pix = true) (k0 : ¬ hx < -65536) (k1 : 65536 < hx) :
    Calls Tryd.prog 12 #[v, .int .i64 hx, .int .i64 hy] w fun e w' => e = .returned (.int .i64 0) ∧ Below w.heap.size w w' := by
  have HV := Lib.hid hv
  obtain ⟨ao, cap, rfl, hpi⟩ := hv.cells
  have BX := Lib.hid (Blk.new w #[.int .i64 W, .int .i64 H, .slice ao pix.length cap] 24)
  have cm := fun w hv => rmay_any (.agg #[.int .i64 W, .int .i64 H, .slice ao pix.length cap]) W H pix w hv
  rw [hb] at cm
  have CM := Lib.hid cm
  clear hv hpi cm hb
  go_enter Tryd.func12, Tryd.ntmps12
  go_wp2_with fail
  refine (CM.out _ (HV.out.ext (by go_grown))).mono ?_
  rintro e w1 ⟨rfl, hb1⟩
  have g1 : Below w.heap.size w w1 := ext (by go_grown) hb1
  go_wp2
  go_returns
  exact ⟨rfl, g1⟩
set_option maxHeartbeats 1000000 in
theorem rHalf_any_w3 (v : Value) (W H : Int) (pix : List Int) (hx hy : Int) (w : World) (hv : FrameV w v W H pix) (hb : mayB W H pix = true) (k0 : ¬ hx < -65536) (k1 : ¬ 65536 < hx) (k2 : hy < -65536) :
    Calls Tryd.prog 12 #[v, .int .i64 hx, .int .i64 hy] w fun e w' => e = .returned (.int .i64 0) ∧ Below w.heap.size w w' := by
  have HV := Lib.hid hv
  obtain ⟨ao, cap, rfl, hpi⟩ := hv.cells
  have BX := Lib.hid (Blk.new w #[.int .i64 W, .int .i64 H, .slice ao pix.length cap] 24)
  have cm := fun w hv => rmay_any (.agg #[.int .i64 W, .int .i64 H, .slice ao pix.length cap]) W H pix w hv
  rw [hb] at cm
  have CM := Lib.hid cm
  clear hv hpi cm hb
  go_enter Tryd.func12, Tryd.ntmps12
  go_wp2_with fail
  refine (CM.out _ (HV.out.ext (by go_grown))).mono ?_
  rintro e w1 ⟨rfl, hb1⟩
  have g1 : Below w.heap.size w w1 := ext (by go_grown) hb1
  go_wp2
  go_returns
  exact ⟨rfl, g1⟩
set_option maxHeartbeats 1000000 in
theorem rHalf_any_w4 (v : Value) (W H : Int) (pix : List Int) (hx hy : Int) (w : World) (hv : FrameV w v W H pix) (hb : mayB W H pix = true) (k0 : ¬ hx < -65536) (k1 : ¬ 65536 < hx) (k2 : ¬ hy < -65536) (k3 : 65536 < hy) :
    Calls Tryd.prog 12 #[v, .int .i64 hx, .int .i64 hy] w fun e w' => e = .returned (.int .i64 0) ∧ Below w.heap.size w w' := by
  have HV := Lib.hid hv
  obtain ⟨ao, cap, rfl, hpi⟩ := hv.cells
  have BX := Lib.hid (Blk.new w #[.int .i64 W, .int .i64 H, .slice ao pix.length cap] 24)
  have cm := fun w hv => rmay_any (.agg #[.int .i64 W, .int .i64 H, .slice ao pix.length cap]) W H pix w hv
  rw [hb] at cm
  have CM := Lib.hid cm
  clear hv hpi cm hb
  go_enter Tryd.func12, Tryd.ntmps12
  go_wp2_with fail
  refine (CM.out _ (HV.out.ext (by go_grown))).mono ?_
  rintro e w1 ⟨rfl, hb1⟩
  have g1 : Below w.heap.size w w1 := ext (by go_grown) hb1
  go_wp2
  go_returns
  exact ⟨rfl, g1⟩
set_option maxHeartbeats 1000000 in
theorem rHalf_any_ok (v : Value) (W H : Int) (pix : List Int) (hx hy : Int) (w : World) (hv : FrameV w v W H pix) (hb : mayB W H pix = true) (k0 : ¬ hx < -65536) (k1 : ¬ 65536 < hx) (k2 : ¬ hy < -65536) (k3 : ¬ 65536 < hy) :
    Calls Tryd.prog 12 #[v, .int .i64 hx, .int .i64 hy] w fun e w' => e = .returned (.int .i64 (halfV W H pix hx hy)) ∧ Below w.heap.size w w' := by
  have hm := mayB_iff.1 hb
  have HV := Lib.hid hv
  obtain ⟨ao, cap, rfl, hpi⟩ := hv.cells
  have BX := Lib.hid (Blk.new w #[.int .i64 W, .int .i64 H, .slice ao pix.length cap] 24)
  have cm := fun w hv => rmay_any (.agg #[.int .i64 W, .int .i64 H, .slice ao pix.length cap]) W H pix w hv
  rw [hb] at cm
  have CM := Lib.hid cm
  have CH := Lib.hid (fun w hv => rhalf_any (.agg #[.int .i64 W, .int .i64 H, .slice ao pix.length cap]) W H pix hx hy w hv hm (by omega) (by omega) (by omega) (by omega))
  clear hv hpi cm hb hm
  go_enter Tryd.func12, Tryd.ntmps12
  go_wp2_with fail
  refine (CM.out _ (HV.out.ext (by go_grown))).mono ?_
  rintro e w1 ⟨rfl, hb1⟩
  have g1 : Below w.heap.size w w1 := ext (by go_grown) hb1
  obtain ⟨c0, c1, c2, -, -, -⟩ := (BX.out.ext hb1).three
  go_wp2_with fail
  clear c0 c1 c2
  refine (CH.out _ (HV.out.ext g1)).mono ?_
  rintro e w2 ⟨rfl, hb2⟩
  go_wp2
  go_returns
  exact ⟨rfl, ext g1 hb2⟩
theorem rHalf_any (v : Value) (W H : Int) (pix : List Int) (hx hy : Int) (w : World) (hv : FrameV w v W H pix) :
    Calls Tryd.prog 12 #[v, .int .i64 hx, .int .i64 hy] w fun e w' => e = .returned (.int .i64 (halfA W H pix hx hy)) ∧ Below w.heap.size w w' := by
  cases hb : mayB W H pix with
  | false => rw [halfA_no (fun q => by rw [hb] at q; exact absurd q.1 (by decide))]; exact rHalf_any_w0 v W H pix hx hy w hv hb
  | true =>
    by_cases k0 : hx < -65536
    · rw [halfA_no (by omega)]; exact rHalf_any_w1 v W H pix hx hy w hv hb k0
    · by_cases k1 : 65536 < hx
      · rw [halfA_no (by omega)]; exact rHalf_any_w2 v W H pix hx hy w hv hb k0 k1
      · by_cases k2 : hy < -65536
        · rw [halfA_no (by omega)]; exact rHalf_any_w3 v W H pix hx hy w hv hb k0 k1 k2
        · by_cases k3 : 65536 < hy
          · rw [halfA_no (by omega)]; exact rHalf_any_w4 v W H pix hx hy w hv hb k0 k1 k2 k3
          · rw [halfA_yes ⟨hb, by omega, by omega, by omega, by omega⟩]; exact rHalf_any_ok v W H pix hx hy w hv hb k0 k1 k2 k3
theorem part_any (n : Int) (w : World) : Calls Tryd.prog 49 #[.int .i64 n] w fun e w' => e = .returned (.bool (partB n)) ∧ w = w' := by
  by_cases h0 : -15 ≤ n
  · by_cases h1 : n ≤ 15
    · rw [show partB n = true from partB_iff.2 ⟨h0, h1⟩]
      go_enter Tryd.func49, Tryd.ntmps49
      go_wp2
      go_returns
      exact ⟨rfl, rfl⟩
    · rw [show partB n = false from by unfold partB; rw [decide_eq_false h1, Bool.and_false]]
      go_enter Tryd.func49, Tryd.ntmps49
      go_wp2
      go_returns
      exact ⟨rfl, rfl⟩
  · rw [show partB n = false from by unfold partB; rw [decide_eq_false h0, Bool.false_and]]
    go_enter Tryd.func49, Tryd.ntmps49
    go_wp2
    go_returns
    exact ⟨rfl, rfl⟩
theorem pvec_any (vx vy : Int) (w : World) : Calls Tryd.prog 30 #[.agg #[.int .i64 vx, .int .i64 vy]] w fun e w' => e = .returned (.bool (vecB vx vy)) ∧ Below w.heap.size w w' := by
  have C1 := Lib.hid (fun w => part_any vx w)
  have C2 := Lib.hid (fun w => part_any vy w)
  unfold vecB
  cases h1 : partB vx with
  | false =>
    rw [h1] at C1
    clear C2 h1
    go_enter Tryd.func30, Tryd.ntmps30
    go_wp2_with fail
    refine (C1.out _).mono ?_
    rintro e w1 ⟨rfl, rfl⟩
    go_wp2
    go_returns
    exact ⟨rfl, by go_grown⟩
  | true =>
    rw [h1] at C1
    clear h1
    generalize partB vy = p at *
    go_enter Tryd.func30, Tryd.ntmps30
    go_wp2_with fail
    refine (C1.out _).mono ?_
    rintro e w1 ⟨rfl, rfl⟩
    go_wp2_with fail
    refine (C2.out _).mono ?_
    rintro e w1 ⟨rfl, rfl⟩
    go_wp2
    go_returns
    exact ⟨rfl, by go_grown⟩
theorem rvec_any (vx vy : Int) (w : World) : Calls Tryd.prog 32 #[.agg #[.int .i64 vx, .int .i64 vy]] w fun e w' => e = .returned (.bool (vecB vx vy)) ∧ Below w.heap.size w w' := by
  by_cases h0 : -15 ≤ vx
  · by_cases h1 : vx ≤ 15
    · by_cases h2 : -15 ≤ vy
      · by_cases h3 : vy ≤ 15
        · rw [show vecB vx vy = true from vecB_of ⟨h0, h1, h2, h3⟩]
          go_enter Tryd.func32, Tryd.ntmps32
          go_wp2
          go_returns
          exact ⟨rfl, by go_grown⟩
        · rw [show vecB vx vy = false from by unfold vecB partB; rw [decide_eq_false h3, Bool.and_false, Bool.and_false]]
          go_enter Tryd.func32, Tryd.ntmps32
          go_wp2
          go_returns
          exact ⟨rfl, by go_grown⟩
      · rw [show vecB vx vy = false from by unfold vecB partB; rw [decide_eq_false h2, Bool.false_and, Bool.and_false]]
        go_enter Tryd.func32, Tryd.ntmps32
        go_wp2
        go_returns
        exact ⟨rfl, by go_grown⟩
    · rw [show vecB vx vy = false from by unfold vecB partB; rw [decide_eq_false h1, Bool.and_false, Bool.false_and]]
      go_enter Tryd.func32, Tryd.ntmps32
      go_wp2
      go_returns
      exact ⟨rfl, by go_grown⟩
  · rw [show vecB vx vy = false from by unfold vecB partB; rw [decide_eq_false h0, Bool.false_and, Bool.false_and]]
    go_enter Tryd.func32, Tryd.ntmps32
    go_wp2
    go_returns
    exact ⟨rfl, by go_grown⟩
set_option maxRecDepth 100000 in
set_option maxHeartbeats 4000000 in
theorem psquare_any (fv : Value) (W H : Int) (pix : List Int) (x y : Int) (n : Nat) (vx vy : Int) (w : World) (hv : FrameV w fv W H pix) (hm : May W H pix) (n1 : 1 ≤ n) (n2 : n ≤ 8) (x1 : 0 ≤ x) (x2 : x ≤ 32) (y1 : 0 ≤ y) (y2 : y ≤ 32) (a1 : -15 ≤ vx) (a2 : vx ≤ 15) (b1 : -15 ≤ vy) (b2 : vy ≤ 15) :
    Calls Tryd.prog 31 #[fv, .int .i64 x, .int .i64 y, .int .i64 n, .agg #[.int .i64 vx, .int .i64 vy]] w fun e w' => ∃ v', e = .returned v' ∧ OwnInts w' w.heap.size v' (sqV W H pix x y n vx vy) ∧ Below w.heap.size w w' := by
  have HV := Lib.hid hv
  obtain ⟨ao, cap, rfl, hpi⟩ := hv.cells
  have CH := Lib.hid (fun hx hy w hv x1 x2 y1 y2 => phalf_any (.agg #[.int .i64 W, .int .i64 H, .slice ao pix.length cap]) W H pix hx hy w hv hm x1 x2 y1 y2)
  have HB := Lib.hid (fun hx hy => halfV_bd hm hx hy)
  have HSQ := Lib.hid (fun j i hi => @sqAt_at W H pix x y vx vy n j i hi)
  obtain ⟨NN, hNN⟩ : ∃ NN, n * n = NN := ⟨_, rfl⟩
  have hNN2 : NN ≤ 64 := by rw [← hNN]; exact Nat.mul_le_mul n2 n2
  have qm : IntKind.i64.wrap ((n : Int) * n) = (NN : Nat) := by rw [IntWalk.i64_in _ (by rw [show (n : Int) * n = (NN : Nat) from by rw [← hNN]; simp]; omega), ← hNN]; simp
  have HNN := Lib.hid hNN
  have BF0 := Lib.hid ((Blk.new w #[.int .i64 W, .int .i64 H, .slice ao pix.length cap] 24).alloc (.cells #[.int .i64 vx, .int .i64 vy] 26))
  have BV0 := Lib.hid (Blk.new (w.alloc (.cells #[.int .i64 W, .int .i64 H, .slice ao pix.length cap] 24)) #[.int .i64 vx, .int .i64 vy] 26)
  simp only [World.size_alloc] at BV0
  clear hv hpi hm hNN
  go_enter Tryd.func31, Tryd.ntmps31
  go_wp2_with (at_make; refine wpList_make0 rfl _ _ rfl NN rfl rfl rfl (by omega) ?_)
  intro w1 hown hb1
  replace hb1 : Below ((w.alloc (.cells #[.int .i64 W, .int .i64 H, .slice ao pix.length cap] 24)).alloc (.cells #[.int .i64 vx, .int .i64 vy] 26)).heap.size ((w.alloc (.cells #[.int .i64 W, .int .i64 H, .slice ao pix.length cap] 24)).alloc (.cells #[.int .i64 vx, .int .i64 vy] 26)) w1 := by simp only [World.size_alloc]; exact hb1
  have g1 : Below w.heap.size w w1 := ext (by go_grown) hb1
  have HO := Lib.hid (show OwnInts w1 (w.heap.size + 2) (.slice (some ⟨w.heap.size + 1 + 1, 0, none⟩) 0 NN) (mapTo (sqAt W H pix x y n vx vy) (0 * n)) from by rw [Nat.zero_mul]; exact hown)
  have BF1 := Lib.hid (BF0.out.ext hb1)
  have BV1 := Lib.hid (BV0.out.ext hb1)
  clear hown BF0 BV0 hb1
  go_wp2
  go_loopw [11, 19] (fun o j wr => ∃ k : Nat, k ≤ n ∧ j = .int .i64 k ∧ OwnInts wr (w.heap.size + 2) o (mapTo (sqAt W H pix x y n vx vy) (k * n)) ∧ Below w.heap.size w wr ∧ Blk wr w.heap.size #[.int .i64 W, .int .i64 H, .slice ao pix.length cap] 24 ∧ Blk wr (w.heap.size + 1) #[.int .i64 vx, .int .i64 vy] 26) (fun _ j _ => n - (intOf j).toNat)
  case atStart => exact ⟨0, Nat.zero_le _, rfl, HO.out, g1, BF1.out, BV1.out⟩
  case round =>
    clear HO g1 BF1 BV1
    obtain ⟨j, hj, rfl, hown, hbr, hF, hV⟩ := hrel
    obtain ⟨wo, rfl⟩ : ∃ wo : World, wo = wr := ⟨_, rfl⟩
    have HO := Lib.hid hown
    have BF := Lib.hid hF
    have BW := Lib.hid hV
    have hbo := hbr
    clear hown hF hV hbr
    by_cases hlj : j < n
    · have HO1 := Lib.hid (show OwnInts wo (w.heap.size + 2) _ (mapTo (sqAt W H pix x y n vx vy) (j * n + 0)) from HO.out)
      clear HO
      go_wp2
      go_loopw [11, 23] (fun o i wr => ∃ k : Nat, k ≤ n ∧ i = .int .i64 k ∧ OwnInts wr (w.heap.size + 2) o (mapTo (sqAt W H pix x y n vx vy) (j * n + k)) ∧ Below w.heap.size w wr ∧ Blk wr w.heap.size #[.int .i64 W, .int .i64 H, .slice ao pix.length cap] 24 ∧ Blk wr (w.heap.size + 1) #[.int .i64 vx, .int .i64 vy] 26) (fun _ i _ => n - (intOf i).toNat)
      case atStart => exact ⟨0, Nat.zero_le _, rfl, HO1.out, hbo, BF.out, BW.out⟩
      case round =>
        clear HO1 hbo BF BW
        obtain ⟨i, hi, rfl, hown, hbr, hF, hV⟩ := hrel
        have HO2 := Lib.hid hown
        have BF := Lib.hid hF
        have BW := Lib.hid hV
        have lF := hF.lt
        have lV := hV.lt
        clear hown hF hV
        by_cases hli : i < n
        · obtain ⟨c0, c1, c2, -, -, -⟩ := BF.out.three
          obtain ⟨d0, d1, -, -⟩ := BW.out.two
          have hgt := HSQ.out j i hli
          have hms := mapTo_succ (sqAt W H pix x y n vx vy) (j * n + i)
          rw [hgt] at hms
          have HMS := Lib.hid hms
          have hbd := HB.out (2 * (x + i) + vx) (2 * (y + j) + vy)
          have hlen : j * n + i ≤ 64 := Nat.le_trans (Nat.add_le_add_left (Nat.le_of_lt hli) _) (by rw [← Nat.succ_mul]; exact Nat.le_trans (Nat.mul_le_mul_right _ hlj) (by rw [HNN.out]; exact hNN2))
          have Hlen := Lib.hid (show (mapTo (sqAt W H pix x y n vx vy) (j * n + i)).length ≤ 1099511627776 from by rw [length_mapTo]; omega)
          have CC := Lib.hid (fun w hv => CH.out (2 * (x + i) + vx) (2 * (y + j) + vy) w hv (by omega) (by omega) (by omega) (by omega))
          clear hgt hms hlen
          generalize halfV W H pix (2 * (x + i) + vx) (2 * (y + j) + vy) = z at *
          have Hz := Lib.hid (show in64 z from by unfold in64; omega)
          clear hbd
          go_wp2_with fail
          clear c0 c1 c2 d0 d1
          refine (CC.out _ (HV.out.ext hbr)).mono ?_
          rintro e w3 ⟨rfl, hb3⟩
          have g3 : Below w.heap.size w w3 := ext hbr hb3
          have BF3 := Lib.hid (BF.out.ext hb3)
          have BW3 := Lib.hid (BW.out.ext hb3)
          have l3 := BW3.out.lt
          go_wp2_with (at_builtin; refine wpList_app1 rfl (.tmp 26) (.tmp 43) rfl (w.heap.size + 2) _ _ z rfl (HO2.out.ext hb3) rfl (by simp) Hz.out Hlen.out (by omega) ?_)
          intro v' w' hown' hb' _
          have Hown' := Lib.hid hown'
          have BF4 := Lib.hid (BF3.out.below hb' (by omega))
          have BW4 := Lib.hid (BW3.out.below hb' (by omega))
          have g4 : Below w.heap.size w w' := g3.trans (hb'.mono (by omega))
          clear hown' HO2 BF BW BF3 BW3 hb3 hb'
          go_wp2
          go_roundw
          case rel => exact ⟨i + 1, by omega, by go_num, by rw [← Nat.add_assoc, HMS.out]; exact Hown'.out, g4, BF4.out, BW4.out⟩
          case measure => simp [intOf]; omega
        · have ei : i = n := by omega
          have HO3 := Lib.hid (show OwnInts wr (w.heap.size + 2) _ (mapTo (sqAt W H pix x y n vx vy) ((j + 1) * n)) from by rw [Nat.succ_mul]; rw [ei] at HO2; exact HO2.out)
          clear HO2 ei
          go_wp2
          go_roundw
          case rel => exact ⟨j + 1, by omega, by go_num, HO3.out, hbr, BF.out, BW.out⟩
          case measure => simp [intOf]; omega
    · have ej : j = n := by omega
      have HO3 := Lib.hid (show OwnInts wo (w.heap.size + 2) _ (sqV W H pix x y n vx vy) from by rw [ej] at HO; exact HO.out)
      clear HO ej
      go_wp2
      go_returns
      exact ⟨_, rfl, HO3.out.mono (by omega), hbo⟩
set_option maxRecDepth 100000 in
set_option maxHeartbeats 2000000 in
theorem pblock_w0 (fv : Value) (W H : Int) (pix : List Int) (x y n vx vy : Int) (w : World) (hv : FrameV w fv W H pix) (hb : mayB W H pix = false) :
    Calls Tryd.prog 14 #[fv, .int .i64 x, .int .i64 y, .int .i64 n, .agg #[.int .i64 vx, .int .i64 vy]] w fun e w' => e = .returned (.slice none 0 0) ∧ Below w.heap.size w w' := by
  have HV := Lib.hid hv
  obtain ⟨ao, cap, rfl, hpi⟩ := hv.cells
  have BF := Lib.hid ((Blk.new w #[.int .i64 W, .int .i64 H, .slice ao pix.length cap] 24).alloc (.cells #[.int .i64 vx, .int .i64 vy] 26))
  have BW := Lib.hid (Blk.new (w.alloc (.cells #[.int .i64 W, .int .i64 H, .slice ao pix.length cap] 24)) #[.int .i64 vx, .int .i64 vy] 26)
  simp only [World.size_alloc] at BW
  have cm := fun w hv => pmay_any (.agg #[.int .i64 W, .int .i64 H, .slice ao pix.length cap]) W H pix w hv
  rw [hb] at cm
  have CM := Lib.hid cm
  clear hv hpi cm hb
  go_enter Tryd.func14, Tryd.ntmps14
  go_wp2_with fail
  refine (CM.out _ (HV.out.ext (by go_grown))).mono ?_
  rintro e w1 ⟨rfl, hb1⟩
  have g1 : Below w.heap.size w w1 := ext (by go_grown) hb1
  go_wp2
  go_returns
  exact ⟨rfl, g1⟩
set_option maxRecDepth 100000 in
set_option maxHeartbeats 2000000 in
theorem pblock_w1 (fv : Value) (W H : Int) (pix : List Int) (x y n vx vy : Int) (w : World) (hv : FrameV w fv W H pix) (hb : mayB W H pix = true) (hn : n ≠ 4 ∧ n ≠ 8) :
    Calls Tryd.prog 14 #[fv, .int .i64 x, .int .i64 y, .int .i64 n, .agg #[.int .i64 vx, .int .i64 vy]] w fun e w' => e = .returned (.slice none 0 0) ∧ Below w.heap.size w w' := by
  have HV := Lib.hid hv
  obtain ⟨ao, cap, rfl, hpi⟩ := hv.cells
  have BF := Lib.hid ((Blk.new w #[.int .i64 W, .int .i64 H, .slice ao pix.length cap] 24).alloc (.cells #[.int .i64 vx, .int .i64 vy] 26))
  have BW := Lib.hid (Blk.new (w.alloc (.cells #[.int .i64 W, .int .i64 H, .slice ao pix.length cap] 24)) #[.int .i64 vx, .int .i64 vy] 26)
  simp only [World.size_alloc] at BW
  have cm := fun w hv => pmay_any (.agg #[.int .i64 W, .int .i64 H, .slice ao pix.length cap]) W H pix w hv
  rw [hb] at cm
  have CM := Lib.hid cm
  clear hv hpi cm hb
  have q1 : (n != 4) = true := by simp; omega
  have q2 : (n != 8) = true := by simp; omega
  clear hn
  go_enter Tryd.func14, Tryd.ntmps14
  go_wp2_with fail
  refine (CM.out _ (HV.out.ext (by go_grown))).mono ?_
  rintro e w1 ⟨rfl, hb1⟩
  have g1 : Below w.heap.size w w1 := ext (by go_grown) hb1
  go_wp2
  go_returns
  exact ⟨rfl, g1⟩
set_option maxRecDepth 100000 in
set_option maxHeartbeats 2000000 in
theorem pblock_w2 (fv : Value) (W H : Int) (pix : List Int) (x y n vx vy : Int) (w : World) (hv : FrameV w fv W H pix) (hb : mayB W H pix = true) (hn : n = 4 ∨ n = 8) (k0 : x < 0) :
    Calls Tryd.prog 14 #[fv, .int .i64 x, .int .i64 y, .int .i64 n, .agg #[.int .i64 vx, .int .i64 vy]] w fun e w' => e = .returned (.slice none 0 0) ∧ Below w.heap.size w w' := by
  have HV := Lib.hid hv
  obtain ⟨ao, cap, rfl, hpi⟩ := hv.cells
  have BF := Lib.hid ((Blk.new w #[.int .i64 W, .int .i64 H, .slice ao pix.length cap] 24).alloc (.cells #[.int .i64 vx, .int .i64 vy] 26))
  have BW := Lib.hid (Blk.new (w.alloc (.cells #[.int .i64 W, .int .i64 H, .slice ao pix.length cap] 24)) #[.int .i64 vx, .int .i64 vy] 26)
  simp only [World.size_alloc] at BW
  have cm := fun w hv => pmay_any (.agg #[.int .i64 W, .int .i64 H, .slice ao pix.length cap]) W H pix w hv
  rw [hb] at cm
  have CM := Lib.hid cm
  clear hv hpi cm hb
  rcases hn with rfl | rfl
  · go_enter Tryd.func14, Tryd.ntmps14
    go_wp2_with fail
    refine (CM.out _ (HV.out.ext (by go_grown))).mono ?_
    rintro e w1 ⟨rfl, hb1⟩
    have g1 : Below w.heap.size w w1 := ext (by go_grown) hb1
    go_wp2
    go_returns
    exact ⟨rfl, g1⟩
  · go_enter Tryd.func14, Tryd.ntmps14
    go_wp2_with fail
    refine (CM.out _ (HV.out.ext (by go_grown))).mono ?_
    rintro e w1 ⟨rfl, hb1⟩
    have g1 : Below w.heap.size w w1 := ext (by go_grown) hb1
    go_wp2
    go_returns
    exact ⟨rfl, g1⟩
set_option maxRecDepth 100000 in
set_option maxHeartbeats 2000000 in
theorem pblock_w3 (fv : Value) (W H : Int) (pix : List Int) (x y n vx vy : Int) (w : World) (hv : FrameV w fv W H pix) (hb : mayB W H pix = true) (hn : n = 4 ∨ n = 8) (k0 : ¬ x < 0) (k1 : 32 < x) :
    Calls Tryd.prog 14 #[fv, .int .i64 x, .int .i64 y, .int .i64 n, .agg #[.int .i64 vx, .int .i64 vy]] w fun e w' => e = .returned (.slice none 0 0) ∧ Below w.heap.size w w' := by
  have HV := Lib.hid hv
  obtain ⟨ao, cap, rfl, hpi⟩ := hv.cells
  have BF := Lib.hid ((Blk.new w #[.int .i64 W, .int .i64 H, .slice ao pix.length cap] 24).alloc (.cells #[.int .i64 vx, .int .i64 vy] 26))
  have BW := Lib.hid (Blk.new (w.alloc (.cells #[.int .i64 W, .int .i64 H, .slice ao pix.length cap] 24)) #[.int .i64 vx, .int .i64 vy] 26)
  simp only [World.size_alloc] at BW
  have cm := fun w hv => pmay_any (.agg #[.int .i64 W, .int .i64 H, .slice ao pix.length cap]) W H pix w hv
  rw [hb] at cm
  have CM := Lib.hid cm
  clear hv hpi cm hb
  rcases hn with rfl | rfl
  · go_enter Tryd.func14, Tryd.ntmps14
    go_wp2_with fail
    refine (CM.out _ (HV.out.ext (by go_grown))).mono ?_
    rintro e w1 ⟨rfl, hb1⟩
    have g1 : Below w.heap.size w w1 := ext (by go_grown) hb1
    go_wp2
    go_returns
    exact ⟨rfl, g1⟩
  · go_enter Tryd.func14, Tryd.ntmps14
    go_wp2_with fail
    refine (CM.out _ (HV.out.ext (by go_grown))).mono ?_
    rintro e w1 ⟨rfl, hb1⟩
    have g1 : Below w.heap.size w w1 := ext (by go_grown) hb1
    go_wp2
    go_returns
    exact ⟨rfl, g1⟩
set_option maxRecDepth 100000 in
set_option maxHeartbeats 2000000 in
theorem pblock_w4 (fv : Value) (W H : Int) (pix : List Int) (x y n vx vy : Int) (w : World) (hv : FrameV w fv W H pix) (hb : mayB W H pix = true) (hn : n = 4 ∨ n = 8) (k0 : ¬ x < 0) (k1 : ¬ 32 < x) (k2 : y < 0) :
    Calls Tryd.prog 14 #[fv, .int .i64 x, .int .i64 y, .int .i64 n, .agg #[.int .i64 vx, .int .i64 vy]] w fun e w' => e = .returned (.slice none 0 0) ∧ Below w.heap.size w w' := by
  have HV := Lib.hid hv
  obtain ⟨ao, cap, rfl, hpi⟩ := hv.cells
  have BF := Lib.hid ((Blk.new w #[.int .i64 W, .int .i64 H, .slice ao pix.length cap] 24).alloc (.cells #[.int .i64 vx, .int .i64 vy] 26))
  have BW := Lib.hid (Blk.new (w.alloc (.cells #[.int .i64 W, .int .i64 H, .slice ao pix.length cap] 24)) #[.int .i64 vx, .int .i64 vy] 26)
  simp only [World.size_alloc] at BW
  have cm := fun w hv => pmay_any (.agg #[.int .i64 W, .int .i64 H, .slice ao pix.length cap]) W H pix w hv
  rw [hb] at cm
  have CM := Lib.hid cm
  clear hv hpi cm hb
  rcases hn with rfl | rfl
  · go_enter Tryd.func14, Tryd.ntmps14
    go_wp2_with fail
    refine (CM.out _ (HV.out.ext (by go_grown))).mono ?_
    rintro e w1 ⟨rfl, hb1⟩
    have g1 : Below w.heap.size w w1 := ext (by go_grown) hb1
    go_wp2
    go_returns
    exact ⟨rfl, g1⟩
  · go_enter Tryd.func14, Tryd.ntmps14
    go_wp2_with fail
    refine (CM.out _ (HV.out.ext (by go_grown))).mono ?_
    rintro e w1 ⟨rfl, hb1⟩
    have g1 : Below w.heap.size w w1 := ext (by go_grown) hb1
    go_wp2
    go_returns
    exact ⟨rfl, g1⟩
set_option maxRecDepth 100000 in
set_option maxHeartbeats 2000000 in
theorem pblock_w5 (fv : Value) (W H : Int) (pix : List Int) (x y n vx vy : Int) (w : World) (hv : FrameV w fv W H pix) (hb : mayB W H pix = true) (hn : n = 4 ∨ n = 8) (k0 : ¬ x < 0) (k1 : ¬ 32 < x) (k2 : ¬ y < 0) (k3 : 32 < y) :
    Calls Tryd.prog 14 #[fv, .int .i64 x, .int .i64 y, .int .i64 n, .agg #[.int .i64 vx, .int .i64 vy]] w fun e w' => e = .returned (.slice none 0 0) ∧ Below w.heap.size w w' := by
  have HV := Lib.hid hv
  obtain ⟨ao, cap, rfl, hpi⟩ := hv.cells
  have BF := Lib.hid ((Blk.new w #[.int .i64 W, .int .i64 H, .slice ao pix.length cap] 24).alloc (.cells #[.int .i64 vx, .int .i64 vy] 26))
  have BW := Lib.hid (Blk.new (w.alloc (.cells #[.int .i64 W, .int .i64 H, .slice ao pix.length cap] 24)) #[.int .i64 vx, .int .i64 vy] 26)
  simp only [World.size_alloc] at BW
  have cm := fun w hv => pmay_any (.agg #[.int .i64 W, .int .i64 H, .slice ao pix.length cap]) W H pix w hv
  rw [hb] at cm
  have CM := Lib.hid cm
  clear hv hpi cm hb
  rcases hn with rfl | rfl
  · go_enter Tryd.func14, Tryd.ntmps14
    go_wp2_with fail
    refine (CM.out _ (HV.out.ext (by go_grown))).mono ?_
    rintro e w1 ⟨rfl, hb1⟩
    have g1 : Below w.heap.size w w1 := ext (by go_grown) hb1
    go_wp2
    go_returns
    exact ⟨rfl, g1⟩
  · go_enter Tryd.func14, Tryd.ntmps14
    go_wp2_with fail
    refine (CM.out _ (HV.out.ext (by go_grown))).mono ?_
    rintro e w1 ⟨rfl, hb1⟩
    have g1 : Below w.heap.size w w1 := ext (by go_grown) hb1
    go_wp2
    go_returns
    exact ⟨rfl, g1⟩
set_option maxRecDepth 100000 in
set_option maxHeartbeats 2000000 in
theorem pblock_w6 (fv : Value) (W H : Int) (pix : List Int) (x y n vx vy : Int) (w : World) (hv : FrameV w fv W H pix) (hb : mayB W H pix = true) (hn : n = 4 ∨ n = 8) (k0 : ¬ x < 0) (k1 : ¬ 32 < x) (k2 : ¬ y < 0) (k3 : ¬ 32 < y) (k4 : vecB vx vy = false) :
    Calls Tryd.prog 14 #[fv, .int .i64 x, .int .i64 y, .int .i64 n, .agg #[.int .i64 vx, .int .i64 vy]] w fun e w' => e = .returned (.slice none 0 0) ∧ Below w.heap.size w w' := by
  have HV := Lib.hid hv
  obtain ⟨ao, cap, rfl, hpi⟩ := hv.cells
  have BF := Lib.hid ((Blk.new w #[.int .i64 W, .int .i64 H, .slice ao pix.length cap] 24).alloc (.cells #[.int .i64 vx, .int .i64 vy] 26))
  have BW := Lib.hid (Blk.new (w.alloc (.cells #[.int .i64 W, .int .i64 H, .slice ao pix.length cap] 24)) #[.int .i64 vx, .int .i64 vy] 26)
  simp only [World.size_alloc] at BW
  have cm := fun w hv => pmay_any (.agg #[.int .i64 W, .int .i64 H, .slice ao pix.length cap]) W H pix w hv
  rw [hb] at cm
  have CM := Lib.hid cm
  have cw := fun w => pvec_any vx vy w
  rw [k4] at cw
  have CW := Lib.hid cw
  clear cw k4
  clear hv hpi cm hb
  rcases hn with rfl | rfl
  · go_enter Tryd.func14, Tryd.ntmps14
    go_wp2_with fail
    refine (CM.out _ (HV.out.ext (by go_grown))).mono ?_
    rintro e w1 ⟨rfl, hb1⟩
    have g1 : Below w.heap.size w w1 := ext (by go_grown) hb1
    obtain ⟨d0, d1, -, -⟩ := (BW.out.ext hb1).two
    go_wp2_with fail
    clear d0 d1
    refine (CW.out _).mono ?_
    rintro e w2 ⟨rfl, hb2⟩
    have g2 : Below w.heap.size w w2 := ext g1 (ext (by go_grown) hb2)
    go_wp2
    go_returns
    exact ⟨rfl, g2⟩
  · go_enter Tryd.func14, Tryd.ntmps14
    go_wp2_with fail
    refine (CM.out _ (HV.out.ext (by go_grown))).mono ?_
    rintro e w1 ⟨rfl, hb1⟩
    have g1 : Below w.heap.size w w1 := ext (by go_grown) hb1
    obtain ⟨d0, d1, -, -⟩ := (BW.out.ext hb1).two
    go_wp2_with fail
    clear d0 d1
    refine (CW.out _).mono ?_
    rintro e w2 ⟨rfl, hb2⟩
    have g2 : Below w.heap.size w w2 := ext g1 (ext (by go_grown) hb2)
    go_wp2
    go_returns
    exact ⟨rfl, g2⟩
set_option maxRecDepth 100000 in
set_option maxHeartbeats 2000000 in
theorem pblock_ok4 (fv : Value) (W H : Int) (pix : List Int) (x y vx vy : Int) (w : World) (hv : FrameV w fv W H pix) (hb : mayB W H pix = true) (k0 : ¬ x < 0) (k1 : ¬ 32 < x) (k2 : ¬ y < 0) (k3 : ¬ 32 < y) (k4 : vecB vx vy = true) :
    Calls Tryd.prog 14 #[fv, .int .i64 x, .int .i64 y, .int .i64 4, .agg #[.int .i64 vx, .int .i64 vy]] w fun e w' => ∃ v', e = .returned v' ∧ OwnInts w' w.heap.size v' (sqV W H pix x y 4 vx vy) ∧ Below w.heap.size w w' := by
  obtain ⟨⟨a1, a2⟩, b1, b2⟩ := vecB_iff.1 k4
  have hm := mayB_iff.1 hb
  have HV := Lib.hid hv
  obtain ⟨ao, cap, rfl, hpi⟩ := hv.cells
  have BF := Lib.hid ((Blk.new w #[.int .i64 W, .int .i64 H, .slice ao pix.length cap] 24).alloc (.cells #[.int .i64 vx, .int .i64 vy] 26))
  have BW := Lib.hid (Blk.new (w.alloc (.cells #[.int .i64 W, .int .i64 H, .slice ao pix.length cap] 24)) #[.int .i64 vx, .int .i64 vy] 26)
  simp only [World.size_alloc] at BW
  have cm := fun w hv => pmay_any (.agg #[.int .i64 W, .int .i64 H, .slice ao pix.length cap]) W H pix w hv
  rw [hb] at cm
  have CM := Lib.hid cm
  have CS := Lib.hid (fun w hv => psquare_any (.agg #[.int .i64 W, .int .i64 H, .slice ao pix.length cap]) W H pix x y 4 vx vy w hv hm (by omega) (by omega) (by omega) (by omega) (by omega) (by omega) a1 a2 b1 b2)
  have cw := fun w => pvec_any vx vy w
  rw [k4] at cw
  have CW := Lib.hid cw
  clear cw k4 hv hpi cm hb hm a1 a2 b1 b2
  go_enter Tryd.func14, Tryd.ntmps14
  go_wp2_with fail
  refine (CM.out _ (HV.out.ext (by go_grown))).mono ?_
  rintro e w1 ⟨rfl, hb1⟩
  have g1 : Below w.heap.size w w1 := ext (by go_grown) hb1
  obtain ⟨d0, d1, -, -⟩ := (BW.out.ext hb1).two
  go_wp2_with fail
  clear d0 d1
  refine (CW.out _).mono ?_
  rintro e w2 ⟨rfl, hb2⟩
  have j2 : Below w1.heap.size w1 w2 := ext (by go_grown) hb2
  have g2 : Below w.heap.size w w2 := ext g1 j2
  have BF2 := Lib.hid ((BF.out.ext hb1).ext j2)
  have BW2 := Lib.hid ((BW.out.ext hb1).ext j2)
  have l2 := BW2.out.lt
  clear hb2
  obtain ⟨c0, c1, c2, -, -, -⟩ := BF2.out.three
  obtain ⟨d0, d1, -, -⟩ := BW2.out.two
  go_wp2_with fail
  clear c0 c1 c2 d0 d1
  refine (CS.out _ (HV.out.ext g2)).mono ?_
  rintro e w3 ⟨v3, rfl, hown, hb3⟩
  have HO := Lib.hid (hown.mono g2.size)
  clear hown
  go_wp2
  go_returns
  exact ⟨_, rfl, HO.out, ext g2 hb3⟩
set_option maxRecDepth 100000 in
set_option maxHeartbeats 2000000 in
theorem pblock_ok8 (fv : Value) (W H : Int) (pix : List Int) (x y vx vy : Int) (w : World) (hv : FrameV w fv W H pix) (hb : mayB W H pix = true) (k0 : ¬ x < 0) (k1 : ¬ 32 < x) (k2 : ¬ y < 0) (k3 : ¬ 32 < y) (k4 : vecB vx vy = true) :
    Calls Tryd.prog 14 #[fv, .int .i64 x, .int .i64 y, .int .i64 8, .agg #[.int .i64 vx, .int .i64 vy]] w fun e w' => ∃ v', e = .returned v' ∧ OwnInts w' w.heap.size v' (sqV W H pix x y 8 vx vy) ∧ Below w.heap.size w w' := by
  obtain ⟨⟨a1, a2⟩, b1, b2⟩ := vecB_iff.1 k4
  have hm := mayB_iff.1 hb
  have HV := Lib.hid hv
  obtain ⟨ao, cap, rfl, hpi⟩ := hv.cells
  have BF := Lib.hid ((Blk.new w #[.int .i64 W, .int .i64 H, .slice ao pix.length cap] 24).alloc (.cells #[.int .i64 vx, .int .i64 vy] 26))
  have BW := Lib.hid (Blk.new (w.alloc (.cells #[.int .i64 W, .int .i64 H, .slice ao pix.length cap] 24)) #[.int .i64 vx, .int .i64 vy] 26)
  simp only [World.size_alloc] at BW
  have cm := fun w hv => pmay_any (.agg #[.int .i64 W, .int .i64 H, .slice ao pix.length cap]) W H pix w hv
  rw [hb] at cm
  have CM := Lib.hid cm
  have CS := Lib.hid (fun w hv => psquare_any (.agg #[.int .i64 W, .int .i64 H, .slice ao pix.length cap]) W H pix x y 8 vx vy w hv hm (by omega) (by omega) (by omega) (by omega) (by omega) (by omega) a1 a2 b1 b2)
  have cw := fun w => pvec_any vx vy w
  rw [k4] at cw
  have CW := Lib.hid cw
  clear cw k4 hv hpi cm hb hm a1 a2 b1 b2
  go_enter Tryd.func14, Tryd.ntmps14
  go_wp2_with fail
  refine (CM.out _ (HV.out.ext (by go_grown))).mono ?_
  rintro e w1 ⟨rfl, hb1⟩
  have g1 : Below w.heap.size w w1 := ext (by go_grown) hb1
  obtain ⟨d0, d1, -, -⟩ := (BW.out.ext hb1).two
  go_wp2_with fail
  clear d0 d1
  refine (CW.out _).mono ?_
  rintro e w2 ⟨rfl, hb2⟩
  have j2 : Below w1.heap.size w1 w2 := ext (by go_grown) hb2
  have g2 : Below w.heap.size w w2 := ext g1 j2
  have BF2 := Lib.hid ((BF.out.ext hb1).ext j2)
  have BW2 := Lib.hid ((BW.out.ext hb1).ext j2)
  have l2 := BW2.out.lt
  clear hb2
  obtain ⟨c0, c1, c2, -, -, -⟩ := BF2.out.three
  obtain ⟨d0, d1, -, -⟩ := BW2.out.two
  go_wp2_with fail
  clear c0 c1 c2 d0 d1
  refine (CS.out _ (HV.out.ext g2)).mono ?_
  rintro e w3 ⟨v3, rfl, hown, hb3⟩
  have HO := Lib.hid (hown.mono g2.size)
  clear hown
  go_wp2
  go_returns
  exact ⟨_, rfl, HO.out, ext g2 hb3⟩
theorem pblock_any (fv : Value) (W H : Int) (pix : List Int) (x y n vx vy : Int) (w : World) (hv : FrameV w fv W H pix) :
    Calls Tryd.prog 14 #[fv, .int .i64 x, .int .i64 y, .int .i64 n, .agg #[.int .i64 vx, .int .i64 vy]] w fun e w' => ∃ v', e = .returned v' ∧ OwnInts w' w.heap.size v' (blkV W H pix x y n vx vy) ∧ Below w.heap.size w w' := by
  have nope : ∀ {P : World → Prop}, blkB W H pix x y n vx vy = false → Calls Tryd.prog 14 #[fv, .int .i64 x, .int .i64 y, .int .i64 n, .agg #[.int .i64 vx, .int .i64 vy]] w (fun e w' => e = .returned (.slice none 0 0) ∧ Below w.heap.size w w') →
      Calls Tryd.prog 14 #[fv, .int .i64 x, .int .i64 y, .int .i64 n, .agg #[.int .i64 vx, .int .i64 vy]] w fun e w' => ∃ v', e = .returned v' ∧ OwnInts w' w.heap.size v' (blkV W H pix x y n vx vy) ∧ Below w.heap.size w w' := by
    intro _ h c
    rw [blkV_no h]
    exact c.mono fun e w' ⟨he, hb⟩ => ⟨_, he, OwnInts.nil _ _, hb⟩
  cases hb : mayB W H pix with
  | false => exact nope (P := fun _ => True) (by unfold blkB; rw [hb]; rfl) (pblock_w0 fv W H pix x y n vx vy w hv hb)
  | true =>
    have hm := mayB_iff.1 hb
    have no : ¬ (May W H pix ∧ (n = 4 ∨ n = 8) ∧ (0 ≤ x ∧ x ≤ 32) ∧ (0 ≤ y ∧ y ≤ 32) ∧ vecB vx vy = true) → blkB W H pix x y n vx vy = false := fun h => by
      cases e : blkB W H pix x y n vx vy with
      | false => rfl
      | true => exact absurd (blkB_iff.1 e) h
    by_cases hn : n = 4 ∨ n = 8
    · by_cases k0 : x < 0
      · exact nope (P := fun _ => True) (no (fun q => by omega)) (pblock_w2 fv W H pix x y n vx vy w hv hb hn k0)
      · by_cases k1 : 32 < x
        · exact nope (P := fun _ => True) (no (fun q => by omega)) (pblock_w3 fv W H pix x y n vx vy w hv hb hn k0 k1)
        · by_cases k2 : y < 0
          · exact nope (P := fun _ => True) (no (fun q => by omega)) (pblock_w4 fv W H pix x y n vx vy w hv hb hn k0 k1 k2)
          · by_cases k3 : 32 < y
            · exact nope (P := fun _ => True) (no (fun q => by omega)) (pblock_w5 fv W H pix x y n vx vy w hv hb hn k0 k1 k2 k3)
            · cases k4 : vecB vx vy with
              | false => exact nope (P := fun _ => True) (no (fun q => by rw [k4] at q; exact absurd q.2.2.2.2 (by decide))) (pblock_w6 fv W H pix x y n vx vy w hv hb hn k0 k1 k2 k3 k4)
              | true =>
                rw [blkV_yes (blkB_iff.2 ⟨hm, hn, by omega, by omega, k4⟩)]
                rcases hn with rfl | rfl
                · exact pblock_ok4 fv W H pix x y vx vy w hv hb k0 k1 k2 k3 k4
                · exact pblock_ok8 fv W H pix x y vx vy w hv hb k0 k1 k2 k3 k4
    · exact nope (P := fun _ => True) (no (fun q => by omega)) (pblock_w1 fv W H pix x y n vx vy w hv hb (by omega))
set_option maxRecDepth 100000 in
set_option maxHeartbeats 2000000 in
theorem rblock_w0 (fv : Value) (W H : Int) (pix : List Int) (x y n vx vy : Int) (w : World) (hv : FrameV w fv W H pix) (hb : mayB W H pix = false) :
    Calls Tryd.prog 15 #[fv, .int .i64 x, .int .i64 y, .int .i64 n, .agg #[.int .i64 vx, .int .i64 vy]] w fun e w' => e = .returned (.slice none 0 0) ∧ Below w.heap.size w w' := by
  have HV := Lib.hid hv
  obtain ⟨ao, cap, rfl, hpi⟩ := hv.cells
  have BF := Lib.hid ((Blk.new w #[.int .i64 W, .int .i64 H, .slice ao pix.length cap] 24).alloc (.cells #[.int .i64 vx, .int .i64 vy] 26))
  have BW := Lib.hid (Blk.new (w.alloc (.cells #[.int .i64 W, .int .i64 H, .slice ao pix.length cap] 24)) #[.int .i64 vx, .int .i64 vy] 26)
  simp only [World.size_alloc] at BW
  have cm := fun w hv => rmay_any (.agg #[.int .i64 W, .int .i64 H, .slice ao pix.length cap]) W H pix w hv
  rw [hb] at cm
  have CM := Lib.hid cm
  clear hv hpi cm hb
  go_enter Tryd.func15, Tryd.ntmps15
  go_wp2_with fail
  refine (CM.out _ (HV.out.ext (by go_grown))).mono ?_
  rintro e w1 ⟨rfl, hb1⟩
  have g1 : Below w.heap.size w w1 := ext (by go_grown) hb1
  go_wp2
  go_returns
  exact ⟨rfl, g1⟩
set_option maxRecDepth 100000 in
set_option maxHeartbeats 2000000 in
theorem rblock_w1 (fv : Value) (W H : Int) (pix : List Int) (x y n vx vy : Int) (w : World) (hv : FrameV w fv W H pix) (hb : mayB W H pix = true) (hn : n ≠ 4 ∧ n ≠ 8) :
    Calls Tryd.prog 15 #[fv, .int .i64 x, .int .i64 y, .int .i64 n, .agg #[.int .i64 vx, .int .i64 vy]] w fun e w' => e = .returned (.slice none 0 0) ∧ Below w.heap.size w w' := by
  have HV := Lib.hid hv
  obtain ⟨ao, cap, rfl, hpi⟩ := hv.cells
  have BF := Lib.hid ((Blk.new w #[.int .i64 W, .int .i64 H, .slice ao pix.length cap] 24).alloc (.cells #[.int .i64 vx, .int .i64 vy] 26))
  have BW := Lib.hid (Blk.new (w.alloc (.cells #[.int .i64 W, .int .i64 H, .slice ao pix.length cap] 24)) #[.int .i64 vx, .int .i64 vy] 26)
  simp only [World.size_alloc] at BW
  have cm := fun w hv => rmay_any (.agg #[.int .i64 W, .int .i64 H, .slice ao pix.length cap]) W H pix w hv
  rw [hb] at cm
  have CM := Lib.hid cm
  clear hv hpi cm hb
  have q1 : (n != 4) = true := by simp; omega
  have q2 : (n != 8) = true := by simp; omega
  clear hn
  go_enter Tryd.func15, Tryd.ntmps15
  go_wp2_with fail
  refine (CM.out _ (HV.out.ext (by go_grown))).mono ?_
  rintro e w1 ⟨rfl, hb1⟩
  have g1 : Below w.heap.size w w1 := ext (by go_grown) hb1
  go_wp2
  go_returns
  exact ⟨rfl, g1⟩
set_option maxRecDepth 100000 in
set_option maxHeartbeats 2000000 in
theorem rblock_w2 (fv : Value) (W H : Int) (pix : List Int) (x y n vx vy : Int) (w : World) (hv : FrameV w fv W H pix) (hb : mayB W H pix = true) (hn : n = 4 ∨ n = 8) (k0 : x < 0) :
    Calls Tryd.prog 15 #[fv, .int .i64 x, .int .i64 y, .int .i64 n, .agg #[.int .i64 vx, .int .i64 vy]] w fun e w' => e = .returned (.slice none 0 0) ∧ Below w.heap.size w w' := by
  have HV := Lib.hid hv
  obtain ⟨ao, cap, rfl, hpi⟩ := hv.cells
  have BF := Lib.hid ((Blk.new w #[.int .i64 W, .int .i64 H, .slice ao pix.length cap] 24).alloc (.cells #[.int .i64 vx, .int .i64 vy] 26))
  have BW := Lib.hid (Blk.new (w.alloc (.cells #[.int .i64 W, .int .i64 H, .slice ao pix.length cap] 24)) #[.int .i64 vx, .int .i64 vy] 26)
  simp only [World.size_alloc] at BW
  have cm := fun w hv => rmay_any (.agg #[.int .i64 W, .int .i64 H, .slice ao pix.length cap]) W H pix w hv
  rw [hb] at cm
  have CM := Lib.hid cm
  clear hv hpi cm hb
  rcases hn with rfl | rfl
  · go_enter Tryd.func15, Tryd.ntmps15
    go_wp2_with fail
    refine (CM.out _ (HV.out.ext (by go_grown))).mono ?_
    rintro e w1 ⟨rfl, hb1⟩
    have g1 : Below w.heap.size w w1 := ext (by go_grown) hb1
    go_wp2
    go_returns
    exact ⟨rfl, g1⟩
  · go_enter Tryd.func15, Tryd.ntmps15
    go_wp2_with fail
    refine (CM.out _ (HV.out.ext (by go_grown))).mono ?_
    rintro e w1 ⟨rfl, hb1⟩
    have g1 : Below w.heap.size w w1 := ext (by go_grown) hb1
    go_wp2
    go_returns
    exact ⟨rfl, g1⟩
set_option maxRecDepth 100000 in
set_option maxHeartbeats 2000000 in
theorem rblock_w3 (fv : Value) (W H : Int) (pix : List Int) (x y n vx vy : Int) (w : World) (hv : FrameV w fv W H pix) (hb : mayB W H pix = true) (hn : n = 4 ∨ n = 8) (k0 : ¬ x < 0) (k1 : 32 < x) :
    Calls Tryd.prog 15 #[fv, .int .i64 x, .int .i64 y, .int .i64 n, .agg #[.int .i64 vx, .int .i64 vy]] w fun e w' => e = .returned (.slice none 0 0) ∧ Below w.heap.size w w' := by
  have HV := Lib.hid hv
  obtain ⟨ao, cap, rfl, hpi⟩ := hv.cells
  have BF := Lib.hid ((Blk.new w #[.int .i64 W, .int .i64 H, .slice ao pix.length cap] 24).alloc (.cells #[.int .i64 vx, .int .i64 vy] 26))
  have BW := Lib.hid (Blk.new (w.alloc (.cells #[.int .i64 W, .int .i64 H, .slice ao pix.length cap] 24)) #[.int .i64 vx, .int .i64 vy] 26)
  simp only [World.size_alloc] at BW
  have cm := fun w hv => rmay_any (.agg #[.int .i64 W, .int .i64 H, .slice ao pix.length cap]) W H pix w hv
  rw [hb] at cm
  have CM := Lib.hid cm
  clear hv hpi cm hb
  rcases hn with rfl | rfl
  · go_enter Tryd.func15, Tryd.ntmps15
    go_wp2_with fail
    refine (CM.out _ (HV.out.ext (by go_grown))).mono ?_
    rintro e w1 ⟨rfl, hb1⟩
    have g1 : Below w.heap.size w w1 := ext (by go_grown) hb1
    go_wp2
    go_returns
    exact ⟨rfl, g1⟩
  · go_enter Tryd.func15, Tryd.ntmps15
    go_wp2_with fail
    refine (CM.out _ (HV.out.ext (by go_grown))).mono ?_
    rintro e w1 ⟨rfl, hb1⟩
    have g1 : Below w.heap.size w w1 := ext (by go_grown) hb1
    go_wp2
    go_returns
    exact ⟨rfl, g1⟩
set_option maxRecDepth 100000 in
set_option maxHeartbeats 2000000 in
theorem rblock_w4 (fv : Value) (W H : Int) (pix : List Int) (x y n vx vy : Int) (w : World) (hv : FrameV w fv W H pix) (hb : mayB W H pix = true) (hn : n = 4 ∨ n = 8) (k0 : ¬ x < 0) (k1 : ¬ 32 < x) (k2 : y < 0) :
    Calls Tryd.prog 15 #[fv, .int .i64 x, .int .i64 y, .int .i64 n, .agg #[.int .i64 vx, .int .i64 vy]] w fun e w' => e = .returned (.slice none 0 0) ∧ Below w.heap.size w w' := by
  have HV := Lib.hid hv
  obtain ⟨ao, cap, rfl, hpi⟩ := hv.cells
  have BF := Lib.hid ((Blk.new w #[.int .i64 W, .int .i64 H, .slice ao pix.length cap] 24).alloc (.cells #[.int .i64 vx, .int .i64 vy] 26))
  have BW := Lib.hid (Blk.new (w.alloc (.cells #[.int .i64 W, .int .i64 H, .slice ao pix.length cap] 24)) #[.int .i64 vx, .int .i64 vy] 26)
  simp only [World.size_alloc] at BW
  have cm := fun w hv => rmay_any (.agg #[.int .i64 W, .int .i64 H, .slice ao pix.length cap]) W H pix w hv
  rw [hb] at cm
  have CM := Lib.hid cm
  clear hv hpi cm hb
  rcases hn with rfl | rfl
  · go_enter Tryd.func15, Tryd.ntmps15
    go_wp2_with fail
    refine (CM.out _ (HV.out.ext (by go_grown))).mono ?_
    rintro e w1 ⟨rfl, hb1⟩
    have g1 : Below w.heap.size w w1 := ext (by go_grown) hb1
    go_wp2
    go_returns
    exact ⟨rfl, g1⟩
  · go_enter Tryd.func15, Tryd.ntmps15
    go_wp2_with fail
    refine (CM.out _ (HV.out.ext (by go_grown))).mono ?_
    rintro e w1 ⟨rfl, hb1⟩
    have g1 : Below w.heap.size w w1 := ext (by go_grown) hb1
    go_wp2
    go_returns
    exact ⟨rfl, g1⟩
set_option maxRecDepth 100000 in
set_option maxHeartbeats 2000000 in
theorem rblock_w5 (fv : Value) (W H : Int) (pix : List Int) (x y n vx vy : Int) (w : World) (hv : FrameV w fv W H pix) (hb : mayB W H pix = true) (hn : n = 4 ∨ n = 8) (k0 : ¬ x < 0) (k1 : ¬ 32 < x) (k2 : ¬ y < 0) (k3 : 32 < y) :
    Calls Tryd.prog 15 #[fv, .int .i64 x, .int .i64 y, .int .i64 n, .agg #[.int .i64 vx, .int .i64 vy]] w fun e w' => e = .returned (.slice none 0 0) ∧ Below w.heap.size w w' := by
  have HV := Lib.hid hv
  obtain ⟨ao, cap, rfl, hpi⟩ := hv.cells
  have BF := Lib.hid ((Blk.new w #[.int .i64 W, .int .i64 H, .slice ao pix.length cap] 24).alloc (.cells #[.int .i64 vx, .int .i64 vy] 26))
  have BW := Lib.hid (Blk.new (w.alloc (.cells #[.int .i64 W, .int .i64 H, .slice ao pix.length cap] 24)) #[.int .i64 vx, .int .i64 vy] 26)
  simp only [World.size_alloc] at BW
  have cm := fun w hv => rmay_any (.agg #[.int .i64 W, .int .i64 H, .slice ao pix.length cap]) W H pix w hv
  rw [hb] at cm
  have CM := Lib.hid cm
  clear hv hpi cm hb
  rcases hn with rfl | rfl
  · go_enter Tryd.func15, Tryd.ntmps15
    go_wp2_with fail
    refine (CM.out _ (HV.out.ext (by go_grown))).mono ?_
    rintro e w1 ⟨rfl, hb1⟩
    have g1 : Below w.heap.size w w1 := ext (by go_grown) hb1
    go_wp2
    go_returns
    exact ⟨rfl, g1⟩
  · go_enter Tryd.func15, Tryd.ntmps15
    go_wp2_with fail
    refine (CM.out _ (HV.out.ext (by go_grown))).mono ?_
    rintro e w1 ⟨rfl, hb1⟩
    have g1 : Below w.heap.size w w1 := ext (by go_grown) hb1
    go_wp2
    go_returns
    exact ⟨rfl, g1⟩
set_option maxRecDepth 100000 in
set_option maxHeartbeats 2000000 in
theorem rblock_w6 (fv : Value) (W H : Int) (pix : List Int) (x y n vx vy : Int) (w : World) (hv : FrameV w fv W H pix) (hb : mayB W H pix = true) (hn : n = 4 ∨ n = 8) (k0 : ¬ x < 0) (k1 : ¬ 32 < x) (k2 : ¬ y < 0) (k3 : ¬ 32 < y) (k4 : vecB vx vy = false) :
    Calls Tryd.prog 15 #[fv, .int .i64 x, .int .i64 y, .int .i64 n, .agg #[.int .i64 vx, .int .i64 vy]] w fun e w' => e = .returned (.slice none 0 0) ∧ Below w.heap.size w w' := by
  have HV := Lib.hid hv
  obtain ⟨ao, cap, rfl, hpi⟩ := hv.cells
  have BF := Lib.hid ((Blk.new w #[.int .i64 W, .int .i64 H, .slice ao pix.length cap] 24).alloc (.cells #[.int .i64 vx, .int .i64 vy] 26))
  have BW := Lib.hid (Blk.new (w.alloc (.cells #[.int .i64 W, .int .i64 H, .slice ao pix.length cap] 24)) #[.int .i64 vx, .int .i64 vy] 26)
  simp only [World.size_alloc] at BW
  have cm := fun w hv => rmay_any (.agg #[.int .i64 W, .int .i64 H, .slice ao pix.length cap]) W H pix w hv
  rw [hb] at cm
  have CM := Lib.hid cm
  have cw := fun w => rvec_any vx vy w
  rw [k4] at cw
  have CW := Lib.hid cw
  clear cw k4
  clear hv hpi cm hb
  rcases hn with rfl | rfl
  · go_enter Tryd.func15, Tryd.ntmps15
    go_wp2_with fail
    refine (CM.out _ (HV.out.ext (by go_grown))).mono ?_
    rintro e w1 ⟨rfl, hb1⟩
    have g1 : Below w.heap.size w w1 := ext (by go_grown) hb1
    obtain ⟨d0, d1, -, -⟩ := (BW.out.ext hb1).two
    go_wp2_with fail
    clear d0 d1
    refine (CW.out _).mono ?_
    rintro e w2 ⟨rfl, hb2⟩
    have g2 : Below w.heap.size w w2 := ext g1 (ext (by go_grown) hb2)
    go_wp2
    go_returns
    exact ⟨rfl, g2⟩
  · go_enter Tryd.func15, Tryd.ntmps15
    go_wp2_with fail
    refine (CM.out _ (HV.out.ext (by go_grown))).mono ?_
    rintro e w1 ⟨rfl, hb1⟩
    have g1 : Below w.heap.size w w1 := ext (by go_grown) hb1
    obtain ⟨d0, d1, -, -⟩ := (BW.out.ext hb1).two
    go_wp2_with fail
    clear d0 d1
    refine (CW.out _).mono ?_
    rintro e w2 ⟨rfl, hb2⟩
    have g2 : Below w.heap.size w w2 := ext g1 (ext (by go_grown) hb2)
    go_wp2
    go_returns
    exact ⟨rfl, g2⟩
set_option maxRecDepth 100000 in
set_option maxHeartbeats 4000000 in
theorem rblock_ok4 (fv : Value) (W H : Int) (pix : List Int) (x y vx vy : Int) (w : World) (hv : FrameV w fv W H pix) (hb : mayB W H pix = true) (k0 : ¬ x < 0) (k1 : ¬ 32 < x) (k2 : ¬ y < 0) (k3 : ¬ 32 < y) (k4 : vecB vx vy = true) :
    Calls Tryd.prog 15 #[fv, .int .i64 x, .int .i64 y, .int .i64 4, .agg #[.int .i64 vx, .int .i64 vy]] w fun e w' => ∃ v', e = .returned v' ∧ OwnInts w' w.heap.size v' (sqV W H pix x y 4 vx vy) ∧ Below w.heap.size w w' := by
  obtain ⟨⟨a1, a2⟩, b1, b2⟩ := vecB_iff.1 k4
  have hm := mayB_iff.1 hb
  have HV := Lib.hid hv
  obtain ⟨ao, cap, rfl, hpi⟩ := hv.cells
  have BF := Lib.hid ((Blk.new w #[.int .i64 W, .int .i64 H, .slice ao pix.length cap] 24).alloc (.cells #[.int .i64 vx, .int .i64 vy] 26))
  have BW := Lib.hid (Blk.new (w.alloc (.cells #[.int .i64 W, .int .i64 H, .slice ao pix.length cap] 24)) #[.int .i64 vx, .int .i64 vy] 26)
  simp only [World.size_alloc] at BW
  have cm := fun w hv => rmay_any (.agg #[.int .i64 W, .int .i64 H, .slice ao pix.length cap]) W H pix w hv
  rw [hb] at cm
  have CM := Lib.hid cm
  have CH := Lib.hid (fun hx hy w hv x1 x2 y1 y2 => rhalf_any (.agg #[.int .i64 W, .int .i64 H, .slice ao pix.length cap]) W H pix hx hy w hv hm x1 x2 y1 y2)
  have HB := Lib.hid (fun hx hy => halfV_bd hm hx hy)
  have HSQ := Lib.hid (fun k => show sqAt W H pix x y 4 vx vy k = halfV W H pix (2 * (x + (k % 4 : Nat)) + vx) (2 * (y + (k / 4 : Nat)) + vy) from rfl)
  have cw := fun w => rvec_any vx vy w
  rw [k4] at cw
  have CW := Lib.hid cw
  have x1 : 0 ≤ x := by omega
  have x2 : x ≤ 32 := by omega
  have y1 : 0 ≤ y := by omega
  have y2 : y ≤ 32 := by omega
  clear cw k4 hv hpi cm hb hm
  go_enter Tryd.func15, Tryd.ntmps15
  go_wp2_with fail
  refine (CM.out _ (HV.out.ext (by go_grown))).mono ?_
  rintro e w1 ⟨rfl, hb1⟩
  have g1 : Below w.heap.size w w1 := ext (by go_grown) hb1
  obtain ⟨d0, d1, -, -⟩ := (BW.out.ext hb1).two
  go_wp2_with fail
  clear d0 d1
  refine (CW.out _).mono ?_
  rintro e w2 ⟨rfl, hb2⟩
  have j2 : Below w1.heap.size w1 w2 := ext (by go_grown) hb2
  have g2 : Below w.heap.size w w2 := ext g1 j2
  have BF2 := Lib.hid ((BF.out.ext hb1).ext j2)
  have BW2 := Lib.hid ((BW.out.ext hb1).ext j2)
  have l2 := BW2.out.lt
  clear hb2
  go_wp2
  go_loopw [11, 12] (fun o i wr => ∃ k : Nat, k ≤ 16 ∧ i = .int .i64 k ∧ OwnInts wr (w.heap.size + 2) o (mapTo (sqAt W H pix x y 4 vx vy) k) ∧ Below w.heap.size w wr ∧ Blk wr w.heap.size #[.int .i64 W, .int .i64 H, .slice ao pix.length cap] 24 ∧ Blk wr (w.heap.size + 1) #[.int .i64 vx, .int .i64 vy] 26) (fun _ i _ => 16 - (intOf i).toNat)
  case atStart => exact ⟨0, Nat.zero_le _, rfl, OwnInts.nil _ _, g2, BF2.out, BW2.out⟩
  case round =>
    clear BF2 BW2 g2 l2
    obtain ⟨k, hk, rfl, hown, hbr, hF, hV⟩ := hrel
    have HO2 := Lib.hid hown
    have BF := Lib.hid hF
    have BW := Lib.hid hV
    have lF := hF.lt
    have lV := hV.lt
    clear hown hF hV
    by_cases hlt : k < 16
    · have q : decide ((k : Int) < 16) = true := by simp; omega
      have hgt := HSQ.out k
      have hms := mapTo_succ (sqAt W H pix x y 4 vx vy) k
      have hM := Nat.mod_lt k (show 0 < 4 by omega)
      have hD : k / 4 < 4 := Nat.div_lt_of_lt_mul (by omega)
      have qD0 : (k : Int) / 4 = ((k / 4 : Nat) : Int) := by simp
      have qT0 : Int.tmod (k : Int) 4 = ((k % 4 : Nat) : Int) := by rw [Int.tmod_eq_emod_of_nonneg (by omega)]; simp
      have qE0 : (k : Int) % 4 = ((k % 4 : Nat) : Int) := by simp
      have qF0 : Int.tdiv (k : Int) 4 = ((k / 4 : Nat) : Int) := by rw [Int.tdiv_eq_ediv_of_nonneg (by omega)]; simp
      generalize k % 4 = M at *
      generalize k / 4 = D at *
      have hbd := HB.out (2 * (x + M) + vx) (2 * (y + D) + vy)
      have Hlen := Lib.hid (show (mapTo (sqAt W H pix x y 4 vx vy) k).length ≤ 1099511627776 from by rw [length_mapTo]; omega)
      obtain ⟨A1, hA1⟩ : ∃ z, x + (M : Int) = z := ⟨_, rfl⟩
      obtain ⟨A2, hA2⟩ : ∃ z, 2 * A1 = z := ⟨_, rfl⟩
      obtain ⟨A3, hA3⟩ : ∃ z, A2 + vx = z := ⟨_, rfl⟩
      obtain ⟨B1, hB1⟩ : ∃ z, y + (D : Int) = z := ⟨_, rfl⟩
      obtain ⟨B2, hB2⟩ : ∃ z, 2 * B1 = z := ⟨_, rfl⟩
      obtain ⟨B3, hB3⟩ : ∃ z, B2 + vy = z := ⟨_, rfl⟩
      have p1 : IntKind.i64.wrap (x + (M : Int)) = A1 := by rw [IntWalk.i64_in _ (by omega)]; exact hA1
      have p2 : IntKind.i64.wrap (2 * A1) = A2 := by rw [IntWalk.i64_in _ (by omega)]; exact hA2
      have p3 : IntKind.i64.wrap (A2 + vx) = A3 := by rw [IntWalk.i64_in _ (by omega)]; exact hA3
      have p4 : IntKind.i64.wrap (y + (D : Int)) = B1 := by rw [IntWalk.i64_in _ (by omega)]; exact hB1
      have p5 : IntKind.i64.wrap (2 * B1) = B2 := by rw [IntWalk.i64_in _ (by omega)]; exact hB2
      have p6 : IntKind.i64.wrap (B2 + vy) = B3 := by rw [IntWalk.i64_in _ (by omega)]; exact hB3
      have p7 : IntKind.i64.wrap (D : Int) = D := IntWalk.i64_in _ (by omega)
      rw [hA1, hA2, hA3, hB1, hB2, hB3] at hgt hbd
      rw [hgt] at hms
      have HMS := Lib.hid hms
      have CC := Lib.hid (fun w hv => CH.out A3 B3 w hv (by omega) (by omega) (by omega) (by omega))
      clear hgt hms hA1 hA2 hA3 hB1 hB2 hB3
      generalize halfV W H pix A3 B3 = z at *
      have Hz := Lib.hid (show in64 z from by unfold in64; omega)
      clear hbd
      obtain ⟨c0, c1, c2, -, -, -⟩ := BF.out.three
      obtain ⟨d0, d1, -, -⟩ := BW.out.two
      go_wp2_with fail
      go_region_held3 (fun w' => w'.cell? ⟨w.heap.size, 0, none⟩ = some (.int .i64 W) ∧ w'.cell? ⟨w.heap.size, 1, none⟩ = some (.int .i64 H) ∧ w'.cell? ⟨w.heap.size, 2, none⟩ = some (.slice ao pix.length cap) ∧ w'.cell? ⟨w.heap.size + 1, 0, none⟩ = some (.int .i64 vx) ∧ w'.cell? ⟨w.heap.size + 1, 1, none⟩ = some (.int .i64 vy))
        (first | go_keep | exact ⟨BF4.out.three.1, BF4.out.three.2.1, BF4.out.three.2.2.1, BW4.out.two.1, BW4.out.two.2.1⟩ | exact ⟨BF3.out.three.1, BF3.out.three.2.1, BF3.out.three.2.2.1, BW3.out.two.1, BW3.out.two.2.1⟩)
        (first | (go_at_call 29; refine (CC.out _ ?_).mono ?_; exact HV.out.ext (ext hbr (by go_grown)); rintro e w3 ⟨rfl, hb3⟩; have j3 : Below wr.heap.size wr w3 := ext (by go_grown) hb3; have HO3 := Lib.hid (HO2.out.ext j3); have BF3 := Lib.hid (BF.out.ext j3); have BW3 := Lib.hid (BW.out.ext j3); have l3 := BW3.out.lt) | (refine step_app1 (by rfl) _ _ (by rfl) w3 (w.heap.size + 2) _ _ z (by rfl) HO3.out (by rfl) ?_ ?_ Hz.out Hlen.out ?_ ?_; exact heap_alloc_new _ _; go_grown; (try exact l3); intro v' w' hown' hb' hg'; have BF4 := Lib.hid (BF3.out.below hb' (Nat.lt_add_of_pos_right (by decide))); have BW4 := Lib.hid (BW3.out.below hb' (Nat.lt_succ_self _))))
      clear c0 c1 c2 d0 d1 p1 p2 p3 p4 p5 p6 p7 qD0 qT0 qE0 qF0
      have Hown' := Lib.hid hown'
      have g4 : Below w.heap.size w w' := (ext hbr j3).trans (hb'.mono (by omega))
      clear hown' HO2 HO3 BF BW BF3 BW3 hb3 hb' hg' j3
      go_wp2
      go_roundw
      case rel => exact ⟨k + 1, by omega, by go_num, by rw [HMS.out]; exact Hown'.out, g4, BF4.out, BW4.out⟩
      case measure => simp [intOf]; omega
    · have e : k = 16 := by omega
      have HO3 := Lib.hid (show OwnInts wr (w.heap.size + 2) _ (sqV W H pix x y 4 vx vy) from by rw [e] at HO2; exact HO2.out)
      clear HO2
      have q : decide ((k : Int) < 16) = false := by simp; omega
      clear e
      go_wp2
      go_returns
      exact ⟨_, rfl, HO3.out.mono (by omega), hbr⟩
set_option maxRecDepth 100000 in
set_option maxHeartbeats 4000000 in
theorem rblock_ok8 (fv : Value) (W H : Int) (pix : List Int) (x y vx vy : Int) (w : World) (hv : FrameV w fv W H pix) (hb : mayB W H pix = true) (k0 : ¬ x < 0) (k1 : ¬ 32 < x) (k2 : ¬ y < 0) (k3 : ¬ 32 < y) (k4 : vecB vx vy = true) :
    Calls Tryd.prog 15 #[fv, .int .i64 x, .int .i64 y, .int .i64 8, .agg #[.int .i64 vx, .int .i64 vy]] w fun e w' => ∃ v', e = .returned v' ∧ OwnInts w' w.heap.size v' (sqV W H pix x y 8 vx vy) ∧ Below w.heap.size w w' := by
  obtain ⟨⟨a1, a2⟩, b1, b2⟩ := vecB_iff.1 k4
  have hm := mayB_iff.1 hb
  have HV := Lib.hid hv
  obtain ⟨ao, cap, rfl, hpi⟩ := hv.cells
  have BF := Lib.hid ((Blk.new w #[.int .i64 W, .int .i64 H, .slice ao pix.length cap] 24).alloc (.cells #[.int .i64 vx, .int .i64 vy] 26))
  have BW := Lib.hid (Blk.new (w.alloc (.cells #[.int .i64 W, .int .i64 H, .slice ao pix.length cap] 24)) #[.int .i64 vx, .int .i64 vy] 26)
  simp only [World.size_alloc] at BW
  have cm := fun w hv => rmay_any (.agg #[.int .i64 W, .int .i64 H, .slice ao pix.length cap]) W H pix w hv
  rw [hb] at cm
  have CM := Lib.hid cm
  have CH := Lib.hid (fun hx hy w hv x1 x2 y1 y2 => rhalf_any (.agg #[.int .i64 W, .int .i64 H, .slice ao pix.length cap]) W H pix hx hy w hv hm x1 x2 y1 y2)
  have HB := Lib.hid (fun hx hy => halfV_bd hm hx hy)
  have HSQ := Lib.hid (fun k => show sqAt W H pix x y 8 vx vy k = halfV W H pix (2 * (x + (k % 8 : Nat)) + vx) (2 * (y + (k / 8 : Nat)) + vy) from rfl)
  have cw := fun w => rvec_any vx vy w
  rw [k4] at cw
  have CW := Lib.hid cw
  have x1 : 0 ≤ x := by omega
  have x2 : x ≤ 32 := by omega
  have y1 : 0 ≤ y := by omega
  have y2 : y ≤ 32 := by omega
  clear cw k4 hv hpi cm hb hm
  go_enter Tryd.func15, Tryd.ntmps15
  go_wp2_with fail
  refine (CM.out _ (HV.out.ext (by go_grown))).mono ?_
  rintro e w1 ⟨rfl, hb1⟩
  have g1 : Below w.heap.size w w1 := ext (by go_grown) hb1
  obtain ⟨d0, d1, -, -⟩ := (BW.out.ext hb1).two
  go_wp2_with fail
  clear d0 d1
  refine (CW.out _).mono ?_
  rintro e w2 ⟨rfl, hb2⟩
  have j2 : Below w1.heap.size w1 w2 := ext (by go_grown) hb2
  have g2 : Below w.heap.size w w2 := ext g1 j2
  have BF2 := Lib.hid ((BF.out.ext hb1).ext j2)
  have BW2 := Lib.hid ((BW.out.ext hb1).ext j2)
  have l2 := BW2.out.lt
  clear hb2
  go_wp2
  go_loopw [11, 12] (fun o i wr => ∃ k : Nat, k ≤ 64 ∧ i = .int .i64 k ∧ OwnInts wr (w.heap.size + 2) o (mapTo (sqAt W H pix x y 8 vx vy) k) ∧ Below w.heap.size w wr ∧ Blk wr w.heap.size #[.int .i64 W, .int .i64 H, .slice ao pix.length cap] 24 ∧ Blk wr (w.heap.size + 1) #[.int .i64 vx, .int .i64 vy] 26) (fun _ i _ => 64 - (intOf i).toNat)
  case atStart => exact ⟨0, Nat.zero_le _, rfl, OwnInts.nil _ _, g2, BF2.out, BW2.out⟩
  case round =>
    clear BF2 BW2 g2 l2
    obtain ⟨k, hk, rfl, hown, hbr, hF, hV⟩ := hrel
    have HO2 := Lib.hid hown
    have BF := Lib.hid hF
    have BW := Lib.hid hV
    have lF := hF.lt
    have lV := hV.lt
    clear hown hF hV
    by_cases hlt : k < 64
    · have q : decide ((k : Int) < 64) = true := by simp; omega
      have hgt := HSQ.out k
      have hms := mapTo_succ (sqAt W H pix x y 8 vx vy) k
      have hM := Nat.mod_lt k (show 0 < 8 by omega)
      have hD : k / 8 < 8 := Nat.div_lt_of_lt_mul (by omega)
      have qD0 : (k : Int) / 8 = ((k / 8 : Nat) : Int) := by simp
      have qT0 : Int.tmod (k : Int) 8 = ((k % 8 : Nat) : Int) := by rw [Int.tmod_eq_emod_of_nonneg (by omega)]; simp
      have qE0 : (k : Int) % 8 = ((k % 8 : Nat) : Int) := by simp
      have qF0 : Int.tdiv (k : Int) 8 = ((k / 8 : Nat) : Int) := by rw [Int.tdiv_eq_ediv_of_nonneg (by omega)]; simp
      generalize k % 8 = M at *
      generalize k / 8 = D at *
      have hbd := HB.out (2 * (x + M) + vx) (2 * (y + D) + vy)
      have Hlen := Lib.hid (show (mapTo (sqAt W H pix x y 8 vx vy) k).length ≤ 1099511627776 from by rw [length_mapTo]; omega)
      obtain ⟨A1, hA1⟩ : ∃ z, x + (M : Int) = z := ⟨_, rfl⟩
      obtain ⟨A2, hA2⟩ : ∃ z, 2 * A1 = z := ⟨_, rfl⟩
      obtain ⟨A3, hA3⟩ : ∃ z, A2 + vx = z := ⟨_, rfl⟩
      obtain ⟨B1, hB1⟩ : ∃ z, y + (D : Int) = z := ⟨_, rfl⟩
      obtain ⟨B2, hB2⟩ : ∃ z, 2 * B1 = z := ⟨_, rfl⟩
      obtain ⟨B3, hB3⟩ : ∃ z, B2 + vy = z := ⟨_, rfl⟩
      have p1 : IntKind.i64.wrap (x + (M : Int)) = A1 := by rw [IntWalk.i64_in _ (by omega)]; exact hA1
      have p2 : IntKind.i64.wrap (2 * A1) = A2 := by rw [IntWalk.i64_in _ (by omega)]; exact hA2
      have p3 : IntKind.i64.wrap (A2 + vx) = A3 := by rw [IntWalk.i64_in _ (by omega)]; exact hA3
      have p4 : IntKind.i64.wrap (y + (D : Int)) = B1 := by rw [IntWalk.i64_in _ (by omega)]; exact hB1
      have p5 : IntKind.i64.wrap (2 * B1) = B2 := by rw [IntWalk.i64_in _ (by omega)]; exact hB2
      have p6 : IntKind.i64.wrap (B2 + vy) = B3 := by rw [IntWalk.i64_in _ (by omega)]; exact hB3
      have p7 : IntKind.i64.wrap (D : Int) = D := IntWalk.i64_in _ (by omega)
      rw [hA1, hA2, hA3, hB1, hB2, hB3] at hgt hbd
      rw [hgt] at hms
      have HMS := Lib.hid hms
      have CC := Lib.hid (fun w hv => CH.out A3 B3 w hv (by omega) (by omega) (by omega) (by omega))
      clear hgt hms hA1 hA2 hA3 hB1 hB2 hB3
      generalize halfV W H pix A3 B3 = z at *
      have Hz := Lib.hid (show in64 z from by unfold in64; omega)
      clear hbd
      obtain ⟨c0, c1, c2, -, -, -⟩ := BF.out.three
      obtain ⟨d0, d1, -, -⟩ := BW.out.two
      go_wp2_with fail
      go_region_held3 (fun w' => w'.cell? ⟨w.heap.size, 0, none⟩ = some (.int .i64 W) ∧ w'.cell? ⟨w.heap.size, 1, none⟩ = some (.int .i64 H) ∧ w'.cell? ⟨w.heap.size, 2, none⟩ = some (.slice ao pix.length cap) ∧ w'.cell? ⟨w.heap.size + 1, 0, none⟩ = some (.int .i64 vx) ∧ w'.cell? ⟨w.heap.size + 1, 1, none⟩ = some (.int .i64 vy))
        (first | go_keep | exact ⟨BF4.out.three.1, BF4.out.three.2.1, BF4.out.three.2.2.1, BW4.out.two.1, BW4.out.two.2.1⟩ | exact ⟨BF3.out.three.1, BF3.out.three.2.1, BF3.out.three.2.2.1, BW3.out.two.1, BW3.out.two.2.1⟩)
        (first | (go_at_call 29; refine (CC.out _ ?_).mono ?_; exact HV.out.ext (ext hbr (by go_grown)); rintro e w3 ⟨rfl, hb3⟩; have j3 : Below wr.heap.size wr w3 := ext (by go_grown) hb3; have HO3 := Lib.hid (HO2.out.ext j3); have BF3 := Lib.hid (BF.out.ext j3); have BW3 := Lib.hid (BW.out.ext j3); have l3 := BW3.out.lt) | (refine step_app1 (by rfl) _ _ (by rfl) w3 (w.heap.size + 2) _ _ z (by rfl) HO3.out (by rfl) ?_ ?_ Hz.out Hlen.out ?_ ?_; exact heap_alloc_new _ _; go_grown; (try exact l3); intro v' w' hown' hb' hg'; have BF4 := Lib.hid (BF3.out.below hb' (Nat.lt_add_of_pos_right (by decide))); have BW4 := Lib.hid (BW3.out.below hb' (Nat.lt_succ_self _))))
      clear c0 c1 c2 d0 d1 p1 p2 p3 p4 p5 p6 p7 qD0 qT0 qE0 qF0
      have Hown' := Lib.hid hown'
      have g4 : Below w.heap.size w w' := (ext hbr j3).trans (hb'.mono (by omega))
      clear hown' HO2 HO3 BF BW BF3 BW3 hb3 hb' hg' j3
      go_wp2
      go_roundw
      case rel => exact ⟨k + 1, by omega, by go_num, by rw [HMS.out]; exact Hown'.out, g4, BF4.out, BW4.out⟩
      case measure => simp [intOf]; omega
    · have e : k = 64 := by omega
      have HO3 := Lib.hid (show OwnInts wr (w.heap.size + 2) _ (sqV W H pix x y 8 vx vy) from by rw [e] at HO2; exact HO2.out)
      clear HO2
      have q : decide ((k : Int) < 64) = false := by simp; omega
      clear e
      go_wp2
      go_returns
      exact ⟨_, rfl, HO3.out.mono (by omega), hbr⟩
theorem rblock_any (fv : Value) (W H : Int) (pix : List Int) (x y n vx vy : Int) (w : World) (hv : FrameV w fv W H pix) :
    Calls Tryd.prog 15 #[fv, .int .i64 x, .int .i64 y, .int .i64 n, .agg #[.int .i64 vx, .int .i64 vy]] w fun e w' => ∃ v', e = .returned v' ∧ OwnInts w' w.heap.size v' (blkV W H pix x y n vx vy) ∧ Below w.heap.size w w' := by
  have nope : ∀ {P : World → Prop}, blkB W H pix x y n vx vy = false → Calls Tryd.prog 15 #[fv, .int .i64 x, .int .i64 y, .int .i64 n, .agg #[.int .i64 vx, .int .i64 vy]] w (fun e w' => e = .returned (.slice none 0 0) ∧ Below w.heap.size w w') →
      Calls Tryd.prog 15 #[fv, .int .i64 x, .int .i64 y, .int .i64 n, .agg #[.int .i64 vx, .int .i64 vy]] w fun e w' => ∃ v', e = .returned v' ∧ OwnInts w' w.heap.size v' (blkV W H pix x y n vx vy) ∧ Below w.heap.size w w' := by
    intro _ h c
    rw [blkV_no h]
    exact c.mono fun e w' ⟨he, hb⟩ => ⟨_, he, OwnInts.nil _ _, hb⟩
  cases hb : mayB W H pix with
  | false => exact nope (P := fun _ => True) (by unfold blkB; rw [hb]; rfl) (rblock_w0 fv W H pix x y n vx vy w hv hb)
  | true =>
    have hm := mayB_iff.1 hb
    have no : ¬ (May W H pix ∧ (n = 4 ∨ n = 8) ∧ (0 ≤ x ∧ x ≤ 32) ∧ (0 ≤ y ∧ y ≤ 32) ∧ vecB vx vy = true) → blkB W H pix x y n vx vy = false := fun h => by
      cases e : blkB W H pix x y n vx vy with
      | false => rfl
      | true => exact absurd (blkB_iff.1 e) h
    by_cases hn : n = 4 ∨ n = 8
    · by_cases k0 : x < 0
      · exact nope (P := fun _ => True) (no (fun q => by omega)) (rblock_w2 fv W H pix x y n vx vy w hv hb hn k0)
      · by_cases k1 : 32 < x
        · exact nope (P := fun _ => True) (no (fun q => by omega)) (rblock_w3 fv W H pix x y n vx vy w hv hb hn k0 k1)
        · by_cases k2 : y < 0
          · exact nope (P := fun _ => True) (no (fun q => by omega)) (rblock_w4 fv W H pix x y n vx vy w hv hb hn k0 k1 k2)
          · by_cases k3 : 32 < y
            · exact nope (P := fun _ => True) (no (fun q => by omega)) (rblock_w5 fv W H pix x y n vx vy w hv hb hn k0 k1 k2 k3)
            · cases k4 : vecB vx vy with
              | false => exact nope (P := fun _ => True) (no (fun q => by rw [k4] at q; exact absurd q.2.2.2.2 (by decide))) (rblock_w6 fv W H pix x y n vx vy w hv hb hn k0 k1 k2 k3 k4)
              | true =>
                rw [blkV_yes (blkB_iff.2 ⟨hm, hn, by omega, by omega, k4⟩)]
                rcases hn with rfl | rfl
                · exact rblock_ok4 fv W H pix x y vx vy w hv hb k0 k1 k2 k3 k4
                · exact rblock_ok8 fv W H pix x y vx vy w hv hb k0 k1 k2 k3 k4
    · exact nope (P := fun _ => True) (no (fun q => by omega)) (rblock_w1 fv W H pix x y n vx vy w hv hb (by omega))
end Go.Proofs.YtjmkcbagedflkaaDoor
