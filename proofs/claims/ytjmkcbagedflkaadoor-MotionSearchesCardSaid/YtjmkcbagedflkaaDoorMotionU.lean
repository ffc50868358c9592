/- kinref11.Search: its contract. -/
import Derived.Test.YtjmkcbagedflkaaDoorMotionS
import Derived.Deep.DeepCutAuto
set_option linter.unusedSimpArgs false
set_option linter.unusedVariables false
namespace Go.Proofs.YtjmkcbagedflkaaDoor
open Go.RowKit

theorem Blk.twoD {w : World} {b : Nat} {x y : Value} {T : Nat} (h : Blk w b #[x, y] T) : w.cell? ⟨b, 0, none⟩ = some x ∧ w.cell? ⟨b, 1, none⟩ = some y := ⟨h.cell 0, h.cell 1⟩
theorem Blk.far {w : World} {b g : Nat} {cs : Array Value} {T : Nat} (h : Blk w b cs T) (hne : b ≠ g) (u v : Value) : Blk ((w.setCell ⟨g, 0, none⟩ u).setCell ⟨g, 1, none⟩ v) b cs T := (h.setOther ⟨g, 0, none⟩ u hne).setOther ⟨g, 1, none⟩ v hne
theorem below_far {B g : Nat} {w w' : World} (h : Below B w w') (hg : B ≤ g) (u v : Value) : Below B w ((w'.setCell ⟨g, 0, none⟩ u).setCell ⟨g, 1, none⟩ v) := (h.setCell (by show B ≤ g; exact hg) _).setCell (by show B ≤ g; exact hg) _
theorem keep5u {w : World} {N M g : Nat} {W H : Int} {pv2 a b a' b' : Value} {T T2 : Nat} (h1 : N ≠ g) (h2 : M ≠ g) (hF : Blk w N #[.int .i64 W, .int .i64 H, pv2] T2) (hV : Blk w M #[a, b] T) :
    ((w.setCell ⟨g, 0, none⟩ a').setCell ⟨g, 1, none⟩ b').cell? ⟨N, 0, none⟩ = some (.int .i64 W) ∧ ((w.setCell ⟨g, 0, none⟩ a').setCell ⟨g, 1, none⟩ b').cell? ⟨N, 1, none⟩ = some (.int .i64 H) ∧ ((w.setCell ⟨g, 0, none⟩ a').setCell ⟨g, 1, none⟩ b').cell? ⟨N, 2, none⟩ = some pv2 ∧
    ((w.setCell ⟨g, 0, none⟩ a').setCell ⟨g, 1, none⟩ b').cell? ⟨M, 0, none⟩ = some a ∧ ((w.setCell ⟨g, 0, none⟩ a').setCell ⟨g, 1, none⟩ b').cell? ⟨M, 1, none⟩ = some b :=
  ⟨far2 h1 hF.three.1, far2 h1 hF.three.2.1, far2 h1 hF.three.2.2.1, far2 h2 hV.twoD.1, far2 h2 hV.twoD.2⟩
set_option maxRecDepth 100000 in
set_option maxHeartbeats 4000000 in
theorem rsearch_w0 (fv bv : Value) (W H : Int) (pix bl : List Int) (x y r : Int) (w : World) (hv : FrameV w fv W H pix) (hu : Ints w bv bl) (hb : mayB W H pix = false) :
    Calls Tryd.prog 22 #[fv, bv, .int .i64 x, .int .i64 y, .int .i64 r] w fun e w' => e = .returned (.tuple #[.agg #[.int .i64 0, .int .i64 0], .agg #[.int .i64 2, .slice none 0 0]]) ∧ Below w.heap.size w w' := by
  have HV := Lib.hid hv
  obtain ⟨ao, cap, rfl, hpi⟩ := hv.cells
  obtain ⟨bo, bcap, rfl⟩ := hu.shape
  have HU := Lib.hid hu
  have hll := hu.len
  have BF := Lib.hid (((Blk.new w #[.int .i64 W, .int .i64 H, .slice ao pix.length cap] 24).alloc (.cells #[.int .i64 0, .int .i64 0] 26)).alloc (.cells #[.int .i64 0, .slice none 0 0] 41))
  have BR := Lib.hid ((Blk.new (w.alloc (.cells #[.int .i64 W, .int .i64 H, .slice ao pix.length cap] 24)) #[.int .i64 0, .int .i64 0] 26).alloc (.cells #[.int .i64 0, .slice none 0 0] 41))
  have BQ := Lib.hid (Blk.new ((w.alloc (.cells #[.int .i64 W, .int .i64 H, .slice ao pix.length cap] 24)).alloc (.cells #[.int .i64 0, .int .i64 0] 26)) #[.int .i64 0, .slice none 0 0] 41)
  simp only [World.size_alloc] at BR BQ
  have cm := fun w hv => rmay_any (.agg #[.int .i64 W, .int .i64 H, .slice ao pix.length cap]) W H pix w hv
  rw [hb] at cm
  have CM := Lib.hid cm
  clear hv hpi hu cm hb
  go_enter Tryd.func22, Tryd.ntmps22
  go_wp2_with fail
  refine (CM.out _ (HV.out.ext (by go_grown))).mono ?_
  rintro e w1 ⟨rfl, hb1⟩
  have g1 : Below w.heap.size w w1 := ext (by go_grown) hb1
  have F1 := Lib.hid (BF.out.ext hb1)
  have R1 := Lib.hid (BR.out.ext hb1)
  have Q1 := Lib.hid (BQ.out.ext hb1)
  have l1 := Q1.out.lt
  go_wp2_with fail
  refine (fail_any _ _).mono ?_
  rintro e w9 ⟨rfl, hb9⟩
  have g9 : Below w.heap.size w w9 := ext g1 hb9
  obtain ⟨r0, r1, r2, r3⟩ := (R1.out.ext hb9).two
  obtain ⟨r4, r5, r6, r7⟩ := (Q1.out.ext hb9).two
  have lr := (Q1.out.ext hb9).lt
  go_wp2
  refine bodyPost_ret (by simp [results, Tryd.results22, go_sem, r0, r1, r2, r3, r4, r5, r6, r7]; try rfl) rfl ?_
  exact ⟨rfl, by go_grown⟩
set_option maxRecDepth 100000 in
set_option maxHeartbeats 4000000 in
theorem rsearch_w1 (fv bv : Value) (W H : Int) (pix bl : List Int) (x y r : Int) (w : World) (hv : FrameV w fv W H pix) (hu : Ints w bv bl) (hb : mayB W H pix = true) (k0 : r < 0) :
    Calls Tryd.prog 22 #[fv, bv, .int .i64 x, .int .i64 y, .int .i64 r] w fun e w' => e = .returned (.tuple #[.agg #[.int .i64 0, .int .i64 0], .agg #[.int .i64 3, .slice none 0 0]]) ∧ Below w.heap.size w w' := by
  have HV := Lib.hid hv
  obtain ⟨ao, cap, rfl, hpi⟩ := hv.cells
  obtain ⟨bo, bcap, rfl⟩ := hu.shape
  have HU := Lib.hid hu
  have hll := hu.len
  have BF := Lib.hid (((Blk.new w #[.int .i64 W, .int .i64 H, .slice ao pix.length cap] 24).alloc (.cells #[.int .i64 0, .int .i64 0] 26)).alloc (.cells #[.int .i64 0, .slice none 0 0] 41))
  have BR := Lib.hid ((Blk.new (w.alloc (.cells #[.int .i64 W, .int .i64 H, .slice ao pix.length cap] 24)) #[.int .i64 0, .int .i64 0] 26).alloc (.cells #[.int .i64 0, .slice none 0 0] 41))
  have BQ := Lib.hid (Blk.new ((w.alloc (.cells #[.int .i64 W, .int .i64 H, .slice ao pix.length cap] 24)).alloc (.cells #[.int .i64 0, .int .i64 0] 26)) #[.int .i64 0, .slice none 0 0] 41)
  simp only [World.size_alloc] at BR BQ
  have cm := fun w hv => rmay_any (.agg #[.int .i64 W, .int .i64 H, .slice ao pix.length cap]) W H pix w hv
  rw [hb] at cm
  have CM := Lib.hid cm
  clear hv hpi hu cm hb
  go_enter Tryd.func22, Tryd.ntmps22
  go_wp2_with fail
  refine (CM.out _ (HV.out.ext (by go_grown))).mono ?_
  rintro e w1 ⟨rfl, hb1⟩
  have g1 : Below w.heap.size w w1 := ext (by go_grown) hb1
  have F1 := Lib.hid (BF.out.ext hb1)
  have R1 := Lib.hid (BR.out.ext hb1)
  have Q1 := Lib.hid (BQ.out.ext hb1)
  have l1 := Q1.out.lt
  go_wp2_with fail
  refine (fail_any _ _).mono ?_
  rintro e w9 ⟨rfl, hb9⟩
  have g9 : Below w.heap.size w w9 := ext g1 hb9
  obtain ⟨r0, r1, r2, r3⟩ := (R1.out.ext hb9).two
  obtain ⟨r4, r5, r6, r7⟩ := (Q1.out.ext hb9).two
  have lr := (Q1.out.ext hb9).lt
  go_wp2
  refine bodyPost_ret (by simp [results, Tryd.results22, go_sem, r0, r1, r2, r3, r4, r5, r6, r7]; try rfl) rfl ?_
  exact ⟨rfl, by go_grown⟩
set_option maxRecDepth 100000 in
set_option maxHeartbeats 4000000 in
theorem rsearch_w2 (fv bv : Value) (W H : Int) (pix bl : List Int) (x y r : Int) (w : World) (hv : FrameV w fv W H pix) (hu : Ints w bv bl) (hb : mayB W H pix = true) (k0 : ¬ r < 0) (k1 : 7 < r) :
    Calls Tryd.prog 22 #[fv, bv, .int .i64 x, .int .i64 y, .int .i64 r] w fun e w' => e = .returned (.tuple #[.agg #[.int .i64 0, .int .i64 0], .agg #[.int .i64 3, .slice none 0 0]]) ∧ Below w.heap.size w w' := by
  have HV := Lib.hid hv
  obtain ⟨ao, cap, rfl, hpi⟩ := hv.cells
  obtain ⟨bo, bcap, rfl⟩ := hu.shape
  have HU := Lib.hid hu
  have hll := hu.len
  have BF := Lib.hid (((Blk.new w #[.int .i64 W, .int .i64 H, .slice ao pix.length cap] 24).alloc (.cells #[.int .i64 0, .int .i64 0] 26)).alloc (.cells #[.int .i64 0, .slice none 0 0] 41))
  have BR := Lib.hid ((Blk.new (w.alloc (.cells #[.int .i64 W, .int .i64 H, .slice ao pix.length cap] 24)) #[.int .i64 0, .int .i64 0] 26).alloc (.cells #[.int .i64 0, .slice none 0 0] 41))
  have BQ := Lib.hid (Blk.new ((w.alloc (.cells #[.int .i64 W, .int .i64 H, .slice ao pix.length cap] 24)).alloc (.cells #[.int .i64 0, .int .i64 0] 26)) #[.int .i64 0, .slice none 0 0] 41)
  simp only [World.size_alloc] at BR BQ
  have cm := fun w hv => rmay_any (.agg #[.int .i64 W, .int .i64 H, .slice ao pix.length cap]) W H pix w hv
  rw [hb] at cm
  have CM := Lib.hid cm
  clear hv hpi hu cm hb
  go_enter Tryd.func22, Tryd.ntmps22
  go_wp2_with fail
  refine (CM.out _ (HV.out.ext (by go_grown))).mono ?_
  rintro e w1 ⟨rfl, hb1⟩
  have g1 : Below w.heap.size w w1 := ext (by go_grown) hb1
  have F1 := Lib.hid (BF.out.ext hb1)
  have R1 := Lib.hid (BR.out.ext hb1)
  have Q1 := Lib.hid (BQ.out.ext hb1)
  have l1 := Q1.out.lt
  go_wp2_with fail
  refine (fail_any _ _).mono ?_
  rintro e w9 ⟨rfl, hb9⟩
  have g9 : Below w.heap.size w w9 := ext g1 hb9
  obtain ⟨r0, r1, r2, r3⟩ := (R1.out.ext hb9).two
  obtain ⟨r4, r5, r6, r7⟩ := (Q1.out.ext hb9).two
  have lr := (Q1.out.ext hb9).lt
  go_wp2
  refine bodyPost_ret (by simp [results, Tryd.results22, go_sem, r0, r1, r2, r3, r4, r5, r6, r7]; try rfl) rfl ?_
  exact ⟨rfl, by go_grown⟩
set_option maxRecDepth 100000 in
set_option maxHeartbeats 4000000 in
theorem rsearch_w3 (fv bv : Value) (W H : Int) (pix bl : List Int) (x y r : Int) (w : World) (hv : FrameV w fv W H pix) (hu : Ints w bv bl) (hb : mayB W H pix = true) (k0 : ¬ r < 0) (k1 : ¬ 7 < r) (k2 : inB W H x y 8 = false) :
    Calls Tryd.prog 22 #[fv, bv, .int .i64 x, .int .i64 y, .int .i64 r] w fun e w' => e = .returned (.tuple #[.agg #[.int .i64 0, .int .i64 0], .agg #[.int .i64 3, .slice none 0 0]]) ∧ Below w.heap.size w w' := by
  have HV := Lib.hid hv
  obtain ⟨ao, cap, rfl, hpi⟩ := hv.cells
  obtain ⟨bo, bcap, rfl⟩ := hu.shape
  have HU := Lib.hid hu
  have hll := hu.len
  have BF := Lib.hid (((Blk.new w #[.int .i64 W, .int .i64 H, .slice ao pix.length cap] 24).alloc (.cells #[.int .i64 0, .int .i64 0] 26)).alloc (.cells #[.int .i64 0, .slice none 0 0] 41))
  have BR := Lib.hid ((Blk.new (w.alloc (.cells #[.int .i64 W, .int .i64 H, .slice ao pix.length cap] 24)) #[.int .i64 0, .int .i64 0] 26).alloc (.cells #[.int .i64 0, .slice none 0 0] 41))
  have BQ := Lib.hid (Blk.new ((w.alloc (.cells #[.int .i64 W, .int .i64 H, .slice ao pix.length cap] 24)).alloc (.cells #[.int .i64 0, .int .i64 0] 26)) #[.int .i64 0, .slice none 0 0] 41)
  simp only [World.size_alloc] at BR BQ
  have cm := fun w hv => rmay_any (.agg #[.int .i64 W, .int .i64 H, .slice ao pix.length cap]) W H pix w hv
  rw [hb] at cm
  have CM := Lib.hid cm
  have hm := mayB_iff.1 hb
  have ci := fun w hv => lies_any (.agg #[.int .i64 W, .int .i64 H, .slice ao pix.length cap]) W H pix x y 8 w hv (by have := hm.w; omega) (by have := hm.h; omega) (by omega)
  rw [k2] at ci
  have CI := Lib.hid ci
  clear ci hm k2
  clear hv hpi hu cm hb
  go_enter Tryd.func22, Tryd.ntmps22
  go_wp2_with fail
  refine (CM.out _ (HV.out.ext (by go_grown))).mono ?_
  rintro e w1 ⟨rfl, hb1⟩
  have g1 : Below w.heap.size w w1 := ext (by go_grown) hb1
  have F1 := Lib.hid (BF.out.ext hb1)
  have R1 := Lib.hid (BR.out.ext hb1)
  have Q1 := Lib.hid (BQ.out.ext hb1)
  have l1 := Q1.out.lt
  obtain ⟨c0, c1, c2, -, -, -⟩ := F1.out.three
  go_wp2_with fail
  clear c0 c1 c2
  refine (CI.out _ (HV.out.ext g1)).mono ?_
  rintro e w2 ⟨rfl, hb2⟩
  have g2 : Below w.heap.size w w2 := ext g1 hb2
  have F2 := Lib.hid (F1.out.ext hb2)
  have R2 := Lib.hid (R1.out.ext hb2)
  have Q2 := Lib.hid (Q1.out.ext hb2)
  have l2 := Q2.out.lt
  clear F1 R1 Q1
  go_wp2_with fail
  refine (fail_any _ _).mono ?_
  rintro e w9 ⟨rfl, hb9⟩
  have g9 : Below w.heap.size w w9 := ext g2 hb9
  obtain ⟨r0, r1, r2, r3⟩ := (R2.out.ext hb9).two
  obtain ⟨r4, r5, r6, r7⟩ := (Q2.out.ext hb9).two
  have lr := (Q2.out.ext hb9).lt
  go_wp2
  refine bodyPost_ret (by simp [results, Tryd.results22, go_sem, r0, r1, r2, r3, r4, r5, r6, r7]; try rfl) rfl ?_
  exact ⟨rfl, by go_grown⟩
set_option maxRecDepth 100000 in
set_option maxHeartbeats 4000000 in
theorem rsearch_w4 (fv bv : Value) (W H : Int) (pix bl : List Int) (x y r : Int) (w : World) (hv : FrameV w fv W H pix) (hu : Ints w bv bl) (hb : mayB W H pix = true) (k0 : ¬ r < 0) (k1 : ¬ 7 < r) (k2 : inB W H x y 8 = true) (k3 : bl.length ≠ 64) :
    Calls Tryd.prog 22 #[fv, bv, .int .i64 x, .int .i64 y, .int .i64 r] w fun e w' => e = .returned (.tuple #[.agg #[.int .i64 0, .int .i64 0], .agg #[.int .i64 14, .slice none 0 0]]) ∧ Below w.heap.size w w' := by
  have HV := Lib.hid hv
  obtain ⟨ao, cap, rfl, hpi⟩ := hv.cells
  obtain ⟨bo, bcap, rfl⟩ := hu.shape
  have HU := Lib.hid hu
  have hll := hu.len
  have BF := Lib.hid (((Blk.new w #[.int .i64 W, .int .i64 H, .slice ao pix.length cap] 24).alloc (.cells #[.int .i64 0, .int .i64 0] 26)).alloc (.cells #[.int .i64 0, .slice none 0 0] 41))
  have BR := Lib.hid ((Blk.new (w.alloc (.cells #[.int .i64 W, .int .i64 H, .slice ao pix.length cap] 24)) #[.int .i64 0, .int .i64 0] 26).alloc (.cells #[.int .i64 0, .slice none 0 0] 41))
  have BQ := Lib.hid (Blk.new ((w.alloc (.cells #[.int .i64 W, .int .i64 H, .slice ao pix.length cap] 24)).alloc (.cells #[.int .i64 0, .int .i64 0] 26)) #[.int .i64 0, .slice none 0 0] 41)
  simp only [World.size_alloc] at BR BQ
  have cm := fun w hv => rmay_any (.agg #[.int .i64 W, .int .i64 H, .slice ao pix.length cap]) W H pix w hv
  rw [hb] at cm
  have CM := Lib.hid cm
  have hm := mayB_iff.1 hb
  have ci := fun w hv => lies_any (.agg #[.int .i64 W, .int .i64 H, .slice ao pix.length cap]) W H pix x y 8 w hv (by have := hm.w; omega) (by have := hm.h; omega) (by omega)
  rw [k2] at ci
  have CI := Lib.hid ci
  clear ci hm k2
  have ql : ((bl.length : Int) != 64) = true := by simp; omega
  clear k3
  clear hv hpi hu cm hb
  go_enter Tryd.func22, Tryd.ntmps22
  go_wp2_with fail
  refine (CM.out _ (HV.out.ext (by go_grown))).mono ?_
  rintro e w1 ⟨rfl, hb1⟩
  have g1 : Below w.heap.size w w1 := ext (by go_grown) hb1
  have F1 := Lib.hid (BF.out.ext hb1)
  have R1 := Lib.hid (BR.out.ext hb1)
  have Q1 := Lib.hid (BQ.out.ext hb1)
  have l1 := Q1.out.lt
  obtain ⟨c0, c1, c2, -, -, -⟩ := F1.out.three
  go_wp2_with fail
  clear c0 c1 c2
  refine (CI.out _ (HV.out.ext g1)).mono ?_
  rintro e w2 ⟨rfl, hb2⟩
  have g2 : Below w.heap.size w w2 := ext g1 hb2
  have F2 := Lib.hid (F1.out.ext hb2)
  have R2 := Lib.hid (R1.out.ext hb2)
  have Q2 := Lib.hid (Q1.out.ext hb2)
  have l2 := Q2.out.lt
  clear F1 R1 Q1
  go_wp2_with fail
  refine (fail_any _ _).mono ?_
  rintro e w9 ⟨rfl, hb9⟩
  have g9 : Below w.heap.size w w9 := ext g2 hb9
  obtain ⟨r0, r1, r2, r3⟩ := (R2.out.ext hb9).two
  obtain ⟨r4, r5, r6, r7⟩ := (Q2.out.ext hb9).two
  have lr := (Q2.out.ext hb9).lt
  go_wp2
  refine bodyPost_ret (by simp [results, Tryd.results22, go_sem, r0, r1, r2, r3, r4, r5, r6, r7]; try rfl) rfl ?_
  exact ⟨rfl, by go_grown⟩
set_option maxRecDepth 100000 in
set_option maxHeartbeats 4000000 in
theorem rsearch_w5 (fv bv : Value) (W H : Int) (pix bl : List Int) (x y r : Int) (w : World) (hv : FrameV w fv W H pix) (hu : Ints w bv bl) (hb : mayB W H pix = true) (k0 : ¬ r < 0) (k1 : ¬ 7 < r) (k2 : inB W H x y 8 = true) (k3 : bl.length = 64) (k4 : withinB bl 0 255 = false) :
    Calls Tryd.prog 22 #[fv, bv, .int .i64 x, .int .i64 y, .int .i64 r] w fun e w' => e = .returned (.tuple #[.agg #[.int .i64 0, .int .i64 0], .agg #[.int .i64 3, .slice none 0 0]]) ∧ Below w.heap.size w w' := by
  have HV := Lib.hid hv
  obtain ⟨ao, cap, rfl, hpi⟩ := hv.cells
  obtain ⟨bo, bcap, rfl⟩ := hu.shape
  have HU := Lib.hid hu
  have hll := hu.len
  have BF := Lib.hid (((Blk.new w #[.int .i64 W, .int .i64 H, .slice ao pix.length cap] 24).alloc (.cells #[.int .i64 0, .int .i64 0] 26)).alloc (.cells #[.int .i64 0, .slice none 0 0] 41))
  have BR := Lib.hid ((Blk.new (w.alloc (.cells #[.int .i64 W, .int .i64 H, .slice ao pix.length cap] 24)) #[.int .i64 0, .int .i64 0] 26).alloc (.cells #[.int .i64 0, .slice none 0 0] 41))
  have BQ := Lib.hid (Blk.new ((w.alloc (.cells #[.int .i64 W, .int .i64 H, .slice ao pix.length cap] 24)).alloc (.cells #[.int .i64 0, .int .i64 0] 26)) #[.int .i64 0, .slice none 0 0] 41)
  simp only [World.size_alloc] at BR BQ
  have cm := fun w hv => rmay_any (.agg #[.int .i64 W, .int .i64 H, .slice ao pix.length cap]) W H pix w hv
  rw [hb] at cm
  have CM := Lib.hid cm
  have hm := mayB_iff.1 hb
  have ci := fun w hv => lies_any (.agg #[.int .i64 W, .int .i64 H, .slice ao pix.length cap]) W H pix x y 8 w hv (by have := hm.w; omega) (by have := hm.h; omega) (by omega)
  rw [k2] at ci
  have CI := Lib.hid ci
  clear ci hm k2
  have ql : ((bl.length : Int) != 64) = false := by simp; omega
  have cs := fun w h => within_any (.slice bo bl.length bcap) bl 0 255 w h
  rw [k4] at cs
  have CS := Lib.hid cs
  clear k3 k4 cs
  clear hv hpi hu cm hb
  go_enter Tryd.func22, Tryd.ntmps22
  go_wp2_with fail
  refine (CM.out _ (HV.out.ext (by go_grown))).mono ?_
  rintro e w1 ⟨rfl, hb1⟩
  have g1 : Below w.heap.size w w1 := ext (by go_grown) hb1
  have F1 := Lib.hid (BF.out.ext hb1)
  have R1 := Lib.hid (BR.out.ext hb1)
  have Q1 := Lib.hid (BQ.out.ext hb1)
  have l1 := Q1.out.lt
  obtain ⟨c0, c1, c2, -, -, -⟩ := F1.out.three
  go_wp2_with fail
  clear c0 c1 c2
  refine (CI.out _ (HV.out.ext g1)).mono ?_
  rintro e w2 ⟨rfl, hb2⟩
  have g2 : Below w.heap.size w w2 := ext g1 hb2
  have F2 := Lib.hid (F1.out.ext hb2)
  have R2 := Lib.hid (R1.out.ext hb2)
  have Q2 := Lib.hid (Q1.out.ext hb2)
  have l2 := Q2.out.lt
  clear F1 R1 Q1
  go_wp2_with fail
  refine (CS.out _ (HU.out.ext g2)).mono ?_
  rintro e w3 ⟨rfl, rfl⟩
  go_wp2_with fail
  refine (fail_any _ _).mono ?_
  rintro e w9 ⟨rfl, hb9⟩
  have g9 : Below w.heap.size w w9 := ext g2 hb9
  obtain ⟨r0, r1, r2, r3⟩ := (R2.out.ext hb9).two
  obtain ⟨r4, r5, r6, r7⟩ := (Q2.out.ext hb9).two
  have lr := (Q2.out.ext hb9).lt
  go_wp2
  refine bodyPost_ret (by simp [results, Tryd.results22, go_sem, r0, r1, r2, r3, r4, r5, r6, r7]; try rfl) rfl ?_
  exact ⟨rfl, by go_grown⟩
set_option maxRecDepth 100000 in
set_option maxHeartbeats 16000000 in
theorem rsearch_ok (fv bv : Value) (W H : Int) (pix bl : List Int) (x y : Int) (r : Nat) (w : World) (hv : FrameV w fv W H pix) (hu : Ints w bv bl) (hm : May W H pix) (hr : r ≤ 7) (hi : inB W H x y 8 = true) (hl : bl.length = 64) (hs : withinB bl 0 255 = true) :
    Calls Tryd.prog 22 #[fv, bv, .int .i64 x, .int .i64 y, .int .i64 r] w fun e w' => e = .returned (.tuple #[.agg #[.int .i64 (searchS (cstV W H pix bl x y) r).1.1, .int .i64 (searchS (cstV W H pix bl x y) r).1.2], .agg #[.int .i64 0, .slice none 0 0]]) ∧ Below w.heap.size w w' := by
  have hb := mayB_iff.2 hm
  have HV := Lib.hid hv
  obtain ⟨ao, cap, rfl, hpi⟩ := hv.cells
  obtain ⟨bo, bcap, rfl⟩ := hu.shape
  have HU := Lib.hid hu
  have hll := hu.len
  have BF := Lib.hid (((Blk.new w #[.int .i64 W, .int .i64 H, .slice ao pix.length cap] 24).alloc (.cells #[.int .i64 0, .int .i64 0] 26)).alloc (.cells #[.int .i64 0, .slice none 0 0] 41))
  have BR := Lib.hid ((Blk.new (w.alloc (.cells #[.int .i64 W, .int .i64 H, .slice ao pix.length cap] 24)) #[.int .i64 0, .int .i64 0] 26).alloc (.cells #[.int .i64 0, .slice none 0 0] 41))
  have BQ := Lib.hid (Blk.new ((w.alloc (.cells #[.int .i64 W, .int .i64 H, .slice ao pix.length cap] 24)).alloc (.cells #[.int .i64 0, .int .i64 0] 26)) #[.int .i64 0, .slice none 0 0] 41)
  simp only [World.size_alloc] at BR BQ
  have cm := fun w hv => rmay_any (.agg #[.int .i64 W, .int .i64 H, .slice ao pix.length cap]) W H pix w hv
  rw [hb] at cm
  have CM := Lib.hid cm
  have HP := Lib.hid hpi
  have ci := fun w hv => lies_any (.agg #[.int .i64 W, .int .i64 H, .slice ao pix.length cap]) W H pix x y 8 w hv (by have := hm.w; omega) (by have := hm.h; omega) (by omega)
  rw [hi] at ci
  have CI := Lib.hid ci
  have cs := fun w h => within_any (.slice bo bl.length bcap) bl 0 255 w h
  rw [hs] at cs
  have CS := Lib.hid cs
  obtain ⟨x1, y1, x3, y3⟩ := inB_iff2.1 hi
  have x2 : x ≤ 32 := by have := hm.w; omega
  have y2 : y ≤ 32 := by have := hm.h; omega
  have CQ := Lib.hid (show ∀ (vx vy : Int), vecB vx vy = true → ∀ w, FrameV w (.agg #[.int .i64 W, .int .i64 H, .slice ao pix.length cap]) W H pix → Calls Tryd.prog 15 #[.agg #[.int .i64 W, .int .i64 H, .slice ao pix.length cap], .int .i64 x, .int .i64 y, .int .i64 8, .agg #[.int .i64 vx, .int .i64 vy]] w fun e w' => ∃ v', e = .returned v' ∧ OwnInts w' w.heap.size v' (sqV W H pix x y 8 vx vy) ∧ Below w.heap.size w w' from fun vx vy h w hv => rblock_ok8 (.agg #[.int .i64 W, .int .i64 H, .slice ao pix.length cap]) W H pix x y vx vy w hv hb (by omega) (by omega) (by omega) (by omega) h)
  have CC := Lib.hid (show ∀ (vx vy : Int), vecB vx vy = true → ∀ v w, Ints w v (sqV W H pix x y 8 vx vy) → Ints w (.slice bo bl.length bcap) bl → Calls Tryd.prog 18 #[v, .slice bo bl.length bcap, .agg #[.int .i64 vx, .int .i64 vy]] w fun e w' => e = .returned (.tuple #[.int .i64 (cstV W H pix bl x y (vx, vy)), .agg #[.int .i64 0, .slice none 0 0]]) ∧ Below w.heap.size w w' from fun vx vy h v w h1 h2 => rcost_ok v (.slice bo bl.length bcap) (sqV W H pix x y 8 vx vy) bl vx vy w h1 h2 (by rw [length_sqV]; omega) (both_sq hm hl hs x y vx vy) h)
  have PV := Lib.hid (fun vx vy w => rvec_any vx vy w)
  have HC0 := Lib.hid (fun v => cstV_nonneg W H pix bl x y v)
  generalize cstV W H pix bl x y = c at *
  have k0 : ¬ (r : Int) < 0 := by omega
  have k1 : ¬ 7 < (r : Int) := by omega
  have ql : ((bl.length : Int) != 64) = false := by simp; omega
  clear hv hpi hu cm hb ci cs hm hi hl hs x1 x2 y1 y2 x3 y3
  go_enter Tryd.func22, Tryd.ntmps22
  go_wp2_with fail
  refine (CM.out _ (HV.out.ext (by go_grown))).mono ?_
  rintro e w1 ⟨rfl, hb1⟩
  have g1 : Below w.heap.size w w1 := ext (by go_grown) hb1
  have F1 := Lib.hid (BF.out.ext hb1)
  have R1 := Lib.hid (BR.out.ext hb1)
  have Q1 := Lib.hid (BQ.out.ext hb1)
  have l1 := Q1.out.lt
  obtain ⟨c0, c1, c2, -, -, -⟩ := F1.out.three
  go_wp2_with fail
  clear c0 c1 c2
  refine (CI.out _ (HV.out.ext g1)).mono ?_
  rintro e w2 ⟨rfl, hb2⟩
  have g2 : Below w.heap.size w w2 := ext g1 hb2
  have F2 := Lib.hid (F1.out.ext hb2)
  have R2 := Lib.hid (R1.out.ext hb2)
  have Q2 := Lib.hid (Q1.out.ext hb2)
  have l2 := Q2.out.lt
  clear F1 R1 Q1
  go_wp2_with fail
  refine (CS.out _ (HU.out.ext g2)).mono ?_
  rintro e w3 ⟨rfl, rfl⟩
  clear ql k0 k1
  have V3 := Lib.hid (Blk.new w2 #[.int .i64 0, .int .i64 0] 26)
  have F3 := Lib.hid (F2.out.alloc (.cells #[.int .i64 0, .int .i64 0] 26))
  have R3 := Lib.hid (R2.out.alloc (.cells #[.int .i64 0, .int .i64 0] 26))
  have Q3 := Lib.hid (Q2.out.alloc (.cells #[.int .i64 0, .int .i64 0] 26))
  have t2 := g2.size
  have g3 : Below w.heap.size w (w2.alloc (.cells #[.int .i64 0, .int .i64 0] 26)) := g2.alloc t2 _
  have HVE := Lib.hid (show vecB 0 0 = true by decide)
  obtain ⟨c0, c1, c2, -, -, -⟩ := F3.out.three
  obtain ⟨d0, d1⟩ := V3.out.twoD
  have t3 := g3.size
  (try simp only [World.size_alloc] at t3)
  have lxF := F3.out.lt
  (try simp only [World.size_alloc] at lxF)
  have lxR := R3.out.lt
  (try simp only [World.size_alloc] at lxR)
  have lxQ := Q3.out.lt
  (try simp only [World.size_alloc] at lxQ)
  have lxV := V3.out.lt
  (try simp only [World.size_alloc] at lxV)
  go_upto_region 10 with fail
  go_cut [13] (fun sl wx => sl = .int .i64 (c (0, 0)) ∧ Below w.heap.size w wx ∧ Blk wx w.heap.size #[.int .i64 W, .int .i64 H, .slice ao pix.length cap] 24 ∧ Blk wx (w.heap.size + 1) #[.int .i64 0, .int .i64 0] 26 ∧ Blk wx (w.heap.size + 2) #[.int .i64 0, .slice none 0 0] 41 ∧ Blk wx w2.heap.size #[.int .i64 0, .int .i64 0] 26)
  case first =>
    go_region_held3 (fun w' => w'.cell? ⟨w.heap.size, 0, none⟩ = some (.int .i64 W) ∧ w'.cell? ⟨w.heap.size, 1, none⟩ = some (.int .i64 H) ∧ w'.cell? ⟨w.heap.size, 2, none⟩ = some (.slice ao pix.length cap) ∧ w'.cell? ⟨w2.heap.size, 0, none⟩ = some (.int .i64 (0)) ∧ w'.cell? ⟨w2.heap.size, 1, none⟩ = some (.int .i64 (0)))
      (first | with_reducible exact ⟨(F5a.out.far (Nat.ne_of_lt F4a.out.lt) _ _).three.1, (F5a.out.far (Nat.ne_of_lt F4a.out.lt) _ _).three.2.1, (F5a.out.far (Nat.ne_of_lt F4a.out.lt) _ _).three.2.2.1, (V5a.out.far (Nat.ne_of_lt V4a.out.lt) _ _).twoD.1, (V5a.out.far (Nat.ne_of_lt V4a.out.lt) _ _).twoD.2⟩ | with_reducible exact ⟨(F5a.out.far (Nat.ne_of_lt lxF) _ _).three.1, (F5a.out.far (Nat.ne_of_lt lxF) _ _).three.2.1, (F5a.out.far (Nat.ne_of_lt lxF) _ _).three.2.2.1, (V5a.out.far (Nat.ne_of_lt lxV) _ _).twoD.1, (V5a.out.far (Nat.ne_of_lt lxV) _ _).twoD.2⟩ | with_reducible exact ⟨(F5a.out.far (Nat.ne_of_lt F5a.out.lt) _ _).three.1, (F5a.out.far (Nat.ne_of_lt F5a.out.lt) _ _).three.2.1, (F5a.out.far (Nat.ne_of_lt F5a.out.lt) _ _).three.2.2.1, (V5a.out.far (Nat.ne_of_lt V5a.out.lt) _ _).twoD.1, (V5a.out.far (Nat.ne_of_lt V5a.out.lt) _ _).twoD.2⟩ | with_reducible exact ⟨(F5a.out.alloc _).three.1, (F5a.out.alloc _).three.2.1, (F5a.out.alloc _).three.2.2.1, (V5a.out.alloc _).twoD.1, (V5a.out.alloc _).twoD.2⟩ | with_reducible exact ⟨F5a.out.three.1, F5a.out.three.2.1, F5a.out.three.2.2.1, V5a.out.twoD.1, V5a.out.twoD.2⟩ | with_reducible exact ⟨(F4a.out.alloc _).three.1, (F4a.out.alloc _).three.2.1, (F4a.out.alloc _).three.2.2.1, (V4a.out.alloc _).twoD.1, (V4a.out.alloc _).twoD.2⟩ | with_reducible exact ⟨F4a.out.three.1, F4a.out.three.2.1, F4a.out.three.2.2.1, V4a.out.twoD.1, V4a.out.twoD.2⟩ | with_reducible exact ⟨(F3.out.alloc _).three.1, (F3.out.alloc _).three.2.1, (F3.out.alloc _).three.2.2.1, (V3.out.alloc _).twoD.1, (V3.out.alloc _).twoD.2⟩ | with_reducible exact ⟨F3.out.three.1, F3.out.three.2.1, F3.out.three.2.2.1, V3.out.twoD.1, V3.out.twoD.2⟩ | go_keep | exact ⟨(F5a.out.far (Nat.ne_of_lt F4a.out.lt) _ _).three.1, (F5a.out.far (Nat.ne_of_lt F4a.out.lt) _ _).three.2.1, (F5a.out.far (Nat.ne_of_lt F4a.out.lt) _ _).three.2.2.1, (V5a.out.far (Nat.ne_of_lt V4a.out.lt) _ _).twoD.1, (V5a.out.far (Nat.ne_of_lt V4a.out.lt) _ _).twoD.2⟩ | exact ⟨(F5a.out.far (Nat.ne_of_lt lxF) _ _).three.1, (F5a.out.far (Nat.ne_of_lt lxF) _ _).three.2.1, (F5a.out.far (Nat.ne_of_lt lxF) _ _).three.2.2.1, (V5a.out.far (Nat.ne_of_lt lxV) _ _).twoD.1, (V5a.out.far (Nat.ne_of_lt lxV) _ _).twoD.2⟩ | exact ⟨(F5a.out.far (Nat.ne_of_lt F5a.out.lt) _ _).three.1, (F5a.out.far (Nat.ne_of_lt F5a.out.lt) _ _).three.2.1, (F5a.out.far (Nat.ne_of_lt F5a.out.lt) _ _).three.2.2.1, (V5a.out.far (Nat.ne_of_lt V5a.out.lt) _ _).twoD.1, (V5a.out.far (Nat.ne_of_lt V5a.out.lt) _ _).twoD.2⟩ | exact ⟨(F5a.out.alloc _).three.1, (F5a.out.alloc _).three.2.1, (F5a.out.alloc _).three.2.2.1, (V5a.out.alloc _).twoD.1, (V5a.out.alloc _).twoD.2⟩ | exact ⟨F5a.out.three.1, F5a.out.three.2.1, F5a.out.three.2.2.1, V5a.out.twoD.1, V5a.out.twoD.2⟩ | exact ⟨(F4a.out.alloc _).three.1, (F4a.out.alloc _).three.2.1, (F4a.out.alloc _).three.2.2.1, (V4a.out.alloc _).twoD.1, (V4a.out.alloc _).twoD.2⟩ | exact ⟨F4a.out.three.1, F4a.out.three.2.1, F4a.out.three.2.2.1, V4a.out.twoD.1, V4a.out.twoD.2⟩ | exact ⟨(F3.out.alloc _).three.1, (F3.out.alloc _).three.2.1, (F3.out.alloc _).three.2.2.1, (V3.out.alloc _).twoD.1, (V3.out.alloc _).twoD.2⟩ | exact ⟨F3.out.three.1, F3.out.three.2.1, F3.out.three.2.2.1, V3.out.twoD.1, V3.out.twoD.2⟩)
      (first | (go_at_call 15; refine (CQ.out (0) (0) ?_ _ ?_).mono ?_; exact HVE.out; exact HV.out.ext (ext g3 (by go_grown)); rintro e w4a ⟨v4, rfl, hown, hb4⟩; have j4 : Below (w2.alloc (.cells #[.int .i64 0, .int .i64 0] 26)).heap.size (w2.alloc (.cells #[.int .i64 0, .int .i64 0] 26)) w4a := ext (by go_grown) hb4; have g4a := ext g3 j4; have F4a := Lib.hid (F3.out.ext j4); have R4a := Lib.hid (R3.out.ext j4); have Q4a := Lib.hid (Q3.out.ext j4); have V4a := Lib.hid (V3.out.ext j4); have t4 := g4a.size; (first | have T4 := Lib.hid ((Blk.new (w2.alloc (.cells #[.int .i64 0, .int .i64 0] 26)) #[.int .i64 0, .slice none 0 0] 41).drew.ext hb4) | have T4 := Lib.hid ((Blk.new (w2.alloc (.cells #[.int .i64 0, .int .i64 0] 26)) #[.int .i64 0, .slice none 0 0] 41).ext hb4) | skip); (try simp only [World.size_alloc] at T4); have HO := Lib.hid hown.ints; clear hown) | (go_at_call 18; refine (CC.out (0) (0) ?_ _ _ ?_ ?_).mono ?_; exact HVE.out; exact HO.out.ext (by go_grown); exact HU.out.ext (ext g4a (by go_grown)); rintro e w5a ⟨rfl, hb5⟩; have j5 : Below w4a.heap.size w4a w5a := ext (by go_grown) hb5; have F5a := Lib.hid (F4a.out.ext j5); have R5a := Lib.hid (R4a.out.ext j5); have Q5a := Lib.hid (Q4a.out.ext j5); have V5a := Lib.hid (V4a.out.ext j5); have g5a := ext g4a j5; have t5 := g5a.size; (first | have T5 := Lib.hid (T4.out.ext j5) | have T5 := Lib.hid ((Blk.new w4a #[.int .i64 0, .slice none 0 0] 41).ext hb5) | have T5 := Lib.hid ((Blk.new w4a #[.int .i64 0, .slice none 0 0] 41).drew.ext hb5) | skip); (try have z0 := T5.out.free 0); (try have z1 := T5.out.free 1); (try have z2 := T5.out.twoD.1); (try have z3 := T5.out.twoD.2); (try have lz := T5.out.lt)))
    all_goals (go_wp2_with fail; go_meet)
    all_goals (refine ⟨rfl, ?_, ?_, ?_, ?_, ?_⟩)
    all_goals (first | exact below_far g5a t4 _ _ | exact below_far g5a t3 _ _ | exact below_far g5a t5 _ _ | exact g5a.alloc t5 _ | exact g5a | exact F5a.out.far (Nat.ne_of_lt F4a.out.lt) _ _ | exact F5a.out.far (Nat.ne_of_lt lxF) _ _ | exact F5a.out.far (Nat.ne_of_lt F5a.out.lt) _ _ | exact F5a.out.alloc _ | exact F5a.out | exact R5a.out.far (Nat.ne_of_lt R4a.out.lt) _ _ | exact R5a.out.far (Nat.ne_of_lt lxR) _ _ | exact R5a.out.far (Nat.ne_of_lt R5a.out.lt) _ _ | exact R5a.out.alloc _ | exact R5a.out | exact Q5a.out.far (Nat.ne_of_lt Q4a.out.lt) _ _ | exact Q5a.out.far (Nat.ne_of_lt lxQ) _ _ | exact Q5a.out.far (Nat.ne_of_lt Q5a.out.lt) _ _ | exact Q5a.out.alloc _ | exact Q5a.out | exact V5a.out.far (Nat.ne_of_lt V4a.out.lt) _ _ | exact V5a.out.far (Nat.ne_of_lt lxV) _ _ | exact V5a.out.far (Nat.ne_of_lt V5a.out.lt) _ _ | exact V5a.out.alloc _ | exact V5a.out)
  case rest =>
    obtain ⟨rfl, g6a, hF, hR, hQ, hV⟩ := hcut
    clear c0 c1 c2 d0 d1 t3 F3 R3 Q3 V3 lxF lxR lxQ lxV
    have F6a := Lib.hid hF
    have R6a := Lib.hid hR
    have Q6a := Lib.hid hQ
    have V6a := Lib.hid hV
    clear hF hR hQ hV
    have G6a := V6a
    clear V6a HVE F2 R2 Q2 g3
    have nF : w.heap.size ≠ w2.heap.size := by omega
    have nR : w.heap.size + 1 ≠ w2.heap.size := by omega
    have nQ : w.heap.size + 2 ≠ w2.heap.size := by omega
    go_wp2
    go_loopw [13, 15] (fun l j wx => ∃ (k : Nat) (jv : Int), k ≤ 2 * r + 1 ∧ jv = (k : Int) - r ∧ j = .int .i64 jv ∧ Blk wx w2.heap.size #[.int .i64 (scanTo c (wholeF r) (firstS c) (k * (2 * r + 1))).1.1, .int .i64 (scanTo c (wholeF r) (firstS c) (k * (2 * r + 1))).1.2] 26 ∧ l = .int .i64 (scanTo c (wholeF r) (firstS c) (k * (2 * r + 1))).2 ∧ Below w.heap.size w wx ∧ Blk wx w.heap.size #[.int .i64 W, .int .i64 H, .slice ao pix.length cap] 24 ∧ Blk wx (w.heap.size + 1) #[.int .i64 0, .int .i64 0] 26 ∧ Blk wx (w.heap.size + 2) #[.int .i64 0, .slice none 0 0] 41) (fun _ j _ => 2 * r + 1 - (intOf j + r).toNat)
    case atStart => exact ⟨0, _, by omega, by omega, rfl, by rw [Nat.zero_mul]; exact G6a.out, by rw [Nat.zero_mul]; rfl, g6a, F6a.out, R6a.out, Q6a.out⟩
    case round =>
      clear G6a F6a R6a Q6a g6a
      obtain ⟨k, jv, hk, hjv, rfl, hG, rfl, hbr, hF, hR, hQ⟩ := hrel
      obtain ⟨wo, rfl⟩ : ∃ wo : World, wo = wr := ⟨_, rfl⟩
      have OG := Lib.hid hG
      have OF := Lib.hid hF
      have OR := Lib.hid hR
      have OQ := Lib.hid hQ
      have HJV := Lib.hid hjv
      have jv1 : -7 ≤ jv := by omega
      have jv2 : jv ≤ 8 := by omega
      have hbo := hbr
      clear hG hF hR hQ hbr
      by_cases hjl : jv ≤ (r : Int)
      · have hk2 : k < 2 * r + 1 := by omega
        clear hjv
        have OG0 := Lib.hid (show Blk wo w2.heap.size #[.int .i64 (scanTo c (wholeF r) (firstS c) (k * (2 * r + 1) + 0)).1.1, .int .i64 (scanTo c (wholeF r) (firstS c) (k * (2 * r + 1) + 0)).1.2] 26 from OG.out)
        go_wp2
        go_loopw [13, 16] (fun l i wx => ∃ (p : Nat) (iv : Int), p ≤ 2 * r + 1 ∧ iv = (p : Int) - r ∧ i = .int .i64 iv ∧ Blk wx w2.heap.size #[.int .i64 (scanTo c (wholeF r) (firstS c) (k * (2 * r + 1) + p)).1.1, .int .i64 (scanTo c (wholeF r) (firstS c) (k * (2 * r + 1) + p)).1.2] 26 ∧ l = .int .i64 (scanTo c (wholeF r) (firstS c) (k * (2 * r + 1) + p)).2 ∧ Below w.heap.size w wx ∧ Blk wx w.heap.size #[.int .i64 W, .int .i64 H, .slice ao pix.length cap] 24 ∧ Blk wx (w.heap.size + 1) #[.int .i64 0, .int .i64 0] 26 ∧ Blk wx (w.heap.size + 2) #[.int .i64 0, .slice none 0 0] 41) (fun _ i _ => 2 * r + 1 - (intOf i + r).toNat)
        case atStart => exact ⟨0, _, by omega, by omega, rfl, OG0.out, rfl, hbo, OF.out, OR.out, OQ.out⟩
        case round =>
          clear OG OG0 OF OR OQ hbo
          obtain ⟨p, iv, hp, hiv, rfl, hG, rfl, hbr, hF, hR, hQ⟩ := hrel
          have iv1 : -7 ≤ iv := by omega
          have iv2 : iv ≤ 8 := by omega
          have tr := hbr.size
          by_cases hil : iv ≤ (r : Int)
          · have hp2 : p < 2 * r + 1 := by omega
            have hwf : wholeF r (k * (2 * r + 1) + p) = (2 * iv, 2 * jv) := by
              have hmm := mulmod (n := 2 * r + 1) (j := k) (i := p) hp2
              have hj := HJV.out
              unfold wholeF
              rw [hmm.1, hmm.2]
              exact Prod.ext (by simp only; omega) (by simp only; omega)
            have hst : scanTo c (wholeF r) (firstS c) (k * (2 * r + 1) + (p + 1)) = stepV c (scanTo c (wholeF r) (firstS c) (k * (2 * r + 1) + p)) (2 * iv, 2 * jv) := by
              rw [← hwf]; rfl
            have HVE := Lib.hid (show vecB (2 * iv) (2 * jv) = true from vecB_of (by omega))
            have HIV := Lib.hid hiv
            clear hiv hwf
            generalize scanTo c (wholeF r) (firstS c) (k * (2 * r + 1) + p) = st at *
            have HY := Lib.hid (fun h => hst.trans (@stepV_yes c st (2 * iv, 2 * jv) h))
            have HN := Lib.hid (fun h => hst.trans (@stepV_no c st (2 * iv, 2 * jv) h))
            have V1 := Lib.hid (Blk.new wr #[.int .i64 (2 * iv), .int .i64 (2 * jv)] 26)
            have G1 := Lib.hid (hG.alloc (.cells #[.int .i64 (2 * iv), .int .i64 (2 * jv)] 26))
            have F1 := Lib.hid (hF.alloc (.cells #[.int .i64 (2 * iv), .int .i64 (2 * jv)] 26))
            have R1 := Lib.hid (hR.alloc (.cells #[.int .i64 (2 * iv), .int .i64 (2 * jv)] 26))
            have Q1 := Lib.hid (hQ.alloc (.cells #[.int .i64 (2 * iv), .int .i64 (2 * jv)] 26))
            have g1 : Below w.heap.size w (wr.alloc (.cells #[.int .i64 (2 * iv), .int .i64 (2 * jv)] 26)) := hbr.alloc tr _
            have lG := hG.lt
            clear hst hG hF hR hQ
            go_wp2
            obtain ⟨c0, c1, c2, -, -, -⟩ := F1.out.three
            obtain ⟨d0, d1⟩ := V1.out.twoD
            have t3 := g1.size
            (try simp only [World.size_alloc] at t3)
            have lxF := F1.out.lt
            (try simp only [World.size_alloc] at lxF)
            have lxR := R1.out.lt
            (try simp only [World.size_alloc] at lxR)
            have lxQ := Q1.out.lt
            (try simp only [World.size_alloc] at lxQ)
            have lxV := V1.out.lt
            (try simp only [World.size_alloc] at lxV)
            have lxG := G1.out.lt
            (try simp only [World.size_alloc] at lxG)
            go_upto_region 18 with fail
            go_cut [18] (fun sl wx => sl = .int .i64 (c (2 * iv, 2 * jv)) ∧ Below w.heap.size w wx ∧ Blk wx w.heap.size #[.int .i64 W, .int .i64 H, .slice ao pix.length cap] 24 ∧ Blk wx (w.heap.size + 1) #[.int .i64 0, .int .i64 0] 26 ∧ Blk wx (w.heap.size + 2) #[.int .i64 0, .slice none 0 0] 41 ∧ Blk wx wr.heap.size #[.int .i64 (2 * iv), .int .i64 (2 * jv)] 26 ∧ Blk wx w2.heap.size #[.int .i64 st.1.1, .int .i64 st.1.2] 26)
            case first =>
              go_region_held3 (fun w' => w'.cell? ⟨w.heap.size, 0, none⟩ = some (.int .i64 W) ∧ w'.cell? ⟨w.heap.size, 1, none⟩ = some (.int .i64 H) ∧ w'.cell? ⟨w.heap.size, 2, none⟩ = some (.slice ao pix.length cap) ∧ w'.cell? ⟨wr.heap.size, 0, none⟩ = some (.int .i64 (2 * iv)) ∧ w'.cell? ⟨wr.heap.size, 1, none⟩ = some (.int .i64 (2 * jv)))
                (first | with_reducible exact ⟨(F5b.out.far (Nat.ne_of_lt F4b.out.lt) _ _).three.1, (F5b.out.far (Nat.ne_of_lt F4b.out.lt) _ _).three.2.1, (F5b.out.far (Nat.ne_of_lt F4b.out.lt) _ _).three.2.2.1, (V5b.out.far (Nat.ne_of_lt V4b.out.lt) _ _).twoD.1, (V5b.out.far (Nat.ne_of_lt V4b.out.lt) _ _).twoD.2⟩ | with_reducible exact ⟨(F5b.out.far (Nat.ne_of_lt lxF) _ _).three.1, (F5b.out.far (Nat.ne_of_lt lxF) _ _).three.2.1, (F5b.out.far (Nat.ne_of_lt lxF) _ _).three.2.2.1, (V5b.out.far (Nat.ne_of_lt lxV) _ _).twoD.1, (V5b.out.far (Nat.ne_of_lt lxV) _ _).twoD.2⟩ | with_reducible exact ⟨(F5b.out.far (Nat.ne_of_lt F5b.out.lt) _ _).three.1, (F5b.out.far (Nat.ne_of_lt F5b.out.lt) _ _).three.2.1, (F5b.out.far (Nat.ne_of_lt F5b.out.lt) _ _).three.2.2.1, (V5b.out.far (Nat.ne_of_lt V5b.out.lt) _ _).twoD.1, (V5b.out.far (Nat.ne_of_lt V5b.out.lt) _ _).twoD.2⟩ | with_reducible exact ⟨(F5b.out.alloc _).three.1, (F5b.out.alloc _).three.2.1, (F5b.out.alloc _).three.2.2.1, (V5b.out.alloc _).twoD.1, (V5b.out.alloc _).twoD.2⟩ | with_reducible exact ⟨F5b.out.three.1, F5b.out.three.2.1, F5b.out.three.2.2.1, V5b.out.twoD.1, V5b.out.twoD.2⟩ | with_reducible exact ⟨(F4b.out.alloc _).three.1, (F4b.out.alloc _).three.2.1, (F4b.out.alloc _).three.2.2.1, (V4b.out.alloc _).twoD.1, (V4b.out.alloc _).twoD.2⟩ | with_reducible exact ⟨F4b.out.three.1, F4b.out.three.2.1, F4b.out.three.2.2.1, V4b.out.twoD.1, V4b.out.twoD.2⟩ | with_reducible exact ⟨(F1.out.alloc _).three.1, (F1.out.alloc _).three.2.1, (F1.out.alloc _).three.2.2.1, (V1.out.alloc _).twoD.1, (V1.out.alloc _).twoD.2⟩ | with_reducible exact ⟨F1.out.three.1, F1.out.three.2.1, F1.out.three.2.2.1, V1.out.twoD.1, V1.out.twoD.2⟩ | go_keep | exact ⟨(F5b.out.far (Nat.ne_of_lt F4b.out.lt) _ _).three.1, (F5b.out.far (Nat.ne_of_lt F4b.out.lt) _ _).three.2.1, (F5b.out.far (Nat.ne_of_lt F4b.out.lt) _ _).three.2.2.1, (V5b.out.far (Nat.ne_of_lt V4b.out.lt) _ _).twoD.1, (V5b.out.far (Nat.ne_of_lt V4b.out.lt) _ _).twoD.2⟩ | exact ⟨(F5b.out.far (Nat.ne_of_lt lxF) _ _).three.1, (F5b.out.far (Nat.ne_of_lt lxF) _ _).three.2.1, (F5b.out.far (Nat.ne_of_lt lxF) _ _).three.2.2.1, (V5b.out.far (Nat.ne_of_lt lxV) _ _).twoD.1, (V5b.out.far (Nat.ne_of_lt lxV) _ _).twoD.2⟩ | exact ⟨(F5b.out.far (Nat.ne_of_lt F5b.out.lt) _ _).three.1, (F5b.out.far (Nat.ne_of_lt F5b.out.lt) _ _).three.2.1, (F5b.out.far (Nat.ne_of_lt F5b.out.lt) _ _).three.2.2.1, (V5b.out.far (Nat.ne_of_lt V5b.out.lt) _ _).twoD.1, (V5b.out.far (Nat.ne_of_lt V5b.out.lt) _ _).twoD.2⟩ | exact ⟨(F5b.out.alloc _).three.1, (F5b.out.alloc _).three.2.1, (F5b.out.alloc _).three.2.2.1, (V5b.out.alloc _).twoD.1, (V5b.out.alloc _).twoD.2⟩ | exact ⟨F5b.out.three.1, F5b.out.three.2.1, F5b.out.three.2.2.1, V5b.out.twoD.1, V5b.out.twoD.2⟩ | exact ⟨(F4b.out.alloc _).three.1, (F4b.out.alloc _).three.2.1, (F4b.out.alloc _).three.2.2.1, (V4b.out.alloc _).twoD.1, (V4b.out.alloc _).twoD.2⟩ | exact ⟨F4b.out.three.1, F4b.out.three.2.1, F4b.out.three.2.2.1, V4b.out.twoD.1, V4b.out.twoD.2⟩ | exact ⟨(F1.out.alloc _).three.1, (F1.out.alloc _).three.2.1, (F1.out.alloc _).three.2.2.1, (V1.out.alloc _).twoD.1, (V1.out.alloc _).twoD.2⟩ | exact ⟨F1.out.three.1, F1.out.three.2.1, F1.out.three.2.2.1, V1.out.twoD.1, V1.out.twoD.2⟩)
                (first | (go_at_call 15; refine (CQ.out (2 * iv) (2 * jv) ?_ _ ?_).mono ?_; exact HVE.out; exact HV.out.ext (ext g1 (by go_grown)); rintro e w4b ⟨v4, rfl, hown, hb4⟩; have j4 : Below (wr.alloc (.cells #[.int .i64 (2 * iv), .int .i64 (2 * jv)] 26)).heap.size (wr.alloc (.cells #[.int .i64 (2 * iv), .int .i64 (2 * jv)] 26)) w4b := ext (by go_grown) hb4; have g4b := ext g1 j4; have F4b := Lib.hid (F1.out.ext j4); have R4b := Lib.hid (R1.out.ext j4); have Q4b := Lib.hid (Q1.out.ext j4); have V4b := Lib.hid (V1.out.ext j4); have G4b := Lib.hid (G1.out.ext j4); have t4 := g4b.size; (first | have T4 := Lib.hid ((Blk.new (wr.alloc (.cells #[.int .i64 (2 * iv), .int .i64 (2 * jv)] 26)) #[.int .i64 0, .slice none 0 0] 41).drew.ext hb4) | have T4 := Lib.hid ((Blk.new (wr.alloc (.cells #[.int .i64 (2 * iv), .int .i64 (2 * jv)] 26)) #[.int .i64 0, .slice none 0 0] 41).ext hb4) | skip); (try simp only [World.size_alloc] at T4); have HO := Lib.hid hown.ints; clear hown) | (go_at_call 18; refine (CC.out (2 * iv) (2 * jv) ?_ _ _ ?_ ?_).mono ?_; exact HVE.out; exact HO.out.ext (by go_grown); exact HU.out.ext (ext g4b (by go_grown)); rintro e w5b ⟨rfl, hb5⟩; have j5 : Below w4b.heap.size w4b w5b := ext (by go_grown) hb5; have F5b := Lib.hid (F4b.out.ext j5); have R5b := Lib.hid (R4b.out.ext j5); have Q5b := Lib.hid (Q4b.out.ext j5); have V5b := Lib.hid (V4b.out.ext j5); have G5b := Lib.hid (G4b.out.ext j5); have g5b := ext g4b j5; have t5 := g5b.size; (first | have T5 := Lib.hid (T4.out.ext j5) | have T5 := Lib.hid ((Blk.new w4b #[.int .i64 0, .slice none 0 0] 41).ext hb5) | have T5 := Lib.hid ((Blk.new w4b #[.int .i64 0, .slice none 0 0] 41).drew.ext hb5) | skip); (try have z0 := T5.out.free 0); (try have z1 := T5.out.free 1); (try have z2 := T5.out.twoD.1); (try have z3 := T5.out.twoD.2); (try have lz := T5.out.lt)))
              all_goals (go_wp2_with fail; go_meet)
              all_goals (refine ⟨rfl, ?_, ?_, ?_, ?_, ?_, ?_⟩)
              all_goals (first | exact below_far g5b t4 _ _ | exact below_far g5b t3 _ _ | exact below_far g5b t5 _ _ | exact g5b.alloc t5 _ | exact g5b | exact F5b.out.far (Nat.ne_of_lt F4b.out.lt) _ _ | exact F5b.out.far (Nat.ne_of_lt lxF) _ _ | exact F5b.out.far (Nat.ne_of_lt F5b.out.lt) _ _ | exact F5b.out.alloc _ | exact F5b.out | exact R5b.out.far (Nat.ne_of_lt R4b.out.lt) _ _ | exact R5b.out.far (Nat.ne_of_lt lxR) _ _ | exact R5b.out.far (Nat.ne_of_lt R5b.out.lt) _ _ | exact R5b.out.alloc _ | exact R5b.out | exact Q5b.out.far (Nat.ne_of_lt Q4b.out.lt) _ _ | exact Q5b.out.far (Nat.ne_of_lt lxQ) _ _ | exact Q5b.out.far (Nat.ne_of_lt Q5b.out.lt) _ _ | exact Q5b.out.alloc _ | exact Q5b.out | exact V5b.out.far (Nat.ne_of_lt V4b.out.lt) _ _ | exact V5b.out.far (Nat.ne_of_lt lxV) _ _ | exact V5b.out.far (Nat.ne_of_lt V5b.out.lt) _ _ | exact V5b.out.alloc _ | exact V5b.out | exact G5b.out.far (Nat.ne_of_lt G4b.out.lt) _ _ | exact G5b.out.far (Nat.ne_of_lt lxG) _ _ | exact G5b.out.far (Nat.ne_of_lt G5b.out.lt) _ _ | exact G5b.out.alloc _ | exact G5b.out)
            case rest =>
              obtain ⟨rfl, g6b, hF, hR, hQ, hV, hG⟩ := hcut
              clear c0 c1 c2 d0 d1 t3 F1 R1 Q1 V1 G1 lxF lxR lxQ lxV lxG
              have F6b := Lib.hid hF
              have R6b := Lib.hid hR
              have Q6b := Lib.hid hQ
              have V6b := Lib.hid hV
              have G6b := Lib.hid hG
              clear hF hR hQ hV hG
              obtain ⟨u0, u1⟩ := V6b.out.twoD
              have u2 := G6b.out.free 0
              have u3 := G6b.out.free 1
              obtain ⟨u4, u5⟩ := G6b.out.twoD
              have lG6 := G6b.out.lt
              generalize c (2 * iv, 2 * jv) = cv at *
              by_cases hlt : cv < st.2
              · have HS2 := Lib.hid (HY.out hlt)
                clear HY HN
                have G7 := Lib.hid (show Blk ((wc.setCell ⟨w2.heap.size, 0, none⟩ (.int .i64 (2 * iv))).setCell ⟨w2.heap.size, 1, none⟩ (.int .i64 (2 * jv))) w2.heap.size #[.int .i64 (2 * iv), .int .i64 (2 * jv)] 26 from (G6b.out.set 0 _).set 1 _)
                have F7 := Lib.hid ((F6b.out.setOther ⟨w2.heap.size, 0, none⟩ (.int .i64 (2 * iv)) nF).setOther ⟨w2.heap.size, 1, none⟩ (.int .i64 (2 * jv)) nF)
                have R7 := Lib.hid ((R6b.out.setOther ⟨w2.heap.size, 0, none⟩ (.int .i64 (2 * iv)) nR).setOther ⟨w2.heap.size, 1, none⟩ (.int .i64 (2 * jv)) nR)
                have Q7 := Lib.hid ((Q6b.out.setOther ⟨w2.heap.size, 0, none⟩ (.int .i64 (2 * iv)) nQ).setOther ⟨w2.heap.size, 1, none⟩ (.int .i64 (2 * jv)) nQ)
                have g7 : Below w.heap.size w ((wc.setCell ⟨w2.heap.size, 0, none⟩ (.int .i64 (2 * iv))).setCell ⟨w2.heap.size, 1, none⟩ (.int .i64 (2 * jv))) := (g6b.setCell (by show w.heap.size ≤ w2.heap.size; exact t2) _).setCell (by show w.heap.size ≤ w2.heap.size; exact t2) _
                go_wp2
                go_roundw
                case rel => exact ⟨p + 1, iv + 1, by omega, by have := HIV.out; omega, by go_num, by rw [HS2.out]; exact G7.out, by rw [HS2.out], g7, F7.out, R7.out, Q7.out⟩
                case measure => have := HIV.out; simp [intOf]; omega
              · have HS2 := Lib.hid (HN.out (by omega))
                clear HY HN
                go_wp2
                go_roundw
                case rel => exact ⟨p + 1, iv + 1, by omega, by have := HIV.out; omega, by go_num, by rw [HS2.out]; exact G6b.out, by rw [HS2.out], g6b, F6b.out, R6b.out, Q6b.out⟩
                case measure => have := HIV.out; simp [intOf]; omega
          · have hp3 : p = 2 * r + 1 := by omega
            have XG2 := Lib.hid (show Blk wr w2.heap.size #[.int .i64 (scanTo c (wholeF r) (firstS c) ((k + 1) * (2 * r + 1))).1.1, .int .i64 (scanTo c (wholeF r) (firstS c) ((k + 1) * (2 * r + 1))).1.2] 26 from by rw [Nat.succ_mul k (2 * r + 1)]; rw [hp3] at hG; exact hG)
            have XE := Lib.hid (show (scanTo c (wholeF r) (firstS c) (k * (2 * r + 1) + p)).2 = (scanTo c (wholeF r) (firstS c) ((k + 1) * (2 * r + 1))).2 from by rw [Nat.succ_mul k (2 * r + 1), hp3])
            have XF := Lib.hid hF
            have XR := Lib.hid hR
            have XQ := Lib.hid hQ
            clear hp3 hiv hG hF hR hQ
            go_wp2
            go_roundw
            case rel => exact ⟨k + 1, jv + 1, by omega, by have := HJV.out; omega, by go_num, XG2.out, by rw [XE.out], hbr, XF.out, XR.out, XQ.out⟩
            case measure => have := HJV.out; simp [intOf]; omega
      · have hk3 : k = 2 * r + 1 := by omega
        rw [hk3] at OG
        rw [hk3]
        have hfair := (wholeS_fair c hr).2
        have HWS := Lib.hid (show scanTo c (wholeF r) (firstS c) ((2 * r + 1) * (2 * r + 1)) = wholeS c r from rfl)
        rw [HWS.out] at OG ⊢
        have HSS := Lib.hid (show searchS c r = scanM c (nearF (wholeS c r).1) (wholeS c r) 9 from rfl)
        obtain ⟨⟨m1, m2⟩, m3, m4⟩ := vecB_iff.1 hfair
        clear HWS hfair hk3 hjv
        generalize wholeS c r = sw at *
        obtain ⟨q6, q7⟩ := OG.out.twoD
        have lG := OG.out.lt
        have VM := Lib.hid (Blk.new wo #[.int .i64 sw.1.1, .int .i64 sw.1.2] 26)
        have VG := Lib.hid (OG.out.alloc (.cells #[.int .i64 sw.1.1, .int .i64 sw.1.2] 26))
        have VF := Lib.hid (OF.out.alloc (.cells #[.int .i64 sw.1.1, .int .i64 sw.1.2] 26))
        have VR := Lib.hid (OR.out.alloc (.cells #[.int .i64 sw.1.1, .int .i64 sw.1.2] 26))
        have VQ := Lib.hid (OQ.out.alloc (.cells #[.int .i64 sw.1.1, .int .i64 sw.1.2] 26))
        have tz := hbo.size
        have gz : Below w.heap.size w (wo.alloc (.cells #[.int .i64 sw.1.1, .int .i64 sw.1.2] 26)) := hbo.alloc tz _
        have nM : wo.heap.size ≠ w2.heap.size := Nat.ne_of_gt lG
        clear OG OF OR OQ
        go_wp2
        clear q6 q7
        go_loopw [13, 21] (fun l d wx => ∃ (q : Nat) (dv : Int), q ≤ 3 ∧ dv = (q : Int) - 1 ∧ d = .int .i64 dv ∧ Blk wx w2.heap.size #[.int .i64 (scanM c (nearF sw.1) sw (q * 3)).1.1, .int .i64 (scanM c (nearF sw.1) sw (q * 3)).1.2] 26 ∧ l = .int .i64 (scanM c (nearF sw.1) sw (q * 3)).2 ∧ Below w.heap.size w wx ∧ Blk wx w.heap.size #[.int .i64 W, .int .i64 H, .slice ao pix.length cap] 24 ∧ Blk wx (w.heap.size + 1) #[.int .i64 0, .int .i64 0] 26 ∧ Blk wx (w.heap.size + 2) #[.int .i64 0, .slice none 0 0] 41 ∧ Blk wx wo.heap.size #[.int .i64 sw.1.1, .int .i64 sw.1.2] 26) (fun _ d _ => 3 - (intOf d + 1).toNat)
        case atStart => exact ⟨0, -1, by omega, by omega, rfl, VG.out, rfl, gz, VF.out, VR.out, VQ.out, VM.out⟩
        case round =>
          clear VG VF VR VQ VM gz
          obtain ⟨q, dv, hq, hdv, rfl, hG, rfl, hby, hF, hR, hQ, hM⟩ := hrel
          obtain ⟨wy, rfl⟩ : ∃ wy : World, wy = wr := ⟨_, rfl⟩
          have YG := Lib.hid hG
          have YF := Lib.hid hF
          have YR := Lib.hid hR
          have YQ := Lib.hid hQ
          have YM := Lib.hid hM
          have HDV := Lib.hid hdv
          have dv1 : -1 ≤ dv := by omega
          have dv2 : dv ≤ 2 := by omega
          clear hG hF hR hQ hM
          by_cases hdl : dv ≤ 1
          · have hq3 : q < 3 := by omega
            clear hdv
            have YG0 := Lib.hid (show Blk wy w2.heap.size #[.int .i64 (scanM c (nearF sw.1) sw (q * 3 + 0)).1.1, .int .i64 (scanM c (nearF sw.1) sw (q * 3 + 0)).1.2] 26 from YG.out)
            go_wp2
            go_loopw [13, 22] (fun l d wx => ∃ (p : Nat) (ev : Int), p ≤ 3 ∧ ev = (p : Int) - 1 ∧ d = .int .i64 ev ∧ Blk wx w2.heap.size #[.int .i64 (scanM c (nearF sw.1) sw (q * 3 + p)).1.1, .int .i64 (scanM c (nearF sw.1) sw (q * 3 + p)).1.2] 26 ∧ l = .int .i64 (scanM c (nearF sw.1) sw (q * 3 + p)).2 ∧ Below w.heap.size w wx ∧ Blk wx w.heap.size #[.int .i64 W, .int .i64 H, .slice ao pix.length cap] 24 ∧ Blk wx (w.heap.size + 1) #[.int .i64 0, .int .i64 0] 26 ∧ Blk wx (w.heap.size + 2) #[.int .i64 0, .slice none 0 0] 41 ∧ Blk wx wo.heap.size #[.int .i64 sw.1.1, .int .i64 sw.1.2] 26) (fun _ d _ => 3 - (intOf d + 1).toNat)
            case atStart => exact ⟨0, -1, by omega, by omega, rfl, YG0.out, rfl, hby, YF.out, YR.out, YQ.out, YM.out⟩
            case round =>
              clear YG YG0 YF YR YQ YM hby
              obtain ⟨p, ev, hp, hev, rfl, hG, rfl, hbx, hF, hR, hQ, hM⟩ := hrel
              have ev1 : -1 ≤ ev := by omega
              have ev2 : ev ≤ 2 := by omega
              have tx := hbx.size
              by_cases hel : ev ≤ 1
              · have hp3 : p < 3 := by omega
                have hnf : nearF sw.1 (q * 3 + p) = (sw.1.1 + ev, sw.1.2 + dv) := by
                  have hmm := mulmod (n := 3) (j := q) (i := p) hp3
                  have hd := HDV.out
                  unfold nearF
                  rw [hmm.1, hmm.2]
                  exact Prod.ext (by simp only; omega) (by simp only; omega)
                have hst : scanM c (nearF sw.1) sw (q * 3 + (p + 1)) = stepM c (scanM c (nearF sw.1) sw (q * 3 + p)) (sw.1.1 + ev, sw.1.2 + dv) := by
                  rw [← hnf]; rfl
                have HEV := Lib.hid hev
                clear hev hnf
                generalize scanM c (nearF sw.1) sw (q * 3 + p) = st at *
                have PVk := PV.out (sw.1.1 + ev) (sw.1.2 + dv)
                have V0 := Lib.hid (Blk.new wr #[.int .i64 (sw.1.1 + ev), .int .i64 (sw.1.2 + dv)] 26)
                have G0 := Lib.hid (hG.alloc (.cells #[.int .i64 (sw.1.1 + ev), .int .i64 (sw.1.2 + dv)] 26))
                have F0 := Lib.hid (hF.alloc (.cells #[.int .i64 (sw.1.1 + ev), .int .i64 (sw.1.2 + dv)] 26))
                have R0 := Lib.hid (hR.alloc (.cells #[.int .i64 (sw.1.1 + ev), .int .i64 (sw.1.2 + dv)] 26))
                have Q0 := Lib.hid (hQ.alloc (.cells #[.int .i64 (sw.1.1 + ev), .int .i64 (sw.1.2 + dv)] 26))
                have M0 := Lib.hid (hM.alloc (.cells #[.int .i64 (sw.1.1 + ev), .int .i64 (sw.1.2 + dv)] 26))
                have lG2 := hG.lt
                have lM := hM.lt
                obtain ⟨n0, n1⟩ := hM.twoD
                clear hG hF hR hQ hM
                cases hvec : vecB (sw.1.1 + ev) (sw.1.2 + dv) with
                | true =>
                  rw [hvec] at PVk
                  have PK := Lib.hid PVk
                  have HVE := Lib.hid hvec
                  have hst2 := hst.trans (stepM_yes hvec)
                  have HY := Lib.hid (fun h => hst2.trans (@stepV_yes c st (sw.1.1 + ev, sw.1.2 + dv) h))
                  have HN := Lib.hid (fun h => hst2.trans (@stepV_no c st (sw.1.1 + ev, sw.1.2 + dv) h))
                  clear PVk hvec hst hst2
                  go_wp2_with fail
                  clear n0 n1
                  refine (PK.out _).mono ?_
                  rintro e w6 ⟨rfl, hb6⟩
                  have j6 : Below (wr.alloc (.cells #[.int .i64 (sw.1.1 + ev), .int .i64 (sw.1.2 + dv)] 26)).heap.size (wr.alloc (.cells #[.int .i64 (sw.1.1 + ev), .int .i64 (sw.1.2 + dv)] 26)) w6 := ext (by go_grown) hb6
                  have g8 : Below w.heap.size w w6 := ext (hbx.alloc tx _) j6
                  have V8 := Lib.hid (V0.out.ext j6)
                  have G8 := Lib.hid (G0.out.ext j6)
                  have F8 := Lib.hid (F0.out.ext j6)
                  have R8 := Lib.hid (R0.out.ext j6)
                  have Q8 := Lib.hid (Q0.out.ext j6)
                  have M8 := Lib.hid (M0.out.ext j6)
                  have lV := V8.out.lt
                  have lG8 := G8.out.lt
                  clear V0 G0 F0 R0 Q0 M0 hb6
                  go_wp2
                  obtain ⟨c0, c1, c2, -, -, -⟩ := F8.out.three
                  obtain ⟨d0, d1⟩ := V8.out.twoD
                  have t3 := g8.size
                  (try simp only [World.size_alloc] at t3)
                  have lxF := F8.out.lt
                  (try simp only [World.size_alloc] at lxF)
                  have lxR := R8.out.lt
                  (try simp only [World.size_alloc] at lxR)
                  have lxQ := Q8.out.lt
                  (try simp only [World.size_alloc] at lxQ)
                  have lxV := V8.out.lt
                  (try simp only [World.size_alloc] at lxV)
                  have lxG := G8.out.lt
                  (try simp only [World.size_alloc] at lxG)
                  have lxM := M8.out.lt
                  (try simp only [World.size_alloc] at lxM)
                  go_upto_region 30 with fail
                  go_cut [24] (fun sl wx => sl = .int .i64 (c (sw.1.1 + ev, sw.1.2 + dv)) ∧ Below w.heap.size w wx ∧ Blk wx w.heap.size #[.int .i64 W, .int .i64 H, .slice ao pix.length cap] 24 ∧ Blk wx (w.heap.size + 1) #[.int .i64 0, .int .i64 0] 26 ∧ Blk wx (w.heap.size + 2) #[.int .i64 0, .slice none 0 0] 41 ∧ Blk wx wr.heap.size #[.int .i64 (sw.1.1 + ev), .int .i64 (sw.1.2 + dv)] 26 ∧ Blk wx w2.heap.size #[.int .i64 st.1.1, .int .i64 st.1.2] 26 ∧ Blk wx wo.heap.size #[.int .i64 sw.1.1, .int .i64 sw.1.2] 26)
                  case first =>
                    go_region_held3 (fun w' => w'.cell? ⟨w.heap.size, 0, none⟩ = some (.int .i64 W) ∧ w'.cell? ⟨w.heap.size, 1, none⟩ = some (.int .i64 H) ∧ w'.cell? ⟨w.heap.size, 2, none⟩ = some (.slice ao pix.length cap) ∧ w'.cell? ⟨wr.heap.size, 0, none⟩ = some (.int .i64 (sw.1.1 + ev)) ∧ w'.cell? ⟨wr.heap.size, 1, none⟩ = some (.int .i64 (sw.1.2 + dv)))
                      (first | with_reducible exact ⟨(F5d.out.far (Nat.ne_of_lt F4d.out.lt) _ _).three.1, (F5d.out.far (Nat.ne_of_lt F4d.out.lt) _ _).three.2.1, (F5d.out.far (Nat.ne_of_lt F4d.out.lt) _ _).three.2.2.1, (V5d.out.far (Nat.ne_of_lt V4d.out.lt) _ _).twoD.1, (V5d.out.far (Nat.ne_of_lt V4d.out.lt) _ _).twoD.2⟩ | with_reducible exact ⟨(F5d.out.far (Nat.ne_of_lt lxF) _ _).three.1, (F5d.out.far (Nat.ne_of_lt lxF) _ _).three.2.1, (F5d.out.far (Nat.ne_of_lt lxF) _ _).three.2.2.1, (V5d.out.far (Nat.ne_of_lt lxV) _ _).twoD.1, (V5d.out.far (Nat.ne_of_lt lxV) _ _).twoD.2⟩ | with_reducible exact ⟨(F5d.out.far (Nat.ne_of_lt F5d.out.lt) _ _).three.1, (F5d.out.far (Nat.ne_of_lt F5d.out.lt) _ _).three.2.1, (F5d.out.far (Nat.ne_of_lt F5d.out.lt) _ _).three.2.2.1, (V5d.out.far (Nat.ne_of_lt V5d.out.lt) _ _).twoD.1, (V5d.out.far (Nat.ne_of_lt V5d.out.lt) _ _).twoD.2⟩ | with_reducible exact ⟨(F5d.out.alloc _).three.1, (F5d.out.alloc _).three.2.1, (F5d.out.alloc _).three.2.2.1, (V5d.out.alloc _).twoD.1, (V5d.out.alloc _).twoD.2⟩ | with_reducible exact ⟨F5d.out.three.1, F5d.out.three.2.1, F5d.out.three.2.2.1, V5d.out.twoD.1, V5d.out.twoD.2⟩ | with_reducible exact ⟨(F4d.out.alloc _).three.1, (F4d.out.alloc _).three.2.1, (F4d.out.alloc _).three.2.2.1, (V4d.out.alloc _).twoD.1, (V4d.out.alloc _).twoD.2⟩ | with_reducible exact ⟨F4d.out.three.1, F4d.out.three.2.1, F4d.out.three.2.2.1, V4d.out.twoD.1, V4d.out.twoD.2⟩ | with_reducible exact ⟨(F8.out.alloc _).three.1, (F8.out.alloc _).three.2.1, (F8.out.alloc _).three.2.2.1, (V8.out.alloc _).twoD.1, (V8.out.alloc _).twoD.2⟩ | with_reducible exact ⟨F8.out.three.1, F8.out.three.2.1, F8.out.three.2.2.1, V8.out.twoD.1, V8.out.twoD.2⟩ | go_keep | exact ⟨(F5d.out.far (Nat.ne_of_lt F4d.out.lt) _ _).three.1, (F5d.out.far (Nat.ne_of_lt F4d.out.lt) _ _).three.2.1, (F5d.out.far (Nat.ne_of_lt F4d.out.lt) _ _).three.2.2.1, (V5d.out.far (Nat.ne_of_lt V4d.out.lt) _ _).twoD.1, (V5d.out.far (Nat.ne_of_lt V4d.out.lt) _ _).twoD.2⟩ | exact ⟨(F5d.out.far (Nat.ne_of_lt lxF) _ _).three.1, (F5d.out.far (Nat.ne_of_lt lxF) _ _).three.2.1, (F5d.out.far (Nat.ne_of_lt lxF) _ _).three.2.2.1, (V5d.out.far (Nat.ne_of_lt lxV) _ _).twoD.1, (V5d.out.far (Nat.ne_of_lt lxV) _ _).twoD.2⟩ | exact ⟨(F5d.out.far (Nat.ne_of_lt F5d.out.lt) _ _).three.1, (F5d.out.far (Nat.ne_of_lt F5d.out.lt) _ _).three.2.1, (F5d.out.far (Nat.ne_of_lt F5d.out.lt) _ _).three.2.2.1, (V5d.out.far (Nat.ne_of_lt V5d.out.lt) _ _).twoD.1, (V5d.out.far (Nat.ne_of_lt V5d.out.lt) _ _).twoD.2⟩ | exact ⟨(F5d.out.alloc _).three.1, (F5d.out.alloc _).three.2.1, (F5d.out.alloc _).three.2.2.1, (V5d.out.alloc _).twoD.1, (V5d.out.alloc _).twoD.2⟩ | exact ⟨F5d.out.three.1, F5d.out.three.2.1, F5d.out.three.2.2.1, V5d.out.twoD.1, V5d.out.twoD.2⟩ | exact ⟨(F4d.out.alloc _).three.1, (F4d.out.alloc _).three.2.1, (F4d.out.alloc _).three.2.2.1, (V4d.out.alloc _).twoD.1, (V4d.out.alloc _).twoD.2⟩ | exact ⟨F4d.out.three.1, F4d.out.three.2.1, F4d.out.three.2.2.1, V4d.out.twoD.1, V4d.out.twoD.2⟩ | exact ⟨(F8.out.alloc _).three.1, (F8.out.alloc _).three.2.1, (F8.out.alloc _).three.2.2.1, (V8.out.alloc _).twoD.1, (V8.out.alloc _).twoD.2⟩ | exact ⟨F8.out.three.1, F8.out.three.2.1, F8.out.three.2.2.1, V8.out.twoD.1, V8.out.twoD.2⟩)
                      (first | (go_at_call 15; refine (CQ.out (sw.1.1 + ev) (sw.1.2 + dv) ?_ _ ?_).mono ?_; exact HVE.out; exact HV.out.ext (ext g8 (by go_grown)); rintro e w4d ⟨v4, rfl, hown, hb4⟩; have j4 : Below w6.heap.size w6 w4d := ext (by go_grown) hb4; have g4d := ext g8 j4; have F4d := Lib.hid (F8.out.ext j4); have R4d := Lib.hid (R8.out.ext j4); have Q4d := Lib.hid (Q8.out.ext j4); have V4d := Lib.hid (V8.out.ext j4); have G4d := Lib.hid (G8.out.ext j4); have M4d := Lib.hid (M8.out.ext j4); have t4 := g4d.size; (first | have T4 := Lib.hid ((Blk.new w6 #[.int .i64 0, .slice none 0 0] 41).drew.ext hb4) | have T4 := Lib.hid ((Blk.new w6 #[.int .i64 0, .slice none 0 0] 41).ext hb4) | skip); (try simp only [World.size_alloc] at T4); have HO := Lib.hid hown.ints; clear hown) | (go_at_call 18; refine (CC.out (sw.1.1 + ev) (sw.1.2 + dv) ?_ _ _ ?_ ?_).mono ?_; exact HVE.out; exact HO.out.ext (by go_grown); exact HU.out.ext (ext g4d (by go_grown)); rintro e w5d ⟨rfl, hb5⟩; have j5 : Below w4d.heap.size w4d w5d := ext (by go_grown) hb5; have F5d := Lib.hid (F4d.out.ext j5); have R5d := Lib.hid (R4d.out.ext j5); have Q5d := Lib.hid (Q4d.out.ext j5); have V5d := Lib.hid (V4d.out.ext j5); have G5d := Lib.hid (G4d.out.ext j5); have M5d := Lib.hid (M4d.out.ext j5); have g5d := ext g4d j5; have t5 := g5d.size; (first | have T5 := Lib.hid (T4.out.ext j5) | have T5 := Lib.hid ((Blk.new w4d #[.int .i64 0, .slice none 0 0] 41).ext hb5) | have T5 := Lib.hid ((Blk.new w4d #[.int .i64 0, .slice none 0 0] 41).drew.ext hb5) | skip); (try have z0 := T5.out.free 0); (try have z1 := T5.out.free 1); (try have z2 := T5.out.twoD.1); (try have z3 := T5.out.twoD.2); (try have lz := T5.out.lt)))
                    all_goals (go_wp2_with fail; go_meet)
                    all_goals (refine ⟨rfl, ?_, ?_, ?_, ?_, ?_, ?_, ?_⟩)
                    all_goals (first | exact below_far g5d t4 _ _ | exact below_far g5d t3 _ _ | exact below_far g5d t5 _ _ | exact g5d.alloc t5 _ | exact g5d | exact F5d.out.far (Nat.ne_of_lt F4d.out.lt) _ _ | exact F5d.out.far (Nat.ne_of_lt lxF) _ _ | exact F5d.out.far (Nat.ne_of_lt F5d.out.lt) _ _ | exact F5d.out.alloc _ | exact F5d.out | exact R5d.out.far (Nat.ne_of_lt R4d.out.lt) _ _ | exact R5d.out.far (Nat.ne_of_lt lxR) _ _ | exact R5d.out.far (Nat.ne_of_lt R5d.out.lt) _ _ | exact R5d.out.alloc _ | exact R5d.out | exact Q5d.out.far (Nat.ne_of_lt Q4d.out.lt) _ _ | exact Q5d.out.far (Nat.ne_of_lt lxQ) _ _ | exact Q5d.out.far (Nat.ne_of_lt Q5d.out.lt) _ _ | exact Q5d.out.alloc _ | exact Q5d.out | exact V5d.out.far (Nat.ne_of_lt V4d.out.lt) _ _ | exact V5d.out.far (Nat.ne_of_lt lxV) _ _ | exact V5d.out.far (Nat.ne_of_lt V5d.out.lt) _ _ | exact V5d.out.alloc _ | exact V5d.out | exact G5d.out.far (Nat.ne_of_lt G4d.out.lt) _ _ | exact G5d.out.far (Nat.ne_of_lt lxG) _ _ | exact G5d.out.far (Nat.ne_of_lt G5d.out.lt) _ _ | exact G5d.out.alloc _ | exact G5d.out | exact M5d.out.far (Nat.ne_of_lt M4d.out.lt) _ _ | exact M5d.out.far (Nat.ne_of_lt lxM) _ _ | exact M5d.out.far (Nat.ne_of_lt M5d.out.lt) _ _ | exact M5d.out.alloc _ | exact M5d.out)
                  case rest =>
                    obtain ⟨rfl, g6d, hF, hR, hQ, hV, hG, hM⟩ := hcut
                    clear c0 c1 c2 d0 d1 t3 F8 R8 Q8 V8 G8 M8 lxF lxR lxQ lxV lxG lxM
                    have F6d := Lib.hid hF
                    have R6d := Lib.hid hR
                    have Q6d := Lib.hid hQ
                    have V6d := Lib.hid hV
                    have G6d := Lib.hid hG
                    have M6d := Lib.hid hM
                    clear hF hR hQ hV hG hM
                    obtain ⟨u0, u1⟩ := V6d.out.twoD
                    have u2 := G6d.out.free 0
                    have u3 := G6d.out.free 1
                    obtain ⟨u4, u5⟩ := G6d.out.twoD
                    have lG6 := G6d.out.lt
                    generalize c (sw.1.1 + ev, sw.1.2 + dv) = cv at *
                    by_cases hlt : cv < st.2
                    · have HS2 := Lib.hid (HY.out hlt)
                      clear HY HN
                      have G7 := Lib.hid (show Blk ((wc.setCell ⟨w2.heap.size, 0, none⟩ (.int .i64 (sw.1.1 + ev))).setCell ⟨w2.heap.size, 1, none⟩ (.int .i64 (sw.1.2 + dv))) w2.heap.size #[.int .i64 (sw.1.1 + ev), .int .i64 (sw.1.2 + dv)] 26 from (G6d.out.set 0 _).set 1 _)
                      have F7 := Lib.hid ((F6d.out.setOther ⟨w2.heap.size, 0, none⟩ (.int .i64 (sw.1.1 + ev)) nF).setOther ⟨w2.heap.size, 1, none⟩ (.int .i64 (sw.1.2 + dv)) nF)
                      have R7 := Lib.hid ((R6d.out.setOther ⟨w2.heap.size, 0, none⟩ (.int .i64 (sw.1.1 + ev)) nR).setOther ⟨w2.heap.size, 1, none⟩ (.int .i64 (sw.1.2 + dv)) nR)
                      have Q7 := Lib.hid ((Q6d.out.setOther ⟨w2.heap.size, 0, none⟩ (.int .i64 (sw.1.1 + ev)) nQ).setOther ⟨w2.heap.size, 1, none⟩ (.int .i64 (sw.1.2 + dv)) nQ)
                      have M7 := Lib.hid ((M6d.out.setOther ⟨w2.heap.size, 0, none⟩ (.int .i64 (sw.1.1 + ev)) nM).setOther ⟨w2.heap.size, 1, none⟩ (.int .i64 (sw.1.2 + dv)) nM)
                      have g7 : Below w.heap.size w ((wc.setCell ⟨w2.heap.size, 0, none⟩ (.int .i64 (sw.1.1 + ev))).setCell ⟨w2.heap.size, 1, none⟩ (.int .i64 (sw.1.2 + dv))) := (g6d.setCell (by show w.heap.size ≤ w2.heap.size; exact t2) _).setCell (by show w.heap.size ≤ w2.heap.size; exact t2) _
                      go_wp2
                      go_roundw
                      case rel => exact ⟨p + 1, ev + 1, by omega, by have := HEV.out; omega, by go_num, by rw [HS2.out]; exact G7.out, by rw [HS2.out], g7, F7.out, R7.out, Q7.out, M7.out⟩
                      case measure => have := HEV.out; simp [intOf]; omega
                    · have HS2 := Lib.hid (HN.out (by omega))
                      clear HY HN
                      go_wp2
                      go_roundw
                      case rel => exact ⟨p + 1, ev + 1, by omega, by have := HEV.out; omega, by go_num, by rw [HS2.out]; exact G6d.out, by rw [HS2.out], g6d, F6d.out, R6d.out, Q6d.out, M6d.out⟩
                      case measure => have := HEV.out; simp [intOf]; omega
                | false =>
                  rw [hvec] at PVk
                  have PK := Lib.hid PVk
                  have HS2 := Lib.hid (hst.trans (stepM_no hvec))
                  clear PVk hvec hst
                  go_wp2_with fail
                  clear n0 n1
                  refine (PK.out _).mono ?_
                  rintro e w6 ⟨rfl, hb6⟩
                  have j6 : Below (wr.alloc (.cells #[.int .i64 (sw.1.1 + ev), .int .i64 (sw.1.2 + dv)] 26)).heap.size (wr.alloc (.cells #[.int .i64 (sw.1.1 + ev), .int .i64 (sw.1.2 + dv)] 26)) w6 := ext (by go_grown) hb6
                  have g8 : Below w.heap.size w w6 := ext (hbx.alloc tx _) j6
                  have G8 := Lib.hid (G0.out.ext j6)
                  have F8 := Lib.hid (F0.out.ext j6)
                  have R8 := Lib.hid (R0.out.ext j6)
                  have Q8 := Lib.hid (Q0.out.ext j6)
                  have M8 := Lib.hid (M0.out.ext j6)
                  clear V0 G0 F0 R0 Q0 M0 hb6
                  go_wp2
                  go_roundw
                  case rel => exact ⟨p + 1, ev + 1, by omega, by have := HEV.out; omega, by go_num, by rw [HS2.out]; exact G8.out, by rw [HS2.out], g8, F8.out, R8.out, Q8.out, M8.out⟩
                  case measure => have := HEV.out; simp [intOf]; omega
              · have hp3 : p = 3 := by omega
                have XG2 := Lib.hid (show Blk wr w2.heap.size #[.int .i64 (scanM c (nearF sw.1) sw ((q + 1) * 3)).1.1, .int .i64 (scanM c (nearF sw.1) sw ((q + 1) * 3)).1.2] 26 from by rw [Nat.succ_mul q 3]; rw [hp3] at hG; exact hG)
                have XE := Lib.hid (show (scanM c (nearF sw.1) sw (q * 3 + p)).2 = (scanM c (nearF sw.1) sw ((q + 1) * 3)).2 from by rw [Nat.succ_mul q 3, hp3])
                have XF := Lib.hid hF
                have XR := Lib.hid hR
                have XQ := Lib.hid hQ
                have XM := Lib.hid hM
                clear hp3 hev hG hF hR hQ hM
                go_wp2
                go_roundw
                case rel => exact ⟨q + 1, dv + 1, by omega, by have := HDV.out; omega, by go_num, XG2.out, by rw [XE.out], hbx, XF.out, XR.out, XQ.out, XM.out⟩
                case measure => have := HDV.out; simp [intOf]; omega
          · have hq3 : q = 3 := by omega
            rw [hq3] at YG
            rw [hq3]
            have HS9 := Lib.hid (show scanM c (nearF sw.1) sw 9 = scanM c (nearF sw.1) sw (3 * 3) from rfl)
            rw [HS9.out] at HSS
            generalize scanM c (nearF sw.1) sw (3 * 3) = st at *
            obtain ⟨q6, q7⟩ := YG.out.twoD
            obtain ⟨r0, r1, r2, r3⟩ := YR.out.two
            obtain ⟨r4, r5, r6, r7⟩ := YQ.out.two
            have lr := YQ.out.lt
            have ty := hby.size
            clear hq3 hdv
            go_wp2
            refine bodyPost_ret (by simp [results, Tryd.results22, go_sem, r0, r1, r2, r3, r4, r5, r6, r7]; try rfl) rfl ?_
            exact ⟨by rw [HSS.out] <;> rfl, by go_grown⟩
end Go.Proofs.YtjmkcbagedflkaaDoor
