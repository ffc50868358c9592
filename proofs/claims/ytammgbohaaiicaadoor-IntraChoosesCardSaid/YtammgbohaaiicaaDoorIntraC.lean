/- kinlaw10.IntraChooses: the walk. -/
import Derived.Test.YtammgbohaaiicaaDoorIntraL
set_option linter.unusedSimpArgs false
set_option linter.unusedVariables false
namespace Go.Proofs.YtammgbohaaiicaaDoor
open Go.RowKit Go.Extern.Stop Go.Stop Go.Extern

set_option maxRecDepth 100000 in
set_option maxHeartbeats 8000000 in
theorem chooses_w0 (bv tv lv : Value) (l a b : List Int) (c : Int) (w : World) (hb : Ints w bv l) (hv : Ints w tv a) (hu : Ints w lv b) (hg : TypeIs w)  (h0 : 5000 < l.length) :
    Calls Tryd.prog 8 #[bv, tv, lv, .int .i64 c] w fun e w' => e = .returned (.bool true) ∧ Below w.heap.size w w' := by
  have HG := Lib.hid hg
  obtain ⟨ao0, cap0, rfl⟩ := hb.shape
  obtain ⟨ao1, cap1, rfl⟩ := hv.shape
  obtain ⟨ao2, cap2, rfl⟩ := hu.shape
  clear hg hb hv hu
  go_enter Tryd.func8, Tryd.ntmps8
  have g0 : Below w.heap.size w w := Below.refl _ _
  go_wp2_with fail
  refine (first_any _ (HG.out.ext (by go_grown))).mono ?_
  rintro e w1 ⟨rfl, hb1⟩
  have j1 : Below w.heap.size w w1 := ext (by go_grown) hb1
  have g1 : Below w.heap.size w w1 := ext g0 j1
  have s1 := j1.size
  have t1 := g1.size
  go_wp2_with fail
  refine (first_any _ ((HG.out.ext j1).ext (by go_grown))).mono ?_
  rintro e w2 ⟨rfl, hb2⟩
  have j2 : Below w1.heap.size w1 w2 := ext (by go_grown) hb2
  have g2 : Below w.heap.size w w2 := ext g1 j2
  have s2 := j2.size
  have t2 := g2.size
  go_wp2
  all_goals go_returns
  all_goals exact ⟨by first | rfl | (simp; done) | (simp; omega), g2⟩

set_option maxRecDepth 100000 in
set_option maxHeartbeats 8000000 in
theorem chooses_w1 (bv tv lv : Value) (l a b : List Int) (c : Int) (w : World) (hb : Ints w bv l) (hv : Ints w tv a) (hu : Ints w lv b) (hg : TypeIs w) (h0 : l.length ≤ 5000) (h1 : 5000 < a.length) :
    Calls Tryd.prog 8 #[bv, tv, lv, .int .i64 c] w fun e w' => e = .returned (.bool true) ∧ Below w.heap.size w w' := by
  have HG := Lib.hid hg
  obtain ⟨ao0, cap0, rfl⟩ := hb.shape
  obtain ⟨ao1, cap1, rfl⟩ := hv.shape
  obtain ⟨ao2, cap2, rfl⟩ := hu.shape
  clear hg hb hv hu
  go_enter Tryd.func8, Tryd.ntmps8
  have g0 : Below w.heap.size w w := Below.refl _ _
  go_wp2_with fail
  refine (first_any _ (HG.out.ext (by go_grown))).mono ?_
  rintro e w1 ⟨rfl, hb1⟩
  have j1 : Below w.heap.size w w1 := ext (by go_grown) hb1
  have g1 : Below w.heap.size w w1 := ext g0 j1
  have s1 := j1.size
  have t1 := g1.size
  go_wp2_with fail
  refine (first_any _ ((HG.out.ext j1).ext (by go_grown))).mono ?_
  rintro e w2 ⟨rfl, hb2⟩
  have j2 : Below w1.heap.size w1 w2 := ext (by go_grown) hb2
  have g2 : Below w.heap.size w w2 := ext g1 j2
  have s2 := j2.size
  have t2 := g2.size
  go_wp2
  all_goals go_returns
  all_goals exact ⟨by first | rfl | (simp; done) | (simp; omega), g2⟩

set_option maxRecDepth 100000 in
set_option maxHeartbeats 8000000 in
theorem chooses_w2 (bv tv lv : Value) (l a b : List Int) (c : Int) (w : World) (hb : Ints w bv l) (hv : Ints w tv a) (hu : Ints w lv b) (hg : TypeIs w) (h0 : l.length ≤ 5000) (h1 : a.length ≤ 5000) (h2 : 5000 < b.length) :
    Calls Tryd.prog 8 #[bv, tv, lv, .int .i64 c] w fun e w' => e = .returned (.bool true) ∧ Below w.heap.size w w' := by
  have HG := Lib.hid hg
  obtain ⟨ao0, cap0, rfl⟩ := hb.shape
  obtain ⟨ao1, cap1, rfl⟩ := hv.shape
  obtain ⟨ao2, cap2, rfl⟩ := hu.shape
  clear hg hb hv hu
  go_enter Tryd.func8, Tryd.ntmps8
  have g0 : Below w.heap.size w w := Below.refl _ _
  go_wp2_with fail
  refine (first_any _ (HG.out.ext (by go_grown))).mono ?_
  rintro e w1 ⟨rfl, hb1⟩
  have j1 : Below w.heap.size w w1 := ext (by go_grown) hb1
  have g1 : Below w.heap.size w w1 := ext g0 j1
  have s1 := j1.size
  have t1 := g1.size
  go_wp2_with fail
  refine (first_any _ ((HG.out.ext j1).ext (by go_grown))).mono ?_
  rintro e w2 ⟨rfl, hb2⟩
  have j2 : Below w1.heap.size w1 w2 := ext (by go_grown) hb2
  have g2 : Below w.heap.size w w2 := ext g1 j2
  have s2 := j2.size
  have t2 := g2.size
  go_wp2
  all_goals go_returns
  all_goals exact ⟨by first | rfl | (simp; done) | (simp; omega), g2⟩

set_option maxRecDepth 100000 in
set_option maxHeartbeats 8000000 in
theorem chooses_ok (bv tv lv : Value) (l a b : List Int) (c : Int) (w : World) (hb : Ints w bv l) (hv : Ints w tv a) (hu : Ints w lv b) (hg : TypeIs w) (h0 : l.length ≤ 5000) (h1 : a.length ≤ 5000) (h2 : b.length ≤ 5000) :
    Calls Tryd.prog 8 #[bv, tv, lv, .int .i64 c] w fun e w' => e = .returned (.bool true) ∧ Below w.heap.size w w' := by
  have HG := Lib.hid hg
  have C1 := Lib.hid (fun w hb => copy_any bv l w hb (by omega))
  have C3 := Lib.hid (fun xv w h0 h1 h2 => pbest_any xv tv lv l a b c w h0 h1 h2)
  have C4 := Lib.hid (fun w h0 h1 h2 => rbest_any bv tv lv l a b c w h0 h1 h2)
  have C6 := Lib.hid (fun w h => same_any (bestE l a b c) w h)
  have C7 := Lib.hid (fun v w h1 h2 => ints_same v bv l w h1 h2)
  have HB := Lib.hid hb
  have HV := Lib.hid hv
  have HU := Lib.hid hu
  obtain ⟨ao0, cap0, rfl⟩ := hb.shape
  obtain ⟨ao1, cap1, rfl⟩ := hv.shape
  obtain ⟨ao2, cap2, rfl⟩ := hu.shape
  clear hg hv hu hb
  generalize bestTo (costK l a b c) 4 = bt at *
  generalize bestE l a b c = k at *
  generalize okI k bt.1 = i1 at *
  generalize okI k bt.2 = i2 at *
  go_enter Tryd.func8, Tryd.ntmps8
  have g0 : Below w.heap.size w w := Below.refl _ _
  go_wp2_with fail
  refine (first_any _ (HG.out.ext (by go_grown))).mono ?_
  rintro e w1 ⟨rfl, hb1⟩
  have j1 : Below w.heap.size w w1 := ext (by go_grown) hb1
  have g1 : Below w.heap.size w w1 := ext g0 j1
  have s1 := j1.size
  have t1 := g1.size
  go_wp2_with fail
  refine (C1.out _ ((HB.out.ext j1).ext (by go_grown))).mono ?_
  rintro e w2 ⟨x1, rfl, hx1, hb2⟩
  have j2 : Below w1.heap.size w1 w2 := ext (by go_grown) hb2
  have g2 : Below w.heap.size w w2 := ext g1 j2
  have s2 := j2.size
  have t2 := g2.size
  have HX := Lib.hid (hx1.ints)
  clear hx1
  go_wp2_with fail
  refine (C3.out _ _ (HX.out.ext (by go_grown)) (((HV.out.ext j1).ext j2).ext (by go_grown)) (((HU.out.ext j1).ext j2).ext (by go_grown))).mono ?_
  rintro e w3 ⟨rfl, hb3⟩
  have j3 : Below w2.heap.size w2 w3 := ext (by go_grown) hb3
  have g3 : Below w.heap.size w w3 := ext g2 j3
  have s3 := j3.size
  have t3 := g3.size
  go_wp2_with fail
  refine (C4.out _ ((((HB.out.ext j1).ext j2).ext j3).ext (by go_grown)) ((((HV.out.ext j1).ext j2).ext j3).ext (by go_grown)) ((((HU.out.ext j1).ext j2).ext j3).ext (by go_grown))).mono ?_
  rintro e w4 ⟨rfl, hb4⟩
  have j4 : Below w3.heap.size w3 w4 := ext (by go_grown) hb4
  have g4 : Below w.heap.size w w4 := ext g3 j4
  have s4 := j4.size
  have t4 := g4.size
  go_wp2_with fail
  refine (first_any _ (((((HG.out.ext j1).ext j2).ext j3).ext j4).ext (by go_grown))).mono ?_
  rintro e w5 ⟨rfl, hb5⟩
  have j5 : Below w4.heap.size w4 w5 := ext (by go_grown) hb5
  have g5 : Below w.heap.size w w5 := ext g4 j5
  have s5 := j5.size
  have t5 := g5.size
  have EB := Lib.hid ((Blk.new w4 #[.int .i64 (k), .slice none 0 0] 32).ext hb5)
  obtain ⟨EB0, EB1, EB2, EB3⟩ := EB.out.two
  go_wp2_with fail
  clear EB0 EB1 EB2 EB3
  refine (C6.out _ ((((((HG.out.ext j1).ext j2).ext j3).ext j4).ext j5).ext (by go_grown))).mono ?_
  rintro e w6 ⟨rfl, hb6⟩
  have j6 : Below w5.heap.size w5 w6 := ext (by go_grown) hb6
  have g6 : Below w.heap.size w w6 := ext g5 j6
  have s6 := j6.size
  have t6 := g6.size
  go_wp2_with fail
  refine (C7.out _ _ (((((HX.out.ext j3).ext j4).ext j5).ext j6).ext (by go_grown)) (((((((HB.out.ext j1).ext j2).ext j3).ext j4).ext j5).ext j6).ext (by go_grown))).mono ?_
  rintro e w7 ⟨rfl, hb7⟩
  have j7 : Below w6.heap.size w6 w7 := ext (by go_grown) hb7
  have g7 : Below w.heap.size w w7 := ext g6 j7
  have s7 := j7.size
  have t7 := g7.size
  go_wp2
  all_goals go_returns
  all_goals exact ⟨by first | rfl | (simp; done) | (simp; omega), g7⟩

theorem chooses_walk (bv tv lv : Value) (l a b : List Int) (c : Int) (w : World) (hb : Ints w bv l) (hv : Ints w tv a) (hu : Ints w lv b) (hg : TypeIs w) :
    Calls Tryd.prog 8 #[bv, tv, lv, .int .i64 c] w fun e w' => e = .returned (.bool true) ∧ Below w.heap.size w w' := by
  by_cases h0 : l.length ≤ 5000
  · by_cases h1 : a.length ≤ 5000
    · by_cases h2 : b.length ≤ 5000
      · exact chooses_ok bv tv lv l a b c w hb hv hu hg h0 h1 h2
      · exact chooses_w2 bv tv lv l a b c w hb hv hu hg h0 h1 (by omega)
    · exact chooses_w1 bv tv lv l a b c w hb hv hu hg h0 (by omega)
  · exact chooses_w0 bv tv lv l a b c w hb hv hu hg  (by omega)
end Go.Proofs.YtammgbohaaiicaaDoor
