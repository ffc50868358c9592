/- kinlaw10.IntraPredicts: the walk. -/
import Derived.Test.YtammgbohaaiicaaDoorIntraF
set_option linter.unusedSimpArgs false
set_option linter.unusedVariables false
namespace Go.Proofs.YtammgbohaaiicaaDoor
open Go.RowKit Go.Extern.Stop Go.Stop Go.Extern

set_option maxRecDepth 100000 in
set_option maxHeartbeats 8000000 in
theorem predicts_w0 (m : Int) (tv lv : Value) (a b : List Int) (c : Int) (w : World) (hv : Ints w tv a) (hu : Ints w lv b) (hg : TypeIs w)  (h0 : 5000 < a.length) :
    Calls Tryd.prog 3 #[.int .i64 m, tv, lv, .int .i64 c] w fun e w' => e = .returned (.bool true) ∧ Below w.heap.size w w' := by
  have HG := Lib.hid hg
  obtain ⟨ao0, cap0, rfl⟩ := hv.shape
  obtain ⟨ao1, cap1, rfl⟩ := hu.shape
  clear hg hv hu
  go_enter Tryd.func3, Tryd.ntmps3
  have g0 : Below w.heap.size w w := Below.refl _ _
  go_wp2_with fail
  refine (first_any _ (HG.out.ext (by go_grown))).mono ?_
  rintro e w1 ⟨rfl, hb1⟩
  have j1 : Below w.heap.size w w1 := ext (by go_grown) hb1
  have g1 : Below w.heap.size w w1 := ext g0 j1
  have s1 := j1.size
  have t1 := g1.size
  go_wp2_with fail
  refine (first_any _ ((HG.out.ext j1).ext (by go_grown))).mono ?_
  rintro e w2 ⟨rfl, hb2⟩
  have j2 : Below w1.heap.size w1 w2 := ext (by go_grown) hb2
  have g2 : Below w.heap.size w w2 := ext g1 j2
  have s2 := j2.size
  have t2 := g2.size
  go_wp2
  all_goals go_returns
  all_goals exact ⟨by first | rfl | (simp; done) | (simp; omega), g2⟩

set_option maxRecDepth 100000 in
set_option maxHeartbeats 8000000 in
theorem predicts_w1 (m : Int) (tv lv : Value) (a b : List Int) (c : Int) (w : World) (hv : Ints w tv a) (hu : Ints w lv b) (hg : TypeIs w) (h0 : a.length ≤ 5000) (h1 : 5000 < b.length) :
    Calls Tryd.prog 3 #[.int .i64 m, tv, lv, .int .i64 c] w fun e w' => e = .returned (.bool true) ∧ Below w.heap.size w w' := by
  have HG := Lib.hid hg
  obtain ⟨ao0, cap0, rfl⟩ := hv.shape
  obtain ⟨ao1, cap1, rfl⟩ := hu.shape
  clear hg hv hu
  go_enter Tryd.func3, Tryd.ntmps3
  have g0 : Below w.heap.size w w := Below.refl _ _
  go_wp2_with fail
  refine (first_any _ (HG.out.ext (by go_grown))).mono ?_
  rintro e w1 ⟨rfl, hb1⟩
  have j1 : Below w.heap.size w w1 := ext (by go_grown) hb1
  have g1 : Below w.heap.size w w1 := ext g0 j1
  have s1 := j1.size
  have t1 := g1.size
  go_wp2_with fail
  refine (first_any _ ((HG.out.ext j1).ext (by go_grown))).mono ?_
  rintro e w2 ⟨rfl, hb2⟩
  have j2 : Below w1.heap.size w1 w2 := ext (by go_grown) hb2
  have g2 : Below w.heap.size w w2 := ext g1 j2
  have s2 := j2.size
  have t2 := g2.size
  go_wp2
  all_goals go_returns
  all_goals exact ⟨by first | rfl | (simp; done) | (simp; omega), g2⟩

set_option maxRecDepth 100000 in
set_option maxHeartbeats 8000000 in
theorem predicts_ok (m : Int) (tv lv : Value) (a b : List Int) (c : Int) (w : World) (hv : Ints w tv a) (hu : Ints w lv b) (hg : TypeIs w) (h0 : a.length ≤ 5000) (h1 : b.length ≤ 5000) :
    Calls Tryd.prog 3 #[.int .i64 m, tv, lv, .int .i64 c] w fun e w' => e = .returned (.bool true) ∧ Below w.heap.size w w' := by
  have HG := Lib.hid hg
  have C1 := Lib.hid (fun w hv => copy_any tv a w hv (by omega))
  have C2 := Lib.hid (fun w hu => copy_any lv b w hu (by omega))
  have C3 := Lib.hid (fun xv yv w h1 h2 => ppredict_any m xv yv a b c w h1 h2)
  have C4 := Lib.hid (fun w h1 h2 => rpredict_any m tv lv a b c w h1 h2)
  have C5 := Lib.hid (fun v u w h1 h2 => ints_same v u (predL m a b c) w h1 h2)
  have C6 := Lib.hid (fun w h => same_any (predE m a b c) w h)
  have C7 := Lib.hid (fun v w h1 h2 => ints_same v tv a w h1 h2)
  have C8 := Lib.hid (fun v w h1 h2 => ints_same v lv b w h1 h2)
  have HV := Lib.hid hv
  have HU := Lib.hid hu
  obtain ⟨ao0, cap0, rfl⟩ := hv.shape
  obtain ⟨ao1, cap1, rfl⟩ := hu.shape
  clear hg hv hu
  generalize predE m a b c = k at *
  generalize predL m a b c = l at *
  go_enter Tryd.func3, Tryd.ntmps3
  have g0 : Below w.heap.size w w := Below.refl _ _
  go_wp2_with fail
  refine (first_any _ (HG.out.ext (by go_grown))).mono ?_
  rintro e w1 ⟨rfl, hb1⟩
  have j1 : Below w.heap.size w w1 := ext (by go_grown) hb1
  have g1 : Below w.heap.size w w1 := ext g0 j1
  have s1 := j1.size
  have t1 := g1.size
  go_wp2_with fail
  refine (C1.out _ ((HV.out.ext j1).ext (by go_grown))).mono ?_
  rintro e w2 ⟨x1, rfl, hx1, hb2⟩
  have j2 : Below w1.heap.size w1 w2 := ext (by go_grown) hb2
  have g2 : Below w.heap.size w w2 := ext g1 j2
  have s2 := j2.size
  have t2 := g2.size
  have HX := Lib.hid (hx1.ints)
  clear hx1
  go_wp2_with fail
  refine (C2.out _ (((HU.out.ext j1).ext j2).ext (by go_grown))).mono ?_
  rintro e w3 ⟨x2, rfl, hx2, hb3⟩
  have j3 : Below w2.heap.size w2 w3 := ext (by go_grown) hb3
  have g3 : Below w.heap.size w w3 := ext g2 j3
  have s3 := j3.size
  have t3 := g3.size
  have HY := Lib.hid (hx2.ints)
  clear hx2
  go_wp2_with fail
  refine (C3.out _ _ _ ((HX.out.ext j3).ext (by go_grown)) (HY.out.ext (by go_grown))).mono ?_
  rintro e w4 ⟨x3, rfl, hx3, hb4⟩
  have j4 : Below w3.heap.size w3 w4 := ext (by go_grown) hb4
  have g4 : Below w.heap.size w w4 := ext g3 j4
  have s4 := j4.size
  have t4 := g4.size
  have HA := Lib.hid (hx3.ints)
  clear hx3
  go_wp2_with fail
  refine (C4.out _ (((((HV.out.ext j1).ext j2).ext j3).ext j4).ext (by go_grown)) (((((HU.out.ext j1).ext j2).ext j3).ext j4).ext (by go_grown))).mono ?_
  rintro e w5 ⟨x4, rfl, hx4, hb5⟩
  have j5 : Below w4.heap.size w4 w5 := ext (by go_grown) hb5
  have g5 : Below w.heap.size w w5 := ext g4 j5
  have s5 := j5.size
  have t5 := g5.size
  have HB := Lib.hid (hx4.ints)
  clear hx4
  go_wp2_with fail
  refine (first_any _ ((((((HG.out.ext j1).ext j2).ext j3).ext j4).ext j5).ext (by go_grown))).mono ?_
  rintro e w6 ⟨rfl, hb6⟩
  have j6 : Below w5.heap.size w5 w6 := ext (by go_grown) hb6
  have g6 : Below w.heap.size w w6 := ext g5 j6
  have s6 := j6.size
  have t6 := g6.size
  have EB := Lib.hid ((Blk.new w5 #[.int .i64 (k), .slice none 0 0] 32).ext hb6)
  go_wp2_with fail
  refine (C5.out _ _ _ (((HA.out.ext j5).ext j6).ext (by go_grown)) ((HB.out.ext j6).ext (by go_grown))).mono ?_
  rintro e w7 ⟨rfl, hb7⟩
  have j7 : Below w6.heap.size w6 w7 := ext (by go_grown) hb7
  have g7 : Below w.heap.size w w7 := ext g6 j7
  have s7 := j7.size
  have t7 := g7.size
  obtain ⟨EB0, EB1, EB2, EB3⟩ := (EB.out.ext j7).two
  go_wp2_with fail
  clear EB0 EB1 EB2 EB3
  refine (C6.out _ ((((((((HG.out.ext j1).ext j2).ext j3).ext j4).ext j5).ext j6).ext j7).ext (by go_grown))).mono ?_
  rintro e w8 ⟨rfl, hb8⟩
  have j8 : Below w7.heap.size w7 w8 := ext (by go_grown) hb8
  have g8 : Below w.heap.size w w8 := ext g7 j8
  have s8 := j8.size
  have t8 := g8.size
  go_wp2_with fail
  refine (C7.out _ _ (((((((HX.out.ext j3).ext j4).ext j5).ext j6).ext j7).ext j8).ext (by go_grown)) (((((((((HV.out.ext j1).ext j2).ext j3).ext j4).ext j5).ext j6).ext j7).ext j8).ext (by go_grown))).mono ?_
  rintro e w9 ⟨rfl, hb9⟩
  have j9 : Below w8.heap.size w8 w9 := ext (by go_grown) hb9
  have g9 : Below w.heap.size w w9 := ext g8 j9
  have s9 := j9.size
  have t9 := g9.size
  go_wp2_with fail
  refine (C8.out _ _ (((((((HY.out.ext j4).ext j5).ext j6).ext j7).ext j8).ext j9).ext (by go_grown)) ((((((((((HU.out.ext j1).ext j2).ext j3).ext j4).ext j5).ext j6).ext j7).ext j8).ext j9).ext (by go_grown))).mono ?_
  rintro e w10 ⟨rfl, hb10⟩
  have j10 : Below w9.heap.size w9 w10 := ext (by go_grown) hb10
  have g10 : Below w.heap.size w w10 := ext g9 j10
  have s10 := j10.size
  have t10 := g10.size
  go_wp2
  all_goals go_returns
  all_goals exact ⟨by first | rfl | (simp; done) | (simp; omega), g10⟩

theorem predicts_walk (m : Int) (tv lv : Value) (a b : List Int) (c : Int) (w : World) (hv : Ints w tv a) (hu : Ints w lv b) (hg : TypeIs w) :
    Calls Tryd.prog 3 #[.int .i64 m, tv, lv, .int .i64 c] w fun e w' => e = .returned (.bool true) ∧ Below w.heap.size w w' := by
  by_cases h0 : a.length ≤ 5000
  · by_cases h1 : b.length ≤ 5000
    · exact predicts_ok m tv lv a b c w hv hu hg h0 h1
    · exact predicts_w1 m tv lv a b c w hv hu hg h0 (by omega)
  · exact predicts_w0 m tv lv a b c w hv hu hg  (by omega)
end Go.Proofs.YtammgbohaaiicaaDoor
