/- scene.Unlike, kinref16.Unlike, kinlaw16.Pix, scene.Of, fault.In: contracts. -/
import Derived.Test.YtpdhhnhpaahenaaDoorSceneP
import Derived.Test.YtpdhhnhpaahenaaDoorGroups
import Derived.Test.YtpdhhnhpaahenaaDoorPlaneD
import Derived.Laws.Cover1
set_option linter.unusedSimpArgs false
set_option linter.unusedVariables false
namespace Go.Proofs.YtpdhhnhpaahenaaDoor
open Go.RowKit Go.Extern.Stop Go.Stop Go.Extern

set_option maxRecDepth 100000 in
set_option maxHeartbeats 2000000 in
theorem punl_no (v u : Value) (a b : Fr) (w : World) (hv : FrameV w v a.W a.H a.pix) (hu : FrameV w u b.W b.H b.pix) (he : unlE a b ≠ 0) :
    Calls Tryd.prog 10 #[v, u] w fun e w' => e = .returned (.tuple #[.int .i64 0, errV (unlE a b)]) ∧ Below w.heap.size w w' := by
  have c1 := fun v u w hv hu => psum_any v u a.W a.H a.pix b.W b.H b.pix w hv hu
  rw [show fbothE a.W a.H a.pix b.W b.H b.pix = unlE a b from rfl] at c1
  have C1 := Lib.hid c1
  have q0 : (unlE a b == 0) = false := by rw [beq_eq_false_iff_ne]; exact he
  have HV := Lib.hid hv
  have HU := Lib.hid hu
  obtain ⟨ao, cap, rfl, -⟩ := hv.cells
  obtain ⟨bo, bcap, rfl, -⟩ := hu.cells
  generalize unlE a b = k at *
  generalize sadV a.pix b.pix = s at *
  generalize a.pix = ap at *
  generalize b.pix = bp at *
  generalize a.W = aW at *
  generalize a.H = aH at *
  generalize b.W = bW at *
  generalize b.H = bH at *
  clear hv hu c1 he
  go_enter Tryd.func10, Tryd.ntmps10
  go_wp2_with fail
  refine (C1.out _ _ _ (HV.out.ext (by go_grown)) (HU.out.ext (by go_grown))).mono ?_
  rintro e w1 ⟨rfl, hb1⟩
  have g1 : Below w.heap.size w w1 := ext (by go_grown) hb1
  go_wp2
  go_returns
  exact ⟨rfl, g1⟩
set_option maxRecDepth 100000 in
set_option maxHeartbeats 2000000 in
theorem punl_yes (v u : Value) (a b : Fr) (w : World) (hv : FrameV w v a.W a.H a.pix) (hu : FrameV w u b.W b.H b.pix) (he : unlE a b = 0) :
    Calls Tryd.prog 10 #[v, u] w fun e w' => e = .returned (.tuple #[.int .i64 (unlV a b), .nilIface]) ∧ Below w.heap.size w w' := by
  have c1 := fun v u w hv hu => psum_any v u a.W a.H a.pix b.W b.H b.pix w hv hu
  rw [show fbothE a.W a.H a.pix b.W b.H b.pix = unlE a b from rfl, he, okI_zero rfl, errV_zero] at c1
  have C1 := Lib.hid c1
  obtain ⟨s1, s2⟩ := usad_bd he
  obtain ⟨-, l1, l2⟩ := fboth_len he
  have eV : Hid (unlV a b = 64 * sadV a.pix b.pix / a.pix.length) := by show _ = _; unfold unlV; rw [if_pos he]
  have BA := Lib.hid ((Blk.new w #[.int .i64 a.W, .int .i64 a.H, .slice none 0 0] 24))
  have HV := Lib.hid hv
  have HU := Lib.hid hu
  obtain ⟨ao, cap, rfl, -⟩ := hv.cells
  obtain ⟨bo, bcap, rfl, -⟩ := hu.cells
  have BA := Lib.hid ((Blk.new w #[.int .i64 a.W, .int .i64 a.H, .slice ao a.pix.length cap] 24).alloc (.cells #[.int .i64 b.W, .int .i64 b.H, .slice bo b.pix.length bcap] 24))
  rw [eV.out]
  clear eV
  generalize sadV a.pix b.pix = s at *
  generalize a.pix = ap at *
  generalize b.pix = bp at *
  generalize a.W = aW at *
  generalize a.H = aH at *
  generalize b.W = bW at *
  generalize b.H = bH at *
  have q1 : IntKind.i64.wrap (64 * s) = 64 * s := IntWalk.i64_in _ (by omega)
  have q2 : ¬ ((ap.length : Int) = 0) := by omega
  have q3 : Int.tdiv (64 * s) (ap.length : Int) = 64 * s / (ap.length : Int) := Int.tdiv_eq_ediv_of_nonneg (by omega)
  have q5 : 0 ≤ 64 * s / (ap.length : Int) := Int.ediv_nonneg (by omega) (by omega)
  have q6 : 64 * s / (ap.length : Int) ≤ 16320 := Int.ediv_le_of_le_mul (by omega) (by omega)
  have q4 : IntKind.i64.wrap (64 * s / (ap.length : Int)) = 64 * s / (ap.length : Int) := IntWalk.i64_in _ (by omega)
  clear hv hu c1 he q5 q6
  go_enter Tryd.func10, Tryd.ntmps10
  go_wp2_with fail
  refine (C1.out _ _ _ (HV.out.ext (by go_grown)) (HU.out.ext (by go_grown))).mono ?_
  rintro e w1 ⟨rfl, hb1⟩
  have g1 : Below w.heap.size w w1 := ext (by go_grown) hb1
  obtain ⟨c0, c1, c2, -, -, -⟩ := (BA.out.ext hb1).three
  go_wp2
  go_returns
  exact ⟨rfl, g1⟩
theorem punl_any (v u : Value) (a b : Fr) (w : World) (hv : FrameV w v a.W a.H a.pix) (hu : FrameV w u b.W b.H b.pix) :
    Calls Tryd.prog 10 #[v, u] w fun e w' => e = .returned (.tuple #[.int .i64 (unlV a b), errV (unlE a b)]) ∧ Below w.heap.size w w' := by
  by_cases he : unlE a b = 0
  · rw [he, errV_zero]; exact punl_yes v u a b w hv hu he
  · rw [show unlV a b = 0 from by unfold unlV; rw [if_neg he]]; exact punl_no v u a b w hv hu he
set_option maxRecDepth 100000 in
set_option maxHeartbeats 4000000 in
theorem runl_no (v u : Value) (a b : Fr) (w : World) (hv : FrameV w v a.W a.H a.pix) (hu : FrameV w u b.W b.H b.pix) (he : unlE a b ≠ 0) :
    Calls Tryd.prog 11 #[v, u] w fun e w' => e = .returned (.tuple #[.int .i64 0, .agg #[.int .i64 (unlE a b), .slice none 0 0]]) ∧ Below w.heap.size w w' := by
  have c1 := fun v u w hv hu => rsum_any v u a.W a.H a.pix b.W b.H b.pix w hv hu
  rw [show fbothE a.W a.H a.pix b.W b.H b.pix = unlE a b from rfl, okI_ne he] at c1
  have C1 := Lib.hid c1
  have hk : (unlE a b == 0) = false := by rw [beq_eq_false_iff_ne]; exact he
  have HV := Lib.hid hv
  have HU := Lib.hid hu
  obtain ⟨ao, cap, rfl, -⟩ := hv.cells
  obtain ⟨bo, bcap, rfl, -⟩ := hu.cells
  generalize unlE a b = z at *
  clear hv hu c1 he
  generalize a.pix = ap at *
  generalize b.pix = bp at *
  generalize a.W = aW at *
  generalize a.H = aH at *
  generalize b.W = bW at *
  generalize b.H = bH at *
  have BA := Lib.hid (((Blk.new w #[.int .i64 aW, .int .i64 aH, .slice ao ap.length cap] 24).alloc (.cells #[.int .i64 bW, .int .i64 bH, .slice bo bp.length bcap] 24)).alloc (.cells #[.int .i64 0, .slice none 0 0] 35))
  have BR := Lib.hid (Blk.new ((w.alloc (.cells #[.int .i64 aW, .int .i64 aH, .slice ao ap.length cap] 24)).alloc (.cells #[.int .i64 bW, .int .i64 bH, .slice bo bp.length bcap] 24)) #[.int .i64 0, .slice none 0 0] 35)
  simp only [World.size_alloc] at BR
  go_enter Tryd.func11, Tryd.ntmps11
  go_wp2_with fail
  refine (C1.out _ _ _ (HV.out.ext (by go_grown)) (HU.out.ext (by go_grown))).mono ?_
  rintro e w1 ⟨rfl, hb1⟩
  have g1 : Below w.heap.size w w1 := ext (by go_grown) hb1
  have s1 : w.heap.size + 3 ≤ w1.heap.size := by have := hb1.size; simp at this; omega
  have R1 := Lib.hid ((BR.out.ext hb1).alloc (.cells #[.int .i64 z, .slice none 0 0] 35))
  have E2 := Lib.hid (Blk.new w1 #[.int .i64 z, .slice none 0 0] 35)
  go_wp2_with fail
  refine (ok_ne z hk _ _).mono ?_
  rintro e w2 ⟨rfl, hb2⟩
  have j2 : Below (w1.alloc (.cells #[.int .i64 z, .slice none 0 0] 35)).heap.size (w1.alloc (.cells #[.int .i64 z, .slice none 0 0] 35)) w2 := ext (by go_grown) hb2
  have g2 : Below w.heap.size w w2 := ext (by go_grown) j2
  obtain ⟨p0, p1, p2, p3⟩ := (E2.out.ext j2).two
  obtain ⟨r0, r1, r2, r3⟩ := (R1.out.ext j2).two
  have s2 : w1.heap.size + 1 ≤ w2.heap.size := by have := j2.size; simp at this; omega
  go_wp2
  go_region
  all_goals go_wp2
  all_goals refine bodyPost_ret (by simp [results, Tryd.results11, go_sem, r0, r1, r2, r3]; try rfl) rfl ?_
  all_goals exact ⟨rfl, by go_grown⟩
set_option maxRecDepth 100000 in
set_option maxHeartbeats 4000000 in
theorem runl_yes (v u : Value) (a b : Fr) (w : World) (hv : FrameV w v a.W a.H a.pix) (hu : FrameV w u b.W b.H b.pix) (he : unlE a b = 0) :
    Calls Tryd.prog 11 #[v, u] w fun e w' => e = .returned (.tuple #[.int .i64 (unlV a b), .agg #[.int .i64 0, .slice none 0 0]]) ∧ Below w.heap.size w w' := by
  have c1 := fun v u w hv hu => rsum_any v u a.W a.H a.pix b.W b.H b.pix w hv hu
  rw [show fbothE a.W a.H a.pix b.W b.H b.pix = unlE a b from rfl, he, okI_zero rfl] at c1
  have C1 := Lib.hid c1
  obtain ⟨s1, s2⟩ := usad_bd he
  obtain ⟨-, l1, l2⟩ := fboth_len he
  have hL : (a.pix.length : Int) = a.W * a.H := (fboth_zero he).1.len
  have eV : Hid (unlV a b = 64 * sadV a.pix b.pix / (a.W * a.H)) := by show _ = _; unfold unlV; rw [if_pos he, hL]
  have HV := Lib.hid hv
  have HU := Lib.hid hu
  obtain ⟨ao, cap, rfl, -⟩ := hv.cells
  obtain ⟨bo, bcap, rfl, -⟩ := hu.cells
  rw [eV.out]
  clear eV
  generalize sadV a.pix b.pix = s at *
  generalize a.pix = ap at *
  generalize b.pix = bp at *
  generalize a.W = aW at *
  generalize a.H = aH at *
  generalize b.W = bW at *
  generalize b.H = bH at *
  have BA := Lib.hid (((Blk.new w #[.int .i64 aW, .int .i64 aH, .slice ao ap.length cap] 24).alloc (.cells #[.int .i64 bW, .int .i64 bH, .slice bo bp.length bcap] 24)).alloc (.cells #[.int .i64 0, .slice none 0 0] 35))
  have BR := Lib.hid (Blk.new ((w.alloc (.cells #[.int .i64 aW, .int .i64 aH, .slice ao ap.length cap] 24)).alloc (.cells #[.int .i64 bW, .int .i64 bH, .slice bo bp.length bcap] 24)) #[.int .i64 0, .slice none 0 0] 35)
  simp only [World.size_alloc] at BR
  have q0 : IntKind.i64.wrap (aW * aH) = aW * aH := by rw [← hL]; exact IntWalk.i64_in _ (by omega)
  have q1 : IntKind.i64.wrap (64 * s) = 64 * s := IntWalk.i64_in _ (by omega)
  have q2 : ¬ (aW * aH = 0) := by rw [← hL]; omega
  have q3 : Int.tdiv (64 * s) (aW * aH) = 64 * s / (aW * aH) := Int.tdiv_eq_ediv_of_nonneg (by omega)
  have q4 : IntKind.i64.wrap (64 * s / (aW * aH)) = 64 * s / (aW * aH) := by
    rw [← hL]
    have q5 : 0 ≤ 64 * s / (ap.length : Int) := Int.ediv_nonneg (by omega) (by omega)
    have q6 : 64 * s / (ap.length : Int) ≤ 16320 := Int.ediv_le_of_le_mul (by omega) (by omega)
    exact IntWalk.i64_in _ (by omega)
  clear hv hu c1 he hL
  go_enter Tryd.func11, Tryd.ntmps11
  go_wp2_with fail
  refine (C1.out _ _ _ (HV.out.ext (by go_grown)) (HU.out.ext (by go_grown))).mono ?_
  rintro e w1 ⟨rfl, hb1⟩
  have g1 : Below w.heap.size w w1 := ext (by go_grown) hb1
  have s1 : w.heap.size + 3 ≤ w1.heap.size := by have := hb1.size; simp at this; omega
  have X1 := Lib.hid ((BA.out.ext hb1).alloc (.cells #[.int .i64 0, .slice none 0 0] 35))
  have R1 := Lib.hid ((BR.out.ext hb1).alloc (.cells #[.int .i64 0, .slice none 0 0] 35))
  have E2 := Lib.hid (Blk.new w1 #[.int .i64 0, .slice none 0 0] 35)
  go_wp2_with fail
  refine (ok_zero _ _).mono ?_
  rintro e w2 ⟨rfl, hb2⟩
  have j2 : Below (w1.alloc (.cells #[.int .i64 0, .slice none 0 0] 35)).heap.size (w1.alloc (.cells #[.int .i64 0, .slice none 0 0] 35)) w2 := ext (by go_grown) hb2
  have g2 : Below w.heap.size w w2 := ext (by go_grown) j2
  obtain ⟨p0, p1, p2, p3⟩ := (E2.out.ext j2).two
  obtain ⟨r0, r1, r2, r3⟩ := (R1.out.ext j2).two
  obtain ⟨c0, c1, c2, -, -, -⟩ := (X1.out.ext j2).three
  have s2 : w1.heap.size + 1 ≤ w2.heap.size := by have := j2.size; simp at this; omega
  go_wp2
  go_region
  all_goals go_wp2
  all_goals refine bodyPost_ret (by simp [results, Tryd.results11, go_sem, r0, r1, r2, r3]; try rfl) rfl ?_
  all_goals exact ⟨rfl, by go_grown⟩
theorem runl_any (v u : Value) (a b : Fr) (w : World) (hv : FrameV w v a.W a.H a.pix) (hu : FrameV w u b.W b.H b.pix) :
    Calls Tryd.prog 11 #[v, u] w fun e w' => e = .returned (.tuple #[.int .i64 (unlV a b), .agg #[.int .i64 (unlE a b), .slice none 0 0]]) ∧ Below w.heap.size w w' := by
  by_cases he : unlE a b = 0
  · rw [he]; exact runl_yes v u a b w hv hu he
  · rw [show unlV a b = 0 from by unfold unlV; rw [if_neg he]]; exact runl_no v u a b w hv hu he
end Go.Proofs.YtpdhhnhpaahenaaDoor
