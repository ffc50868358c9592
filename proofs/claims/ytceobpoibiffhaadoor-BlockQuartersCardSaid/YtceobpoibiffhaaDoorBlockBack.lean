/- kinlaw7.BlockBack, BlockParts: the walks. -/
import Derived.Test.YtceobpoibiffhaaDoorBlockF
import Derived.Test.YtceobpoibiffhaaDoorWholeR
set_option linter.unusedSimpArgs false
set_option linter.unusedVariables false
namespace Go.Proofs.YtceobpoibiffhaaDoor
open Go.RowKit Go.Extern.Stop Go.Stop Go.Extern

def quarterE (b : List Int) : Int := if b.length = 64 then 0 else 14
def quarterR (b : List Int) : List (List Int) := if b.length = 64 then [quarterL b 0, quarterL b 1, quarterL b 2, quarterL b 3] else []
theorem pquarter_any (v : Value) (b : List Int) (w : World) (hv : Ints w v b) :
    Calls Tryd.prog 21 #[v] w fun e w' => ∃ v', e = .returned (.tuple #[v', errV (quarterE b)]) ∧ Rows w' v' (quarterR b) ∧ Below w.heap.size w w' := by
  by_cases h : b.length = 64
  · rw [show quarterE b = 0 from by unfold quarterE; rw [if_pos h], show quarterR b = _ from by unfold quarterR; rw [if_pos h]]
    exact (pquarter_ok v b w hv h).mono fun e w' ⟨L, he, hr, hb⟩ => ⟨_, he, hr, hb⟩
  · rw [show quarterE b = 14 from by unfold quarterE; rw [if_neg h], show quarterR b = [] from by unfold quarterR; rw [if_neg h]]
    exact (pquarter_no v b w hv h).mono fun e w' ⟨he, hb⟩ => ⟨_, he, Rows.nil _, hb⟩
theorem rquarter_any (v : Value) (b : List Int) (w : World) (hv : Ints w v b) :
    Calls Tryd.prog 22 #[v] w fun e w' => ∃ v', e = .returned (.tuple #[v', .agg #[.int .i64 (quarterE b), .slice none 0 0]]) ∧ Rows w' v' (quarterR b) ∧ Below w.heap.size w w' := by
  by_cases h : b.length = 64
  · rw [show quarterE b = 0 from by unfold quarterE; rw [if_pos h], show quarterR b = _ from by unfold quarterR; rw [if_pos h]]
    exact (rquarter_ok v b w hv h).mono fun e w' ⟨L, he, hr, hb⟩ => ⟨_, he, hr, hb⟩
  · rw [show quarterE b = 14 from by unfold quarterE; rw [if_neg h], show quarterR b = [] from by unfold quarterR; rw [if_neg h]]
    exact (rquarter_no v b w hv h).mono fun e w' ⟨he, hb⟩ => ⟨_, he, Rows.nil _, hb⟩
theorem pwhole_any (v : Value) (ls : List (List Int)) (w : World) (hv : Rows w v ls) (hl : ls.length ≤ 5000) :
    Calls Tryd.prog 23 #[v] w fun e w' => ∃ v', e = .returned (.tuple #[v', errV (wholeE ls)]) ∧ OwnInts w' w.heap.size v' (okL (wholeE ls) (wholeL ls)) ∧ Below w.heap.size w w' := by
  by_cases h : ls.length = 4 ∧ badR ls = false
  · rw [show wholeE ls = 0 from by unfold wholeE; rw [if_pos h], okL_zero rfl]
    exact pwhole_ok v ls w hv h.1 h.2
  · rw [show wholeE ls = 14 from by unfold wholeE; rw [if_neg h], okL_ne (by decide)]
    refine (pwhole_no v ls w hv hl ?_).mono fun e w' ⟨he, hb⟩ => ⟨_, he, OwnInts.nil _ _, hb⟩
    by_cases h4 : ls.length = 4
    · right
      cases hb : badR ls with
      | true => rfl
      | false => exact absurd ⟨h4, hb⟩ h
    · exact .inl h4
theorem quarters_ok (b : List Int) : badR [quarterL b 0, quarterL b 1, quarterL b 2, quarterL b 3] = false := by
  simp [badR, length_quarterL]
theorem whole_back {b : List Int} (h : b.length = 64) : wholeL [quarterL b 0, quarterL b 1, quarterL b 2, quarterL b 3] = b := by
  have e : wholeL [quarterL b 0, quarterL b 1, quarterL b 2, quarterL b 3] = wholeV (quarterL b) := by
    unfold wholeL wholeV
    refine mapTo_congr fun i hi => ?_
    have := kq_lt hi
    match kq i, this with
    | 0, _ => rfl
    | 1, _ => rfl
    | 2, _ => rfl
    | 3, _ => rfl
  rw [e, whole_quarter h]

theorem back_long (v u : Value) (a b : List Int) (w : World) (hv : Ints w v a) (hu : Ints w u b) (hg : TypeIs w) (hl : 5000 < a.length ∨ 5000 < b.length) :
    Calls Tryd.prog 8 #[v, u] w fun e w' => e = .returned (.bool true) ∧ Below w.heap.size w w' := by
  obtain ⟨vo, vp, rfl, _⟩ := hv
  obtain ⟨uo, up, rfl, _⟩ := hu
  have HG := Lib.hid hg
  by_cases h0 : 5000 < a.length
  · clear hl
    go_enter Tryd.func8, Tryd.ntmps8
    have g0 : Below w.heap.size w w := Below.refl _ _
    go_wp2_with fail
    refine (first_any _ (HG.out.ext (by go_grown))).mono ?_
    rintro e w1 ⟨rfl, hb1⟩
    have j1 : Below w.heap.size w w1 := ext (by go_grown) hb1
    have g1 : Below w.heap.size w w1 := ext g0 j1
    have s1 := j1.size
    have t1 := g1.size
    go_wp2_with fail
    refine (first_any _ ((HG.out.ext j1).ext (by go_grown))).mono ?_
    rintro e w2 ⟨rfl, hb2⟩
    have j2 : Below w1.heap.size w1 w2 := ext (by go_grown) hb2
    have g2 : Below w.heap.size w w2 := ext g1 j2
    have s2 := j2.size
    have t2 := g2.size
    go_wp2
    all_goals go_returns
    all_goals exact ⟨by first | rfl | (simp; done) | (simp; omega), g2⟩
  · have h1 : 5000 < b.length := by omega
    clear hl
    go_enter Tryd.func8, Tryd.ntmps8
    have g0 : Below w.heap.size w w := Below.refl _ _
    go_wp2_with fail
    refine (first_any _ (HG.out.ext (by go_grown))).mono ?_
    rintro e w1 ⟨rfl, hb1⟩
    have j1 : Below w.heap.size w w1 := ext (by go_grown) hb1
    have g1 : Below w.heap.size w w1 := ext g0 j1
    have s1 := j1.size
    have t1 := g1.size
    go_wp2_with fail
    refine (first_any _ ((HG.out.ext j1).ext (by go_grown))).mono ?_
    rintro e w2 ⟨rfl, hb2⟩
    have j2 : Below w1.heap.size w1 w2 := ext (by go_grown) hb2
    have g2 : Below w.heap.size w w2 := ext g1 j2
    have s2 := j2.size
    have t2 := g2.size
    go_wp2
    all_goals go_returns
    all_goals exact ⟨by first | rfl | (simp; done) | (simp; omega), g2⟩

set_option maxRecDepth 100000 in
set_option maxHeartbeats 4000000 in
theorem back_q0 (v u : Value) (a b : List Int) (w : World) (hv : Ints w v a) (hu : Ints w u b) (hg : TypeIs w) (h1 : a.length ≤ 5000) (h2 : b.length ≤ 5000) (hq : a.length = 64) (he : bothE a b ≠ 0) :
    Calls Tryd.prog 8 #[v, u] w fun e w' => e = .returned (.bool true) ∧ Below w.heap.size w w' := by
  have HG := Lib.hid hg
  have HV := Lib.hid hv
  have HU := Lib.hid hu
  have C1 := Lib.hid (fun v w hv => pquarter_ok v a w hv hq)
  have c2 := fun v w hv => pwhole_ok v [quarterL a 0, quarterL a 1, quarterL a 2, quarterL a 3] w hv rfl (quarters_ok a)
  rw [whole_back hq] at c2
  have C2 := Lib.hid c2
  clear c2
  have c3 := fun v u w hv hu => psub_any v u a b w hv hu h1
  have he0 : (bothE a b == 0) = false := by simpa using he
  rw [okL_ne he] at c3
  have C3 := Lib.hid c3
  obtain ⟨ao, cap, rfl⟩ := hv.shape
  obtain ⟨ao2, cap2, rfl⟩ := hu.shape
  have hq1 : ((a.length : Int) == 64) = true := by simp [hq]
  clear hg hv hu c3 hq he
  generalize bothE a b = k0 at *
  go_enter Tryd.func8, Tryd.ntmps8
  have g0 : Below w.heap.size w w := Below.refl _ _
  go_wp2_with fail
  refine (first_any _ (HG.out.ext (by go_grown))).mono ?_
  rintro e w1 ⟨rfl, hb1⟩
  have j1 : Below w.heap.size w w1 := ext (by go_grown) hb1
  have g1 : Below w.heap.size w w1 := ext g0 j1
  have s1 := j1.size
  have t1 := g1.size
  go_wp2_with fail
  refine (C1.out _ _ ((HV.out.ext j1).ext (by go_grown))).mono ?_
  rintro e w2 ⟨L, rfl, hr, hb2⟩
  have j2 : Below w1.heap.size w1 w2 := ext (by go_grown) hb2
  have g2 : Below w.heap.size w w2 := ext g1 j2
  have s2 := j2.size
  have t2 := g2.size
  have HR := Lib.hid (hr)
  clear hr
  go_wp2_with fail
  refine (C2.out _ _ (HR.out.ext (by go_grown))).mono ?_
  rintro e w3 ⟨x, rfl, hx, hb3⟩
  have j3 : Below w2.heap.size w2 w3 := ext (by go_grown) hb3
  have g3 : Below w.heap.size w w3 := ext g2 j3
  have s3 := j3.size
  have t3 := g3.size
  have HX := Lib.hid (hx.ints)
  clear hx
  go_wp2_with fail
  refine (ints_any _ _ _ _ _ (HX.out.ext (by go_grown)) ((((HV.out.ext j1).ext j2).ext j3).ext (by go_grown))).mono ?_
  rintro e w4 ⟨rfl, hb4⟩
  have j4 : Below w3.heap.size w3 w4 := ext (by go_grown) hb4
  have g4 : Below w.heap.size w w4 := ext g3 j4
  have s4 := j4.size
  have t4 := g4.size
  simp only [decide_true]
  go_wp2_with fail
  refine (C3.out _ _ _ (((((HV.out.ext j1).ext j2).ext j3).ext j4).ext (by go_grown)) (((((HU.out.ext j1).ext j2).ext j3).ext j4).ext (by go_grown))).mono ?_
  rintro e w5 ⟨d, rfl, -, hb5⟩
  have j5 : Below w4.heap.size w4 w5 := ext (by go_grown) hb5
  have g5 : Below w.heap.size w w5 := ext g4 j5
  have s5 := j5.size
  have t5 := g5.size
  go_wp2_with fail
  refine (first_any _ ((((((HG.out.ext j1).ext j2).ext j3).ext j4).ext j5).ext (by go_grown))).mono ?_
  rintro e w6 ⟨rfl, hb6⟩
  have j6 : Below w5.heap.size w5 w6 := ext (by go_grown) hb6
  have g6 : Below w.heap.size w w6 := ext g5 j6
  have s6 := j6.size
  have t6 := g6.size
  go_wp2
  all_goals go_returns
  all_goals exact ⟨by first | rfl | (simp; done) | (simp; omega), g6⟩

set_option maxRecDepth 100000 in
set_option maxHeartbeats 4000000 in
theorem back_q1 (v u : Value) (a b : List Int) (w : World) (hv : Ints w v a) (hu : Ints w u b) (hg : TypeIs w) (h1 : a.length ≤ 5000) (h2 : b.length ≤ 5000) (hq : a.length = 64) (he : bothE a b = 0) (hw : withinB a 0 255 = false) :
    Calls Tryd.prog 8 #[v, u] w fun e w' => e = .returned (.bool true) ∧ Below w.heap.size w w' := by
  have HG := Lib.hid hg
  have HV := Lib.hid hv
  have HU := Lib.hid hu
  have C1 := Lib.hid (fun v w hv => pquarter_ok v a w hv hq)
  have c2 := fun v w hv => pwhole_ok v [quarterL a 0, quarterL a 1, quarterL a 2, quarterL a 3] w hv rfl (quarters_ok a)
  rw [whole_back hq] at c2
  have C2 := Lib.hid c2
  clear c2
  have c3 := fun v u w hv hu => psub_any v u a b w hv hu h1
  rw [he, okL_zero rfl] at c3
  have c4 := fun v w hv => within_any v a 0 255 w hv
  rw [hw] at c4
  have C4 := Lib.hid c4
  have C3 := Lib.hid c3
  obtain ⟨ao, cap, rfl⟩ := hv.shape
  obtain ⟨ao2, cap2, rfl⟩ := hu.shape
  have hq1 : ((a.length : Int) == 64) = true := by simp [hq]
  clear hg hv hu c3 hq he c4 hw
  generalize subV a b = sab at *
  go_enter Tryd.func8, Tryd.ntmps8
  have g0 : Below w.heap.size w w := Below.refl _ _
  go_wp2_with fail
  refine (first_any _ (HG.out.ext (by go_grown))).mono ?_
  rintro e w1 ⟨rfl, hb1⟩
  have j1 : Below w.heap.size w w1 := ext (by go_grown) hb1
  have g1 : Below w.heap.size w w1 := ext g0 j1
  have s1 := j1.size
  have t1 := g1.size
  go_wp2_with fail
  refine (C1.out _ _ ((HV.out.ext j1).ext (by go_grown))).mono ?_
  rintro e w2 ⟨L, rfl, hr, hb2⟩
  have j2 : Below w1.heap.size w1 w2 := ext (by go_grown) hb2
  have g2 : Below w.heap.size w w2 := ext g1 j2
  have s2 := j2.size
  have t2 := g2.size
  have HR := Lib.hid (hr)
  clear hr
  go_wp2_with fail
  refine (C2.out _ _ (HR.out.ext (by go_grown))).mono ?_
  rintro e w3 ⟨x, rfl, hx, hb3⟩
  have j3 : Below w2.heap.size w2 w3 := ext (by go_grown) hb3
  have g3 : Below w.heap.size w w3 := ext g2 j3
  have s3 := j3.size
  have t3 := g3.size
  have HX := Lib.hid (hx.ints)
  clear hx
  go_wp2_with fail
  refine (ints_any _ _ _ _ _ (HX.out.ext (by go_grown)) ((((HV.out.ext j1).ext j2).ext j3).ext (by go_grown))).mono ?_
  rintro e w4 ⟨rfl, hb4⟩
  have j4 : Below w3.heap.size w3 w4 := ext (by go_grown) hb4
  have g4 : Below w.heap.size w w4 := ext g3 j4
  have s4 := j4.size
  have t4 := g4.size
  simp only [decide_true]
  go_wp2_with fail
  refine (C3.out _ _ _ (((((HV.out.ext j1).ext j2).ext j3).ext j4).ext (by go_grown)) (((((HU.out.ext j1).ext j2).ext j3).ext j4).ext (by go_grown))).mono ?_
  rintro e w5 ⟨d, rfl, hd, hb5⟩
  have j5 : Below w4.heap.size w4 w5 := ext (by go_grown) hb5
  have g5 : Below w.heap.size w w5 := ext g4 j5
  have s5 := j5.size
  have t5 := g5.size
  have HD := Lib.hid (hd.ints)
  clear hd
  go_wp2_with fail
  refine (C4.out _ _ ((((((HV.out.ext j1).ext j2).ext j3).ext j4).ext j5).ext (by go_grown))).mono ?_
  rintro e w' ⟨rfl, rfl⟩
  go_wp2_with fail
  refine (first_any _ ((((((HG.out.ext j1).ext j2).ext j3).ext j4).ext j5).ext (by go_grown))).mono ?_
  rintro e w6 ⟨rfl, hb6⟩
  have j6 : Below w5.heap.size w5 w6 := ext (by go_grown) hb6
  have g6 : Below w.heap.size w w6 := ext g5 j6
  have s6 := j6.size
  have t6 := g6.size
  go_wp2
  all_goals go_returns
  all_goals exact ⟨by first | rfl | (simp; done) | (simp; omega), g6⟩

set_option maxRecDepth 100000 in
set_option maxHeartbeats 4000000 in
theorem back_q2 (v u : Value) (a b : List Int) (w : World) (hv : Ints w v a) (hu : Ints w u b) (hg : TypeIs w) (h1 : a.length ≤ 5000) (h2 : b.length ≤ 5000) (hq : a.length = 64) (he : bothE a b = 0) (hw : withinB a 0 255 = true) (hf : bothE b (subV a b) ≠ 0) :
    Calls Tryd.prog 8 #[v, u] w fun e w' => e = .returned (.bool true) ∧ Below w.heap.size w w' := by
  have HG := Lib.hid hg
  have HV := Lib.hid hv
  have HU := Lib.hid hu
  have C1 := Lib.hid (fun v w hv => pquarter_ok v a w hv hq)
  have c2 := fun v w hv => pwhole_ok v [quarterL a 0, quarterL a 1, quarterL a 2, quarterL a 3] w hv rfl (quarters_ok a)
  rw [whole_back hq] at c2
  have C2 := Lib.hid c2
  clear c2
  have c3 := fun v u w hv hu => psub_any v u a b w hv hu h1
  rw [he, okL_zero rfl] at c3
  have c4 := fun v w hv => within_any v a 0 255 w hv
  rw [hw] at c4
  have C4 := Lib.hid c4
  have c5 := fun v u w hv hu => padd_any v u b (subV a b) w hv hu h2
  have hwb : withinB b 0 255 = false := by
    cases h : withinB b 0 255 with
    | false => rfl
    | true => exact absurd (bothE_ok ((bothE_zero he).1.symm.trans (length_subV a b).symm) (bothE_zero he).2.2 (sub_within hw h)) hf
  have hf0 : (bothE b (subV a b) == 0) = false := by simpa using hf
  rw [okL_ne hf] at c5
  have c6 := fun v w hv => within_any v b 0 255 w hv
  rw [hwb] at c6
  have C6 := Lib.hid c6
  clear c6 hwb
  have C5 := Lib.hid c5
  have C3 := Lib.hid c3
  obtain ⟨ao, cap, rfl⟩ := hv.shape
  obtain ⟨ao2, cap2, rfl⟩ := hu.shape
  have hq1 : ((a.length : Int) == 64) = true := by simp [hq]
  clear hg hv hu c3 hq he c4 hw c5 hf
  generalize bothE b (subV a b) = k1 at *
  generalize subV a b = sab at *
  go_enter Tryd.func8, Tryd.ntmps8
  have g0 : Below w.heap.size w w := Below.refl _ _
  go_wp2_with fail
  refine (first_any _ (HG.out.ext (by go_grown))).mono ?_
  rintro e w1 ⟨rfl, hb1⟩
  have j1 : Below w.heap.size w w1 := ext (by go_grown) hb1
  have g1 : Below w.heap.size w w1 := ext g0 j1
  have s1 := j1.size
  have t1 := g1.size
  go_wp2_with fail
  refine (C1.out _ _ ((HV.out.ext j1).ext (by go_grown))).mono ?_
  rintro e w2 ⟨L, rfl, hr, hb2⟩
  have j2 : Below w1.heap.size w1 w2 := ext (by go_grown) hb2
  have g2 : Below w.heap.size w w2 := ext g1 j2
  have s2 := j2.size
  have t2 := g2.size
  have HR := Lib.hid (hr)
  clear hr
  go_wp2_with fail
  refine (C2.out _ _ (HR.out.ext (by go_grown))).mono ?_
  rintro e w3 ⟨x, rfl, hx, hb3⟩
  have j3 : Below w2.heap.size w2 w3 := ext (by go_grown) hb3
  have g3 : Below w.heap.size w w3 := ext g2 j3
  have s3 := j3.size
  have t3 := g3.size
  have HX := Lib.hid (hx.ints)
  clear hx
  go_wp2_with fail
  refine (ints_any _ _ _ _ _ (HX.out.ext (by go_grown)) ((((HV.out.ext j1).ext j2).ext j3).ext (by go_grown))).mono ?_
  rintro e w4 ⟨rfl, hb4⟩
  have j4 : Below w3.heap.size w3 w4 := ext (by go_grown) hb4
  have g4 : Below w.heap.size w w4 := ext g3 j4
  have s4 := j4.size
  have t4 := g4.size
  simp only [decide_true]
  go_wp2_with fail
  refine (C3.out _ _ _ (((((HV.out.ext j1).ext j2).ext j3).ext j4).ext (by go_grown)) (((((HU.out.ext j1).ext j2).ext j3).ext j4).ext (by go_grown))).mono ?_
  rintro e w5 ⟨d, rfl, hd, hb5⟩
  have j5 : Below w4.heap.size w4 w5 := ext (by go_grown) hb5
  have g5 : Below w.heap.size w w5 := ext g4 j5
  have s5 := j5.size
  have t5 := g5.size
  have HD := Lib.hid (hd.ints)
  clear hd
  go_wp2_with fail
  refine (C4.out _ _ ((((((HV.out.ext j1).ext j2).ext j3).ext j4).ext j5).ext (by go_grown))).mono ?_
  rintro e w' ⟨rfl, rfl⟩
  go_wp2_with fail
  refine (C5.out _ _ _ ((((((HU.out.ext j1).ext j2).ext j3).ext j4).ext j5).ext (by go_grown)) (HD.out.ext (by go_grown))).mono ?_
  rintro e w6 ⟨d2, rfl, -, hb6⟩
  have j6 : Below w5.heap.size w5 w6 := ext (by go_grown) hb6
  have g6 : Below w.heap.size w w6 := ext g5 j6
  have s6 := j6.size
  have t6 := g6.size
  go_wp2_with fail
  refine (first_any _ (((((((HG.out.ext j1).ext j2).ext j3).ext j4).ext j5).ext j6).ext (by go_grown))).mono ?_
  rintro e w7 ⟨rfl, hb7⟩
  have j7 : Below w6.heap.size w6 w7 := ext (by go_grown) hb7
  have g7 : Below w.heap.size w w7 := ext g6 j7
  have s7 := j7.size
  have t7 := g7.size
  go_wp2_with fail
  refine (C6.out _ _ ((((((((HU.out.ext j1).ext j2).ext j3).ext j4).ext j5).ext j6).ext j7).ext (by go_grown))).mono ?_
  rintro e w' ⟨rfl, rfl⟩
  go_wp2
  all_goals go_returns
  all_goals exact ⟨by first | rfl | (simp; done) | (simp; omega), g7⟩

set_option maxRecDepth 100000 in
set_option maxHeartbeats 4000000 in
theorem back_q3 (v u : Value) (a b : List Int) (w : World) (hv : Ints w v a) (hu : Ints w u b) (hg : TypeIs w) (h1 : a.length ≤ 5000) (h2 : b.length ≤ 5000) (hq : a.length = 64) (he : bothE a b = 0) (hw : withinB a 0 255 = true) (hf : bothE b (subV a b) = 0) :
    Calls Tryd.prog 8 #[v, u] w fun e w' => e = .returned (.bool true) ∧ Below w.heap.size w w' := by
  have HG := Lib.hid hg
  have HV := Lib.hid hv
  have HU := Lib.hid hu
  have C1 := Lib.hid (fun v w hv => pquarter_ok v a w hv hq)
  have c2 := fun v w hv => pwhole_ok v [quarterL a 0, quarterL a 1, quarterL a 2, quarterL a 3] w hv rfl (quarters_ok a)
  rw [whole_back hq] at c2
  have C2 := Lib.hid c2
  clear c2
  have c3 := fun v u w hv hu => psub_any v u a b w hv hu h1
  rw [he, okL_zero rfl] at c3
  have c4 := fun v w hv => within_any v a 0 255 w hv
  rw [hw] at c4
  have C4 := Lib.hid c4
  have c5 := fun v u w hv hu => padd_any v u b (subV a b) w hv hu h2
  rw [hf, okL_zero rfl, add_sub (bothE_zero he).1 hw] at c5
  have haa : bothE a a = 0 := bothE_ok rfl (bothE_zero he).2.1 (bothE_zero he).2.1
  have c7 := fun v u w hv hu => psub_any v u a a w hv hu h1
  rw [haa, okL_zero rfl] at c7
  have C7 := Lib.hid c7
  have c8 := fun v w hv => pzero_any v (subV a a) w hv
  rw [sub_self a] at c8
  have C8 := Lib.hid c8
  clear c7 c8 haa
  have C5 := Lib.hid c5
  have C3 := Lib.hid c3
  obtain ⟨ao, cap, rfl⟩ := hv.shape
  obtain ⟨ao2, cap2, rfl⟩ := hu.shape
  have hq1 : ((a.length : Int) == 64) = true := by simp [hq]
  clear hg hv hu c3 hq he c4 hw c5 hf
  generalize subV a b = sab at *
  go_enter Tryd.func8, Tryd.ntmps8
  have g0 : Below w.heap.size w w := Below.refl _ _
  go_wp2_with fail
  refine (first_any _ (HG.out.ext (by go_grown))).mono ?_
  rintro e w1 ⟨rfl, hb1⟩
  have j1 : Below w.heap.size w w1 := ext (by go_grown) hb1
  have g1 : Below w.heap.size w w1 := ext g0 j1
  have s1 := j1.size
  have t1 := g1.size
  go_wp2_with fail
  refine (C1.out _ _ ((HV.out.ext j1).ext (by go_grown))).mono ?_
  rintro e w2 ⟨L, rfl, hr, hb2⟩
  have j2 : Below w1.heap.size w1 w2 := ext (by go_grown) hb2
  have g2 : Below w.heap.size w w2 := ext g1 j2
  have s2 := j2.size
  have t2 := g2.size
  have HR := Lib.hid (hr)
  clear hr
  go_wp2_with fail
  refine (C2.out _ _ (HR.out.ext (by go_grown))).mono ?_
  rintro e w3 ⟨x, rfl, hx, hb3⟩
  have j3 : Below w2.heap.size w2 w3 := ext (by go_grown) hb3
  have g3 : Below w.heap.size w w3 := ext g2 j3
  have s3 := j3.size
  have t3 := g3.size
  have HX := Lib.hid (hx.ints)
  clear hx
  go_wp2_with fail
  refine (ints_any _ _ _ _ _ (HX.out.ext (by go_grown)) ((((HV.out.ext j1).ext j2).ext j3).ext (by go_grown))).mono ?_
  rintro e w4 ⟨rfl, hb4⟩
  have j4 : Below w3.heap.size w3 w4 := ext (by go_grown) hb4
  have g4 : Below w.heap.size w w4 := ext g3 j4
  have s4 := j4.size
  have t4 := g4.size
  simp only [decide_true]
  go_wp2_with fail
  refine (C3.out _ _ _ (((((HV.out.ext j1).ext j2).ext j3).ext j4).ext (by go_grown)) (((((HU.out.ext j1).ext j2).ext j3).ext j4).ext (by go_grown))).mono ?_
  rintro e w5 ⟨d, rfl, hd, hb5⟩
  have j5 : Below w4.heap.size w4 w5 := ext (by go_grown) hb5
  have g5 : Below w.heap.size w w5 := ext g4 j5
  have s5 := j5.size
  have t5 := g5.size
  have HD := Lib.hid (hd.ints)
  clear hd
  go_wp2_with fail
  refine (C4.out _ _ ((((((HV.out.ext j1).ext j2).ext j3).ext j4).ext j5).ext (by go_grown))).mono ?_
  rintro e w' ⟨rfl, rfl⟩
  go_wp2_with fail
  refine (C5.out _ _ _ ((((((HU.out.ext j1).ext j2).ext j3).ext j4).ext j5).ext (by go_grown)) (HD.out.ext (by go_grown))).mono ?_
  rintro e w6 ⟨d2, rfl, hs, hb6⟩
  have j6 : Below w5.heap.size w5 w6 := ext (by go_grown) hb6
  have g6 : Below w.heap.size w w6 := ext g5 j6
  have s6 := j6.size
  have t6 := g6.size
  have HS := Lib.hid (hs.ints)
  clear hs
  go_wp2_with fail
  refine (C7.out _ _ _ (((((((HV.out.ext j1).ext j2).ext j3).ext j4).ext j5).ext j6).ext (by go_grown)) (((((((HV.out.ext j1).ext j2).ext j3).ext j4).ext j5).ext j6).ext (by go_grown))).mono ?_
  rintro e w7 ⟨z, rfl, hz, hb7⟩
  have j7 : Below w6.heap.size w6 w7 := ext (by go_grown) hb7
  have g7 : Below w.heap.size w w7 := ext g6 j7
  have s7 := j7.size
  have t7 := g7.size
  have HZ := Lib.hid (hz.ints)
  clear hz
  go_wp2_with fail
  refine (first_any _ ((((((((HG.out.ext j1).ext j2).ext j3).ext j4).ext j5).ext j6).ext j7).ext (by go_grown))).mono ?_
  rintro e w8 ⟨rfl, hb8⟩
  have j8 : Below w7.heap.size w7 w8 := ext (by go_grown) hb8
  have g8 : Below w.heap.size w w8 := ext g7 j8
  have s8 := j8.size
  have t8 := g8.size
  go_wp2_with fail
  refine (ints_any _ _ _ _ _ (((HS.out.ext j7).ext j8).ext (by go_grown)) (((((((((HV.out.ext j1).ext j2).ext j3).ext j4).ext j5).ext j6).ext j7).ext j8).ext (by go_grown))).mono ?_
  rintro e w9 ⟨rfl, hb9⟩
  have j9 : Below w8.heap.size w8 w9 := ext (by go_grown) hb9
  have g9 : Below w.heap.size w w9 := ext g8 j9
  have s9 := j9.size
  have t9 := g9.size
  simp only [decide_true]
  go_wp2_with fail
  refine (C8.out _ _ (((HZ.out.ext j8).ext j9).ext (by go_grown))).mono ?_
  rintro e w' ⟨rfl, rfl⟩
  go_wp2
  all_goals go_returns
  all_goals exact ⟨by first | rfl | (simp; done) | (simp; omega), g9⟩

set_option maxRecDepth 100000 in
set_option maxHeartbeats 4000000 in
theorem back_n0 (v u : Value) (a b : List Int) (w : World) (hv : Ints w v a) (hu : Ints w u b) (hg : TypeIs w) (h1 : a.length ≤ 5000) (h2 : b.length ≤ 5000) (hq : a.length ≠ 64) (he : bothE a b ≠ 0) :
    Calls Tryd.prog 8 #[v, u] w fun e w' => e = .returned (.bool true) ∧ Below w.heap.size w w' := by
  have HG := Lib.hid hg
  have HV := Lib.hid hv
  have HU := Lib.hid hu
  have C1 := Lib.hid (fun v w hv => pquarter_no v a w hv hq)
  have c3 := fun v u w hv hu => psub_any v u a b w hv hu h1
  have he0 : (bothE a b == 0) = false := by simpa using he
  rw [okL_ne he] at c3
  have C3 := Lib.hid c3
  obtain ⟨ao, cap, rfl⟩ := hv.shape
  obtain ⟨ao2, cap2, rfl⟩ := hu.shape
  have hq1 : ((a.length : Int) == 64) = false := by simp; omega
  clear hg hv hu c3 hq he
  generalize bothE a b = k0 at *
  go_enter Tryd.func8, Tryd.ntmps8
  have g0 : Below w.heap.size w w := Below.refl _ _
  go_wp2_with fail
  refine (first_any _ (HG.out.ext (by go_grown))).mono ?_
  rintro e w1 ⟨rfl, hb1⟩
  have j1 : Below w.heap.size w w1 := ext (by go_grown) hb1
  have g1 : Below w.heap.size w w1 := ext g0 j1
  have s1 := j1.size
  have t1 := g1.size
  go_wp2_with fail
  refine (C1.out _ _ ((HV.out.ext j1).ext (by go_grown))).mono ?_
  rintro e w2 ⟨rfl, hb2⟩
  have j2 : Below w1.heap.size w1 w2 := ext (by go_grown) hb2
  have g2 : Below w.heap.size w w2 := ext g1 j2
  have s2 := j2.size
  have t2 := g2.size
  go_wp2_with fail
  refine (C3.out _ _ _ (((HV.out.ext j1).ext j2).ext (by go_grown)) (((HU.out.ext j1).ext j2).ext (by go_grown))).mono ?_
  rintro e w3 ⟨d, rfl, -, hb3⟩
  have j3 : Below w2.heap.size w2 w3 := ext (by go_grown) hb3
  have g3 : Below w.heap.size w w3 := ext g2 j3
  have s3 := j3.size
  have t3 := g3.size
  go_wp2_with fail
  refine (first_any _ ((((HG.out.ext j1).ext j2).ext j3).ext (by go_grown))).mono ?_
  rintro e w4 ⟨rfl, hb4⟩
  have j4 : Below w3.heap.size w3 w4 := ext (by go_grown) hb4
  have g4 : Below w.heap.size w w4 := ext g3 j4
  have s4 := j4.size
  have t4 := g4.size
  go_wp2
  all_goals go_returns
  all_goals exact ⟨by first | rfl | (simp; done) | (simp; omega), g4⟩

set_option maxRecDepth 100000 in
set_option maxHeartbeats 4000000 in
theorem back_n1 (v u : Value) (a b : List Int) (w : World) (hv : Ints w v a) (hu : Ints w u b) (hg : TypeIs w) (h1 : a.length ≤ 5000) (h2 : b.length ≤ 5000) (hq : a.length ≠ 64) (he : bothE a b = 0) (hw : withinB a 0 255 = false) :
    Calls Tryd.prog 8 #[v, u] w fun e w' => e = .returned (.bool true) ∧ Below w.heap.size w w' := by
  have HG := Lib.hid hg
  have HV := Lib.hid hv
  have HU := Lib.hid hu
  have C1 := Lib.hid (fun v w hv => pquarter_no v a w hv hq)
  have c3 := fun v u w hv hu => psub_any v u a b w hv hu h1
  rw [he, okL_zero rfl] at c3
  have c4 := fun v w hv => within_any v a 0 255 w hv
  rw [hw] at c4
  have C4 := Lib.hid c4
  have C3 := Lib.hid c3
  obtain ⟨ao, cap, rfl⟩ := hv.shape
  obtain ⟨ao2, cap2, rfl⟩ := hu.shape
  have hq1 : ((a.length : Int) == 64) = false := by simp; omega
  clear hg hv hu c3 hq he c4 hw
  generalize subV a b = sab at *
  go_enter Tryd.func8, Tryd.ntmps8
  have g0 : Below w.heap.size w w := Below.refl _ _
  go_wp2_with fail
  refine (first_any _ (HG.out.ext (by go_grown))).mono ?_
  rintro e w1 ⟨rfl, hb1⟩
  have j1 : Below w.heap.size w w1 := ext (by go_grown) hb1
  have g1 : Below w.heap.size w w1 := ext g0 j1
  have s1 := j1.size
  have t1 := g1.size
  go_wp2_with fail
  refine (C1.out _ _ ((HV.out.ext j1).ext (by go_grown))).mono ?_
  rintro e w2 ⟨rfl, hb2⟩
  have j2 : Below w1.heap.size w1 w2 := ext (by go_grown) hb2
  have g2 : Below w.heap.size w w2 := ext g1 j2
  have s2 := j2.size
  have t2 := g2.size
  go_wp2_with fail
  refine (C3.out _ _ _ (((HV.out.ext j1).ext j2).ext (by go_grown)) (((HU.out.ext j1).ext j2).ext (by go_grown))).mono ?_
  rintro e w3 ⟨d, rfl, hd, hb3⟩
  have j3 : Below w2.heap.size w2 w3 := ext (by go_grown) hb3
  have g3 : Below w.heap.size w w3 := ext g2 j3
  have s3 := j3.size
  have t3 := g3.size
  have HD := Lib.hid (hd.ints)
  clear hd
  go_wp2_with fail
  refine (C4.out _ _ ((((HV.out.ext j1).ext j2).ext j3).ext (by go_grown))).mono ?_
  rintro e w' ⟨rfl, rfl⟩
  go_wp2_with fail
  refine (first_any _ ((((HG.out.ext j1).ext j2).ext j3).ext (by go_grown))).mono ?_
  rintro e w4 ⟨rfl, hb4⟩
  have j4 : Below w3.heap.size w3 w4 := ext (by go_grown) hb4
  have g4 : Below w.heap.size w w4 := ext g3 j4
  have s4 := j4.size
  have t4 := g4.size
  go_wp2
  all_goals go_returns
  all_goals exact ⟨by first | rfl | (simp; done) | (simp; omega), g4⟩

set_option maxRecDepth 100000 in
set_option maxHeartbeats 4000000 in
theorem back_n2 (v u : Value) (a b : List Int) (w : World) (hv : Ints w v a) (hu : Ints w u b) (hg : TypeIs w) (h1 : a.length ≤ 5000) (h2 : b.length ≤ 5000) (hq : a.length ≠ 64) (he : bothE a b = 0) (hw : withinB a 0 255 = true) (hf : bothE b (subV a b) ≠ 0) :
    Calls Tryd.prog 8 #[v, u] w fun e w' => e = .returned (.bool true) ∧ Below w.heap.size w w' := by
  have HG := Lib.hid hg
  have HV := Lib.hid hv
  have HU := Lib.hid hu
  have C1 := Lib.hid (fun v w hv => pquarter_no v a w hv hq)
  have c3 := fun v u w hv hu => psub_any v u a b w hv hu h1
  rw [he, okL_zero rfl] at c3
  have c4 := fun v w hv => within_any v a 0 255 w hv
  rw [hw] at c4
  have C4 := Lib.hid c4
  have c5 := fun v u w hv hu => padd_any v u b (subV a b) w hv hu h2
  have hwb : withinB b 0 255 = false := by
    cases h : withinB b 0 255 with
    | false => rfl
    | true => exact absurd (bothE_ok ((bothE_zero he).1.symm.trans (length_subV a b).symm) (bothE_zero he).2.2 (sub_within hw h)) hf
  have hf0 : (bothE b (subV a b) == 0) = false := by simpa using hf
  rw [okL_ne hf] at c5
  have c6 := fun v w hv => within_any v b 0 255 w hv
  rw [hwb] at c6
  have C6 := Lib.hid c6
  clear c6 hwb
  have C5 := Lib.hid c5
  have C3 := Lib.hid c3
  obtain ⟨ao, cap, rfl⟩ := hv.shape
  obtain ⟨ao2, cap2, rfl⟩ := hu.shape
  have hq1 : ((a.length : Int) == 64) = false := by simp; omega
  clear hg hv hu c3 hq he c4 hw c5 hf
  generalize bothE b (subV a b) = k1 at *
  generalize subV a b = sab at *
  go_enter Tryd.func8, Tryd.ntmps8
  have g0 : Below w.heap.size w w := Below.refl _ _
  go_wp2_with fail
  refine (first_any _ (HG.out.ext (by go_grown))).mono ?_
  rintro e w1 ⟨rfl, hb1⟩
  have j1 : Below w.heap.size w w1 := ext (by go_grown) hb1
  have g1 : Below w.heap.size w w1 := ext g0 j1
  have s1 := j1.size
  have t1 := g1.size
  go_wp2_with fail
  refine (C1.out _ _ ((HV.out.ext j1).ext (by go_grown))).mono ?_
  rintro e w2 ⟨rfl, hb2⟩
  have j2 : Below w1.heap.size w1 w2 := ext (by go_grown) hb2
  have g2 : Below w.heap.size w w2 := ext g1 j2
  have s2 := j2.size
  have t2 := g2.size
  go_wp2_with fail
  refine (C3.out _ _ _ (((HV.out.ext j1).ext j2).ext (by go_grown)) (((HU.out.ext j1).ext j2).ext (by go_grown))).mono ?_
  rintro e w3 ⟨d, rfl, hd, hb3⟩
  have j3 : Below w2.heap.size w2 w3 := ext (by go_grown) hb3
  have g3 : Below w.heap.size w w3 := ext g2 j3
  have s3 := j3.size
  have t3 := g3.size
  have HD := Lib.hid (hd.ints)
  clear hd
  go_wp2_with fail
  refine (C4.out _ _ ((((HV.out.ext j1).ext j2).ext j3).ext (by go_grown))).mono ?_
  rintro e w' ⟨rfl, rfl⟩
  go_wp2_with fail
  refine (C5.out _ _ _ ((((HU.out.ext j1).ext j2).ext j3).ext (by go_grown)) (HD.out.ext (by go_grown))).mono ?_
  rintro e w4 ⟨d2, rfl, -, hb4⟩
  have j4 : Below w3.heap.size w3 w4 := ext (by go_grown) hb4
  have g4 : Below w.heap.size w w4 := ext g3 j4
  have s4 := j4.size
  have t4 := g4.size
  go_wp2_with fail
  refine (first_any _ (((((HG.out.ext j1).ext j2).ext j3).ext j4).ext (by go_grown))).mono ?_
  rintro e w5 ⟨rfl, hb5⟩
  have j5 : Below w4.heap.size w4 w5 := ext (by go_grown) hb5
  have g5 : Below w.heap.size w w5 := ext g4 j5
  have s5 := j5.size
  have t5 := g5.size
  go_wp2_with fail
  refine (C6.out _ _ ((((((HU.out.ext j1).ext j2).ext j3).ext j4).ext j5).ext (by go_grown))).mono ?_
  rintro e w' ⟨rfl, rfl⟩
  go_wp2
  all_goals go_returns
  all_goals exact ⟨by first | rfl | (simp; done) | (simp; omega), g5⟩

set_option maxRecDepth 100000 in
set_option maxHeartbeats 4000000 in
theorem back_n3 (v u : Value) (a b : List Int) (w : World) (hv : Ints w v a) (hu : Ints w u b) (hg : TypeIs w) (h1 : a.length ≤ 5000) (h2 : b.length ≤ 5000) (hq : a.length ≠ 64) (he : bothE a b = 0) (hw : withinB a 0 255 = true) (hf : bothE b (subV a b) = 0) :
    Calls Tryd.prog 8 #[v, u] w fun e w' => e = .returned (.bool true) ∧ Below w.heap.size w w' := by
  have HG := Lib.hid hg
  have HV := Lib.hid hv
  have HU := Lib.hid hu
  have C1 := Lib.hid (fun v w hv => pquarter_no v a w hv hq)
  have c3 := fun v u w hv hu => psub_any v u a b w hv hu h1
  rw [he, okL_zero rfl] at c3
  have c4 := fun v w hv => within_any v a 0 255 w hv
  rw [hw] at c4
  have C4 := Lib.hid c4
  have c5 := fun v u w hv hu => padd_any v u b (subV a b) w hv hu h2
  rw [hf, okL_zero rfl, add_sub (bothE_zero he).1 hw] at c5
  have haa : bothE a a = 0 := bothE_ok rfl (bothE_zero he).2.1 (bothE_zero he).2.1
  have c7 := fun v u w hv hu => psub_any v u a a w hv hu h1
  rw [haa, okL_zero rfl] at c7
  have C7 := Lib.hid c7
  have c8 := fun v w hv => pzero_any v (subV a a) w hv
  rw [sub_self a] at c8
  have C8 := Lib.hid c8
  clear c7 c8 haa
  have C5 := Lib.hid c5
  have C3 := Lib.hid c3
  obtain ⟨ao, cap, rfl⟩ := hv.shape
  obtain ⟨ao2, cap2, rfl⟩ := hu.shape
  have hq1 : ((a.length : Int) == 64) = false := by simp; omega
  clear hg hv hu c3 hq he c4 hw c5 hf
  generalize subV a b = sab at *
  go_enter Tryd.func8, Tryd.ntmps8
  have g0 : Below w.heap.size w w := Below.refl _ _
  go_wp2_with fail
  refine (first_any _ (HG.out.ext (by go_grown))).mono ?_
  rintro e w1 ⟨rfl, hb1⟩
  have j1 : Below w.heap.size w w1 := ext (by go_grown) hb1
  have g1 : Below w.heap.size w w1 := ext g0 j1
  have s1 := j1.size
  have t1 := g1.size
  go_wp2_with fail
  refine (C1.out _ _ ((HV.out.ext j1).ext (by go_grown))).mono ?_
  rintro e w2 ⟨rfl, hb2⟩
  have j2 : Below w1.heap.size w1 w2 := ext (by go_grown) hb2
  have g2 : Below w.heap.size w w2 := ext g1 j2
  have s2 := j2.size
  have t2 := g2.size
  go_wp2_with fail
  refine (C3.out _ _ _ (((HV.out.ext j1).ext j2).ext (by go_grown)) (((HU.out.ext j1).ext j2).ext (by go_grown))).mono ?_
  rintro e w3 ⟨d, rfl, hd, hb3⟩
  have j3 : Below w2.heap.size w2 w3 := ext (by go_grown) hb3
  have g3 : Below w.heap.size w w3 := ext g2 j3
  have s3 := j3.size
  have t3 := g3.size
  have HD := Lib.hid (hd.ints)
  clear hd
  go_wp2_with fail
  refine (C4.out _ _ ((((HV.out.ext j1).ext j2).ext j3).ext (by go_grown))).mono ?_
  rintro e w' ⟨rfl, rfl⟩
  go_wp2_with fail
  refine (C5.out _ _ _ ((((HU.out.ext j1).ext j2).ext j3).ext (by go_grown)) (HD.out.ext (by go_grown))).mono ?_
  rintro e w4 ⟨d2, rfl, hs, hb4⟩
  have j4 : Below w3.heap.size w3 w4 := ext (by go_grown) hb4
  have g4 : Below w.heap.size w w4 := ext g3 j4
  have s4 := j4.size
  have t4 := g4.size
  have HS := Lib.hid (hs.ints)
  clear hs
  go_wp2_with fail
  refine (C7.out _ _ _ (((((HV.out.ext j1).ext j2).ext j3).ext j4).ext (by go_grown)) (((((HV.out.ext j1).ext j2).ext j3).ext j4).ext (by go_grown))).mono ?_
  rintro e w5 ⟨z, rfl, hz, hb5⟩
  have j5 : Below w4.heap.size w4 w5 := ext (by go_grown) hb5
  have g5 : Below w.heap.size w w5 := ext g4 j5
  have s5 := j5.size
  have t5 := g5.size
  have HZ := Lib.hid (hz.ints)
  clear hz
  go_wp2_with fail
  refine (first_any _ ((((((HG.out.ext j1).ext j2).ext j3).ext j4).ext j5).ext (by go_grown))).mono ?_
  rintro e w6 ⟨rfl, hb6⟩
  have j6 : Below w5.heap.size w5 w6 := ext (by go_grown) hb6
  have g6 : Below w.heap.size w w6 := ext g5 j6
  have s6 := j6.size
  have t6 := g6.size
  go_wp2_with fail
  refine (ints_any _ _ _ _ _ (((HS.out.ext j5).ext j6).ext (by go_grown)) (((((((HV.out.ext j1).ext j2).ext j3).ext j4).ext j5).ext j6).ext (by go_grown))).mono ?_
  rintro e w7 ⟨rfl, hb7⟩
  have j7 : Below w6.heap.size w6 w7 := ext (by go_grown) hb7
  have g7 : Below w.heap.size w w7 := ext g6 j7
  have s7 := j7.size
  have t7 := g7.size
  simp only [decide_true]
  go_wp2_with fail
  refine (C8.out _ _ (((HZ.out.ext j6).ext j7).ext (by go_grown))).mono ?_
  rintro e w' ⟨rfl, rfl⟩
  go_wp2
  all_goals go_returns
  all_goals exact ⟨by first | rfl | (simp; done) | (simp; omega), g7⟩

theorem back_walk (v u : Value) (a b : List Int) (w : World) (hv : Ints w v a) (hu : Ints w u b) (hg : TypeIs w) :
    Calls Tryd.prog 8 #[v, u] w fun e w' => e = .returned (.bool true) ∧ Below w.heap.size w w' := by
  by_cases h : a.length ≤ 5000 ∧ b.length ≤ 5000
  · by_cases hq : a.length = 64
    · by_cases he : bothE a b = 0
      · cases hw : withinB a 0 255 with
        | false => exact back_q1 v u a b w hv hu hg h.1 h.2 hq he hw
        | true =>
          by_cases hf : bothE b (subV a b) = 0
          · exact back_q3 v u a b w hv hu hg h.1 h.2 hq he hw hf
          · exact back_q2 v u a b w hv hu hg h.1 h.2 hq he hw hf
      · exact back_q0 v u a b w hv hu hg h.1 h.2 hq he
    · by_cases he : bothE a b = 0
      · cases hw : withinB a 0 255 with
        | false => exact back_n1 v u a b w hv hu hg h.1 h.2 hq he hw
        | true =>
          by_cases hf : bothE b (subV a b) = 0
          · exact back_n3 v u a b w hv hu hg h.1 h.2 hq he hw hf
          · exact back_n2 v u a b w hv hu hg h.1 h.2 hq he hw hf
      · exact back_n0 v u a b w hv hu hg h.1 h.2 hq he
  · exact back_long v u a b w hv hu hg (by omega)
end Go.Proofs.YtceobpoibiffhaaDoor
