/- kinlaw16.SceneGroups: the walk. -/
import Derived.Test.YtpdhhnhpaahenaaDoorSceneR
import Derived.Test.YtpdhhnhpaahenaaDoorSceneF
set_option linter.unusedSimpArgs false
set_option linter.unusedVariables false
namespace Go.Proofs.YtpdhhnhpaahenaaDoor
open Go.RowKit Go.Extern.Stop Go.Stop Go.Extern
theorem least_ne {f : Nat → Int} : ∀ {n : Nat}, (∃ j, j < n ∧ f j ≠ 0) → ∃ i, i < n ∧ (∀ j, j < i → f j = 0) ∧ f i ≠ 0
  | 0, h => by obtain ⟨j, hj, _⟩ := h; omega
  | n + 1, h => by
    by_cases h2 : ∃ j, j < n ∧ f j ≠ 0
    · obtain ⟨i, h3, h4⟩ := least_ne h2
      exact ⟨i, by omega, h4⟩
    · obtain ⟨j, hj, hne⟩ := h
      have hz : ∀ j, j < n → f j = 0 := fun j hj => Classical.byContradiction fun h => h2 ⟨j, hj, h⟩
      rcases Nat.lt_or_ge j n with h3 | h3
      · exact absurd (hz j h3) hne
      · obtain rfl : j = n := by omega
        exact ⟨j, hj, hz, hne⟩
theorem pgrp_fault (v : Value) (fs : List Fr) (cut gop : Int) (w : World) (hv : Frames w v fs) (h : argE cut gop fs.length = 0) (i : Nat) (hi : i < fs.length) (hz : ∀ j, j < i → ueA fs j = 0) (hne : ueA fs i ≠ 0) :
    Calls Tryd.prog 14 #[v, .int .i64 cut, .int .i64 gop] w fun e w' => ∃ b, e = .returned (.tuple #[.slice none 0 0, .iface 69 (.pointer (some ⟨b, 0, none⟩))]) ∧ Blk w' b (fltC #[115, 99, 101, 110, 101] i (ueA fs i)) 72 ∧ Below w.heap.size w w' := by
  refine (pgrp_any v fs cut gop w hv h).mono fun e w' hp => ?_
  rcases hp with ⟨hz', -⟩ | ⟨i', hi', hz', hne', b, he, hb, -, hb2⟩
  · exact absurd (hz' i hi) hne
  · obtain rfl : i = i' := by
      rcases Nat.lt_trichotomy i i' with h1 | h1 | h1
      · exact absurd (hz' i h1) hne
      · exact h1
      · exact absurd (hz i' h1) hne'
    exact ⟨b, he, hb, hb2⟩
theorem rgrp_fault (v : Value) (fs : List Fr) (cut gop : Int) (w : World) (hv : Frames w v fs) (h : argE cut gop fs.length = 0) (i : Nat) (hi : i < fs.length) (hz : ∀ j, j < i → ueA fs j = 0) (hne : ueA fs i ≠ 0) :
    Calls Tryd.prog 15 #[v, .int .i64 cut, .int .i64 gop] w fun e w' => ∃ p, e = .returned (.tuple #[.slice none 0 0, .agg #[.int .i64 (ueA fs i), p]]) ∧ PathV w' p #[115, 99, 101, 110, 101] i ∧ Below w.heap.size w w' := by
  refine (rgrp_any v fs cut gop w hv h).mono fun e w' hp => ?_
  rcases hp with ⟨hz', -⟩ | ⟨i', hi', hz', hne', b, he, hb, hb2⟩
  · exact absurd (hz' i hi) hne
  · obtain rfl : i = i' := by
      rcases Nat.lt_trichotomy i i' with h1 | h1 | h1
      · exact absurd (hz' i h1) hne
      · exact h1
      · exact absurd (hz i' h1) hne'
    exact ⟨b, he, hb, hb2⟩
theorem rgrp_ok (v : Value) (fs : List Fr) (cut gop : Int) (w : World) (hv : Frames w v fs) (h : argE cut gop fs.length = 0) (hz : ∀ j, j < fs.length → ueA fs j = 0) :
    Calls Tryd.prog 15 #[v, .int .i64 cut, .int .i64 gop] w fun e w' => ∃ v', e = .returned (.tuple #[v', .agg #[.int .i64 0, .slice none 0 0]]) ∧ OwnG w' w.heap.size v' (grpTo fs cut gop fs.length) ∧ Below w.heap.size w w' := by
  refine (rgrp_any v fs cut gop w hv h).mono fun e w' hp => ?_
  rcases hp with ⟨-, h⟩ | ⟨i, h1, -, h2, -⟩
  · exact h
  · exact absurd (hz i h1) h2

set_option maxRecDepth 100000 in
set_option maxHeartbeats 16000000 in
theorem groups_p (v : Value) (fs : List Fr) (cut gop : Int) (w : World) (hv : Frames w v fs) (hg : TypeIs w) (hp : pixB fs = false) :
    Calls Tryd.prog 4 #[v, .int .i64 cut, .int .i64 gop] w fun e w' => e = .returned (.bool true) ∧ Below w.heap.size w w' := by
  have HG := Lib.hid hg
  have HV := Lib.hid hv
  have c1 := fun w h => pix_any v fs w h
  rw [hp] at c1
  have C1 := Lib.hid c1
  clear hv hg c1 hp
  go_enter Tryd.func4, Tryd.ntmps4
  have g0 : Below w.heap.size w w := Below.refl _ _
  go_wp2_with fail
  refine (first_any _ (HG.out.ext (by go_grown))).mono ?_
  rintro e w1 ⟨rfl, hb1⟩
  have j1 : Below w.heap.size w w1 := ext (by go_grown) hb1
  have g1 : Below w.heap.size w w1 := ext g0 j1
  have s1 := j1.size
  have t1 := g1.size
  go_wp2_with fail
  refine (C1.out _ ((HV.out.ext j1).ext (by go_grown))).mono ?_
  rintro e w2 ⟨rfl, hb2⟩
  have j2 : Below w1.heap.size w1 w2 := ext (by go_grown) hb2
  have g2 : Below w.heap.size w w2 := ext g1 j2
  have s2 := j2.size
  have t2 := g2.size
  go_wp2_with fail
  refine (first_any _ (((HG.out.ext j1).ext j2).ext (by go_grown))).mono ?_
  rintro e w3 ⟨rfl, hb3⟩
  have j3 : Below w2.heap.size w2 w3 := ext (by go_grown) hb3
  have g3 : Below w.heap.size w w3 := ext g2 j3
  have s3 := j3.size
  have t3 := g3.size
  go_wp2
  all_goals go_returns
  all_goals exact ⟨by first | rfl | (simp; done) | (simp; omega), g3⟩

set_option maxRecDepth 100000 in
set_option maxHeartbeats 16000000 in
theorem groups_a (v : Value) (fs : List Fr) (cut gop : Int) (w : World) (hv : Frames w v fs) (hg : TypeIs w) (hp : pixB fs = true) (ha : argE cut gop fs.length ≠ 0) :
    Calls Tryd.prog 4 #[v, .int .i64 cut, .int .i64 gop] w fun e w' => e = .returned (.bool true) ∧ Below w.heap.size w w' := by
  have HG := Lib.hid hg
  have HV := Lib.hid hv
  have c1 := fun w h => pix_any v fs w h
  rw [hp] at c1
  have C1 := Lib.hid c1
  have CC := Lib.hid (fun w h => copyframes_any v fs w h (by have := (pix_few hp).1; omega) (fun j hj => by have := (pix_few hp).2 j hj; show _ ≤ 1000000; unfold frA at this; omega))
  have c2 := fun v w h => pgrp_arg v fs cut gop w h ha
  have c3 := fun v w h => rgrp_arg v fs cut gop w h ha
  have c5 := fun w h => same_any (argE cut gop fs.length) w h
  generalize argE cut gop fs.length = k at *
  have C2 := Lib.hid c2
  have C3 := Lib.hid c3
  have C5 := Lib.hid c5
  clear hv hg c1 c2 c3 c5 hp ha
  go_enter Tryd.func4, Tryd.ntmps4
  have g0 : Below w.heap.size w w := Below.refl _ _
  go_wp2_with fail
  refine (first_any _ (HG.out.ext (by go_grown))).mono ?_
  rintro e w1 ⟨rfl, hb1⟩
  have j1 : Below w.heap.size w w1 := ext (by go_grown) hb1
  have g1 : Below w.heap.size w w1 := ext g0 j1
  have s1 := j1.size
  have t1 := g1.size
  go_wp2_with fail
  refine (C1.out _ ((HV.out.ext j1).ext (by go_grown))).mono ?_
  rintro e w2 ⟨rfl, hb2⟩
  have j2 : Below w1.heap.size w1 w2 := ext (by go_grown) hb2
  have g2 : Below w.heap.size w w2 := ext g1 j2
  have s2 := j2.size
  have t2 := g2.size
  go_wp2_with fail
  refine (CC.out _ (((HV.out.ext j1).ext j2).ext (by go_grown))).mono ?_
  rintro e w3 ⟨vi, rfl, oi, hb3⟩
  have j3 : Below w2.heap.size w2 w3 := ext (by go_grown) hb3
  have g3 : Below w.heap.size w w3 := ext g2 j3
  have s3 := j3.size
  have t3 := g3.size
  have HI := Lib.hid (oi.frames)
  clear oi
  go_wp2_with fail
  refine (C2.out _ _ (HI.out.ext (by go_grown))).mono ?_
  rintro e w4 ⟨rfl, hb4⟩
  have j4 : Below w3.heap.size w3 w4 := ext (by go_grown) hb4
  have g4 : Below w.heap.size w w4 := ext g3 j4
  have s4 := j4.size
  have t4 := g4.size
  go_wp2_with fail
  refine (C3.out _ _ (((((HV.out.ext j1).ext j2).ext j3).ext j4).ext (by go_grown))).mono ?_
  rintro e w5 ⟨rfl, hb5⟩
  have j5 : Below w4.heap.size w4 w5 := ext (by go_grown) hb5
  have g5 : Below w.heap.size w w5 := ext g4 j5
  have s5 := j5.size
  have t5 := g5.size
  go_wp2_with fail
  refine (first_any _ ((((((HG.out.ext j1).ext j2).ext j3).ext j4).ext j5).ext (by go_grown))).mono ?_
  rintro e w6 ⟨rfl, hb6⟩
  have j6 : Below w5.heap.size w5 w6 := ext (by go_grown) hb6
  have g6 : Below w.heap.size w w6 := ext g5 j6
  have s6 := j6.size
  have t6 := g6.size
  have BE := Lib.hid ((Blk.new w5 #[.int .i64 k, .slice none 0 0] 35).ext hb6)
  go_wp2_with fail
  refine (rgroups_same _ _ [] _ (Grps.nil _) (Grps.nil _)).mono ?_
  rintro e w7 ⟨rfl, hb7⟩
  have j7 : Below w6.heap.size w6 w7 := ext (by go_grown) hb7
  have g7 : Below w.heap.size w w7 := ext g6 j7
  have s7 := j7.size
  have t7 := g7.size
  obtain ⟨BE0, BE1, BE2, BE3⟩ := (BE.out.ext j7).two
  go_wp2_with fail
  clear BE0 BE1 BE2 BE3
  refine (C5.out _ ((((((((HG.out.ext j1).ext j2).ext j3).ext j4).ext j5).ext j6).ext j7).ext (by go_grown))).mono ?_
  rintro e w8 ⟨rfl, hb8⟩
  have j8 : Below w7.heap.size w7 w8 := ext (by go_grown) hb8
  have g8 : Below w.heap.size w w8 := ext g7 j8
  have s8 := j8.size
  have t8 := g8.size
  go_wp2_with fail
  refine (rframes_same _ _ _ _ ((((((HI.out.ext j4).ext j5).ext j6).ext j7).ext j8).ext (by go_grown)) (((((((((HV.out.ext j1).ext j2).ext j3).ext j4).ext j5).ext j6).ext j7).ext j8).ext (by go_grown))).mono ?_
  rintro e w9 ⟨rfl, hb9⟩
  have j9 : Below w8.heap.size w8 w9 := ext (by go_grown) hb9
  have g9 : Below w.heap.size w w9 := ext g8 j9
  have s9 := j9.size
  have t9 := g9.size
  go_wp2
  all_goals go_returns
  all_goals exact ⟨by first | rfl | (simp; done) | (simp; omega), g9⟩

set_option maxRecDepth 100000 in
set_option maxHeartbeats 16000000 in
theorem groups_g (v : Value) (fs : List Fr) (cut gop : Int) (w : World) (hv : Frames w v fs) (hg : TypeIs w) (hp : pixB fs = true) (ha : argE cut gop fs.length = 0) (hz : ∀ j, j < fs.length → ueA fs j = 0) :
    Calls Tryd.prog 4 #[v, .int .i64 cut, .int .i64 gop] w fun e w' => e = .returned (.bool true) ∧ Below w.heap.size w w' := by
  have HG := Lib.hid hg
  have HV := Lib.hid hv
  have c1 := fun w h => pix_any v fs w h
  rw [hp] at c1
  have C1 := Lib.hid c1
  have CC := Lib.hid (fun w h => copyframes_any v fs w h (by have := (pix_few hp).1; omega) (fun j hj => by have := (pix_few hp).2 j hj; show _ ≤ 1000000; unfold frA at this; omega))
  have C2 := Lib.hid (fun v w h => pgrp_ok v fs cut gop w h ha hz)
  have C3 := Lib.hid (fun v w h => rgrp_ok v fs cut gop w h ha hz)
  clear hv hg c1 hp ha hz
  go_enter Tryd.func4, Tryd.ntmps4
  have g0 : Below w.heap.size w w := Below.refl _ _
  go_wp2_with fail
  refine (first_any _ (HG.out.ext (by go_grown))).mono ?_
  rintro e w1 ⟨rfl, hb1⟩
  have j1 : Below w.heap.size w w1 := ext (by go_grown) hb1
  have g1 : Below w.heap.size w w1 := ext g0 j1
  have s1 := j1.size
  have t1 := g1.size
  go_wp2_with fail
  refine (C1.out _ ((HV.out.ext j1).ext (by go_grown))).mono ?_
  rintro e w2 ⟨rfl, hb2⟩
  have j2 : Below w1.heap.size w1 w2 := ext (by go_grown) hb2
  have g2 : Below w.heap.size w w2 := ext g1 j2
  have s2 := j2.size
  have t2 := g2.size
  go_wp2_with fail
  refine (CC.out _ (((HV.out.ext j1).ext j2).ext (by go_grown))).mono ?_
  rintro e w3 ⟨vi, rfl, oi, hb3⟩
  have j3 : Below w2.heap.size w2 w3 := ext (by go_grown) hb3
  have g3 : Below w.heap.size w w3 := ext g2 j3
  have s3 := j3.size
  have t3 := g3.size
  have HI := Lib.hid (oi.frames)
  clear oi
  go_wp2_with fail
  refine (C2.out _ _ (HI.out.ext (by go_grown))).mono ?_
  rintro e w4 ⟨va, rfl, oa, hb4⟩
  have j4 : Below w3.heap.size w3 w4 := ext (by go_grown) hb4
  have g4 : Below w.heap.size w w4 := ext g3 j4
  have s4 := j4.size
  have t4 := g4.size
  obtain ⟨aa, an, ac, rfl⟩ : ∃ aa an ac, va = .slice aa an ac := by obtain ⟨aa, ac, e⟩ := oa.grps.shape; exact ⟨aa, _, ac, e⟩
  have GA := Lib.hid (oa.grps)
  clear oa
  go_wp2_with fail
  refine (C3.out _ _ (((((HV.out.ext j1).ext j2).ext j3).ext j4).ext (by go_grown))).mono ?_
  rintro e w5 ⟨vb, rfl, ob, hb5⟩
  have j5 : Below w4.heap.size w4 w5 := ext (by go_grown) hb5
  have g5 : Below w.heap.size w w5 := ext g4 j5
  have s5 := j5.size
  have t5 := g5.size
  obtain ⟨ba, bn, bc, rfl⟩ : ∃ ba bn bc, vb = .slice ba bn bc := by obtain ⟨aa, ac, e⟩ := ob.grps.shape; exact ⟨aa, _, ac, e⟩
  have GB := Lib.hid (ob.grps)
  clear ob
  go_wp2_with fail
  refine (first_any _ ((((((HG.out.ext j1).ext j2).ext j3).ext j4).ext j5).ext (by go_grown))).mono ?_
  rintro e w6 ⟨rfl, hb6⟩
  have j6 : Below w5.heap.size w5 w6 := ext (by go_grown) hb6
  have g6 : Below w.heap.size w w6 := ext g5 j6
  have s6 := j6.size
  have t6 := g6.size
  have BE := Lib.hid ((Blk.new w5 #[.int .i64 0, .slice none 0 0] 35).ext hb6)
  go_wp2_with fail
  refine (rgroups_same _ _ _ _ (((GA.out.ext j5).ext j6).ext (by go_grown)) ((GB.out.ext j6).ext (by go_grown))).mono ?_
  rintro e w7 ⟨rfl, hb7⟩
  have j7 : Below w6.heap.size w6 w7 := ext (by go_grown) hb7
  have g7 : Below w.heap.size w w7 := ext g6 j7
  have s7 := j7.size
  have t7 := g7.size
  obtain ⟨BE0, BE1, BE2, BE3⟩ := (BE.out.ext j7).two
  go_wp2_with fail
  clear BE0 BE1 BE2 BE3
  refine (same_nn _).mono ?_
  rintro e w8 ⟨rfl, hb8⟩
  have j8 : Below w7.heap.size w7 w8 := ext (by go_grown) hb8
  have g8 : Below w.heap.size w w8 := ext g7 j8
  have s8 := j8.size
  have t8 := g8.size
  go_wp2_with fail
  refine (rframes_same _ _ _ _ ((((((HI.out.ext j4).ext j5).ext j6).ext j7).ext j8).ext (by go_grown)) (((((((((HV.out.ext j1).ext j2).ext j3).ext j4).ext j5).ext j6).ext j7).ext j8).ext (by go_grown))).mono ?_
  rintro e w9 ⟨rfl, hb9⟩
  have j9 : Below w8.heap.size w8 w9 := ext (by go_grown) hb9
  have g9 : Below w.heap.size w w9 := ext g8 j9
  have s9 := j9.size
  have t9 := g9.size
  go_wp2
  all_goals go_returns
  all_goals exact ⟨by first | rfl | (simp; done) | (simp; omega), g9⟩

set_option maxRecDepth 100000 in
set_option maxHeartbeats 16000000 in
theorem groups_f (v : Value) (fs : List Fr) (cut gop : Int) (w : World) (hv : Frames w v fs) (hg : TypeIs w) (hp : pixB fs = true) (ha : argE cut gop fs.length = 0) (i : Nat) (hi : i < fs.length) (hz : ∀ j, j < i → ueA fs j = 0) (hne : ueA fs i ≠ 0) :
    Calls Tryd.prog 4 #[v, .int .i64 cut, .int .i64 gop] w fun e w' => e = .returned (.bool true) ∧ Below w.heap.size w w' := by
  have HG := Lib.hid hg
  have HV := Lib.hid hv
  have c1 := fun w h => pix_any v fs w h
  rw [hp] at c1
  have C1 := Lib.hid c1
  have CC := Lib.hid (fun w h => copyframes_any v fs w h (by have := (pix_few hp).1; omega) (fun j hj => by have := (pix_few hp).2 j hj; show _ ≤ 1000000; unfold frA at this; omega))
  have c2 := fun v w h => pgrp_fault v fs cut gop w h ha i hi hz hne
  have c3 := fun v w h => rgrp_fault v fs cut gop w h ha i hi hz hne
  have hk : (ueA fs i == 0) = false := by rw [beq_eq_false_iff_ne]; exact hne
  generalize ueA fs i = k at *
  have C2 := Lib.hid c2
  have C3 := Lib.hid c3
  have HK := Lib.hid hk
  clear hv hg c1 c2 c3 hp ha hi hz hne hk
  go_enter Tryd.func4, Tryd.ntmps4
  have g0 : Below w.heap.size w w := Below.refl _ _
  go_wp2_with fail
  refine (first_any _ (HG.out.ext (by go_grown))).mono ?_
  rintro e w1 ⟨rfl, hb1⟩
  have j1 : Below w.heap.size w w1 := ext (by go_grown) hb1
  have g1 : Below w.heap.size w w1 := ext g0 j1
  have s1 := j1.size
  have t1 := g1.size
  go_wp2_with fail
  refine (C1.out _ ((HV.out.ext j1).ext (by go_grown))).mono ?_
  rintro e w2 ⟨rfl, hb2⟩
  have j2 : Below w1.heap.size w1 w2 := ext (by go_grown) hb2
  have g2 : Below w.heap.size w w2 := ext g1 j2
  have s2 := j2.size
  have t2 := g2.size
  go_wp2_with fail
  refine (CC.out _ (((HV.out.ext j1).ext j2).ext (by go_grown))).mono ?_
  rintro e w3 ⟨vi, rfl, oi, hb3⟩
  have j3 : Below w2.heap.size w2 w3 := ext (by go_grown) hb3
  have g3 : Below w.heap.size w w3 := ext g2 j3
  have s3 := j3.size
  have t3 := g3.size
  have HI := Lib.hid (oi.frames)
  clear oi
  go_wp2_with fail
  refine (C2.out _ _ (HI.out.ext (by go_grown))).mono ?_
  rintro e w4 ⟨b, rfl, hblk, hb4⟩
  have j4 : Below w3.heap.size w3 w4 := ext (by go_grown) hb4
  have g4 : Below w.heap.size w w4 := ext g3 j4
  have s4 := j4.size
  have t4 := g4.size
  have FB := Lib.hid (hblk)
  clear hblk
  go_wp2_with fail
  refine (C3.out _ _ (((((HV.out.ext j1).ext j2).ext j3).ext j4).ext (by go_grown))).mono ?_
  rintro e w5 ⟨pv, rfl, hpv, hb5⟩
  have j5 : Below w4.heap.size w4 w5 := ext (by go_grown) hb5
  have g5 : Below w.heap.size w w5 := ext g4 j5
  have s5 := j5.size
  have t5 := g5.size
  have PV := Lib.hid (hpv)
  obtain ⟨pg, pc, rfl, -, -, -⟩ := hpv
  go_wp2_with fail
  refine (first_any _ ((((((HG.out.ext j1).ext j2).ext j3).ext j4).ext j5).ext (by go_grown))).mono ?_
  rintro e w6 ⟨rfl, hb6⟩
  have j6 : Below w5.heap.size w5 w6 := ext (by go_grown) hb6
  have g6 : Below w.heap.size w w6 := ext g5 j6
  have s6 := j6.size
  have t6 := g6.size
  have BE := Lib.hid ((Blk.new w5 #[.int .i64 k, .slice (some ⟨pg, 0, none⟩) 1 pc] 35).ext hb6)
  go_wp2_with fail
  refine (rgroups_same _ _ [] _ (Grps.nil _) (Grps.nil _)).mono ?_
  rintro e w7 ⟨rfl, hb7⟩
  have j7 : Below w6.heap.size w6 w7 := ext (by go_grown) hb7
  have g7 : Below w.heap.size w w7 := ext g6 j7
  have s7 := j7.size
  have t7 := g7.size
  obtain ⟨BE0, BE1, BE2, BE3⟩ := (BE.out.ext j7).two
  go_wp2_with fail
  clear BE0 BE1 BE2 BE3
  refine (same_fault b _ _ k HK.out _ _ ((((((((HG.out.ext j1).ext j2).ext j3).ext j4).ext j5).ext j6).ext j7).ext (by go_grown)) ((((FB.out.ext j5).ext j6).ext j7).ext (by go_grown)) (((PV.out.ext j6).ext j7).ext (by go_grown))).mono ?_
  rintro e w8 ⟨rfl, hb8⟩
  have j8 : Below w7.heap.size w7 w8 := ext (by go_grown) hb8
  have g8 : Below w.heap.size w w8 := ext g7 j8
  have s8 := j8.size
  have t8 := g8.size
  go_wp2_with fail
  refine (rframes_same _ _ _ _ ((((((HI.out.ext j4).ext j5).ext j6).ext j7).ext j8).ext (by go_grown)) (((((((((HV.out.ext j1).ext j2).ext j3).ext j4).ext j5).ext j6).ext j7).ext j8).ext (by go_grown))).mono ?_
  rintro e w9 ⟨rfl, hb9⟩
  have j9 : Below w8.heap.size w8 w9 := ext (by go_grown) hb9
  have g9 : Below w.heap.size w w9 := ext g8 j9
  have s9 := j9.size
  have t9 := g9.size
  go_wp2
  all_goals go_returns
  all_goals exact ⟨by first | rfl | (simp; done) | (simp; omega), g9⟩

theorem groups_walk (v : Value) (fs : List Fr) (cut gop : Int) (w : World) (hv : Frames w v fs) (hg : TypeIs w) :
    Calls Tryd.prog 4 #[v, .int .i64 cut, .int .i64 gop] w fun e w' => e = .returned (.bool true) ∧ Below w.heap.size w w' := by
  cases hp : pixB fs with
  | false => exact groups_p v fs cut gop w hv hg hp
  | true =>
    by_cases ha : argE cut gop fs.length = 0
    · by_cases hz : ∀ j, j < fs.length → ueA fs j = 0
      · exact groups_g v fs cut gop w hv hg hp ha hz
      · obtain ⟨i, h1, h2, h3⟩ := least_ne (f := ueA fs) (n := fs.length) (Classical.byContradiction fun h => hz fun j hj => Classical.byContradiction fun h2 => h ⟨j, hj, h2⟩)
        exact groups_f v fs cut gop w hv hg hp ha i h1 h2 h3
    · exact groups_a v fs cut gop w hv hg hp ha
end Go.Proofs.YtpdhhnhpaahenaaDoor
