/- kinlaw8.WhtBack, WhtFlat: the walks. -/
import Derived.Test.YtmmhlojjipbceaaDoorWhtM
import Derived.Test.YtmmhlojjipbceaaDoorWhtK
set_option linter.unusedSimpArgs false
set_option linter.unusedVariables false
namespace Go.Proofs.YtmmhlojjipbceaaDoor
open Go.RowKit Go.Extern.Stop Go.Stop Go.Extern
open T

theorem back_long (v : Value) (c : List Int) (w : World) (hv : Ints w v c) (hg : TypeIs w) (h1 : 5000 < c.length) :
    Calls Tryd.prog 5 #[v] w fun e w' => e = .returned (.bool true) ∧ Below w.heap.size w w' := by
  obtain ⟨ao, cap, rfl, _⟩ := hv
  have HG := Lib.hid hg
  go_enter Tryd.func5, Tryd.ntmps5
  have g0 : Below w.heap.size w w := Below.refl _ _
  go_wp2_with fail
  refine (first_any _ (HG.out.ext (by go_grown))).mono ?_
  rintro e w1 ⟨rfl, hb1⟩
  have j1 : Below w.heap.size w w1 := ext (by go_grown) hb1
  have g1 : Below w.heap.size w w1 := ext g0 j1
  have s1 := j1.size
  have t1 := g1.size
  go_wp2_with fail
  refine (first_any _ ((HG.out.ext j1).ext (by go_grown))).mono ?_
  rintro e w2 ⟨rfl, hb2⟩
  have j2 : Below w1.heap.size w1 w2 := ext (by go_grown) hb2
  have g2 : Below w.heap.size w w2 := ext g1 j2
  have s2 := j2.size
  have t2 := g2.size
  go_wp2
  all_goals go_returns
  all_goals exact ⟨by first | rfl | (simp; done) | (simp; omega), g2⟩

theorem fwd_no (xs : List Int) (h : chkE xs 65536 ≠ 0) (v : Value) (w : World) (hv : Ints w v xs) :
    Calls Tryd.prog 11 #[v] w fun e w' => ∃ ao cap, e = .returned (.tuple #[.slice ao 0 cap, .iface 29 (.int .i64 (chkE xs 65536))]) ∧ Below w.heap.size w w' := by
  have := pforward_any v xs w hv
  rw [errV_ne h, show fwdV xs = [] by unfold fwdV; rw [if_neg h]] at this
  refine this.mono fun e w' ⟨v', he, ho, hb⟩ => ?_
  obtain ⟨ao, cap, rfl⟩ := ho.shape
  exact ⟨ao, cap, he, hb⟩
theorem fwd_yes (xs : List Int) (h : chkE xs 65536 = 0) (v : Value) (w : World) (hv : Ints w v xs) :
    Calls Tryd.prog 11 #[v] w fun e w' => ∃ v', e = .returned (.tuple #[v', .nilIface]) ∧ OwnInts w' w.heap.size v' (turnL xs) ∧ Below w.heap.size w w' := by
  have := pforward_any v xs w hv
  rw [h, errV_zero, show fwdV xs = turnL xs by unfold fwdV; rw [if_pos h]] at this
  exact this
theorem inv_no (xs : List Int) (h : chkE xs 16777216 ≠ 0) (v : Value) (w : World) (hv : Ints w v xs) :
    Calls Tryd.prog 13 #[v] w fun e w' => ∃ ao cap, e = .returned (.tuple #[.slice ao 0 cap, .iface 29 (.int .i64 (chkE xs 16777216))]) ∧ Below w.heap.size w w' := by
  have := pinverse_any v xs w hv
  rw [errV_ne h, show invV xs = [] by unfold invV; rw [if_neg h]] at this
  refine this.mono fun e w' ⟨v', he, ho, hb⟩ => ?_
  obtain ⟨ao, cap, rfl⟩ := ho.shape
  exact ⟨ao, cap, he, hb⟩
theorem inv_yes (xs : List Int) (h : chkE xs 16777216 = 0) (v : Value) (w : World) (hv : Ints w v xs) :
    Calls Tryd.prog 13 #[v] w fun e w' => ∃ v', e = .returned (.tuple #[v', .nilIface]) ∧ OwnInts w' w.heap.size v' (invV xs) ∧ Below w.heap.size w w' := by
  have := pinverse_any v xs w hv
  rw [h, errV_zero] at this
  exact this

set_option maxHeartbeats 1000000 in
theorem back_no (v : Value) (c : List Int) (w : World) (hv : Ints w v c) (hg : TypeIs w) (h1 : c.length ≤ 5000) (h2 : chkE c 65536 ≠ 0) :
    Calls Tryd.prog 5 #[v] w fun e w' => e = .returned (.bool true) ∧ Below w.heap.size w w' := by
  obtain ⟨ao, cap, rfl⟩ := slice_of hv rfl
  have C := Lib.hid (fwd_no c h2)
  have HG := Lib.hid hg
  have HV := Lib.hid hv
  clear hg hv h2
  go_enter Tryd.func5, Tryd.ntmps5
  have g0 : Below w.heap.size w w := Below.refl _ _
  go_wp2_with fail
  refine (first_any _ (HG.out.ext (by go_grown))).mono ?_
  rintro e w1 ⟨rfl, hb1⟩
  have j1 : Below w.heap.size w w1 := ext (by go_grown) hb1
  have g1 : Below w.heap.size w w1 := ext g0 j1
  have s1 := j1.size
  have t1 := g1.size
  go_wp2_with fail
  refine (C.out _ _ ((HV.out.ext j1).ext (by go_grown))).mono ?_
  rintro e w2 ⟨ao2, cap2, rfl, hb2⟩
  have j2 : Below w1.heap.size w1 w2 := ext (by go_grown) hb2
  have g2 : Below w.heap.size w w2 := ext g1 j2
  have s2 := j2.size
  have t2 := g2.size
  go_wp2_with fail
  refine (first_any _ (((HG.out.ext j1).ext j2).ext (by go_grown))).mono ?_
  rintro e w3 ⟨rfl, hb3⟩
  have j3 : Below w2.heap.size w2 w3 := ext (by go_grown) hb3
  have g3 : Below w.heap.size w w3 := ext g2 j3
  have s3 := j3.size
  have t3 := g3.size
  go_wp2
  all_goals go_returns
  all_goals exact ⟨by first | rfl | (simp; done) | (simp; omega), g3⟩

set_option maxHeartbeats 1000000 in
theorem back_yes (v : Value) (c : List Int) (w : World) (hv : Ints w v c) (hg : TypeIs w) (h1 : c.length ≤ 5000) (h2 : chkE c 65536 = 0) :
    Calls Tryd.prog 5 #[v] w fun e w' => e = .returned (.bool true) ∧ Below w.heap.size w w' := by
  obtain ⟨ao, cap, rfl⟩ := slice_of hv rfl
  have C := Lib.hid (fwd_yes c h2)
  have d := inv_yes (turnL c) (chk_turn h2)
  rw [back h2] at d
  have D := Lib.hid d
  have HG := Lib.hid hg
  have HV := Lib.hid hv
  clear hg hv h2 d
  go_enter Tryd.func5, Tryd.ntmps5
  have g0 : Below w.heap.size w w := Below.refl _ _
  go_wp2_with fail
  refine (first_any _ (HG.out.ext (by go_grown))).mono ?_
  rintro e w1 ⟨rfl, hb1⟩
  have j1 : Below w.heap.size w w1 := ext (by go_grown) hb1
  have g1 : Below w.heap.size w w1 := ext g0 j1
  have s1 := j1.size
  have t1 := g1.size
  go_wp2_with fail
  refine (C.out _ _ ((HV.out.ext j1).ext (by go_grown))).mono ?_
  rintro e w2 ⟨a, rfl, ha, hb2⟩
  have j2 : Below w1.heap.size w1 w2 := ext (by go_grown) hb2
  have g2 : Below w.heap.size w w2 := ext g1 j2
  have s2 := j2.size
  have t2 := g2.size
  have HA := Lib.hid (ha.ints)
  clear ha
  go_wp2_with fail
  refine (D.out _ _ (HA.out.ext (by go_grown))).mono ?_
  rintro e w3 ⟨b, rfl, ha, hb3⟩
  have j3 : Below w2.heap.size w2 w3 := ext (by go_grown) hb3
  have g3 : Below w.heap.size w w3 := ext g2 j3
  have s3 := j3.size
  have t3 := g3.size
  have HB := Lib.hid (ha.ints)
  clear ha
  go_wp2_with fail
  refine (first_any _ ((((HG.out.ext j1).ext j2).ext j3).ext (by go_grown))).mono ?_
  rintro e w4 ⟨rfl, hb4⟩
  have j4 : Below w3.heap.size w3 w4 := ext (by go_grown) hb4
  have g4 : Below w.heap.size w w4 := ext g3 j4
  have s4 := j4.size
  have t4 := g4.size
  go_wp2_with fail
  refine (ints_any _ _ _ _ _ ((HB.out.ext j4).ext (by go_grown)) (((((HV.out.ext j1).ext j2).ext j3).ext j4).ext (by go_grown))).mono ?_
  rintro e w5 ⟨rfl, hb5⟩
  have j5 : Below w4.heap.size w4 w5 := ext (by go_grown) hb5
  have g5 : Below w.heap.size w w5 := ext g4 j5
  have s5 := j5.size
  have t5 := g5.size
  simp only [decide_true]
  go_wp2
  all_goals go_returns
  all_goals exact ⟨by first | rfl | (simp; done) | (simp; omega), g5⟩

theorem back_walk (v : Value) (c : List Int) (w : World) (hv : Ints w v c) (hg : TypeIs w) :
    Calls Tryd.prog 5 #[v] w fun e w' => e = .returned (.bool true) ∧ Below w.heap.size w w' := by
  by_cases h : c.length ≤ 5000
  · by_cases h2 : chkE c 65536 = 0
    · exact back_yes v c w hv hg h h2
    · exact back_no v c w hv hg h h2
  · exact back_long v c w hv hg (by omega)

theorem Ints.tail {w : World} {g n cap : Nat} {x : Int} {t : List Int} (h : Ints w (.slice (some ⟨g, 0, none⟩) n cap) (x :: t)) : Ints w (.slice (some ⟨g, 1, none⟩) (n - 1) (cap - 1)) t ∧ n ≤ cap := by
  obtain ⟨ao, cap', e, h1, h2, h3, h5, h4⟩ := h
  simp only [Value.slice.injEq] at e
  obtain ⟨rfl, rfl, rfl⟩ := e
  simp only [List.length_cons] at h1 h4 ⊢
  refine ⟨⟨some ⟨g, 1, none⟩, cap - 1, by simp, by omega, by omega, fun y hy => h3 y (List.mem_cons_of_mem _ hy), fun e => (by cases e), fun j hj => ⟨g, 1, rfl, ?_⟩⟩, h1⟩
  obtain ⟨b, off, e, hc⟩ := h4 (j + 1) (by omega)
  simp only [Option.some.injEq, Addr.mk.injEq] at e
  obtain ⟨rfl, rfl, _⟩ := e
  rw [show 1 + j = 0 + (j + 1) by omega, hc]
  rfl
def flatL (n : Nat) (x : Int) : List Int := x :: List.replicate (n - 1) 0
theorem length_flatL {n : Nat} (h : 0 < n) (x : Int) : (flatL n x).length = n := by simp [flatL]; omega

set_option maxRecDepth 100000 in
set_option maxHeartbeats 2000000 in
theorem flat_out16 (v t : Int) (w : World) (hg : TypeIs w) (h : v < -65536 ∨ (-65536 ≤ v ∧ 65536 < v) ∨ (-65536 ≤ v ∧ v ≤ 65536 ∧ t < -8) ∨ (-65536 ≤ v ∧ v ≤ 65536 ∧ -8 ≤ t ∧ 8 ≤ t)) :
    Calls Tryd.prog 8 #[.int .i64 v, .int .i64 t, .bool false] w fun e w' => e = .returned (.bool true) ∧ Below w.heap.size w w' := by
  have HG := Lib.hid hg
  clear hg
  rcases h with h | ⟨h1, h2⟩ | ⟨h1, h2, h3⟩ | ⟨h1, h2, h3, h4⟩
  · go_enter Tryd.func8, Tryd.ntmps8
    have g0 : Below w.heap.size w w := Below.refl _ _
    go_wp2_with fail
    refine (first_any _ (HG.out.ext (by go_grown))).mono ?_
    rintro e w1 ⟨rfl, hb1⟩
    have j1 : Below w.heap.size w w1 := ext (by go_grown) hb1
    have g1 : Below w.heap.size w w1 := ext g0 j1
    have s1 := j1.size
    have t1 := g1.size
    go_wp2_with fail
    refine (first_any _ ((HG.out.ext j1).ext (by go_grown))).mono ?_
    rintro e w2 ⟨rfl, hb2⟩
    have j2 : Below w1.heap.size w1 w2 := ext (by go_grown) hb2
    have g2 : Below w.heap.size w w2 := ext g1 j2
    have s2 := j2.size
    have t2 := g2.size
    go_wp2
    all_goals go_returns
    all_goals exact ⟨by first | rfl | (simp; done) | (simp; omega), g2⟩
  · go_enter Tryd.func8, Tryd.ntmps8
    have g0 : Below w.heap.size w w := Below.refl _ _
    go_wp2_with fail
    refine (first_any _ (HG.out.ext (by go_grown))).mono ?_
    rintro e w1 ⟨rfl, hb1⟩
    have j1 : Below w.heap.size w w1 := ext (by go_grown) hb1
    have g1 : Below w.heap.size w w1 := ext g0 j1
    have s1 := j1.size
    have t1 := g1.size
    go_wp2_with fail
    refine (first_any _ ((HG.out.ext j1).ext (by go_grown))).mono ?_
    rintro e w2 ⟨rfl, hb2⟩
    have j2 : Below w1.heap.size w1 w2 := ext (by go_grown) hb2
    have g2 : Below w.heap.size w w2 := ext g1 j2
    have s2 := j2.size
    have t2 := g2.size
    go_wp2
    all_goals go_returns
    all_goals exact ⟨by first | rfl | (simp; done) | (simp; omega), g2⟩
  · go_enter Tryd.func8, Tryd.ntmps8
    have g0 : Below w.heap.size w w := Below.refl _ _
    go_wp2_with fail
    refine (first_any _ (HG.out.ext (by go_grown))).mono ?_
    rintro e w1 ⟨rfl, hb1⟩
    have j1 : Below w.heap.size w w1 := ext (by go_grown) hb1
    have g1 : Below w.heap.size w w1 := ext g0 j1
    have s1 := j1.size
    have t1 := g1.size
    go_wp2_with fail
    refine (first_any _ ((HG.out.ext j1).ext (by go_grown))).mono ?_
    rintro e w2 ⟨rfl, hb2⟩
    have j2 : Below w1.heap.size w1 w2 := ext (by go_grown) hb2
    have g2 : Below w.heap.size w w2 := ext g1 j2
    have s2 := j2.size
    have t2 := g2.size
    go_wp2
    all_goals go_returns
    all_goals exact ⟨by first | rfl | (simp; done) | (simp; omega), g2⟩
  · go_enter Tryd.func8, Tryd.ntmps8
    have g0 : Below w.heap.size w w := Below.refl _ _
    go_wp2_with fail
    refine (first_any _ (HG.out.ext (by go_grown))).mono ?_
    rintro e w1 ⟨rfl, hb1⟩
    have j1 : Below w.heap.size w w1 := ext (by go_grown) hb1
    have g1 : Below w.heap.size w w1 := ext g0 j1
    have s1 := j1.size
    have t1 := g1.size
    go_wp2_with fail
    refine (first_any _ ((HG.out.ext j1).ext (by go_grown))).mono ?_
    rintro e w2 ⟨rfl, hb2⟩
    have j2 : Below w1.heap.size w1 w2 := ext (by go_grown) hb2
    have g2 : Below w.heap.size w w2 := ext g1 j2
    have s2 := j2.size
    have t2 := g2.size
    go_wp2
    all_goals go_returns
    all_goals exact ⟨by first | rfl | (simp; done) | (simp; omega), g2⟩

set_option maxRecDepth 100000 in
set_option maxHeartbeats 4000000 in
theorem flat_in16 (v t : Int) (w : World) (hg : TypeIs w) (hv1 : -65536 ≤ v) (hv2 : v ≤ 65536) (ht1 : -8 ≤ t) (ht2 : t < 8) :
    Calls Tryd.prog 8 #[.int .i64 v, .int .i64 t, .bool false] w fun e w' => e = .returned (.bool true) ∧ Below w.heap.size w w' := by
  have HG := Lib.hid hg
  have hc : chkE (List.replicate 16 v) 65536 = 0 := chkE_ok (by simp) (bd_of_all (by omega) fun x hx => by have := (List.mem_replicate.1 hx).2; omega)
  have c := fwd_yes _ hc
  rw [turn_flat (n := 16) (by omega)] at c
  have c : ∀ u w, Ints w u (List.replicate 16 v) → Calls Tryd.prog 11 #[u] w fun e w' => ∃ v', e = .returned (.tuple #[v', .nilIface]) ∧ OwnInts w' w.heap.size v' (flatL 16 (16 * v)) ∧ Below w.heap.size w w' := c
  obtain ⟨hd1, hd2⟩ := flat_back (n := 16) (by omega) v t hv1 hv2 (by omega) (by omega)
  have d := inv_yes _ hd1
  rw [hd2] at d
  have d : ∀ u w, Ints w u (flatL 16 (16 * v + t)) → Calls Tryd.prog 13 #[u] w fun e w' => ∃ v', e = .returned (.tuple #[v', .nilIface]) ∧ OwnInts w' w.heap.size v' (List.replicate 16 v) ∧ Below w.heap.size w w' := d
  have C := Lib.hid c
  have D := Lib.hid d
  have hW : ∀ u w, Ints w u (List.replicate 15 0) → Calls Tryd.prog 19 #[u, .int .i64 0, .int .i64 0] w fun e w' => e = .returned (.bool true) ∧ w = w' := fun u w h => by
    have := within_any u _ 0 0 w h
    rw [show withinB (List.replicate 15 0) 0 0 = true from by decide +kernel] at this; exact this
  have HW := Lib.hid hW
  clear hg hc c hd1 hd2 d hW
  go_enter Tryd.func8, Tryd.ntmps8
  have g0 : Below w.heap.size w w := Below.refl _ _
  go_wp2_with fail
  refine (first_any _ (HG.out.ext (by go_grown))).mono ?_
  rintro e w1 ⟨rfl, hb1⟩
  have j1 : Below w.heap.size w w1 := ext (by go_grown) hb1
  have g1 : Below w.heap.size w w1 := ext g0 j1
  have s1 := j1.size
  have t1 := g1.size
  go_wp2_with fail
  refine (all_any 16 v _ (by omega) (by omega) (by omega)).mono ?_
  rintro e w2 ⟨u, rfl, hu, hb2⟩
  have j2 : Below w1.heap.size w1 w2 := ext (by go_grown) hb2
  have g2 : Below w.heap.size w w2 := ext g1 j2
  have s2 := j2.size
  have t2 := g2.size
  have HU := Lib.hid (hu.ints)
  clear hu
  go_wp2_with fail
  refine (C.out _ _ (HU.out.ext (by go_grown))).mono ?_
  rintro e w3 ⟨a, rfl, ha, hb3⟩
  have j3 : Below w2.heap.size w2 w3 := ext (by go_grown) hb3
  have g3 : Below w.heap.size w w3 := ext g2 j3
  have s3 := j3.size
  have t3 := g3.size
  obtain ⟨ga, capa, rfl, -, -⟩ := ha.head (by rw [length_flatL (by omega)]; omega)
  rw [length_flatL (by omega)] at ha ⊢
  obtain ⟨htl, hcap⟩ := (show Ints _ _ ((16 * v) :: List.replicate 15 0) from ha.ints).tail
  have HT := Lib.hid htl
  obtain ⟨-, -, -, hac, haf⟩ := ha.at
  have hac0 : _ = some (Value.int .i64 (16 * v)) := hac 0 (by rw [length_flatL (by omega)]; omega)
  have haf0 := haf 0
  have HS := Lib.hid (show OwnInts (w3.setCell ⟨ga, 0, none⟩ (.int .i64 (16 * v + t))) w2.heap.size (.slice (some ⟨ga, 0, none⟩) 16 capa) (flatL 16 (16 * v + t)) from ha.set' 0 (16 * v + t) (by unfold in64; omega))
  have hga := ha.at.2.1
  have jm : Below w2.heap.size w2 (w3.setCell ⟨ga, 0, none⟩ (.int .i64 (16 * v + t))) := hb3.setCell (by show _ ≤ ga; exact hga) _
  clear ha htl hac haf HU
  go_wp2_with fail
  refine (HW.out _ _ HT.out).mono ?_
  rintro e w' ⟨rfl, rfl⟩
  go_wp2_with fail
  refine (D.out _ _ HS.out.ints).mono ?_
  clear hac0 haf0
  rintro e w4 ⟨b, rfl, hbo, hb4⟩
  have j4 : Below w2.heap.size w2 w4 := ext jm hb4
  have g4 : Below w.heap.size w w4 := ext g2 j4
  have s4 := j4.size
  have t4 := g4.size
  have HG4 := Lib.hid (HG.out.ext g4)
  have HB := Lib.hid (hbo.ints)
  clear hbo HS HT jm hb4
  go_wp2_with fail
  refine (first_any _ (HG4.out.ext (by go_grown))).mono ?_
  rintro e w5 ⟨rfl, hb5⟩
  have j5 : Below w4.heap.size w4 w5 := ext (by go_grown) hb5
  have g5 : Below w.heap.size w w5 := ext g4 j5
  have s5 := j5.size
  have t5 := g5.size
  go_wp2_with fail
  refine (all_any 16 v _ (by omega) (by omega) (by omega)).mono ?_
  rintro e w6 ⟨u2, rfl, hu, hb6⟩
  have j6 : Below w5.heap.size w5 w6 := ext (by go_grown) hb6
  have g6 : Below w.heap.size w w6 := ext g5 j6
  have s6 := j6.size
  have t6 := g6.size
  have HU2 := Lib.hid (hu.ints)
  clear hu
  go_wp2_with fail
  refine (ints_any _ _ _ _ _ (((HB.out.ext j5).ext j6).ext (by go_grown)) (HU2.out.ext (by go_grown))).mono ?_
  rintro e w7 ⟨rfl, hb7⟩
  have j7 : Below w6.heap.size w6 w7 := ext (by go_grown) hb7
  have g7 : Below w.heap.size w w7 := ext g6 j7
  have s7 := j7.size
  have t7 := g7.size
  simp only [decide_true]
  go_wp2
  all_goals go_returns
  all_goals exact ⟨by first | rfl | (simp; done) | (simp; omega), g7⟩

set_option maxRecDepth 100000 in
set_option maxHeartbeats 2000000 in
theorem flat_out64 (v t : Int) (w : World) (hg : TypeIs w) (h : v < -65536 ∨ (-65536 ≤ v ∧ 65536 < v) ∨ (-65536 ≤ v ∧ v ≤ 65536 ∧ t < -32) ∨ (-65536 ≤ v ∧ v ≤ 65536 ∧ -32 ≤ t ∧ 32 ≤ t)) :
    Calls Tryd.prog 8 #[.int .i64 v, .int .i64 t, .bool true] w fun e w' => e = .returned (.bool true) ∧ Below w.heap.size w w' := by
  have HG := Lib.hid hg
  clear hg
  rcases h with h | ⟨h1, h2⟩ | ⟨h1, h2, h3⟩ | ⟨h1, h2, h3, h4⟩
  · go_enter Tryd.func8, Tryd.ntmps8
    have g0 : Below w.heap.size w w := Below.refl _ _
    go_wp2_with fail
    refine (first_any _ (HG.out.ext (by go_grown))).mono ?_
    rintro e w1 ⟨rfl, hb1⟩
    have j1 : Below w.heap.size w w1 := ext (by go_grown) hb1
    have g1 : Below w.heap.size w w1 := ext g0 j1
    have s1 := j1.size
    have t1 := g1.size
    go_wp2_with fail
    refine (first_any _ ((HG.out.ext j1).ext (by go_grown))).mono ?_
    rintro e w2 ⟨rfl, hb2⟩
    have j2 : Below w1.heap.size w1 w2 := ext (by go_grown) hb2
    have g2 : Below w.heap.size w w2 := ext g1 j2
    have s2 := j2.size
    have t2 := g2.size
    go_wp2
    all_goals go_returns
    all_goals exact ⟨by first | rfl | (simp; done) | (simp; omega), g2⟩
  · go_enter Tryd.func8, Tryd.ntmps8
    have g0 : Below w.heap.size w w := Below.refl _ _
    go_wp2_with fail
    refine (first_any _ (HG.out.ext (by go_grown))).mono ?_
    rintro e w1 ⟨rfl, hb1⟩
    have j1 : Below w.heap.size w w1 := ext (by go_grown) hb1
    have g1 : Below w.heap.size w w1 := ext g0 j1
    have s1 := j1.size
    have t1 := g1.size
    go_wp2_with fail
    refine (first_any _ ((HG.out.ext j1).ext (by go_grown))).mono ?_
    rintro e w2 ⟨rfl, hb2⟩
    have j2 : Below w1.heap.size w1 w2 := ext (by go_grown) hb2
    have g2 : Below w.heap.size w w2 := ext g1 j2
    have s2 := j2.size
    have t2 := g2.size
    go_wp2
    all_goals go_returns
    all_goals exact ⟨by first | rfl | (simp; done) | (simp; omega), g2⟩
  · go_enter Tryd.func8, Tryd.ntmps8
    have g0 : Below w.heap.size w w := Below.refl _ _
    go_wp2_with fail
    refine (first_any _ (HG.out.ext (by go_grown))).mono ?_
    rintro e w1 ⟨rfl, hb1⟩
    have j1 : Below w.heap.size w w1 := ext (by go_grown) hb1
    have g1 : Below w.heap.size w w1 := ext g0 j1
    have s1 := j1.size
    have t1 := g1.size
    go_wp2_with fail
    refine (first_any _ ((HG.out.ext j1).ext (by go_grown))).mono ?_
    rintro e w2 ⟨rfl, hb2⟩
    have j2 : Below w1.heap.size w1 w2 := ext (by go_grown) hb2
    have g2 : Below w.heap.size w w2 := ext g1 j2
    have s2 := j2.size
    have t2 := g2.size
    go_wp2
    all_goals go_returns
    all_goals exact ⟨by first | rfl | (simp; done) | (simp; omega), g2⟩
  · go_enter Tryd.func8, Tryd.ntmps8
    have g0 : Below w.heap.size w w := Below.refl _ _
    go_wp2_with fail
    refine (first_any _ (HG.out.ext (by go_grown))).mono ?_
    rintro e w1 ⟨rfl, hb1⟩
    have j1 : Below w.heap.size w w1 := ext (by go_grown) hb1
    have g1 : Below w.heap.size w w1 := ext g0 j1
    have s1 := j1.size
    have t1 := g1.size
    go_wp2_with fail
    refine (first_any _ ((HG.out.ext j1).ext (by go_grown))).mono ?_
    rintro e w2 ⟨rfl, hb2⟩
    have j2 : Below w1.heap.size w1 w2 := ext (by go_grown) hb2
    have g2 : Below w.heap.size w w2 := ext g1 j2
    have s2 := j2.size
    have t2 := g2.size
    go_wp2
    all_goals go_returns
    all_goals exact ⟨by first | rfl | (simp; done) | (simp; omega), g2⟩

set_option maxRecDepth 100000 in
set_option maxHeartbeats 4000000 in
theorem flat_in64 (v t : Int) (w : World) (hg : TypeIs w) (hv1 : -65536 ≤ v) (hv2 : v ≤ 65536) (ht1 : -32 ≤ t) (ht2 : t < 32) :
    Calls Tryd.prog 8 #[.int .i64 v, .int .i64 t, .bool true] w fun e w' => e = .returned (.bool true) ∧ Below w.heap.size w w' := by
  have HG := Lib.hid hg
  have hc : chkE (List.replicate 64 v) 65536 = 0 := chkE_ok (by simp) (bd_of_all (by omega) fun x hx => by have := (List.mem_replicate.1 hx).2; omega)
  have c := fwd_yes _ hc
  rw [turn_flat (n := 64) (by omega)] at c
  have c : ∀ u w, Ints w u (List.replicate 64 v) → Calls Tryd.prog 11 #[u] w fun e w' => ∃ v', e = .returned (.tuple #[v', .nilIface]) ∧ OwnInts w' w.heap.size v' (flatL 64 (64 * v)) ∧ Below w.heap.size w w' := c
  obtain ⟨hd1, hd2⟩ := flat_back (n := 64) (by omega) v t hv1 hv2 (by omega) (by omega)
  have d := inv_yes _ hd1
  rw [hd2] at d
  have d : ∀ u w, Ints w u (flatL 64 (64 * v + t)) → Calls Tryd.prog 13 #[u] w fun e w' => ∃ v', e = .returned (.tuple #[v', .nilIface]) ∧ OwnInts w' w.heap.size v' (List.replicate 64 v) ∧ Below w.heap.size w w' := d
  have C := Lib.hid c
  have D := Lib.hid d
  have hW : ∀ u w, Ints w u (List.replicate 63 0) → Calls Tryd.prog 19 #[u, .int .i64 0, .int .i64 0] w fun e w' => e = .returned (.bool true) ∧ w = w' := fun u w h => by
    have := within_any u _ 0 0 w h
    rw [show withinB (List.replicate 63 0) 0 0 = true from by decide +kernel] at this; exact this
  have HW := Lib.hid hW
  clear hg hc c hd1 hd2 d hW
  go_enter Tryd.func8, Tryd.ntmps8
  have g0 : Below w.heap.size w w := Below.refl _ _
  go_wp2_with fail
  refine (first_any _ (HG.out.ext (by go_grown))).mono ?_
  rintro e w1 ⟨rfl, hb1⟩
  have j1 : Below w.heap.size w w1 := ext (by go_grown) hb1
  have g1 : Below w.heap.size w w1 := ext g0 j1
  have s1 := j1.size
  have t1 := g1.size
  go_wp2_with fail
  refine (all_any 64 v _ (by omega) (by omega) (by omega)).mono ?_
  rintro e w2 ⟨u, rfl, hu, hb2⟩
  have j2 : Below w1.heap.size w1 w2 := ext (by go_grown) hb2
  have g2 : Below w.heap.size w w2 := ext g1 j2
  have s2 := j2.size
  have t2 := g2.size
  have HU := Lib.hid (hu.ints)
  clear hu
  go_wp2_with fail
  refine (C.out _ _ (HU.out.ext (by go_grown))).mono ?_
  rintro e w3 ⟨a, rfl, ha, hb3⟩
  have j3 : Below w2.heap.size w2 w3 := ext (by go_grown) hb3
  have g3 : Below w.heap.size w w3 := ext g2 j3
  have s3 := j3.size
  have t3 := g3.size
  obtain ⟨ga, capa, rfl, -, -⟩ := ha.head (by rw [length_flatL (by omega)]; omega)
  rw [length_flatL (by omega)] at ha ⊢
  obtain ⟨htl, hcap⟩ := (show Ints _ _ ((64 * v) :: List.replicate 63 0) from ha.ints).tail
  have HT := Lib.hid htl
  obtain ⟨-, -, -, hac, haf⟩ := ha.at
  have hac0 : _ = some (Value.int .i64 (64 * v)) := hac 0 (by rw [length_flatL (by omega)]; omega)
  have haf0 := haf 0
  have HS := Lib.hid (show OwnInts (w3.setCell ⟨ga, 0, none⟩ (.int .i64 (64 * v + t))) w2.heap.size (.slice (some ⟨ga, 0, none⟩) 64 capa) (flatL 64 (64 * v + t)) from ha.set' 0 (64 * v + t) (by unfold in64; omega))
  have hga := ha.at.2.1
  have jm : Below w2.heap.size w2 (w3.setCell ⟨ga, 0, none⟩ (.int .i64 (64 * v + t))) := hb3.setCell (by show _ ≤ ga; exact hga) _
  clear ha htl hac haf HU
  go_wp2_with fail
  refine (HW.out _ _ HT.out).mono ?_
  rintro e w' ⟨rfl, rfl⟩
  go_wp2_with fail
  refine (D.out _ _ HS.out.ints).mono ?_
  clear hac0 haf0
  rintro e w4 ⟨b, rfl, hbo, hb4⟩
  have j4 : Below w2.heap.size w2 w4 := ext jm hb4
  have g4 : Below w.heap.size w w4 := ext g2 j4
  have s4 := j4.size
  have t4 := g4.size
  have HG4 := Lib.hid (HG.out.ext g4)
  have HB := Lib.hid (hbo.ints)
  clear hbo HS HT jm hb4
  go_wp2_with fail
  refine (first_any _ (HG4.out.ext (by go_grown))).mono ?_
  rintro e w5 ⟨rfl, hb5⟩
  have j5 : Below w4.heap.size w4 w5 := ext (by go_grown) hb5
  have g5 : Below w.heap.size w w5 := ext g4 j5
  have s5 := j5.size
  have t5 := g5.size
  go_wp2_with fail
  refine (all_any 64 v _ (by omega) (by omega) (by omega)).mono ?_
  rintro e w6 ⟨u2, rfl, hu, hb6⟩
  have j6 : Below w5.heap.size w5 w6 := ext (by go_grown) hb6
  have g6 : Below w.heap.size w w6 := ext g5 j6
  have s6 := j6.size
  have t6 := g6.size
  have HU2 := Lib.hid (hu.ints)
  clear hu
  go_wp2_with fail
  refine (ints_any _ _ _ _ _ (((HB.out.ext j5).ext j6).ext (by go_grown)) (HU2.out.ext (by go_grown))).mono ?_
  rintro e w7 ⟨rfl, hb7⟩
  have j7 : Below w6.heap.size w6 w7 := ext (by go_grown) hb7
  have g7 : Below w.heap.size w w7 := ext g6 j7
  have s7 := j7.size
  have t7 := g7.size
  simp only [decide_true]
  go_wp2
  all_goals go_returns
  all_goals exact ⟨by first | rfl | (simp; done) | (simp; omega), g7⟩

theorem flat_walk (v t : Int) (l : Bool) (w : World) (hg : TypeIs w) :
    Calls Tryd.prog 8 #[.int .i64 v, .int .i64 t, .bool l] w fun e w' => e = .returned (.bool true) ∧ Below w.heap.size w w' := by
  cases l with
  | false =>
    by_cases h : -65536 ≤ v ∧ v ≤ 65536 ∧ -8 ≤ t ∧ t < 8
    · exact flat_in16 v t w hg h.1 h.2.1 h.2.2.1 h.2.2.2
    · exact flat_out16 v t w hg (by omega)
  | true =>
    by_cases h : -65536 ≤ v ∧ v ≤ 65536 ∧ -32 ≤ t ∧ t < 32
    · exact flat_in64 v t w hg h.1 h.2.1 h.2.2.1 h.2.2.2
    · exact flat_out64 v t w hg (by omega)
end Go.Proofs.YtmmhlojjipbceaaDoor
