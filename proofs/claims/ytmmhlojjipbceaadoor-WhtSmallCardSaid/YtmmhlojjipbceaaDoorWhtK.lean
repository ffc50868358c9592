/- kinlaw8.first and the laws' walks. -/
import Derived.Test.YtmmhlojjipbceaaDoorWhtJ
import Derived.Test.YtmmhlojjipbceaaDoorSame
set_option linter.unusedSimpArgs false
set_option linter.unusedVariables false
namespace Go.Proofs.YtmmhlojjipbceaaDoor
open Go.RowKit Go.Extern.Stop Go.Stop Go.Extern
open T

def fA : List Int := 48 :: List.replicate 15 0
def fC : List Int := (List.replicate 16 0).set 0 (-9)
theorem lenA : fA.length = 16 := rfl
theorem fwdA : fwdV (List.replicate 16 3) = fA := by decide +kernel
theorem chkA : chkE (List.replicate 16 3) 65536 = 0 := by decide +kernel
theorem invC : invV fC = List.replicate 16 (-1) := by decide +kernel
theorem chkC : chkE fC 16777216 = 0 := by decide +kernel
theorem fwdT : fwdV (List.replicate 3 1) = [] := by decide +kernel
theorem chkT : chkE (List.replicate 3 1) 65536 = 14 := by decide +kernel
theorem sgn31 : sgnI 3 1 = -1 := by decide +kernel

set_option maxRecDepth 100000 in
set_option maxHeartbeats 8000000 in
theorem first_any (w : World) (hg : TypeIs w) : Calls Tryd.prog 9 #[] w fun e w' => e = .returned (.bool true) ∧ Below w.heap.size w w' := by
  have c2 : ∀ v w, Ints w v (List.replicate 16 3) → Calls Tryd.prog 11 #[v] w fun e w' => ∃ v', e = .returned (.tuple #[v', .nilIface]) ∧ OwnInts w' w.heap.size v' fA ∧ Below w.heap.size w w' := fun v w h => by
    have := pforward_any v _ w h
    rw [fwdA, chkA] at this; exact this
  have c3 : ∀ v w, Ints w v fC → Calls Tryd.prog 13 #[v] w fun e w' => ∃ v', e = .returned (.tuple #[v', .nilIface]) ∧ OwnInts w' w.heap.size v' (List.replicate 16 (-1)) ∧ Below w.heap.size w w' := fun v w h => by
    have := pinverse_any v _ w h
    rw [invC, chkC] at this; exact this
  have c5 : ∀ v w, Ints w v (List.replicate 3 1) → Calls Tryd.prog 11 #[v] w fun e w' => ∃ v', e = .returned (.tuple #[v', .iface 29 (.int .i64 14)]) ∧ OwnInts w' w.heap.size v' [] ∧ Below w.heap.size w w' := fun v w h => by
    have := pforward_any v _ w h
    rw [fwdT, chkT] at this; exact this
  have c6 : ∀ w, TypeIs w → Calls Tryd.prog 16 #[.iface 29 (.int .i64 14), .agg #[.int .i64 14, .slice none 0 0]] w fun e w' => e = .returned (.bool true) ∧ Below w.heap.size w w' := fun w hg => same_any 14 w hg
  have c7 : ∀ w, Calls Tryd.prog 17 #[.int .i64 3, .int .i64 1] w fun e w' => e = .returned (.int .i64 (-1)) ∧ w = w' := fun w => by
    have := psign_any 3 1 w
    rw [sgn31] at this; exact this
  have HG := Lib.hid hg
  have C2 := Lib.hid c2
  have C3 := Lib.hid c3
  have C5 := Lib.hid c5
  have C6 := Lib.hid c6
  have C7 := Lib.hid c7
  clear hg c2 c3 c5 c6 c7
  go_enter Tryd.func9, Tryd.ntmps9
  have g0 : Below w.heap.size w w := Below.refl _ _
  go_wp2_with fail
  refine (all_any 16 3 _ (by omega) (by omega) (by omega)).mono ?_
  rintro e w1 ⟨u, rfl, hu, hb1⟩
  have j1 : Below w.heap.size w w1 := ext (by go_grown) hb1
  have g1 : Below w.heap.size w w1 := ext g0 j1
  have s1 := j1.size
  have t1 := g1.size
  have HU := Lib.hid (hu.ints)
  clear hu
  go_wp2_with fail
  refine (C2.out _ _ (HU.out.ext (by go_grown))).mono ?_
  rintro e w2 ⟨a, rfl, ha, hb2⟩
  have j2 : Below w1.heap.size w1 w2 := ext (by go_grown) hb2
  have g2 : Below w.heap.size w w2 := ext g1 j2
  have s2 := j2.size
  have t2 := g2.size
  obtain ⟨ga, capa, rfl, -, -⟩ := ha.head (by rw [lenA]; omega)
  rw [lenA] at ha ⊢
  have HA := Lib.hid (ha)
  clear ha HU
  go_wp2_with (at_make; refine wpList_make rfl _ _ rfl 16 rfl rfl rfl rfl (by omega) ?_)
  intro wm hm hbm hltm
  have HM := Lib.hid (show OwnInts (wm.setCell ⟨w2.heap.size, 0, none⟩ (.int .i64 (-9))) w2.heap.size (.slice (some ⟨w2.heap.size, 0, none⟩) 16 16) fC from hm.set' 0 (-9) (by unfold in64; omega))
  obtain ⟨-, -, -, hmc, hmf⟩ := hm.at
  have hmc0 := hmc 0 (by decide)
  have hmf0 := hmf 0
  have jm : Below w2.heap.size w2 (wm.setCell ⟨w2.heap.size, 0, none⟩ (.int .i64 (-9))) := hbm.setCell (by simp) _
  clear hm hmc hmf
  go_wp2_with fail
  refine (C3.out _ _ HM.out.ints).mono ?_
  clear hmc0 hmf0
  rintro e w3 ⟨b, rfl, hbo, hb3⟩
  have j3 : Below w2.heap.size w2 w3 := ext jm hb3
  have g3 : Below w.heap.size w w3 := ext g2 j3
  have s3 := j3.size
  have t3 := g3.size
  have HB := Lib.hid (hbo.ints)
  clear hbo HM hbm hltm jm hb3
  go_wp2_with fail
  refine (all_any 3 1 _ (by omega) (by omega) (by omega)).mono ?_
  rintro e w4 ⟨u, rfl, hu, hb4⟩
  have j4 : Below w3.heap.size w3 w4 := ext (by go_grown) hb4
  have g4 : Below w.heap.size w w4 := ext g3 j4
  have s4 := j4.size
  have t4 := g4.size
  have HU := Lib.hid (hu.ints)
  clear hu
  go_wp2_with fail
  refine (C5.out _ _ (HU.out.ext (by go_grown))).mono ?_
  rintro e w5 ⟨v5, rfl, -, hb5⟩
  have j5 : Below w4.heap.size w4 w5 := ext (by go_grown) hb5
  have g5 : Below w.heap.size w w5 := ext g4 j5
  have s5 := j5.size
  have t5 := g5.size
  clear HU
  obtain ⟨-, -, -, hac, -⟩ := ((((HA.out.ext j3).ext j4).ext j5)).at
  have ha0 : _ = some (Value.int .i64 48) := hac 0 (by decide)
  have ha5 : _ = some (Value.int .i64 0) := hac 5 (by decide)
  clear hac
  go_wp2_with fail
  refine (all_any 16 (-1) _ (by omega) (by omega) (by omega)).mono ?_
  rintro e w6 ⟨u, rfl, hu, hb6⟩
  have j6 : Below w5.heap.size w5 w6 := ext (by go_grown) hb6
  have g6 : Below w.heap.size w w6 := ext g5 j6
  have s6 := j6.size
  have t6 := g6.size
  have HU := Lib.hid (hu.ints)
  clear hu ha0 ha5
  go_wp2_with fail
  refine (ints_any _ _ _ _ _ ((((HB.out.ext j4).ext j5).ext j6).ext (by go_grown)) (HU.out.ext (by go_grown))).mono ?_
  rintro e w7 ⟨rfl, hb7⟩
  have j7 : Below w6.heap.size w6 w7 := ext (by go_grown) hb7
  have g7 : Below w.heap.size w w7 := ext g6 j7
  have s7 := j7.size
  have t7 := g7.size
  simp only [decide_true]
  go_wp2_with fail
  refine (fail_any _ _).mono ?_
  rintro e w8 ⟨rfl, hb8⟩
  have j8 : Below w7.heap.size w7 w8 := ext (by go_grown) hb8
  have g8 : Below w.heap.size w w8 := ext g7 j8
  have s8 := j8.size
  have t8 := g8.size
  go_wp2_with fail
  refine (C6.out _ (((((((((HG.out.ext j1).ext j2).ext j3).ext j4).ext j5).ext j6).ext j7).ext j8).ext (by go_grown))).mono ?_
  rintro e w9 ⟨rfl, hb9⟩
  have j9 : Below w8.heap.size w8 w9 := ext (by go_grown) hb9
  have g9 : Below w.heap.size w w9 := ext g8 j9
  have s9 := j9.size
  have t9 := g9.size
  go_wp2_with fail
  refine (C7.out _).mono ?_
  rintro e w' ⟨rfl, rfl⟩
  go_wp2
  go_returns
  exact ⟨rfl, g9⟩
end Go.Proofs.YtmmhlojjipbceaaDoor
