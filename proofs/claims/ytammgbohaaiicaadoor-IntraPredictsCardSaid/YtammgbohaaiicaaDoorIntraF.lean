/- kinlaw10.first. -/
import Derived.Test.YtammgbohaaiicaaDoorIntraB
import Derived.Test.YtammgbohaaiicaaDoorLits
import Derived.Test.YtammgbohaaiicaaDoorSame
set_option linter.unusedSimpArgs false
set_option linter.unusedVariables false
namespace Go.Proofs.YtammgbohaaiicaaDoor
open Go.RowKit Go.Extern.Stop Go.Stop Go.Extern

def pf1 : List Int := [4, 4, 4, 4, 4, 4, 4, 4, 4, 4, 4, 4, 4, 4, 4, 4]
def pf2 : List Int := [1, 11, 21, 31, 1, 11, 21, 31, 1, 11, 21, 31, 251, 255, 255, 255]
theorem c1 (w : World) : Calls Tryd.prog 12 #[.int .i64 0, .slice (some ⟨w.heap.size, 0, none⟩) 4 4, .slice (some ⟨w.heap.size + 1, 0, none⟩) 4 4, .int .i64 0] ((w.alloc (.cells #[.int .i64 0, .int .i64 0, .int .i64 0, .int .i64 0] 3)).alloc (.cells #[.int .i64 8, .int .i64 8, .int .i64 8, .int .i64 8] 3)) fun e w' => ∃ v', e = .returned (.tuple #[v', .nilIface]) ∧ OwnInts w' w.heap.size v' pf1 ∧ Below w.heap.size w w' := by
  obtain ⟨hv, hu⟩ := two_lits w [0, 0, 0, 0] [8, 8, 8, 8] rfl rfl rfl rfl
  have h := ppredict_any 0 _ _ _ _ 0 _ hv hu
  rw [show predE 0 [0, 0, 0, 0] [8, 8, 8, 8] 0 = 0 from by decide +kernel, show predL 0 [0, 0, 0, 0] [8, 8, 8, 8] 0 = pf1 from by decide +kernel] at h
  exact h.mono fun e w' ⟨v', he, ho, hb⟩ => ⟨v', he, ho.mono (by simp; omega), two_below hb⟩
theorem c2 (w : World) : Calls Tryd.prog 12 #[.int .i64 3, .slice (some ⟨w.heap.size, 0, none⟩) 4 4, .slice (some ⟨w.heap.size + 1, 0, none⟩) 4 4, .int .i64 9] ((w.alloc (.cells #[.int .i64 10, .int .i64 20, .int .i64 30, .int .i64 40] 3)).alloc (.cells #[.int .i64 0, .int .i64 0, .int .i64 0, .int .i64 250] 3)) fun e w' => ∃ v', e = .returned (.tuple #[v', .nilIface]) ∧ OwnInts w' w.heap.size v' pf2 ∧ Below w.heap.size w w' := by
  obtain ⟨hv, hu⟩ := two_lits w [10, 20, 30, 40] [0, 0, 0, 250] rfl rfl rfl rfl
  have h := ppredict_any 3 _ _ _ _ 9 _ hv hu
  rw [show predE 3 [10, 20, 30, 40] [0, 0, 0, 250] 9 = 0 from by decide +kernel, show predL 3 [10, 20, 30, 40] [0, 0, 0, 250] 9 = pf2 from by decide +kernel] at h
  exact h.mono fun e w' ⟨v', he, ho, hb⟩ => ⟨v', he, ho.mono (by simp; omega), two_below hb⟩
theorem c3 (w : World) : Calls Tryd.prog 12 #[.int .i64 4, .slice none 0 0, .slice none 0 0, .int .i64 0] w fun e w' => ∃ v', e = .returned (.tuple #[v', .iface 29 (.int .i64 13)]) ∧ Below w.heap.size w w' := by
  have h := ppredict_any 4 _ _ [] [] 0 w (Ints.nil w) (Ints.nil w)
  rw [show predE 4 [] [] 0 = 13 from by decide +kernel] at h
  exact h.mono fun e w' ⟨v', he, _, hb⟩ => ⟨v', he, hb⟩

theorem ints_same (v u : Value) (l : List Int) (w : World) (hv : Ints w v l) (hu : Ints w u l) : Calls Tryd.prog 14 #[v, u] w fun e w' => e = .returned (.bool true) ∧ Below w.heap.size w w' := by
  have h := ints_any v u l l w hv hu
  rwa [decide_eq_true rfl] at h
set_option maxRecDepth 100000 in
set_option maxHeartbeats 8000000 in
theorem first_any (w : World) (hg : TypeIs w) : Calls Tryd.prog 10 #[] w fun e w' => e = .returned (.bool true) ∧ Below w.heap.size w w' := by
  have c6 : ∀ w, TypeIs w → Calls Tryd.prog 15 #[.iface 29 (.int .i64 13), .agg #[.int .i64 13, .slice none 0 0]] w fun e w' => e = .returned (.bool true) ∧ Below w.heap.size w w' := fun w hg => same_any 13 w hg
  have HG := Lib.hid hg
  have C6 := Lib.hid c6
  clear hg c6
  go_enter Tryd.func10, Tryd.ntmps10
  have g0 : Below w.heap.size w w := Below.refl _ _
  go_wp2_with fail
  refine (c1 _).mono ?_
  rintro e w1 ⟨v1, rfl, hp1, hb1⟩
  have j1 : Below w.heap.size w w1 := ext (by go_grown) hb1
  have g1 : Below w.heap.size w w1 := ext g0 j1
  have s1 := j1.size
  have t1 := g1.size
  obtain ⟨g1a, cap1, rfl, -, -⟩ := hp1.head (by decide)
  have HP1 := Lib.hid hp1
  clear hp1
  go_wp2_with fail
  refine (c2 _).mono ?_
  rintro e w2 ⟨v2, rfl, hp2, hb2⟩
  have j2 : Below w1.heap.size w1 w2 := ext (by go_grown) hb2
  have g2 : Below w.heap.size w w2 := ext g1 j2
  have s2 := j2.size
  have t2 := g2.size
  obtain ⟨g2a, cap2, rfl, -, -⟩ := hp2.head (by decide)
  have HP2 := Lib.hid hp2
  clear hp2
  go_wp2_with fail
  refine (c3 _).mono ?_
  rintro e w3 ⟨v3, rfl, hb3⟩
  have j3 : Below w2.heap.size w2 w3 := ext (by go_grown) hb3
  have g3 : Below w.heap.size w w3 := ext g2 j3
  have s3 := j3.size
  have t3 := g3.size
  obtain ⟨-, -, l1, k1, -⟩ := (((HP1.out.ext j2).ext j3)).at
  obtain ⟨-, -, l2, k2, -⟩ := ((HP2.out.ext j3)).at
  have q7 : _ = some (Value.int .i64 4) := k1 7 (by decide)
  have r0 : _ = some (Value.int .i64 1) := k2 0 (by decide)
  have r3 : _ = some (Value.int .i64 31) := k2 3 (by decide)
  have r12 : _ = some (Value.int .i64 251) := k2 12 (by decide)
  have r15 : _ = some (Value.int .i64 255) := k2 15 (by decide)
  rw [show pf1.length = 16 from rfl, show pf2.length = 16 from rfl]
  clear k1 k2
  go_wp2_with fail
  refine (fail_any _ _).mono ?_
  rintro e w4 ⟨rfl, hb4⟩
  have j4 : Below w3.heap.size w3 w4 := ext (by go_grown) hb4
  have g4 : Below w.heap.size w w4 := ext g3 j4
  have s4 := j4.size
  have t4 := g4.size
  clear q7 r0 r3 r12 r15 l1 l2
  go_wp2_with fail
  refine (C6.out _ (((((HG.out.ext j1).ext j2).ext j3).ext j4).ext (by go_grown))).mono ?_
  rintro e w5 ⟨rfl, hb5⟩
  have j5 : Below w4.heap.size w4 w5 := ext (by go_grown) hb5
  have g5 : Below w.heap.size w w5 := ext g4 j5
  have s5 := j5.size
  have t5 := g5.size
  go_wp2
  all_goals go_returns
  all_goals exact ⟨by first | rfl | (simp; done) | (simp; omega), g5⟩
end Go.Proofs.YtammgbohaaiicaaDoor
