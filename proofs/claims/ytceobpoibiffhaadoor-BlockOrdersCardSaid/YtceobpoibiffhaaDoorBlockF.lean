/- kinlaw7.first. -/
import Derived.Test.YtceobpoibiffhaaDoorBlockR
import Derived.Test.YtceobpoibiffhaaDoorOrder
import Derived.Test.YtceobpoibiffhaaDoorSame
set_option linter.unusedSimpArgs false
set_option linter.unusedVariables false
namespace Go.Proofs.YtceobpoibiffhaaDoor
open Go.RowKit Go.Extern.Stop Go.Stop Go.Extern

theorem in64_of {xs : List Int} (h : (xs.all fun x => decide (-9223372036854775808 ≤ x) && decide (x ≤ 9223372036854775807)) = true) : ∀ x ∈ xs, in64 x := by
  intro x hx
  have := List.all_eq_true.1 h x hx
  simp only [Bool.and_eq_true, decide_eq_true_eq] at this
  exact this
/-- A list that is written out. -/
theorem own_lit (w : World) (N : Nat) (hN : N = w.heap.size) (xs : List Int) (h : (xs.all fun x => decide (-9223372036854775808 ≤ x) && decide (x ≤ 9223372036854775807)) = true) (hl : decide (xs.length ≤ 1000) = true) :
    OwnInts (w.alloc (.cells (xs.map (Value.int .i64)).toArray 3)) w.heap.size (.slice (some ⟨N, 0, none⟩) xs.length xs.length) xs := by
  subst hN
  exact ⟨by simpa using World.ownsRow_lit (base := w.heap.size) (e := 3) (size := 1) w (xs.map (Value.int .i64)).toArray xs.length (Nat.le_refl _) (by have := of_decide_eq_true hl; unfold maxLen; omega) (by simp), in64_of h⟩
theorem ints_lit (w : World) (N : Nat) (hN : N = w.heap.size) (xs : List Int) (h : (xs.all fun x => decide (-9223372036854775808 ≤ x) && decide (x ≤ 9223372036854775807)) = true) (hl : decide (xs.length ≤ 1000) = true) :
    Ints (w.alloc (.cells (xs.map (Value.int .i64)).toArray 3)) (.slice (some ⟨N, 0, none⟩) xs.length xs.length) xs := (own_lit w N hN xs h hl).ints

theorem two_lits (w : World) (xs ys : List Int) (h : (xs.all fun x => decide (-9223372036854775808 ≤ x) && decide (x ≤ 9223372036854775807)) = true) (hl : decide (xs.length ≤ 1000) = true)
    (h' : (ys.all fun x => decide (-9223372036854775808 ≤ x) && decide (x ≤ 9223372036854775807)) = true) (hl' : decide (ys.length ≤ 1000) = true) :
    Ints ((w.alloc (.cells (xs.map (Value.int .i64)).toArray 3)).alloc (.cells (ys.map (Value.int .i64)).toArray 3)) (.slice (some ⟨w.heap.size, 0, none⟩) xs.length xs.length) xs ∧
    Ints ((w.alloc (.cells (xs.map (Value.int .i64)).toArray 3)).alloc (.cells (ys.map (Value.int .i64)).toArray 3)) (.slice (some ⟨w.heap.size + 1, 0, none⟩) ys.length ys.length) ys :=
  ⟨(ints_lit w _ rfl xs h hl).ext ((Below.refl _ _).alloc (Nat.le_refl _) _), ints_lit _ _ (by simp) ys h' hl'⟩
theorem two_below {w w' : World} {o o' : Obj} (h : Below ((w.alloc o).alloc o').heap.size ((w.alloc o).alloc o') w') : Below w.heap.size w w' := ext (((Below.refl _ _).alloc (Nat.le_refl _) _).alloc (by simp) _) h
theorem c1 (w : World) : Calls Tryd.prog 11 #[.slice (some ⟨w.heap.size, 0, none⟩) 2 2, .slice (some ⟨w.heap.size + 1, 0, none⟩) 2 2] ((w.alloc (.cells #[.int .i64 5, .int .i64 1] 3)).alloc (.cells #[.int .i64 7, .int .i64 0] 3)) fun e w' => ∃ v', e = .returned (.tuple #[v', .nilIface]) ∧ OwnInts w' w.heap.size v' [-2, 1] ∧ Below w.heap.size w w' := by
  obtain ⟨hv, hu⟩ := two_lits w [5, 1] [7, 0] rfl rfl rfl rfl
  have h := psub_any _ _ _ _ _ hv hu (by decide)
  rw [show bothE [5, 1] [7, 0] = 0 from by decide +kernel, show okL 0 (subV [5, 1] [7, 0]) = [-2, 1] from by decide +kernel] at h
  exact h.mono fun e w' ⟨v', he, ho, hb⟩ => ⟨v', he, ho.mono (by simp; omega), two_below hb⟩
theorem c2 (w : World) : Calls Tryd.prog 13 #[.slice (some ⟨w.heap.size, 0, none⟩) 2 2, .slice (some ⟨w.heap.size + 1, 0, none⟩) 2 2] ((w.alloc (.cells #[.int .i64 250, .int .i64 3] 3)).alloc (.cells #[.int .i64 9, .int .i64 (-9)] 3)) fun e w' => ∃ v', e = .returned (.tuple #[v', .nilIface]) ∧ OwnInts w' w.heap.size v' [255, 0] ∧ Below w.heap.size w w' := by
  obtain ⟨hv, hu⟩ := two_lits w [250, 3] [9, -9] rfl rfl rfl rfl
  have h := padd_any _ _ _ _ _ hv hu (by decide)
  rw [show bothE [250, 3] [9, -9] = 0 from by decide +kernel, show okL 0 (addV [250, 3] [9, -9]) = [255, 0] from by decide +kernel] at h
  exact h.mono fun e w' ⟨v', he, ho, hb⟩ => ⟨v', he, ho.mono (by simp; omega), two_below hb⟩
theorem c3 (w : World) : Calls Tryd.prog 15 #[.slice (some ⟨w.heap.size, 0, none⟩) 2 2, .slice (some ⟨w.heap.size + 1, 0, none⟩) 2 2] ((w.alloc (.cells #[.int .i64 1, .int .i64 2] 3)).alloc (.cells #[.int .i64 4, .int .i64 0] 3)) fun e w' => e = .returned (.tuple #[.int .i64 5, .nilIface]) ∧ Below w.heap.size w w' := by
  obtain ⟨hv, hu⟩ := two_lits w [1, 2] [4, 0] rfl rfl rfl rfl
  have h := psad_any _ _ _ _ _ hv hu (by decide)
  rw [show bothE [1, 2] [4, 0] = 0 from by decide +kernel, show okI 0 (sadV [1, 2] [4, 0]) = 5 from by decide +kernel] at h
  exact h.mono fun e w' ⟨he, hb⟩ => ⟨he, two_below hb⟩
theorem c4 (v u : Value) (w : World) (hv : Ints w v [1]) (hu : Ints w u []) : Calls Tryd.prog 15 #[v, u] w fun e w' => e = .returned (.tuple #[.int .i64 0, .iface 29 (.int .i64 14)]) ∧ Below w.heap.size w w' := by
  have h := psad_any v u _ _ w hv hu (by decide)
  rw [show bothE [1] [] = 14 from by decide +kernel, show okI 14 (sadV [1] []) = 0 from by decide +kernel] at h
  exact h
theorem c7 (w : World) : Calls Tryd.prog 19 #[.int .i64 4] w fun e w' => ∃ v', e = .returned v' ∧ OwnInts w' w.heap.size v' [0, 1, 4, 8, 5, 2, 3, 6, 9, 12, 13, 10, 7, 11, 14, 15] ∧ Below w.heap.size w w' := by
  have h := porder_any 4 w
  rw [show orderL 4 = [0, 1, 4, 8, 5, 2, 3, 6, 9, 12, 13, 10, 7, 11, 14, 15] from order4] at h
  exact h

set_option maxRecDepth 100000 in
set_option maxHeartbeats 8000000 in
theorem first_any (w : World) (hg : TypeIs w) : Calls Tryd.prog 9 #[] w fun e w' => e = .returned (.bool true) ∧ Below w.heap.size w w' := by
  have c6 : ∀ w, TypeIs w → Calls Tryd.prog 18 #[.iface 29 (.int .i64 14), .agg #[.int .i64 14, .slice none 0 0]] w fun e w' => e = .returned (.bool true) ∧ Below w.heap.size w w' := fun w hg => same_any 14 w hg
  have HG := Lib.hid hg
  have C6 := Lib.hid c6
  clear hg c6
  go_enter Tryd.func9, Tryd.ntmps9
  have g0 : Below w.heap.size w w := Below.refl _ _
  go_wp2_with fail
  refine (c1 w).mono ?_
  rintro e w1 ⟨a, rfl, ha, hb1⟩
  have j1 : Below w.heap.size w w1 := ext (by go_grown) hb1
  have g1 : Below w.heap.size w w1 := ext g0 j1
  have s1 := j1.size
  have t1 := g1.size
  obtain ⟨ga, capa, rfl, -, -⟩ := ha.head (by decide)
  have HA := Lib.hid (ha)
  clear ha
  go_wp2_with fail
  refine (c2 w1).mono ?_
  rintro e w2 ⟨b, rfl, hbo, hb2⟩
  have j2 : Below w1.heap.size w1 w2 := ext (by go_grown) hb2
  have g2 : Below w.heap.size w w2 := ext g1 j2
  have s2 := j2.size
  have t2 := g2.size
  obtain ⟨gb, capb, rfl, -, -⟩ := hbo.head (by decide)
  have HB := Lib.hid (hbo)
  clear hbo
  go_wp2_with fail
  refine (c3 w2).mono ?_
  rintro e w3 ⟨rfl, hb3⟩
  have j3 : Below w2.heap.size w2 w3 := ext (by go_grown) hb3
  have g3 : Below w.heap.size w w3 := ext g2 j3
  have s3 := j3.size
  have t3 := g3.size
  go_wp2_with fail
  refine (c4 _ _ _ (ints_lit w3 _ rfl [1] rfl rfl) (Ints.nil _)).mono ?_
  rintro e w4 ⟨rfl, hb4⟩
  have j4 : Below w3.heap.size w3 w4 := ext (by go_grown) hb4
  have g4 : Below w.heap.size w w4 := ext g3 j4
  have s4 := j4.size
  have t4 := g4.size
  obtain ⟨-, -, -, hac, -⟩ := ((((HA.out.ext j2).ext j3).ext j4)).at
  obtain ⟨-, -, -, hbc, -⟩ := (((HB.out.ext j3).ext j4)).at
  have ha0 : _ = some (Value.int .i64 (-2)) := hac 0 (by decide)
  have hb0 : _ = some (Value.int .i64 255) := hbc 0 (by decide)
  have hb1' : _ = some (Value.int .i64 0) := hbc 1 (by decide)
  clear hac hbc
  go_wp2_with fail
  refine (fail_any _ _).mono ?_
  rintro e w5 ⟨rfl, hb5⟩
  have j5 : Below w4.heap.size w4 w5 := ext (by go_grown) hb5
  have g5 : Below w.heap.size w w5 := ext g4 j5
  have s5 := j5.size
  have t5 := g5.size
  clear ha0 hb0 hb1'
  go_wp2_with fail
  refine (C6.out _ ((((((HG.out.ext j1).ext j2).ext j3).ext j4).ext j5).ext (by go_grown))).mono ?_
  rintro e w6 ⟨rfl, hb6⟩
  have j6 : Below w5.heap.size w5 w6 := ext (by go_grown) hb6
  have g6 : Below w.heap.size w w6 := ext g5 j6
  have s6 := j6.size
  have t6 := g6.size
  go_wp2_with fail
  refine (c7 _).mono ?_
  rintro e w7 ⟨o, rfl, ho, hb7⟩
  have j7 : Below w6.heap.size w6 w7 := ext (by go_grown) hb7
  have g7 : Below w.heap.size w w7 := ext g6 j7
  have s7 := j7.size
  have t7 := g7.size
  have HO := Lib.hid (ho.ints)
  clear ho
  go_wp2_with fail
  refine (ints_any _ _ _ _ _ (HO.out.ext (by go_grown)) (ints_lit w7 _ rfl [0, 1, 4, 8, 5, 2, 3, 6, 9, 12, 13, 10, 7, 11, 14, 15] rfl rfl)).mono ?_
  rintro e w8 ⟨rfl, hb8⟩
  have j8 : Below w7.heap.size w7 w8 := ext (by go_grown) hb8
  have g8 : Below w.heap.size w w8 := ext g7 j8
  have s8 := j8.size
  have t8 := g8.size
  simp only [decide_true]
  go_wp2_with fail
  refine (pzero_any _ _ _ (Ints.nil _)).mono ?_
  rintro e w' ⟨rfl, rfl⟩
  rw [show withinB [] 0 0 = true from rfl]
  go_wp2
  go_returns
  exact ⟨rfl, g8⟩
end Go.Proofs.YtceobpoibiffhaaDoor
