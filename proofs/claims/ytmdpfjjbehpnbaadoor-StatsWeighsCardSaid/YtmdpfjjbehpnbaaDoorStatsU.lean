/- kinlaw17.StatsWeighs: the walk. -/
import Derived.Test.YtmdpfjjbehpnbaaDoorStatsV
import Derived.Test.YtmdpfjjbehpnbaaDoorStatsE
import Derived.Test.YtmdpfjjbehpnbaaDoorGrpsT
set_option linter.unusedSimpArgs false
set_option linter.unusedVariables false
namespace Go.Proofs.YtmdpfjjbehpnbaaDoor
open Go.RowKit Go.Extern.Stop Go.Stop Go.Extern
theorem least_ne {f : Nat → Int} : ∀ {n : Nat}, (∃ j, j < n ∧ f j ≠ 0) → ∃ i, i < n ∧ (∀ j, j < i → f j = 0) ∧ f i ≠ 0
  | 0, h => by obtain ⟨j, hj, _⟩ := h; omega
  | n + 1, h => by
    by_cases h2 : ∃ j, j < n ∧ f j ≠ 0
    · obtain ⟨i, h3, h4⟩ := least_ne h2
      exact ⟨i, by omega, h4⟩
    · obtain ⟨j, hj, hne⟩ := h
      have hz : ∀ j, j < n → f j = 0 := fun j hj => Classical.byContradiction fun h => h2 ⟨j, hj, h⟩
      rcases Nat.lt_or_ge j n with h3 | h3
      · exact absurd (hz j h3) hne
      · obtain rfl : j = n := by omega
        exact ⟨j, hj, hz, hne⟩

theorem pw_fault (v u : Value) (fs : List Fr) (gs : List (Int × Int)) (w : World) (hv : Frames w v fs) (hu : Grps w u gs) (h : Tiles gs fs.length) (i : Nat) (hi : i < fs.length) (hz : ∀ j, j < i → wE fs gs j = 0) (hne : wE fs gs i ≠ 0) :
    Calls Tryd.prog 16 #[v, u] w fun e w' => ∃ b, e = .returned (.tuple #[.slice none 0 0, .iface 84 (.pointer (some ⟨b, 0, none⟩))]) ∧ Blk w' b (fltC #[115, 116, 97, 116, 115] i (wE fs gs i)) 87 ∧ Below w.heap.size w w' := by
  refine (pweights_any v u fs gs w hv hu h).mono fun e w' hp => ?_
  rcases hp with ⟨hz', -⟩ | ⟨i', hi', hz', hne', b, he, hb, -, hb2⟩
  · exact absurd (hz' i hi) hne
  · obtain rfl : i = i' := by
      rcases Nat.lt_trichotomy i i' with h1 | h1 | h1
      · exact absurd (hz' i h1) hne
      · exact h1
      · exact absurd (hz i' h1) hne'
    exact ⟨b, he, hb, hb2⟩
theorem rw_fault (v u : Value) (fs : List Fr) (gs : List (Int × Int)) (w : World) (hv : Frames w v fs) (hu : Grps w u gs) (h : Tiles gs fs.length) (i : Nat) (hi : i < fs.length) (hz : ∀ j, j < i → wE fs gs j = 0) (hne : wE fs gs i ≠ 0) :
    Calls Tryd.prog 17 #[v, u] w fun e w' => ∃ p, e = .returned (.tuple #[.slice none 0 0, .agg #[.int .i64 (wE fs gs i), p]]) ∧ PathV w' p #[115, 116, 97, 116, 115] i ∧ Below w.heap.size w w' := by
  refine (rweights_any v u fs gs w hv hu h).mono fun e w' hp => ?_
  rcases hp with ⟨hz', -⟩ | ⟨i', hi', hz', hne', b, he, hb, hb2⟩
  · exact absurd (hz' i hi) hne
  · obtain rfl : i = i' := by
      rcases Nat.lt_trichotomy i i' with h1 | h1 | h1
      · exact absurd (hz' i h1) hne
      · exact h1
      · exact absurd (hz i' h1) hne'
    exact ⟨b, he, hb, hb2⟩
theorem rw_ok (v u : Value) (fs : List Fr) (gs : List (Int × Int)) (w : World) (hv : Frames w v fs) (hu : Grps w u gs) (h : Tiles gs fs.length) (hz : ∀ j, j < fs.length → wE fs gs j = 0) :
    Calls Tryd.prog 17 #[v, u] w fun e w' => ∃ v', e = .returned (.tuple #[v', .agg #[.int .i64 0, .slice none 0 0]]) ∧ OwnInts w' w.heap.size v' (mapTo (wV fs gs) fs.length) ∧ Below w.heap.size w w' := by
  refine (rweights_any v u fs gs w hv hu h).mono fun e w' hp => ?_
  rcases hp with ⟨-, h⟩ | ⟨i, h1, -, h2, -⟩
  · exact h
  · exact absurd (hz i h1) h2
theorem ints_same (v u : Value) (xs : List Int) (w : World) (hv : Ints w v xs) (hu : Ints w u xs) :
    Calls Tryd.prog 18 #[v, u] w fun e w' => e = .returned (.bool true) ∧ Below w.heap.size w w' :=
  (ints_any v u xs xs w hv hu).mono fun e w' ⟨he, hb⟩ => ⟨by rw [he]; simp, hb⟩
section
variable {ops : Array Oper} {rest : List Oper} {o : Oper} {a : Act} {Q : Exit → Act → World → Prop}
/-- 'append([]api.Group{}, g...)' -/
theorem wpList_applG {W : World} (hgd : o.guard = none) (s x : Operand) (ho : o.op = .call { callee := .builtin .append, args := #[s, x], argTypes := #[42, 42] })
    (B : Nat) (v u : Value) (gs : List (Int × Int)) (hs : a.eval s = v) (hown : OwnG W B v []) (hx : a.eval x = u) (hu : Grps W u gs) (hlen : gs.length ≤ 1000000) (hB : B ≤ W.heap.size)
    (h : ∀ v' w', OwnG w' B v' gs → Below B W w' → wpList Tryd.prog ops Q rest (a.put o.dst v') w') : wpList Tryd.prog ops Q (o :: rest) a W := by
  obtain ⟨i0, hi, hz0, hz1, hz2⟩ := info_parts infoG
  obtain ⟨ao, cap, rfl, h1, h2, h3, h5, h4⟩ := hu
  have hcell : ∀ ad, ao = some ad → ∀ (j : Nat) (u : Value), (gcells gs)[j]? = some u → W.cell? (ad.add j) = some u := by
    intro ad had j u hj
    have hj' : j < gs.length * 2 := by
      rcases Nat.lt_or_ge j (gs.length * 2) with h | h
      · exact h
      · rw [List.getElem?_eq_none (by rw [length_gcells]; omega)] at hj; cases hj
    obtain ⟨b, off, e, hlt, hc0, hc1⟩ := h4 (j / 2) (by omega)
    rw [had] at e
    obtain rfl := Option.some.inj e
    rw [Go.WideShapes.add_plain]
    obtain ⟨k0, k1⟩ := gcells_at gs (j := j / 2) (by omega)
    rcases Nat.mod_two_eq_zero_or_one j with hm | hm
    · have e : j / 2 * 2 = j := by omega
      rw [e] at k0 hc0
      rw [hc0, ← k0, hj]
    · have e : j / 2 * 2 + 1 = j := by omega
      rw [e] at k1
      rw [Nat.add_assoc, e] at hc1
      rw [hc1, ← k1, hj]
  cases ao with
  | none =>
    have hl : gs.length = 0 := by
      rcases Nat.eq_zero_or_pos gs.length with h | h
      · exact h
      · obtain ⟨_, _, e, _⟩ := h4 0 h; cases e
    have hy : gs = [] := List.length_eq_zero_iff.1 hl
    subst hy
    obtain rfl := h3 rfl
    refine wpList_append_own_none hgd s x 42 ho B 52 i0 2 undG hi v 0 _ hs hown.1 hx ?_
    exact h v W hown (Below.refl _ _)
  | some ad =>
    refine wpList_append_own _ hgd s x 42 ho B 52 i0 (.agg #[.int .i64 0, .int .i64 0]) 2 16 undG hi hz0 hz1 hz2 rfl (by decide) v 0 [] hs hown.1 ad gs.length cap (gcells gs) hx (length_gcells gs) (hcell ad rfl) ?_ (by unfold maxLen; omega) (by omega) hB ?_
    · intro u hu
      unfold gcells at hu
      obtain ⟨p, -, hp⟩ := List.mem_flatMap.1 hu
      simp at hp; rcases hp with rfl | rfl <;> rfl
    intro v' w' hown' hgrow _
    refine h v' w' ⟨by simpa using hown', h5⟩ ?_
    exact (Below.refl B W).grown hgrow hB fun k hk => (hown.1.lt k hk).1
end
theorem own_emptyG (w : World) : OwnG (w.alloc (.cells #[] 52)) w.heap.size (.slice (some ⟨w.heap.size, 0, none⟩) 0 0) [] :=
  ⟨World.ownsRow_lit w #[] 0 (Nat.le_refl _) (by simp [maxLen]) (by simp), by simp⟩

set_option maxRecDepth 100000 in
set_option maxHeartbeats 16000000 in
theorem weighs_p (v u : Value) (fs : List Fr) (gs : List (Int × Int)) (w : World) (hv : Frames w v fs) (hu : Grps w u gs) (hg : TypeIs w) (hp : pixB fs = false) :
    Calls Tryd.prog 4 #[v, u] w fun e w' => e = .returned (.bool true) ∧ Below w.heap.size w w' := by
  have HG := Lib.hid hg
  have HV := Lib.hid hv
  have HU := Lib.hid hu
  have c1 := fun w h => pix_any v fs w h
  rw [hp] at c1
  have C1 := Lib.hid c1
  obtain ⟨m, hm⟩ : ∃ m, gs.length = m := ⟨_, rfl⟩
  obtain ⟨bo, bcap, rfl⟩ := hu.shapeN hm
  clear hv hu hg c1 hp hm
  go_enter Tryd.func4, Tryd.ntmps4
  have g0 : Below w.heap.size w w := Below.refl _ _
  go_wp2_with fail
  refine (first_any _ (HG.out.ext (by go_grown))).mono ?_
  rintro e w1 ⟨rfl, hb1⟩
  have j1 : Below w.heap.size w w1 := ext (by go_grown) hb1
  have g1 : Below w.heap.size w w1 := ext g0 j1
  have s1 := j1.size
  have t1 := g1.size
  go_wp2_with fail
  refine (C1.out _ ((HV.out.ext j1).ext (by go_grown))).mono ?_
  rintro e w2 ⟨rfl, hb2⟩
  have j2 : Below w1.heap.size w1 w2 := ext (by go_grown) hb2
  have g2 : Below w.heap.size w w2 := ext g1 j2
  have s2 := j2.size
  have t2 := g2.size
  go_wp2_with fail
  refine (first_any _ (((HG.out.ext j1).ext j2).ext (by go_grown))).mono ?_
  rintro e w3 ⟨rfl, hb3⟩
  have j3 : Below w2.heap.size w2 w3 := ext (by go_grown) hb3
  have g3 : Below w.heap.size w w3 := ext g2 j3
  have s3 := j3.size
  have t3 := g3.size
  go_wp2
  all_goals go_returns
  all_goals exact ⟨by first | rfl | (simp; done) | (simp; omega), g3⟩

set_option maxRecDepth 100000 in
set_option maxHeartbeats 16000000 in
theorem weighs_l (v u : Value) (fs : List Fr) (gs : List (Int × Int)) (w : World) (hv : Frames w v fs) (hu : Grps w u gs) (hg : TypeIs w) (hp : pixB fs = true) (hl : 40 < gs.length) :
    Calls Tryd.prog 4 #[v, u] w fun e w' => e = .returned (.bool true) ∧ Below w.heap.size w w' := by
  have HG := Lib.hid hg
  have HV := Lib.hid hv
  have HU := Lib.hid hu
  have c1 := fun w h => pix_any v fs w h
  rw [hp] at c1
  have C1 := Lib.hid c1
  have CL := Lib.hid hl
  obtain ⟨m, hm⟩ : ∃ m, gs.length = m := ⟨_, rfl⟩
  obtain ⟨bo, bcap, rfl⟩ := hu.shapeN hm
  rw [hm] at hl
  clear hv hu hg c1 hp hm
  go_enter Tryd.func4, Tryd.ntmps4
  have g0 : Below w.heap.size w w := Below.refl _ _
  go_wp2_with fail
  refine (first_any _ (HG.out.ext (by go_grown))).mono ?_
  rintro e w1 ⟨rfl, hb1⟩
  have j1 : Below w.heap.size w w1 := ext (by go_grown) hb1
  have g1 : Below w.heap.size w w1 := ext g0 j1
  have s1 := j1.size
  have t1 := g1.size
  go_wp2_with fail
  refine (C1.out _ ((HV.out.ext j1).ext (by go_grown))).mono ?_
  rintro e w2 ⟨rfl, hb2⟩
  have j2 : Below w1.heap.size w1 w2 := ext (by go_grown) hb2
  have g2 : Below w.heap.size w w2 := ext g1 j2
  have s2 := j2.size
  have t2 := g2.size
  go_wp2_with fail
  refine (first_any _ (((HG.out.ext j1).ext j2).ext (by go_grown))).mono ?_
  rintro e w3 ⟨rfl, hb3⟩
  have j3 : Below w2.heap.size w2 w3 := ext (by go_grown) hb3
  have g3 : Below w.heap.size w w3 := ext g2 j3
  have s3 := j3.size
  have t3 := g3.size
  go_wp2
  all_goals go_returns
  all_goals exact ⟨by first | rfl | (simp; done) | (simp; omega), g3⟩

set_option maxRecDepth 100000 in
set_option maxHeartbeats 16000000 in
theorem weighs_n (v u : Value) (fs : List Fr) (gs : List (Int × Int)) (w : World) (hv : Frames w v fs) (hu : Grps w u gs) (hg : TypeIs w) (hp : pixB fs = true) (hl : gs.length ≤ 40) (hn : ¬ Tiles gs fs.length) :
    Calls Tryd.prog 4 #[v, u] w fun e w' => e = .returned (.bool true) ∧ Below w.heap.size w w' := by
  have HG := Lib.hid hg
  have HV := Lib.hid hv
  have HU := Lib.hid hu
  have c1 := fun w h => pix_any v fs w h
  rw [hp] at c1
  have C1 := Lib.hid c1
  have CC := Lib.hid (fun w h => copyframes_any v fs w h (by have := (pix_few hp).1; omega) (fun j hj => by have := (pix_few hp).2 j hj; show _ ≤ 1000000; unfold frA at this; omega))
  have C2 := Lib.hid (fun v u w h1 h2 => pweights_no v u fs gs w h1 h2 hn)
  have C3 := Lib.hid (fun v u w h1 h2 => rweights_no v u fs gs w h1 h2 hn)
  have C5 := Lib.hid (fun w h => same_cc 3 (by decide) w h)
  have CL := Lib.hid hl
  obtain ⟨m, hm⟩ : ∃ m, gs.length = m := ⟨_, rfl⟩
  obtain ⟨bo, bcap, rfl⟩ := hu.shapeN hm
  rw [hm] at hl
  clear hv hu hg c1 hp hm hn
  go_enter Tryd.func4, Tryd.ntmps4
  have g0 : Below w.heap.size w w := Below.refl _ _
  go_wp2_with fail
  refine (first_any _ (HG.out.ext (by go_grown))).mono ?_
  rintro e w1 ⟨rfl, hb1⟩
  have j1 : Below w.heap.size w w1 := ext (by go_grown) hb1
  have g1 : Below w.heap.size w w1 := ext g0 j1
  have s1 := j1.size
  have t1 := g1.size
  go_wp2_with fail
  refine (C1.out _ ((HV.out.ext j1).ext (by go_grown))).mono ?_
  rintro e w2 ⟨rfl, hb2⟩
  have j2 : Below w1.heap.size w1 w2 := ext (by go_grown) hb2
  have g2 : Below w.heap.size w w2 := ext g1 j2
  have s2 := j2.size
  have t2 := g2.size
  go_wp2_with fail
  refine (CC.out _ (((HV.out.ext j1).ext j2).ext (by go_grown))).mono ?_
  rintro e w3 ⟨vi, rfl, oi, hb3⟩
  have j3 : Below w2.heap.size w2 w3 := ext (by go_grown) hb3
  have g3 : Below w.heap.size w w3 := ext g2 j3
  have s3 := j3.size
  have t3 := g3.size
  have HI := Lib.hid (oi.frames)
  clear oi
  have jE : Below w3.heap.size w3 (w3.alloc (.cells #[] 52)) := by go_grown
  have HUE := Lib.hid ((((HU.out.ext j1).ext j2).ext j3).ext jE)
  have HLE := Lib.hid (show gs.length ≤ 1000000 from Nat.le_trans CL.out (by decide))
  go_wp2_with (at_builtin; refine wpList_applG rfl (.tmp 25) (.tmp 26) rfl w3.heap.size _ _ gs rfl (own_emptyG _) rfl HUE.out HLE.out (by simp) ?_)
  intro vc wc ownc hbc
  have j4 : Below w3.heap.size w3 wc := jE.trans hbc
  have g4 : Below w.heap.size w wc := ext g3 j4
  have s4 := j4.size
  have t4 := g4.size
  have HC := Lib.hid ownc.grps
  clear ownc hbc jE HUE
  go_wp2_with fail
  refine (C2.out _ _ _ ((HI.out.ext j4).ext (by go_grown)) (HC.out.ext (by go_grown))).mono ?_
  rintro e w5 ⟨rfl, hb5⟩
  have j5 : Below wc.heap.size wc w5 := ext (by go_grown) hb5
  have g5 : Below w.heap.size w w5 := ext g4 j5
  have s5 := j5.size
  have t5 := g5.size
  go_wp2_with fail
  refine (C3.out _ _ _ ((((((HV.out.ext j1).ext j2).ext j3).ext j4).ext j5).ext (by go_grown)) ((((((HU.out.ext j1).ext j2).ext j3).ext j4).ext j5).ext (by go_grown))).mono ?_
  rintro e w6 ⟨rfl, hb6⟩
  have j6 : Below w5.heap.size w5 w6 := ext (by go_grown) hb6
  have g6 : Below w.heap.size w w6 := ext g5 j6
  have s6 := j6.size
  have t6 := g6.size
  go_wp2_with fail
  refine (first_any _ (((((((HG.out.ext j1).ext j2).ext j3).ext j4).ext j5).ext j6).ext (by go_grown))).mono ?_
  rintro e w7 ⟨rfl, hb7⟩
  have j7 : Below w6.heap.size w6 w7 := ext (by go_grown) hb7
  have g7 : Below w.heap.size w w7 := ext g6 j7
  have s7 := j7.size
  have t7 := g7.size
  have BE := Lib.hid ((Blk.new w6 #[.int .i64 3, .slice none 0 0] 35).ext hb7)
  go_wp2_with fail
  refine (ints_same _ _ [] _ (Ints.nil _) (Ints.nil _)).mono ?_
  rintro e w8 ⟨rfl, hb8⟩
  have j8 : Below w7.heap.size w7 w8 := ext (by go_grown) hb8
  have g8 : Below w.heap.size w w8 := ext g7 j8
  have s8 := j8.size
  have t8 := g8.size
  obtain ⟨BE0, BE1, BE2, BE3⟩ := (BE.out.ext j8).two
  go_wp2_with fail
  clear BE0 BE1 BE2 BE3
  refine (C5.out _ (((((((((HG.out.ext j1).ext j2).ext j3).ext j4).ext j5).ext j6).ext j7).ext j8).ext (by go_grown))).mono ?_
  rintro e w9 ⟨rfl, hb9⟩
  have j9 : Below w8.heap.size w8 w9 := ext (by go_grown) hb9
  have g9 : Below w.heap.size w w9 := ext g8 j9
  have s9 := j9.size
  have t9 := g9.size
  go_wp2_with fail
  refine (rframes_same _ _ _ _ (((((((HI.out.ext j4).ext j5).ext j6).ext j7).ext j8).ext j9).ext (by go_grown)) ((((((((((HV.out.ext j1).ext j2).ext j3).ext j4).ext j5).ext j6).ext j7).ext j8).ext j9).ext (by go_grown))).mono ?_
  rintro e w10 ⟨rfl, hb10⟩
  have j10 : Below w9.heap.size w9 w10 := ext (by go_grown) hb10
  have g10 : Below w.heap.size w w10 := ext g9 j10
  have s10 := j10.size
  have t10 := g10.size
  go_wp2
  all_goals go_returns
  all_goals exact ⟨by first | rfl | (simp; done) | (simp; omega), g10⟩

set_option maxRecDepth 100000 in
set_option maxHeartbeats 16000000 in
theorem weighs_g (v u : Value) (fs : List Fr) (gs : List (Int × Int)) (w : World) (hv : Frames w v fs) (hu : Grps w u gs) (hg : TypeIs w) (hp : pixB fs = true) (hl : gs.length ≤ 40) (ht : Tiles gs fs.length) (hz : ∀ j, j < fs.length → wE fs gs j = 0) :
    Calls Tryd.prog 4 #[v, u] w fun e w' => e = .returned (.bool true) ∧ Below w.heap.size w w' := by
  have HG := Lib.hid hg
  have HV := Lib.hid hv
  have HU := Lib.hid hu
  have c1 := fun w h => pix_any v fs w h
  rw [hp] at c1
  have C1 := Lib.hid c1
  have CC := Lib.hid (fun w h => copyframes_any v fs w h (by have := (pix_few hp).1; omega) (fun j hj => by have := (pix_few hp).2 j hj; show _ ≤ 1000000; unfold frA at this; omega))
  have C2 := Lib.hid (fun v u w h1 h2 => pweights_ok v u fs gs w h1 h2 ht hz)
  have C3 := Lib.hid (fun v u w h1 h2 => rw_ok v u fs gs w h1 h2 ht hz)
  have CL := Lib.hid hl
  obtain ⟨m, hm⟩ : ∃ m, gs.length = m := ⟨_, rfl⟩
  obtain ⟨bo, bcap, rfl⟩ := hu.shapeN hm
  rw [hm] at hl
  clear hv hu hg c1 hp hm ht hz
  go_enter Tryd.func4, Tryd.ntmps4
  have g0 : Below w.heap.size w w := Below.refl _ _
  go_wp2_with fail
  refine (first_any _ (HG.out.ext (by go_grown))).mono ?_
  rintro e w1 ⟨rfl, hb1⟩
  have j1 : Below w.heap.size w w1 := ext (by go_grown) hb1
  have g1 : Below w.heap.size w w1 := ext g0 j1
  have s1 := j1.size
  have t1 := g1.size
  go_wp2_with fail
  refine (C1.out _ ((HV.out.ext j1).ext (by go_grown))).mono ?_
  rintro e w2 ⟨rfl, hb2⟩
  have j2 : Below w1.heap.size w1 w2 := ext (by go_grown) hb2
  have g2 : Below w.heap.size w w2 := ext g1 j2
  have s2 := j2.size
  have t2 := g2.size
  go_wp2_with fail
  refine (CC.out _ (((HV.out.ext j1).ext j2).ext (by go_grown))).mono ?_
  rintro e w3 ⟨vi, rfl, oi, hb3⟩
  have j3 : Below w2.heap.size w2 w3 := ext (by go_grown) hb3
  have g3 : Below w.heap.size w w3 := ext g2 j3
  have s3 := j3.size
  have t3 := g3.size
  have HI := Lib.hid (oi.frames)
  clear oi
  have jE : Below w3.heap.size w3 (w3.alloc (.cells #[] 52)) := by go_grown
  have HUE := Lib.hid ((((HU.out.ext j1).ext j2).ext j3).ext jE)
  have HLE := Lib.hid (show gs.length ≤ 1000000 from Nat.le_trans CL.out (by decide))
  go_wp2_with (at_builtin; refine wpList_applG rfl (.tmp 25) (.tmp 26) rfl w3.heap.size _ _ gs rfl (own_emptyG _) rfl HUE.out HLE.out (by simp) ?_)
  intro vc wc ownc hbc
  have j4 : Below w3.heap.size w3 wc := jE.trans hbc
  have g4 : Below w.heap.size w wc := ext g3 j4
  have s4 := j4.size
  have t4 := g4.size
  have HC := Lib.hid ownc.grps
  clear ownc hbc jE HUE
  go_wp2_with fail
  refine (C2.out _ _ _ ((HI.out.ext j4).ext (by go_grown)) (HC.out.ext (by go_grown))).mono ?_
  rintro e w5 ⟨va, rfl, oa, hb5⟩
  have j5 : Below wc.heap.size wc w5 := ext (by go_grown) hb5
  have g5 : Below w.heap.size w w5 := ext g4 j5
  have s5 := j5.size
  have t5 := g5.size
  obtain ⟨aa, an, ac, rfl⟩ : ∃ aa an ac, va = .slice aa an ac := by obtain ⟨aa, ac, e⟩ := oa.shape; exact ⟨aa, _, ac, e⟩
  have IA := Lib.hid (oa.ints)
  clear oa
  go_wp2_with fail
  refine (C3.out _ _ _ ((((((HV.out.ext j1).ext j2).ext j3).ext j4).ext j5).ext (by go_grown)) ((((((HU.out.ext j1).ext j2).ext j3).ext j4).ext j5).ext (by go_grown))).mono ?_
  rintro e w6 ⟨vb, rfl, ob, hb6⟩
  have j6 : Below w5.heap.size w5 w6 := ext (by go_grown) hb6
  have g6 : Below w.heap.size w w6 := ext g5 j6
  have s6 := j6.size
  have t6 := g6.size
  obtain ⟨ba, bn, bc, rfl⟩ : ∃ ba bn bc, vb = .slice ba bn bc := by obtain ⟨aa, ac, e⟩ := ob.shape; exact ⟨aa, _, ac, e⟩
  have IB := Lib.hid (ob.ints)
  clear ob
  go_wp2_with fail
  refine (first_any _ (((((((HG.out.ext j1).ext j2).ext j3).ext j4).ext j5).ext j6).ext (by go_grown))).mono ?_
  rintro e w7 ⟨rfl, hb7⟩
  have j7 : Below w6.heap.size w6 w7 := ext (by go_grown) hb7
  have g7 : Below w.heap.size w w7 := ext g6 j7
  have s7 := j7.size
  have t7 := g7.size
  have BE := Lib.hid ((Blk.new w6 #[.int .i64 0, .slice none 0 0] 35).ext hb7)
  go_wp2_with fail
  refine (ints_same _ _ _ _ (((IA.out.ext j6).ext j7).ext (by go_grown)) ((IB.out.ext j7).ext (by go_grown))).mono ?_
  rintro e w8 ⟨rfl, hb8⟩
  have j8 : Below w7.heap.size w7 w8 := ext (by go_grown) hb8
  have g8 : Below w.heap.size w w8 := ext g7 j8
  have s8 := j8.size
  have t8 := g8.size
  obtain ⟨BE0, BE1, BE2, BE3⟩ := (BE.out.ext j8).two
  go_wp2_with fail
  clear BE0 BE1 BE2 BE3
  refine (same_nn _).mono ?_
  rintro e w9 ⟨rfl, hb9⟩
  have j9 : Below w8.heap.size w8 w9 := ext (by go_grown) hb9
  have g9 : Below w.heap.size w w9 := ext g8 j9
  have s9 := j9.size
  have t9 := g9.size
  go_wp2_with fail
  refine (rframes_same _ _ _ _ (((((((HI.out.ext j4).ext j5).ext j6).ext j7).ext j8).ext j9).ext (by go_grown)) ((((((((((HV.out.ext j1).ext j2).ext j3).ext j4).ext j5).ext j6).ext j7).ext j8).ext j9).ext (by go_grown))).mono ?_
  rintro e w10 ⟨rfl, hb10⟩
  have j10 : Below w9.heap.size w9 w10 := ext (by go_grown) hb10
  have g10 : Below w.heap.size w w10 := ext g9 j10
  have s10 := j10.size
  have t10 := g10.size
  go_wp2
  all_goals go_returns
  all_goals exact ⟨by first | rfl | (simp; done) | (simp; omega), g10⟩

set_option maxRecDepth 100000 in
set_option maxHeartbeats 16000000 in
theorem weighs_f (v u : Value) (fs : List Fr) (gs : List (Int × Int)) (w : World) (hv : Frames w v fs) (hu : Grps w u gs) (hg : TypeIs w) (hp : pixB fs = true) (hl : gs.length ≤ 40) (ht : Tiles gs fs.length) (i : Nat) (hi : i < fs.length) (hz : ∀ j, j < i → wE fs gs j = 0) (hne : wE fs gs i ≠ 0) :
    Calls Tryd.prog 4 #[v, u] w fun e w' => e = .returned (.bool true) ∧ Below w.heap.size w w' := by
  have HG := Lib.hid hg
  have HV := Lib.hid hv
  have HU := Lib.hid hu
  have c1 := fun w h => pix_any v fs w h
  rw [hp] at c1
  have C1 := Lib.hid c1
  have CC := Lib.hid (fun w h => copyframes_any v fs w h (by have := (pix_few hp).1; omega) (fun j hj => by have := (pix_few hp).2 j hj; show _ ≤ 1000000; unfold frA at this; omega))
  have c2 := fun v u w h1 h2 => pw_fault v u fs gs w h1 h2 ht i hi hz hne
  have c3 := fun v u w h1 h2 => rw_fault v u fs gs w h1 h2 ht i hi hz hne
  have hk : (wE fs gs i == 0) = false := by rw [beq_eq_false_iff_ne]; exact hne
  generalize wE fs gs i = k at *
  have C2 := Lib.hid c2
  have C3 := Lib.hid c3
  have HK := Lib.hid hk
  have CL := Lib.hid hl
  obtain ⟨m, hm⟩ : ∃ m, gs.length = m := ⟨_, rfl⟩
  obtain ⟨bo, bcap, rfl⟩ := hu.shapeN hm
  rw [hm] at hl
  clear hv hu hg c1 c2 c3 hp ht hi hz hne hk hm
  go_enter Tryd.func4, Tryd.ntmps4
  have g0 : Below w.heap.size w w := Below.refl _ _
  go_wp2_with fail
  refine (first_any _ (HG.out.ext (by go_grown))).mono ?_
  rintro e w1 ⟨rfl, hb1⟩
  have j1 : Below w.heap.size w w1 := ext (by go_grown) hb1
  have g1 : Below w.heap.size w w1 := ext g0 j1
  have s1 := j1.size
  have t1 := g1.size
  go_wp2_with fail
  refine (C1.out _ ((HV.out.ext j1).ext (by go_grown))).mono ?_
  rintro e w2 ⟨rfl, hb2⟩
  have j2 : Below w1.heap.size w1 w2 := ext (by go_grown) hb2
  have g2 : Below w.heap.size w w2 := ext g1 j2
  have s2 := j2.size
  have t2 := g2.size
  go_wp2_with fail
  refine (CC.out _ (((HV.out.ext j1).ext j2).ext (by go_grown))).mono ?_
  rintro e w3 ⟨vi, rfl, oi, hb3⟩
  have j3 : Below w2.heap.size w2 w3 := ext (by go_grown) hb3
  have g3 : Below w.heap.size w w3 := ext g2 j3
  have s3 := j3.size
  have t3 := g3.size
  have HI := Lib.hid (oi.frames)
  clear oi
  have jE : Below w3.heap.size w3 (w3.alloc (.cells #[] 52)) := by go_grown
  have HUE := Lib.hid ((((HU.out.ext j1).ext j2).ext j3).ext jE)
  have HLE := Lib.hid (show gs.length ≤ 1000000 from Nat.le_trans CL.out (by decide))
  go_wp2_with (at_builtin; refine wpList_applG rfl (.tmp 25) (.tmp 26) rfl w3.heap.size _ _ gs rfl (own_emptyG _) rfl HUE.out HLE.out (by simp) ?_)
  intro vc wc ownc hbc
  have j4 : Below w3.heap.size w3 wc := jE.trans hbc
  have g4 : Below w.heap.size w wc := ext g3 j4
  have s4 := j4.size
  have t4 := g4.size
  have HC := Lib.hid ownc.grps
  clear ownc hbc jE HUE
  go_wp2_with fail
  refine (C2.out _ _ _ ((HI.out.ext j4).ext (by go_grown)) (HC.out.ext (by go_grown))).mono ?_
  rintro e w5 ⟨b, rfl, hblk, hb5⟩
  have j5 : Below wc.heap.size wc w5 := ext (by go_grown) hb5
  have g5 : Below w.heap.size w w5 := ext g4 j5
  have s5 := j5.size
  have t5 := g5.size
  have FB := Lib.hid (hblk)
  clear hblk
  go_wp2_with fail
  refine (C3.out _ _ _ ((((((HV.out.ext j1).ext j2).ext j3).ext j4).ext j5).ext (by go_grown)) ((((((HU.out.ext j1).ext j2).ext j3).ext j4).ext j5).ext (by go_grown))).mono ?_
  rintro e w6 ⟨pv, rfl, hpv, hb6⟩
  have j6 : Below w5.heap.size w5 w6 := ext (by go_grown) hb6
  have g6 : Below w.heap.size w w6 := ext g5 j6
  have s6 := j6.size
  have t6 := g6.size
  have PV := Lib.hid (hpv)
  obtain ⟨pg, pc, rfl, -, -, -⟩ := hpv
  go_wp2_with fail
  refine (first_any _ (((((((HG.out.ext j1).ext j2).ext j3).ext j4).ext j5).ext j6).ext (by go_grown))).mono ?_
  rintro e w7 ⟨rfl, hb7⟩
  have j7 : Below w6.heap.size w6 w7 := ext (by go_grown) hb7
  have g7 : Below w.heap.size w w7 := ext g6 j7
  have s7 := j7.size
  have t7 := g7.size
  have BE := Lib.hid ((Blk.new w6 #[.int .i64 k, .slice (some ⟨pg, 0, none⟩) 1 pc] 35).ext hb7)
  go_wp2_with fail
  refine (ints_same _ _ [] _ (Ints.nil _) (Ints.nil _)).mono ?_
  rintro e w8 ⟨rfl, hb8⟩
  have j8 : Below w7.heap.size w7 w8 := ext (by go_grown) hb8
  have g8 : Below w.heap.size w w8 := ext g7 j8
  have s8 := j8.size
  have t8 := g8.size
  obtain ⟨BE0, BE1, BE2, BE3⟩ := (BE.out.ext j8).two
  go_wp2_with fail
  clear BE0 BE1 BE2 BE3
  refine (same_fault b _ _ k HK.out _ _ (((((((((HG.out.ext j1).ext j2).ext j3).ext j4).ext j5).ext j6).ext j7).ext j8).ext (by go_grown)) ((((FB.out.ext j6).ext j7).ext j8).ext (by go_grown)) (((PV.out.ext j7).ext j8).ext (by go_grown))).mono ?_
  rintro e w9 ⟨rfl, hb9⟩
  have j9 : Below w8.heap.size w8 w9 := ext (by go_grown) hb9
  have g9 : Below w.heap.size w w9 := ext g8 j9
  have s9 := j9.size
  have t9 := g9.size
  go_wp2_with fail
  refine (rframes_same _ _ _ _ (((((((HI.out.ext j4).ext j5).ext j6).ext j7).ext j8).ext j9).ext (by go_grown)) ((((((((((HV.out.ext j1).ext j2).ext j3).ext j4).ext j5).ext j6).ext j7).ext j8).ext j9).ext (by go_grown))).mono ?_
  rintro e w10 ⟨rfl, hb10⟩
  have j10 : Below w9.heap.size w9 w10 := ext (by go_grown) hb10
  have g10 : Below w.heap.size w w10 := ext g9 j10
  have s10 := j10.size
  have t10 := g10.size
  go_wp2
  all_goals go_returns
  all_goals exact ⟨by first | rfl | (simp; done) | (simp; omega), g10⟩

theorem weighs_walk (v u : Value) (fs : List Fr) (gs : List (Int × Int)) (w : World) (hv : Frames w v fs) (hu : Grps w u gs) (hg : TypeIs w) :
    Calls Tryd.prog 4 #[v, u] w fun e w' => e = .returned (.bool true) ∧ Below w.heap.size w w' := by
  cases hp : pixB fs with
  | false => exact weighs_p v u fs gs w hv hu hg hp
  | true =>
    by_cases hl : gs.length ≤ 40
    · by_cases ht : Tiles gs fs.length
      · by_cases hz : ∀ j, j < fs.length → wE fs gs j = 0
        · exact weighs_g v u fs gs w hv hu hg hp hl ht hz
        · obtain ⟨i, h1, h2, h3⟩ := least_ne (f := wE fs gs) (n := fs.length) (Classical.byContradiction fun h => hz fun j hj => Classical.byContradiction fun h2 => h ⟨j, hj, h2⟩)
          exact weighs_f v u fs gs w hv hu hg hp hl ht i h1 h2 h3
      · exact weighs_n v u fs gs w hv hu hg hp hl ht
    · exact weighs_l v u fs gs w hv hu hg hp (by omega)
end Go.Proofs.YtmdpfjjbehpnbaaDoor
