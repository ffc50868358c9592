/- slices.Equal, plane.Same, kinref.CopyFrame, kinref.Frame: contracts. -/
import Derived.Test.YtlpifjnjddgfaaaDoorPlaneC
set_option linter.unusedSimpArgs false
set_option linter.unusedVariables false
namespace Go.Proofs.YtlpifjnjddgfaaaDoor
open Go.RowKit

theorem Blk.three {w : World} {b : Nat} {x y z : Value} {T : Nat} (h : Blk w b #[x, y, z] T) : w.cell? ⟨b, 0, none⟩ = some x ∧ w.cell? ⟨b, 1, none⟩ = some y ∧ w.cell? ⟨b, 2, none⟩ = some z ∧ w.frozen? ⟨b, 0, none⟩ = false ∧ w.frozen? ⟨b, 1, none⟩ = false ∧ w.frozen? ⟨b, 2, none⟩ = false :=
  ⟨h.cell 0, h.cell 1, h.cell 2, h.free 0, h.free 1, h.free 2⟩
theorem far1 {W : World} {b c o i : Nat} {x u : Value} (h : c ≠ b) (hu : W.cell? ⟨c, o, none⟩ = some u) : (W.setCell ⟨b, i, none⟩ x).cell? ⟨c, o, none⟩ = some u := by
  rw [World.cell?_of_block (w := W) (Below.heap_setCell _ _ _ _ h)]
  exact hu
theorem far3 {W : World} {b c o : Nat} {x y z u : Value} (h : c ≠ b) (hu : W.cell? ⟨c, o, none⟩ = some u) : (((W.setCell ⟨b, 0, none⟩ x).setCell ⟨b, 1, none⟩ y).setCell ⟨b, 2, none⟩ z).cell? ⟨c, o, none⟩ = some u :=
  far1 h (far2 h hu)

theorem equal_any (v u : Value) (xs ys : List Int) (w : World) (hv : Ints w v xs) (hu : Ints w u ys) :
    Calls Tryd.prog 51 #[v, u] w fun e w' => e = .returned (.bool (decide (xs = ys))) ∧ Below w.heap.size w w' := by
  have hlen := hv.len
  have hlen2 := hu.len
  obtain ⟨ao, cap, rfl, h1, h2, h3, h5, h4⟩ := hv
  obtain ⟨ao2, cap2, rfl, g1, g2, g3, g5, g4⟩ := hu
  have H4 := Lib.hid h4
  have G4 := Lib.hid g4
  clear h1 h2 h3 h5 g1 g2 g3 g5 h4 g4
  by_cases hl : xs.length = ys.length
  · have hl1 : ((xs.length : Int) != (ys.length : Int)) = false := by simp [hl]
    have Hl := Lib.hid hl
    have hl2 : xs.length ≤ ys.length := by omega
    have hl3 : ys.length ≤ xs.length := by omega
    clear hl
    go_enter Tryd.func51, Tryd.ntmps51
    go_wp2
    go_loopw [13] (fun i wr => ∃ k : Nat, k ≤ xs.length ∧ i = .int .i64 k ∧ xs.take k = ys.take k ∧ Below w.heap.size w wr) (fun i _ => xs.length - (intOf i).toNat)
    case atStart => exact ⟨0, Nat.zero_le _, rfl, rfl, Below.refl _ _⟩
    case round =>
      obtain ⟨k, hk, rfl, hw, hb⟩ := hrel
      have Hw := Lib.hid hw
      clear hw
      by_cases hlt : k < xs.length
      · obtain ⟨bb, off, rfl, hcell⟩ := H4.out k hlt
        obtain ⟨bb2, off2, rfl, hcell2⟩ := G4.out k (by omega)
        clear H4 G4
        replace hcell := (hb.cell (p := ⟨bb, off + k, none⟩) (World.block_lt_of_cell? w _ hcell)).trans hcell
        replace hcell2 := (hb.cell (p := ⟨bb2, off2 + k, none⟩) (World.block_lt_of_cell? w _ hcell2)).trans hcell2
        generalize hx : xs.getD k 0 = x at hcell
        generalize hy : ys.getD k 0 = y at hcell2
        have Hx := Lib.hid hx
        have Hy := Lib.hid hy
        clear hx hy
        by_cases he : x = y
        · have he1 : (x != y) = false := by simp [he]
          have He := Lib.hid he
          clear he
          go_wp2
          go_quiet (fail)
          go_wp2
          go_roundw
          case rel => exact ⟨k + 1, by omega, by go_num, take_same Hw.out hlt (by omega) (by rw [Hx.out, Hy.out, He.out]), by first | exact hb | exact hb.drew | exact below_drewN hb _⟩
          case measure => simp [intOf]; omega
        · have he1 : (x != y) = true := by simp [he]
          go_wp2
          go_quiet (fail)
          go_wp2
          go_returns
          have He : Hid (¬ x = y) := he
          rw [← Hx.out, ← Hy.out] at he
          exact ⟨by rw [not_same he]; rfl, by first | exact hb | exact hb.drew | exact below_drewN hb _⟩
      · go_wp2
        go_returns
        have e : k = xs.length := by omega
        have hw' := Hw.out
        rw [e, List.take_length, Hl.out, List.take_length] at hw'
        exact ⟨by rw [hw']; simp, hb⟩
  · have hl1 : ((xs.length : Int) != (ys.length : Int)) = true := by simp; omega
    go_enter Tryd.func51, Tryd.ntmps51
    go_wp2
    go_returns
    exact ⟨by rw [show decide (xs = ys) = false from by simp; intro h; rw [h] at hl; exact hl rfl]; rfl, Below.refl _ _⟩

set_option maxRecDepth 100000 in
set_option maxHeartbeats 2000000 in
theorem psame_any (v u : Value) (W H : Int) (a : List Int) (W2 H2 : Int) (b : List Int) (w : World) (hv : FrameV w v W H a) (hu : FrameV w u W2 H2 b) :
    Calls Tryd.prog 31 #[v, u] w fun e w' => e = .returned (.bool (mayB W H a && (mayB W2 H2 b && (decide (W = W2) && (decide (H = H2) && decide (a = b)))))) ∧ Below w.heap.size w w' := by
  have c1 := fun w hv => pmay_any v W H a w hv
  have c2 := fun w hu => pmay_any u W2 H2 b w hu
  have HV := Lib.hid hv
  have HU := Lib.hid hu
  obtain ⟨ao, cap, rfl, hp⟩ := hv.cells
  obtain ⟨bo, cap2, rfl, hq⟩ := hu.cells
  have HP := Lib.hid hp
  have HQ := Lib.hid hq
  have BX := Lib.hid ((Blk.new w #[.int .i64 W, .int .i64 H, .slice ao a.length cap] 24).alloc (.cells #[.int .i64 W2, .int .i64 H2, .slice bo b.length cap2] 24))
  have BY := Lib.hid (Blk.new (w.alloc (.cells #[.int .i64 W, .int .i64 H, .slice ao a.length cap] 24)) #[.int .i64 W2, .int .i64 H2, .slice bo b.length cap2] 24)
  simp only [World.size_alloc] at BY
  clear hv hu hp hq
  cases h1 : mayB W H a with
  | false =>
    rw [h1] at c1
    rw [Bool.false_and]
    have C1 := Lib.hid c1
    clear c1 c2 h1
    go_enter Tryd.func31, Tryd.ntmps31
    go_wp2_with fail
    refine (C1.out _ (HV.out.ext (by go_grown))).mono ?_
    rintro e w1 ⟨rfl, hb1⟩
    have g1 : Below w.heap.size w w1 := ext (by go_grown) hb1
    go_wp2
    go_returns
    exact ⟨rfl, g1⟩
  | true =>
    rw [h1] at c1
    rw [Bool.true_and]
    have C1 := Lib.hid c1
    cases h2 : mayB W2 H2 b with
    | false =>
      rw [h2] at c2
      rw [Bool.false_and]
      have C2 := Lib.hid c2
      clear c1 c2 h1 h2
      go_enter Tryd.func31, Tryd.ntmps31
      go_wp2_with fail
      refine (C1.out _ (HV.out.ext (by go_grown))).mono ?_
      rintro e w1 ⟨rfl, hb1⟩
      have g1 : Below w.heap.size w w1 := ext (by go_grown) hb1
      have Y1 := Lib.hid (BY.out.ext hb1)
      have d0 : _ = some _ := Y1.out.cell 0
      have d1 : _ = some _ := Y1.out.cell 1
      have d2 : _ = some _ := Y1.out.cell 2
      go_wp2_with fail
      clear d0 d1 d2
      refine (C2.out _ ((HU.out.ext g1).ext (by go_grown))).mono ?_
      rintro e w2 ⟨rfl, hb2⟩
      have g2 : Below w.heap.size w w2 := ext g1 hb2
      go_wp2
      go_returns
      exact ⟨rfl, g2⟩
    | true =>
      rw [h2] at c2
      rw [Bool.true_and]
      have C2 := Lib.hid c2
      clear c1 c2 h1 h2
      by_cases hw : W = W2
      · have q1 : (W == W2) = true := by simp [hw]
        rw [decide_eq_true hw, Bool.true_and]
        by_cases hh : H = H2
        · have q2 : (H == H2) = true := by simp [hh]
          rw [decide_eq_true hh, Bool.true_and]
          clear hw hh
          go_enter Tryd.func31, Tryd.ntmps31
          go_wp2_with fail
          refine (C1.out _ (HV.out.ext (by go_grown))).mono ?_
          rintro e w1 ⟨rfl, hb1⟩
          have g1 : Below w.heap.size w w1 := ext (by go_grown) hb1
          have d0 : _ = some _ := (BY.out.ext hb1).cell 0
          have d1 : _ = some _ := (BY.out.ext hb1).cell 1
          have d2 : _ = some _ := (BY.out.ext hb1).cell 2
          go_wp2_with fail
          clear d0 d1 d2
          refine (C2.out _ ((HU.out.ext g1).ext (by go_grown))).mono ?_
          rintro e w2 ⟨rfl, hb2⟩
          have g2 : Below w.heap.size w w2 := ext g1 hb2
          have x0 : _ = some _ := ((BX.out.ext hb1).ext hb2).cell 0
          have x1 : _ = some _ := ((BX.out.ext hb1).ext hb2).cell 1
          have x2 : _ = some _ := ((BX.out.ext hb1).ext hb2).cell 2
          have y0 : _ = some _ := ((BY.out.ext hb1).ext hb2).cell 0
          have y1 : _ = some _ := ((BY.out.ext hb1).ext hb2).cell 1
          have y2 : _ = some _ := ((BY.out.ext hb1).ext hb2).cell 2
          go_wp2_with fail
          clear x0 x1 x2 y0 y1 y2
          refine (equal_any _ _ _ _ _ (HP.out.ext g2) (HQ.out.ext g2)).mono ?_
          rintro e w3 ⟨rfl, hb3⟩
          have g3 : Below w.heap.size w w3 := ext g2 hb3
          go_wp2
          go_returns
          exact ⟨rfl, g3⟩
        · have q2 : (H == H2) = false := by simp [hh]
          rw [decide_eq_false hh, Bool.false_and]
          clear hw hh
          go_enter Tryd.func31, Tryd.ntmps31
          go_wp2_with fail
          refine (C1.out _ (HV.out.ext (by go_grown))).mono ?_
          rintro e w1 ⟨rfl, hb1⟩
          have g1 : Below w.heap.size w w1 := ext (by go_grown) hb1
          have d0 : _ = some _ := (BY.out.ext hb1).cell 0
          have d1 : _ = some _ := (BY.out.ext hb1).cell 1
          have d2 : _ = some _ := (BY.out.ext hb1).cell 2
          go_wp2_with fail
          clear d0 d1 d2
          refine (C2.out _ ((HU.out.ext g1).ext (by go_grown))).mono ?_
          rintro e w2 ⟨rfl, hb2⟩
          have g2 : Below w.heap.size w w2 := ext g1 hb2
          have x0 : _ = some _ := ((BX.out.ext hb1).ext hb2).cell 0
          have x1 : _ = some _ := ((BX.out.ext hb1).ext hb2).cell 1
          have y0 : _ = some _ := ((BY.out.ext hb1).ext hb2).cell 0
          have y1 : _ = some _ := ((BY.out.ext hb1).ext hb2).cell 1
          go_wp2
          go_returns
          exact ⟨rfl, g2⟩
      · have q1 : (W == W2) = false := by simp [hw]
        rw [decide_eq_false hw, Bool.false_and]
        clear hw
        go_enter Tryd.func31, Tryd.ntmps31
        go_wp2_with fail
        refine (C1.out _ (HV.out.ext (by go_grown))).mono ?_
        rintro e w1 ⟨rfl, hb1⟩
        have g1 : Below w.heap.size w w1 := ext (by go_grown) hb1
        have d0 : _ = some _ := (BY.out.ext hb1).cell 0
        have d1 : _ = some _ := (BY.out.ext hb1).cell 1
        have d2 : _ = some _ := (BY.out.ext hb1).cell 2
        go_wp2_with fail
        clear d0 d1 d2
        refine (C2.out _ ((HU.out.ext g1).ext (by go_grown))).mono ?_
        rintro e w2 ⟨rfl, hb2⟩
        have g2 : Below w.heap.size w w2 := ext g1 hb2
        have x0 : _ = some _ := ((BX.out.ext hb1).ext hb2).cell 0
        have y0 : _ = some _ := ((BY.out.ext hb1).ext hb2).cell 0
        go_wp2
        go_returns
        exact ⟨rfl, g2⟩

set_option maxHeartbeats 1000000 in
theorem rframe_any (v u : Value) (W H : Int) (a : List Int) (W2 H2 : Int) (b : List Int) (w : World) (hv : FrameV w v W H a) (hu : FrameV w u W2 H2 b) :
    Calls Tryd.prog 13 #[v, u] w fun e w' => e = .returned (.bool (decide (W = W2) && (decide (H = H2) && decide (a = b)))) ∧ Below w.heap.size w w' := by
  obtain ⟨ao, cap, rfl, hp⟩ := hv.cells
  obtain ⟨bo, cap2, rfl, hq⟩ := hu.cells
  have HP := Lib.hid hp
  have HQ := Lib.hid hq
  clear hv hu hp hq
  by_cases hw : W = W2
  · have q1 : (W == W2) = true := by simp [hw]
    rw [decide_eq_true hw, Bool.true_and]
    by_cases hh : H = H2
    · have q2 : (H == H2) = true := by simp [hh]
      rw [decide_eq_true hh, Bool.true_and]
      clear hw hh
      go_enter Tryd.func13, Tryd.ntmps13
      go_wp2_with fail
      refine (ints_any _ _ _ _ _ (HP.out.ext (by go_grown)) (HQ.out.ext (by go_grown))).mono ?_
      rintro e w1 ⟨rfl, hb1⟩
      have g1 : Below w.heap.size w w1 := ext (by go_grown) hb1
      go_wp2
      go_returns
      exact ⟨rfl, g1⟩
    · have q2 : (H == H2) = false := by simp [hh]
      rw [decide_eq_false hh, Bool.false_and]
      clear hw hh
      go_enter Tryd.func13, Tryd.ntmps13
      go_wp2
      go_returns
      exact ⟨rfl, by go_grown⟩
  · have q1 : (W == W2) = false := by simp [hw]
    rw [decide_eq_false hw, Bool.false_and]
    clear hw
    go_enter Tryd.func13, Tryd.ntmps13
    go_wp2
    go_returns
    exact ⟨rfl, by go_grown⟩
set_option maxRecDepth 100000 in
set_option maxHeartbeats 2000000 in
/-- A frame of one's own: its list lies in memory of the call's own. -/
theorem copyframe_any (v : Value) (W H : Int) (a : List Int) (w : World) (hv : FrameV w v W H a) (hl : a.length ≤ 1099511627776) :
    Calls Tryd.prog 19 #[v] w fun e w' => ∃ p, e = .returned (.agg #[.int .i64 W, .int .i64 H, p]) ∧ OwnInts w' w.heap.size p a ∧ Below w.heap.size w w' := by
  obtain ⟨ao, cap, rfl, hp⟩ := hv.cells
  have HP := Lib.hid hp
  have C := Lib.hid (fun w hp => copy_any (.slice ao a.length cap) a w hp hl)
  have BX := Lib.hid ((Blk.new w #[.int .i64 W, .int .i64 H, .slice ao a.length cap] 24).alloc (.cells #[.int .i64 0, .int .i64 0, .slice none 0 0] 24))
  have BR := Lib.hid (Blk.new (w.alloc (.cells #[.int .i64 W, .int .i64 H, .slice ao a.length cap] 24)) #[.int .i64 0, .int .i64 0, .slice none 0 0] 24)
  simp only [World.size_alloc] at BR
  clear hv hp
  go_enter Tryd.func19, Tryd.ntmps19
  have x0 : _ = some _ := BX.out.cell 0
  have x1 : _ = some _ := BX.out.cell 1
  have x2 : _ = some _ := BX.out.cell 2
  have lz := BX.out.lt
  go_wp2
  go_region_held3 (fun w' => w'.cell? ⟨w.heap.size, 0, none⟩ = some (.int .i64 W) ∧ w'.cell? ⟨w.heap.size, 1, none⟩ = some (.int .i64 H) ∧ w'.cell? ⟨w.heap.size, 2, none⟩ = some (.slice ao a.length cap))
    (first | go_keep | exact ⟨q0, q1, q2⟩ | exact ⟨far3 hne q0, far3 hne q1, far3 hne q2⟩)
    (first | (go_at_call 41; refine (C.out _ ?_).mono ?_; exact HP.out.ext (by go_grown); rintro e w3 ⟨v3, rfl, hown3, hbC⟩; have q0 := (hbC.cell (p := ⟨w.heap.size, 0, none⟩) lz).trans x0; have q1 := (hbC.cell (p := ⟨w.heap.size, 1, none⟩) lz).trans x1; have q2 := (hbC.cell (p := ⟨w.heap.size, 2, none⟩) lz).trans x2; have hne : w.heap.size ≠ w.heap.size + 1 := (by omega); obtain ⟨r0, r1, r2, r3, r4, r5⟩ := (BR.out.drew.ext hbC).three; have HO3 := Lib.hid hown3; obtain ⟨vo, vc, rfl⟩ := hown3.shape; clear hown3))
  have g3 : Below w.heap.size w w3 := ext (by go_grown) hbC
  go_wp2
  refine bodyPost_ret (by simp [results, Tryd.results19, go_sem, r0, r1, r2, r3, r4, r5]; try rfl) rfl ?_
  exact ⟨_, rfl, (((HO3.out.setOther (by simp) _).setOther (by simp) _).setOther (by simp) _).mono (by simp; omega), by go_grown⟩

end Go.Proofs.YtlpifjnjddgfaaaDoor
