/- slices.Equal, plane.Same, kinref.CopyFrame, kinref.Frame: contracts. -/
import Derived.Test.YtmdpfjjbehpnbaaDoorPlaneC
set_option linter.unusedSimpArgs false
set_option linter.unusedVariables false
namespace Go.Proofs.YtmdpfjjbehpnbaaDoor
open Go.RowKit

theorem Blk.three {w : World} {b : Nat} {x y z : Value} {T : Nat} (h : Blk w b #[x, y, z] T) : w.cell? ⟨b, 0, none⟩ = some x ∧ w.cell? ⟨b, 1, none⟩ = some y ∧ w.cell? ⟨b, 2, none⟩ = some z ∧ w.frozen? ⟨b, 0, none⟩ = false ∧ w.frozen? ⟨b, 1, none⟩ = false ∧ w.frozen? ⟨b, 2, none⟩ = false :=
  ⟨h.cell 0, h.cell 1, h.cell 2, h.free 0, h.free 1, h.free 2⟩
theorem far1 {W : World} {b c o i : Nat} {x u : Value} (h : c ≠ b) (hu : W.cell? ⟨c, o, none⟩ = some u) : (W.setCell ⟨b, i, none⟩ x).cell? ⟨c, o, none⟩ = some u := by
  rw [World.cell?_of_block (w := W) (Below.heap_setCell _ _ _ _ h)]
  exact hu
theorem far3 {W : World} {b c o : Nat} {x y z u : Value} (h : c ≠ b) (hu : W.cell? ⟨c, o, none⟩ = some u) : (((W.setCell ⟨b, 0, none⟩ x).setCell ⟨b, 1, none⟩ y).setCell ⟨b, 2, none⟩ z).cell? ⟨c, o, none⟩ = some u :=
  far1 h (far2 h hu)



set_option maxHeartbeats 1000000 in
theorem rframe_any (v u : Value) (W H : Int) (a : List Int) (W2 H2 : Int) (b : List Int) (w : World) (hv : FrameV w v W H a) (hu : FrameV w u W2 H2 b) :
    Calls Tryd.prog 20 #[v, u] w fun e w' => e = .returned (.bool (decide (W = W2) && (decide (H = H2) && decide (a = b)))) ∧ Below w.heap.size w w' := by
  obtain ⟨ao, cap, rfl, hp⟩ := hv.cells
  obtain ⟨bo, cap2, rfl, hq⟩ := hu.cells
  have HP := Lib.hid hp
  have HQ := Lib.hid hq
  clear hv hu hp hq
  by_cases hw : W = W2
  · have q1 : (W == W2) = true := by simp [hw]
    rw [decide_eq_true hw, Bool.true_and]
    by_cases hh : H = H2
    · have q2 : (H == H2) = true := by simp [hh]
      rw [decide_eq_true hh, Bool.true_and]
      clear hw hh
      go_enter Tryd.func20, Tryd.ntmps20
      go_wp2_with fail
      refine (ints_any _ _ _ _ _ (HP.out.ext (by go_grown)) (HQ.out.ext (by go_grown))).mono ?_
      rintro e w1 ⟨rfl, hb1⟩
      have g1 : Below w.heap.size w w1 := ext (by go_grown) hb1
      go_wp2
      go_returns
      exact ⟨rfl, g1⟩
    · have q2 : (H == H2) = false := by simp [hh]
      rw [decide_eq_false hh, Bool.false_and]
      clear hw hh
      go_enter Tryd.func20, Tryd.ntmps20
      go_wp2
      go_returns
      exact ⟨rfl, by go_grown⟩
  · have q1 : (W == W2) = false := by simp [hw]
    rw [decide_eq_false hw, Bool.false_and]
    clear hw
    go_enter Tryd.func20, Tryd.ntmps20
    go_wp2
    go_returns
    exact ⟨rfl, by go_grown⟩
set_option maxRecDepth 100000 in
set_option maxHeartbeats 2000000 in
/-- A frame of one's own: its list lies in memory of the call's own. -/
theorem copyframe_any (v : Value) (W H : Int) (a : List Int) (w : World) (hv : FrameV w v W H a) (hl : a.length ≤ 1099511627776) :
    Calls Tryd.prog 37 #[v] w fun e w' => ∃ p, e = .returned (.agg #[.int .i64 W, .int .i64 H, p]) ∧ OwnInts w' w.heap.size p a ∧ Below w.heap.size w w' := by
  obtain ⟨ao, cap, rfl, hp⟩ := hv.cells
  have HP := Lib.hid hp
  have C := Lib.hid (fun w hp => copy_any (.slice ao a.length cap) a w hp hl)
  have BX := Lib.hid ((Blk.new w #[.int .i64 W, .int .i64 H, .slice ao a.length cap] 24).alloc (.cells #[.int .i64 0, .int .i64 0, .slice none 0 0] 24))
  have BR := Lib.hid (Blk.new (w.alloc (.cells #[.int .i64 W, .int .i64 H, .slice ao a.length cap] 24)) #[.int .i64 0, .int .i64 0, .slice none 0 0] 24)
  simp only [World.size_alloc] at BR
  clear hv hp
  go_enter Tryd.func37, Tryd.ntmps37
  have x0 : _ = some _ := BX.out.cell 0
  have x1 : _ = some _ := BX.out.cell 1
  have x2 : _ = some _ := BX.out.cell 2
  have lz := BX.out.lt
  go_wp2
  go_region_held3 (fun w' => w'.cell? ⟨w.heap.size, 0, none⟩ = some (.int .i64 W) ∧ w'.cell? ⟨w.heap.size, 1, none⟩ = some (.int .i64 H) ∧ w'.cell? ⟨w.heap.size, 2, none⟩ = some (.slice ao a.length cap))
    (first | go_keep | exact ⟨q0, q1, q2⟩ | exact ⟨far3 hne q0, far3 hne q1, far3 hne q2⟩)
    (first | (go_at_call 53; refine (C.out _ ?_).mono ?_; exact HP.out.ext (by go_grown); rintro e w3 ⟨v3, rfl, hown3, hbC⟩; have q0 := (hbC.cell (p := ⟨w.heap.size, 0, none⟩) lz).trans x0; have q1 := (hbC.cell (p := ⟨w.heap.size, 1, none⟩) lz).trans x1; have q2 := (hbC.cell (p := ⟨w.heap.size, 2, none⟩) lz).trans x2; have hne : w.heap.size ≠ w.heap.size + 1 := (by omega); obtain ⟨r0, r1, r2, r3, r4, r5⟩ := (BR.out.drew.ext hbC).three; have HO3 := Lib.hid hown3; obtain ⟨vo, vc, rfl⟩ := hown3.shape; clear hown3))
  have g3 : Below w.heap.size w w3 := ext (by go_grown) hbC
  go_wp2
  refine bodyPost_ret (by simp [results, Tryd.results37, go_sem, r0, r1, r2, r3, r4, r5]; try rfl) rfl ?_
  exact ⟨_, rfl, (((HO3.out.setOther (by simp) _).setOther (by simp) _).setOther (by simp) _).mono (by simp; omega), by go_grown⟩

end Go.Proofs.YtmdpfjjbehpnbaaDoor
