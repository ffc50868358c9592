/- plane.at, At, In; kinref6.at, At, Lies: contracts. -/
import Derived.Test.YtmdpfjjbehpnbaaDoorPlaneW
set_option linter.unusedSimpArgs false
set_option linter.unusedVariables false
namespace Go.Proofs.YtmdpfjjbehpnbaaDoor
open Go.RowKit

theorem FrameV.cells {w : World} {v : Value} {W H : Int} {pix : List Int} (h : FrameV w v W H pix) : ∃ ao cap, v = .agg #[.int .i64 W, .int .i64 H, .slice ao pix.length cap] ∧ Ints w (.slice ao pix.length cap) pix := by
  obtain ⟨p, rfl, _, _, hp⟩ := h
  obtain ⟨ao, cap, rfl⟩ := hp.shape
  exact ⟨ao, cap, rfl, hp⟩
theorem Ints.cellN {w : World} {ao : Option Addr} {n cap : Nat} {xs : List Int} (h : Ints w (.slice ao n cap) xs) {j : Nat} (hj : j < xs.length) : ∃ b off, ao = some ⟨b, off, none⟩ ∧ w.cell? ⟨b, off + j, none⟩ = some (.int .i64 (xs.getD j 0)) ∧ b < w.heap.size := by
  obtain ⟨ao', cap', e, _, _, _, _, h4⟩ := h
  simp only [Value.slice.injEq] at e
  obtain ⟨rfl, -, rfl⟩ := e
  obtain ⟨b, off, rfl, hc⟩ := h4 j hj
  exact ⟨b, off, rfl, hc, World.block_lt_of_cell? w _ hc⟩

set_option maxHeartbeats 1000000 in
theorem pat_any_00 (v : Value) (W H : Int) (pix : List Int) (x y : Int) (w : World) (hv : FrameV w v W H pix) (hm : May W H pix) (hx : x < 0) (hy : y < 0) :
    Calls Tryd.prog 57 #[v, .int .i64 x, .int .i64 y] w fun e w' => e = .returned (.int .i64 (atV W H pix x y)) ∧ Below w.heap.size w w' := by
  have hW1 : 8 ≤ W ∧ W ≤ 32 := by have := hm.w; omega
  have hH1 : 8 ≤ H ∧ H ≤ 32 := by have := hm.h; omega
  obtain ⟨hW1, hW2⟩ := hW1
  obtain ⟨hH1, hH2⟩ := hH1
  have ha := atN_lt hm x y
  have ev : atV W H pix x y = pix.getD (clampV y H * W + clampV x W).toNat 0 := rfl
  rw [show clampV y H = 0 from by unfold clampV; omega, show clampV x W = 0 from by unfold clampV; omega] at ha ev
  rw [ev]
  obtain ⟨ao, cap, rfl, hp⟩ := hv.cells
  obtain ⟨b, o, rfl, hc, hbl⟩ := hp.cellN (j := (0 * W + 0).toNat) (by omega)
  obtain ⟨ha1, ha2, ha3, ha4⟩ := ha
  generalize hr : pix.getD (0 * W + 0).toNat 0 = r at *
  clear hr hp hv hm ev
  simp only [Int.zero_mul, Int.zero_add, Int.add_zero] at *
  rw [show (0 : Int).toNat = 0 from rfl, Nat.add_zero] at hc
  go_enter Tryd.func57, Tryd.ntmps57
  go_wp2
  go_returns
  exact ⟨rfl, by go_grown⟩
set_option maxHeartbeats 1000000 in
theorem pat_any_01 (v : Value) (W H : Int) (pix : List Int) (x y : Int) (w : World) (hv : FrameV w v W H pix) (hm : May W H pix) (hx : 0 ≤ x ∧ x ≤ W - 1) (hy : y < 0) :
    Calls Tryd.prog 57 #[v, .int .i64 x, .int .i64 y] w fun e w' => e = .returned (.int .i64 (atV W H pix x y)) ∧ Below w.heap.size w w' := by
  have hW1 : 8 ≤ W ∧ W ≤ 32 := by have := hm.w; omega
  have hH1 : 8 ≤ H ∧ H ≤ 32 := by have := hm.h; omega
  obtain ⟨hW1, hW2⟩ := hW1
  obtain ⟨hH1, hH2⟩ := hH1
  have ha := atN_lt hm x y
  have ev : atV W H pix x y = pix.getD (clampV y H * W + clampV x W).toNat 0 := rfl
  rw [show clampV y H = 0 from by unfold clampV; omega, show clampV x W = x from by unfold clampV; omega] at ha ev
  rw [ev]
  obtain ⟨ao, cap, rfl, hp⟩ := hv.cells
  obtain ⟨b, o, rfl, hc, hbl⟩ := hp.cellN (j := (0 * W + x).toNat) (by omega)
  obtain ⟨ha1, ha2, ha3, ha4⟩ := ha
  generalize hr : pix.getD (0 * W + x).toNat 0 = r at *
  clear hr hp hv hm ev
  simp only [Int.zero_mul, Int.zero_add, Int.add_zero] at *
  go_enter Tryd.func57, Tryd.ntmps57
  go_wp2
  go_returns
  exact ⟨rfl, by go_grown⟩
set_option maxHeartbeats 1000000 in
theorem pat_any_02 (v : Value) (W H : Int) (pix : List Int) (x y : Int) (w : World) (hv : FrameV w v W H pix) (hm : May W H pix) (hx : W - 1 < x) (hy : y < 0) :
    Calls Tryd.prog 57 #[v, .int .i64 x, .int .i64 y] w fun e w' => e = .returned (.int .i64 (atV W H pix x y)) ∧ Below w.heap.size w w' := by
  have hW1 : 8 ≤ W ∧ W ≤ 32 := by have := hm.w; omega
  have hH1 : 8 ≤ H ∧ H ≤ 32 := by have := hm.h; omega
  obtain ⟨hW1, hW2⟩ := hW1
  obtain ⟨hH1, hH2⟩ := hH1
  have ha := atN_lt hm x y
  have ev : atV W H pix x y = pix.getD (clampV y H * W + clampV x W).toNat 0 := rfl
  rw [show clampV y H = 0 from by unfold clampV; omega, show clampV x W = (W - 1) from by unfold clampV; omega] at ha ev
  rw [ev]
  obtain ⟨ao, cap, rfl, hp⟩ := hv.cells
  obtain ⟨b, o, rfl, hc, hbl⟩ := hp.cellN (j := (0 * W + (W - 1)).toNat) (by omega)
  obtain ⟨ha1, ha2, ha3, ha4⟩ := ha
  generalize hr : pix.getD (0 * W + (W - 1)).toNat 0 = r at *
  clear hr hp hv hm ev
  simp only [Int.zero_mul, Int.zero_add, Int.add_zero] at *
  rw [show (W - 1).toNat = W.toNat - 1 from by omega] at hc
  go_enter Tryd.func57, Tryd.ntmps57
  go_wp2
  go_returns
  exact ⟨rfl, by go_grown⟩
set_option maxHeartbeats 1000000 in
theorem pat_any_10 (v : Value) (W H : Int) (pix : List Int) (x y : Int) (w : World) (hv : FrameV w v W H pix) (hm : May W H pix) (hx : x < 0) (hy : 0 ≤ y ∧ y ≤ H - 1) :
    Calls Tryd.prog 57 #[v, .int .i64 x, .int .i64 y] w fun e w' => e = .returned (.int .i64 (atV W H pix x y)) ∧ Below w.heap.size w w' := by
  have hW1 : 8 ≤ W ∧ W ≤ 32 := by have := hm.w; omega
  have hH1 : 8 ≤ H ∧ H ≤ 32 := by have := hm.h; omega
  obtain ⟨hW1, hW2⟩ := hW1
  obtain ⟨hH1, hH2⟩ := hH1
  have ha := atN_lt hm x y
  have ev : atV W H pix x y = pix.getD (clampV y H * W + clampV x W).toNat 0 := rfl
  rw [show clampV y H = y from by unfold clampV; omega, show clampV x W = 0 from by unfold clampV; omega] at ha ev
  rw [ev]
  obtain ⟨ao, cap, rfl, hp⟩ := hv.cells
  obtain ⟨b, o, rfl, hc, hbl⟩ := hp.cellN (j := (y * W + 0).toNat) (by omega)
  obtain ⟨ha1, ha2, ha3, ha4⟩ := ha
  generalize hr : pix.getD (y * W + 0).toNat 0 = r at *
  clear hr hp hv hm ev
  simp only [Int.zero_mul, Int.zero_add, Int.add_zero] at *
  go_enter Tryd.func57, Tryd.ntmps57
  go_wp2
  go_returns
  exact ⟨rfl, by go_grown⟩
set_option maxHeartbeats 1000000 in
theorem pat_any_11 (v : Value) (W H : Int) (pix : List Int) (x y : Int) (w : World) (hv : FrameV w v W H pix) (hm : May W H pix) (hx : 0 ≤ x ∧ x ≤ W - 1) (hy : 0 ≤ y ∧ y ≤ H - 1) :
    Calls Tryd.prog 57 #[v, .int .i64 x, .int .i64 y] w fun e w' => e = .returned (.int .i64 (atV W H pix x y)) ∧ Below w.heap.size w w' := by
  have hW1 : 8 ≤ W ∧ W ≤ 32 := by have := hm.w; omega
  have hH1 : 8 ≤ H ∧ H ≤ 32 := by have := hm.h; omega
  obtain ⟨hW1, hW2⟩ := hW1
  obtain ⟨hH1, hH2⟩ := hH1
  have ha := atN_lt hm x y
  have ev : atV W H pix x y = pix.getD (clampV y H * W + clampV x W).toNat 0 := rfl
  rw [show clampV y H = y from by unfold clampV; omega, show clampV x W = x from by unfold clampV; omega] at ha ev
  rw [ev]
  obtain ⟨ao, cap, rfl, hp⟩ := hv.cells
  obtain ⟨b, o, rfl, hc, hbl⟩ := hp.cellN (j := (y * W + x).toNat) (by omega)
  obtain ⟨ha1, ha2, ha3, ha4⟩ := ha
  generalize hr : pix.getD (y * W + x).toNat 0 = r at *
  clear hr hp hv hm ev
  go_enter Tryd.func57, Tryd.ntmps57
  go_wp2
  go_returns
  exact ⟨rfl, by go_grown⟩
set_option maxHeartbeats 1000000 in
theorem pat_any_12 (v : Value) (W H : Int) (pix : List Int) (x y : Int) (w : World) (hv : FrameV w v W H pix) (hm : May W H pix) (hx : W - 1 < x) (hy : 0 ≤ y ∧ y ≤ H - 1) :
    Calls Tryd.prog 57 #[v, .int .i64 x, .int .i64 y] w fun e w' => e = .returned (.int .i64 (atV W H pix x y)) ∧ Below w.heap.size w w' := by
  have hW1 : 8 ≤ W ∧ W ≤ 32 := by have := hm.w; omega
  have hH1 : 8 ≤ H ∧ H ≤ 32 := by have := hm.h; omega
  obtain ⟨hW1, hW2⟩ := hW1
  obtain ⟨hH1, hH2⟩ := hH1
  have ha := atN_lt hm x y
  have ev : atV W H pix x y = pix.getD (clampV y H * W + clampV x W).toNat 0 := rfl
  rw [show clampV y H = y from by unfold clampV; omega, show clampV x W = (W - 1) from by unfold clampV; omega] at ha ev
  rw [ev]
  obtain ⟨ao, cap, rfl, hp⟩ := hv.cells
  obtain ⟨b, o, rfl, hc, hbl⟩ := hp.cellN (j := (y * W + (W - 1)).toNat) (by omega)
  obtain ⟨ha1, ha2, ha3, ha4⟩ := ha
  generalize hr : pix.getD (y * W + (W - 1)).toNat 0 = r at *
  clear hr hp hv hm ev
  go_enter Tryd.func57, Tryd.ntmps57
  go_wp2
  go_returns
  exact ⟨rfl, by go_grown⟩
set_option maxHeartbeats 1000000 in
theorem pat_any_20 (v : Value) (W H : Int) (pix : List Int) (x y : Int) (w : World) (hv : FrameV w v W H pix) (hm : May W H pix) (hx : x < 0) (hy : H - 1 < y) :
    Calls Tryd.prog 57 #[v, .int .i64 x, .int .i64 y] w fun e w' => e = .returned (.int .i64 (atV W H pix x y)) ∧ Below w.heap.size w w' := by
  have hW1 : 8 ≤ W ∧ W ≤ 32 := by have := hm.w; omega
  have hH1 : 8 ≤ H ∧ H ≤ 32 := by have := hm.h; omega
  obtain ⟨hW1, hW2⟩ := hW1
  obtain ⟨hH1, hH2⟩ := hH1
  have ha := atN_lt hm x y
  have ev : atV W H pix x y = pix.getD (clampV y H * W + clampV x W).toNat 0 := rfl
  rw [show clampV y H = (H - 1) from by unfold clampV; omega, show clampV x W = 0 from by unfold clampV; omega] at ha ev
  rw [ev]
  obtain ⟨ao, cap, rfl, hp⟩ := hv.cells
  obtain ⟨b, o, rfl, hc, hbl⟩ := hp.cellN (j := ((H - 1) * W + 0).toNat) (by omega)
  obtain ⟨ha1, ha2, ha3, ha4⟩ := ha
  generalize hr : pix.getD ((H - 1) * W + 0).toNat 0 = r at *
  clear hr hp hv hm ev
  simp only [Int.zero_mul, Int.zero_add, Int.add_zero] at *
  go_enter Tryd.func57, Tryd.ntmps57
  go_wp2
  go_returns
  exact ⟨rfl, by go_grown⟩
set_option maxHeartbeats 1000000 in
theorem pat_any_21 (v : Value) (W H : Int) (pix : List Int) (x y : Int) (w : World) (hv : FrameV w v W H pix) (hm : May W H pix) (hx : 0 ≤ x ∧ x ≤ W - 1) (hy : H - 1 < y) :
    Calls Tryd.prog 57 #[v, .int .i64 x, .int .i64 y] w fun e w' => e = .returned (.int .i64 (atV W H pix x y)) ∧ Below w.heap.size w w' := by
  have hW1 : 8 ≤ W ∧ W ≤ 32 := by have := hm.w; omega
  have hH1 : 8 ≤ H ∧ H ≤ 32 := by have := hm.h; omega
  obtain ⟨hW1, hW2⟩ := hW1
  obtain ⟨hH1, hH2⟩ := hH1
  have ha := atN_lt hm x y
  have ev : atV W H pix x y = pix.getD (clampV y H * W + clampV x W).toNat 0 := rfl
  rw [show clampV y H = (H - 1) from by unfold clampV; omega, show clampV x W = x from by unfold clampV; omega] at ha ev
  rw [ev]
  obtain ⟨ao, cap, rfl, hp⟩ := hv.cells
  obtain ⟨b, o, rfl, hc, hbl⟩ := hp.cellN (j := ((H - 1) * W + x).toNat) (by omega)
  obtain ⟨ha1, ha2, ha3, ha4⟩ := ha
  generalize hr : pix.getD ((H - 1) * W + x).toNat 0 = r at *
  clear hr hp hv hm ev
  go_enter Tryd.func57, Tryd.ntmps57
  go_wp2
  go_returns
  exact ⟨rfl, by go_grown⟩
set_option maxHeartbeats 1000000 in
theorem pat_any_22 (v : Value) (W H : Int) (pix : List Int) (x y : Int) (w : World) (hv : FrameV w v W H pix) (hm : May W H pix) (hx : W - 1 < x) (hy : H - 1 < y) :
    Calls Tryd.prog 57 #[v, .int .i64 x, .int .i64 y] w fun e w' => e = .returned (.int .i64 (atV W H pix x y)) ∧ Below w.heap.size w w' := by
  have hW1 : 8 ≤ W ∧ W ≤ 32 := by have := hm.w; omega
  have hH1 : 8 ≤ H ∧ H ≤ 32 := by have := hm.h; omega
  obtain ⟨hW1, hW2⟩ := hW1
  obtain ⟨hH1, hH2⟩ := hH1
  have ha := atN_lt hm x y
  have ev : atV W H pix x y = pix.getD (clampV y H * W + clampV x W).toNat 0 := rfl
  rw [show clampV y H = (H - 1) from by unfold clampV; omega, show clampV x W = (W - 1) from by unfold clampV; omega] at ha ev
  rw [ev]
  obtain ⟨ao, cap, rfl, hp⟩ := hv.cells
  obtain ⟨b, o, rfl, hc, hbl⟩ := hp.cellN (j := ((H - 1) * W + (W - 1)).toNat) (by omega)
  obtain ⟨ha1, ha2, ha3, ha4⟩ := ha
  generalize hr : pix.getD ((H - 1) * W + (W - 1)).toNat 0 = r at *
  clear hr hp hv hm ev
  go_enter Tryd.func57, Tryd.ntmps57
  go_wp2
  go_returns
  exact ⟨rfl, by go_grown⟩
theorem pat_any (v : Value) (W H : Int) (pix : List Int) (x y : Int) (w : World) (hv : FrameV w v W H pix) (hm : May W H pix) :
    Calls Tryd.prog 57 #[v, .int .i64 x, .int .i64 y] w fun e w' => e = .returned (.int .i64 (atV W H pix x y)) ∧ Below w.heap.size w w' := by
  rcases (show y < 0 ∨ (0 ≤ y ∧ y ≤ H - 1) ∨ H - 1 < y by omega) with hy | hy | hy <;> rcases (show x < 0 ∨ (0 ≤ x ∧ x ≤ W - 1) ∨ W - 1 < x by omega) with hx | hx | hx
  · exact pat_any_00 v W H pix x y w hv hm hx hy
  · exact pat_any_01 v W H pix x y w hv hm hx hy
  · exact pat_any_02 v W H pix x y w hv hm hx hy
  · exact pat_any_10 v W H pix x y w hv hm hx hy
  · exact pat_any_11 v W H pix x y w hv hm hx hy
  · exact pat_any_12 v W H pix x y w hv hm hx hy
  · exact pat_any_20 v W H pix x y w hv hm hx hy
  · exact pat_any_21 v W H pix x y w hv hm hx hy
  · exact pat_any_22 v W H pix x y w hv hm hx hy

set_option maxHeartbeats 1000000 in
theorem rat_any_00 (v : Value) (W H : Int) (pix : List Int) (x y : Int) (w : World) (hv : FrameV w v W H pix) (hm : May W H pix) (hx : x < 0) (hy : y < 0) :
    Calls Tryd.prog 48 #[v, .int .i64 x, .int .i64 y] w fun e w' => e = .returned (.int .i64 (atV W H pix x y)) ∧ Below w.heap.size w w' := by
  have hW1 : 8 ≤ W ∧ W ≤ 32 := by have := hm.w; omega
  have hH1 : 8 ≤ H ∧ H ≤ 32 := by have := hm.h; omega
  obtain ⟨hW1, hW2⟩ := hW1
  obtain ⟨hH1, hH2⟩ := hH1
  have ha := atN_lt hm x y
  have ev : atV W H pix x y = pix.getD (clampV y H * W + clampV x W).toNat 0 := rfl
  rw [show clampV y H = 0 from by unfold clampV; omega, show clampV x W = 0 from by unfold clampV; omega] at ha ev
  rw [ev]
  obtain ⟨ao, cap, rfl, hp⟩ := hv.cells
  obtain ⟨b, o, rfl, hc, hbl⟩ := hp.cellN (j := (0 * W + 0).toNat) (by omega)
  obtain ⟨ha1, ha2, ha3, ha4⟩ := ha
  generalize hr : pix.getD (0 * W + 0).toNat 0 = r at *
  clear hr hp hv hm ev
  simp only [Int.zero_mul, Int.zero_add, Int.add_zero] at *
  rw [show (0 : Int).toNat = 0 from rfl, Nat.add_zero] at hc
  go_enter Tryd.func48, Tryd.ntmps48
  go_wp2
  go_returns
  exact ⟨rfl, by go_grown⟩
set_option maxHeartbeats 1000000 in
theorem rat_any_01 (v : Value) (W H : Int) (pix : List Int) (x y : Int) (w : World) (hv : FrameV w v W H pix) (hm : May W H pix) (hx : 0 ≤ x ∧ x ≤ W - 1) (hy : y < 0) :
    Calls Tryd.prog 48 #[v, .int .i64 x, .int .i64 y] w fun e w' => e = .returned (.int .i64 (atV W H pix x y)) ∧ Below w.heap.size w w' := by
  have hW1 : 8 ≤ W ∧ W ≤ 32 := by have := hm.w; omega
  have hH1 : 8 ≤ H ∧ H ≤ 32 := by have := hm.h; omega
  obtain ⟨hW1, hW2⟩ := hW1
  obtain ⟨hH1, hH2⟩ := hH1
  have ha := atN_lt hm x y
  have ev : atV W H pix x y = pix.getD (clampV y H * W + clampV x W).toNat 0 := rfl
  rw [show clampV y H = 0 from by unfold clampV; omega, show clampV x W = x from by unfold clampV; omega] at ha ev
  rw [ev]
  obtain ⟨ao, cap, rfl, hp⟩ := hv.cells
  obtain ⟨b, o, rfl, hc, hbl⟩ := hp.cellN (j := (0 * W + x).toNat) (by omega)
  obtain ⟨ha1, ha2, ha3, ha4⟩ := ha
  generalize hr : pix.getD (0 * W + x).toNat 0 = r at *
  clear hr hp hv hm ev
  simp only [Int.zero_mul, Int.zero_add, Int.add_zero] at *
  go_enter Tryd.func48, Tryd.ntmps48
  go_wp2
  go_returns
  exact ⟨rfl, by go_grown⟩
set_option maxHeartbeats 1000000 in
theorem rat_any_02 (v : Value) (W H : Int) (pix : List Int) (x y : Int) (w : World) (hv : FrameV w v W H pix) (hm : May W H pix) (hx : W - 1 < x) (hy : y < 0) :
    Calls Tryd.prog 48 #[v, .int .i64 x, .int .i64 y] w fun e w' => e = .returned (.int .i64 (atV W H pix x y)) ∧ Below w.heap.size w w' := by
  have hW1 : 8 ≤ W ∧ W ≤ 32 := by have := hm.w; omega
  have hH1 : 8 ≤ H ∧ H ≤ 32 := by have := hm.h; omega
  obtain ⟨hW1, hW2⟩ := hW1
  obtain ⟨hH1, hH2⟩ := hH1
  have ha := atN_lt hm x y
  have ev : atV W H pix x y = pix.getD (clampV y H * W + clampV x W).toNat 0 := rfl
  rw [show clampV y H = 0 from by unfold clampV; omega, show clampV x W = (W - 1) from by unfold clampV; omega] at ha ev
  rw [ev]
  obtain ⟨ao, cap, rfl, hp⟩ := hv.cells
  obtain ⟨b, o, rfl, hc, hbl⟩ := hp.cellN (j := (0 * W + (W - 1)).toNat) (by omega)
  obtain ⟨ha1, ha2, ha3, ha4⟩ := ha
  generalize hr : pix.getD (0 * W + (W - 1)).toNat 0 = r at *
  clear hr hp hv hm ev
  simp only [Int.zero_mul, Int.zero_add, Int.add_zero] at *
  rw [show (W - 1).toNat = W.toNat - 1 from by omega] at hc
  go_enter Tryd.func48, Tryd.ntmps48
  go_wp2
  go_returns
  exact ⟨rfl, by go_grown⟩
set_option maxHeartbeats 1000000 in
theorem rat_any_10 (v : Value) (W H : Int) (pix : List Int) (x y : Int) (w : World) (hv : FrameV w v W H pix) (hm : May W H pix) (hx : x < 0) (hy : 0 ≤ y ∧ y ≤ H - 1) :
    Calls Tryd.prog 48 #[v, .int .i64 x, .int .i64 y] w fun e w' => e = .returned (.int .i64 (atV W H pix x y)) ∧ Below w.heap.size w w' := by
  have hW1 : 8 ≤ W ∧ W ≤ 32 := by have := hm.w; omega
  have hH1 : 8 ≤ H ∧ H ≤ 32 := by have := hm.h; omega
  obtain ⟨hW1, hW2⟩ := hW1
  obtain ⟨hH1, hH2⟩ := hH1
  have ha := atN_lt hm x y
  have ev : atV W H pix x y = pix.getD (clampV y H * W + clampV x W).toNat 0 := rfl
  rw [show clampV y H = y from by unfold clampV; omega, show clampV x W = 0 from by unfold clampV; omega] at ha ev
  rw [ev]
  obtain ⟨ao, cap, rfl, hp⟩ := hv.cells
  obtain ⟨b, o, rfl, hc, hbl⟩ := hp.cellN (j := (y * W + 0).toNat) (by omega)
  obtain ⟨ha1, ha2, ha3, ha4⟩ := ha
  generalize hr : pix.getD (y * W + 0).toNat 0 = r at *
  clear hr hp hv hm ev
  simp only [Int.zero_mul, Int.zero_add, Int.add_zero] at *
  go_enter Tryd.func48, Tryd.ntmps48
  go_wp2
  go_returns
  exact ⟨rfl, by go_grown⟩
set_option maxHeartbeats 1000000 in
theorem rat_any_11 (v : Value) (W H : Int) (pix : List Int) (x y : Int) (w : World) (hv : FrameV w v W H pix) (hm : May W H pix) (hx : 0 ≤ x ∧ x ≤ W - 1) (hy : 0 ≤ y ∧ y ≤ H - 1) :
    Calls Tryd.prog 48 #[v, .int .i64 x, .int .i64 y] w fun e w' => e = .returned (.int .i64 (atV W H pix x y)) ∧ Below w.heap.size w w' := by
  have hW1 : 8 ≤ W ∧ W ≤ 32 := by have := hm.w; omega
  have hH1 : 8 ≤ H ∧ H ≤ 32 := by have := hm.h; omega
  obtain ⟨hW1, hW2⟩ := hW1
  obtain ⟨hH1, hH2⟩ := hH1
  have ha := atN_lt hm x y
  have ev : atV W H pix x y = pix.getD (clampV y H * W + clampV x W).toNat 0 := rfl
  rw [show clampV y H = y from by unfold clampV; omega, show clampV x W = x from by unfold clampV; omega] at ha ev
  rw [ev]
  obtain ⟨ao, cap, rfl, hp⟩ := hv.cells
  obtain ⟨b, o, rfl, hc, hbl⟩ := hp.cellN (j := (y * W + x).toNat) (by omega)
  obtain ⟨ha1, ha2, ha3, ha4⟩ := ha
  generalize hr : pix.getD (y * W + x).toNat 0 = r at *
  clear hr hp hv hm ev
  go_enter Tryd.func48, Tryd.ntmps48
  go_wp2
  go_returns
  exact ⟨rfl, by go_grown⟩
set_option maxHeartbeats 1000000 in
theorem rat_any_12 (v : Value) (W H : Int) (pix : List Int) (x y : Int) (w : World) (hv : FrameV w v W H pix) (hm : May W H pix) (hx : W - 1 < x) (hy : 0 ≤ y ∧ y ≤ H - 1) :
    Calls Tryd.prog 48 #[v, .int .i64 x, .int .i64 y] w fun e w' => e = .returned (.int .i64 (atV W H pix x y)) ∧ Below w.heap.size w w' := by
  have hW1 : 8 ≤ W ∧ W ≤ 32 := by have := hm.w; omega
  have hH1 : 8 ≤ H ∧ H ≤ 32 := by have := hm.h; omega
  obtain ⟨hW1, hW2⟩ := hW1
  obtain ⟨hH1, hH2⟩ := hH1
  have ha := atN_lt hm x y
  have ev : atV W H pix x y = pix.getD (clampV y H * W + clampV x W).toNat 0 := rfl
  rw [show clampV y H = y from by unfold clampV; omega, show clampV x W = (W - 1) from by unfold clampV; omega] at ha ev
  rw [ev]
  obtain ⟨ao, cap, rfl, hp⟩ := hv.cells
  obtain ⟨b, o, rfl, hc, hbl⟩ := hp.cellN (j := (y * W + (W - 1)).toNat) (by omega)
  obtain ⟨ha1, ha2, ha3, ha4⟩ := ha
  generalize hr : pix.getD (y * W + (W - 1)).toNat 0 = r at *
  clear hr hp hv hm ev
  go_enter Tryd.func48, Tryd.ntmps48
  go_wp2
  go_returns
  exact ⟨rfl, by go_grown⟩
set_option maxHeartbeats 1000000 in
theorem rat_any_20 (v : Value) (W H : Int) (pix : List Int) (x y : Int) (w : World) (hv : FrameV w v W H pix) (hm : May W H pix) (hx : x < 0) (hy : H - 1 < y) :
    Calls Tryd.prog 48 #[v, .int .i64 x, .int .i64 y] w fun e w' => e = .returned (.int .i64 (atV W H pix x y)) ∧ Below w.heap.size w w' := by
  have hW1 : 8 ≤ W ∧ W ≤ 32 := by have := hm.w; omega
  have hH1 : 8 ≤ H ∧ H ≤ 32 := by have := hm.h; omega
  obtain ⟨hW1, hW2⟩ := hW1
  obtain ⟨hH1, hH2⟩ := hH1
  have ha := atN_lt hm x y
  have ev : atV W H pix x y = pix.getD (clampV y H * W + clampV x W).toNat 0 := rfl
  rw [show clampV y H = (H - 1) from by unfold clampV; omega, show clampV x W = 0 from by unfold clampV; omega] at ha ev
  rw [ev]
  obtain ⟨ao, cap, rfl, hp⟩ := hv.cells
  obtain ⟨b, o, rfl, hc, hbl⟩ := hp.cellN (j := ((H - 1) * W + 0).toNat) (by omega)
  obtain ⟨ha1, ha2, ha3, ha4⟩ := ha
  generalize hr : pix.getD ((H - 1) * W + 0).toNat 0 = r at *
  clear hr hp hv hm ev
  simp only [Int.zero_mul, Int.zero_add, Int.add_zero] at *
  go_enter Tryd.func48, Tryd.ntmps48
  go_wp2
  go_returns
  exact ⟨rfl, by go_grown⟩
set_option maxHeartbeats 1000000 in
theorem rat_any_21 (v : Value) (W H : Int) (pix : List Int) (x y : Int) (w : World) (hv : FrameV w v W H pix) (hm : May W H pix) (hx : 0 ≤ x ∧ x ≤ W - 1) (hy : H - 1 < y) :
    Calls Tryd.prog 48 #[v, .int .i64 x, .int .i64 y] w fun e w' => e = .returned (.int .i64 (atV W H pix x y)) ∧ Below w.heap.size w w' := by
  have hW1 : 8 ≤ W ∧ W ≤ 32 := by have := hm.w; omega
  have hH1 : 8 ≤ H ∧ H ≤ 32 := by have := hm.h; omega
  obtain ⟨hW1, hW2⟩ := hW1
  obtain ⟨hH1, hH2⟩ := hH1
  have ha := atN_lt hm x y
  have ev : atV W H pix x y = pix.getD (clampV y H * W + clampV x W).toNat 0 := rfl
  rw [show clampV y H = (H - 1) from by unfold clampV; omega, show clampV x W = x from by unfold clampV; omega] at ha ev
  rw [ev]
  obtain ⟨ao, cap, rfl, hp⟩ := hv.cells
  obtain ⟨b, o, rfl, hc, hbl⟩ := hp.cellN (j := ((H - 1) * W + x).toNat) (by omega)
  obtain ⟨ha1, ha2, ha3, ha4⟩ := ha
  generalize hr : pix.getD ((H - 1) * W + x).toNat 0 = r at *
  clear hr hp hv hm ev
  go_enter Tryd.func48, Tryd.ntmps48
  go_wp2
  go_returns
  exact ⟨rfl, by go_grown⟩
set_option maxHeartbeats 1000000 in
theorem rat_any_22 (v : Value) (W H : Int) (pix : List Int) (x y : Int) (w : World) (hv : FrameV w v W H pix) (hm : May W H pix) (hx : W - 1 < x) (hy : H - 1 < y) :
    Calls Tryd.prog 48 #[v, .int .i64 x, .int .i64 y] w fun e w' => e = .returned (.int .i64 (atV W H pix x y)) ∧ Below w.heap.size w w' := by
  have hW1 : 8 ≤ W ∧ W ≤ 32 := by have := hm.w; omega
  have hH1 : 8 ≤ H ∧ H ≤ 32 := by have := hm.h; omega
  obtain ⟨hW1, hW2⟩ := hW1
  obtain ⟨hH1, hH2⟩ := hH1
  have ha := atN_lt hm x y
  have ev : atV W H pix x y = pix.getD (clampV y H * W + clampV x W).toNat 0 := rfl
  rw [show clampV y H = (H - 1) from by unfold clampV; omega, show clampV x W = (W - 1) from by unfold clampV; omega] at ha ev
  rw [ev]
  obtain ⟨ao, cap, rfl, hp⟩ := hv.cells
  obtain ⟨b, o, rfl, hc, hbl⟩ := hp.cellN (j := ((H - 1) * W + (W - 1)).toNat) (by omega)
  obtain ⟨ha1, ha2, ha3, ha4⟩ := ha
  generalize hr : pix.getD ((H - 1) * W + (W - 1)).toNat 0 = r at *
  clear hr hp hv hm ev
  go_enter Tryd.func48, Tryd.ntmps48
  go_wp2
  go_returns
  exact ⟨rfl, by go_grown⟩
theorem rat_any (v : Value) (W H : Int) (pix : List Int) (x y : Int) (w : World) (hv : FrameV w v W H pix) (hm : May W H pix) :
    Calls Tryd.prog 48 #[v, .int .i64 x, .int .i64 y] w fun e w' => e = .returned (.int .i64 (atV W H pix x y)) ∧ Below w.heap.size w w' := by
  rcases (show y < 0 ∨ (0 ≤ y ∧ y ≤ H - 1) ∨ H - 1 < y by omega) with hy | hy | hy <;> rcases (show x < 0 ∨ (0 ≤ x ∧ x ≤ W - 1) ∨ W - 1 < x by omega) with hx | hx | hx
  · exact rat_any_00 v W H pix x y w hv hm hx hy
  · exact rat_any_01 v W H pix x y w hv hm hx hy
  · exact rat_any_02 v W H pix x y w hv hm hx hy
  · exact rat_any_10 v W H pix x y w hv hm hx hy
  · exact rat_any_11 v W H pix x y w hv hm hx hy
  · exact rat_any_12 v W H pix x y w hv hm hx hy
  · exact rat_any_20 v W H pix x y w hv hm hx hy
  · exact rat_any_21 v W H pix x y w hv hm hx hy
  · exact rat_any_22 v W H pix x y w hv hm hx hy





end Go.Proofs.YtmdpfjjbehpnbaaDoor
