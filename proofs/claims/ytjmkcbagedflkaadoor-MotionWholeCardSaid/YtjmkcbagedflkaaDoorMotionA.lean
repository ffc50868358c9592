/- motion.half, Half; kinref11.down, at, half, Half: contracts. -/
import Derived.Test.YtjmkcbagedflkaaDoorMotionP
import Derived.Test.YtjmkcbagedflkaaDoorPlaneD
set_option linter.unusedSimpArgs false
set_option linter.unusedVariables false
namespace Go.Proofs.YtjmkcbagedflkaaDoor
open Go.RowKit

set_option maxHeartbeats 1000000 in
theorem pmat_any_00 (W H : Int) (pix : List Int) (ao : Option Addr) (cap : Nat) (g : Nat) (x y : Int) (w : World) (hb : Blk w g #[.int .i64 W, .int .i64 H, .slice ao pix.length cap] 24) (hp : Ints w (.slice ao pix.length cap) pix) (hm : May W H pix) (hx : x < 0) (hy : y < 0) :
    Calls Tryd.prog 46 #[.int .i64 x, .int .i64 y, .pointer (some ⟨g, 0, none⟩)] w fun e w' => e = .returned (.int .i64 (atV W H pix x y)) ∧ Below w.heap.size w w' := by
  have hW1 : 8 ≤ W ∧ W ≤ 32 := by have := hm.w; omega
  have hH1 : 8 ≤ H ∧ H ≤ 32 := by have := hm.h; omega
  obtain ⟨hW1, hW2⟩ := hW1
  obtain ⟨hH1, hH2⟩ := hH1
  have ha := atN_lt hm x y
  have ev : atV W H pix x y = pix.getD (clampV y H * W + clampV x W).toNat 0 := rfl
  rw [show clampV y H = 0 from by unfold clampV; omega, show clampV x W = 0 from by unfold clampV; omega] at ha ev
  rw [ev]
  obtain ⟨c0, c1, c2, -, -, -⟩ := hb.three
  have hgl := hb.lt
  obtain ⟨b, o, rfl, hc, hbl⟩ := hp.cellN (j := (0 * W + 0).toNat) (by omega)
  obtain ⟨ha1, ha2, ha3, ha4⟩ := ha
  generalize hr : pix.getD (0 * W + 0).toNat 0 = r at *
  clear hr hp hb hm ev
  simp only [Int.zero_mul, Int.zero_add, Int.add_zero] at *
  rw [show (0 : Int).toNat = 0 from rfl, Nat.add_zero] at hc
  go_enter Tryd.func46, Tryd.ntmps46
  go_wp2
  go_returns
  exact ⟨rfl, by go_grown⟩
set_option maxHeartbeats 1000000 in
theorem pmat_any_01 (W H : Int) (pix : List Int) (ao : Option Addr) (cap : Nat) (g : Nat) (x y : Int) (w : World) (hb : Blk w g #[.int .i64 W, .int .i64 H, .slice ao pix.length cap] 24) (hp : Ints w (.slice ao pix.length cap) pix) (hm : May W H pix) (hx : 0 ≤ x ∧ x ≤ W - 1) (hy : y < 0) :
    Calls Tryd.prog 46 #[.int .i64 x, .int .i64 y, .pointer (some ⟨g, 0, none⟩)] w fun e w' => e = .returned (.int .i64 (atV W H pix x y)) ∧ Below w.heap.size w w' := by
  have hW1 : 8 ≤ W ∧ W ≤ 32 := by have := hm.w; omega
  have hH1 : 8 ≤ H ∧ H ≤ 32 := by have := hm.h; omega
  obtain ⟨hW1, hW2⟩ := hW1
  obtain ⟨hH1, hH2⟩ := hH1
  have ha := atN_lt hm x y
  have ev : atV W H pix x y = pix.getD (clampV y H * W + clampV x W).toNat 0 := rfl
  rw [show clampV y H = 0 from by unfold clampV; omega, show clampV x W = x from by unfold clampV; omega] at ha ev
  rw [ev]
  obtain ⟨c0, c1, c2, -, -, -⟩ := hb.three
  have hgl := hb.lt
  obtain ⟨b, o, rfl, hc, hbl⟩ := hp.cellN (j := (0 * W + x).toNat) (by omega)
  obtain ⟨ha1, ha2, ha3, ha4⟩ := ha
  generalize hr : pix.getD (0 * W + x).toNat 0 = r at *
  clear hr hp hb hm ev
  simp only [Int.zero_mul, Int.zero_add, Int.add_zero] at *
  go_enter Tryd.func46, Tryd.ntmps46
  go_wp2
  go_returns
  exact ⟨rfl, by go_grown⟩
set_option maxHeartbeats 1000000 in
theorem pmat_any_02 (W H : Int) (pix : List Int) (ao : Option Addr) (cap : Nat) (g : Nat) (x y : Int) (w : World) (hb : Blk w g #[.int .i64 W, .int .i64 H, .slice ao pix.length cap] 24) (hp : Ints w (.slice ao pix.length cap) pix) (hm : May W H pix) (hx : W - 1 < x) (hy : y < 0) :
    Calls Tryd.prog 46 #[.int .i64 x, .int .i64 y, .pointer (some ⟨g, 0, none⟩)] w fun e w' => e = .returned (.int .i64 (atV W H pix x y)) ∧ Below w.heap.size w w' := by
  have hW1 : 8 ≤ W ∧ W ≤ 32 := by have := hm.w; omega
  have hH1 : 8 ≤ H ∧ H ≤ 32 := by have := hm.h; omega
  obtain ⟨hW1, hW2⟩ := hW1
  obtain ⟨hH1, hH2⟩ := hH1
  have ha := atN_lt hm x y
  have ev : atV W H pix x y = pix.getD (clampV y H * W + clampV x W).toNat 0 := rfl
  rw [show clampV y H = 0 from by unfold clampV; omega, show clampV x W = (W - 1) from by unfold clampV; omega] at ha ev
  rw [ev]
  obtain ⟨c0, c1, c2, -, -, -⟩ := hb.three
  have hgl := hb.lt
  obtain ⟨b, o, rfl, hc, hbl⟩ := hp.cellN (j := (0 * W + (W - 1)).toNat) (by omega)
  obtain ⟨ha1, ha2, ha3, ha4⟩ := ha
  generalize hr : pix.getD (0 * W + (W - 1)).toNat 0 = r at *
  clear hr hp hb hm ev
  simp only [Int.zero_mul, Int.zero_add, Int.add_zero] at *
  rw [show (W - 1).toNat = W.toNat - 1 from by omega] at hc
  go_enter Tryd.func46, Tryd.ntmps46
  go_wp2
  go_returns
  exact ⟨rfl, by go_grown⟩
set_option maxHeartbeats 1000000 in
theorem pmat_any_10 (W H : Int) (pix : List Int) (ao : Option Addr) (cap : Nat) (g : Nat) (x y : Int) (w : World) (hb : Blk w g #[.int .i64 W, .int .i64 H, .slice ao pix.length cap] 24) (hp : Ints w (.slice ao pix.length cap) pix) (hm : May W H pix) (hx : x < 0) (hy : 0 ≤ y ∧ y ≤ H - 1) :
    Calls Tryd.prog 46 #[.int .i64 x, .int .i64 y, .pointer (some ⟨g, 0, none⟩)] w fun e w' => e = .returned (.int .i64 (atV W H pix x y)) ∧ Below w.heap.size w w' := by
  have hW1 : 8 ≤ W ∧ W ≤ 32 := by have := hm.w; omega
  have hH1 : 8 ≤ H ∧ H ≤ 32 := by have := hm.h; omega
  obtain ⟨hW1, hW2⟩ := hW1
  obtain ⟨hH1, hH2⟩ := hH1
  have ha := atN_lt hm x y
  have ev : atV W H pix x y = pix.getD (clampV y H * W + clampV x W).toNat 0 := rfl
  rw [show clampV y H = y from by unfold clampV; omega, show clampV x W = 0 from by unfold clampV; omega] at ha ev
  rw [ev]
  obtain ⟨c0, c1, c2, -, -, -⟩ := hb.three
  have hgl := hb.lt
  obtain ⟨b, o, rfl, hc, hbl⟩ := hp.cellN (j := (y * W + 0).toNat) (by omega)
  obtain ⟨ha1, ha2, ha3, ha4⟩ := ha
  generalize hr : pix.getD (y * W + 0).toNat 0 = r at *
  clear hr hp hb hm ev
  simp only [Int.zero_mul, Int.zero_add, Int.add_zero] at *
  go_enter Tryd.func46, Tryd.ntmps46
  go_wp2
  go_returns
  exact ⟨rfl, by go_grown⟩
set_option maxHeartbeats 1000000 in
theorem pmat_any_11 (W H : Int) (pix : List Int) (ao : Option Addr) (cap : Nat) (g : Nat) (x y : Int) (w : World) (hb : Blk w g #[.int .i64 W, .int .i64 H, .slice ao pix.length cap] 24) (hp : Ints w (.slice ao pix.length cap) pix) (hm : May W H pix) (hx : 0 ≤ x ∧ x ≤ W - 1) (hy : 0 ≤ y ∧ y ≤ H - 1) :
    Calls Tryd.prog 46 #[.int .i64 x, .int .i64 y, .pointer (some ⟨g, 0, none⟩)] w fun e w' => e = .returned (.int .i64 (atV W H pix x y)) ∧ Below w.heap.size w w' := by
  have hW1 : 8 ≤ W ∧ W ≤ 32 := by have := hm.w; omega
  have hH1 : 8 ≤ H ∧ H ≤ 32 := by have := hm.h; omega
  obtain ⟨hW1, hW2⟩ := hW1
  obtain ⟨hH1, hH2⟩ := hH1
  have ha := atN_lt hm x y
  have ev : atV W H pix x y = pix.getD (clampV y H * W + clampV x W).toNat 0 := rfl
  rw [show clampV y H = y from by unfold clampV; omega, show clampV x W = x from by unfold clampV; omega] at ha ev
  rw [ev]
  obtain ⟨c0, c1, c2, -, -, -⟩ := hb.three
  have hgl := hb.lt
  obtain ⟨b, o, rfl, hc, hbl⟩ := hp.cellN (j := (y * W + x).toNat) (by omega)
  obtain ⟨ha1, ha2, ha3, ha4⟩ := ha
  generalize hr : pix.getD (y * W + x).toNat 0 = r at *
  clear hr hp hb hm ev
  go_enter Tryd.func46, Tryd.ntmps46
  go_wp2
  go_returns
  exact ⟨rfl, by go_grown⟩
set_option maxHeartbeats 1000000 in
theorem pmat_any_12 (W H : Int) (pix : List Int) (ao : Option Addr) (cap : Nat) (g : Nat) (x y : Int) (w : World) (hb : Blk w g #[.int .i64 W, .int .i64 H, .slice ao pix.length cap] 24) (hp : Ints w (.slice ao pix.length cap) pix) (hm : May W H pix) (hx : W - 1 < x) (hy : 0 ≤ y ∧ y ≤ H - 1) :
    Calls Tryd.prog 46 #[.int .i64 x, .int .i64 y, .pointer (some ⟨g, 0, none⟩)] w fun e w' => e = .returned (.int .i64 (atV W H pix x y)) ∧ Below w.heap.size w w' := by
  have hW1 : 8 ≤ W ∧ W ≤ 32 := by have := hm.w; omega
  have hH1 : 8 ≤ H ∧ H ≤ 32 := by have := hm.h; omega
  obtain ⟨hW1, hW2⟩ := hW1
  obtain ⟨hH1, hH2⟩ := hH1
  have ha := atN_lt hm x y
  have ev : atV W H pix x y = pix.getD (clampV y H * W + clampV x W).toNat 0 := rfl
  rw [show clampV y H = y from by unfold clampV; omega, show clampV x W = (W - 1) from by unfold clampV; omega] at ha ev
  rw [ev]
  obtain ⟨c0, c1, c2, -, -, -⟩ := hb.three
  have hgl := hb.lt
  obtain ⟨b, o, rfl, hc, hbl⟩ := hp.cellN (j := (y * W + (W - 1)).toNat) (by omega)
  obtain ⟨ha1, ha2, ha3, ha4⟩ := ha
  generalize hr : pix.getD (y * W + (W - 1)).toNat 0 = r at *
  clear hr hp hb hm ev
  go_enter Tryd.func46, Tryd.ntmps46
  go_wp2
  go_returns
  exact ⟨rfl, by go_grown⟩
set_option maxHeartbeats 1000000 in
theorem pmat_any_20 (W H : Int) (pix : List Int) (ao : Option Addr) (cap : Nat) (g : Nat) (x y : Int) (w : World) (hb : Blk w g #[.int .i64 W, .int .i64 H, .slice ao pix.length cap] 24) (hp : Ints w (.slice ao pix.length cap) pix) (hm : May W H pix) (hx : x < 0) (hy : H - 1 < y) :
    Calls Tryd.prog 46 #[.int .i64 x, .int .i64 y, .pointer (some ⟨g, 0, none⟩)] w fun e w' => e = .returned (.int .i64 (atV W H pix x y)) ∧ Below w.heap.size w w' := by
  have hW1 : 8 ≤ W ∧ W ≤ 32 := by have := hm.w; omega
  have hH1 : 8 ≤ H ∧ H ≤ 32 := by have := hm.h; omega
  obtain ⟨hW1, hW2⟩ := hW1
  obtain ⟨hH1, hH2⟩ := hH1
  have ha := atN_lt hm x y
  have ev : atV W H pix x y = pix.getD (clampV y H * W + clampV x W).toNat 0 := rfl
  rw [show clampV y H = (H - 1) from by unfold clampV; omega, show clampV x W = 0 from by unfold clampV; omega] at ha ev
  rw [ev]
  obtain ⟨c0, c1, c2, -, -, -⟩ := hb.three
  have hgl := hb.lt
  obtain ⟨b, o, rfl, hc, hbl⟩ := hp.cellN (j := ((H - 1) * W + 0).toNat) (by omega)
  obtain ⟨ha1, ha2, ha3, ha4⟩ := ha
  generalize hr : pix.getD ((H - 1) * W + 0).toNat 0 = r at *
  clear hr hp hb hm ev
  simp only [Int.zero_mul, Int.zero_add, Int.add_zero] at *
  go_enter Tryd.func46, Tryd.ntmps46
  go_wp2
  go_returns
  exact ⟨rfl, by go_grown⟩
set_option maxHeartbeats 1000000 in
theorem pmat_any_21 (W H : Int) (pix : List Int) (ao : Option Addr) (cap : Nat) (g : Nat) (x y : Int) (w : World) (hb : Blk w g #[.int .i64 W, .int .i64 H, .slice ao pix.length cap] 24) (hp : Ints w (.slice ao pix.length cap) pix) (hm : May W H pix) (hx : 0 ≤ x ∧ x ≤ W - 1) (hy : H - 1 < y) :
    Calls Tryd.prog 46 #[.int .i64 x, .int .i64 y, .pointer (some ⟨g, 0, none⟩)] w fun e w' => e = .returned (.int .i64 (atV W H pix x y)) ∧ Below w.heap.size w w' := by
  have hW1 : 8 ≤ W ∧ W ≤ 32 := by have := hm.w; omega
  have hH1 : 8 ≤ H ∧ H ≤ 32 := by have := hm.h; omega
  obtain ⟨hW1, hW2⟩ := hW1
  obtain ⟨hH1, hH2⟩ := hH1
  have ha := atN_lt hm x y
  have ev : atV W H pix x y = pix.getD (clampV y H * W + clampV x W).toNat 0 := rfl
  rw [show clampV y H = (H - 1) from by unfold clampV; omega, show clampV x W = x from by unfold clampV; omega] at ha ev
  rw [ev]
  obtain ⟨c0, c1, c2, -, -, -⟩ := hb.three
  have hgl := hb.lt
  obtain ⟨b, o, rfl, hc, hbl⟩ := hp.cellN (j := ((H - 1) * W + x).toNat) (by omega)
  obtain ⟨ha1, ha2, ha3, ha4⟩ := ha
  generalize hr : pix.getD ((H - 1) * W + x).toNat 0 = r at *
  clear hr hp hb hm ev
  go_enter Tryd.func46, Tryd.ntmps46
  go_wp2
  go_returns
  exact ⟨rfl, by go_grown⟩
set_option maxHeartbeats 1000000 in
theorem pmat_any_22 (W H : Int) (pix : List Int) (ao : Option Addr) (cap : Nat) (g : Nat) (x y : Int) (w : World) (hb : Blk w g #[.int .i64 W, .int .i64 H, .slice ao pix.length cap] 24) (hp : Ints w (.slice ao pix.length cap) pix) (hm : May W H pix) (hx : W - 1 < x) (hy : H - 1 < y) :
    Calls Tryd.prog 46 #[.int .i64 x, .int .i64 y, .pointer (some ⟨g, 0, none⟩)] w fun e w' => e = .returned (.int .i64 (atV W H pix x y)) ∧ Below w.heap.size w w' := by
  have hW1 : 8 ≤ W ∧ W ≤ 32 := by have := hm.w; omega
  have hH1 : 8 ≤ H ∧ H ≤ 32 := by have := hm.h; omega
  obtain ⟨hW1, hW2⟩ := hW1
  obtain ⟨hH1, hH2⟩ := hH1
  have ha := atN_lt hm x y
  have ev : atV W H pix x y = pix.getD (clampV y H * W + clampV x W).toNat 0 := rfl
  rw [show clampV y H = (H - 1) from by unfold clampV; omega, show clampV x W = (W - 1) from by unfold clampV; omega] at ha ev
  rw [ev]
  obtain ⟨c0, c1, c2, -, -, -⟩ := hb.three
  have hgl := hb.lt
  obtain ⟨b, o, rfl, hc, hbl⟩ := hp.cellN (j := ((H - 1) * W + (W - 1)).toNat) (by omega)
  obtain ⟨ha1, ha2, ha3, ha4⟩ := ha
  generalize hr : pix.getD ((H - 1) * W + (W - 1)).toNat 0 = r at *
  clear hr hp hb hm ev
  go_enter Tryd.func46, Tryd.ntmps46
  go_wp2
  go_returns
  exact ⟨rfl, by go_grown⟩
theorem pmat_any (W H : Int) (pix : List Int) (ao : Option Addr) (cap : Nat) (g : Nat) (x y : Int) (w : World) (hb : Blk w g #[.int .i64 W, .int .i64 H, .slice ao pix.length cap] 24) (hp : Ints w (.slice ao pix.length cap) pix) (hm : May W H pix) :
    Calls Tryd.prog 46 #[.int .i64 x, .int .i64 y, .pointer (some ⟨g, 0, none⟩)] w fun e w' => e = .returned (.int .i64 (atV W H pix x y)) ∧ Below w.heap.size w w' := by
  rcases (show y < 0 ∨ (0 ≤ y ∧ y ≤ H - 1) ∨ H - 1 < y by omega) with hy | hy | hy <;> rcases (show x < 0 ∨ (0 ≤ x ∧ x ≤ W - 1) ∨ W - 1 < x by omega) with hx | hx | hx
  · exact pmat_any_00 W H pix ao cap g x y w hb hp hm hx hy
  · exact pmat_any_01 W H pix ao cap g x y w hb hp hm hx hy
  · exact pmat_any_02 W H pix ao cap g x y w hb hp hm hx hy
  · exact pmat_any_10 W H pix ao cap g x y w hb hp hm hx hy
  · exact pmat_any_11 W H pix ao cap g x y w hb hp hm hx hy
  · exact pmat_any_12 W H pix ao cap g x y w hb hp hm hx hy
  · exact pmat_any_20 W H pix ao cap g x y w hb hp hm hx hy
  · exact pmat_any_21 W H pix ao cap g x y w hb hp hm hx hy
  · exact pmat_any_22 W H pix ao cap g x y w hb hp hm hx hy
set_option maxHeartbeats 1000000 in
theorem rmat_any_00 (W H : Int) (pix : List Int) (v : Value) (x y : Int) (w : World) (hv : FrameV w v W H pix) (hm : May W H pix) (hx : x < 0) (hy : y < 0) :
    Calls Tryd.prog 48 #[v, .int .i64 x, .int .i64 y] w fun e w' => e = .returned (.int .i64 (atV W H pix x y)) ∧ Below w.heap.size w w' := by
  have hW1 : 8 ≤ W ∧ W ≤ 32 := by have := hm.w; omega
  have hH1 : 8 ≤ H ∧ H ≤ 32 := by have := hm.h; omega
  obtain ⟨hW1, hW2⟩ := hW1
  obtain ⟨hH1, hH2⟩ := hH1
  have ha := atN_lt hm x y
  have ev : atV W H pix x y = pix.getD (clampV y H * W + clampV x W).toNat 0 := rfl
  rw [show clampV y H = 0 from by unfold clampV; omega, show clampV x W = 0 from by unfold clampV; omega] at ha ev
  rw [ev]
  obtain ⟨ao, cap, rfl, hp⟩ := hv.cells
  obtain ⟨b, o, rfl, hc, hbl⟩ := hp.cellN (j := (0 * W + 0).toNat) (by omega)
  obtain ⟨ha1, ha2, ha3, ha4⟩ := ha
  generalize hr : pix.getD (0 * W + 0).toNat 0 = r at *
  clear hr hp hv hm ev
  simp only [Int.zero_mul, Int.zero_add, Int.add_zero] at *
  rw [show (0 : Int).toNat = 0 from rfl, Nat.add_zero] at hc
  go_enter Tryd.func48, Tryd.ntmps48
  go_wp2
  go_returns
  exact ⟨rfl, by go_grown⟩
set_option maxHeartbeats 1000000 in
theorem rmat_any_01 (W H : Int) (pix : List Int) (v : Value) (x y : Int) (w : World) (hv : FrameV w v W H pix) (hm : May W H pix) (hx : 0 ≤ x ∧ x ≤ W - 1) (hy : y < 0) :
    Calls Tryd.prog 48 #[v, .int .i64 x, .int .i64 y] w fun e w' => e = .returned (.int .i64 (atV W H pix x y)) ∧ Below w.heap.size w w' := by
  have hW1 : 8 ≤ W ∧ W ≤ 32 := by have := hm.w; omega
  have hH1 : 8 ≤ H ∧ H ≤ 32 := by have := hm.h; omega
  obtain ⟨hW1, hW2⟩ := hW1
  obtain ⟨hH1, hH2⟩ := hH1
  have ha := atN_lt hm x y
  have ev : atV W H pix x y = pix.getD (clampV y H * W + clampV x W).toNat 0 := rfl
  rw [show clampV y H = 0 from by unfold clampV; omega, show clampV x W = x from by unfold clampV; omega] at ha ev
  rw [ev]
  obtain ⟨ao, cap, rfl, hp⟩ := hv.cells
  obtain ⟨b, o, rfl, hc, hbl⟩ := hp.cellN (j := (0 * W + x).toNat) (by omega)
  obtain ⟨ha1, ha2, ha3, ha4⟩ := ha
  generalize hr : pix.getD (0 * W + x).toNat 0 = r at *
  clear hr hp hv hm ev
  simp only [Int.zero_mul, Int.zero_add, Int.add_zero] at *
  go_enter Tryd.func48, Tryd.ntmps48
  go_wp2
  go_returns
  exact ⟨rfl, by go_grown⟩
set_option maxHeartbeats 1000000 in
theorem rmat_any_02 (W H : Int) (pix : List Int) (v : Value) (x y : Int) (w : World) (hv : FrameV w v W H pix) (hm : May W H pix) (hx : W - 1 < x) (hy : y < 0) :
    Calls Tryd.prog 48 #[v, .int .i64 x, .int .i64 y] w fun e w' => e = .returned (.int .i64 (atV W H pix x y)) ∧ Below w.heap.size w w' := by
  have hW1 : 8 ≤ W ∧ W ≤ 32 := by have := hm.w; omega
  have hH1 : 8 ≤ H ∧ H ≤ 32 := by have := hm.h; omega
  obtain ⟨hW1, hW2⟩ := hW1
  obtain ⟨hH1, hH2⟩ := hH1
  have ha := atN_lt hm x y
  have ev : atV W H pix x y = pix.getD (clampV y H * W + clampV x W).toNat 0 := rfl
  rw [show clampV y H = 0 from by unfold clampV; omega, show clampV x W = (W - 1) from by unfold clampV; omega] at ha ev
  rw [ev]
  obtain ⟨ao, cap, rfl, hp⟩ := hv.cells
  obtain ⟨b, o, rfl, hc, hbl⟩ := hp.cellN (j := (0 * W + (W - 1)).toNat) (by omega)
  obtain ⟨ha1, ha2, ha3, ha4⟩ := ha
  generalize hr : pix.getD (0 * W + (W - 1)).toNat 0 = r at *
  clear hr hp hv hm ev
  simp only [Int.zero_mul, Int.zero_add, Int.add_zero] at *
  rw [show (W - 1).toNat = W.toNat - 1 from by omega] at hc
  go_enter Tryd.func48, Tryd.ntmps48
  go_wp2
  go_returns
  exact ⟨rfl, by go_grown⟩
set_option maxHeartbeats 1000000 in
theorem rmat_any_10 (W H : Int) (pix : List Int) (v : Value) (x y : Int) (w : World) (hv : FrameV w v W H pix) (hm : May W H pix) (hx : x < 0) (hy : 0 ≤ y ∧ y ≤ H - 1) :
    Calls Tryd.prog 48 #[v, .int .i64 x, .int .i64 y] w fun e w' => e = .returned (.int .i64 (atV W H pix x y)) ∧ Below w.heap.size w w' := by
  have hW1 : 8 ≤ W ∧ W ≤ 32 := by have := hm.w; omega
  have hH1 : 8 ≤ H ∧ H ≤ 32 := by have := hm.h; omega
  obtain ⟨hW1, hW2⟩ := hW1
  obtain ⟨hH1, hH2⟩ := hH1
  have ha := atN_lt hm x y
  have ev : atV W H pix x y = pix.getD (clampV y H * W + clampV x W).toNat 0 := rfl
  rw [show clampV y H = y from by unfold clampV; omega, show clampV x W = 0 from by unfold clampV; omega] at ha ev
  rw [ev]
  obtain ⟨ao, cap, rfl, hp⟩ := hv.cells
  obtain ⟨b, o, rfl, hc, hbl⟩ := hp.cellN (j := (y * W + 0).toNat) (by omega)
  obtain ⟨ha1, ha2, ha3, ha4⟩ := ha
  generalize hr : pix.getD (y * W + 0).toNat 0 = r at *
  clear hr hp hv hm ev
  simp only [Int.zero_mul, Int.zero_add, Int.add_zero] at *
  go_enter Tryd.func48, Tryd.ntmps48
  go_wp2
  go_returns
  exact ⟨rfl, by go_grown⟩
set_option maxHeartbeats 1000000 in
theorem rmat_any_11 (W H : Int) (pix : List Int) (v : Value) (x y : Int) (w : World) (hv : FrameV w v W H pix) (hm : May W H pix) (hx : 0 ≤ x ∧ x ≤ W - 1) (hy : 0 ≤ y ∧ y ≤ H - 1) :
    Calls Tryd.prog 48 #[v, .int .i64 x, .int .i64 y] w fun e w' => e = .returned (.int .i64 (atV W H pix x y)) ∧ Below w.heap.size w w' := by
  have hW1 : 8 ≤ W ∧ W ≤ 32 := by have := hm.w; omega
  have hH1 : 8 ≤ H ∧ H ≤ 32 := by have := hm.h; omega
  obtain ⟨hW1, hW2⟩ := hW1
  obtain ⟨hH1, hH2⟩ := hH1
  have ha := atN_lt hm x y
  have ev : atV W H pix x y = pix.getD (clampV y H * W + clampV x W).toNat 0 := rfl
  rw [show clampV y H = y from by unfold clampV; omega, show clampV x W = x from by unfold clampV; omega] at ha ev
  rw [ev]
  obtain ⟨ao, cap, rfl, hp⟩ := hv.cells
  obtain ⟨b, o, rfl, hc, hbl⟩ := hp.cellN (j := (y * W + x).toNat) (by omega)
  obtain ⟨ha1, ha2, ha3, ha4⟩ := ha
  generalize hr : pix.getD (y * W + x).toNat 0 = r at *
  clear hr hp hv hm ev
  go_enter Tryd.func48, Tryd.ntmps48
  go_wp2
  go_returns
  exact ⟨rfl, by go_grown⟩
set_option maxHeartbeats 1000000 in
theorem rmat_any_12 (W H : Int) (pix : List Int) (v : Value) (x y : Int) (w : World) (hv : FrameV w v W H pix) (hm : May W H pix) (hx : W - 1 < x) (hy : 0 ≤ y ∧ y ≤ H - 1) :
    Calls Tryd.prog 48 #[v, .int .i64 x, .int .i64 y] w fun e w' => e = .returned (.int .i64 (atV W H pix x y)) ∧ Below w.heap.size w w' := by
  have hW1 : 8 ≤ W ∧ W ≤ 32 := by have := hm.w; omega
  have hH1 : 8 ≤ H ∧ H ≤ 32 := by have := hm.h; omega
  obtain ⟨hW1, hW2⟩ := hW1
  obtain ⟨hH1, hH2⟩ := hH1
  have ha := atN_lt hm x y
  have ev : atV W H pix x y = pix.getD (clampV y H * W + clampV x W).toNat 0 := rfl
  rw [show clampV y H = y from by unfold clampV; omega, show clampV x W = (W - 1) from by unfold clampV; omega] at ha ev
  rw [ev]
  obtain ⟨ao, cap, rfl, hp⟩ := hv.cells
  obtain ⟨b, o, rfl, hc, hbl⟩ := hp.cellN (j := (y * W + (W - 1)).toNat) (by omega)
  obtain ⟨ha1, ha2, ha3, ha4⟩ := ha
  generalize hr : pix.getD (y * W + (W - 1)).toNat 0 = r at *
  clear hr hp hv hm ev
  go_enter Tryd.func48, Tryd.ntmps48
  go_wp2
  go_returns
  exact ⟨rfl, by go_grown⟩
set_option maxHeartbeats 1000000 in
theorem rmat_any_20 (W H : Int) (pix : List Int) (v : Value) (x y : Int) (w : World) (hv : FrameV w v W H pix) (hm : May W H pix) (hx : x < 0) (hy : H - 1 < y) :
    Calls Tryd.prog 48 #[v, .int .i64 x, .int .i64 y] w fun e w' => e = .returned (.int .i64 (atV W H pix x y)) ∧ Below w.heap.size w w' := by
  have hW1 : 8 ≤ W ∧ W ≤ 32 := by have := hm.w; omega
  have hH1 : 8 ≤ H ∧ H ≤ 32 := by have := hm.h; omega
  obtain ⟨hW1, hW2⟩ := hW1
  obtain ⟨hH1, hH2⟩ := hH1
  have ha := atN_lt hm x y
  have ev : atV W H pix x y = pix.getD (clampV y H * W + clampV x W).toNat 0 := rfl
  rw [show clampV y H = (H - 1) from by unfold clampV; omega, show clampV x W = 0 from by unfold clampV; omega] at ha ev
  rw [ev]
  obtain ⟨ao, cap, rfl, hp⟩ := hv.cells
  obtain ⟨b, o, rfl, hc, hbl⟩ := hp.cellN (j := ((H - 1) * W + 0).toNat) (by omega)
  obtain ⟨ha1, ha2, ha3, ha4⟩ := ha
  generalize hr : pix.getD ((H - 1) * W + 0).toNat 0 = r at *
  clear hr hp hv hm ev
  simp only [Int.zero_mul, Int.zero_add, Int.add_zero] at *
  go_enter Tryd.func48, Tryd.ntmps48
  go_wp2
  go_returns
  exact ⟨rfl, by go_grown⟩
set_option maxHeartbeats 1000000 in
theorem rmat_any_21 (W H : Int) (pix : List Int) (v : Value) (x y : Int) (w : World) (hv : FrameV w v W H pix) (hm : May W H pix) (hx : 0 ≤ x ∧ x ≤ W - 1) (hy : H - 1 < y) :
    Calls Tryd.prog 48 #[v, .int .i64 x, .int .i64 y] w fun e w' => e = .returned (.int .i64 (atV W H pix x y)) ∧ Below w.heap.size w w' := by
  have hW1 : 8 ≤ W ∧ W ≤ 32 := by have := hm.w; omega
  have hH1 : 8 ≤ H ∧ H ≤ 32 := by have := hm.h; omega
  obtain ⟨hW1, hW2⟩ := hW1
  obtain ⟨hH1, hH2⟩ := hH1
  have ha := atN_lt hm x y
  have ev : atV W H pix x y = pix.getD (clampV y H * W + clampV x W).toNat 0 := rfl
  rw [show clampV y H = (H - 1) from by unfold clampV; omega, show clampV x W = x from by unfold clampV; omega] at ha ev
  rw [ev]
  obtain ⟨ao, cap, rfl, hp⟩ := hv.cells
  obtain ⟨b, o, rfl, hc, hbl⟩ := hp.cellN (j := ((H - 1) * W + x).toNat) (by omega)
  obtain ⟨ha1, ha2, ha3, ha4⟩ := ha
  generalize hr : pix.getD ((H - 1) * W + x).toNat 0 = r at *
  clear hr hp hv hm ev
  go_enter Tryd.func48, Tryd.ntmps48
  go_wp2
  go_returns
  exact ⟨rfl, by go_grown⟩
set_option maxHeartbeats 1000000 in
theorem rmat_any_22 (W H : Int) (pix : List Int) (v : Value) (x y : Int) (w : World) (hv : FrameV w v W H pix) (hm : May W H pix) (hx : W - 1 < x) (hy : H - 1 < y) :
    Calls Tryd.prog 48 #[v, .int .i64 x, .int .i64 y] w fun e w' => e = .returned (.int .i64 (atV W H pix x y)) ∧ Below w.heap.size w w' := by
  have hW1 : 8 ≤ W ∧ W ≤ 32 := by have := hm.w; omega
  have hH1 : 8 ≤ H ∧ H ≤ 32 := by have := hm.h; omega
  obtain ⟨hW1, hW2⟩ := hW1
  obtain ⟨hH1, hH2⟩ := hH1
  have ha := atN_lt hm x y
  have ev : atV W H pix x y = pix.getD (clampV y H * W + clampV x W).toNat 0 := rfl
  rw [show clampV y H = (H - 1) from by unfold clampV; omega, show clampV x W = (W - 1) from by unfold clampV; omega] at ha ev
  rw [ev]
  obtain ⟨ao, cap, rfl, hp⟩ := hv.cells
  obtain ⟨b, o, rfl, hc, hbl⟩ := hp.cellN (j := ((H - 1) * W + (W - 1)).toNat) (by omega)
  obtain ⟨ha1, ha2, ha3, ha4⟩ := ha
  generalize hr : pix.getD ((H - 1) * W + (W - 1)).toNat 0 = r at *
  clear hr hp hv hm ev
  go_enter Tryd.func48, Tryd.ntmps48
  go_wp2
  go_returns
  exact ⟨rfl, by go_grown⟩
theorem rmat_any (W H : Int) (pix : List Int) (v : Value) (x y : Int) (w : World) (hv : FrameV w v W H pix) (hm : May W H pix) :
    Calls Tryd.prog 48 #[v, .int .i64 x, .int .i64 y] w fun e w' => e = .returned (.int .i64 (atV W H pix x y)) ∧ Below w.heap.size w w' := by
  rcases (show y < 0 ∨ (0 ≤ y ∧ y ≤ H - 1) ∨ H - 1 < y by omega) with hy | hy | hy <;> rcases (show x < 0 ∨ (0 ≤ x ∧ x ≤ W - 1) ∨ W - 1 < x by omega) with hx | hx | hx
  · exact rmat_any_00 W H pix v x y w hv hm hx hy
  · exact rmat_any_01 W H pix v x y w hv hm hx hy
  · exact rmat_any_02 W H pix v x y w hv hm hx hy
  · exact rmat_any_10 W H pix v x y w hv hm hx hy
  · exact rmat_any_11 W H pix v x y w hv hm hx hy
  · exact rmat_any_12 W H pix v x y w hv hm hx hy
  · exact rmat_any_20 W H pix v x y w hv hm hx hy
  · exact rmat_any_21 W H pix v x y w hv hm hx hy
  · exact rmat_any_22 W H pix v x y w hv hm hx hy
set_option maxHeartbeats 4000000 in
theorem phalf_00 (v : Value) (W H : Int) (pix : List Int) (hx hy : Int) (w : World) (hv : FrameV w v W H pix) (hm : May W H pix) (hp : hx % 2 = 0) (hq : hy % 2 = 0) (x1 : -200000 ≤ hx) (x2 : hx ≤ 200000) (y1 : -200000 ≤ hy) (y2 : hy ≤ 200000) :
    Calls Tryd.prog 28 #[v, .int .i64 hx, .int .i64 hy] w fun e w' => e = .returned (.int .i64 (halfV W H pix hx hy)) ∧ Below w.heap.size w w' := by
  obtain ⟨ao, cap, rfl, hpi⟩ := hv.cells
  have HP := Lib.hid hpi
  have BX := Lib.hid (Blk.new w #[.int .i64 W, .int .i64 H, .slice ao pix.length cap] 24)
  have CA := Lib.hid (fun x y wx hb hp => pmat_any W H pix ao cap w.heap.size x y wx hb hp hm)
  have hF := fun x y => atV_bd hm x y
  have qx := i64_and_one hx
  have qy := i64_and_one hy
  rw [hp] at qx
  rw [hq] at qy
  unfold halfV
  rw [hp, hq]
  generalize atV W H pix = F at *
  obtain ⟨a1, a2⟩ := hF (hx / 2) (hy / 2)
  obtain ⟨b1, b2⟩ := hF (hx / 2 + 1) (hy / 2)
  obtain ⟨d1, d2⟩ := hF (hx / 2) (hy / 2 + 1)
  obtain ⟨e1, e2⟩ := hF (hx / 2 + 1) (hy / 2 + 1)
  obtain ⟨X, hX⟩ : ∃ X, hx / 2 = X := ⟨_, rfl⟩
  obtain ⟨Y, hY⟩ : ∃ Y, hy / 2 = Y := ⟨_, rfl⟩
  have hX1 : -100000 ≤ X := by omega
  have hX2 : X ≤ 100000 := by omega
  have hY1 : -100000 ≤ Y := by omega
  have hY2 : Y ≤ 100000 := by omega
  rw [hX, hY] at a1 a2 b1 b2 d1 d2 e1 e2 ⊢
  have HX := Lib.hid hX
  have HY := Lib.hid hY
  clear hv hpi hF hm hp hq
  simp only [if_pos rfl, if_true, if_false, reduceIte, show ¬ ((1 : Int) = 0) from by decide]
  go_enter Tryd.func28, Tryd.ntmps28
  go_wp2_with fail
  refine (CA.out X Y _ BX.out (HP.out.ext (by go_grown))).mono ?_
  rintro e w0 ⟨rfl, hb0⟩
  have g0 : Below w.heap.size w w0 := ext (by go_grown) hb0
  have B0 := Lib.hid (BX.out.ext hb0)
  go_wp2
  go_returns
  exact ⟨by first | rfl | (simp; done) | (simp; omega), g0⟩
set_option maxHeartbeats 4000000 in
theorem phalf_01 (v : Value) (W H : Int) (pix : List Int) (hx hy : Int) (w : World) (hv : FrameV w v W H pix) (hm : May W H pix) (hp : hx % 2 = 0) (hq : hy % 2 = 1) (x1 : -200000 ≤ hx) (x2 : hx ≤ 200000) (y1 : -200000 ≤ hy) (y2 : hy ≤ 200000) :
    Calls Tryd.prog 28 #[v, .int .i64 hx, .int .i64 hy] w fun e w' => e = .returned (.int .i64 (halfV W H pix hx hy)) ∧ Below w.heap.size w w' := by
  obtain ⟨ao, cap, rfl, hpi⟩ := hv.cells
  have HP := Lib.hid hpi
  have BX := Lib.hid (Blk.new w #[.int .i64 W, .int .i64 H, .slice ao pix.length cap] 24)
  have CA := Lib.hid (fun x y wx hb hp => pmat_any W H pix ao cap w.heap.size x y wx hb hp hm)
  have hF := fun x y => atV_bd hm x y
  have qx := i64_and_one hx
  have qy := i64_and_one hy
  rw [hp] at qx
  rw [hq] at qy
  unfold halfV
  rw [hp, hq]
  generalize atV W H pix = F at *
  obtain ⟨a1, a2⟩ := hF (hx / 2) (hy / 2)
  obtain ⟨b1, b2⟩ := hF (hx / 2 + 1) (hy / 2)
  obtain ⟨d1, d2⟩ := hF (hx / 2) (hy / 2 + 1)
  obtain ⟨e1, e2⟩ := hF (hx / 2 + 1) (hy / 2 + 1)
  obtain ⟨X, hX⟩ : ∃ X, hx / 2 = X := ⟨_, rfl⟩
  obtain ⟨Y, hY⟩ : ∃ Y, hy / 2 = Y := ⟨_, rfl⟩
  have hX1 : -100000 ≤ X := by omega
  have hX2 : X ≤ 100000 := by omega
  have hY1 : -100000 ≤ Y := by omega
  have hY2 : Y ≤ 100000 := by omega
  rw [hX, hY] at a1 a2 b1 b2 d1 d2 e1 e2 ⊢
  have HX := Lib.hid hX
  have HY := Lib.hid hY
  clear hv hpi hF hm hp hq
  simp only [if_pos rfl, if_true, if_false, reduceIte, show ¬ ((1 : Int) = 0) from by decide]
  go_enter Tryd.func28, Tryd.ntmps28
  go_wp2_with fail
  refine (CA.out X Y _ BX.out (HP.out.ext (by go_grown))).mono ?_
  rintro e w0 ⟨rfl, hb0⟩
  have g0 : Below w.heap.size w w0 := ext (by go_grown) hb0
  have B0 := Lib.hid (BX.out.ext hb0)
  go_wp2_with fail
  refine (CA.out X (Y + 1) _ B0.out (HP.out.ext g0)).mono ?_
  rintro e w1 ⟨rfl, hb1⟩
  have g1 : Below w.heap.size w w1 := ext g0 hb1
  have B1 := Lib.hid (B0.out.ext hb1)
  go_wp2
  go_returns
  exact ⟨by first | rfl | (simp; done) | (simp; omega), g1⟩
set_option maxHeartbeats 4000000 in
theorem phalf_10 (v : Value) (W H : Int) (pix : List Int) (hx hy : Int) (w : World) (hv : FrameV w v W H pix) (hm : May W H pix) (hp : hx % 2 = 1) (hq : hy % 2 = 0) (x1 : -200000 ≤ hx) (x2 : hx ≤ 200000) (y1 : -200000 ≤ hy) (y2 : hy ≤ 200000) :
    Calls Tryd.prog 28 #[v, .int .i64 hx, .int .i64 hy] w fun e w' => e = .returned (.int .i64 (halfV W H pix hx hy)) ∧ Below w.heap.size w w' := by
  obtain ⟨ao, cap, rfl, hpi⟩ := hv.cells
  have HP := Lib.hid hpi
  have BX := Lib.hid (Blk.new w #[.int .i64 W, .int .i64 H, .slice ao pix.length cap] 24)
  have CA := Lib.hid (fun x y wx hb hp => pmat_any W H pix ao cap w.heap.size x y wx hb hp hm)
  have hF := fun x y => atV_bd hm x y
  have qx := i64_and_one hx
  have qy := i64_and_one hy
  rw [hp] at qx
  rw [hq] at qy
  unfold halfV
  rw [hp, hq]
  generalize atV W H pix = F at *
  obtain ⟨a1, a2⟩ := hF (hx / 2) (hy / 2)
  obtain ⟨b1, b2⟩ := hF (hx / 2 + 1) (hy / 2)
  obtain ⟨d1, d2⟩ := hF (hx / 2) (hy / 2 + 1)
  obtain ⟨e1, e2⟩ := hF (hx / 2 + 1) (hy / 2 + 1)
  obtain ⟨X, hX⟩ : ∃ X, hx / 2 = X := ⟨_, rfl⟩
  obtain ⟨Y, hY⟩ : ∃ Y, hy / 2 = Y := ⟨_, rfl⟩
  have hX1 : -100000 ≤ X := by omega
  have hX2 : X ≤ 100000 := by omega
  have hY1 : -100000 ≤ Y := by omega
  have hY2 : Y ≤ 100000 := by omega
  rw [hX, hY] at a1 a2 b1 b2 d1 d2 e1 e2 ⊢
  have HX := Lib.hid hX
  have HY := Lib.hid hY
  clear hv hpi hF hm hp hq
  simp only [if_pos rfl, if_true, if_false, reduceIte, show ¬ ((1 : Int) = 0) from by decide]
  go_enter Tryd.func28, Tryd.ntmps28
  go_wp2_with fail
  refine (CA.out X Y _ BX.out (HP.out.ext (by go_grown))).mono ?_
  rintro e w0 ⟨rfl, hb0⟩
  have g0 : Below w.heap.size w w0 := ext (by go_grown) hb0
  have B0 := Lib.hid (BX.out.ext hb0)
  go_wp2_with fail
  refine (CA.out (X + 1) Y _ B0.out (HP.out.ext g0)).mono ?_
  rintro e w1 ⟨rfl, hb1⟩
  have g1 : Below w.heap.size w w1 := ext g0 hb1
  have B1 := Lib.hid (B0.out.ext hb1)
  go_wp2
  go_returns
  exact ⟨by first | rfl | (simp; done) | (simp; omega), g1⟩
set_option maxHeartbeats 4000000 in
theorem phalf_11 (v : Value) (W H : Int) (pix : List Int) (hx hy : Int) (w : World) (hv : FrameV w v W H pix) (hm : May W H pix) (hp : hx % 2 = 1) (hq : hy % 2 = 1) (x1 : -200000 ≤ hx) (x2 : hx ≤ 200000) (y1 : -200000 ≤ hy) (y2 : hy ≤ 200000) :
    Calls Tryd.prog 28 #[v, .int .i64 hx, .int .i64 hy] w fun e w' => e = .returned (.int .i64 (halfV W H pix hx hy)) ∧ Below w.heap.size w w' := by
  obtain ⟨ao, cap, rfl, hpi⟩ := hv.cells
  have HP := Lib.hid hpi
  have BX := Lib.hid (Blk.new w #[.int .i64 W, .int .i64 H, .slice ao pix.length cap] 24)
  have CA := Lib.hid (fun x y wx hb hp => pmat_any W H pix ao cap w.heap.size x y wx hb hp hm)
  have hF := fun x y => atV_bd hm x y
  have qx := i64_and_one hx
  have qy := i64_and_one hy
  rw [hp] at qx
  rw [hq] at qy
  unfold halfV
  rw [hp, hq]
  generalize atV W H pix = F at *
  obtain ⟨a1, a2⟩ := hF (hx / 2) (hy / 2)
  obtain ⟨b1, b2⟩ := hF (hx / 2 + 1) (hy / 2)
  obtain ⟨d1, d2⟩ := hF (hx / 2) (hy / 2 + 1)
  obtain ⟨e1, e2⟩ := hF (hx / 2 + 1) (hy / 2 + 1)
  obtain ⟨X, hX⟩ : ∃ X, hx / 2 = X := ⟨_, rfl⟩
  obtain ⟨Y, hY⟩ : ∃ Y, hy / 2 = Y := ⟨_, rfl⟩
  have hX1 : -100000 ≤ X := by omega
  have hX2 : X ≤ 100000 := by omega
  have hY1 : -100000 ≤ Y := by omega
  have hY2 : Y ≤ 100000 := by omega
  rw [hX, hY] at a1 a2 b1 b2 d1 d2 e1 e2 ⊢
  have HX := Lib.hid hX
  have HY := Lib.hid hY
  clear hv hpi hF hm hp hq
  simp only [if_pos rfl, if_true, if_false, reduceIte, show ¬ ((1 : Int) = 0) from by decide]
  go_enter Tryd.func28, Tryd.ntmps28
  go_wp2_with fail
  refine (CA.out X Y _ BX.out (HP.out.ext (by go_grown))).mono ?_
  rintro e w0 ⟨rfl, hb0⟩
  have g0 : Below w.heap.size w w0 := ext (by go_grown) hb0
  have B0 := Lib.hid (BX.out.ext hb0)
  go_wp2_with fail
  refine (CA.out (X + 1) Y _ B0.out (HP.out.ext g0)).mono ?_
  rintro e w1 ⟨rfl, hb1⟩
  have g1 : Below w.heap.size w w1 := ext g0 hb1
  have B1 := Lib.hid (B0.out.ext hb1)
  go_wp2_with fail
  refine (CA.out X (Y + 1) _ B1.out (HP.out.ext g1)).mono ?_
  rintro e w2 ⟨rfl, hb2⟩
  have g2 : Below w.heap.size w w2 := ext g1 hb2
  have B2 := Lib.hid (B1.out.ext hb2)
  go_wp2_with fail
  refine (CA.out (X + 1) (Y + 1) _ B2.out (HP.out.ext g2)).mono ?_
  rintro e w3 ⟨rfl, hb3⟩
  have g3 : Below w.heap.size w w3 := ext g2 hb3
  have B3 := Lib.hid (B2.out.ext hb3)
  go_wp2
  go_returns
  exact ⟨by first | rfl | (simp; done) | (simp; omega), g3⟩
theorem phalf_any (v : Value) (W H : Int) (pix : List Int) (hx hy : Int) (w : World) (hv : FrameV w v W H pix) (hm : May W H pix) (x1 : -200000 ≤ hx) (x2 : hx ≤ 200000) (y1 : -200000 ≤ hy) (y2 : hy ≤ 200000) :
    Calls Tryd.prog 28 #[v, .int .i64 hx, .int .i64 hy] w fun e w' => e = .returned (.int .i64 (halfV W H pix hx hy)) ∧ Below w.heap.size w w' := by
  rcases (show hx % 2 = 0 ∨ hx % 2 = 1 by omega) with hp | hp <;> rcases (show hy % 2 = 0 ∨ hy % 2 = 1 by omega) with hq | hq
  · exact phalf_00 v W H pix hx hy w hv hm hp hq x1 x2 y1 y2
  · exact phalf_01 v W H pix hx hy w hv hm hp hq x1 x2 y1 y2
  · exact phalf_10 v W H pix hx hy w hv hm hp hq x1 x2 y1 y2
  · exact phalf_11 v W H pix hx hy w hv hm hp hq x1 x2 y1 y2
set_option maxHeartbeats 1000000 in
theorem rdown_0 (a : Int) (w : World) (hp : a % 2 = 0) (x1 : -200000 ≤ a) (x2 : a ≤ 200000) :
    Calls Tryd.prog 47 #[.int .i64 a] w fun e w' => e = .returned (.int .i64 (a / 2)) ∧ w = w' := by
  have qx := i64_and_one a
  rw [hp] at qx
  obtain ⟨d, hd⟩ : ∃ d, a = 2 * d := ⟨a / 2, by omega⟩
  have qd : Int.tdiv (2 * d) 2 = d := by rw [Int.mul_comm]; exact Int.mul_tdiv_cancel _ (by decide)
  subst hd
  rw [show (2 * d) / 2 = d from by omega]
  have d1 : -100001 ≤ d := by omega
  have d2 : d ≤ 100001 := by omega
  clear hp
  go_enter Tryd.func47, Tryd.ntmps47
  go_wp2
  go_returns
  exact ⟨by first | rfl | (simp; done) | (simp; omega), rfl⟩
set_option maxHeartbeats 1000000 in
theorem rdown_1 (a : Int) (w : World) (hp : a % 2 = 1) (x1 : -200000 ≤ a) (x2 : a ≤ 200000) :
    Calls Tryd.prog 47 #[.int .i64 a] w fun e w' => e = .returned (.int .i64 (a / 2)) ∧ w = w' := by
  have qx := i64_and_one a
  rw [hp] at qx
  obtain ⟨d, hd⟩ : ∃ d, a = 2 * d + 1 := ⟨a / 2, by omega⟩
  have qd : Int.tdiv (2 * d) 2 = d := by rw [Int.mul_comm]; exact Int.mul_tdiv_cancel _ (by decide)
  subst hd
  rw [show (2 * d + 1) / 2 = d from by omega]
  have qs : 2 * d + 1 - 1 = 2 * d := by omega
  have d1 : -100001 ≤ d := by omega
  have d2 : d ≤ 100001 := by omega
  clear hp
  go_enter Tryd.func47, Tryd.ntmps47
  go_wp2
  go_returns
  exact ⟨by first | rfl | (simp; done) | (simp; omega), rfl⟩
theorem rdown (a : Int) (w : World) (x1 : -200000 ≤ a) (x2 : a ≤ 200000) :
    Calls Tryd.prog 47 #[.int .i64 a] w fun e w' => e = .returned (.int .i64 (a / 2)) ∧ w = w' := by
  rcases (show a % 2 = 0 ∨ a % 2 = 1 by omega) with hp | hp
  · exact rdown_0 a w hp x1 x2
  · exact rdown_1 a w hp x1 x2
set_option maxRecDepth 100000 in
set_option maxHeartbeats 4000000 in
theorem rhalf_00 (v : Value) (W H : Int) (pix : List Int) (hx hy : Int) (w : World) (hv : FrameV w v W H pix) (hm : May W H pix) (hp : hx % 2 = 0) (hq : hy % 2 = 0) (x1 : -200000 ≤ hx) (x2 : hx ≤ 200000) (y1 : -200000 ≤ hy) (y2 : hy ≤ 200000) :
    Calls Tryd.prog 29 #[v, .int .i64 hx, .int .i64 hy] w fun e w' => e = .returned (.int .i64 (halfV W H pix hx hy)) ∧ Below w.heap.size w w' := by
  have HV := Lib.hid hv
  obtain ⟨ao, cap, rfl, hpi⟩ := hv.cells
  have BX := Lib.hid (Blk.new w #[.int .i64 W, .int .i64 H, .slice ao pix.length cap] 24)
  have CA := Lib.hid (fun x y wx hv => rmat_any W H pix (.agg #[.int .i64 W, .int .i64 H, .slice ao pix.length cap]) x y wx hv hm)
  have C1 := Lib.hid (fun w => rdown hx w x1 x2)
  have C2 := Lib.hid (fun w => rdown hy w y1 y2)
  have hF := fun x y => atV_bd hm x y
  have qx := i64_and_one hx
  have qy := i64_and_one hy
  rw [hp] at qx
  rw [hq] at qy
  unfold halfV
  rw [hp, hq]
  generalize atV W H pix = F at *
  obtain ⟨a1, a2⟩ := hF (hx / 2) (hy / 2)
  obtain ⟨b1, b2⟩ := hF (hx / 2 + 1) (hy / 2)
  obtain ⟨d1, d2⟩ := hF (hx / 2) (hy / 2 + 1)
  obtain ⟨e1, e2⟩ := hF (hx / 2 + 1) (hy / 2 + 1)
  obtain ⟨X, hX⟩ : ∃ X, hx / 2 = X := ⟨_, rfl⟩
  obtain ⟨Y, hY⟩ : ∃ Y, hy / 2 = Y := ⟨_, rfl⟩
  have hX1 : -100000 ≤ X := by omega
  have hX2 : X ≤ 100000 := by omega
  have hY1 : -100000 ≤ Y := by omega
  have hY2 : Y ≤ 100000 := by omega
  rw [hX] at C1
  rw [hY] at C2
  rw [hX, hY] at a1 a2 b1 b2 d1 d2 e1 e2 ⊢
  clear hv hpi hF hm hp hq hX hY
  simp only [if_pos rfl, if_true, if_false, reduceIte, show ¬ ((1 : Int) = 0) from by decide]
  go_enter Tryd.func29, Tryd.ntmps29
  go_wp2_with fail
  refine (C1.out _).mono ?_
  rintro e w' ⟨rfl, rfl⟩
  go_wp2_with fail
  refine (C2.out _).mono ?_
  rintro e w' ⟨rfl, rfl⟩
  obtain ⟨c0, c1, c2, -, -, -⟩ := BX.out.three
  go_wp2_with fail
  clear c0 c1 c2
  refine (CA.out X Y _ (HV.out.ext (by go_grown))).mono ?_
  rintro e w0 ⟨rfl, hb0⟩
  have g0 : Below w.heap.size w w0 := ext (by go_grown) hb0
  have B0 := Lib.hid (BX.out.ext hb0)
  have l0 := B0.out.lt
  go_wp2
  go_returns
  exact ⟨by first | rfl | (simp; done) | (simp; omega), g0⟩
set_option maxRecDepth 100000 in
set_option maxHeartbeats 4000000 in
theorem rhalf_01 (v : Value) (W H : Int) (pix : List Int) (hx hy : Int) (w : World) (hv : FrameV w v W H pix) (hm : May W H pix) (hp : hx % 2 = 0) (hq : hy % 2 = 1) (x1 : -200000 ≤ hx) (x2 : hx ≤ 200000) (y1 : -200000 ≤ hy) (y2 : hy ≤ 200000) :
    Calls Tryd.prog 29 #[v, .int .i64 hx, .int .i64 hy] w fun e w' => e = .returned (.int .i64 (halfV W H pix hx hy)) ∧ Below w.heap.size w w' := by
  have HV := Lib.hid hv
  obtain ⟨ao, cap, rfl, hpi⟩ := hv.cells
  have BX := Lib.hid (Blk.new w #[.int .i64 W, .int .i64 H, .slice ao pix.length cap] 24)
  have CA := Lib.hid (fun x y wx hv => rmat_any W H pix (.agg #[.int .i64 W, .int .i64 H, .slice ao pix.length cap]) x y wx hv hm)
  have C1 := Lib.hid (fun w => rdown hx w x1 x2)
  have C2 := Lib.hid (fun w => rdown hy w y1 y2)
  have hF := fun x y => atV_bd hm x y
  have qx := i64_and_one hx
  have qy := i64_and_one hy
  rw [hp] at qx
  rw [hq] at qy
  unfold halfV
  rw [hp, hq]
  generalize atV W H pix = F at *
  obtain ⟨a1, a2⟩ := hF (hx / 2) (hy / 2)
  obtain ⟨b1, b2⟩ := hF (hx / 2 + 1) (hy / 2)
  obtain ⟨d1, d2⟩ := hF (hx / 2) (hy / 2 + 1)
  obtain ⟨e1, e2⟩ := hF (hx / 2 + 1) (hy / 2 + 1)
  obtain ⟨X, hX⟩ : ∃ X, hx / 2 = X := ⟨_, rfl⟩
  obtain ⟨Y, hY⟩ : ∃ Y, hy / 2 = Y := ⟨_, rfl⟩
  have hX1 : -100000 ≤ X := by omega
  have hX2 : X ≤ 100000 := by omega
  have hY1 : -100000 ≤ Y := by omega
  have hY2 : Y ≤ 100000 := by omega
  rw [hX] at C1
  rw [hY] at C2
  rw [hX, hY] at a1 a2 b1 b2 d1 d2 e1 e2 ⊢
  clear hv hpi hF hm hp hq hX hY
  simp only [if_pos rfl, if_true, if_false, reduceIte, show ¬ ((1 : Int) = 0) from by decide]
  go_enter Tryd.func29, Tryd.ntmps29
  go_wp2_with fail
  refine (C1.out _).mono ?_
  rintro e w' ⟨rfl, rfl⟩
  go_wp2_with fail
  refine (C2.out _).mono ?_
  rintro e w' ⟨rfl, rfl⟩
  obtain ⟨c0, c1, c2, -, -, -⟩ := BX.out.three
  go_wp2_with fail
  clear c0 c1 c2
  refine (CA.out X Y _ (HV.out.ext (by go_grown))).mono ?_
  rintro e w0 ⟨rfl, hb0⟩
  have g0 : Below w.heap.size w w0 := ext (by go_grown) hb0
  have B0 := Lib.hid (BX.out.ext hb0)
  have l0 := B0.out.lt
  obtain ⟨c0, c1, c2, -, -, -⟩ := B0.out.three
  go_wp2_with fail
  clear c0 c1 c2
  refine (CA.out X (Y + 1) _ (HV.out.ext g0)).mono ?_
  rintro e w1 ⟨rfl, hb1⟩
  have g1 : Below w.heap.size w w1 := ext g0 hb1
  go_wp2
  go_returns
  exact ⟨by first | rfl | (simp; done) | (simp; omega), g1⟩
set_option maxRecDepth 100000 in
set_option maxHeartbeats 4000000 in
theorem rhalf_10 (v : Value) (W H : Int) (pix : List Int) (hx hy : Int) (w : World) (hv : FrameV w v W H pix) (hm : May W H pix) (hp : hx % 2 = 1) (hq : hy % 2 = 0) (x1 : -200000 ≤ hx) (x2 : hx ≤ 200000) (y1 : -200000 ≤ hy) (y2 : hy ≤ 200000) :
    Calls Tryd.prog 29 #[v, .int .i64 hx, .int .i64 hy] w fun e w' => e = .returned (.int .i64 (halfV W H pix hx hy)) ∧ Below w.heap.size w w' := by
  have HV := Lib.hid hv
  obtain ⟨ao, cap, rfl, hpi⟩ := hv.cells
  have BX := Lib.hid (Blk.new w #[.int .i64 W, .int .i64 H, .slice ao pix.length cap] 24)
  have CA := Lib.hid (fun x y wx hv => rmat_any W H pix (.agg #[.int .i64 W, .int .i64 H, .slice ao pix.length cap]) x y wx hv hm)
  have C1 := Lib.hid (fun w => rdown hx w x1 x2)
  have C2 := Lib.hid (fun w => rdown hy w y1 y2)
  have hF := fun x y => atV_bd hm x y
  have qx := i64_and_one hx
  have qy := i64_and_one hy
  rw [hp] at qx
  rw [hq] at qy
  unfold halfV
  rw [hp, hq]
  generalize atV W H pix = F at *
  obtain ⟨a1, a2⟩ := hF (hx / 2) (hy / 2)
  obtain ⟨b1, b2⟩ := hF (hx / 2 + 1) (hy / 2)
  obtain ⟨d1, d2⟩ := hF (hx / 2) (hy / 2 + 1)
  obtain ⟨e1, e2⟩ := hF (hx / 2 + 1) (hy / 2 + 1)
  obtain ⟨X, hX⟩ : ∃ X, hx / 2 = X := ⟨_, rfl⟩
  obtain ⟨Y, hY⟩ : ∃ Y, hy / 2 = Y := ⟨_, rfl⟩
  have hX1 : -100000 ≤ X := by omega
  have hX2 : X ≤ 100000 := by omega
  have hY1 : -100000 ≤ Y := by omega
  have hY2 : Y ≤ 100000 := by omega
  rw [hX] at C1
  rw [hY] at C2
  rw [hX, hY] at a1 a2 b1 b2 d1 d2 e1 e2 ⊢
  clear hv hpi hF hm hp hq hX hY
  simp only [if_pos rfl, if_true, if_false, reduceIte, show ¬ ((1 : Int) = 0) from by decide]
  go_enter Tryd.func29, Tryd.ntmps29
  go_wp2_with fail
  refine (C1.out _).mono ?_
  rintro e w' ⟨rfl, rfl⟩
  go_wp2_with fail
  refine (C2.out _).mono ?_
  rintro e w' ⟨rfl, rfl⟩
  obtain ⟨c0, c1, c2, -, -, -⟩ := BX.out.three
  go_wp2_with fail
  clear c0 c1 c2
  refine (CA.out X Y _ (HV.out.ext (by go_grown))).mono ?_
  rintro e w0 ⟨rfl, hb0⟩
  have g0 : Below w.heap.size w w0 := ext (by go_grown) hb0
  have B0 := Lib.hid (BX.out.ext hb0)
  have l0 := B0.out.lt
  obtain ⟨c0, c1, c2, -, -, -⟩ := B0.out.three
  go_wp2_with fail
  clear c0 c1 c2
  refine (CA.out (X + 1) Y _ (HV.out.ext g0)).mono ?_
  rintro e w1 ⟨rfl, hb1⟩
  have g1 : Below w.heap.size w w1 := ext g0 hb1
  go_wp2
  go_returns
  exact ⟨by first | rfl | (simp; done) | (simp; omega), g1⟩
set_option maxRecDepth 100000 in
set_option maxHeartbeats 4000000 in
theorem rhalf_11 (v : Value) (W H : Int) (pix : List Int) (hx hy : Int) (w : World) (hv : FrameV w v W H pix) (hm : May W H pix) (hp : hx % 2 = 1) (hq : hy % 2 = 1) (x1 : -200000 ≤ hx) (x2 : hx ≤ 200000) (y1 : -200000 ≤ hy) (y2 : hy ≤ 200000) :
    Calls Tryd.prog 29 #[v, .int .i64 hx, .int .i64 hy] w fun e w' => e = .returned (.int .i64 (halfV W H pix hx hy)) ∧ Below w.heap.size w w' := by
  have HV := Lib.hid hv
  obtain ⟨ao, cap, rfl, hpi⟩ := hv.cells
  have BX := Lib.hid (Blk.new w #[.int .i64 W, .int .i64 H, .slice ao pix.length cap] 24)
  have CA := Lib.hid (fun x y wx hv => rmat_any W H pix (.agg #[.int .i64 W, .int .i64 H, .slice ao pix.length cap]) x y wx hv hm)
  have C1 := Lib.hid (fun w => rdown hx w x1 x2)
  have C2 := Lib.hid (fun w => rdown hy w y1 y2)
  have hF := fun x y => atV_bd hm x y
  have qx := i64_and_one hx
  have qy := i64_and_one hy
  rw [hp] at qx
  rw [hq] at qy
  unfold halfV
  rw [hp, hq]
  generalize atV W H pix = F at *
  obtain ⟨a1, a2⟩ := hF (hx / 2) (hy / 2)
  obtain ⟨b1, b2⟩ := hF (hx / 2 + 1) (hy / 2)
  obtain ⟨d1, d2⟩ := hF (hx / 2) (hy / 2 + 1)
  obtain ⟨e1, e2⟩ := hF (hx / 2 + 1) (hy / 2 + 1)
  obtain ⟨X, hX⟩ : ∃ X, hx / 2 = X := ⟨_, rfl⟩
  obtain ⟨Y, hY⟩ : ∃ Y, hy / 2 = Y := ⟨_, rfl⟩
  have hX1 : -100000 ≤ X := by omega
  have hX2 : X ≤ 100000 := by omega
  have hY1 : -100000 ≤ Y := by omega
  have hY2 : Y ≤ 100000 := by omega
  rw [hX] at C1
  rw [hY] at C2
  rw [hX, hY] at a1 a2 b1 b2 d1 d2 e1 e2 ⊢
  clear hv hpi hF hm hp hq hX hY
  simp only [if_pos rfl, if_true, if_false, reduceIte, show ¬ ((1 : Int) = 0) from by decide]
  go_enter Tryd.func29, Tryd.ntmps29
  go_wp2_with fail
  refine (C1.out _).mono ?_
  rintro e w' ⟨rfl, rfl⟩
  go_wp2_with fail
  refine (C2.out _).mono ?_
  rintro e w' ⟨rfl, rfl⟩
  obtain ⟨c0, c1, c2, -, -, -⟩ := BX.out.three
  go_wp2_with fail
  clear c0 c1 c2
  refine (CA.out X Y _ (HV.out.ext (by go_grown))).mono ?_
  rintro e w0 ⟨rfl, hb0⟩
  have g0 : Below w.heap.size w w0 := ext (by go_grown) hb0
  have B0 := Lib.hid (BX.out.ext hb0)
  have l0 := B0.out.lt
  obtain ⟨X1, hX1e⟩ : ∃ X1, X + 1 = X1 := ⟨_, rfl⟩
  obtain ⟨Y1, hY1e⟩ : ∃ Y1, Y + 1 = Y1 := ⟨_, rfl⟩
  have qX : IntKind.i64.wrap (X + 1) = X1 := by rw [IntWalk.i64_in _ (by omega)]; exact hX1e
  have qY : IntKind.i64.wrap (Y + 1) = Y1 := by rw [IntWalk.i64_in _ (by omega)]; exact hY1e
  rw [hX1e] at b1 b2 e1 e2
  rw [hY1e] at d1 d2 e1 e2
  obtain ⟨S1, hS1⟩ : ∃ S, F X Y + F X1 Y = S := ⟨_, rfl⟩
  obtain ⟨S2, hS2⟩ : ∃ S, S1 + F X Y1 = S := ⟨_, rfl⟩
  obtain ⟨S3, hS3⟩ : ∃ S, S2 + F X1 Y1 = S := ⟨_, rfl⟩
  obtain ⟨S4, hS4⟩ : ∃ S, S3 + 2 = S := ⟨_, rfl⟩
  have q1 : IntKind.i64.wrap (F X Y + F X1 Y) = S1 := by rw [IntWalk.i64_in _ (by omega)]; exact hS1
  have q2 : IntKind.i64.wrap (S1 + F X Y1) = S2 := by rw [IntWalk.i64_in _ (by omega)]; exact hS2
  have q3 : IntKind.i64.wrap (S2 + F X1 Y1) = S3 := by rw [IntWalk.i64_in _ (by omega)]; exact hS3
  have q4 : IntKind.i64.wrap (S3 + 2) = S4 := by rw [IntWalk.i64_in _ (by omega)]; exact hS4
  have q5 : Int.tdiv S4 4 = S4 / 4 := Int.tdiv_eq_ediv_of_nonneg (by omega)
  have q6 : IntKind.i64.wrap (S4 / 4) = S4 / 4 := IntWalk.i64_in _ (by omega)
  have HFIN := Lib.hid (show (F X Y + F (X + 1) Y + F X (Y + 1) + F (X + 1) (Y + 1) + 2) / 4 = S4 / 4 from by rw [hX1e, hY1e, hS1, hS2, hS3, hS4])
  have P : Hid (Blk w0 w.heap.size #[.int .i64 W, .int .i64 H, .slice ao pix.length cap] 24) := B0
  have gP := g0
  clear hX1e hY1e hS1 hS2 hS3 hS4 B0 hb0 hX1 hX2 hY1 hY2 a1 a2 b1 b2 d1 d2 e1 e2
  obtain ⟨c0, c1, c2, -, -, -⟩ := P.out.three
  go_wp2_with fail
  go_region_held3 (fun w' => w'.cell? ⟨w.heap.size, 0, none⟩ = some (.int .i64 W) ∧ w'.cell? ⟨w.heap.size, 1, none⟩ = some (.int .i64 H) ∧ w'.cell? ⟨w.heap.size, 2, none⟩ = some (.slice ao pix.length cap))
    (first | go_keep | exact ⟨P.out.three.1, P.out.three.2.1, P.out.three.2.2.1⟩)
    (first | (go_at_call 48; refine (CA.out _ _ _ ?_).mono ?_; exact HV.out.ext (ext gP (by go_grown)); rintro e wN ⟨rfl, hbN⟩; replace gP := ext gP (ext (by go_grown) hbN); replace P := Lib.hid (P.out.ext (ext (by go_grown) hbN))))
  all_goals go_wp2
  all_goals go_returns
  all_goals exact ⟨by rw [HFIN.out] <;> rfl, by first | exact gP | exact ext gP (by go_grown)⟩
theorem rhalf_any (v : Value) (W H : Int) (pix : List Int) (hx hy : Int) (w : World) (hv : FrameV w v W H pix) (hm : May W H pix) (x1 : -200000 ≤ hx) (x2 : hx ≤ 200000) (y1 : -200000 ≤ hy) (y2 : hy ≤ 200000) :
    Calls Tryd.prog 29 #[v, .int .i64 hx, .int .i64 hy] w fun e w' => e = .returned (.int .i64 (halfV W H pix hx hy)) ∧ Below w.heap.size w w' := by
  rcases (show hx % 2 = 0 ∨ hx % 2 = 1 by omega) with hp | hp <;> rcases (show hy % 2 = 0 ∨ hy % 2 = 1 by omega) with hq | hq
  · exact rhalf_00 v W H pix hx hy w hv hm hp hq x1 x2 y1 y2
  · exact rhalf_01 v W H pix hx hy w hv hm hp hq x1 x2 y1 y2
  · exact rhalf_10 v W H pix hx hy w hv hm hp hq x1 x2 y1 y2
  · exact rhalf_11 v W H pix hx hy w hv hm hp hq x1 x2 y1 y2
end Go.Proofs.YtjmkcbagedflkaaDoor
