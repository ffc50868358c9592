/- intra.Edges, kinref10.Edges: contracts. -/
import Derived.Test.YtammgbohaaiicaaDoorIntraB
import Derived.Test.YtammgbohaaiicaaDoorApp
import Derived.Test.YtammgbohaaiicaaDoorPlaneD
set_option linter.unusedSimpArgs false
set_option linter.unusedVariables false
namespace Go.Proofs.YtammgbohaaiicaaDoor
open Go.RowKit

/-- A sample beside or above a square; grey outside. -/
def sampV (W : Int) (pix : List Int) (x y : Int) : Int := if x < 0 ∨ y < 0 then 128 else pix.getD (y * W + x).toNat 0
def topAt (W : Int) (pix : List Int) (x y : Int) (i : Nat) : Int := sampV W pix (x + i) (y - 1)
def leftAt (W : Int) (pix : List Int) (x y : Int) (i : Nat) : Int := sampV W pix (x - 1) (y + i)
def edB (W H : Int) (pix : List Int) (x y n : Int) : Bool := mayB W H pix && (decide (n = 4 ∨ n = 8) && inB W H x y n)
def edTop (W H : Int) (pix : List Int) (x y n : Int) : List Int := if edB W H pix x y n then mapTo (topAt W pix x y) n.toNat else []
def edLeft (W H : Int) (pix : List Int) (x y n : Int) : List Int := if edB W H pix x y n then mapTo (leftAt W pix x y) n.toNat else []
def edCor (W H : Int) (pix : List Int) (x y n : Int) : Int := if edB W H pix x y n then sampV W pix (x - 1) (y - 1) else 0
theorem sampV_bd {W H : Int} {pix : List Int} (hm : May W H pix) (x y : Int) : 0 ≤ sampV W pix x y ∧ sampV W pix x y ≤ 255 := by
  unfold sampV
  split
  · omega
  · exact within_get hm.pix (by omega) (by omega) _
theorem inB_iff {W H x y n : Int} : inB W H x y n = true ↔ 0 ≤ x ∧ 0 ≤ y ∧ x ≤ W - n ∧ y ≤ H - n := by
  unfold inB; simp only [Bool.and_eq_true, decide_eq_true_eq]

set_option maxHeartbeats 1000000 in
theorem psamp_any (W H : Int) (pix : List Int) (ao : Option Addr) (cap : Nat) (x y : Int) (g : Nat) (w : World) (hb : Blk w g #[.int .i64 W, .int .i64 H, .slice ao pix.length cap] 42) (hp : Ints w (.slice ao pix.length cap) pix) (hm : May W H pix) (hx : -1 ≤ x ∧ x < W) (hy : -1 ≤ y ∧ y < H) :
    Calls Tryd.prog 34 #[.int .i64 x, .int .i64 y, .pointer (some ⟨g, 0, none⟩)] w fun e w' => e = .returned (.int .i64 (sampV W pix x y)) ∧ Below w.heap.size w w' := by
  obtain ⟨x1, x2⟩ := hx
  obtain ⟨y1, y2⟩ := hy
  obtain ⟨c0, c1, c2, -, -, -⟩ := hb.three
  have hbl := hb.lt
  by_cases hx : x < 0
  · rw [show sampV W pix x y = 128 from by unfold sampV; rw [if_pos (.inl hx)]]
    clear hp hm hb
    go_enter Tryd.func34, Tryd.ntmps34
    go_wp2
    go_returns
    exact ⟨rfl, by go_grown⟩
  · by_cases hy : y < 0
    · rw [show sampV W pix x y = 128 from by unfold sampV; rw [if_pos (.inr hy)]]
      clear hp hm hb
      go_enter Tryd.func34, Tryd.ntmps34
      go_wp2
      go_returns
      exact ⟨rfl, by go_grown⟩
    · have hW1 : 8 ≤ W ∧ W ≤ 32 := by have := hm.w; omega
      have hH1 : 8 ≤ H ∧ H ≤ 32 := by have := hm.h; omega
      obtain ⟨hW1, hW2⟩ := hW1
      obtain ⟨hH1, hH2⟩ := hH1
      have ha := atN_lt hm x y
      rw [show clampV y H = y from by unfold clampV; omega, show clampV x W = x from by unfold clampV; omega] at ha
      rw [show sampV W pix x y = pix.getD (y * W + x).toNat 0 from by unfold sampV; rw [if_neg (by omega)]]
      obtain ⟨b, o, rfl, hc, hbl2⟩ := hp.cellN (j := (y * W + x).toNat) (by omega)
      obtain ⟨ha1, ha2, ha3, ha4⟩ := ha
      generalize hr : pix.getD (y * W + x).toNat 0 = r at *
      clear hr hp hm hb
      go_enter Tryd.func34, Tryd.ntmps34
      go_wp2
      go_returns
      exact ⟨rfl, by go_grown⟩

set_option maxHeartbeats 1000000 in
theorem rsamp_any (W H : Int) (pix : List Int) (fv : Value) (x y : Int) (w : World) (hv : FrameV w fv W H pix) (hm : May W H pix) (hx : -1 ≤ x ∧ x < W) (hy : -1 ≤ y ∧ y < H) :
    Calls Tryd.prog 36 #[fv, .int .i64 x, .int .i64 y] w fun e w' => e = .returned (.int .i64 (sampV W pix x y)) ∧ Below w.heap.size w w' := by
  obtain ⟨x1, x2⟩ := hx
  obtain ⟨y1, y2⟩ := hy
  obtain ⟨ao, cap, rfl, hp⟩ := hv.cells
  clear hv
  by_cases hx : x < 0
  · rw [show sampV W pix x y = 128 from by unfold sampV; rw [if_pos (.inl hx)]]
    clear hp hm
    go_enter Tryd.func36, Tryd.ntmps36
    go_wp2
    go_returns
    exact ⟨rfl, by go_grown⟩
  · by_cases hy : y < 0
    · rw [show sampV W pix x y = 128 from by unfold sampV; rw [if_pos (.inr hy)]]
      clear hp hm
      go_enter Tryd.func36, Tryd.ntmps36
      go_wp2
      go_returns
      exact ⟨rfl, by go_grown⟩
    · have hW1 : 8 ≤ W ∧ W ≤ 32 := by have := hm.w; omega
      have hH1 : 8 ≤ H ∧ H ≤ 32 := by have := hm.h; omega
      obtain ⟨hW1, hW2⟩ := hW1
      obtain ⟨hH1, hH2⟩ := hH1
      have ha := atN_lt hm x y
      rw [show clampV y H = y from by unfold clampV; omega, show clampV x W = x from by unfold clampV; omega] at ha
      rw [show sampV W pix x y = pix.getD (y * W + x).toNat 0 from by unfold sampV; rw [if_neg (by omega)]]
      obtain ⟨b, o, rfl, hc, hbl2⟩ := hp.cellN (j := (y * W + x).toNat) (by omega)
      obtain ⟨ha1, ha2, ha3, ha4⟩ := ha
      generalize hr : pix.getD (y * W + x).toNat 0 = r at *
      clear hr hp hm
      go_enter Tryd.func36, Tryd.ntmps36
      go_wp2
      go_returns
      exact ⟨rfl, by go_grown⟩
set_option maxRecDepth 100000 in
set_option maxHeartbeats 2000000 in
theorem pedges_no (fv : Value) (W H : Int) (pix : List Int) (x y n : Int) (w : World) (hv : FrameV w fv W H pix) (h : edB W H pix x y n = false) :
    Calls Tryd.prog 18 #[fv, .int .i64 x, .int .i64 y, .int .i64 n] w fun e w' => e = .returned (.tuple #[.slice none 0 0, .slice none 0 0, .int .i64 0]) ∧ Below w.heap.size w w' := by
  have HV := Lib.hid hv
  obtain ⟨ao, cap, rfl, hp⟩ := hv.cells
  have BX := Lib.hid (Blk.new w #[.int .i64 W, .int .i64 H, .slice ao pix.length cap] 42)
  have cm := fun w hv => pmay_any (.agg #[.int .i64 W, .int .i64 H, .slice ao pix.length cap]) W H pix w hv
  clear hv hp
  cases hm : mayB W H pix with
  | false =>
    rw [hm] at cm
    have CM := Lib.hid cm
    clear cm h hm
    go_enter Tryd.func18, Tryd.ntmps18
    go_wp2_with fail
    refine (CM.out _ (HV.out.ext (by go_grown))).mono ?_
    rintro e w1 ⟨rfl, hb1⟩
    have g1 : Below w.heap.size w w1 := ext (by go_grown) hb1
    go_wp2
    go_returns
    exact ⟨rfl, g1⟩
  | true =>
    rw [hm] at cm
    have CM := Lib.hid cm
    have hmay := mayB_iff.1 hm
    by_cases hn : n = 4 ∨ n = 8
    · have hi : inB W H x y n = false := by unfold edB at h; rw [hm, decide_eq_true hn] at h; simpa using h
      have ci := fun w hv => pin_any (.agg #[.int .i64 W, .int .i64 H, .slice ao pix.length cap]) W H pix x y n w hv (by have := hmay.w; omega) (by have := hmay.h; omega) (by omega)
      rw [hi] at ci
      have CI := Lib.hid ci
      clear cm ci h hm hi hmay
      rcases hn with rfl | rfl
      · go_enter Tryd.func18, Tryd.ntmps18
        go_wp2_with fail
        refine (CM.out _ (HV.out.ext (by go_grown))).mono ?_
        rintro e w1 ⟨rfl, hb1⟩
        have g1 : Below w.heap.size w w1 := ext (by go_grown) hb1
        obtain ⟨c0, c1, c2, -, -, -⟩ := (BX.out.ext hb1).three
        go_wp2_with fail
        clear c0 c1 c2
        refine (CI.out _ ((HV.out.ext g1).ext (by go_grown))).mono ?_
        rintro e w2 ⟨rfl, hb2⟩
        have g2 : Below w.heap.size w w2 := ext g1 hb2
        go_wp2
        go_returns
        exact ⟨rfl, g2⟩
      · go_enter Tryd.func18, Tryd.ntmps18
        go_wp2_with fail
        refine (CM.out _ (HV.out.ext (by go_grown))).mono ?_
        rintro e w1 ⟨rfl, hb1⟩
        have g1 : Below w.heap.size w w1 := ext (by go_grown) hb1
        obtain ⟨c0, c1, c2, -, -, -⟩ := (BX.out.ext hb1).three
        go_wp2_with fail
        clear c0 c1 c2
        refine (CI.out _ ((HV.out.ext g1).ext (by go_grown))).mono ?_
        rintro e w2 ⟨rfl, hb2⟩
        have g2 : Below w.heap.size w w2 := ext g1 hb2
        go_wp2
        go_returns
        exact ⟨rfl, g2⟩
    · have q1 : (n != 4) = true := by simp; omega
      have q2 : (n != 8) = true := by simp; omega
      clear cm h hm hmay hn
      go_enter Tryd.func18, Tryd.ntmps18
      go_wp2_with fail
      refine (CM.out _ (HV.out.ext (by go_grown))).mono ?_
      rintro e w1 ⟨rfl, hb1⟩
      have g1 : Below w.heap.size w w1 := ext (by go_grown) hb1
      go_wp2
      go_returns
      exact ⟨rfl, g1⟩

set_option maxRecDepth 100000 in
set_option maxHeartbeats 2000000 in
theorem redges_no (fv : Value) (W H : Int) (pix : List Int) (x y n : Int) (w : World) (hv : FrameV w fv W H pix) (h : edB W H pix x y n = false) :
    Calls Tryd.prog 19 #[fv, .int .i64 x, .int .i64 y, .int .i64 n] w fun e w' => e = .returned (.tuple #[.slice none 0 0, .slice none 0 0, .int .i64 0]) ∧ Below w.heap.size w w' := by
  have HV := Lib.hid hv
  obtain ⟨ao, cap, rfl, hp⟩ := hv.cells
  have BX := Lib.hid (Blk.new w #[.int .i64 W, .int .i64 H, .slice ao pix.length cap] 42)
  have cm := fun w hv => rmay_any (.agg #[.int .i64 W, .int .i64 H, .slice ao pix.length cap]) W H pix w hv
  clear hv hp
  cases hm : mayB W H pix with
  | false =>
    rw [hm] at cm
    have CM := Lib.hid cm
    clear cm h hm
    go_enter Tryd.func19, Tryd.ntmps19
    go_wp2_with fail
    refine (CM.out _ (HV.out.ext (by go_grown))).mono ?_
    rintro e w1 ⟨rfl, hb1⟩
    have g1 : Below w.heap.size w w1 := ext (by go_grown) hb1
    go_wp2
    go_returns
    exact ⟨rfl, g1⟩
  | true =>
    rw [hm] at cm
    have CM := Lib.hid cm
    have hmay := mayB_iff.1 hm
    by_cases hn : n = 4 ∨ n = 8
    · have hi : inB W H x y n = false := by unfold edB at h; rw [hm, decide_eq_true hn] at h; simpa using h
      have ci := fun w hv => lies_any (.agg #[.int .i64 W, .int .i64 H, .slice ao pix.length cap]) W H pix x y n w hv (by have := hmay.w; omega) (by have := hmay.h; omega) (by omega)
      rw [hi] at ci
      have CI := Lib.hid ci
      clear cm ci h hm hi hmay
      rcases hn with rfl | rfl
      · go_enter Tryd.func19, Tryd.ntmps19
        go_wp2_with fail
        refine (CM.out _ (HV.out.ext (by go_grown))).mono ?_
        rintro e w1 ⟨rfl, hb1⟩
        have g1 : Below w.heap.size w w1 := ext (by go_grown) hb1
        obtain ⟨c0, c1, c2, -, -, -⟩ := (BX.out.ext hb1).three
        go_wp2_with fail
        clear c0 c1 c2
        refine (CI.out _ ((HV.out.ext g1).ext (by go_grown))).mono ?_
        rintro e w2 ⟨rfl, hb2⟩
        have g2 : Below w.heap.size w w2 := ext g1 hb2
        go_wp2
        go_returns
        exact ⟨rfl, g2⟩
      · go_enter Tryd.func19, Tryd.ntmps19
        go_wp2_with fail
        refine (CM.out _ (HV.out.ext (by go_grown))).mono ?_
        rintro e w1 ⟨rfl, hb1⟩
        have g1 : Below w.heap.size w w1 := ext (by go_grown) hb1
        obtain ⟨c0, c1, c2, -, -, -⟩ := (BX.out.ext hb1).three
        go_wp2_with fail
        clear c0 c1 c2
        refine (CI.out _ ((HV.out.ext g1).ext (by go_grown))).mono ?_
        rintro e w2 ⟨rfl, hb2⟩
        have g2 : Below w.heap.size w w2 := ext g1 hb2
        go_wp2
        go_returns
        exact ⟨rfl, g2⟩
    · have q1 : (n != 4) = true := by simp; omega
      have q2 : (n != 8) = true := by simp; omega
      clear cm h hm hmay hn
      go_enter Tryd.func19, Tryd.ntmps19
      go_wp2_with fail
      refine (CM.out _ (HV.out.ext (by go_grown))).mono ?_
      rintro e w1 ⟨rfl, hb1⟩
      have g1 : Below w.heap.size w w1 := ext (by go_grown) hb1
      go_wp2
      go_returns
      exact ⟨rfl, g1⟩

set_option maxRecDepth 100000 in
set_option maxHeartbeats 8000000 in
theorem pedges_ok4 (fv : Value) (W H : Int) (pix : List Int) (x y : Int) (w : World) (hv : FrameV w fv W H pix) (h : edB W H pix x y 4 = true) :
    Calls Tryd.prog 18 #[fv, .int .i64 x, .int .i64 y, .int .i64 4] w fun e w' => ∃ v1 v2, e = .returned (.tuple #[v1, v2, .int .i64 (sampV W pix (x - 1) (y - 1))]) ∧ OwnInts w' w.heap.size v1 (mapTo (topAt W pix x y) 4) ∧ OwnInts w' w.heap.size v2 (mapTo (leftAt W pix x y) 4) ∧ Below w.heap.size w w' := by
  have HV := Lib.hid hv
  obtain ⟨ao, cap, rfl, hp⟩ := hv.cells
  have HP := Lib.hid hp
  have BX := Lib.hid (Blk.new w #[.int .i64 W, .int .i64 H, .slice ao pix.length cap] 42)
  unfold edB at h
  simp only [Bool.and_eq_true] at h
  obtain ⟨hm, -, hi⟩ := h
  have hmay := mayB_iff.1 hm
  have cm := fun w hv => pmay_any (.agg #[.int .i64 W, .int .i64 H, .slice ao pix.length cap]) W H pix w hv
  have ci := fun w hv => pin_any (.agg #[.int .i64 W, .int .i64 H, .slice ao pix.length cap]) W H pix x y 4 w hv (by have := hmay.w; omega) (by have := hmay.h; omega) (by omega)
  rw [hm] at cm
  rw [hi] at ci
  have CM := Lib.hid cm
  have CI := Lib.hid ci
  obtain ⟨i1, i2, i3, i4⟩ := inB_iff.1 hi
  have hW2 : W ≤ 32 := by have := hmay.w; omega
  have hH2 : H ≤ 32 := by have := hmay.h; omega
  have CS := Lib.hid (show ∀ (x y : Int) (wx : World), Blk wx w.heap.size #[.int .i64 W, .int .i64 H, .slice ao pix.length cap] 42 → Ints wx (.slice ao pix.length cap) pix → (-1 ≤ x ∧ x < W) → (-1 ≤ y ∧ y < H) → Calls Tryd.prog 34 #[.int .i64 x, .int .i64 y, .pointer (some ⟨w.heap.size, 0, none⟩)] wx fun e w' => e = .returned (.int .i64 (sampV W pix x y)) ∧ Below wx.heap.size wx w' from fun x y wx h1 h2 h3 h4 => psamp_any W H pix ao cap x y _ wx h1 h2 hmay h3 h4)
  have HSB := Lib.hid (fun x y => sampV_bd hmay x y)
  have q1 : ((4 : Int) != 4) = false := by decide
  clear cm ci hm hi hmay hv hp
  go_enter Tryd.func18, Tryd.ntmps18
  go_wp2_with fail
  refine (CM.out _ (HV.out.ext (by go_grown))).mono ?_
  rintro e w1 ⟨rfl, hb1⟩
  have g1 : Below w.heap.size w w1 := ext (by go_grown) hb1
  have B1 := Lib.hid (BX.out.ext hb1)
  obtain ⟨c0, c1, c2, -, -, -⟩ := B1.out.three
  go_wp2_with fail
  clear c0 c1 c2
  refine (CI.out _ ((HV.out.ext g1).ext (by go_grown))).mono ?_
  rintro e w2 ⟨rfl, hb2⟩
  have g2 : Below w.heap.size w w2 := ext g1 hb2
  have B2 := Lib.hid (B1.out.ext hb2)
  clear BX B1 hb1 hb2 g1
  go_wp2
  go_loopw [12, 13, 36] (fun v1 v2 i wr => ∃ k : Nat, k ≤ 4 ∧ i = .int .i64 k ∧ Two wr (w.heap.size + 1) v1 (mapTo (topAt W pix x y) k) v2 (mapTo (leftAt W pix x y) k) ∧ Below w.heap.size w wr ∧ Blk wr w.heap.size #[.int .i64 W, .int .i64 H, .slice ao pix.length cap] 42) (fun _ _ i _ => 4 - (intOf i).toNat)
  case atStart => exact ⟨0, Nat.zero_le _, rfl, Two.nil _ _, g2, B2.out⟩
  case round =>
    clear B2 g2
    obtain ⟨k, hk, rfl, htwo, hbr, hB⟩ := hrel
    have BB := Lib.hid hB
    have HT := Lib.hid htwo
    have lB := hB.lt
    clear hB htwo
    by_cases hlt : k < 4
    · have q : decide ((k : Int) < 4) = true := by simp; omega
      have HM1 := Lib.hid (mapTo_succ (topAt W pix x y) k)
      have HM2 := Lib.hid (mapTo_succ (leftAt W pix x y) k)
      have Hlen1 := Lib.hid (show (mapTo (topAt W pix x y) k).length ≤ 1099511627776 from by rw [length_mapTo]; omega)
      have Hlen2 := Lib.hid (show (mapTo (leftAt W pix x y) k).length ≤ 1099511627776 from by rw [length_mapTo]; omega)
      have HT1 := Lib.hid (show topAt W pix x y k = sampV W pix (x + k) (y - 1) from rfl)
      have HT2 := Lib.hid (show leftAt W pix x y k = sampV W pix (x - 1) (y + k) from rfl)
      have HS1 := Lib.hid (HSB.out (x + k) (y - 1))
      have HS2 := Lib.hid (HSB.out (x - 1) (y + k))
      go_wp2_with fail
      refine (CS.out (x + k) (y - 1) _ BB.out (HP.out.ext hbr) (by omega) (by omega)).mono ?_
      rintro e w3 ⟨rfl, hb3⟩
      rw [← HT1.out] at HS1 ⊢
      have HI1 := Lib.hid (show in64 (topAt W pix x y k) from by have := HS1.out; unfold in64; omega)
      generalize topAt W pix x y k = t1 at *
      have j3 : Below wr.heap.size wr w3 := hb3
      have g3 : Below w.heap.size w w3 := ext hbr j3
      have BB3 := Lib.hid (BB.out.ext j3)
      have HT3 := Lib.hid (HT.out.ext j3)
      have l3 := BB3.out.lt
      clear HT BB hb3
      go_wp2_with (at_builtin; refine wpList_app1M rfl (.tmp 39) (.tmp 47) rfl (w.heap.size + 1) _ _ t1 rfl HT3.out.one rfl (by simp) HI1.out Hlen1.out (by omega) ?_)
      intro v1' w4 hown4 hb4 hg4 hat4
      have HT4 := Lib.hid (show Two w4 (w.heap.size + 1) v1' (mapTo (topAt W pix x y) (k + 1)) _ _ from by rw [HM1.out]; exact HT3.out.app hown4 hg4 hat4)
      have BB4 := Lib.hid (BB3.out.below hb4 (by omega))
      have g4 : Below w.heap.size w w4 := g3.trans (hb4.mono (by omega))
      have l4 := BB4.out.lt
      clear hown4 hb4 hg4 hat4 HT3 BB3
      go_wp2_with fail
      refine (CS.out (x - 1) (y + k) _ BB4.out (HP.out.ext g4) (by omega) (by omega)).mono ?_
      rintro e w5 ⟨rfl, hb5⟩
      rw [← HT2.out] at HS2 ⊢
      have HI2 := Lib.hid (show in64 (leftAt W pix x y k) from by have := HS2.out; unfold in64; omega)
      generalize leftAt W pix x y k = t2 at *
      have g5 : Below w.heap.size w w5 := ext g4 hb5
      have BB5 := Lib.hid (BB4.out.ext hb5)
      have HT5 := Lib.hid (HT4.out.ext hb5).swap
      have l5 := BB5.out.lt
      clear HT4 BB4 hb5
      go_wp2_with (at_builtin; refine wpList_app1M rfl (.tmp 49) (.tmp 57) rfl (w.heap.size + 1) _ _ t2 rfl HT5.out.one rfl (by simp) HI2.out Hlen2.out (by omega) ?_)
      intro v2' w6 hown6 hb6 hg6 hat6
      have HT6 := Lib.hid (show Two w6 (w.heap.size + 1) v2' (mapTo (leftAt W pix x y) (k + 1)) _ _ from by rw [HM2.out]; exact HT5.out.app hown6 hg6 hat6)
      have BB6 := Lib.hid (BB5.out.below hb6 (by omega))
      have g6 : Below w.heap.size w w6 := g5.trans (hb6.mono (by omega))
      clear hown6 hb6 hg6 hat6 HT5 BB5
      go_wp2
      go_roundw
      case rel => exact ⟨k + 1, by omega, by go_num, HT6.out.swap, g6, BB6.out⟩
      case measure => simp [intOf]; omega
    · obtain rfl : k = 4 := by omega
      go_wp2_with fail
      refine (CS.out (x - 1) (y - 1) _ BB.out (HP.out.ext hbr) (by omega) (by omega)).mono ?_
      rintro e w3 ⟨rfl, hb3⟩
      have g3 : Below w.heap.size w w3 := ext hbr hb3
      have HT3 := Lib.hid (HT.out.ext hb3)
      go_wp2
      go_returns
      exact ⟨_, _, rfl, HT3.out.one.mono (by omega), HT3.out.two.mono (by omega), g3⟩

set_option maxRecDepth 100000 in
set_option maxHeartbeats 8000000 in
theorem pedges_ok8 (fv : Value) (W H : Int) (pix : List Int) (x y : Int) (w : World) (hv : FrameV w fv W H pix) (h : edB W H pix x y 8 = true) :
    Calls Tryd.prog 18 #[fv, .int .i64 x, .int .i64 y, .int .i64 8] w fun e w' => ∃ v1 v2, e = .returned (.tuple #[v1, v2, .int .i64 (sampV W pix (x - 1) (y - 1))]) ∧ OwnInts w' w.heap.size v1 (mapTo (topAt W pix x y) 8) ∧ OwnInts w' w.heap.size v2 (mapTo (leftAt W pix x y) 8) ∧ Below w.heap.size w w' := by
  have HV := Lib.hid hv
  obtain ⟨ao, cap, rfl, hp⟩ := hv.cells
  have HP := Lib.hid hp
  have BX := Lib.hid (Blk.new w #[.int .i64 W, .int .i64 H, .slice ao pix.length cap] 42)
  unfold edB at h
  simp only [Bool.and_eq_true] at h
  obtain ⟨hm, -, hi⟩ := h
  have hmay := mayB_iff.1 hm
  have cm := fun w hv => pmay_any (.agg #[.int .i64 W, .int .i64 H, .slice ao pix.length cap]) W H pix w hv
  have ci := fun w hv => pin_any (.agg #[.int .i64 W, .int .i64 H, .slice ao pix.length cap]) W H pix x y 8 w hv (by have := hmay.w; omega) (by have := hmay.h; omega) (by omega)
  rw [hm] at cm
  rw [hi] at ci
  have CM := Lib.hid cm
  have CI := Lib.hid ci
  obtain ⟨i1, i2, i3, i4⟩ := inB_iff.1 hi
  have hW2 : W ≤ 32 := by have := hmay.w; omega
  have hH2 : H ≤ 32 := by have := hmay.h; omega
  have CS := Lib.hid (show ∀ (x y : Int) (wx : World), Blk wx w.heap.size #[.int .i64 W, .int .i64 H, .slice ao pix.length cap] 42 → Ints wx (.slice ao pix.length cap) pix → (-1 ≤ x ∧ x < W) → (-1 ≤ y ∧ y < H) → Calls Tryd.prog 34 #[.int .i64 x, .int .i64 y, .pointer (some ⟨w.heap.size, 0, none⟩)] wx fun e w' => e = .returned (.int .i64 (sampV W pix x y)) ∧ Below wx.heap.size wx w' from fun x y wx h1 h2 h3 h4 => psamp_any W H pix ao cap x y _ wx h1 h2 hmay h3 h4)
  have HSB := Lib.hid (fun x y => sampV_bd hmay x y)
  have q1 : ((8 : Int) != 4) = true := by decide
  have q2 : ((8 : Int) != 8) = false := by decide
  clear cm ci hm hi hmay hv hp
  go_enter Tryd.func18, Tryd.ntmps18
  go_wp2_with fail
  refine (CM.out _ (HV.out.ext (by go_grown))).mono ?_
  rintro e w1 ⟨rfl, hb1⟩
  have g1 : Below w.heap.size w w1 := ext (by go_grown) hb1
  have B1 := Lib.hid (BX.out.ext hb1)
  obtain ⟨c0, c1, c2, -, -, -⟩ := B1.out.three
  go_wp2_with fail
  clear c0 c1 c2
  refine (CI.out _ ((HV.out.ext g1).ext (by go_grown))).mono ?_
  rintro e w2 ⟨rfl, hb2⟩
  have g2 : Below w.heap.size w w2 := ext g1 hb2
  have B2 := Lib.hid (B1.out.ext hb2)
  clear BX B1 hb1 hb2 g1
  go_wp2
  go_loopw [12, 13, 36] (fun v1 v2 i wr => ∃ k : Nat, k ≤ 8 ∧ i = .int .i64 k ∧ Two wr (w.heap.size + 1) v1 (mapTo (topAt W pix x y) k) v2 (mapTo (leftAt W pix x y) k) ∧ Below w.heap.size w wr ∧ Blk wr w.heap.size #[.int .i64 W, .int .i64 H, .slice ao pix.length cap] 42) (fun _ _ i _ => 8 - (intOf i).toNat)
  case atStart => exact ⟨0, Nat.zero_le _, rfl, Two.nil _ _, g2, B2.out⟩
  case round =>
    clear B2 g2
    obtain ⟨k, hk, rfl, htwo, hbr, hB⟩ := hrel
    have BB := Lib.hid hB
    have HT := Lib.hid htwo
    have lB := hB.lt
    clear hB htwo
    by_cases hlt : k < 8
    · have q : decide ((k : Int) < 8) = true := by simp; omega
      have HM1 := Lib.hid (mapTo_succ (topAt W pix x y) k)
      have HM2 := Lib.hid (mapTo_succ (leftAt W pix x y) k)
      have Hlen1 := Lib.hid (show (mapTo (topAt W pix x y) k).length ≤ 1099511627776 from by rw [length_mapTo]; omega)
      have Hlen2 := Lib.hid (show (mapTo (leftAt W pix x y) k).length ≤ 1099511627776 from by rw [length_mapTo]; omega)
      have HT1 := Lib.hid (show topAt W pix x y k = sampV W pix (x + k) (y - 1) from rfl)
      have HT2 := Lib.hid (show leftAt W pix x y k = sampV W pix (x - 1) (y + k) from rfl)
      have HS1 := Lib.hid (HSB.out (x + k) (y - 1))
      have HS2 := Lib.hid (HSB.out (x - 1) (y + k))
      go_wp2_with fail
      refine (CS.out (x + k) (y - 1) _ BB.out (HP.out.ext hbr) (by omega) (by omega)).mono ?_
      rintro e w3 ⟨rfl, hb3⟩
      rw [← HT1.out] at HS1 ⊢
      have HI1 := Lib.hid (show in64 (topAt W pix x y k) from by have := HS1.out; unfold in64; omega)
      generalize topAt W pix x y k = t1 at *
      have j3 : Below wr.heap.size wr w3 := hb3
      have g3 : Below w.heap.size w w3 := ext hbr j3
      have BB3 := Lib.hid (BB.out.ext j3)
      have HT3 := Lib.hid (HT.out.ext j3)
      have l3 := BB3.out.lt
      clear HT BB hb3
      go_wp2_with (at_builtin; refine wpList_app1M rfl (.tmp 39) (.tmp 47) rfl (w.heap.size + 1) _ _ t1 rfl HT3.out.one rfl (by simp) HI1.out Hlen1.out (by omega) ?_)
      intro v1' w4 hown4 hb4 hg4 hat4
      have HT4 := Lib.hid (show Two w4 (w.heap.size + 1) v1' (mapTo (topAt W pix x y) (k + 1)) _ _ from by rw [HM1.out]; exact HT3.out.app hown4 hg4 hat4)
      have BB4 := Lib.hid (BB3.out.below hb4 (by omega))
      have g4 : Below w.heap.size w w4 := g3.trans (hb4.mono (by omega))
      have l4 := BB4.out.lt
      clear hown4 hb4 hg4 hat4 HT3 BB3
      go_wp2_with fail
      refine (CS.out (x - 1) (y + k) _ BB4.out (HP.out.ext g4) (by omega) (by omega)).mono ?_
      rintro e w5 ⟨rfl, hb5⟩
      rw [← HT2.out] at HS2 ⊢
      have HI2 := Lib.hid (show in64 (leftAt W pix x y k) from by have := HS2.out; unfold in64; omega)
      generalize leftAt W pix x y k = t2 at *
      have g5 : Below w.heap.size w w5 := ext g4 hb5
      have BB5 := Lib.hid (BB4.out.ext hb5)
      have HT5 := Lib.hid (HT4.out.ext hb5).swap
      have l5 := BB5.out.lt
      clear HT4 BB4 hb5
      go_wp2_with (at_builtin; refine wpList_app1M rfl (.tmp 49) (.tmp 57) rfl (w.heap.size + 1) _ _ t2 rfl HT5.out.one rfl (by simp) HI2.out Hlen2.out (by omega) ?_)
      intro v2' w6 hown6 hb6 hg6 hat6
      have HT6 := Lib.hid (show Two w6 (w.heap.size + 1) v2' (mapTo (leftAt W pix x y) (k + 1)) _ _ from by rw [HM2.out]; exact HT5.out.app hown6 hg6 hat6)
      have BB6 := Lib.hid (BB5.out.below hb6 (by omega))
      have g6 : Below w.heap.size w w6 := g5.trans (hb6.mono (by omega))
      clear hown6 hb6 hg6 hat6 HT5 BB5
      go_wp2
      go_roundw
      case rel => exact ⟨k + 1, by omega, by go_num, HT6.out.swap, g6, BB6.out⟩
      case measure => simp [intOf]; omega
    · obtain rfl : k = 8 := by omega
      go_wp2_with fail
      refine (CS.out (x - 1) (y - 1) _ BB.out (HP.out.ext hbr) (by omega) (by omega)).mono ?_
      rintro e w3 ⟨rfl, hb3⟩
      have g3 : Below w.heap.size w w3 := ext hbr hb3
      have HT3 := Lib.hid (HT.out.ext hb3)
      go_wp2
      go_returns
      exact ⟨_, _, rfl, HT3.out.one.mono (by omega), HT3.out.two.mono (by omega), g3⟩

set_option maxRecDepth 100000 in
set_option maxHeartbeats 8000000 in
theorem redges_ok4 (fv : Value) (W H : Int) (pix : List Int) (x y : Int) (w : World) (hv : FrameV w fv W H pix) (h : edB W H pix x y 4 = true) :
    Calls Tryd.prog 19 #[fv, .int .i64 x, .int .i64 y, .int .i64 4] w fun e w' => ∃ v1 v2, e = .returned (.tuple #[v1, v2, .int .i64 (sampV W pix (x - 1) (y - 1))]) ∧ OwnInts w' w.heap.size v1 (mapTo (topAt W pix x y) 4) ∧ OwnInts w' w.heap.size v2 (mapTo (leftAt W pix x y) 4) ∧ Below w.heap.size w w' := by
  have HV := Lib.hid hv
  obtain ⟨ao, cap, rfl, hp⟩ := hv.cells
  have HP := Lib.hid hp
  have BX := Lib.hid (Blk.new w #[.int .i64 W, .int .i64 H, .slice ao pix.length cap] 42)
  unfold edB at h
  simp only [Bool.and_eq_true] at h
  obtain ⟨hm, -, hi⟩ := h
  have hmay := mayB_iff.1 hm
  have cm := fun w hv => rmay_any (.agg #[.int .i64 W, .int .i64 H, .slice ao pix.length cap]) W H pix w hv
  have ci := fun w hv => lies_any (.agg #[.int .i64 W, .int .i64 H, .slice ao pix.length cap]) W H pix x y 4 w hv (by have := hmay.w; omega) (by have := hmay.h; omega) (by omega)
  rw [hm] at cm
  rw [hi] at ci
  have CM := Lib.hid cm
  have CI := Lib.hid ci
  obtain ⟨i1, i2, i3, i4⟩ := inB_iff.1 hi
  have hW2 : W ≤ 32 := by have := hmay.w; omega
  have hH2 : H ≤ 32 := by have := hmay.h; omega
  have CS := Lib.hid (show ∀ (x y : Int) (wx : World), FrameV wx (.agg #[.int .i64 W, .int .i64 H, .slice ao pix.length cap]) W H pix → (-1 ≤ x ∧ x < W) → (-1 ≤ y ∧ y < H) → Calls Tryd.prog 36 #[.agg #[.int .i64 W, .int .i64 H, .slice ao pix.length cap], .int .i64 x, .int .i64 y] wx fun e w' => e = .returned (.int .i64 (sampV W pix x y)) ∧ Below wx.heap.size wx w' from fun x y wx h1 h3 h4 => rsamp_any W H pix _ x y wx h1 hmay h3 h4)
  have HSB := Lib.hid (fun x y => sampV_bd hmay x y)
  have q1 : ((4 : Int) != 4) = false := by decide
  clear cm ci hm hi hmay hv hp
  go_enter Tryd.func19, Tryd.ntmps19
  go_wp2_with fail
  refine (CM.out _ (HV.out.ext (by go_grown))).mono ?_
  rintro e w1 ⟨rfl, hb1⟩
  have g1 : Below w.heap.size w w1 := ext (by go_grown) hb1
  have B1 := Lib.hid (BX.out.ext hb1)
  obtain ⟨c0, c1, c2, -, -, -⟩ := B1.out.three
  go_wp2_with fail
  clear c0 c1 c2
  refine (CI.out _ ((HV.out.ext g1).ext (by go_grown))).mono ?_
  rintro e w2 ⟨rfl, hb2⟩
  have g2 : Below w.heap.size w w2 := ext g1 hb2
  have B2 := Lib.hid (B1.out.ext hb2)
  clear BX B1 hb1 hb2 g1
  go_wp2
  go_loopw [11, 12, 13] (fun v1 v2 i wr => ∃ k : Nat, k ≤ 4 ∧ i = .int .i64 k ∧ Two wr (w.heap.size + 1) v1 (mapTo (topAt W pix x y) k) v2 (mapTo (leftAt W pix x y) k) ∧ Below w.heap.size w wr ∧ Blk wr w.heap.size #[.int .i64 W, .int .i64 H, .slice ao pix.length cap] 42) (fun _ _ i _ => 4 - (intOf i).toNat)
  case atStart => exact ⟨0, Nat.zero_le _, rfl, Two.nil _ _, g2, B2.out⟩
  case round =>
    clear B2 g2
    obtain ⟨k, hk, rfl, htwo, hbr, hB⟩ := hrel
    have BB := Lib.hid hB
    have HT := Lib.hid htwo
    have lB := hB.lt
    clear hB htwo
    by_cases hlt : k < 4
    · have q : decide ((k : Int) < 4) = true := by simp; omega
      have HM1 := Lib.hid (mapTo_succ (topAt W pix x y) k)
      have HM2 := Lib.hid (mapTo_succ (leftAt W pix x y) k)
      have Hlen1 := Lib.hid (show (mapTo (topAt W pix x y) k).length ≤ 1099511627776 from by rw [length_mapTo]; omega)
      have Hlen2 := Lib.hid (show (mapTo (leftAt W pix x y) k).length ≤ 1099511627776 from by rw [length_mapTo]; omega)
      have HT1 := Lib.hid (show topAt W pix x y k = sampV W pix (x + k) (y - 1) from rfl)
      have HT2 := Lib.hid (show leftAt W pix x y k = sampV W pix (x - 1) (y + k) from rfl)
      have HS1 := Lib.hid (HSB.out (x + k) (y - 1))
      have HS2 := Lib.hid (HSB.out (x - 1) (y + k))
      obtain ⟨c0, c1, c2, -, -, -⟩ := BB.out.three
      go_wp2_with fail
      clear c0 c1 c2
      refine (CS.out (x + k) (y - 1) _ (HV.out.ext hbr) (by omega) (by omega)).mono ?_
      rintro e w3 ⟨rfl, hb3⟩
      rw [← HT1.out] at HS1 ⊢
      have HI1 := Lib.hid (show in64 (topAt W pix x y k) from by have := HS1.out; unfold in64; omega)
      generalize topAt W pix x y k = t1 at *
      have j3 : Below wr.heap.size wr w3 := hb3
      have g3 : Below w.heap.size w w3 := ext hbr j3
      have BB3 := Lib.hid (BB.out.ext j3)
      have HT3 := Lib.hid (HT.out.ext j3)
      have l3 := BB3.out.lt
      clear HT BB hb3
      go_wp2_with (at_builtin; refine wpList_app1M rfl (.tmp 38) (.tmp 46) rfl (w.heap.size + 1) _ _ t1 rfl HT3.out.one rfl (by simp) HI1.out Hlen1.out (by omega) ?_)
      intro v1' w4 hown4 hb4 hg4 hat4
      have HT4 := Lib.hid (show Two w4 (w.heap.size + 1) v1' (mapTo (topAt W pix x y) (k + 1)) _ _ from by rw [HM1.out]; exact HT3.out.app hown4 hg4 hat4)
      have BB4 := Lib.hid (BB3.out.below hb4 (by omega))
      have g4 : Below w.heap.size w w4 := g3.trans (hb4.mono (by omega))
      have l4 := BB4.out.lt
      clear hown4 hb4 hg4 hat4 HT3 BB3
      obtain ⟨c0, c1, c2, -, -, -⟩ := BB4.out.three
      go_wp2_with fail
      clear c0 c1 c2
      refine (CS.out (x - 1) (y + k) _ (HV.out.ext g4) (by omega) (by omega)).mono ?_
      rintro e w5 ⟨rfl, hb5⟩
      rw [← HT2.out] at HS2 ⊢
      have HI2 := Lib.hid (show in64 (leftAt W pix x y k) from by have := HS2.out; unfold in64; omega)
      generalize leftAt W pix x y k = t2 at *
      have g5 : Below w.heap.size w w5 := ext g4 hb5
      have BB5 := Lib.hid (BB4.out.ext hb5)
      have HT5 := Lib.hid (HT4.out.ext hb5).swap
      have l5 := BB5.out.lt
      clear HT4 BB4 hb5
      go_wp2_with (at_builtin; refine wpList_app1M rfl (.tmp 48) (.tmp 56) rfl (w.heap.size + 1) _ _ t2 rfl HT5.out.one rfl (by simp) HI2.out Hlen2.out (by omega) ?_)
      intro v2' w6 hown6 hb6 hg6 hat6
      have HT6 := Lib.hid (show Two w6 (w.heap.size + 1) v2' (mapTo (leftAt W pix x y) (k + 1)) _ _ from by rw [HM2.out]; exact HT5.out.app hown6 hg6 hat6)
      have BB6 := Lib.hid (BB5.out.below hb6 (by omega))
      have g6 : Below w.heap.size w w6 := g5.trans (hb6.mono (by omega))
      clear hown6 hb6 hg6 hat6 HT5 BB5
      go_wp2
      go_roundw
      case rel => exact ⟨k + 1, by omega, by go_num, HT6.out.swap, g6, BB6.out⟩
      case measure => simp [intOf]; omega
    · obtain rfl : k = 4 := by omega
      obtain ⟨c0, c1, c2, -, -, -⟩ := BB.out.three
      go_wp2_with fail
      clear c0 c1 c2
      refine (CS.out (x - 1) (y - 1) _ (HV.out.ext hbr) (by omega) (by omega)).mono ?_
      rintro e w3 ⟨rfl, hb3⟩
      have g3 : Below w.heap.size w w3 := ext hbr hb3
      have HT3 := Lib.hid (HT.out.ext hb3)
      go_wp2
      go_returns
      exact ⟨_, _, rfl, HT3.out.one.mono (by omega), HT3.out.two.mono (by omega), g3⟩

set_option maxRecDepth 100000 in
set_option maxHeartbeats 8000000 in
theorem redges_ok8 (fv : Value) (W H : Int) (pix : List Int) (x y : Int) (w : World) (hv : FrameV w fv W H pix) (h : edB W H pix x y 8 = true) :
    Calls Tryd.prog 19 #[fv, .int .i64 x, .int .i64 y, .int .i64 8] w fun e w' => ∃ v1 v2, e = .returned (.tuple #[v1, v2, .int .i64 (sampV W pix (x - 1) (y - 1))]) ∧ OwnInts w' w.heap.size v1 (mapTo (topAt W pix x y) 8) ∧ OwnInts w' w.heap.size v2 (mapTo (leftAt W pix x y) 8) ∧ Below w.heap.size w w' := by
  have HV := Lib.hid hv
  obtain ⟨ao, cap, rfl, hp⟩ := hv.cells
  have HP := Lib.hid hp
  have BX := Lib.hid (Blk.new w #[.int .i64 W, .int .i64 H, .slice ao pix.length cap] 42)
  unfold edB at h
  simp only [Bool.and_eq_true] at h
  obtain ⟨hm, -, hi⟩ := h
  have hmay := mayB_iff.1 hm
  have cm := fun w hv => rmay_any (.agg #[.int .i64 W, .int .i64 H, .slice ao pix.length cap]) W H pix w hv
  have ci := fun w hv => lies_any (.agg #[.int .i64 W, .int .i64 H, .slice ao pix.length cap]) W H pix x y 8 w hv (by have := hmay.w; omega) (by have := hmay.h; omega) (by omega)
  rw [hm] at cm
  rw [hi] at ci
  have CM := Lib.hid cm
  have CI := Lib.hid ci
  obtain ⟨i1, i2, i3, i4⟩ := inB_iff.1 hi
  have hW2 : W ≤ 32 := by have := hmay.w; omega
  have hH2 : H ≤ 32 := by have := hmay.h; omega
  have CS := Lib.hid (show ∀ (x y : Int) (wx : World), FrameV wx (.agg #[.int .i64 W, .int .i64 H, .slice ao pix.length cap]) W H pix → (-1 ≤ x ∧ x < W) → (-1 ≤ y ∧ y < H) → Calls Tryd.prog 36 #[.agg #[.int .i64 W, .int .i64 H, .slice ao pix.length cap], .int .i64 x, .int .i64 y] wx fun e w' => e = .returned (.int .i64 (sampV W pix x y)) ∧ Below wx.heap.size wx w' from fun x y wx h1 h3 h4 => rsamp_any W H pix _ x y wx h1 hmay h3 h4)
  have HSB := Lib.hid (fun x y => sampV_bd hmay x y)
  have q1 : ((8 : Int) != 4) = true := by decide
  have q2 : ((8 : Int) != 8) = false := by decide
  clear cm ci hm hi hmay hv hp
  go_enter Tryd.func19, Tryd.ntmps19
  go_wp2_with fail
  refine (CM.out _ (HV.out.ext (by go_grown))).mono ?_
  rintro e w1 ⟨rfl, hb1⟩
  have g1 : Below w.heap.size w w1 := ext (by go_grown) hb1
  have B1 := Lib.hid (BX.out.ext hb1)
  obtain ⟨c0, c1, c2, -, -, -⟩ := B1.out.three
  go_wp2_with fail
  clear c0 c1 c2
  refine (CI.out _ ((HV.out.ext g1).ext (by go_grown))).mono ?_
  rintro e w2 ⟨rfl, hb2⟩
  have g2 : Below w.heap.size w w2 := ext g1 hb2
  have B2 := Lib.hid (B1.out.ext hb2)
  clear BX B1 hb1 hb2 g1
  go_wp2
  go_loopw [11, 12, 13] (fun v1 v2 i wr => ∃ k : Nat, k ≤ 8 ∧ i = .int .i64 k ∧ Two wr (w.heap.size + 1) v1 (mapTo (topAt W pix x y) k) v2 (mapTo (leftAt W pix x y) k) ∧ Below w.heap.size w wr ∧ Blk wr w.heap.size #[.int .i64 W, .int .i64 H, .slice ao pix.length cap] 42) (fun _ _ i _ => 8 - (intOf i).toNat)
  case atStart => exact ⟨0, Nat.zero_le _, rfl, Two.nil _ _, g2, B2.out⟩
  case round =>
    clear B2 g2
    obtain ⟨k, hk, rfl, htwo, hbr, hB⟩ := hrel
    have BB := Lib.hid hB
    have HT := Lib.hid htwo
    have lB := hB.lt
    clear hB htwo
    by_cases hlt : k < 8
    · have q : decide ((k : Int) < 8) = true := by simp; omega
      have HM1 := Lib.hid (mapTo_succ (topAt W pix x y) k)
      have HM2 := Lib.hid (mapTo_succ (leftAt W pix x y) k)
      have Hlen1 := Lib.hid (show (mapTo (topAt W pix x y) k).length ≤ 1099511627776 from by rw [length_mapTo]; omega)
      have Hlen2 := Lib.hid (show (mapTo (leftAt W pix x y) k).length ≤ 1099511627776 from by rw [length_mapTo]; omega)
      have HT1 := Lib.hid (show topAt W pix x y k = sampV W pix (x + k) (y - 1) from rfl)
      have HT2 := Lib.hid (show leftAt W pix x y k = sampV W pix (x - 1) (y + k) from rfl)
      have HS1 := Lib.hid (HSB.out (x + k) (y - 1))
      have HS2 := Lib.hid (HSB.out (x - 1) (y + k))
      obtain ⟨c0, c1, c2, -, -, -⟩ := BB.out.three
      go_wp2_with fail
      clear c0 c1 c2
      refine (CS.out (x + k) (y - 1) _ (HV.out.ext hbr) (by omega) (by omega)).mono ?_
      rintro e w3 ⟨rfl, hb3⟩
      rw [← HT1.out] at HS1 ⊢
      have HI1 := Lib.hid (show in64 (topAt W pix x y k) from by have := HS1.out; unfold in64; omega)
      generalize topAt W pix x y k = t1 at *
      have j3 : Below wr.heap.size wr w3 := hb3
      have g3 : Below w.heap.size w w3 := ext hbr j3
      have BB3 := Lib.hid (BB.out.ext j3)
      have HT3 := Lib.hid (HT.out.ext j3)
      have l3 := BB3.out.lt
      clear HT BB hb3
      go_wp2_with (at_builtin; refine wpList_app1M rfl (.tmp 38) (.tmp 46) rfl (w.heap.size + 1) _ _ t1 rfl HT3.out.one rfl (by simp) HI1.out Hlen1.out (by omega) ?_)
      intro v1' w4 hown4 hb4 hg4 hat4
      have HT4 := Lib.hid (show Two w4 (w.heap.size + 1) v1' (mapTo (topAt W pix x y) (k + 1)) _ _ from by rw [HM1.out]; exact HT3.out.app hown4 hg4 hat4)
      have BB4 := Lib.hid (BB3.out.below hb4 (by omega))
      have g4 : Below w.heap.size w w4 := g3.trans (hb4.mono (by omega))
      have l4 := BB4.out.lt
      clear hown4 hb4 hg4 hat4 HT3 BB3
      obtain ⟨c0, c1, c2, -, -, -⟩ := BB4.out.three
      go_wp2_with fail
      clear c0 c1 c2
      refine (CS.out (x - 1) (y + k) _ (HV.out.ext g4) (by omega) (by omega)).mono ?_
      rintro e w5 ⟨rfl, hb5⟩
      rw [← HT2.out] at HS2 ⊢
      have HI2 := Lib.hid (show in64 (leftAt W pix x y k) from by have := HS2.out; unfold in64; omega)
      generalize leftAt W pix x y k = t2 at *
      have g5 : Below w.heap.size w w5 := ext g4 hb5
      have BB5 := Lib.hid (BB4.out.ext hb5)
      have HT5 := Lib.hid (HT4.out.ext hb5).swap
      have l5 := BB5.out.lt
      clear HT4 BB4 hb5
      go_wp2_with (at_builtin; refine wpList_app1M rfl (.tmp 48) (.tmp 56) rfl (w.heap.size + 1) _ _ t2 rfl HT5.out.one rfl (by simp) HI2.out Hlen2.out (by omega) ?_)
      intro v2' w6 hown6 hb6 hg6 hat6
      have HT6 := Lib.hid (show Two w6 (w.heap.size + 1) v2' (mapTo (leftAt W pix x y) (k + 1)) _ _ from by rw [HM2.out]; exact HT5.out.app hown6 hg6 hat6)
      have BB6 := Lib.hid (BB5.out.below hb6 (by omega))
      have g6 : Below w.heap.size w w6 := g5.trans (hb6.mono (by omega))
      clear hown6 hb6 hg6 hat6 HT5 BB5
      go_wp2
      go_roundw
      case rel => exact ⟨k + 1, by omega, by go_num, HT6.out.swap, g6, BB6.out⟩
      case measure => simp [intOf]; omega
    · obtain rfl : k = 8 := by omega
      obtain ⟨c0, c1, c2, -, -, -⟩ := BB.out.three
      go_wp2_with fail
      clear c0 c1 c2
      refine (CS.out (x - 1) (y - 1) _ (HV.out.ext hbr) (by omega) (by omega)).mono ?_
      rintro e w3 ⟨rfl, hb3⟩
      have g3 : Below w.heap.size w w3 := ext hbr hb3
      have HT3 := Lib.hid (HT.out.ext hb3)
      go_wp2
      go_returns
      exact ⟨_, _, rfl, HT3.out.one.mono (by omega), HT3.out.two.mono (by omega), g3⟩

theorem pedges_any (fv : Value) (W H : Int) (pix : List Int) (x y n : Int) (w : World) (hv : FrameV w fv W H pix) :
    Calls Tryd.prog 18 #[fv, .int .i64 x, .int .i64 y, .int .i64 n] w fun e w' => ∃ v1 v2, e = .returned (.tuple #[v1, v2, .int .i64 (edCor W H pix x y n)]) ∧ OwnInts w' w.heap.size v1 (edTop W H pix x y n) ∧ OwnInts w' w.heap.size v2 (edLeft W H pix x y n) ∧ Below w.heap.size w w' := by
  unfold edCor edTop edLeft
  cases h : edB W H pix x y n with
  | false =>
    refine (pedges_no fv W H pix x y n w hv h).mono ?_
    rintro e w1 ⟨rfl, hb⟩
    exact ⟨_, _, rfl, OwnInts.nil _ _, OwnInts.nil _ _, hb⟩
  | true =>
    have hn : n = 4 ∨ n = 8 := by unfold edB at h; simp only [Bool.and_eq_true, decide_eq_true_eq] at h; exact h.2.1
    rcases hn with rfl | rfl
    · exact pedges_ok4 fv W H pix x y w hv h
    · exact pedges_ok8 fv W H pix x y w hv h
theorem redges_any (fv : Value) (W H : Int) (pix : List Int) (x y n : Int) (w : World) (hv : FrameV w fv W H pix) :
    Calls Tryd.prog 19 #[fv, .int .i64 x, .int .i64 y, .int .i64 n] w fun e w' => ∃ v1 v2, e = .returned (.tuple #[v1, v2, .int .i64 (edCor W H pix x y n)]) ∧ OwnInts w' w.heap.size v1 (edTop W H pix x y n) ∧ OwnInts w' w.heap.size v2 (edLeft W H pix x y n) ∧ Below w.heap.size w w' := by
  unfold edCor edTop edLeft
  cases h : edB W H pix x y n with
  | false =>
    refine (redges_no fv W H pix x y n w hv h).mono ?_
    rintro e w1 ⟨rfl, hb⟩
    exact ⟨_, _, rfl, OwnInts.nil _ _, OwnInts.nil _ _, hb⟩
  | true =>
    have hn : n = 4 ∨ n = 8 := by unfold edB at h; simp only [Bool.and_eq_true, decide_eq_true_eq] at h; exact h.2.1
    rcases hn with rfl | rfl
    · exact redges_ok4 fv W H pix x y w hv h
    · exact redges_ok8 fv W H pix x y w hv h
end Go.Proofs.YtammgbohaaiicaaDoor
