/- (*motion.seek).try, motion.Search: contracts. -/
import Derived.Test.YtjmkcbagedflkaaDoorMotionC
import Derived.WalkMore
set_option linter.unusedSimpArgs false
set_option linter.unusedVariables false
namespace Go.Proofs.YtjmkcbagedflkaaDoor
open Go.RowKit

theorem grown_of_below {w w' : World} {row : Option Nat} (h : Below w.heap.size w w') : w.grownBy w' row := ⟨h.os, h.tape, h.output, h.size, fun k hk _ => h.block k hk⟩
theorem grown_set {w w' : World} {g o : Nat} (h : w.grownBy w' (some g)) (v : Value) : w.grownBy (w'.setCell ⟨g, o, none⟩ v) (some g) := by
  have hb : Below 0 w' (w'.setCell ⟨g, o, none⟩ v) := (Below.refl 0 w').setCell (Nat.zero_le _) v
  exact ⟨hb.os.trans h.os, hb.tape.trans h.tape, hb.output.trans h.output, Nat.le_trans h.size hb.size, fun k hk hne => (Below.heap_setCell _ _ _ _ (fun e => hne (by rw [e]))).trans (h.block k hk hne)⟩
theorem below_of_grown {w0 w w' : World} {g B : Nat} (hb : Below B w0 w) (h : w.grownBy w' (some g)) (hg : B ≤ g) (hB : B ≤ w.heap.size) : Below B w0 w' :=
  hb.trans ((Below.refl B w).grown h hB fun k hk => by simp at hk; omega)
/-- A search on its way, cell by cell. -/
def seekC (W H : Int) (pv bv : Value) (x y : Int) (s : Bst) : Array Value := #[.int .i64 W, .int .i64 H, pv, bv, .int .i64 x, .int .i64 y, .int .i64 s.1.1, .int .i64 s.1.2, .int .i64 s.2]
theorem seek_cells {w : World} {g : Nat} {W H : Int} {pv bv : Value} {x y : Int} {s : Bst} {T : Nat} (h : Blk w g (seekC W H pv bv x y s) T) :
    w.cell? ⟨g, 0, none⟩ = some (.int .i64 W) ∧ w.cell? ⟨g, 1, none⟩ = some (.int .i64 H) ∧ w.cell? ⟨g, 2, none⟩ = some pv ∧ w.cell? ⟨g, 3, none⟩ = some bv ∧ w.cell? ⟨g, 4, none⟩ = some (.int .i64 x) ∧ w.cell? ⟨g, 5, none⟩ = some (.int .i64 y) ∧
    w.cell? ⟨g, 6, none⟩ = some (.int .i64 s.1.1) ∧ w.cell? ⟨g, 7, none⟩ = some (.int .i64 s.1.2) ∧ w.cell? ⟨g, 8, none⟩ = some (.int .i64 s.2) :=
  ⟨h.cell 0, h.cell 1, h.cell 2, h.cell 3, h.cell 4, h.cell 5, h.cell 6, h.cell 7, h.cell 8⟩
theorem may_frame {w : World} {W H : Int} {pix : List Int} {p : Value} (hm : May W H pix) (hp : Ints w p pix) : FrameV w (.agg #[.int .i64 W, .int .i64 H, p]) W H pix :=
  ⟨p, rfl, by have := hm.w; unfold in64; omega, by have := hm.h; unfold in64; omega, hp⟩

set_option maxRecDepth 100000 in
set_option maxHeartbeats 8000000 in
theorem try_any (W H : Int) (pix bl : List Int) (ao bo : Option Addr) (cap bcap : Nat) (x y : Int) (s : Bst) (vx vy : Int) (g : Nat) (w : World)
    (hB : Blk w g (seekC W H (.slice ao pix.length cap) (.slice bo bl.length bcap) x y s) 72) (hp : Ints w (.slice ao pix.length cap) pix) (hb : Ints w (.slice bo bl.length bcap) bl) (hm : May W H pix)
    (hl : bl.length = 64) (hs : withinB bl 0 255 = true) (x1 : 0 ≤ x) (x2 : x ≤ 32) (y1 : 0 ≤ y) (y2 : y ≤ 32) (hv : vecB vx vy = true) :
    Calls Tryd.prog 41 #[.pointer (some ⟨g, 0, none⟩), .agg #[.int .i64 vx, .int .i64 vy]] w fun e w' => e = .returned (.tuple #[]) ∧ Blk w' g (seekC W H (.slice ao pix.length cap) (.slice bo bl.length bcap) x y (stepV (cstV W H pix bl x y) s (vx, vy))) 72 ∧ w.grownBy w' (some g) := by
  obtain ⟨⟨a1, a2⟩, b1, b2⟩ := vecB_iff.1 hv
  have CS := Lib.hid (fun w hv => psquare_any (.agg #[.int .i64 W, .int .i64 H, .slice ao pix.length cap]) W H pix x y 8 vx vy w hv hm (by omega) (by omega) x1 x2 y1 y2 a1 a2 b1 b2)
  have hz := both_sq hm hl hs x y vx vy
  have CC := Lib.hid (fun v w h1 h2 => pcost_ok v (.slice bo bl.length bcap) (sqV W H pix x y 8 vx vy) bl vx vy w h1 h2 (by rw [length_sqV]; omega) hz hv)
  rw [show costV (sqV W H pix x y 8 vx vy) bl vx vy = cstV W H pix bl x y (vx, vy) from rfl] at CC
  have hyes := @stepV_yes (cstV W H pix bl x y) s (vx, vy)
  have hno := @stepV_no (cstV W H pix bl x y) s (vx, vy)
  have HF := Lib.hid (may_frame hm hp)
  have HB := Lib.hid hb
  have BG := Lib.hid hB
  have BX := Lib.hid (Blk.new w #[.int .i64 vx, .int .i64 vy] 26)
  have lg := hB.lt
  have HY := Lib.hid hyes
  have HN := Lib.hid hno
  have BG0 := Lib.hid (hB.alloc (.cells #[.int .i64 vx, .int .i64 vy] 26))
  generalize cstV W H pix bl x y (vx, vy) = cv at *
  clear hyes hno hB hp hb hm hl hs hv hz a1 a2 b1 b2 x1 x2 y1 y2
  go_enter Tryd.func41, Tryd.ntmps41
  obtain ⟨q0, q1, q2, q3, q4, q5, -, -, -⟩ := seek_cells BG0.out
  obtain ⟨d0, d1, -, -⟩ := BX.out.two
  go_wp2
  go_region_held3 (fun w' => w'.cell? ⟨g, 0, none⟩ = some (.int .i64 W) ∧ w'.cell? ⟨g, 1, none⟩ = some (.int .i64 H) ∧ w'.cell? ⟨g, 2, none⟩ = some (.slice ao pix.length cap) ∧ w'.cell? ⟨g, 3, none⟩ = some (.slice bo bl.length bcap) ∧ w'.cell? ⟨g, 4, none⟩ = some (.int .i64 x) ∧ w'.cell? ⟨g, 5, none⟩ = some (.int .i64 y) ∧ w'.cell? ⟨w.heap.size, 0, none⟩ = some (.int .i64 vx) ∧ w'.cell? ⟨w.heap.size, 1, none⟩ = some (.int .i64 vy))
    (first | go_keep | exact ⟨(seek_cells G2.out).1, (seek_cells G2.out).2.1, (seek_cells G2.out).2.2.1, (seek_cells G2.out).2.2.2.1, (seek_cells G2.out).2.2.2.2.1, (seek_cells G2.out).2.2.2.2.2.1, X2.out.two.1, X2.out.two.2.1⟩ | exact ⟨(seek_cells G1.out).1, (seek_cells G1.out).2.1, (seek_cells G1.out).2.2.1, (seek_cells G1.out).2.2.2.1, (seek_cells G1.out).2.2.2.2.1, (seek_cells G1.out).2.2.2.2.2.1, X1.out.two.1, X1.out.two.2.1⟩)
    (first | (go_at_call 31; refine (CS.out _ ?_).mono ?_; exact HF.out.ext (by go_grown); rintro e w1 ⟨v1, rfl, hown, hb1⟩; have g1 : Below w.heap.size w w1 := ext (by go_grown) hb1; have G1 := Lib.hid (BG.out.ext g1); have jx : Below (w.alloc (.cells #[.int .i64 vx, .int .i64 vy] 26)).heap.size (w.alloc (.cells #[.int .i64 vx, .int .i64 vy] 26)) w1 := ext (by go_grown) hb1; have X1 := Lib.hid (BX.out.ext jx); have HO := Lib.hid hown.ints; clear hown) | (go_at_call 17; refine (CC.out _ _ ?_ ?_).mono ?_; exact HO.out.ext (by go_grown); exact HB.out.ext (ext g1 (by go_grown)); rintro e w2 ⟨rfl, hb2⟩; have j2 : Below w1.heap.size w1 w2 := ext (by go_grown) hb2; have G2 := Lib.hid (G1.out.ext j2); have X2 := Lib.hid (X1.out.ext j2)))
  have g2 : Below w.heap.size w w2 := ext g1 j2
  clear q0 q1 q2 q3 q4 q5 d0 d1
  obtain ⟨-, -, -, -, -, -, -, -, q8⟩ := seek_cells G2.out
  obtain ⟨d0, d1, -, -⟩ := X2.out.two
  have f6 := G2.out.free 6
  have f7 := G2.out.free 7
  have f8 := G2.out.free 8
  obtain ⟨-, -, -, -, -, -, q6, q7, -⟩ := seek_cells G2.out
  by_cases hlt : cv < s.2
  · have HR := Lib.hid (HY.out hlt)
    go_wp2
    go_returns
    refine ⟨rfl, ?_, ?_⟩
    · rw [HR.out]
      exact ((G2.out.set 6 _).set 7 _).set 8 _
    · exact grown_set (grown_set (grown_set (grown_of_below g2) _) _) _
  · have HR := Lib.hid (HN.out (by omega))
    go_wp2
    go_returns
    exact ⟨rfl, by rw [HR.out]; exact G2.out, grown_of_below g2⟩
theorem seek_set8 {w : World} {g : Nat} {W H : Int} {pv bv : Value} {x y : Int} {s : Bst} {T : Nat} (h : Blk w g (seekC W H pv bv x y s) T) (c : Int) : Blk (w.setCell ⟨g, 8, none⟩ (.int .i64 c)) g (seekC W H pv bv x y (s.1, c)) T := h.set 8 _
theorem seek_set8d {w : World} {g : Nat} {W H : Int} {pv bv : Value} {x y : Int} {s : Bst} {T : Nat} (h : Blk w g (seekC W H pv bv x y s) T) (c : Int) :
    (w.setCell ⟨g, 8, none⟩ (.int .i64 c)).drew.cell? ⟨g, 6, none⟩ = some (.int .i64 s.1.1) ∧ (w.setCell ⟨g, 8, none⟩ (.int .i64 c)).drew.cell? ⟨g, 7, none⟩ = some (.int .i64 s.1.2) := ⟨(seek_set8 h c).cell 6, (seek_set8 h c).cell 7⟩
theorem far1d {W : World} {b c o i : Nat} {x u : Value} (h : c ≠ b) (hu : W.cell? ⟨c, o, none⟩ = some u) : (W.setCell ⟨b, i, none⟩ x).drew.cell? ⟨c, o, none⟩ = some u := far1 h hu
def srchR (W H : Int) (pix b : List Int) (x y r : Int) : Int × Int := if srchE W H pix b x y r = 0 then (searchS (cstV W H pix b x y) r.toNat).1 else (0, 0)
set_option maxRecDepth 100000 in
set_option maxHeartbeats 4000000 in
theorem psearch_w0 (fv bv : Value) (W H : Int) (pix bl : List Int) (x y r : Int) (w : World) (hv : FrameV w fv W H pix) (hu : Ints w bv bl) (hb : mayB W H pix = false) :
    Calls Tryd.prog 21 #[fv, bv, .int .i64 x, .int .i64 y, .int .i64 r] w fun e w' => e = .returned (.tuple #[.agg #[.int .i64 0, .int .i64 0], errV 2]) ∧ Below w.heap.size w w' := by
  have HV := Lib.hid hv
  obtain ⟨ao, cap, rfl, hpi⟩ := hv.cells
  obtain ⟨bo, bcap, rfl⟩ := hu.shape
  have HU := Lib.hid hu
  have hll := hu.len
  have BF := Lib.hid ((Blk.new w #[.int .i64 W, .int .i64 H, .slice ao pix.length cap] 24).alloc (.cells #[.int .i64 0, .int .i64 0] 26))
  have BR := Lib.hid (Blk.new (w.alloc (.cells #[.int .i64 W, .int .i64 H, .slice ao pix.length cap] 24)) #[.int .i64 0, .int .i64 0] 26)
  simp only [World.size_alloc] at BR
  have cm := fun w hv => pmay_any (.agg #[.int .i64 W, .int .i64 H, .slice ao pix.length cap]) W H pix w hv
  rw [hb] at cm
  have CM := Lib.hid cm
  clear hv hpi hu cm hb
  go_enter Tryd.func21, Tryd.ntmps21
  go_wp2
  go_step3
  go_wp2_with fail
  refine (CM.out _ (HV.out.ext (by go_grown))).mono ?_
  rintro e w1 ⟨rfl, hb1⟩
  have g1 : Below w.heap.size w w1 := ext (by go_grown) hb1
  have F1 := Lib.hid (BF.out.ext hb1)
  have R1 := Lib.hid (BR.out.ext hb1)
  have l1 := R1.out.lt
  obtain ⟨r0, r1, r2, r3⟩ := R1.out.two
  have lr := R1.out.lt
  go_wp2
  rw [Exit.noGoto_ret]
  refine bodyPost_ret (by simp [results, Tryd.results21, go_sem, r0, r1, r2, r3]; try rfl) rfl ?_
  exact ⟨rfl, by go_grown⟩
set_option maxRecDepth 100000 in
set_option maxHeartbeats 4000000 in
theorem psearch_w1 (fv bv : Value) (W H : Int) (pix bl : List Int) (x y r : Int) (w : World) (hv : FrameV w fv W H pix) (hu : Ints w bv bl) (hb : mayB W H pix = true) (k0 : r < 0) :
    Calls Tryd.prog 21 #[fv, bv, .int .i64 x, .int .i64 y, .int .i64 r] w fun e w' => e = .returned (.tuple #[.agg #[.int .i64 0, .int .i64 0], errV 3]) ∧ Below w.heap.size w w' := by
  have HV := Lib.hid hv
  obtain ⟨ao, cap, rfl, hpi⟩ := hv.cells
  obtain ⟨bo, bcap, rfl⟩ := hu.shape
  have HU := Lib.hid hu
  have hll := hu.len
  have BF := Lib.hid ((Blk.new w #[.int .i64 W, .int .i64 H, .slice ao pix.length cap] 24).alloc (.cells #[.int .i64 0, .int .i64 0] 26))
  have BR := Lib.hid (Blk.new (w.alloc (.cells #[.int .i64 W, .int .i64 H, .slice ao pix.length cap] 24)) #[.int .i64 0, .int .i64 0] 26)
  simp only [World.size_alloc] at BR
  have cm := fun w hv => pmay_any (.agg #[.int .i64 W, .int .i64 H, .slice ao pix.length cap]) W H pix w hv
  rw [hb] at cm
  have CM := Lib.hid cm
  clear hv hpi hu cm hb
  go_enter Tryd.func21, Tryd.ntmps21
  go_wp2
  go_step3
  go_wp2_with fail
  refine (CM.out _ (HV.out.ext (by go_grown))).mono ?_
  rintro e w1 ⟨rfl, hb1⟩
  have g1 : Below w.heap.size w w1 := ext (by go_grown) hb1
  have F1 := Lib.hid (BF.out.ext hb1)
  have R1 := Lib.hid (BR.out.ext hb1)
  have l1 := R1.out.lt
  obtain ⟨r0, r1, r2, r3⟩ := R1.out.two
  have lr := R1.out.lt
  go_wp2
  rw [Exit.noGoto_ret]
  refine bodyPost_ret (by simp [results, Tryd.results21, go_sem, r0, r1, r2, r3]; try rfl) rfl ?_
  exact ⟨rfl, by go_grown⟩
set_option maxRecDepth 100000 in
set_option maxHeartbeats 4000000 in
theorem psearch_w2 (fv bv : Value) (W H : Int) (pix bl : List Int) (x y r : Int) (w : World) (hv : FrameV w fv W H pix) (hu : Ints w bv bl) (hb : mayB W H pix = true) (k0 : ¬ r < 0) (k1 : 7 < r) :
    Calls Tryd.prog 21 #[fv, bv, .int .i64 x, .int .i64 y, .int .i64 r] w fun e w' => e = .returned (.tuple #[.agg #[.int .i64 0, .int .i64 0], errV 3]) ∧ Below w.heap.size w w' := by
  have HV := Lib.hid hv
  obtain ⟨ao, cap, rfl, hpi⟩ := hv.cells
  obtain ⟨bo, bcap, rfl⟩ := hu.shape
  have HU := Lib.hid hu
  have hll := hu.len
  have BF := Lib.hid ((Blk.new w #[.int .i64 W, .int .i64 H, .slice ao pix.length cap] 24).alloc (.cells #[.int .i64 0, .int .i64 0] 26))
  have BR := Lib.hid (Blk.new (w.alloc (.cells #[.int .i64 W, .int .i64 H, .slice ao pix.length cap] 24)) #[.int .i64 0, .int .i64 0] 26)
  simp only [World.size_alloc] at BR
  have cm := fun w hv => pmay_any (.agg #[.int .i64 W, .int .i64 H, .slice ao pix.length cap]) W H pix w hv
  rw [hb] at cm
  have CM := Lib.hid cm
  clear hv hpi hu cm hb
  go_enter Tryd.func21, Tryd.ntmps21
  go_wp2
  go_step3
  go_wp2_with fail
  refine (CM.out _ (HV.out.ext (by go_grown))).mono ?_
  rintro e w1 ⟨rfl, hb1⟩
  have g1 : Below w.heap.size w w1 := ext (by go_grown) hb1
  have F1 := Lib.hid (BF.out.ext hb1)
  have R1 := Lib.hid (BR.out.ext hb1)
  have l1 := R1.out.lt
  obtain ⟨r0, r1, r2, r3⟩ := R1.out.two
  have lr := R1.out.lt
  go_wp2
  rw [Exit.noGoto_ret]
  refine bodyPost_ret (by simp [results, Tryd.results21, go_sem, r0, r1, r2, r3]; try rfl) rfl ?_
  exact ⟨rfl, by go_grown⟩
set_option maxRecDepth 100000 in
set_option maxHeartbeats 4000000 in
theorem psearch_w3 (fv bv : Value) (W H : Int) (pix bl : List Int) (x y r : Int) (w : World) (hv : FrameV w fv W H pix) (hu : Ints w bv bl) (hb : mayB W H pix = true) (k0 : ¬ r < 0) (k1 : ¬ 7 < r) (k2 : inB W H x y 8 = false) :
    Calls Tryd.prog 21 #[fv, bv, .int .i64 x, .int .i64 y, .int .i64 r] w fun e w' => e = .returned (.tuple #[.agg #[.int .i64 0, .int .i64 0], errV 3]) ∧ Below w.heap.size w w' := by
  have HV := Lib.hid hv
  obtain ⟨ao, cap, rfl, hpi⟩ := hv.cells
  obtain ⟨bo, bcap, rfl⟩ := hu.shape
  have HU := Lib.hid hu
  have hll := hu.len
  have BF := Lib.hid ((Blk.new w #[.int .i64 W, .int .i64 H, .slice ao pix.length cap] 24).alloc (.cells #[.int .i64 0, .int .i64 0] 26))
  have BR := Lib.hid (Blk.new (w.alloc (.cells #[.int .i64 W, .int .i64 H, .slice ao pix.length cap] 24)) #[.int .i64 0, .int .i64 0] 26)
  simp only [World.size_alloc] at BR
  have cm := fun w hv => pmay_any (.agg #[.int .i64 W, .int .i64 H, .slice ao pix.length cap]) W H pix w hv
  rw [hb] at cm
  have CM := Lib.hid cm
  have hm := mayB_iff.1 hb
  have ci := fun w hv => pin_any (.agg #[.int .i64 W, .int .i64 H, .slice ao pix.length cap]) W H pix x y 8 w hv (by have := hm.w; omega) (by have := hm.h; omega) (by omega)
  rw [k2] at ci
  have CI := Lib.hid ci
  clear ci hm k2
  clear hv hpi hu cm hb
  go_enter Tryd.func21, Tryd.ntmps21
  go_wp2
  go_step3
  go_wp2_with fail
  refine (CM.out _ (HV.out.ext (by go_grown))).mono ?_
  rintro e w1 ⟨rfl, hb1⟩
  have g1 : Below w.heap.size w w1 := ext (by go_grown) hb1
  have F1 := Lib.hid (BF.out.ext hb1)
  have R1 := Lib.hid (BR.out.ext hb1)
  have l1 := R1.out.lt
  obtain ⟨c0, c1, c2, -, -, -⟩ := F1.out.three
  go_wp2_with fail
  clear c0 c1 c2
  refine (CI.out _ (HV.out.ext g1)).mono ?_
  rintro e w2 ⟨rfl, hb2⟩
  have g2 : Below w.heap.size w w2 := ext g1 hb2
  have F2 := Lib.hid (F1.out.ext hb2)
  have R2 := Lib.hid (R1.out.ext hb2)
  have l2 := R2.out.lt
  clear F1 R1
  obtain ⟨r0, r1, r2, r3⟩ := R2.out.two
  have lr := R2.out.lt
  go_wp2
  rw [Exit.noGoto_ret]
  refine bodyPost_ret (by simp [results, Tryd.results21, go_sem, r0, r1, r2, r3]; try rfl) rfl ?_
  exact ⟨rfl, by go_grown⟩
set_option maxRecDepth 100000 in
set_option maxHeartbeats 4000000 in
theorem psearch_w4 (fv bv : Value) (W H : Int) (pix bl : List Int) (x y r : Int) (w : World) (hv : FrameV w fv W H pix) (hu : Ints w bv bl) (hb : mayB W H pix = true) (k0 : ¬ r < 0) (k1 : ¬ 7 < r) (k2 : inB W H x y 8 = true) (k3 : bl.length ≠ 64) :
    Calls Tryd.prog 21 #[fv, bv, .int .i64 x, .int .i64 y, .int .i64 r] w fun e w' => e = .returned (.tuple #[.agg #[.int .i64 0, .int .i64 0], errV 14]) ∧ Below w.heap.size w w' := by
  have HV := Lib.hid hv
  obtain ⟨ao, cap, rfl, hpi⟩ := hv.cells
  obtain ⟨bo, bcap, rfl⟩ := hu.shape
  have HU := Lib.hid hu
  have hll := hu.len
  have BF := Lib.hid ((Blk.new w #[.int .i64 W, .int .i64 H, .slice ao pix.length cap] 24).alloc (.cells #[.int .i64 0, .int .i64 0] 26))
  have BR := Lib.hid (Blk.new (w.alloc (.cells #[.int .i64 W, .int .i64 H, .slice ao pix.length cap] 24)) #[.int .i64 0, .int .i64 0] 26)
  simp only [World.size_alloc] at BR
  have cm := fun w hv => pmay_any (.agg #[.int .i64 W, .int .i64 H, .slice ao pix.length cap]) W H pix w hv
  rw [hb] at cm
  have CM := Lib.hid cm
  have hm := mayB_iff.1 hb
  have ci := fun w hv => pin_any (.agg #[.int .i64 W, .int .i64 H, .slice ao pix.length cap]) W H pix x y 8 w hv (by have := hm.w; omega) (by have := hm.h; omega) (by omega)
  rw [k2] at ci
  have CI := Lib.hid ci
  clear ci hm k2
  have ql : ((bl.length : Int) != 64) = true := by simp; omega
  clear k3
  clear hv hpi hu cm hb
  go_enter Tryd.func21, Tryd.ntmps21
  go_wp2
  go_step3
  go_wp2_with fail
  refine (CM.out _ (HV.out.ext (by go_grown))).mono ?_
  rintro e w1 ⟨rfl, hb1⟩
  have g1 : Below w.heap.size w w1 := ext (by go_grown) hb1
  have F1 := Lib.hid (BF.out.ext hb1)
  have R1 := Lib.hid (BR.out.ext hb1)
  have l1 := R1.out.lt
  obtain ⟨c0, c1, c2, -, -, -⟩ := F1.out.three
  go_wp2_with fail
  clear c0 c1 c2
  refine (CI.out _ (HV.out.ext g1)).mono ?_
  rintro e w2 ⟨rfl, hb2⟩
  have g2 : Below w.heap.size w w2 := ext g1 hb2
  have F2 := Lib.hid (F1.out.ext hb2)
  have R2 := Lib.hid (R1.out.ext hb2)
  have l2 := R2.out.lt
  clear F1 R1
  obtain ⟨r0, r1, r2, r3⟩ := R2.out.two
  have lr := R2.out.lt
  go_wp2
  rw [Exit.noGoto_ret]
  refine bodyPost_ret (by simp [results, Tryd.results21, go_sem, r0, r1, r2, r3]; try rfl) rfl ?_
  exact ⟨rfl, by go_grown⟩
set_option maxRecDepth 100000 in
set_option maxHeartbeats 4000000 in
theorem psearch_w5 (fv bv : Value) (W H : Int) (pix bl : List Int) (x y r : Int) (w : World) (hv : FrameV w fv W H pix) (hu : Ints w bv bl) (hb : mayB W H pix = true) (k0 : ¬ r < 0) (k1 : ¬ 7 < r) (k2 : inB W H x y 8 = true) (k3 : bl.length = 64) (k4 : withinB bl 0 255 = false) :
    Calls Tryd.prog 21 #[fv, bv, .int .i64 x, .int .i64 y, .int .i64 r] w fun e w' => e = .returned (.tuple #[.agg #[.int .i64 0, .int .i64 0], errV 3]) ∧ Below w.heap.size w w' := by
  have HV := Lib.hid hv
  obtain ⟨ao, cap, rfl, hpi⟩ := hv.cells
  obtain ⟨bo, bcap, rfl⟩ := hu.shape
  have HU := Lib.hid hu
  have hll := hu.len
  have BF := Lib.hid ((Blk.new w #[.int .i64 W, .int .i64 H, .slice ao pix.length cap] 24).alloc (.cells #[.int .i64 0, .int .i64 0] 26))
  have BR := Lib.hid (Blk.new (w.alloc (.cells #[.int .i64 W, .int .i64 H, .slice ao pix.length cap] 24)) #[.int .i64 0, .int .i64 0] 26)
  simp only [World.size_alloc] at BR
  have cm := fun w hv => pmay_any (.agg #[.int .i64 W, .int .i64 H, .slice ao pix.length cap]) W H pix w hv
  rw [hb] at cm
  have CM := Lib.hid cm
  have hm := mayB_iff.1 hb
  have ci := fun w hv => pin_any (.agg #[.int .i64 W, .int .i64 H, .slice ao pix.length cap]) W H pix x y 8 w hv (by have := hm.w; omega) (by have := hm.h; omega) (by omega)
  rw [k2] at ci
  have CI := Lib.hid ci
  clear ci hm k2
  have ql : ((bl.length : Int) != 64) = false := by simp; omega
  have cs := fun w h => psamples_any (.slice bo bl.length bcap) bl w h
  rw [k4] at cs
  have CS := Lib.hid cs
  clear k3 k4 cs
  clear hv hpi hu cm hb
  go_enter Tryd.func21, Tryd.ntmps21
  go_wp2
  go_step3
  go_wp2_with fail
  refine (CM.out _ (HV.out.ext (by go_grown))).mono ?_
  rintro e w1 ⟨rfl, hb1⟩
  have g1 : Below w.heap.size w w1 := ext (by go_grown) hb1
  have F1 := Lib.hid (BF.out.ext hb1)
  have R1 := Lib.hid (BR.out.ext hb1)
  have l1 := R1.out.lt
  obtain ⟨c0, c1, c2, -, -, -⟩ := F1.out.three
  go_wp2_with fail
  clear c0 c1 c2
  refine (CI.out _ (HV.out.ext g1)).mono ?_
  rintro e w2 ⟨rfl, hb2⟩
  have g2 : Below w.heap.size w w2 := ext g1 hb2
  have F2 := Lib.hid (F1.out.ext hb2)
  have R2 := Lib.hid (R1.out.ext hb2)
  have l2 := R2.out.lt
  clear F1 R1
  go_wp2_with fail
  refine (CS.out _ (HU.out.ext g2)).mono ?_
  rintro e w3 ⟨rfl, rfl⟩
  obtain ⟨r0, r1, r2, r3⟩ := R2.out.two
  have lr := R2.out.lt
  go_wp2
  rw [Exit.noGoto_ret]
  refine bodyPost_ret (by simp [results, Tryd.results21, go_sem, r0, r1, r2, r3]; try rfl) rfl ?_
  exact ⟨rfl, by go_grown⟩
theorem keep5 {w : World} {N g : Nat} {W H : Int} {pv bv pv2 : Value} {x y : Int} {s : Bst} {T T2 : Nat} {c : Int} (hne : N ≠ g) (hF : Blk w N #[.int .i64 W, .int .i64 H, pv2] T2) (hG : Blk w g (seekC W H pv bv x y s) T) :
    (w.setCell ⟨g, 8, none⟩ (.int .i64 c)).cell? ⟨N, 0, none⟩ = some (.int .i64 W) ∧ (w.setCell ⟨g, 8, none⟩ (.int .i64 c)).cell? ⟨N, 1, none⟩ = some (.int .i64 H) ∧ (w.setCell ⟨g, 8, none⟩ (.int .i64 c)).cell? ⟨N, 2, none⟩ = some pv2 ∧
    (w.setCell ⟨g, 8, none⟩ (.int .i64 c)).cell? ⟨g, 6, none⟩ = some (.int .i64 s.1.1) ∧ (w.setCell ⟨g, 8, none⟩ (.int .i64 c)).cell? ⟨g, 7, none⟩ = some (.int .i64 s.1.2) :=
  ⟨far1 hne hF.three.1, far1 hne hF.three.2.1, far1 hne hF.three.2.2.1, (seek_set8 hG c).cell 6, (seek_set8 hG c).cell 7⟩
theorem inB_iff2 {W H x y n : Int} : inB W H x y n = true ↔ 0 ≤ x ∧ 0 ≤ y ∧ x ≤ W - n ∧ y ≤ H - n := by
  unfold inB; simp only [Bool.and_eq_true, decide_eq_true_eq]
set_option maxRecDepth 100000 in
set_option maxHeartbeats 16000000 in
theorem psearch_ok (fv bv : Value) (W H : Int) (pix bl : List Int) (x y : Int) (r : Nat) (w : World) (hv : FrameV w fv W H pix) (hu : Ints w bv bl) (hm : May W H pix) (hr : r ≤ 7) (hi : inB W H x y 8 = true) (hl : bl.length = 64) (hs : withinB bl 0 255 = true) :
    Calls Tryd.prog 21 #[fv, bv, .int .i64 x, .int .i64 y, .int .i64 r] w fun e w' => e = .returned (.tuple #[.agg #[.int .i64 (searchS (cstV W H pix bl x y) r).1.1, .int .i64 (searchS (cstV W H pix bl x y) r).1.2], .nilIface]) ∧ Below w.heap.size w w' := by
  have hb := mayB_iff.2 hm
  have HV := Lib.hid hv
  obtain ⟨ao, cap, rfl, hpi⟩ := hv.cells
  obtain ⟨bo, bcap, rfl⟩ := hu.shape
  have HU := Lib.hid hu
  have hll := hu.len
  have BF := Lib.hid ((Blk.new w #[.int .i64 W, .int .i64 H, .slice ao pix.length cap] 24).alloc (.cells #[.int .i64 0, .int .i64 0] 26))
  have BR := Lib.hid (Blk.new (w.alloc (.cells #[.int .i64 W, .int .i64 H, .slice ao pix.length cap] 24)) #[.int .i64 0, .int .i64 0] 26)
  simp only [World.size_alloc] at BR
  have cm := fun w hv => pmay_any (.agg #[.int .i64 W, .int .i64 H, .slice ao pix.length cap]) W H pix w hv
  rw [hb] at cm
  have CM := Lib.hid cm
  have HP := Lib.hid hpi
  have ci := fun w hv => pin_any (.agg #[.int .i64 W, .int .i64 H, .slice ao pix.length cap]) W H pix x y 8 w hv (by have := hm.w; omega) (by have := hm.h; omega) (by omega)
  rw [hi] at ci
  have CI := Lib.hid ci
  have cs := fun w h => psamples_any (.slice bo bl.length bcap) bl w h
  rw [hs] at cs
  have CS := Lib.hid cs
  obtain ⟨x1, y1, x3, y3⟩ := inB_iff2.1 hi
  have x2 : x ≤ 32 := by have := hm.w; omega
  have y2 : y ≤ 32 := by have := hm.h; omega
  have TRY := Lib.hid (fun (g : Nat) (s : Bst) (vx vy : Int) w hB hp hb hv => try_any W H pix bl ao bo cap bcap x y s vx vy g w hB hp hb hm hl hs x1 x2 y1 y2 hv)
  have CQ := Lib.hid (fun w hv => psquare_any (.agg #[.int .i64 W, .int .i64 H, .slice ao pix.length cap]) W H pix x y 8 0 0 w hv hm (by omega) (by omega) x1 x2 y1 y2 (by omega) (by omega) (by omega) (by omega))
  have CC := Lib.hid (fun v w h1 h2 => pcost_ok v (.slice bo bl.length bcap) (sqV W H pix x y 8 0 0) bl 0 0 w h1 h2 (by rw [length_sqV]; omega) (both_sq hm hl hs x y 0 0) (by decide))
  rw [show costV (sqV W H pix x y 8 0 0) bl 0 0 = cstV W H pix bl x y (0, 0) from rfl] at CC
  have PV := Lib.hid (fun vx vy w => pvec_any vx vy w)
  have HC0 := Lib.hid (fun v => cstV_nonneg W H pix bl x y v)
  generalize cstV W H pix bl x y = c at *
  have k0 : ¬ (r : Int) < 0 := by omega
  have k1 : ¬ 7 < (r : Int) := by omega
  have ql : ((bl.length : Int) != 64) = false := by simp; omega
  clear hv hpi hu cm hb ci cs hm hi hl hs x1 x2 y1 y2 x3 y3
  go_enter Tryd.func21, Tryd.ntmps21
  go_wp2
  go_step3
  go_wp2_with fail
  refine (CM.out _ (HV.out.ext (by go_grown))).mono ?_
  rintro e w1 ⟨rfl, hb1⟩
  have g1 : Below w.heap.size w w1 := ext (by go_grown) hb1
  have F1 := Lib.hid (BF.out.ext hb1)
  have R1 := Lib.hid (BR.out.ext hb1)
  have l1 := R1.out.lt
  obtain ⟨c0, c1, c2, -, -, -⟩ := F1.out.three
  go_wp2_with fail
  clear c0 c1 c2
  refine (CI.out _ (HV.out.ext g1)).mono ?_
  rintro e w2 ⟨rfl, hb2⟩
  have g2 : Below w.heap.size w w2 := ext g1 hb2
  have F2 := Lib.hid (F1.out.ext hb2)
  have R2 := Lib.hid (R1.out.ext hb2)
  have l2 := R2.out.lt
  clear F1 R1
  go_wp2_with fail
  refine (CS.out _ (HU.out.ext g2)).mono ?_
  rintro e w3 ⟨rfl, rfl⟩
  clear ql k0 k1
  have G0 := Lib.hid (show Blk (w2.alloc (.cells #[.int .i64 W, .int .i64 H, .slice ao pix.length cap, .slice bo bl.length bcap, .int .i64 x, .int .i64 y, .int .i64 0, .int .i64 0, .int .i64 0] 72)) w2.heap.size (seekC W H (.slice ao pix.length cap) (.slice bo bl.length bcap) x y ((0, 0), 0)) 72 from Blk.new _ _ _)
  have F3 := Lib.hid (F2.out.alloc (.cells #[.int .i64 W, .int .i64 H, .slice ao pix.length cap, .slice bo bl.length bcap, .int .i64 x, .int .i64 y, .int .i64 0, .int .i64 0, .int .i64 0] 72))
  have R3 := Lib.hid (R2.out.alloc (.cells #[.int .i64 W, .int .i64 H, .slice ao pix.length cap, .slice bo bl.length bcap, .int .i64 x, .int .i64 y, .int .i64 0, .int .i64 0, .int .i64 0] 72))
  have n1 : w.heap.size ≠ w2.heap.size := by omega
  have n2 : w.heap.size + 1 ≠ w2.heap.size := by omega
  have n3 : ¬ w2.heap.size = w.heap.size := by omega
  have t2 := g2.size
  have g3 : Below w.heap.size w (w2.alloc (.cells #[.int .i64 W, .int .i64 H, .slice ao pix.length cap, .slice bo bl.length bcap, .int .i64 x, .int .i64 y, .int .i64 0, .int .i64 0, .int .i64 0] 72)) := g2.alloc t2 _
  obtain ⟨c0, c1, c2, -, -, -⟩ := F2.out.three
  go_wp2
  clear c0 c1 c2
  obtain ⟨c0, c1, c2, -, -, -⟩ := F3.out.three
  obtain ⟨-, -, -, -, -, -, q6, q7, q8⟩ := seek_cells G0.out
  have f8 := G0.out.free 8
  have lg := G0.out.lt
  go_region_held3 (fun w' => w'.cell? ⟨w.heap.size, 0, none⟩ = some (.int .i64 W) ∧ w'.cell? ⟨w.heap.size, 1, none⟩ = some (.int .i64 H) ∧ w'.cell? ⟨w.heap.size, 2, none⟩ = some (.slice ao pix.length cap) ∧ w'.cell? ⟨w2.heap.size, 6, none⟩ = some (.int .i64 0) ∧ w'.cell? ⟨w2.heap.size, 7, none⟩ = some (.int .i64 0))
    (first | exact K5 | exact ⟨F5.out.three.1, F5.out.three.2.1, F5.out.three.2.2.1, (seek_cells G5.out).2.2.2.2.2.2.1, (seek_cells G5.out).2.2.2.2.2.2.2.1⟩ | exact ⟨F4.out.three.1, F4.out.three.2.1, F4.out.three.2.2.1, (seek_cells G4.out).2.2.2.2.2.2.1, (seek_cells G4.out).2.2.2.2.2.2.2.1⟩ | go_keep)
    (first | (go_at_call 31; refine (CQ.out _ ?_).mono ?_; exact HV.out.ext (ext g3 (by go_grown)); rintro e w4 ⟨v4, rfl, hown, hb4⟩; have j4 : Below (w2.alloc (.cells #[.int .i64 W, .int .i64 H, .slice ao pix.length cap, .slice bo bl.length bcap, .int .i64 x, .int .i64 y, .int .i64 0, .int .i64 0, .int .i64 0] 72)).heap.size (w2.alloc (.cells #[.int .i64 W, .int .i64 H, .slice ao pix.length cap, .slice bo bl.length bcap, .int .i64 x, .int .i64 y, .int .i64 0, .int .i64 0, .int .i64 0] 72)) w4 := ext (by go_grown) hb4; have g4 := ext g3 j4; have G4 := Lib.hid (G0.out.ext j4); have F4 := Lib.hid (F3.out.ext j4); have R4 := Lib.hid (R3.out.ext j4); have HO := Lib.hid hown.ints; clear hown) | (go_at_call 17; refine (CC.out _ _ ?_ ?_).mono ?_; exact HO.out.ext (by go_grown); exact HU.out.ext (ext g4 (by go_grown)); rintro e w5 ⟨rfl, hb5⟩; have j5 : Below w4.heap.size w4 w5 := ext (by go_grown) hb5; have G5 := Lib.hid (G4.out.ext j5); have F5 := Lib.hid (F4.out.ext j5); have R5 := Lib.hid (R4.out.ext j5); have f8b := G5.out.free 8; have c8b := (seek_cells G5.out).2.2.2.2.2.2.2.2; have K5 := keep5 (c := c (0, 0)) n1 F5.out G5.out))
  have g5 : Below w.heap.size w w5 := ext g4 j5
  have SG := Lib.hid (show Blk (w5.setCell ⟨w2.heap.size, 8, none⟩ (.int .i64 (c (0, 0)))) w2.heap.size (seekC W H (.slice ao pix.length cap) (.slice bo bl.length bcap) x y (firstS c)) 72 from seek_set8 G5.out (c (0, 0)))
  have SF := Lib.hid (F5.out.setOther ⟨w2.heap.size, 8, none⟩ (.int .i64 (c (0, 0))) n1)
  have SR := Lib.hid (R5.out.setOther ⟨w2.heap.size, 8, none⟩ (.int .i64 (c (0, 0))) n2)
  have gS : Below w.heap.size w (w5.setCell ⟨w2.heap.size, 8, none⟩ (.int .i64 (c (0, 0)))) := g5.setCell (by show w.heap.size ≤ w2.heap.size; exact t2) _
  clear c0 c1 c2 q6 q7 q8 f8 f8b c8b G0 F3 R3 G4 F4 R4 G5 F5 R5 j4 j5 g3 g4 HO F2 R2 lg
  go_wp2
  go_step3
  go_wp2
  go_loopw [13] (fun j wx => ∃ (k : Nat) (jv : Int), k ≤ 2 * r + 1 ∧ jv = (k : Int) - r ∧ j = .int .i64 jv ∧ Blk wx w2.heap.size (seekC W H (.slice ao pix.length cap) (.slice bo bl.length bcap) x y (scanTo c (wholeF r) (firstS c) (k * (2 * r + 1)))) 72 ∧ Below w.heap.size w wx ∧ Blk wx w.heap.size #[.int .i64 W, .int .i64 H, .slice ao pix.length cap] 24 ∧ Blk wx (w.heap.size + 1) #[.int .i64 0, .int .i64 0] 26) (fun j _ => 2 * r + 1 - (intOf j + r).toNat)
  case atStart => exact ⟨0, _, by omega, by omega, rfl, by rw [Nat.zero_mul]; exact SG.out, gS, SF.out, SR.out⟩
  case round =>
    clear SG SF SR gS
    obtain ⟨k, jv, hk, hjv, rfl, hG, hbr, hF, hR⟩ := hrel
    obtain ⟨wo, rfl⟩ : ∃ wo : World, wo = wr := ⟨_, rfl⟩
    have OG := Lib.hid hG
    have OF := Lib.hid hF
    have OR := Lib.hid hR
    have HJV := Lib.hid hjv
    have jv1 : -7 ≤ jv := by omega
    have jv2 : jv ≤ 8 := by omega
    have hbo := hbr
    clear hG hF hR hbr
    by_cases hjl : jv ≤ (r : Int)
    · have hk2 : k < 2 * r + 1 := by omega
      clear hjv
      have OG0 := Lib.hid (show Blk wo w2.heap.size (seekC W H (.slice ao pix.length cap) (.slice bo bl.length bcap) x y (scanTo c (wholeF r) (firstS c) (k * (2 * r + 1) + 0))) 72 from OG.out)
      go_wp2
      go_loopw [14] (fun i wx => ∃ (p : Nat) (iv : Int), p ≤ 2 * r + 1 ∧ iv = (p : Int) - r ∧ i = .int .i64 iv ∧ Blk wx w2.heap.size (seekC W H (.slice ao pix.length cap) (.slice bo bl.length bcap) x y (scanTo c (wholeF r) (firstS c) (k * (2 * r + 1) + p))) 72 ∧ Below w.heap.size w wx ∧ Blk wx w.heap.size #[.int .i64 W, .int .i64 H, .slice ao pix.length cap] 24 ∧ Blk wx (w.heap.size + 1) #[.int .i64 0, .int .i64 0] 26) (fun i _ => 2 * r + 1 - (intOf i + r).toNat)
      case atStart => exact ⟨0, _, by omega, by omega, rfl, OG0.out, hbo, OF.out, OR.out⟩
      case round =>
        clear OG OG0 OF OR hbo
        obtain ⟨p, iv, hp, hiv, rfl, hG, hbr, hF, hR⟩ := hrel
        have iv1 : -7 ≤ iv := by omega
        have iv2 : iv ≤ 8 := by omega
        have tr := hbr.size
        have lG := hG.lt
        by_cases hil : iv ≤ (r : Int)
        · have hp2 : p < 2 * r + 1 := by omega
          have hwf : wholeF r (k * (2 * r + 1) + p) = (2 * iv, 2 * jv) := by
            have hmm := mulmod (n := 2 * r + 1) (j := k) (i := p) hp2
            have hj := HJV.out
            unfold wholeF
            rw [hmm.1, hmm.2]
            exact Prod.ext (by simp only; omega) (by simp only; omega)
          have hst : scanTo c (wholeF r) (firstS c) (k * (2 * r + 1) + (p + 1)) = stepV c (scanTo c (wholeF r) (firstS c) (k * (2 * r + 1) + p)) (2 * iv, 2 * jv) := by
            rw [← hwf]; rfl
          have hall := fun (h : (scanTo c (wholeF r) (firstS c) (k * (2 * r + 1) + p)).2 = 0) => (show wholeS c r = scanTo c (wholeF r) (firstS c) (k * (2 * r + 1) + p) from scanTo_zero HC0.out h _ (Nat.le_of_lt (Nat.lt_of_lt_of_le (Nat.add_lt_add_left hp2 _) (by rw [← Nat.succ_mul]; exact Nat.mul_le_mul_right _ hk2))))
          have hvec : vecB (2 * iv) (2 * jv) = true := vecB_of (by omega)
          have HIV := Lib.hid hiv
          clear hiv hwf
          generalize scanTo c (wholeF r) (firstS c) (k * (2 * r + 1) + p) = st at *
          have HST := Lib.hid hst
          have HVE := Lib.hid hvec
          have HALL := Lib.hid hall
          have XG := Lib.hid hG
          have XF := Lib.hid hF
          have XR := Lib.hid hR
          clear hst hvec hall hG hF hR
          obtain ⟨-, -, -, -, -, -, -, -, q8⟩ := seek_cells XG.out
          by_cases hz : st.2 = 0
          · have hz1 : (st.2 == 0) = true := by simp [hz]
            have hfin := HALL.out hz
            have TG := Lib.hid (show Blk wr w2.heap.size (seekC W H (.slice ao pix.length cap) (.slice bo bl.length bcap) x y (wholeS c r)) 72 from by rw [hfin]; exact XG.out)
            have TF := XF
            have TR := XR
            have hbt := hbr
            have HZ := Lib.hid hz
            clear hfin XG XF XR hbr hz HALL HST
            have hfair := (wholeS_fair c hr).2
            obtain ⟨⟨m1, m2⟩, m3, m4⟩ := vecB_iff.1 hfair
            have HSS := Lib.hid (show searchS c r = scanM c (nearF (wholeS c r).1) (wholeS c r) 9 from rfl)
            generalize wholeS c r = sw at *
            clear hfair
            obtain ⟨wz, hwz⟩ : ∃ wz : World, wz = wr := ⟨_, rfl⟩
            obtain ⟨-, -, -, -, -, -, q6, q7, -⟩ := seek_cells TG.out
            have lG := TG.out.lt
            have VM := Lib.hid (Blk.new wr #[.int .i64 sw.1.1, .int .i64 sw.1.2] 26)
            have VG := Lib.hid (TG.out.alloc (.cells #[.int .i64 sw.1.1, .int .i64 sw.1.2] 26))
            have VF := Lib.hid (TF.out.alloc (.cells #[.int .i64 sw.1.1, .int .i64 sw.1.2] 26))
            have VR := Lib.hid (TR.out.alloc (.cells #[.int .i64 sw.1.1, .int .i64 sw.1.2] 26))
            have tz := hbt.size
            have gz : Below w.heap.size w (wr.alloc (.cells #[.int .i64 sw.1.1, .int .i64 sw.1.2] 26)) := hbt.alloc tz _
            subst hwz
            clear TG TF TR
            go_wp2
            clear q6 q7
            go_loopw [16] (fun d wx => ∃ (q : Nat) (dv : Int), q ≤ 3 ∧ dv = (q : Int) - 1 ∧ d = .int .i64 dv ∧ Blk wx w2.heap.size (seekC W H (.slice ao pix.length cap) (.slice bo bl.length bcap) x y (scanM c (nearF sw.1) sw (q * 3))) 72 ∧ Below w.heap.size w wx ∧ Blk wx w.heap.size #[.int .i64 W, .int .i64 H, .slice ao pix.length cap] 24 ∧ Blk wx (w.heap.size + 1) #[.int .i64 0, .int .i64 0] 26 ∧ Blk wx wz.heap.size #[.int .i64 sw.1.1, .int .i64 sw.1.2] 26) (fun d _ => 3 - (intOf d + 1).toNat)
            case atStart => exact ⟨0, -1, by omega, by omega, rfl, VG.out, gz, VF.out, VR.out, VM.out⟩
            case round =>
              clear VG VF VR VM gz
              obtain ⟨q, dv, hq, hdv, rfl, hG, hby, hF, hR, hM⟩ := hrel
              obtain ⟨wy, rfl⟩ : ∃ wy : World, wy = wr := ⟨_, rfl⟩
              have YG := Lib.hid hG
              have YF := Lib.hid hF
              have YR := Lib.hid hR
              have YM := Lib.hid hM
              have HDV := Lib.hid hdv
              have dv1 : -1 ≤ dv := by omega
              have dv2 : dv ≤ 2 := by omega
              clear hG hF hR hM
              by_cases hdl : dv ≤ 1
              · have hq3 : q < 3 := by omega
                clear hdv
                have YG0 := Lib.hid (show Blk wy w2.heap.size (seekC W H (.slice ao pix.length cap) (.slice bo bl.length bcap) x y (scanM c (nearF sw.1) sw (q * 3 + 0))) 72 from YG.out)
                go_wp2
                go_loopw [17] (fun d wx => ∃ (p : Nat) (ev : Int), p ≤ 3 ∧ ev = (p : Int) - 1 ∧ d = .int .i64 ev ∧ Blk wx w2.heap.size (seekC W H (.slice ao pix.length cap) (.slice bo bl.length bcap) x y (scanM c (nearF sw.1) sw (q * 3 + p))) 72 ∧ Below w.heap.size w wx ∧ Blk wx w.heap.size #[.int .i64 W, .int .i64 H, .slice ao pix.length cap] 24 ∧ Blk wx (w.heap.size + 1) #[.int .i64 0, .int .i64 0] 26 ∧ Blk wx wz.heap.size #[.int .i64 sw.1.1, .int .i64 sw.1.2] 26) (fun d _ => 3 - (intOf d + 1).toNat)
                case atStart => exact ⟨0, -1, by omega, by omega, rfl, YG0.out, hby, YF.out, YR.out, YM.out⟩
                case round =>
                  clear YG YG0 YF YR YM hby
                  obtain ⟨p, ev, hp, hev, rfl, hG, hbx, hF, hR, hM⟩ := hrel
                  have XG := Lib.hid hG
                  have XF := Lib.hid hF
                  have XR := Lib.hid hR
                  have XM := Lib.hid hM
                  have lM := hM.lt
                  have lG2 := hG.lt
                  have ev1 : -1 ≤ ev := by omega
                  have ev2 : ev ≤ 2 := by omega
                  have tx := hbx.size
                  clear hG hF hR hM
                  by_cases hel : ev ≤ 1
                  · have hp3 : p < 3 := by omega
                    have hnf : nearF sw.1 (q * 3 + p) = (sw.1.1 + ev, sw.1.2 + dv) := by
                      have hmm := mulmod (n := 3) (j := q) (i := p) hp3
                      have hd := HDV.out
                      unfold nearF
                      rw [hmm.1, hmm.2]
                      exact Prod.ext (by simp only; omega) (by simp only; omega)
                    have hst : scanM c (nearF sw.1) sw (q * 3 + (p + 1)) = stepM c (scanM c (nearF sw.1) sw (q * 3 + p)) (sw.1.1 + ev, sw.1.2 + dv) := by
                      rw [← hnf]; rfl
                    have HEV := Lib.hid hev
                    clear hev hnf
                    generalize scanM c (nearF sw.1) sw (q * 3 + p) = st at *
                    have HST := Lib.hid hst
                    clear hst
                    have PVk := PV.out (sw.1.1 + ev) (sw.1.2 + dv)
                    have BV0 := Lib.hid (Blk.new wr #[.int .i64 (sw.1.1 + ev), .int .i64 (sw.1.2 + dv)] 26)
                    have XG1 := Lib.hid (XG.out.alloc (.cells #[.int .i64 (sw.1.1 + ev), .int .i64 (sw.1.2 + dv)] 26))
                    have XF1 := Lib.hid (XF.out.alloc (.cells #[.int .i64 (sw.1.1 + ev), .int .i64 (sw.1.2 + dv)] 26))
                    have XR1 := Lib.hid (XR.out.alloc (.cells #[.int .i64 (sw.1.1 + ev), .int .i64 (sw.1.2 + dv)] 26))
                    have XM1 := Lib.hid (XM.out.alloc (.cells #[.int .i64 (sw.1.1 + ev), .int .i64 (sw.1.2 + dv)] 26))
                    obtain ⟨n0, n1, -, -⟩ := XM.out.two
                    cases hvec : vecB (sw.1.1 + ev) (sw.1.2 + dv) with
                    | true =>
                      rw [hvec] at PVk
                      have PK := Lib.hid PVk
                      have HVE := Lib.hid hvec
                      have HS2 := Lib.hid (HST.out.trans (stepM_yes hvec))
                      clear PVk hvec HST
                      go_wp2_with fail
                      clear n0 n1
                      refine (PK.out _).mono ?_
                      rintro e w6 ⟨rfl, hb6⟩
                      have j6 : Below (wr.alloc (.cells #[.int .i64 (sw.1.1 + ev), .int .i64 (sw.1.2 + dv)] 26)).heap.size (wr.alloc (.cells #[.int .i64 (sw.1.1 + ev), .int .i64 (sw.1.2 + dv)] 26)) w6 := ext (by go_grown) hb6
                      have g6 : Below w.heap.size w w6 := ext (hbx.alloc tx _) j6
                      have BV6 := Lib.hid (BV0.out.ext j6)
                      have XG6 := Lib.hid (XG1.out.ext j6)
                      have XF6 := Lib.hid (XF1.out.ext j6)
                      have XR6 := Lib.hid (XR1.out.ext j6)
                      have XM6 := Lib.hid (XM1.out.ext j6)
                      have t6 := g6.size
                      have lV := BV6.out.lt
                      clear BV0 XG1 XF1 XR1 XM1 XG XF XR XM hb6
                      obtain ⟨n0, n1, -, -⟩ := BV6.out.two
                      go_wp2_with fail
                      clear n0 n1
                      refine (TRY.out w2.heap.size st (sw.1.1 + ev) (sw.1.2 + dv) _ XG6.out (HP.out.ext g6) (HU.out.ext g6) HVE.out).mono ?_
                      rintro e w7 ⟨rfl, hG7, hg7⟩
                      have XG7 := Lib.hid hG7
                      have XF7 := Lib.hid (XF6.out.grown hg7 (by simp; omega))
                      have XR7 := Lib.hid (XR6.out.grown hg7 (by simp; omega))
                      have XM7 := Lib.hid (XM6.out.grown hg7 (by simp; omega))
                      have g7 : Below w.heap.size w w7 := below_of_grown g6 hg7 (by omega) t6
                      clear hG7 hg7 XG6 XF6 XR6 XM6
                      go_wp2
                      go_roundw
                      case rel => exact ⟨p + 1, ev + 1, by omega, by have := HEV.out; omega, by go_num, by rw [HS2.out]; exact XG7.out, g7, XF7.out, XR7.out, XM7.out⟩
                      case measure => have := HEV.out; simp [intOf]; omega
                    | false =>
                      rw [hvec] at PVk
                      have PK := Lib.hid PVk
                      have HS2 := Lib.hid (HST.out.trans (stepM_no hvec))
                      clear PVk hvec HST
                      go_wp2_with fail
                      clear n0 n1
                      refine (PK.out _).mono ?_
                      rintro e w6 ⟨rfl, hb6⟩
                      have j6 : Below (wr.alloc (.cells #[.int .i64 (sw.1.1 + ev), .int .i64 (sw.1.2 + dv)] 26)).heap.size (wr.alloc (.cells #[.int .i64 (sw.1.1 + ev), .int .i64 (sw.1.2 + dv)] 26)) w6 := ext (by go_grown) hb6
                      have g6 : Below w.heap.size w w6 := ext (hbx.alloc tx _) j6
                      have XG6 := Lib.hid (XG1.out.ext j6)
                      have XF6 := Lib.hid (XF1.out.ext j6)
                      have XR6 := Lib.hid (XR1.out.ext j6)
                      have XM6 := Lib.hid (XM1.out.ext j6)
                      clear BV0 XG1 XF1 XR1 XM1 XG XF XR XM hb6
                      go_wp2
                      go_roundw
                      case rel => exact ⟨p + 1, ev + 1, by omega, by have := HEV.out; omega, by go_num, by rw [HS2.out]; exact XG6.out, g6, XF6.out, XR6.out, XM6.out⟩
                      case measure => have := HEV.out; simp [intOf]; omega
                  · have hp3 : p = 3 := by omega
                    have XG2 := Lib.hid (show Blk wr w2.heap.size (seekC W H (.slice ao pix.length cap) (.slice bo bl.length bcap) x y (scanM c (nearF sw.1) sw ((q + 1) * 3))) 72 from by rw [Nat.succ_mul]; rw [hp3] at XG; exact XG.out)
                    clear XG hp3 hev
                    go_wp2
                    go_roundw
                    case rel => exact ⟨q + 1, dv + 1, by omega, by have := HDV.out; omega, by go_num, XG2.out, hbx, XF.out, XR.out, XM.out⟩
                    case measure => have := HDV.out; simp [intOf]; omega
              · have hq3 : q = 3 := by omega
                rw [hq3] at YG
                have HS9 := Lib.hid (show scanM c (nearF sw.1) sw 9 = scanM c (nearF sw.1) sw (3 * 3) from rfl)
                rw [HS9.out] at HSS
                generalize scanM c (nearF sw.1) sw (3 * 3) = st at *
                obtain ⟨-, -, -, -, -, -, q6, q7, -⟩ := seek_cells YG.out
                obtain ⟨r0, r1, r2, r3⟩ := YR.out.two
                have lr := YR.out.lt
                have ty := hby.size
                clear hq3 hdv
                go_wp2
                try rw [Exit.noGoto_ret]
                refine bodyPost_ret (by simp [results, Tryd.results21, go_sem, r0, r1, r2, r3]; try rfl) rfl ?_
                exact ⟨by rw [HSS.out] <;> rfl, by go_grown⟩
          · have hz1 : (st.2 == 0) = false := by simp [hz]
            clear HALL
            go_wp2_with fail
            clear q8 hz1 hz
            refine (TRY.out w2.heap.size st (2 * iv) (2 * jv) _ XG.out (HP.out.ext hbr) (HU.out.ext hbr) HVE.out).mono ?_
            rintro e w6 ⟨rfl, hG6, hg6⟩
            have XG6 := Lib.hid hG6
            have XF6 := Lib.hid (XF.out.grown hg6 (by simp; omega))
            have XR6 := Lib.hid (XR.out.grown hg6 (by simp; omega))
            have g6 : Below w.heap.size w w6 := below_of_grown hbr hg6 t2 tr
            clear hG6 hg6 XG XF XR
            go_wp2
            go_roundw
            case rel => exact ⟨p + 1, iv + 1, by omega, by have := HIV.out; omega, by go_num, by rw [HST.out]; exact XG6.out, g6, XF6.out, XR6.out⟩
            case measure => have := HIV.out; simp [intOf]; omega
        · have hp3 : p = 2 * r + 1 := by omega
          have XG2 := Lib.hid (show Blk wr w2.heap.size (seekC W H (.slice ao pix.length cap) (.slice bo bl.length bcap) x y (scanTo c (wholeF r) (firstS c) ((k + 1) * (2 * r + 1)))) 72 from by rw [Nat.succ_mul]; rw [hp3] at hG; exact hG)
          have XF := Lib.hid hF
          have XR := Lib.hid hR
          clear hp3 hiv hG hF hR
          go_wp2
          go_roundw
          case rel => exact ⟨k + 1, jv + 1, by omega, by have := HJV.out; omega, by go_num, XG2.out, hbr, XF.out, XR.out⟩
          case measure => have := HJV.out; simp [intOf]; omega
    · have hk3 : k = 2 * r + 1 := by omega
      have TG := Lib.hid (show Blk wo w2.heap.size (seekC W H (.slice ao pix.length cap) (.slice bo bl.length bcap) x y (wholeS c r)) 72 from by rw [hk3] at OG; exact OG.out)
      have TF := OF
      have TR := OR
      have hbt := hbo
      clear hk3 hjv OG OF OR hbo
      have hfair := (wholeS_fair c hr).2
      obtain ⟨⟨m1, m2⟩, m3, m4⟩ := vecB_iff.1 hfair
      have HSS := Lib.hid (show searchS c r = scanM c (nearF (wholeS c r).1) (wholeS c r) 9 from rfl)
      generalize wholeS c r = sw at *
      clear hfair
      obtain ⟨wz, hwz⟩ : ∃ wz : World, wz = wo := ⟨_, rfl⟩
      obtain ⟨-, -, -, -, -, -, q6, q7, -⟩ := seek_cells TG.out
      have lG := TG.out.lt
      have VM := Lib.hid (Blk.new wo #[.int .i64 sw.1.1, .int .i64 sw.1.2] 26)
      have VG := Lib.hid (TG.out.alloc (.cells #[.int .i64 sw.1.1, .int .i64 sw.1.2] 26))
      have VF := Lib.hid (TF.out.alloc (.cells #[.int .i64 sw.1.1, .int .i64 sw.1.2] 26))
      have VR := Lib.hid (TR.out.alloc (.cells #[.int .i64 sw.1.1, .int .i64 sw.1.2] 26))
      have tz := hbt.size
      have gz : Below w.heap.size w (wo.alloc (.cells #[.int .i64 sw.1.1, .int .i64 sw.1.2] 26)) := hbt.alloc tz _
      subst hwz
      clear TG TF TR
      go_wp2
      clear q6 q7
      go_loopw [16] (fun d wx => ∃ (q : Nat) (dv : Int), q ≤ 3 ∧ dv = (q : Int) - 1 ∧ d = .int .i64 dv ∧ Blk wx w2.heap.size (seekC W H (.slice ao pix.length cap) (.slice bo bl.length bcap) x y (scanM c (nearF sw.1) sw (q * 3))) 72 ∧ Below w.heap.size w wx ∧ Blk wx w.heap.size #[.int .i64 W, .int .i64 H, .slice ao pix.length cap] 24 ∧ Blk wx (w.heap.size + 1) #[.int .i64 0, .int .i64 0] 26 ∧ Blk wx wz.heap.size #[.int .i64 sw.1.1, .int .i64 sw.1.2] 26) (fun d _ => 3 - (intOf d + 1).toNat)
      case atStart => exact ⟨0, -1, by omega, by omega, rfl, VG.out, gz, VF.out, VR.out, VM.out⟩
      case round =>
        clear VG VF VR VM gz
        obtain ⟨q, dv, hq, hdv, rfl, hG, hby, hF, hR, hM⟩ := hrel
        obtain ⟨wy, rfl⟩ : ∃ wy : World, wy = wr := ⟨_, rfl⟩
        have YG := Lib.hid hG
        have YF := Lib.hid hF
        have YR := Lib.hid hR
        have YM := Lib.hid hM
        have HDV := Lib.hid hdv
        have dv1 : -1 ≤ dv := by omega
        have dv2 : dv ≤ 2 := by omega
        clear hG hF hR hM
        by_cases hdl : dv ≤ 1
        · have hq3 : q < 3 := by omega
          clear hdv
          have YG0 := Lib.hid (show Blk wy w2.heap.size (seekC W H (.slice ao pix.length cap) (.slice bo bl.length bcap) x y (scanM c (nearF sw.1) sw (q * 3 + 0))) 72 from YG.out)
          go_wp2
          go_loopw [17] (fun d wx => ∃ (p : Nat) (ev : Int), p ≤ 3 ∧ ev = (p : Int) - 1 ∧ d = .int .i64 ev ∧ Blk wx w2.heap.size (seekC W H (.slice ao pix.length cap) (.slice bo bl.length bcap) x y (scanM c (nearF sw.1) sw (q * 3 + p))) 72 ∧ Below w.heap.size w wx ∧ Blk wx w.heap.size #[.int .i64 W, .int .i64 H, .slice ao pix.length cap] 24 ∧ Blk wx (w.heap.size + 1) #[.int .i64 0, .int .i64 0] 26 ∧ Blk wx wz.heap.size #[.int .i64 sw.1.1, .int .i64 sw.1.2] 26) (fun d _ => 3 - (intOf d + 1).toNat)
          case atStart => exact ⟨0, -1, by omega, by omega, rfl, YG0.out, hby, YF.out, YR.out, YM.out⟩
          case round =>
            clear YG YG0 YF YR YM hby
            obtain ⟨p, ev, hp, hev, rfl, hG, hbx, hF, hR, hM⟩ := hrel
            have XG := Lib.hid hG
            have XF := Lib.hid hF
            have XR := Lib.hid hR
            have XM := Lib.hid hM
            have lM := hM.lt
            have lG2 := hG.lt
            have ev1 : -1 ≤ ev := by omega
            have ev2 : ev ≤ 2 := by omega
            have tx := hbx.size
            clear hG hF hR hM
            by_cases hel : ev ≤ 1
            · have hp3 : p < 3 := by omega
              have hnf : nearF sw.1 (q * 3 + p) = (sw.1.1 + ev, sw.1.2 + dv) := by
                have hmm := mulmod (n := 3) (j := q) (i := p) hp3
                have hd := HDV.out
                unfold nearF
                rw [hmm.1, hmm.2]
                exact Prod.ext (by simp only; omega) (by simp only; omega)
              have hst : scanM c (nearF sw.1) sw (q * 3 + (p + 1)) = stepM c (scanM c (nearF sw.1) sw (q * 3 + p)) (sw.1.1 + ev, sw.1.2 + dv) := by
                rw [← hnf]; rfl
              have HEV := Lib.hid hev
              clear hev hnf
              generalize scanM c (nearF sw.1) sw (q * 3 + p) = st at *
              have HST := Lib.hid hst
              clear hst
              have PVk := PV.out (sw.1.1 + ev) (sw.1.2 + dv)
              have BV0 := Lib.hid (Blk.new wr #[.int .i64 (sw.1.1 + ev), .int .i64 (sw.1.2 + dv)] 26)
              have XG1 := Lib.hid (XG.out.alloc (.cells #[.int .i64 (sw.1.1 + ev), .int .i64 (sw.1.2 + dv)] 26))
              have XF1 := Lib.hid (XF.out.alloc (.cells #[.int .i64 (sw.1.1 + ev), .int .i64 (sw.1.2 + dv)] 26))
              have XR1 := Lib.hid (XR.out.alloc (.cells #[.int .i64 (sw.1.1 + ev), .int .i64 (sw.1.2 + dv)] 26))
              have XM1 := Lib.hid (XM.out.alloc (.cells #[.int .i64 (sw.1.1 + ev), .int .i64 (sw.1.2 + dv)] 26))
              obtain ⟨n0, n1, -, -⟩ := XM.out.two
              cases hvec : vecB (sw.1.1 + ev) (sw.1.2 + dv) with
              | true =>
                rw [hvec] at PVk
                have PK := Lib.hid PVk
                have HVE := Lib.hid hvec
                have HS2 := Lib.hid (HST.out.trans (stepM_yes hvec))
                clear PVk hvec HST
                go_wp2_with fail
                clear n0 n1
                refine (PK.out _).mono ?_
                rintro e w6 ⟨rfl, hb6⟩
                have j6 : Below (wr.alloc (.cells #[.int .i64 (sw.1.1 + ev), .int .i64 (sw.1.2 + dv)] 26)).heap.size (wr.alloc (.cells #[.int .i64 (sw.1.1 + ev), .int .i64 (sw.1.2 + dv)] 26)) w6 := ext (by go_grown) hb6
                have g6 : Below w.heap.size w w6 := ext (hbx.alloc tx _) j6
                have BV6 := Lib.hid (BV0.out.ext j6)
                have XG6 := Lib.hid (XG1.out.ext j6)
                have XF6 := Lib.hid (XF1.out.ext j6)
                have XR6 := Lib.hid (XR1.out.ext j6)
                have XM6 := Lib.hid (XM1.out.ext j6)
                have t6 := g6.size
                have lV := BV6.out.lt
                clear BV0 XG1 XF1 XR1 XM1 XG XF XR XM hb6
                obtain ⟨n0, n1, -, -⟩ := BV6.out.two
                go_wp2_with fail
                clear n0 n1
                refine (TRY.out w2.heap.size st (sw.1.1 + ev) (sw.1.2 + dv) _ XG6.out (HP.out.ext g6) (HU.out.ext g6) HVE.out).mono ?_
                rintro e w7 ⟨rfl, hG7, hg7⟩
                have XG7 := Lib.hid hG7
                have XF7 := Lib.hid (XF6.out.grown hg7 (by simp; omega))
                have XR7 := Lib.hid (XR6.out.grown hg7 (by simp; omega))
                have XM7 := Lib.hid (XM6.out.grown hg7 (by simp; omega))
                have g7 : Below w.heap.size w w7 := below_of_grown g6 hg7 (by omega) t6
                clear hG7 hg7 XG6 XF6 XR6 XM6
                go_wp2
                go_roundw
                case rel => exact ⟨p + 1, ev + 1, by omega, by have := HEV.out; omega, by go_num, by rw [HS2.out]; exact XG7.out, g7, XF7.out, XR7.out, XM7.out⟩
                case measure => have := HEV.out; simp [intOf]; omega
              | false =>
                rw [hvec] at PVk
                have PK := Lib.hid PVk
                have HS2 := Lib.hid (HST.out.trans (stepM_no hvec))
                clear PVk hvec HST
                go_wp2_with fail
                clear n0 n1
                refine (PK.out _).mono ?_
                rintro e w6 ⟨rfl, hb6⟩
                have j6 : Below (wr.alloc (.cells #[.int .i64 (sw.1.1 + ev), .int .i64 (sw.1.2 + dv)] 26)).heap.size (wr.alloc (.cells #[.int .i64 (sw.1.1 + ev), .int .i64 (sw.1.2 + dv)] 26)) w6 := ext (by go_grown) hb6
                have g6 : Below w.heap.size w w6 := ext (hbx.alloc tx _) j6
                have XG6 := Lib.hid (XG1.out.ext j6)
                have XF6 := Lib.hid (XF1.out.ext j6)
                have XR6 := Lib.hid (XR1.out.ext j6)
                have XM6 := Lib.hid (XM1.out.ext j6)
                clear BV0 XG1 XF1 XR1 XM1 XG XF XR XM hb6
                go_wp2
                go_roundw
                case rel => exact ⟨p + 1, ev + 1, by omega, by have := HEV.out; omega, by go_num, by rw [HS2.out]; exact XG6.out, g6, XF6.out, XR6.out, XM6.out⟩
                case measure => have := HEV.out; simp [intOf]; omega
            · have hp3 : p = 3 := by omega
              have XG2 := Lib.hid (show Blk wr w2.heap.size (seekC W H (.slice ao pix.length cap) (.slice bo bl.length bcap) x y (scanM c (nearF sw.1) sw ((q + 1) * 3))) 72 from by rw [Nat.succ_mul]; rw [hp3] at XG; exact XG.out)
              clear XG hp3 hev
              go_wp2
              go_roundw
              case rel => exact ⟨q + 1, dv + 1, by omega, by have := HDV.out; omega, by go_num, XG2.out, hbx, XF.out, XR.out, XM.out⟩
              case measure => have := HDV.out; simp [intOf]; omega
        · have hq3 : q = 3 := by omega
          rw [hq3] at YG
          have HS9 := Lib.hid (show scanM c (nearF sw.1) sw 9 = scanM c (nearF sw.1) sw (3 * 3) from rfl)
          rw [HS9.out] at HSS
          generalize scanM c (nearF sw.1) sw (3 * 3) = st at *
          obtain ⟨-, -, -, -, -, -, q6, q7, -⟩ := seek_cells YG.out
          obtain ⟨r0, r1, r2, r3⟩ := YR.out.two
          have lr := YR.out.lt
          have ty := hby.size
          clear hq3 hdv
          go_wp2
          try rw [Exit.noGoto_ret]
          refine bodyPost_ret (by simp [results, Tryd.results21, go_sem, r0, r1, r2, r3]; try rfl) rfl ?_
          exact ⟨by rw [HSS.out] <;> rfl, by go_grown⟩
theorem srchE_1 {W H : Int} {pix b : List Int} {x y r : Int} (h : mayB W H pix = false) : srchE W H pix b x y r = 2 := by unfold srchE; rw [h]; rfl
theorem srchE_2 {W H : Int} {pix b : List Int} {x y r : Int} (h : mayB W H pix = true) (h2 : ¬ ((0 ≤ r ∧ r ≤ 7) ∧ inB W H x y 8 = true)) : srchE W H pix b x y r = 3 := by unfold srchE; rw [if_pos h, if_neg h2]
theorem srchE_3 {W H : Int} {pix b : List Int} {x y r : Int} (h : mayB W H pix = true) (h2 : (0 ≤ r ∧ r ≤ 7) ∧ inB W H x y 8 = true) (h3 : b.length ≠ 64) : srchE W H pix b x y r = 14 := by unfold srchE; rw [if_pos h, if_pos h2, if_neg h3]
theorem srchE_4 {W H : Int} {pix b : List Int} {x y r : Int} (h : mayB W H pix = true) (h2 : (0 ≤ r ∧ r ≤ 7) ∧ inB W H x y 8 = true) (h3 : b.length = 64) (h4 : withinB b 0 255 = false) : srchE W H pix b x y r = 3 := by unfold srchE; rw [if_pos h, if_pos h2, if_pos h3, h4]; rfl
theorem srchR_no {W H : Int} {pix b : List Int} {x y r : Int} (h : srchE W H pix b x y r ≠ 0) : srchR W H pix b x y r = (0, 0) := by unfold srchR; rw [if_neg h]
theorem srchR_ok {W H : Int} {pix b : List Int} {x y r : Int} (h : srchE W H pix b x y r = 0) : srchR W H pix b x y r = (searchS (cstV W H pix b x y) r.toNat).1 := by unfold srchR; rw [if_pos h]
theorem psearch_any (fv bv : Value) (W H : Int) (pix bl : List Int) (x y r : Int) (w : World) (hv : FrameV w fv W H pix) (hu : Ints w bv bl) :
    Calls Tryd.prog 21 #[fv, bv, .int .i64 x, .int .i64 y, .int .i64 r] w fun e w' => e = .returned (.tuple #[.agg #[.int .i64 (srchR W H pix bl x y r).1, .int .i64 (srchR W H pix bl x y r).2], errV (srchE W H pix bl x y r)]) ∧ Below w.heap.size w w' := by
  cases hb : mayB W H pix with
  | false => have he := srchE_1 (b := bl) (x := x) (y := y) (r := r) hb; rw [srchR_no (by omega), he]; exact psearch_w0 fv bv W H pix bl x y r w hv hu hb
  | true =>
    by_cases k0 : r < 0
    · have he := srchE_2 (b := bl) (x := x) (y := y) (r := r) hb (by omega); rw [srchR_no (by omega), he]; exact psearch_w1 fv bv W H pix bl x y r w hv hu hb k0
    · by_cases k1 : 7 < r
      · have he := srchE_2 (b := bl) (x := x) (y := y) (r := r) hb (by omega); rw [srchR_no (by omega), he]; exact psearch_w2 fv bv W H pix bl x y r w hv hu hb k0 k1
      · cases k2 : inB W H x y 8 with
        | false => have he := srchE_2 (b := bl) (x := x) (y := y) (r := r) hb (by rw [k2]; simp); rw [srchR_no (by omega), he]; exact psearch_w3 fv bv W H pix bl x y r w hv hu hb k0 k1 k2
        | true =>
          by_cases k3 : bl.length = 64
          · cases k4 : withinB bl 0 255 with
            | false => have he := srchE_4 (b := bl) (x := x) (y := y) (r := r) hb ⟨by omega, k2⟩ k3 k4; rw [srchR_no (by omega), he]; exact psearch_w5 fv bv W H pix bl x y r w hv hu hb k0 k1 k2 k3 k4
            | true =>
              have he := srchE_ok (b := bl) (mayB_iff.1 hb) (r := r) (by omega) k2 k3 k4
              rw [srchR_ok he, he]
              obtain ⟨n, rfl⟩ : ∃ n : Nat, r = n := ⟨r.toNat, by omega⟩
              rw [Int.toNat_natCast]
              exact psearch_ok fv bv W H pix bl x y n w hv hu (mayB_iff.1 hb) (by omega) k2 k3 k4
          · have he := srchE_3 (b := bl) (x := x) (y := y) (r := r) hb ⟨by omega, k2⟩ k3; rw [srchR_no (by omega), he]; exact psearch_w4 fv bv W H pix bl x y r w hv hu hb k0 k1 k2 k3
end Go.Proofs.YtjmkcbagedflkaaDoor
