/- plane.Put, kinref6.Put: contracts. -/
import Derived.Test.YtlpifjnjddgfaaaDoorPlaneG
set_option linter.unusedSimpArgs false
set_option linter.unusedVariables false
namespace Go.Proofs.YtlpifjnjddgfaaaDoor
open Go.RowKit

/-- What Put answers. -/
def putE (W H : Int) (pix : List Int) (x y n : Int) (b : List Int) : Int :=
  if mayB W H pix = true then (if 1 ≤ n ∧ n ≤ 8 ∧ inB W H x y n = true then (if (b.length : Int) = n * n then (if withinB b 0 255 = true then 0 else 3) else 14) else 3) else 2
theorem inB_iff {W H x y n : Int} : inB W H x y n = true ↔ 0 ≤ x ∧ 0 ≤ y ∧ x ≤ W - n ∧ y ≤ H - n := by
  unfold inB; simp only [Bool.and_eq_true, decide_eq_true_eq]
theorem putE_zero {W H : Int} {pix : List Int} {x y n : Int} {b : List Int} : putE W H pix x y n b = 0 ↔ May W H pix ∧ (1 ≤ n ∧ n ≤ 8 ∧ inB W H x y n = true) ∧ (b.length : Int) = n * n ∧ withinB b 0 255 = true := by
  unfold putE
  constructor
  · intro h
    split at h
    · rename_i h1
      split at h
      · rename_i h2
        split at h
        · rename_i h3
          split at h
          · rename_i h4; exact ⟨mayB_iff.1 h1, h2, h3, h4⟩
          · cases h
        · cases h
      · cases h
    · cases h
  · rintro ⟨h1, h2, h3, h4⟩
    rw [if_pos (mayB_iff.2 h1), if_pos h2, if_pos h3, if_pos h4]
theorem put_nat {W H : Int} {pix : List Int} {x y n : Int} {b : List Int} (h : putE W H pix x y n b = 0) : ∃ W' H' x' y' n' : Nat, W = W' ∧ H = H' ∧ x = x' ∧ y = y' ∧ n = n' := by
  obtain ⟨h1, ⟨h2, h3, h4⟩, _⟩ := putE_zero.1 h
  obtain ⟨h5, h6, _⟩ := inB_iff.1 h4
  have := h1.w
  have := h1.h
  exact ⟨W.toNat, H.toNat, x.toNat, y.toNat, n.toNat, by omega, by omega, by omega, by omega, by omega⟩
structure Fit (W H x y n : Nat) (pix b : List Int) : Prop where
  may : May W H pix
  n1 : 1 ≤ n
  n2 : n ≤ 8
  xn : x + n ≤ W
  yn : y + n ≤ H
  len : b.length = n * n
  b : withinB b 0 255 = true
theorem fit_iff {W H x y n : Nat} {pix b : List Int} : putE W H pix x y n b = 0 ↔ Fit W H x y n pix b := by
  rw [putE_zero]
  constructor
  · rintro ⟨h1, ⟨h2, h3, h4⟩, h5, h6⟩
    obtain ⟨h7, h8, h9, h10⟩ := inB_iff.1 h4
    exact ⟨h1, by omega, by omega, by omega, by omega, by exact_mod_cast h5, h6⟩
  · rintro ⟨h1, h2, h3, h4, h5, h6, h7⟩
    exact ⟨h1, ⟨by omega, by omega, inB_iff.2 ⟨by omega, by omega, by omega, by omega⟩⟩, by rw [h6]; simp, h7⟩
theorem spot_in {W H x y n : Nat} (hx : x + n ≤ W) (hy : y + n ≤ H) (hn : 0 < n) {k : Nat} (hk : k < n * n) : spot W x y n k < W * H := by
  have hm := Nat.mod_lt k hn
  have hd : k / n < n := Nat.div_lt_of_lt_mul hk
  have h1 : (y + k / n + 1) * W ≤ H * W := Nat.mul_le_mul_right _ (by omega)
  rw [Nat.succ_mul, Nat.mul_comm H] at h1
  unfold spot; omega
theorem Fit.bd {W H x y n : Nat} {pix b : List Int} (h : Fit W H x y n pix b) : 8 ≤ W ∧ W ≤ 32 ∧ 8 ≤ H ∧ H ≤ 32 ∧ pix.length = W * H := by
  have h1 := h.may.w
  have h2 := h.may.h
  have h3 := h.may.len
  exact ⟨by omega, by omega, by omega, by omega, by exact_mod_cast h3⟩
theorem Fit.spot {W H x y n : Nat} {pix b : List Int} (h : Fit W H x y n pix b) {k : Nat} (hk : k < n * n) : spot W x y n k < pix.length := by
  rw [h.bd.2.2.2.2]; exact spot_in h.xn h.yn h.n1 hk

set_option maxRecDepth 100000 in
set_option maxHeartbeats 4000000 in
theorem pput_no (v bv : Value) (W H : Int) (pix : List Int) (x y n : Int) (b : List Int) (w : World) (hv : FrameV w v W H pix) (hb : Ints w bv b) (h : putE W H pix x y n b ≠ 0) :
    Calls Tryd.prog 20 #[v, .int .i64 x, .int .i64 y, .int .i64 n, bv] w fun e w' => e = .returned (.tuple #[.agg #[.int .i64 0, .int .i64 0, .slice none 0 0], errV (putE W H pix x y n b)]) ∧ Below w.heap.size w w' := by
  have cm := fun w hv => pmay_any v W H pix w hv
  have ci := fun w hv h1 h2 h3 => pin_any v W H pix x y n w hv h1 h2 h3
  have cs := fun w hb => psamples_any bv b w hb
  have HV := Lib.hid hv
  have HB := Lib.hid hb
  have hbl := hb.len
  obtain ⟨ao, cap, rfl, hp⟩ := hv.cells
  obtain ⟨bo, cap2, rfl⟩ := hb.shape
  have BX := Lib.hid (((Blk.new w #[.int .i64 W, .int .i64 H, .slice ao pix.length cap] 24).alloc (.cells #[.int .i64 0, .int .i64 0, .slice none 0 0] 24)))
  have R0 := Lib.hid ((Blk.new (w.alloc (.cells #[.int .i64 W, .int .i64 H, .slice ao pix.length cap] 24)) #[.int .i64 0, .int .i64 0, .slice none 0 0] 24))
  simp only [World.size_alloc] at R0
  clear hv hb hp
  cases h1 : mayB W H pix with
  | false =>
    rw [show putE W H pix x y n b = 2 from by unfold putE; rw [h1]; rfl]
    rw [h1] at cm
    have CM := Lib.hid cm
    clear cm ci cs h h1 hbl
    go_enter Tryd.func20, Tryd.ntmps20
    go_wp2_with fail
    refine (CM.out _ (HV.out.ext (by go_grown))).mono ?_
    rintro e w1 ⟨rfl, hb1⟩
    have g1 : Below w.heap.size w w1 := ext (by go_grown) hb1
    have BX1 := Lib.hid (BX.out.ext hb1)
    have R01 := Lib.hid (R0.out.ext hb1)
    obtain ⟨r0, r1, r2, r3, r4, r5⟩ := R01.out.three
    have lr := R01.out.lt
    go_wp2
    refine bodyPost_ret (by simp [results, Tryd.results20, go_sem, r0, r1, r2, r3, r4, r5]; try rfl) rfl ?_
    exact ⟨rfl, by go_grown⟩
  | true =>
    have hm := mayB_iff.1 h1
    rw [h1] at cm
    have CM := Lib.hid cm
    by_cases n1 : n < 1
    · rw [show putE W H pix x y n b = 3 from by unfold putE; rw [if_pos h1, if_neg (by omega)]]
      clear cm ci cs h h1 hm hbl
      go_enter Tryd.func20, Tryd.ntmps20
      go_wp2_with fail
      refine (CM.out _ (HV.out.ext (by go_grown))).mono ?_
      rintro e w1 ⟨rfl, hb1⟩
      have g1 : Below w.heap.size w w1 := ext (by go_grown) hb1
      have BX1 := Lib.hid (BX.out.ext hb1)
      have R01 := Lib.hid (R0.out.ext hb1)
      obtain ⟨r0, r1, r2, r3, r4, r5⟩ := R01.out.three
      have lr := R01.out.lt
      go_wp2
      refine bodyPost_ret (by simp [results, Tryd.results20, go_sem, r0, r1, r2, r3, r4, r5]; try rfl) rfl ?_
      exact ⟨rfl, by go_grown⟩
    · by_cases n2 : 8 < n
      · rw [show putE W H pix x y n b = 3 from by unfold putE; rw [if_pos h1, if_neg (by omega)]]
        clear cm ci cs h h1 hm hbl
        go_enter Tryd.func20, Tryd.ntmps20
        go_wp2_with fail
        refine (CM.out _ (HV.out.ext (by go_grown))).mono ?_
        rintro e w1 ⟨rfl, hb1⟩
        have g1 : Below w.heap.size w w1 := ext (by go_grown) hb1
        have BX1 := Lib.hid (BX.out.ext hb1)
        have R01 := Lib.hid (R0.out.ext hb1)
        obtain ⟨r0, r1, r2, r3, r4, r5⟩ := R01.out.three
        have lr := R01.out.lt
        go_wp2
        refine bodyPost_ret (by simp [results, Tryd.results20, go_sem, r0, r1, r2, r3, r4, r5]; try rfl) rfl ?_
        exact ⟨rfl, by go_grown⟩
      · have ci2 := fun w hv => ci w hv (by have := hm.w; omega) (by have := hm.h; omega) ⟨by omega, by omega⟩
        cases h2 : inB W H x y n with
        | false =>
          rw [show putE W H pix x y n b = 3 from by unfold putE; rw [if_pos h1, if_neg (by rw [h2]; simp)]]
          rw [h2] at ci2
          have CI := Lib.hid ci2
          clear cm ci ci2 cs h h1 h2 hm hbl
          go_enter Tryd.func20, Tryd.ntmps20
          go_wp2_with fail
          refine (CM.out _ (HV.out.ext (by go_grown))).mono ?_
          rintro e w1 ⟨rfl, hb1⟩
          have g1 : Below w.heap.size w w1 := ext (by go_grown) hb1
          have BX1 := Lib.hid (BX.out.ext hb1)
          have R01 := Lib.hid (R0.out.ext hb1)
          obtain ⟨c0, c1, c2, -, -, -⟩ := BX1.out.three
          have lz := BX1.out.lt
          go_wp2_with fail
          clear c0 c1 c2 lz
          refine (CI.out _ (HV.out.ext g1)).mono ?_
          rintro e w2 ⟨rfl, hb2⟩
          have g2 : Below w.heap.size w w2 := ext g1 hb2
          have R02 := Lib.hid (R01.out.ext hb2)
          obtain ⟨r0, r1, r2, r3, r4, r5⟩ := R02.out.three
          have lr := R02.out.lt
          go_wp2
          refine bodyPost_ret (by simp [results, Tryd.results20, go_sem, r0, r1, r2, r3, r4, r5]; try rfl) rfl ?_
          exact ⟨rfl, by go_grown⟩
        | true =>
          rw [h2] at ci2
          have CI := Lib.hid ci2
          have hn2 : n * n ≤ 64 ∧ 0 ≤ n * n := by
            obtain ⟨m, rfl⟩ : ∃ m : Nat, n = m := ⟨n.toNat, by omega⟩
            have h8 : m * m ≤ 64 := Nat.mul_le_mul (show m ≤ 8 by omega) (show m ≤ 8 by omega)
            have h9 : ((m * m : Nat) : Int) = (m : Int) * m := by simp
            omega
          obtain ⟨N, hN⟩ : ∃ N : Nat, n * n = N := ⟨(n * n).toNat, by omega⟩
          have qN : IntKind.i64.wrap (n * n) = (N : Nat) := by rw [IntWalk.i64_in _ (by omega), hN]
          by_cases h3 : b.length = N
          · have q3 : ((b.length : Int) != (N : Int)) = false := by simp [h3]
            have h4 : withinB b 0 255 = false := by
              cases h4 : withinB b 0 255 with
              | false => rfl
              | true => exact absurd (putE_zero.2 ⟨hm, ⟨by omega, by omega, h2⟩, by rw [h3, hN], h4⟩) h
            rw [show putE W H pix x y n b = 3 from by unfold putE; rw [if_pos h1, if_pos ⟨by omega, by omega, h2⟩, if_pos (by rw [h3, hN]), h4]; rfl]
            rw [h4] at cs
            have CS := Lib.hid cs
            clear cm ci ci2 cs h h1 h2 h3 h4 hm hN hn2 hbl
            go_enter Tryd.func20, Tryd.ntmps20
            go_wp2_with fail
            refine (CM.out _ (HV.out.ext (by go_grown))).mono ?_
            rintro e w1 ⟨rfl, hb1⟩
            have g1 : Below w.heap.size w w1 := ext (by go_grown) hb1
            have BX1 := Lib.hid (BX.out.ext hb1)
            have R01 := Lib.hid (R0.out.ext hb1)
            obtain ⟨c0, c1, c2, -, -, -⟩ := BX1.out.three
            have lz := BX1.out.lt
            go_wp2_with fail
            clear c0 c1 c2 lz
            refine (CI.out _ (HV.out.ext g1)).mono ?_
            rintro e w2 ⟨rfl, hb2⟩
            have g2 : Below w.heap.size w w2 := ext g1 hb2
            have R02 := Lib.hid (R01.out.ext hb2)
            go_wp2_with fail
            refine (CS.out _ (HB.out.ext g2)).mono ?_
            rintro e w9 ⟨rfl, rfl⟩
            obtain ⟨r0, r1, r2, r3, r4, r5⟩ := R02.out.three
            have lr := R02.out.lt
            go_wp2
            refine bodyPost_ret (by simp [results, Tryd.results20, go_sem, r0, r1, r2, r3, r4, r5]; try rfl) rfl ?_
            exact ⟨rfl, by go_grown⟩
          · have q3 : ((b.length : Int) != (N : Int)) = true := by simp; omega
            rw [show putE W H pix x y n b = 14 from by unfold putE; rw [if_pos h1, if_pos ⟨by omega, by omega, h2⟩, if_neg (by rw [hN]; omega)]]
            clear cm ci ci2 cs h h1 h2 h3 hm hN hn2 hbl
            go_enter Tryd.func20, Tryd.ntmps20
            go_wp2_with fail
            refine (CM.out _ (HV.out.ext (by go_grown))).mono ?_
            rintro e w1 ⟨rfl, hb1⟩
            have g1 : Below w.heap.size w w1 := ext (by go_grown) hb1
            have BX1 := Lib.hid (BX.out.ext hb1)
            have R01 := Lib.hid (R0.out.ext hb1)
            obtain ⟨c0, c1, c2, -, -, -⟩ := BX1.out.three
            have lz := BX1.out.lt
            go_wp2_with fail
            clear c0 c1 c2 lz
            refine (CI.out _ (HV.out.ext g1)).mono ?_
            rintro e w2 ⟨rfl, hb2⟩
            have g2 : Below w.heap.size w w2 := ext g1 hb2
            have R02 := Lib.hid (R01.out.ext hb2)
            obtain ⟨r0, r1, r2, r3, r4, r5⟩ := R02.out.three
            have lr := R02.out.lt
            go_wp2
            refine bodyPost_ret (by simp [results, Tryd.results20, go_sem, r0, r1, r2, r3, r4, r5]; try rfl) rfl ?_
            exact ⟨rfl, by go_grown⟩

set_option maxRecDepth 100000 in
set_option maxHeartbeats 4000000 in
theorem pput_ok (v bv : Value) (W H x y n : Nat) (pix b : List Int) (w : World) (hv : FrameV w v W H pix) (hb : Ints w bv b) (h : Fit W H x y n pix b) :
    Calls Tryd.prog 20 #[v, .int .i64 x, .int .i64 y, .int .i64 n, bv] w fun e w' => ∃ p, e = .returned (.tuple #[.agg #[.int .i64 W, .int .i64 H, p], .nilIface]) ∧ OwnInts w' w.heap.size p (layV W x y n b pix) ∧ Below w.heap.size w w' := by
  obtain ⟨W1, W2, H1, H2, hpl⟩ := h.bd
  have cm := fun w hv => pmay_any v W H pix w hv
  rw [mayB_iff.2 h.may] at cm
  have ci := fun w hv => pin_any v W H pix x y n w hv ⟨by omega, by omega⟩ ⟨by omega, by omega⟩ ⟨by omega, by have := h.n2; omega⟩
  rw [inB_iff.2 ⟨by omega, by omega, by have := h.xn; omega, by have := h.yn; omega⟩] at ci
  have cs := fun w hb => psamples_any bv b w hb
  rw [h.b] at cs
  have CM := Lib.hid cm
  have CI := Lib.hid ci
  have CS := Lib.hid cs
  have HV := Lib.hid hv
  have HB := Lib.hid hb
  have HF := Lib.hid h
  have n1 : ¬ (n : Int) < 1 := by have := h.n1; omega
  have n2 : ¬ (8 : Int) < n := by have := h.n2; omega
  have hbl := hb.len
  have hpb := h.may.bd
  obtain ⟨hpb1, hpb2⟩ := hpb
  obtain ⟨ao, cap, rfl, hp⟩ := hv.cells
  obtain ⟨bo, cap2, rfl⟩ := hb.shape
  have HP := Lib.hid hp
  have hnn : n * n ≤ 64 := Nat.mul_le_mul h.n2 h.n2
  obtain ⟨N, hN⟩ : ∃ N : Nat, n * n = N := ⟨_, rfl⟩
  have qN : IntKind.i64.wrap ((n : Int) * n) = (N : Nat) := wrap_mul (by rw [← hN]; simp) (by omega)
  have q3 : ((b.length : Int) != (N : Int)) = false := by rw [h.len, hN]; simp
  have BX := Lib.hid (((Blk.new w #[.int .i64 W, .int .i64 H, .slice ao pix.length cap] 24).alloc (.cells #[.int .i64 0, .int .i64 0, .slice none 0 0] 24)))
  have R0 := Lib.hid ((Blk.new (w.alloc (.cells #[.int .i64 W, .int .i64 H, .slice ao pix.length cap] 24)) #[.int .i64 0, .int .i64 0, .slice none 0 0] 24))
  simp only [World.size_alloc] at R0
  clear cm ci cs hv hb hp h hpl
  go_enter Tryd.func20, Tryd.ntmps20
  go_wp2_with fail
  refine (CM.out _ (HV.out.ext (by go_grown))).mono ?_
  rintro e w1 ⟨rfl, hb1⟩
  have g1 : Below w.heap.size w w1 := ext (by go_grown) hb1
  have BX1 := Lib.hid (BX.out.ext hb1)
  obtain ⟨c0, c1, c2, -, -, -⟩ := BX1.out.three
  have lz := BX1.out.lt
  go_wp2_with fail
  clear c0 c1 c2 lz
  refine (CI.out _ (HV.out.ext g1)).mono ?_
  rintro e w2 ⟨rfl, hb2⟩
  have g2 : Below w.heap.size w w2 := ext g1 hb2
  have BX2 := Lib.hid (BX1.out.ext hb2)
  have R02 := Lib.hid ((R0.out.ext hb1).ext hb2)
  go_wp2_with fail
  refine (CS.out _ (HB.out.ext g2)).mono ?_
  rintro e w9 ⟨rfl, rfl⟩
  obtain ⟨c0, c1, c2, c3, c4, c5⟩ := BX2.out.three
  have lz := BX2.out.lt
  have l0 := R02.out.lt
  go_wp2_with fail
  clear c0 c1 c2 c3 c4 c5
  refine (clone_any _ _ _ (HP.out.ext g2) (by omega) (by omega)).mono ?_
  rintro e w3 ⟨p, rfl, hown, hb3⟩
  obtain ⟨g, cap3, rfl, hBg, hgw⟩ := hown.head (by omega)
  have g3 : Below w.heap.size w w3 := ext g2 hb3
  have BX3 := Lib.hid (BX2.out.ext hb3)
  have R03 := Lib.hid (R02.out.ext hb3)
  have HO := Lib.hid hown
  have s3 := hb3.size
  obtain ⟨c0, c1, c2, c3, c4, c5⟩ := BX3.out.three
  have BX4 : Hid (Blk (w3.setCell ⟨w.heap.size, 2, none⟩ (.slice (some ⟨g, 0, none⟩) pix.length cap3)) w.heap.size #[.int .i64 W, .int .i64 H, .slice (some ⟨g, 0, none⟩) pix.length cap3] 24) := Lib.hid (BX3.out.set 2 _)
  have R04 := Lib.hid (R03.out.setOther ⟨w.heap.size, 2, none⟩ (.slice (some ⟨g, 0, none⟩) pix.length cap3) (by show w.heap.size + 1 ≠ w.heap.size; omega))
  have HO4 := Lib.hid (HO.out.setOther (a := ⟨w.heap.size, 2, none⟩) (by show w.heap.size < w2.heap.size; omega) (.slice (some ⟨g, 0, none⟩) pix.length cap3))
  have g4 : Below w.heap.size w (w3.setCell ⟨w.heap.size, 2, none⟩ (.slice (some ⟨g, 0, none⟩) pix.length cap3)) := g3.setCell (Nat.le_refl _) _
  have s4 : (w3.setCell ⟨w.heap.size, 2, none⟩ (.slice (some ⟨g, 0, none⟩) pix.length cap3)).heap.size = w3.heap.size := by simp [World.setCell]
  clear hown
  go_wp2_with fail
  clear c0 c1 c2 c3 c4 c5
  generalize w3.setCell ⟨w.heap.size, 2, none⟩ (.slice (some ⟨g, 0, none⟩) pix.length cap3) = w4 at *
  refine (lay_any W x y n H pix b g cap3 _ w4 w w2.heap.size HO4.out HB.out g4 g2.size (by omega) HF.out.xn HF.out.n1 HF.out.n2 (by omega) HF.out.len (fun k hk => HF.out.spot hk) (by omega) (by have := HF.out.yn; omega)).mono ?_
  rintro e w5 ⟨rfl, hown5, hb5⟩
  have HO5 := Lib.hid hown5
  have g5 : Below w.heap.size w w5 := g4.trans (hb5.mono g2.size)
  obtain ⟨c0, c1, c2, c3, c4, c5⟩ := (BX4.out.below hb5 lz).three
  obtain ⟨r0, r1, r2, r3, r4, r5⟩ := (R04.out.below hb5 l0).three
  have s5 := hb5.size
  clear hown5
  go_wp2
  refine bodyPost_ret (by simp [results, Tryd.results20, go_sem, r0, r1, r2, r3, r4, r5]; try rfl) rfl ?_
  exact ⟨_, rfl, (((HO5.out.setOther (by simp; omega) _).setOther (by simp; omega) _).setOther (by simp; omega) _).mono g2.size, by go_grown⟩

end Go.Proofs.YtlpifjnjddgfaaaDoor
