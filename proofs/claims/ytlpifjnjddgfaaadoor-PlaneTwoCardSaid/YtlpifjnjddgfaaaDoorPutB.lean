/- kinref6.Put: its contract. -/
import Derived.Test.YtlpifjnjddgfaaaDoorPutA
import Derived.StillTailTactics
set_option linter.unusedSimpArgs false
set_option linter.unusedVariables false
namespace Go.Proofs.YtlpifjnjddgfaaaDoor
open Go.RowKit

set_option maxRecDepth 100000 in
set_option maxHeartbeats 4000000 in
theorem rput_no (v bv : Value) (W H : Int) (pix : List Int) (x y n : Int) (b : List Int) (w : World) (hv : FrameV w v W H pix) (hb : Ints w bv b) (h : putE W H pix x y n b ≠ 0) :
    Calls Tryd.prog 21 #[v, .int .i64 x, .int .i64 y, .int .i64 n, bv] w fun e w' => e = .returned (.tuple #[.agg #[.int .i64 0, .int .i64 0, .slice none 0 0], .agg #[.int .i64 (putE W H pix x y n b), .slice none 0 0]]) ∧ Below w.heap.size w w' := by
  have cm := fun w hv => rmay_any v W H pix w hv
  have ci := fun w hv h1 h2 h3 => lies_any v W H pix x y n w hv h1 h2 h3
  have cs := fun w hb => within_any bv b 0 255 w hb
  have HV := Lib.hid hv
  have HB := Lib.hid hb
  have hbl := hb.len
  obtain ⟨ao, cap, rfl, hp⟩ := hv.cells
  obtain ⟨bo, cap2, rfl⟩ := hb.shape
  have BX := Lib.hid (((Blk.new w #[.int .i64 W, .int .i64 H, .slice ao pix.length cap] 24).alloc (.cells #[.int .i64 0, .int .i64 0, .slice none 0 0] 24)).alloc (.cells #[.int .i64 0, .slice none 0 0] 34))
  have R0 := Lib.hid ((Blk.new (w.alloc (.cells #[.int .i64 W, .int .i64 H, .slice ao pix.length cap] 24)) #[.int .i64 0, .int .i64 0, .slice none 0 0] 24).alloc (.cells #[.int .i64 0, .slice none 0 0] 34))
  have R1 := Lib.hid (Blk.new ((w.alloc (.cells #[.int .i64 W, .int .i64 H, .slice ao pix.length cap] 24)).alloc (.cells #[.int .i64 0, .int .i64 0, .slice none 0 0] 24)) #[.int .i64 0, .slice none 0 0] 34)
  simp only [World.size_alloc] at R0 R1
  clear hv hb hp
  cases h1 : mayB W H pix with
  | false =>
    rw [show putE W H pix x y n b = 2 from by unfold putE; rw [h1]; rfl]
    rw [h1] at cm
    have CM := Lib.hid cm
    clear cm ci cs h h1 hbl
    go_enter Tryd.func21, Tryd.ntmps21
    go_wp2_with fail
    refine (CM.out _ (HV.out.ext (by go_grown))).mono ?_
    rintro e w1 ⟨rfl, hb1⟩
    have g1 : Below w.heap.size w w1 := ext (by go_grown) hb1
    have BX1 := Lib.hid (BX.out.ext hb1)
    have R01 := Lib.hid (R0.out.ext hb1)
    have R11 := Lib.hid (R1.out.ext hb1)
    go_wp2_with fail
    refine (fail_any _ _).mono ?_
    rintro e w2 ⟨rfl, hb2⟩
    have g2 : Below w.heap.size w w2 := ext g1 hb2
    obtain ⟨r0, r1, r2, r3, r4, r5⟩ := (R01.out.ext hb2).three
    obtain ⟨t0, t1, t2, t3⟩ := (R11.out.ext hb2).two
    have lr := (R11.out.ext hb2).lt
    go_wp2
    refine bodyPost_ret (by simp [results, Tryd.results21, go_sem, r0, r1, r2, r3, r4, r5, t0, t1, t2, t3]; try rfl) rfl ?_
    exact ⟨rfl, by go_grown⟩
  | true =>
    have hm := mayB_iff.1 h1
    rw [h1] at cm
    have CM := Lib.hid cm
    by_cases n1 : n < 1
    · rw [show putE W H pix x y n b = 3 from by unfold putE; rw [if_pos h1, if_neg (by omega)]]
      clear cm ci cs h h1 hm hbl
      go_enter Tryd.func21, Tryd.ntmps21
      go_wp2_with fail
      refine (CM.out _ (HV.out.ext (by go_grown))).mono ?_
      rintro e w1 ⟨rfl, hb1⟩
      have g1 : Below w.heap.size w w1 := ext (by go_grown) hb1
      have BX1 := Lib.hid (BX.out.ext hb1)
      have R01 := Lib.hid (R0.out.ext hb1)
      have R11 := Lib.hid (R1.out.ext hb1)
      go_wp2_with fail
      refine (fail_any _ _).mono ?_
      rintro e w2 ⟨rfl, hb2⟩
      have g2 : Below w.heap.size w w2 := ext g1 hb2
      obtain ⟨r0, r1, r2, r3, r4, r5⟩ := (R01.out.ext hb2).three
      obtain ⟨t0, t1, t2, t3⟩ := (R11.out.ext hb2).two
      have lr := (R11.out.ext hb2).lt
      go_wp2
      refine bodyPost_ret (by simp [results, Tryd.results21, go_sem, r0, r1, r2, r3, r4, r5, t0, t1, t2, t3]; try rfl) rfl ?_
      exact ⟨rfl, by go_grown⟩
    · by_cases n2 : 8 < n
      · rw [show putE W H pix x y n b = 3 from by unfold putE; rw [if_pos h1, if_neg (by omega)]]
        clear cm ci cs h h1 hm hbl
        go_enter Tryd.func21, Tryd.ntmps21
        go_wp2_with fail
        refine (CM.out _ (HV.out.ext (by go_grown))).mono ?_
        rintro e w1 ⟨rfl, hb1⟩
        have g1 : Below w.heap.size w w1 := ext (by go_grown) hb1
        have BX1 := Lib.hid (BX.out.ext hb1)
        have R01 := Lib.hid (R0.out.ext hb1)
        have R11 := Lib.hid (R1.out.ext hb1)
        go_wp2_with fail
        refine (fail_any _ _).mono ?_
        rintro e w2 ⟨rfl, hb2⟩
        have g2 : Below w.heap.size w w2 := ext g1 hb2
        obtain ⟨r0, r1, r2, r3, r4, r5⟩ := (R01.out.ext hb2).three
        obtain ⟨t0, t1, t2, t3⟩ := (R11.out.ext hb2).two
        have lr := (R11.out.ext hb2).lt
        go_wp2
        refine bodyPost_ret (by simp [results, Tryd.results21, go_sem, r0, r1, r2, r3, r4, r5, t0, t1, t2, t3]; try rfl) rfl ?_
        exact ⟨rfl, by go_grown⟩
      · have ci2 := fun w hv => ci w hv (by have := hm.w; omega) (by have := hm.h; omega) ⟨by omega, by omega⟩
        cases h2 : inB W H x y n with
        | false =>
          rw [show putE W H pix x y n b = 3 from by unfold putE; rw [if_pos h1, if_neg (by rw [h2]; simp)]]
          rw [h2] at ci2
          have CI := Lib.hid ci2
          clear cm ci ci2 cs h h1 h2 hm hbl
          go_enter Tryd.func21, Tryd.ntmps21
          go_wp2_with fail
          refine (CM.out _ (HV.out.ext (by go_grown))).mono ?_
          rintro e w1 ⟨rfl, hb1⟩
          have g1 : Below w.heap.size w w1 := ext (by go_grown) hb1
          have BX1 := Lib.hid (BX.out.ext hb1)
          have R01 := Lib.hid (R0.out.ext hb1)
          have R11 := Lib.hid (R1.out.ext hb1)
          obtain ⟨c0, c1, c2, -, -, -⟩ := BX1.out.three
          have lz := BX1.out.lt
          go_wp2_with fail
          clear c0 c1 c2 lz
          refine (CI.out _ (HV.out.ext g1)).mono ?_
          rintro e w2 ⟨rfl, hb2⟩
          have g2 : Below w.heap.size w w2 := ext g1 hb2
          have R02 := Lib.hid (R01.out.ext hb2)
          have R12 := Lib.hid (R11.out.ext hb2)
          go_wp2_with fail
          refine (fail_any _ _).mono ?_
          rintro e w3 ⟨rfl, hb3⟩
          have g3 : Below w.heap.size w w3 := ext g2 hb3
          obtain ⟨r0, r1, r2, r3, r4, r5⟩ := (R02.out.ext hb3).three
          obtain ⟨t0, t1, t2, t3⟩ := (R12.out.ext hb3).two
          have lr := (R12.out.ext hb3).lt
          go_wp2
          refine bodyPost_ret (by simp [results, Tryd.results21, go_sem, r0, r1, r2, r3, r4, r5, t0, t1, t2, t3]; try rfl) rfl ?_
          exact ⟨rfl, by go_grown⟩
        | true =>
          rw [h2] at ci2
          have CI := Lib.hid ci2
          have hn2 : n * n ≤ 64 ∧ 0 ≤ n * n := by
            obtain ⟨m, rfl⟩ : ∃ m : Nat, n = m := ⟨n.toNat, by omega⟩
            have h8 : m * m ≤ 64 := Nat.mul_le_mul (show m ≤ 8 by omega) (show m ≤ 8 by omega)
            have h9 : ((m * m : Nat) : Int) = (m : Int) * m := by simp
            omega
          obtain ⟨N, hN⟩ : ∃ N : Nat, n * n = N := ⟨(n * n).toNat, by omega⟩
          have qN : IntKind.i64.wrap (n * n) = (N : Nat) := by rw [IntWalk.i64_in _ (by omega), hN]
          by_cases h3 : b.length = N
          · have q3 : ((b.length : Int) != (N : Int)) = false := by simp [h3]
            have h4 : withinB b 0 255 = false := by
              cases h4 : withinB b 0 255 with
              | false => rfl
              | true => exact absurd (putE_zero.2 ⟨hm, ⟨by omega, by omega, h2⟩, by rw [h3, hN], h4⟩) h
            rw [show putE W H pix x y n b = 3 from by unfold putE; rw [if_pos h1, if_pos ⟨by omega, by omega, h2⟩, if_pos (by rw [h3, hN]), h4]; rfl]
            rw [h4] at cs
            have CS := Lib.hid cs
            clear cm ci ci2 cs h h1 h2 h3 h4 hm hN hn2 hbl
            go_enter Tryd.func21, Tryd.ntmps21
            go_wp2_with fail
            refine (CM.out _ (HV.out.ext (by go_grown))).mono ?_
            rintro e w1 ⟨rfl, hb1⟩
            have g1 : Below w.heap.size w w1 := ext (by go_grown) hb1
            have BX1 := Lib.hid (BX.out.ext hb1)
            have R01 := Lib.hid (R0.out.ext hb1)
            have R11 := Lib.hid (R1.out.ext hb1)
            obtain ⟨c0, c1, c2, -, -, -⟩ := BX1.out.three
            have lz := BX1.out.lt
            go_wp2_with fail
            clear c0 c1 c2 lz
            refine (CI.out _ (HV.out.ext g1)).mono ?_
            rintro e w2 ⟨rfl, hb2⟩
            have g2 : Below w.heap.size w w2 := ext g1 hb2
            have R02 := Lib.hid (R01.out.ext hb2)
            have R12 := Lib.hid (R11.out.ext hb2)
            go_wp2_with fail
            refine (CS.out _ (HB.out.ext g2)).mono ?_
            rintro e w9 ⟨rfl, rfl⟩
            go_wp2_with fail
            refine (fail_any _ _).mono ?_
            rintro e w3 ⟨rfl, hb3⟩
            have g3 : Below w.heap.size w w3 := ext g2 hb3
            obtain ⟨r0, r1, r2, r3, r4, r5⟩ := (R02.out.ext hb3).three
            obtain ⟨t0, t1, t2, t3⟩ := (R12.out.ext hb3).two
            have lr := (R12.out.ext hb3).lt
            go_wp2
            refine bodyPost_ret (by simp [results, Tryd.results21, go_sem, r0, r1, r2, r3, r4, r5, t0, t1, t2, t3]; try rfl) rfl ?_
            exact ⟨rfl, by go_grown⟩
          · have q3 : ((b.length : Int) != (N : Int)) = true := by simp; omega
            rw [show putE W H pix x y n b = 14 from by unfold putE; rw [if_pos h1, if_pos ⟨by omega, by omega, h2⟩, if_neg (by rw [hN]; omega)]]
            clear cm ci ci2 cs h h1 h2 h3 hm hN hn2 hbl
            go_enter Tryd.func21, Tryd.ntmps21
            go_wp2_with fail
            refine (CM.out _ (HV.out.ext (by go_grown))).mono ?_
            rintro e w1 ⟨rfl, hb1⟩
            have g1 : Below w.heap.size w w1 := ext (by go_grown) hb1
            have BX1 := Lib.hid (BX.out.ext hb1)
            have R01 := Lib.hid (R0.out.ext hb1)
            have R11 := Lib.hid (R1.out.ext hb1)
            obtain ⟨c0, c1, c2, -, -, -⟩ := BX1.out.three
            have lz := BX1.out.lt
            go_wp2_with fail
            clear c0 c1 c2 lz
            refine (CI.out _ (HV.out.ext g1)).mono ?_
            rintro e w2 ⟨rfl, hb2⟩
            have g2 : Below w.heap.size w w2 := ext g1 hb2
            have R02 := Lib.hid (R01.out.ext hb2)
            have R12 := Lib.hid (R11.out.ext hb2)
            go_wp2_with fail
            refine (fail_any _ _).mono ?_
            rintro e w3 ⟨rfl, hb3⟩
            have g3 : Below w.heap.size w w3 := ext g2 hb3
            obtain ⟨r0, r1, r2, r3, r4, r5⟩ := (R02.out.ext hb3).three
            obtain ⟨t0, t1, t2, t3⟩ := (R12.out.ext hb3).two
            have lr := (R12.out.ext hb3).lt
            go_wp2
            refine bodyPost_ret (by simp [results, Tryd.results21, go_sem, r0, r1, r2, r3, r4, r5, t0, t1, t2, t3]; try rfl) rfl ?_
            exact ⟨rfl, by go_grown⟩

set_option maxRecDepth 100000 in
set_option maxHeartbeats 4000000 in
theorem rput_ok (v bv : Value) (W H x y n : Nat) (pix b : List Int) (w : World) (hv : FrameV w v W H pix) (hb : Ints w bv b) (h : Fit W H x y n pix b) :
    Calls Tryd.prog 21 #[v, .int .i64 x, .int .i64 y, .int .i64 n, bv] w fun e w' => ∃ p, e = .returned (.tuple #[.agg #[.int .i64 W, .int .i64 H, p], .agg #[.int .i64 0, .slice none 0 0]]) ∧ OwnInts w' w.heap.size p (layV W x y n b pix) ∧ Below w.heap.size w w' := by
  obtain ⟨W1, W2, H1, H2, hpl⟩ := h.bd
  have cm := fun w hv => rmay_any v W H pix w hv
  rw [mayB_iff.2 h.may] at cm
  have ci := fun w hv => lies_any v W H pix x y n w hv ⟨by omega, by omega⟩ ⟨by omega, by omega⟩ ⟨by omega, by have := h.n2; omega⟩
  rw [inB_iff.2 ⟨by omega, by omega, by have := h.xn; omega, by have := h.yn; omega⟩] at ci
  have cs := fun w hb => within_any bv b 0 255 w hb
  rw [h.b] at cs
  have CM := Lib.hid cm
  have CI := Lib.hid ci
  have CS := Lib.hid cs
  have HV := Lib.hid hv
  have HB := Lib.hid hb
  have HF := Lib.hid h
  have n1 : ¬ (n : Int) < 1 := by have := h.n1; omega
  have n2 : ¬ (8 : Int) < n := by have := h.n2; omega
  have hbl := hb.len
  have hpb := h.may.bd
  obtain ⟨hpb1, hpb2⟩ := hpb
  obtain ⟨ao, cap, rfl, hp⟩ := hv.cells
  obtain ⟨bo, cap2, rfl⟩ := hb.shape
  have HP := Lib.hid hp
  have hnn : n * n ≤ 64 := Nat.mul_le_mul h.n2 h.n2
  obtain ⟨N, hN⟩ : ∃ N : Nat, n * n = N := ⟨_, rfl⟩
  have qN : IntKind.i64.wrap ((n : Int) * n) = (N : Nat) := wrap_mul (by rw [← hN]; simp) (by omega)
  have q3 : ((b.length : Int) != (N : Int)) = false := by rw [h.len, hN]; simp
  have BX := Lib.hid (((Blk.new w #[.int .i64 W, .int .i64 H, .slice ao pix.length cap] 24).alloc (.cells #[.int .i64 0, .int .i64 0, .slice none 0 0] 24)).alloc (.cells #[.int .i64 0, .slice none 0 0] 34))
  have R0 := Lib.hid ((Blk.new (w.alloc (.cells #[.int .i64 W, .int .i64 H, .slice ao pix.length cap] 24)) #[.int .i64 0, .int .i64 0, .slice none 0 0] 24).alloc (.cells #[.int .i64 0, .slice none 0 0] 34))
  have R1 := Lib.hid (Blk.new ((w.alloc (.cells #[.int .i64 W, .int .i64 H, .slice ao pix.length cap] 24)).alloc (.cells #[.int .i64 0, .int .i64 0, .slice none 0 0] 24)) #[.int .i64 0, .slice none 0 0] 34)
  simp only [World.size_alloc] at R0 R1
  clear cm ci cs hv hb hp h hpl
  go_enter Tryd.func21, Tryd.ntmps21
  go_wp2_with fail
  refine (CM.out _ (HV.out.ext (by go_grown))).mono ?_
  rintro e w1 ⟨rfl, hb1⟩
  have g1 : Below w.heap.size w w1 := ext (by go_grown) hb1
  have BX1 := Lib.hid (BX.out.ext hb1)
  obtain ⟨c0, c1, c2, -, -, -⟩ := BX1.out.three
  have lz := BX1.out.lt
  go_wp2_with fail
  clear c0 c1 c2 lz
  refine (CI.out _ (HV.out.ext g1)).mono ?_
  rintro e w2 ⟨rfl, hb2⟩
  have g2 : Below w.heap.size w w2 := ext g1 hb2
  have BX2 := Lib.hid (BX1.out.ext hb2)
  have R02 := Lib.hid ((R0.out.ext hb1).ext hb2)
  have R12 := Lib.hid ((R1.out.ext hb1).ext hb2)
  go_wp2_with fail
  refine (CS.out _ (HB.out.ext g2)).mono ?_
  rintro e w9 ⟨rfl, rfl⟩
  obtain ⟨c0, c1, c2, c3, c4, c5⟩ := BX2.out.three
  have lz := BX2.out.lt
  have l0 := R02.out.lt
  have l1 := R12.out.lt
  go_wp2_with fail
  clear c0 c1 c2 c3 c4 c5
  refine (copyframe_any _ _ _ _ _ (HV.out.ext g2) (by omega)).mono ?_
  rintro e w3 ⟨p, rfl, hown, hb3⟩
  obtain ⟨g, cap3, rfl, hBg, hgw⟩ := hown.head (by omega)
  have g3 : Below w.heap.size w w3 := ext g2 hb3
  have s3 := hb3.size
  have BX3 := Lib.hid ((BX2.out.ext hb3).alloc (.cells #[.int .i64 W, .int .i64 H, .slice (some ⟨g, 0, none⟩) pix.length cap3] 24))
  have R03 := Lib.hid ((R02.out.ext hb3).alloc (.cells #[.int .i64 W, .int .i64 H, .slice (some ⟨g, 0, none⟩) pix.length cap3] 24))
  have R13 := Lib.hid ((R12.out.ext hb3).alloc (.cells #[.int .i64 W, .int .i64 H, .slice (some ⟨g, 0, none⟩) pix.length cap3] 24))
  have BG := Lib.hid (Blk.new w3 #[.int .i64 W, .int .i64 H, .slice (some ⟨g, 0, none⟩) pix.length cap3] 24)
  have HO3 := Lib.hid (show OwnInts (w3.alloc (.cells #[.int .i64 W, .int .i64 H, .slice (some ⟨g, 0, none⟩) pix.length cap3] 24)) w2.heap.size (.slice (some ⟨g, 0, none⟩) pix.length cap3) (layTo W x y n 0 b pix) from by rw [layTo_zero]; exact hown.alloc _)
  clear hown BX R0 R1 CM CI CS hb1 hb2
  go_wp2
  go_loopw [13] (fun i wr => ∃ k : Nat, k ≤ N ∧ i = .int .i64 k ∧ OwnInts wr w2.heap.size (.slice (some ⟨g, 0, none⟩) pix.length cap3) (layTo W x y n k b pix) ∧ Below w.heap.size w wr ∧ Blk wr w.heap.size #[.int .i64 W, .int .i64 H, .slice ao pix.length cap] 24 ∧ Blk wr (w.heap.size + 1) #[.int .i64 0, .int .i64 0, .slice none 0 0] 24 ∧ Blk wr (w.heap.size + 2) #[.int .i64 0, .slice none 0 0] 34 ∧ Blk wr w3.heap.size #[.int .i64 W, .int .i64 H, .slice (some ⟨g, 0, none⟩) pix.length cap3] 24) (fun i _ => N - (intOf i).toNat)
  case atStart => exact ⟨0, Nat.zero_le _, rfl, HO3.out, by go_grown, BX3.out, R03.out, R13.out, BG.out⟩
  case round =>
    obtain ⟨k, hk, rfl, hown, hbr, hX, hR, hE, hG⟩ := hrel
    have XX := Lib.hid hX
    have RR := Lib.hid hR
    have RE := Lib.hid hE
    have GG := Lib.hid hG
    have HO := Lib.hid hown
    have lg := hG.lt
    clear hX hR hE hG hown
    by_cases hlt : k < N
    · have hkn : k < n * n := by omega
      have hs := HF.out.spot hkn
      have hst := HO.out.set' (spot W x y n k) (b.getD k 0) (HB.out.in64 _ (by rw [List.getD_eq_getElem?_getD, List.getElem?_eq_getElem (by rw [HF.out.len]; exact hkn)]; exact List.getElem_mem _))
      rw [← layTo_succ HF.out.xn HF.out.n1 hkn hs] at hst
      have HS := Lib.hid hst
      obtain ⟨-, -, -, hcell, hfz⟩ := HO.out.at
      have hc0 := hcell (spot W x y n k) (by rw [length_layTo]; exact hs)
      have hf0 := hfz (spot W x y n k)
      obtain ⟨b2, o2, rfl, hcb, hb2l⟩ := (HB.out.ext hbr).cellN (j := k) (by rw [HF.out.len]; exact hkn)
      have hgr : g < wr.heap.size := by omega
      have hmm := Nat.mod_lt k HF.out.n1
      have hdd : k / n < n := Nat.div_lt_of_lt_mul hkn
      have hyn := HF.out.yn
      have hxn := HF.out.xn
      have hnp := HF.out.n1
      have XX2 := Lib.hid (XX.out.setOther ⟨g, spot W x y n k, none⟩ (.int .i64 (b.getD k 0)) (by show w.heap.size ≠ g; omega))
      have RR2 := Lib.hid (RR.out.setOther ⟨g, spot W x y n k, none⟩ (.int .i64 (b.getD k 0)) (by show w.heap.size + 1 ≠ g; omega))
      have RE2 := Lib.hid (RE.out.setOther ⟨g, spot W x y n k, none⟩ (.int .i64 (b.getD k 0)) (by show w.heap.size + 2 ≠ g; omega))
      have GG2 := Lib.hid (GG.out.setOther ⟨g, spot W x y n k, none⟩ (.int .i64 (b.getD k 0)) (by show w3.heap.size ≠ g; omega))
      have hb4 : Below w.heap.size w (wr.setCell ⟨g, spot W x y n k, none⟩ (.int .i64 (b.getD k 0))) := hbr.setCell (by show w.heap.size ≤ g; have := g2.size; omega) _
      obtain ⟨S, hS⟩ : ∃ S, spot W x y n k = S := ⟨_, rfl⟩
      have hS2 : (y + k / n) * W + (x + k % n) = S := hS
      obtain ⟨D, hD⟩ : ∃ D, k / n = D := ⟨_, rfl⟩
      obtain ⟨M, hM⟩ : ∃ M, k % n = M := ⟨_, rfl⟩
      have qD : (k : Int) / (n : Int) = (D : Nat) := by rw [← hD]; simp
      have qR : (k : Int) % (n : Int) = (M : Nat) := by rw [← hM]; simp
      have qDw : IntKind.i64.wrap (D : Int) = (D : Nat) := IntWalk.i64_in _ (by omega)
      have qT : Int.tmod (k : Int) n = (M : Nat) := by rw [← hM, Int.tmod_eq_emod_of_nonneg (by omega)]; simp
      have hkb : k < b.length := by rw [HF.out.len]; exact hkn
      have hn0 : ¬ (n : Int) = 0 := by omega
      have hn00 : ¬ n = 0 := by omega
      have hn1i : 1 ≤ (n : Int) := by omega
      rw [hD, hM] at hS2
      rw [hS] at hs hc0 hf0 hb4 HS XX2 RR2 RE2 GG2
      obtain ⟨Y, hY⟩ : ∃ Y, y + D = Y := ⟨_, rfl⟩
      rw [hY] at hS2
      obtain ⟨P, hP⟩ : ∃ P, Y * W = P := ⟨_, rfl⟩
      rw [hP] at hS2
      have qY : IntKind.i64.wrap ((y : Int) + D) = (Y : Nat) := by rw [IntWalk.i64_in _ (by omega), ← hY]; simp
      have qP : IntKind.i64.wrap ((Y : Int) * W) = (P : Nat) := wrap_mul (by rw [← hP]; simp) (by omega)
      have qn0 : ((n : Int) == 0) = false := by simp; omega
      obtain ⟨Q, hQ⟩ : ∃ Q, P + x = Q := ⟨_, rfl⟩
      have qQ : IntKind.i64.wrap ((P : Int) + x) = (Q : Nat) := by rw [IntWalk.i64_in _ (by omega), ← hQ]; simp
      have qS : IntKind.i64.wrap ((Q : Int) + M) = (S : Nat) := by rw [IntWalk.i64_in _ (by omega), ← hS2, ← hQ]; simp; omega
      obtain ⟨d0, d1, d2, -, -, -⟩ := GG.out.three
      obtain ⟨c0, c1, c2, -, -, -⟩ := XX.out.three
      generalize b.getD k 0 = z at *
      generalize (layTo W x y n k b pix).getD S 0 = u at *
      clear hcell hfz hst hS hP hY hQ hS2
      go_wp2_with fail
      go_still_tail 21, (by kernel_rfl)
      all_goals
        go_wp2
        go_roundw
        case rel => exact ⟨k + 1, by omega, by go_num, HS.out, hb4.drew, XX2.out, RR2.out, RE2.out, GG2.out⟩
        case measure => simp [intOf]; omega
    · have e : k = n * n := by omega
      have HOL := Lib.hid (show OwnInts wr w2.heap.size (.slice (some ⟨g, 0, none⟩) pix.length cap3) (layV W x y n b pix) from by rw [e] at HO; exact HO.out)
      obtain ⟨d0, d1, d2, -, -, -⟩ := GG.out.three
      obtain ⟨r0, r1, r2, r3, r4, r5⟩ := RR.out.three
      obtain ⟨t0, t1, t2, t3⟩ := RE.out.two
      have s2 := g2.size
      clear e HO
      go_wp2
      refine bodyPost_ret (by simp [results, Tryd.results21, go_sem, r0, r1, r2, r3, r4, r5, t0, t1, t2, t3]; try rfl) rfl ?_
      exact ⟨_, rfl, (((((HOL.out.setOther (by simp; omega) _).setOther (by simp; omega) _).setOther (by simp; omega) _).setOther (by simp; omega) _).setOther (by simp; omega) _).mono s2, by go_grown⟩

end Go.Proofs.YtlpifjnjddgfaaaDoor
