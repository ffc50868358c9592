/- plane.both, size, Peak, Sum; kinref6.both, Peak, Sum: contracts. -/
import Derived.Test.YtmdpfjjbehpnbaaDoorPlaneA
import Derived.Laws.Cover1
set_option linter.unusedSimpArgs false
set_option linter.unusedVariables false
namespace Go.Proofs.YtmdpfjjbehpnbaaDoor
open Go.RowKit

theorem fbothE_zero {W H : Int} {a : List Int} {W2 H2 : Int} {b : List Int} (h : fbothE W H a W2 H2 b = 0) : May W H a ∧ May W2 H2 b ∧ W = W2 ∧ H = H2 := by
  unfold fbothE at h
  split at h
  · rename_i e
    rw [Bool.and_eq_true] at e
    split at h
    · rename_i e2; exact ⟨mayB_iff.1 e.1, mayB_iff.1 e.2, e2.1, e2.2⟩
    · omega
  · omega
theorem fbothE_ok {W H : Int} {a b : List Int} (h1 : May W H a) (h2 : May W H b) : fbothE W H a W H b = 0 := by
  unfold fbothE; rw [mayB_iff.2 h1, mayB_iff.2 h2]; simp
theorem fbothE_comm (W H : Int) (a : List Int) (W2 H2 : Int) (b : List Int) : fbothE W H a W2 H2 b = fbothE W2 H2 b W H a := by
  unfold fbothE
  rw [Bool.and_comm]
  by_cases h : W = W2 ∧ H = H2
  · obtain ⟨rfl, rfl⟩ := h; rfl
  · have h' : ¬ (W2 = W ∧ H2 = H) := fun q => h ⟨q.1.symm, q.2.symm⟩
    simp only [if_neg h, if_neg h']
def sizeV (v : Int) : Int := max v (-v)

set_option maxRecDepth 100000 in
set_option maxHeartbeats 2000000 in
theorem fboth_any (v u : Value) (W H : Int) (a : List Int) (W2 H2 : Int) (b : List Int) (w : World) (hv : FrameV w v W H a) (hu : FrameV w u W2 H2 b) :
    Calls Tryd.prog 42 #[v, u] w fun e w' => e = .returned (errV (fbothE W H a W2 H2 b)) ∧ Below w.heap.size w w' := by
  have c1 := fun w hv => pmay_any v W H a w hv
  have c2 := fun w hu => pmay_any u W2 H2 b w hu
  have HV := Lib.hid hv
  have HU := Lib.hid hu
  obtain ⟨ao, cap, rfl, -⟩ := hv.cells
  obtain ⟨bo, cap2, rfl, -⟩ := hu.cells
  clear hv hu
  cases h1 : mayB W H a with
  | false =>
    rw [h1] at c1
    have e : fbothE W H a W2 H2 b = 2 := by simp [fbothE, h1]
    rw [e]
    have C1 := Lib.hid c1
    clear c1 c2 h1 e
    have BX := Lib.hid (((Blk.new w #[.int .i64 W, .int .i64 H, .slice ao a.length cap] 24).alloc (.cells #[.int .i64 W2, .int .i64 H2, .slice bo b.length cap2] 24)))
    have BY := Lib.hid (Blk.new (w.alloc (.cells #[.int .i64 W, .int .i64 H, .slice ao a.length cap] 24)) #[.int .i64 W2, .int .i64 H2, .slice bo b.length cap2] 24)
    simp only [World.size_alloc] at BY
    go_enter Tryd.func42, Tryd.ntmps42
    go_wp2_with fail
    refine (C1.out _ (HV.out.ext (by go_grown))).mono ?_
    rintro e w1 ⟨rfl, hb1⟩
    have g1 : Below w.heap.size w w1 := ext (by go_grown) hb1
    have BX1 := Lib.hid (BX.out.ext hb1)
    have BY1 := Lib.hid (BY.out.ext hb1)
    go_wp2
    go_returns
    exact ⟨rfl, by go_grown⟩
  | true =>
    rw [h1] at c1
    have C1 := Lib.hid c1
    cases h2 : mayB W2 H2 b with
    | false =>
      rw [h2] at c2
      have e : fbothE W H a W2 H2 b = 2 := by simp [fbothE, h2]
      rw [e]
      have C2 := Lib.hid c2
      clear c1 c2 h1 h2 e
      have BX := Lib.hid (((Blk.new w #[.int .i64 W, .int .i64 H, .slice ao a.length cap] 24).alloc (.cells #[.int .i64 W2, .int .i64 H2, .slice bo b.length cap2] 24)))
      have BY := Lib.hid (Blk.new (w.alloc (.cells #[.int .i64 W, .int .i64 H, .slice ao a.length cap] 24)) #[.int .i64 W2, .int .i64 H2, .slice bo b.length cap2] 24)
      simp only [World.size_alloc] at BY
      go_enter Tryd.func42, Tryd.ntmps42
      go_wp2_with fail
      refine (C1.out _ (HV.out.ext (by go_grown))).mono ?_
      rintro e w1 ⟨rfl, hb1⟩
      have g1 : Below w.heap.size w w1 := ext (by go_grown) hb1
      have BX1 := Lib.hid (BX.out.ext hb1)
      have BY1 := Lib.hid (BY.out.ext hb1)
      have d0 : _ = some _ := BY1.out.cell 0
      have d1 : _ = some _ := BY1.out.cell 1
      have d2 : _ = some _ := BY1.out.cell 2
      go_wp2_with fail
      clear d0 d1 d2
      refine (C2.out _ ((HU.out.ext g1).ext (by go_grown))).mono ?_
      rintro e w2 ⟨rfl, hb2⟩
      have g2 : Below w.heap.size w w2 := ext g1 hb2
      have BX2 := Lib.hid (BX1.out.ext hb2)
      have BY2 := Lib.hid (BY1.out.ext hb2)
      go_wp2
      go_returns
      exact ⟨rfl, by go_grown⟩
    | true =>
      rw [h2] at c2
      have C2 := Lib.hid c2
      by_cases hw : W = W2
      · have q1 : (W != W2) = false := by simp [hw]
        by_cases hh : H = H2
        · have q2 : (H != H2) = false := by simp [hh]
          have e : fbothE W H a W2 H2 b = 0 := by unfold fbothE; rw [h1, h2]; simp [hw, hh]
          rw [e]
          clear c1 c2 h1 h2 e hw hh
          have BX := Lib.hid (((Blk.new w #[.int .i64 W, .int .i64 H, .slice ao a.length cap] 24).alloc (.cells #[.int .i64 W2, .int .i64 H2, .slice bo b.length cap2] 24)))
          have BY := Lib.hid (Blk.new (w.alloc (.cells #[.int .i64 W, .int .i64 H, .slice ao a.length cap] 24)) #[.int .i64 W2, .int .i64 H2, .slice bo b.length cap2] 24)
          simp only [World.size_alloc] at BY
          go_enter Tryd.func42, Tryd.ntmps42
          go_wp2_with fail
          refine (C1.out _ (HV.out.ext (by go_grown))).mono ?_
          rintro e w1 ⟨rfl, hb1⟩
          have g1 : Below w.heap.size w w1 := ext (by go_grown) hb1
          have BX1 := Lib.hid (BX.out.ext hb1)
          have BY1 := Lib.hid (BY.out.ext hb1)
          have d0 : _ = some _ := BY1.out.cell 0
          have d1 : _ = some _ := BY1.out.cell 1
          have d2 : _ = some _ := BY1.out.cell 2
          go_wp2_with fail
          clear d0 d1 d2
          refine (C2.out _ ((HU.out.ext g1).ext (by go_grown))).mono ?_
          rintro e w2 ⟨rfl, hb2⟩
          have g2 : Below w.heap.size w w2 := ext g1 hb2
          have BX2 := Lib.hid (BX1.out.ext hb2)
          have BY2 := Lib.hid (BY1.out.ext hb2)
          have c0 : _ = some _ := BX2.out.cell 0
          have d0 : _ = some _ := BY2.out.cell 0
          have c1 : _ = some _ := BX2.out.cell 1
          have d1 : _ = some _ := BY2.out.cell 1
          go_wp2
          go_returns
          exact ⟨rfl, by go_grown⟩
        · have q2 : (H != H2) = true := by simp [hh]
          have e : fbothE W H a W2 H2 b = 14 := by unfold fbothE; rw [h1, h2]; simp [hh]
          rw [e]
          clear c1 c2 h1 h2 e hw hh
          have BX := Lib.hid (((Blk.new w #[.int .i64 W, .int .i64 H, .slice ao a.length cap] 24).alloc (.cells #[.int .i64 W2, .int .i64 H2, .slice bo b.length cap2] 24)))
          have BY := Lib.hid (Blk.new (w.alloc (.cells #[.int .i64 W, .int .i64 H, .slice ao a.length cap] 24)) #[.int .i64 W2, .int .i64 H2, .slice bo b.length cap2] 24)
          simp only [World.size_alloc] at BY
          go_enter Tryd.func42, Tryd.ntmps42
          go_wp2_with fail
          refine (C1.out _ (HV.out.ext (by go_grown))).mono ?_
          rintro e w1 ⟨rfl, hb1⟩
          have g1 : Below w.heap.size w w1 := ext (by go_grown) hb1
          have BX1 := Lib.hid (BX.out.ext hb1)
          have BY1 := Lib.hid (BY.out.ext hb1)
          have d0 : _ = some _ := BY1.out.cell 0
          have d1 : _ = some _ := BY1.out.cell 1
          have d2 : _ = some _ := BY1.out.cell 2
          go_wp2_with fail
          clear d0 d1 d2
          refine (C2.out _ ((HU.out.ext g1).ext (by go_grown))).mono ?_
          rintro e w2 ⟨rfl, hb2⟩
          have g2 : Below w.heap.size w w2 := ext g1 hb2
          have BX2 := Lib.hid (BX1.out.ext hb2)
          have BY2 := Lib.hid (BY1.out.ext hb2)
          have c0 : _ = some _ := BX2.out.cell 0
          have d0 : _ = some _ := BY2.out.cell 0
          have c1 : _ = some _ := BX2.out.cell 1
          have d1 : _ = some _ := BY2.out.cell 1
          go_wp2
          go_returns
          exact ⟨rfl, by go_grown⟩
      · have q1 : (W != W2) = true := by simp [hw]
        have e : fbothE W H a W2 H2 b = 14 := by unfold fbothE; rw [h1, h2]; simp [hw]
        rw [e]
        clear c1 c2 h1 h2 e hw
        have BX := Lib.hid (((Blk.new w #[.int .i64 W, .int .i64 H, .slice ao a.length cap] 24).alloc (.cells #[.int .i64 W2, .int .i64 H2, .slice bo b.length cap2] 24)))
        have BY := Lib.hid (Blk.new (w.alloc (.cells #[.int .i64 W, .int .i64 H, .slice ao a.length cap] 24)) #[.int .i64 W2, .int .i64 H2, .slice bo b.length cap2] 24)
        simp only [World.size_alloc] at BY
        go_enter Tryd.func42, Tryd.ntmps42
        go_wp2_with fail
        refine (C1.out _ (HV.out.ext (by go_grown))).mono ?_
        rintro e w1 ⟨rfl, hb1⟩
        have g1 : Below w.heap.size w w1 := ext (by go_grown) hb1
        have BX1 := Lib.hid (BX.out.ext hb1)
        have BY1 := Lib.hid (BY.out.ext hb1)
        have d0 : _ = some _ := BY1.out.cell 0
        have d1 : _ = some _ := BY1.out.cell 1
        have d2 : _ = some _ := BY1.out.cell 2
        go_wp2_with fail
        clear d0 d1 d2
        refine (C2.out _ ((HU.out.ext g1).ext (by go_grown))).mono ?_
        rintro e w2 ⟨rfl, hb2⟩
        have g2 : Below w.heap.size w w2 := ext g1 hb2
        have BX2 := Lib.hid (BX1.out.ext hb2)
        have BY2 := Lib.hid (BY1.out.ext hb2)
        have c0 : _ = some _ := BX2.out.cell 0
        have d0 : _ = some _ := BY2.out.cell 0
        have c1 : _ = some _ := BX2.out.cell 1
        have d1 : _ = some _ := BY2.out.cell 1
        go_wp2
        go_returns
        exact ⟨rfl, by go_grown⟩

set_option maxRecDepth 100000 in
set_option maxHeartbeats 2000000 in
theorem fboth_ref (v u : Value) (W H : Int) (a : List Int) (W2 H2 : Int) (b : List Int) (w : World) (hv : FrameV w v W H a) (hu : FrameV w u W2 H2 b) :
    Calls Tryd.prog 50 #[v, u] w fun e w' => e = .returned (.agg #[.int .i64 (fbothE W H a W2 H2 b), .slice none 0 0]) ∧ Below w.heap.size w w' := by
  have c1 := fun w hv => rmay_any v W H a w hv
  have c2 := fun w hu => rmay_any u W2 H2 b w hu
  have HV := Lib.hid hv
  have HU := Lib.hid hu
  obtain ⟨ao, cap, rfl, -⟩ := hv.cells
  obtain ⟨bo, cap2, rfl, -⟩ := hu.cells
  clear hv hu
  cases h1 : mayB W H a with
  | false =>
    rw [h1] at c1
    have e : fbothE W H a W2 H2 b = 2 := by simp [fbothE, h1]
    rw [e]
    have C1 := Lib.hid c1
    clear c1 c2 h1 e
    have BX := Lib.hid (((Blk.new w #[.int .i64 W, .int .i64 H, .slice ao a.length cap] 24).alloc (.cells #[.int .i64 W2, .int .i64 H2, .slice bo b.length cap2] 24)).alloc (.cells #[.int .i64 0, .slice none 0 0] 35))
    have BY := Lib.hid ((Blk.new (w.alloc (.cells #[.int .i64 W, .int .i64 H, .slice ao a.length cap] 24)) #[.int .i64 W2, .int .i64 H2, .slice bo b.length cap2] 24).alloc (.cells #[.int .i64 0, .slice none 0 0] 35))
    have BE := Lib.hid (Blk.new ((w.alloc (.cells #[.int .i64 W, .int .i64 H, .slice ao a.length cap] 24)).alloc (.cells #[.int .i64 W2, .int .i64 H2, .slice bo b.length cap2] 24)) #[.int .i64 0, .slice none 0 0] 35)
    simp only [World.size_alloc] at BY BE
    go_enter Tryd.func50, Tryd.ntmps50
    go_wp2_with fail
    refine (C1.out _ (HV.out.ext (by go_grown))).mono ?_
    rintro e w1 ⟨rfl, hb1⟩
    have g1 : Below w.heap.size w w1 := ext (by go_grown) hb1
    have BX1 := Lib.hid (BX.out.ext hb1)
    have BY1 := Lib.hid (BY.out.ext hb1)
    have BE1 := Lib.hid (BE.out.ext hb1)
    go_wp2_with fail
    refine (fail_any _ _).mono ?_
    rintro e w2 ⟨rfl, hb2⟩
    have g2 : Below w.heap.size w w2 := ext g1 hb2
    obtain ⟨r0, r1, r2, r3⟩ := (BE1.out.ext hb2).two
    go_wp2
    refine bodyPost_ret (by simp [results, Tryd.results50, go_sem, r0, r1, r2, r3]; try rfl) rfl ?_
    exact ⟨rfl, by go_grown⟩
  | true =>
    rw [h1] at c1
    have C1 := Lib.hid c1
    cases h2 : mayB W2 H2 b with
    | false =>
      rw [h2] at c2
      have e : fbothE W H a W2 H2 b = 2 := by simp [fbothE, h2]
      rw [e]
      have C2 := Lib.hid c2
      clear c1 c2 h1 h2 e
      have BX := Lib.hid (((Blk.new w #[.int .i64 W, .int .i64 H, .slice ao a.length cap] 24).alloc (.cells #[.int .i64 W2, .int .i64 H2, .slice bo b.length cap2] 24)).alloc (.cells #[.int .i64 0, .slice none 0 0] 35))
      have BY := Lib.hid ((Blk.new (w.alloc (.cells #[.int .i64 W, .int .i64 H, .slice ao a.length cap] 24)) #[.int .i64 W2, .int .i64 H2, .slice bo b.length cap2] 24).alloc (.cells #[.int .i64 0, .slice none 0 0] 35))
      have BE := Lib.hid (Blk.new ((w.alloc (.cells #[.int .i64 W, .int .i64 H, .slice ao a.length cap] 24)).alloc (.cells #[.int .i64 W2, .int .i64 H2, .slice bo b.length cap2] 24)) #[.int .i64 0, .slice none 0 0] 35)
      simp only [World.size_alloc] at BY BE
      go_enter Tryd.func50, Tryd.ntmps50
      go_wp2_with fail
      refine (C1.out _ (HV.out.ext (by go_grown))).mono ?_
      rintro e w1 ⟨rfl, hb1⟩
      have g1 : Below w.heap.size w w1 := ext (by go_grown) hb1
      have BX1 := Lib.hid (BX.out.ext hb1)
      have BY1 := Lib.hid (BY.out.ext hb1)
      have BE1 := Lib.hid (BE.out.ext hb1)
      have d0 : _ = some _ := BY1.out.cell 0
      have d1 : _ = some _ := BY1.out.cell 1
      have d2 : _ = some _ := BY1.out.cell 2
      go_wp2_with fail
      clear d0 d1 d2
      refine (C2.out _ ((HU.out.ext g1).ext (by go_grown))).mono ?_
      rintro e w2 ⟨rfl, hb2⟩
      have g2 : Below w.heap.size w w2 := ext g1 hb2
      have BX2 := Lib.hid (BX1.out.ext hb2)
      have BY2 := Lib.hid (BY1.out.ext hb2)
      have BE2 := Lib.hid (BE1.out.ext hb2)
      go_wp2_with fail
      refine (fail_any _ _).mono ?_
      rintro e w3 ⟨rfl, hb3⟩
      have g3 : Below w.heap.size w w3 := ext g2 hb3
      obtain ⟨r0, r1, r2, r3⟩ := (BE2.out.ext hb3).two
      go_wp2
      refine bodyPost_ret (by simp [results, Tryd.results50, go_sem, r0, r1, r2, r3]; try rfl) rfl ?_
      exact ⟨rfl, by go_grown⟩
    | true =>
      rw [h2] at c2
      have C2 := Lib.hid c2
      by_cases hw : W = W2
      · have q1 : (W != W2) = false := by simp [hw]
        by_cases hh : H = H2
        · have q2 : (H != H2) = false := by simp [hh]
          have e : fbothE W H a W2 H2 b = 0 := by unfold fbothE; rw [h1, h2]; simp [hw, hh]
          rw [e]
          clear c1 c2 h1 h2 e hw hh
          have BX := Lib.hid (((Blk.new w #[.int .i64 W, .int .i64 H, .slice ao a.length cap] 24).alloc (.cells #[.int .i64 W2, .int .i64 H2, .slice bo b.length cap2] 24)).alloc (.cells #[.int .i64 0, .slice none 0 0] 35))
          have BY := Lib.hid ((Blk.new (w.alloc (.cells #[.int .i64 W, .int .i64 H, .slice ao a.length cap] 24)) #[.int .i64 W2, .int .i64 H2, .slice bo b.length cap2] 24).alloc (.cells #[.int .i64 0, .slice none 0 0] 35))
          have BE := Lib.hid (Blk.new ((w.alloc (.cells #[.int .i64 W, .int .i64 H, .slice ao a.length cap] 24)).alloc (.cells #[.int .i64 W2, .int .i64 H2, .slice bo b.length cap2] 24)) #[.int .i64 0, .slice none 0 0] 35)
          simp only [World.size_alloc] at BY BE
          go_enter Tryd.func50, Tryd.ntmps50
          go_wp2_with fail
          refine (C1.out _ (HV.out.ext (by go_grown))).mono ?_
          rintro e w1 ⟨rfl, hb1⟩
          have g1 : Below w.heap.size w w1 := ext (by go_grown) hb1
          have BX1 := Lib.hid (BX.out.ext hb1)
          have BY1 := Lib.hid (BY.out.ext hb1)
          have BE1 := Lib.hid (BE.out.ext hb1)
          have d0 : _ = some _ := BY1.out.cell 0
          have d1 : _ = some _ := BY1.out.cell 1
          have d2 : _ = some _ := BY1.out.cell 2
          go_wp2_with fail
          clear d0 d1 d2
          refine (C2.out _ ((HU.out.ext g1).ext (by go_grown))).mono ?_
          rintro e w2 ⟨rfl, hb2⟩
          have g2 : Below w.heap.size w w2 := ext g1 hb2
          have BX2 := Lib.hid (BX1.out.ext hb2)
          have BY2 := Lib.hid (BY1.out.ext hb2)
          have BE2 := Lib.hid (BE1.out.ext hb2)
          have c0 : _ = some _ := BX2.out.cell 0
          have d0 : _ = some _ := BY2.out.cell 0
          have c1 : _ = some _ := BX2.out.cell 1
          have d1 : _ = some _ := BY2.out.cell 1
          obtain ⟨r0, r1, r2, r3⟩ := BE2.out.two
          go_wp2
          refine bodyPost_ret (by simp [results, Tryd.results50, go_sem, r0, r1, r2, r3]; try rfl) rfl ?_
          exact ⟨rfl, by go_grown⟩
        · have q2 : (H != H2) = true := by simp [hh]
          have e : fbothE W H a W2 H2 b = 14 := by unfold fbothE; rw [h1, h2]; simp [hh]
          rw [e]
          clear c1 c2 h1 h2 e hw hh
          have BX := Lib.hid (((Blk.new w #[.int .i64 W, .int .i64 H, .slice ao a.length cap] 24).alloc (.cells #[.int .i64 W2, .int .i64 H2, .slice bo b.length cap2] 24)).alloc (.cells #[.int .i64 0, .slice none 0 0] 35))
          have BY := Lib.hid ((Blk.new (w.alloc (.cells #[.int .i64 W, .int .i64 H, .slice ao a.length cap] 24)) #[.int .i64 W2, .int .i64 H2, .slice bo b.length cap2] 24).alloc (.cells #[.int .i64 0, .slice none 0 0] 35))
          have BE := Lib.hid (Blk.new ((w.alloc (.cells #[.int .i64 W, .int .i64 H, .slice ao a.length cap] 24)).alloc (.cells #[.int .i64 W2, .int .i64 H2, .slice bo b.length cap2] 24)) #[.int .i64 0, .slice none 0 0] 35)
          simp only [World.size_alloc] at BY BE
          go_enter Tryd.func50, Tryd.ntmps50
          go_wp2_with fail
          refine (C1.out _ (HV.out.ext (by go_grown))).mono ?_
          rintro e w1 ⟨rfl, hb1⟩
          have g1 : Below w.heap.size w w1 := ext (by go_grown) hb1
          have BX1 := Lib.hid (BX.out.ext hb1)
          have BY1 := Lib.hid (BY.out.ext hb1)
          have BE1 := Lib.hid (BE.out.ext hb1)
          have d0 : _ = some _ := BY1.out.cell 0
          have d1 : _ = some _ := BY1.out.cell 1
          have d2 : _ = some _ := BY1.out.cell 2
          go_wp2_with fail
          clear d0 d1 d2
          refine (C2.out _ ((HU.out.ext g1).ext (by go_grown))).mono ?_
          rintro e w2 ⟨rfl, hb2⟩
          have g2 : Below w.heap.size w w2 := ext g1 hb2
          have BX2 := Lib.hid (BX1.out.ext hb2)
          have BY2 := Lib.hid (BY1.out.ext hb2)
          have BE2 := Lib.hid (BE1.out.ext hb2)
          have c0 : _ = some _ := BX2.out.cell 0
          have d0 : _ = some _ := BY2.out.cell 0
          have c1 : _ = some _ := BX2.out.cell 1
          have d1 : _ = some _ := BY2.out.cell 1
          go_wp2_with fail
          clear c0 c1 d0 d1
          refine (fail_any _ _).mono ?_
          rintro e w3 ⟨rfl, hb3⟩
          have g3 : Below w.heap.size w w3 := ext g2 hb3
          obtain ⟨r0, r1, r2, r3⟩ := (BE2.out.ext hb3).two
          go_wp2
          refine bodyPost_ret (by simp [results, Tryd.results50, go_sem, r0, r1, r2, r3]; try rfl) rfl ?_
          exact ⟨rfl, by go_grown⟩
      · have q1 : (W != W2) = true := by simp [hw]
        have e : fbothE W H a W2 H2 b = 14 := by unfold fbothE; rw [h1, h2]; simp [hw]
        rw [e]
        clear c1 c2 h1 h2 e hw
        have BX := Lib.hid (((Blk.new w #[.int .i64 W, .int .i64 H, .slice ao a.length cap] 24).alloc (.cells #[.int .i64 W2, .int .i64 H2, .slice bo b.length cap2] 24)).alloc (.cells #[.int .i64 0, .slice none 0 0] 35))
        have BY := Lib.hid ((Blk.new (w.alloc (.cells #[.int .i64 W, .int .i64 H, .slice ao a.length cap] 24)) #[.int .i64 W2, .int .i64 H2, .slice bo b.length cap2] 24).alloc (.cells #[.int .i64 0, .slice none 0 0] 35))
        have BE := Lib.hid (Blk.new ((w.alloc (.cells #[.int .i64 W, .int .i64 H, .slice ao a.length cap] 24)).alloc (.cells #[.int .i64 W2, .int .i64 H2, .slice bo b.length cap2] 24)) #[.int .i64 0, .slice none 0 0] 35)
        simp only [World.size_alloc] at BY BE
        go_enter Tryd.func50, Tryd.ntmps50
        go_wp2_with fail
        refine (C1.out _ (HV.out.ext (by go_grown))).mono ?_
        rintro e w1 ⟨rfl, hb1⟩
        have g1 : Below w.heap.size w w1 := ext (by go_grown) hb1
        have BX1 := Lib.hid (BX.out.ext hb1)
        have BY1 := Lib.hid (BY.out.ext hb1)
        have BE1 := Lib.hid (BE.out.ext hb1)
        have d0 : _ = some _ := BY1.out.cell 0
        have d1 : _ = some _ := BY1.out.cell 1
        have d2 : _ = some _ := BY1.out.cell 2
        go_wp2_with fail
        clear d0 d1 d2
        refine (C2.out _ ((HU.out.ext g1).ext (by go_grown))).mono ?_
        rintro e w2 ⟨rfl, hb2⟩
        have g2 : Below w.heap.size w w2 := ext g1 hb2
        have BX2 := Lib.hid (BX1.out.ext hb2)
        have BY2 := Lib.hid (BY1.out.ext hb2)
        have BE2 := Lib.hid (BE1.out.ext hb2)
        have c0 : _ = some _ := BX2.out.cell 0
        have d0 : _ = some _ := BY2.out.cell 0
        have c1 : _ = some _ := BX2.out.cell 1
        have d1 : _ = some _ := BY2.out.cell 1
        go_wp2_with fail
        clear c0 c1 d0 d1
        refine (fail_any _ _).mono ?_
        rintro e w3 ⟨rfl, hb3⟩
        have g3 : Below w.heap.size w w3 := ext g2 hb3
        obtain ⟨r0, r1, r2, r3⟩ := (BE2.out.ext hb3).two
        go_wp2
        refine bodyPost_ret (by simp [results, Tryd.results50, go_sem, r0, r1, r2, r3]; try rfl) rfl ?_
        exact ⟨rfl, by go_grown⟩

end Go.Proofs.YtmdpfjjbehpnbaaDoor
