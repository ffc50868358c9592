/- kinlaw7.BlockParts: the walk. -/
import Derived.Test.YtceobpoibiffhaaDoorBlockBack
set_option linter.unusedSimpArgs false
set_option linter.unusedVariables false
namespace Go.Proofs.YtceobpoibiffhaaDoor
open Go.RowKit Go.Extern.Stop Go.Stop Go.Extern


set_option maxRecDepth 100000 in
set_option maxHeartbeats 4000000 in
theorem parts_long0 (v u : Value) (b : List Int) (ls : List (List Int)) (w : World) (hv : Ints w v b) (hu : Rows w u ls) (hg : TypeIs w) (h1 : 5000 < b.length) :
    Calls Tryd.prog 7 #[v, u] w fun e w' => e = .returned (.bool true) ∧ Below w.heap.size w w' := by
  have HG := Lib.hid hg
  have HV := Lib.hid hv
  have HU := Lib.hid hu
  obtain ⟨ao, cap, rfl⟩ := hv.shape
  obtain ⟨ao2, cap2, rfl⟩ := hu.shape
  clear hv hu hg
  go_enter Tryd.func7, Tryd.ntmps7
  have g0 : Below w.heap.size w w := Below.refl _ _
  go_wp2_with fail
  refine (first_any _ (HG.out.ext (by go_grown))).mono ?_
  rintro e w1 ⟨rfl, hb1⟩
  have j1 : Below w.heap.size w w1 := ext (by go_grown) hb1
  have g1 : Below w.heap.size w w1 := ext g0 j1
  have s1 := j1.size
  have t1 := g1.size
  go_wp2_with fail
  refine (first_any _ ((HG.out.ext j1).ext (by go_grown))).mono ?_
  rintro e w2 ⟨rfl, hb2⟩
  have j2 : Below w1.heap.size w1 w2 := ext (by go_grown) hb2
  have g2 : Below w.heap.size w w2 := ext g1 j2
  have s2 := j2.size
  have t2 := g2.size
  go_wp2
  all_goals go_returns
  all_goals exact ⟨by first | rfl | (simp; done) | (simp; omega), g2⟩

set_option maxRecDepth 100000 in
set_option maxHeartbeats 4000000 in
theorem parts_long1 (v u : Value) (b : List Int) (ls : List (List Int)) (w : World) (hv : Ints w v b) (hu : Rows w u ls) (hg : TypeIs w) (h1 : b.length ≤ 5000) (h2 : 100 < ls.length) :
    Calls Tryd.prog 7 #[v, u] w fun e w' => e = .returned (.bool true) ∧ Below w.heap.size w w' := by
  have HG := Lib.hid hg
  have HV := Lib.hid hv
  have HU := Lib.hid hu
  obtain ⟨ao, cap, rfl⟩ := hv.shape
  obtain ⟨ao2, cap2, rfl⟩ := hu.shape
  clear hv hu hg
  go_enter Tryd.func7, Tryd.ntmps7
  have g0 : Below w.heap.size w w := Below.refl _ _
  go_wp2_with fail
  refine (first_any _ (HG.out.ext (by go_grown))).mono ?_
  rintro e w1 ⟨rfl, hb1⟩
  have j1 : Below w.heap.size w w1 := ext (by go_grown) hb1
  have g1 : Below w.heap.size w w1 := ext g0 j1
  have s1 := j1.size
  have t1 := g1.size
  go_wp2_with fail
  refine (first_any _ ((HG.out.ext j1).ext (by go_grown))).mono ?_
  rintro e w2 ⟨rfl, hb2⟩
  have j2 : Below w1.heap.size w1 w2 := ext (by go_grown) hb2
  have g2 : Below w.heap.size w w2 := ext g1 j2
  have s2 := j2.size
  have t2 := g2.size
  go_wp2
  all_goals go_returns
  all_goals exact ⟨by first | rfl | (simp; done) | (simp; omega), g2⟩

set_option maxRecDepth 100000 in
set_option maxHeartbeats 4000000 in
theorem parts_short (v u : Value) (b : List Int) (ls : List (List Int)) (w : World) (hv : Ints w v b) (hu : Rows w u ls) (hg : TypeIs w) (h1 : b.length ≤ 5000) (h2 : ls.length ≤ 100) :
    Calls Tryd.prog 7 #[v, u] w fun e w' => e = .returned (.bool true) ∧ Below w.heap.size w w' := by
  have HG := Lib.hid hg
  have HV := Lib.hid hv
  have HU := Lib.hid hu
  obtain ⟨ao, cap, rfl⟩ := hv.shape
  obtain ⟨ao2, cap2, rfl⟩ := hu.shape
  have C1 := Lib.hid (fun v w hv => pquarter_any v b w hv)
  have C2 := Lib.hid (fun v w hv => rquarter_any v b w hv)
  have C3 := Lib.hid (fun v w hv => pwhole_any v ls w hv (by omega))
  have C4 := Lib.hid (fun v w hv => rwhole_any v ls w hv (by omega))
  have C5 := Lib.hid (fun v w hv => pzero_any v b w hv)
  have C6 := Lib.hid (fun v w hv => rzero_any v b w hv)
  clear hv hu hg
  generalize quarterE b = qe at *
  generalize quarterR b = qr at *
  generalize wholeE ls = we at *
  generalize okL we (wholeL ls) = wl at *
  generalize withinB b 0 0 = zb at *
  go_enter Tryd.func7, Tryd.ntmps7
  have g0 : Below w.heap.size w w := Below.refl _ _
  go_wp2_with fail
  refine (first_any _ (HG.out.ext (by go_grown))).mono ?_
  rintro e w1 ⟨rfl, hb1⟩
  have j1 : Below w.heap.size w w1 := ext (by go_grown) hb1
  have g1 : Below w.heap.size w w1 := ext g0 j1
  have s1 := j1.size
  have t1 := g1.size
  go_wp2
  go_loop [5] (fun i => ∃ k : Nat, k ≤ ls.length ∧ i = .int .i64 k) (fun i => ls.length - (intOf i).toNat)
  case atStart => exact ⟨0, Nat.zero_le _, rfl⟩
  case round =>
    obtain ⟨k, hk, rfl⟩ := hrel
    by_cases hlt : k < ls.length
    · obtain ⟨b1, o1, p, rfl, c1, hp⟩ := ((HU.out.ext j1)).at1 hlt
      obtain ⟨po, pc, rfl⟩ := hp.shape
      have hpl := hp.len
      clear hp
      generalize ls.getD k [] = x at *
      by_cases hx : 5000 < x.length
      · go_wp2_with fail
        refine (first_any _ ((HG.out.ext j1).ext (by go_grown))).mono ?_
        rintro e w2 ⟨rfl, hb2⟩
        have j2 : Below w1.heap.size w1 w2 := ext (by go_grown) hb2
        have g2 : Below w.heap.size w w2 := ext g1 j2
        have s2 := j2.size
        have t2 := g2.size
        go_wp2
        all_goals go_returns
        all_goals exact ⟨by first | rfl | (simp; done) | (simp; omega), g2⟩
      · go_wp2
        go_round
        case rel => exact ⟨k + 1, by omega, by go_num⟩
        case measure => simp [intOf]; omega
    · clear hk
      go_wp2_with fail
      refine (C1.out _ _ ((HV.out.ext j1).ext (by go_grown))).mono ?_
      rintro e w2 ⟨q, rfl, hq, hb2⟩
      have j2 : Below w1.heap.size w1 w2 := ext (by go_grown) hb2
      have g2 : Below w.heap.size w w2 := ext g1 j2
      have s2 := j2.size
      have t2 := g2.size
      have HQ := Lib.hid (hq)
      clear hq
      go_wp2_with fail
      refine (C2.out _ _ (((HV.out.ext j1).ext j2).ext (by go_grown))).mono ?_
      rintro e w3 ⟨r, rfl, hr, hb3⟩
      have j3 : Below w2.heap.size w2 w3 := ext (by go_grown) hb3
      have g3 : Below w.heap.size w w3 := ext g2 j3
      have s3 := j3.size
      have t3 := g3.size
      have HR := Lib.hid (hr)
      clear hr
      go_wp2_with fail
      refine (C3.out _ _ ((((HU.out.ext j1).ext j2).ext j3).ext (by go_grown))).mono ?_
      rintro e w4 ⟨x, rfl, hx, hb4⟩
      have j4 : Below w3.heap.size w3 w4 := ext (by go_grown) hb4
      have g4 : Below w.heap.size w w4 := ext g3 j4
      have s4 := j4.size
      have t4 := g4.size
      have HX := Lib.hid (hx.ints)
      clear hx
      have EF := Lib.hid ((Blk.new w3 #[.int .i64 (qe), .slice none 0 0] 32).ext hb4)
      go_wp2_with fail
      refine (C4.out _ _ (((((HU.out.ext j1).ext j2).ext j3).ext j4).ext (by go_grown))).mono ?_
      rintro e w5 ⟨y, rfl, hy, hb5⟩
      have j5 : Below w4.heap.size w4 w5 := ext (by go_grown) hb5
      have g5 : Below w.heap.size w w5 := ext g4 j5
      have s5 := j5.size
      have t5 := g5.size
      have HY := Lib.hid (hy.ints)
      clear hy
      go_wp2_with fail
      refine (first_any _ ((((((HG.out.ext j1).ext j2).ext j3).ext j4).ext j5).ext (by go_grown))).mono ?_
      rintro e w6 ⟨rfl, hb6⟩
      have j6 : Below w5.heap.size w5 w6 := ext (by go_grown) hb6
      have g6 : Below w.heap.size w w6 := ext g5 j6
      have s6 := j6.size
      have t6 := g6.size
      have EH := Lib.hid ((Blk.new w5 #[.int .i64 (we), .slice none 0 0] 32).ext hb6)
      go_wp2_with fail
      refine (lists_same _ _ _ _ (((((HQ.out.ext j3).ext j4).ext j5).ext j6).ext (by go_grown)) ((((HR.out.ext j4).ext j5).ext j6).ext (by go_grown))).mono ?_
      rintro e w7 ⟨rfl, hb7⟩
      have j7 : Below w6.heap.size w6 w7 := ext (by go_grown) hb7
      have g7 : Below w.heap.size w w7 := ext g6 j7
      have s7 := j7.size
      have t7 := g7.size
      obtain ⟨EF0, EF1, EF2, EF3⟩ := (((EF.out.ext j5).ext j6).ext j7).two
      go_wp2_with fail
      clear EF0 EF1 EF2 EF3
      refine (same_any _ _ ((((((((HG.out.ext j1).ext j2).ext j3).ext j4).ext j5).ext j6).ext j7).ext (by go_grown))).mono ?_
      rintro e w8 ⟨rfl, hb8⟩
      have j8 : Below w7.heap.size w7 w8 := ext (by go_grown) hb8
      have g8 : Below w.heap.size w w8 := ext g7 j8
      have s8 := j8.size
      have t8 := g8.size
      go_wp2_with fail
      refine (ints_any _ _ _ _ _ (((((HX.out.ext j5).ext j6).ext j7).ext j8).ext (by go_grown)) ((((HY.out.ext j6).ext j7).ext j8).ext (by go_grown))).mono ?_
      rintro e w9 ⟨rfl, hb9⟩
      have j9 : Below w8.heap.size w8 w9 := ext (by go_grown) hb9
      have g9 : Below w.heap.size w w9 := ext g8 j9
      have s9 := j9.size
      have t9 := g9.size
      simp only [decide_true]
      obtain ⟨EH0, EH1, EH2, EH3⟩ := (((EH.out.ext j7).ext j8).ext j9).two
      go_wp2_with fail
      clear EH0 EH1 EH2 EH3
      refine (same_any _ _ ((((((((((HG.out.ext j1).ext j2).ext j3).ext j4).ext j5).ext j6).ext j7).ext j8).ext j9).ext (by go_grown))).mono ?_
      rintro e w10 ⟨rfl, hb10⟩
      have j10 : Below w9.heap.size w9 w10 := ext (by go_grown) hb10
      have g10 : Below w.heap.size w w10 := ext g9 j10
      have s10 := j10.size
      have t10 := g10.size
      go_wp2_with fail
      refine (C5.out _ _ (((((((((((HV.out.ext j1).ext j2).ext j3).ext j4).ext j5).ext j6).ext j7).ext j8).ext j9).ext j10).ext (by go_grown))).mono ?_
      rintro e w' ⟨rfl, rfl⟩
      go_wp2_with fail
      refine (C6.out _ _ (((((((((((HV.out.ext j1).ext j2).ext j3).ext j4).ext j5).ext j6).ext j7).ext j8).ext j9).ext j10).ext (by go_grown))).mono ?_
      rintro e w' ⟨rfl, rfl⟩
      go_wp2
      all_goals go_returns
      all_goals exact ⟨by first | rfl | (simp; done) | (simp; omega), g10⟩

theorem parts_walk (v u : Value) (b : List Int) (ls : List (List Int)) (w : World) (hv : Ints w v b) (hu : Rows w u ls) (hg : TypeIs w) :
    Calls Tryd.prog 7 #[v, u] w fun e w' => e = .returned (.bool true) ∧ Below w.heap.size w w' := by
  by_cases h1 : b.length ≤ 5000
  · by_cases h2 : ls.length ≤ 100
    · exact parts_short v u b ls w hv hu hg h1 h2
    · exact parts_long1 v u b ls w hv hu hg h1 (by omega)
  · exact parts_long0 v u b ls w hv hu hg (by omega)
end Go.Proofs.YtceobpoibiffhaaDoor
