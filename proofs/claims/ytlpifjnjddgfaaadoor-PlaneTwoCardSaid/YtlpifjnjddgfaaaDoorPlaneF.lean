/- kinlaw6.first, few. -/
import Derived.Test.YtlpifjnjddgfaaaDoorPlaneE
import Derived.Test.YtlpifjnjddgfaaaDoorSame
set_option linter.unusedSimpArgs false
set_option linter.unusedVariables false
namespace Go.Proofs.YtlpifjnjddgfaaaDoor
open Go.RowKit Go.Extern.Stop Go.Stop Go.Extern

theorem same_no {W H : Int} {a : List Int} {W2 H2 : Int} {b : List Int} (h : fbothE W H a W2 H2 b ≠ 0) : (mayB W H a && (mayB W2 H2 b && (decide (W = W2) && (decide (H = H2) && decide (a = b))))) = false := by
  cases e : (mayB W H a && (mayB W2 H2 b && (decide (W = W2) && (decide (H = H2) && decide (a = b))))) with
  | false => rfl
  | true =>
    simp only [Bool.and_eq_true, decide_eq_true_eq] at e
    exact absurd (by unfold fbothE; rw [e.1, e.2.1]; simp [e.2.2.1, e.2.2.2.1]) h
theorem same_yes {W H : Int} {a : List Int} {W2 H2 : Int} {b : List Int} (h : fbothE W H a W2 H2 b = 0) : (mayB W H a && (mayB W2 H2 b && (decide (W = W2) && (decide (H = H2) && decide (a = b))))) = decide (a = b) := by
  obtain ⟨h1, h2, h3, h4⟩ := fbothE_zero h
  rw [mayB_iff.2 h1, mayB_iff.2 h2, decide_eq_true h3, decide_eq_true h4]; simp
theorem few_any (v : Value) (W H : Int) (a : List Int) (w : World) (hv : FrameV w v W H a) :
    Calls Tryd.prog 10 #[v] w fun e w' => e = .returned (.bool (decide (a.length ≤ 5000))) ∧ Below w.heap.size w w' := by
  obtain ⟨ao, cap, rfl, hp⟩ := hv.cells
  have hl := hp.len
  clear hv hp
  generalize a.length = n at *
  by_cases h : n ≤ 5000
  · rw [decide_eq_true h]
    go_enter Tryd.func10, Tryd.ntmps10
    go_wp2
    go_returns
    exact ⟨by simp; try omega, by go_grown⟩
  · rw [decide_eq_false h]
    have h' : 5000 < n := by omega
    go_enter Tryd.func10, Tryd.ntmps10
    go_wp2
    go_returns
    exact ⟨by simp; try omega, by go_grown⟩

def f128 : List Int := mapTo (fun _ => 128) 64
theorem may128 : mayB 8 8 f128 = true := by decide +kernel
theorem at128 : atV 8 8 f128 (-5) 99 = 128 := by decide +kernel
theorem get63 : f128.getD 63 0 = 128 := by decide +kernel
theorem newNo : newB 12 8 0 = false := by decide +kernel
theorem newYes : newB 8 8 128 = true := by decide +kernel
set_option maxRecDepth 100000 in
set_option maxHeartbeats 8000000 in
theorem first_any (w : World) (hg : TypeIs w) : Calls Tryd.prog 9 #[] w fun e w' => e = .returned (.bool true) ∧ Below w.heap.size w w' := by
  have HG := Lib.hid hg
  have C1 := Lib.hid (fun w => pnew_ok 8 8 128 64 w newYes rfl (by omega))
  have C2 := Lib.hid (fun w => pnew_no 12 8 0 w newNo)
  have c3 := fun v w hv => pAt_any v 8 8 f128 (-5) 99 w hv
  rw [may128, if_pos rfl, at128] at c3
  have C3 := Lib.hid c3
  have c4 := fun w => pclip_any (-3) w
  rw [show clipV (-3) = 0 from rfl] at c4
  have C4 := Lib.hid c4
  have c5 := fun w => pclip_any 300 w
  rw [show clipV 300 = 255 from rfl] at c5
  have C5 := Lib.hid c5
  have c6 := fun v w hv => pmay_any v 8 8 f128 w hv
  rw [may128] at c6
  have C6 := Lib.hid c6
  have c7 : ∀ w, TypeIs w → Calls Tryd.prog 14 #[.iface 31 (.int .i64 3), .agg #[.int .i64 3, .slice none 0 0]] w fun e w' => e = .returned (.bool true) ∧ Below w.heap.size w w' := fun w hg => same_any 3 w hg
  have C7 := Lib.hid c7
  clear c3 c4 c5 c6 c7 hg
  go_enter Tryd.func9, Tryd.ntmps9
  have g0 : Below w.heap.size w w := Below.refl _ _
  go_wp2_with fail
  refine (C1.out _).mono ?_
  rintro e w1 ⟨p, rfl, hp, hb1⟩
  have j1 : Below w.heap.size w w1 := ext (by go_grown) hb1
  have g1 : Below w.heap.size w w1 := ext g0 j1
  have s1 := j1.size
  have t1 := g1.size
  obtain ⟨gp, pcap, rfl, -, -⟩ := hp.head (by rw [length_mapTo]; omega)
  rw [length_mapTo] at hp ⊢
  have FV : FrameV w1 (.agg #[.int .i64 8, .int .i64 8, .slice (some ⟨gp, 0, none⟩) 64 pcap]) 8 8 f128 := ⟨_, rfl, by unfold in64; omega, by unfold in64; omega, hp.ints⟩
  have HF := Lib.hid (FV)
  have HP := Lib.hid (hp)
  clear FV hp
  go_wp2_with fail
  refine (C2.out _).mono ?_
  rintro e w2 ⟨rfl, hb2⟩
  have j2 : Below w1.heap.size w1 w2 := ext (by go_grown) hb2
  have g2 : Below w.heap.size w w2 := ext g1 j2
  have s2 := j2.size
  have t2 := g2.size
  have BF := Lib.hid ((Blk.new w1 #[.int .i64 8, .int .i64 8, .slice (some ⟨gp, 0, none⟩) 64 pcap] 24).ext hb2)
  obtain ⟨-, -, lgp, hpc, -⟩ := ((HP.out.ext j2)).at
  have lf := BF.out.lt
  have h63 : _ = some (Value.int .i64 128) := hpc 63 (by rw [length_mapTo]; omega)
  clear hpc
  obtain ⟨BF0, BF1, BF2, BF3, BF4, BF5⟩ := (BF.out).three
  have BFl := (BF.out).lt
  go_wp2_with fail
  clear BF0 BF1 BF2 BF3 BF4 BF5 BFl
  refine (C3.out _ _ ((HF.out.ext j2).ext (by go_grown))).mono ?_
  rintro e w3 ⟨rfl, hb3⟩
  have j3 : Below w2.heap.size w2 w3 := ext (by go_grown) hb3
  have g3 : Below w.heap.size w w3 := ext g2 j3
  have s3 := j3.size
  have t3 := g3.size
  clear h63
  go_wp2_with fail
  refine (fail_any _ _).mono ?_
  rintro e w4 ⟨rfl, hb4⟩
  have j4 : Below w3.heap.size w3 w4 := ext (by go_grown) hb4
  have g4 : Below w.heap.size w w4 := ext g3 j4
  have s4 := j4.size
  have t4 := g4.size
  go_wp2_with fail
  refine (C7.out _ (((((HG.out.ext j1).ext j2).ext j3).ext j4).ext (by go_grown))).mono ?_
  rintro e w5 ⟨rfl, hb5⟩
  have j5 : Below w4.heap.size w4 w5 := ext (by go_grown) hb5
  have g5 : Below w.heap.size w w5 := ext g4 j5
  have s5 := j5.size
  have t5 := g5.size
  go_wp2_with fail
  refine (C4.out _).mono ?_
  rintro e w' ⟨rfl, rfl⟩
  go_wp2_with fail
  refine (C5.out _).mono ?_
  rintro e w' ⟨rfl, rfl⟩
  obtain ⟨BF0, BF1, BF2, BF3, BF4, BF5⟩ := ((((BF.out.ext j3).ext j4).ext j5)).three
  have BFl := ((((BF.out.ext j3).ext j4).ext j5)).lt
  go_wp2_with fail
  clear BF0 BF1 BF2 BF3 BF4 BF5 BFl
  refine (C6.out _ _ (((((HF.out.ext j2).ext j3).ext j4).ext j5).ext (by go_grown))).mono ?_
  rintro e w6 ⟨rfl, hb6⟩
  have j6 : Below w5.heap.size w5 w6 := ext (by go_grown) hb6
  have g6 : Below w.heap.size w w6 := ext g5 j6
  have s6 := j6.size
  have t6 := g6.size
  go_wp2
  all_goals go_returns
  all_goals exact ⟨by first | rfl | (simp; done) | (simp; omega), g6⟩
end Go.Proofs.YtlpifjnjddgfaaaDoor
