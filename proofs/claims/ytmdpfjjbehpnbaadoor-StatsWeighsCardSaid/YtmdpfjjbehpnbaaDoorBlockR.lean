/- kinref7.Sub, Clip, Add, Sad: contracts. -/
import Derived.Test.YtmdpfjjbehpnbaaDoorBlockW
import Derived.RegionTactic
import Derived.BigRegion
import Derived.Deep.RegionWith
import Derived.Deep.RegionHeld3
set_option linter.unusedSimpArgs false
set_option linter.unusedVariables false
namespace Go.Proofs.YtmdpfjjbehpnbaaDoor
open Go.RowKit

set_option maxRecDepth 100000 in
set_option maxHeartbeats 4000000 in
theorem rsad_any (v u : Value) (a b : List Int) (w : World) (hv : Ints w v a) (hu : Ints w u b) (hl : a.length ≤ 5000) :
    Calls Tryd.prog 34 #[v, u] w fun e w' => e = .returned (.tuple #[.int .i64 (okI (bothE a b) (sadV a b)), .agg #[.int .i64 (bothE a b), .slice none 0 0]]) ∧ Below w.heap.size w w' := by
  have hc := fun w hv hu => two_any v u a b w hv hu
  have HV := Lib.hid hv
  have HU := Lib.hid hu
  obtain ⟨ao, cap, rfl⟩ := hv.shape
  obtain ⟨bo, cap2, rfl⟩ := hu.shape
  have HC := Lib.hid hc
  clear hc hv hu
  by_cases hz : bothE a b = 0
  · obtain ⟨hab, ha, hb⟩ := bothE_zero hz
    rw [okI_zero hz]
    rw [hz] at HC ⊢
    have hab2 : a.length ≤ b.length := by omega
    have A1 := Lib.hid ha
    have B1 := Lib.hid hb
    clear hab ha hb hz
    go_enter Tryd.func34, Tryd.ntmps34
    go_wp2_with fail
    refine (HC.out _ (HV.out.ext (by go_grown)) (HU.out.ext (by go_grown))).mono ?_
    rintro e w1 ⟨rfl, hb1⟩
    have R1 := (Blk.new w #[.int .i64 0, .slice none 0 0] 35).ext hb1
    have E1 := Blk.new w1 #[.int .i64 0, .slice none 0 0] 35
    have R2 := Lib.hid (R1.alloc (.cells #[.int .i64 0, .slice none 0 0] 35))
    have E2 := Lib.hid E1
    have g1 : Below w.heap.size w w1 := ext (by go_grown) hb1
    have s1 : w.heap.size + 1 ≤ w1.heap.size := by have := hb1.size; simp at this; omega
    clear R1 E1
    go_wp2
    go_loopw [7, 8] (fun o i wr => ∃ k : Nat, k ≤ a.length ∧ i = .int .i64 k ∧ o = .int .i64 (sumOf k (fun i => absD (a.getD i 0) (b.getD i 0))) ∧ Below w.heap.size w wr ∧ w1.heap.size + 1 ≤ wr.heap.size ∧ Blk wr w.heap.size #[.int .i64 0, .slice none 0 0] 35 ∧ Blk wr w1.heap.size #[.int .i64 0, .slice none 0 0] 35) (fun _ i _ => a.length - (intOf i).toNat)
    case atStart => exact ⟨0, Nat.zero_le _, rfl, rfl, by go_grown, by simp, R2.out, E2.out⟩
    case round =>
      obtain ⟨k, hk, rfl, rfl, hb, hsz, r2, e2⟩ := hrel
      have hs1 := sad_sum_bd A1.out B1.out k
      generalize hs : sumOf k (fun i => absD (a.getD i 0) (b.getD i 0)) = s at *
      have Hs := Lib.hid hs
      obtain ⟨hs1, hs2⟩ := hs1
      have RR := Lib.hid r2
      have EE := Lib.hid e2
      obtain ⟨p0, p1, p2, p3⟩ := e2.two
      clear hs r2 e2
      go_wp2_with fail
      clear p0 p1 p2 p3
      refine (ok_zero _ _).mono ?_
      rintro e w2 ⟨rfl, hb2⟩
      have j2 : Below wr.heap.size wr w2 := ext (by go_grown) hb2
      have g2 : Below w.heap.size w w2 := ext hb j2
      have RR2 := Lib.hid (RR.out.ext j2)
      have EE2 := Lib.hid (EE.out.ext j2)
      have s2 := j2.size
      clear RR EE hb2
      by_cases hlt : k < a.length
      · obtain ⟨b1, o1, b2, o2, rfl, rfl, c1, c2⟩ := pair_at HV.out HU.out g2 hlt (by omega)
        have x1 := within_get A1.out (by omega) (by omega) k
        have y1 := within_get B1.out (by omega) (by omega) k
        have hltb : k < b.length := by omega
        have hs0 := Lib.hid (show (fun i => absD (a.getD i 0) (b.getD i 0)) k = absD (a.getD k 0) (b.getD k 0) from rfl)
        generalize hx : a.getD k 0 = x at c1 x1 hs0
        generalize hy : b.getD k 0 = y at c2 y1 hs0
        obtain ⟨x1, x2⟩ := x1
        obtain ⟨y1, y2⟩ := y1
        have Hx := Lib.hid hx
        have Hy := Lib.hid hy
        clear hx hy
        by_cases hm : x - y < y - x
        · have HE := Lib.hid (sad_step2 Hs.out hs0.out hm)
          clear hs0 Hs
          go_wp2
          go_quiet (fail)
          go_wp2
          go_roundw
          case rel => exact ⟨k + 1, by omega, by go_num, int_eq HE.out, by first | exact g2 | exact g2.drew | exact below_drewN' g2 _, by first | omega | (simp; omega), RR2.out, EE2.out⟩
          case measure => simp [intOf]; omega
        · have HE := Lib.hid (sad_step Hs.out hs0.out hm)
          clear hs0 Hs
          go_wp2
          go_quiet (fail)
          go_wp2
          go_roundw
          case rel => exact ⟨k + 1, by omega, by go_num, int_eq HE.out, by first | exact g2 | exact g2.drew | exact below_drewN' g2 _, by first | omega | (simp; omega), RR2.out, EE2.out⟩
          case measure => simp [intOf]; omega
      · have e : k = a.length := by omega
        rw [e] at Hs
        obtain ⟨p0, p1, p2, p3⟩ := EE2.out.two
        obtain ⟨r0, r1, r2, r3⟩ := RR2.out.two
        clear e
        go_wp2
        go_region
        all_goals go_wp2
        all_goals refine bodyPost_ret (by simp [results, Tryd.results34, go_sem, r0, r1, r2, r3]; try rfl) rfl ?_
        all_goals exact ⟨by rw [← Hs.out]; rfl, by go_grown⟩
  · rw [okI_ne hz]
    have hk : (bothE a b == 0) = false := by simpa using hz
    clear hz
    generalize bothE a b = z at *
    go_enter Tryd.func34, Tryd.ntmps34
    go_wp2_with fail
    refine (HC.out _ (HV.out.ext (by go_grown)) (HU.out.ext (by go_grown))).mono ?_
    rintro e w1 ⟨rfl, hb1⟩
    have R1 := (Blk.new w #[.int .i64 0, .slice none 0 0] 35).ext hb1
    have E1 := Blk.new w1 #[.int .i64 z, .slice none 0 0] 35
    have R2 := Lib.hid (R1.alloc (.cells #[.int .i64 z, .slice none 0 0] 35))
    have E2 := Lib.hid E1
    have g1 : Below w.heap.size w w1 := ext (by go_grown) hb1
    have s1 : w.heap.size + 1 ≤ w1.heap.size := by have := hb1.size; simp at this; omega
    clear R1 E1
    go_wp2
    refine wp_loop_rounds 1 ?_
    rw [rounds_succ]
    go_wp2_with fail
    refine (ok_ne z hk _ _).mono ?_
    rintro e w2 ⟨rfl, hb2⟩
    have j2 : Below (w1.alloc (.cells #[.int .i64 z, .slice none 0 0] 35)).heap.size (w1.alloc (.cells #[.int .i64 z, .slice none 0 0] 35)) w2 := ext (by go_grown) hb2
    have g2 : Below w.heap.size w w2 := ext (by go_grown) j2
    obtain ⟨p0, p1, p2, p3⟩ := (E2.out.ext j2).two
    obtain ⟨r0, r1, r2, r3⟩ := (R2.out.ext j2).two
    have s2 := j2.size
    simp at s2
    go_wp2
    go_region
    all_goals go_wp2
    all_goals refine bodyPost_ret (by simp [results, Tryd.results34, go_sem, r0, r1, r2, r3]; try rfl) rfl ?_
    all_goals exact ⟨rfl, by go_grown⟩
end Go.Proofs.YtmdpfjjbehpnbaaDoor
