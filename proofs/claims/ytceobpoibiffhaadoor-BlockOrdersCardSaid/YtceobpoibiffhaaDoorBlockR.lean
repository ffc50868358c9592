/- kinref7.Sub, Clip, Add, Sad: contracts. -/
import Derived.Test.YtceobpoibiffhaaDoorBlockW
import Derived.RegionTactic
import Derived.BigRegion
import Derived.Deep.RegionWith
import Derived.Deep.RegionHeld3
set_option linter.unusedSimpArgs false
set_option linter.unusedVariables false
namespace Go.Proofs.YtceobpoibiffhaaDoor
open Go.RowKit

set_option maxRecDepth 100000 in
set_option maxHeartbeats 4000000 in
theorem rsub_any (v u : Value) (a b : List Int) (w : World) (hv : Ints w v a) (hu : Ints w u b) (hl : a.length ≤ 5000) :
    Calls Tryd.prog 12 #[v, u] w fun e w' => ∃ v', e = .returned (.tuple #[v', .agg #[.int .i64 (bothE a b), .slice none 0 0]]) ∧ OwnInts w' w.heap.size v' (okL (bothE a b) (subV a b)) ∧ Below w.heap.size w w' := by
  have hc := fun w hv hu => two_any v u a b w hv hu
  have HV := Lib.hid hv
  have HU := Lib.hid hu
  obtain ⟨ao, cap, rfl⟩ := hv.shape
  obtain ⟨bo, cap2, rfl⟩ := hu.shape
  have HC := Lib.hid hc
  clear hc hv hu
  by_cases hz : bothE a b = 0
  · obtain ⟨hab, ha, hb⟩ := bothE_zero hz
    rw [okL_zero hz]
    rw [hz] at HC ⊢
    have hab2 : a.length ≤ b.length := by omega
    have A1 := Lib.hid ha
    have B1 := Lib.hid hb
    clear hab ha hb hz
    go_enter Tryd.func12, Tryd.ntmps12
    go_wp2_with fail
    refine (HC.out _ (HV.out.ext (by go_grown)) (HU.out.ext (by go_grown))).mono ?_
    rintro e w1 ⟨rfl, hb1⟩
    have R1 := (Blk.new w #[.int .i64 0, .slice none 0 0] 32).ext hb1
    have E1 := Blk.new w1 #[.int .i64 0, .slice none 0 0] 32
    have R2 := Lib.hid (R1.alloc (.cells #[.int .i64 0, .slice none 0 0] 32))
    have E2 := Lib.hid E1
    have g1 : Below w.heap.size w w1 := ext (by go_grown) hb1
    have s1 : w.heap.size + 1 ≤ w1.heap.size := by have := hb1.size; simp at this; omega
    clear R1 E1
    go_wp2
    go_loopw [7, 8] (fun o i wr => ∃ k : Nat, k ≤ a.length ∧ i = .int .i64 k ∧ OwnInts wr (w1.heap.size + 1) o (mapTo (fun i => a.getD i 0 - b.getD i 0) k) ∧ Below w.heap.size w wr ∧ w1.heap.size + 1 ≤ wr.heap.size ∧ Blk wr w.heap.size #[.int .i64 0, .slice none 0 0] 32 ∧ Blk wr w1.heap.size #[.int .i64 0, .slice none 0 0] 32) (fun _ i _ => a.length - (intOf i).toNat)
    case atStart => exact ⟨0, Nat.zero_le _, rfl, OwnInts.nil _ _, by go_grown, by simp, R2.out, E2.out⟩
    case round =>
      obtain ⟨k, hk, rfl, hown, hb, hsz, r2, e2⟩ := hrel
      have Hown := Lib.hid hown
      have RR := Lib.hid r2
      have EE := Lib.hid e2
      obtain ⟨p0, p1, p2, p3⟩ := e2.two
      clear hown r2 e2
      go_wp2_with fail
      clear p0 p1 p2 p3
      refine (ok_zero _ _).mono ?_
      rintro e w2 ⟨rfl, hb2⟩
      have j2 : Below wr.heap.size wr w2 := ext (by go_grown) hb2
      have g2 : Below w.heap.size w w2 := ext hb j2
      have RR2 := Lib.hid (RR.out.ext j2)
      have EE2 := Lib.hid (EE.out.ext j2)
      have Hown2 := Lib.hid (Hown.out.ext j2)
      have s2 := j2.size
      clear RR EE Hown hb2
      by_cases hlt : k < a.length
      · obtain ⟨b1, o1, b2, o2, rfl, rfl, c1, c2⟩ := pair_at HV.out HU.out g2 hlt (by omega)
        have x1 := within_get A1.out (by omega) (by omega) k
        have y1 := within_get B1.out (by omega) (by omega) k
        have hltb : k < b.length := by omega
        generalize hx : a.getD k 0 = x at c1 x1
        generalize hy : b.getD k 0 = y at c2 y1
        obtain ⟨x1, x2⟩ := x1
        obtain ⟨y1, y2⟩ := y1
        have Hx := Lib.hid hx
        have Hy := Lib.hid hy
        have q1 : IntKind.i64.wrap (x - y) = x - y := IntWalk.i64_in _ (by omega)
        have Hxy := Lib.hid (show in64 (x - y) from by unfold in64; omega)
        have Hlen := Lib.hid (show (mapTo (fun i => a.getD i 0 - b.getD i 0) k).length ≤ 1099511627776 from by rw [length_mapTo]; omega)
        have Hs2 := Lib.hid (show w1.heap.size + 1 ≤ w2.heap.size from by omega)
        have hl1 : b1 < w1.heap.size + 1 := by have := HV.out.at1 hlt; omega
        have hl2 : b2 < w1.heap.size + 1 := by have := HU.out.at1 hltb; omega
        clear hx hy
        go_wp2
        go_region_held3 (fun w' => w'.cell? ⟨b1, o1 + k, none⟩ = some (.int .i64 x) ∧ w'.cell? ⟨b2, o2 + k, none⟩ = some (.int .i64 y))
          (first | go_keep | exact ⟨(hb'.cell (p := ⟨b1, _, none⟩) hl1).trans c1, (hb'.cell (p := ⟨b2, _, none⟩) hl2).trans c2⟩)
          ((refine step_app1 (by rfl) _ _ (by rfl) w2 (w1.heap.size + 1) _ _ (x - y) (by rfl) Hown2.out (by rfl) (heap_alloc_new _ _) (grown_of _) Hxy.out Hlen.out Hs2.out ?_; intro v' w' hown' hb' hg'))
        clear c1 c2
        have Hown' := Lib.hid hown'
        have RR3 := Lib.hid (RR2.out.grown hg' (Hown2.out.ownNe (.inl (by omega))))
        have EE3 := Lib.hid (EE2.out.grown hg' (Hown2.out.ownNe (.inl (by omega))))
        have s3 := hb'.size
        have s4 := hg'.size
        clear hown' Hown2 q1
        go_wp2
        go_roundw
        case rel => exact ⟨k + 1, by omega, by go_num, by rw [mapTo_succ, Hx.out, Hy.out]; exact Hown'.out, g2.trans (hb'.mono (by omega)), by omega, RR3.out, EE3.out⟩
        case measure => simp [intOf]; omega
      · have e : k = a.length := by omega
        rw [e] at Hown2
        obtain ⟨p0, p1, p2, p3⟩ := EE2.out.two
        obtain ⟨r0, r1, r2, r3⟩ := RR2.out.two
        clear e
        go_wp2
        go_region
        all_goals go_wp2
        all_goals refine bodyPost_ret (by simp [results, Tryd.results12, go_sem, r0, r1, r2, r3]; try rfl) rfl ?_
        all_goals exact ⟨_, rfl, ((Hown2.out.setOther (by simp; omega) _).setOther (by simp; omega) _).mono (by omega), by go_grown⟩
  · rw [okL_ne hz]
    have hk : (bothE a b == 0) = false := by simpa using hz
    clear hz
    generalize bothE a b = z at *
    go_enter Tryd.func12, Tryd.ntmps12
    go_wp2_with fail
    refine (HC.out _ (HV.out.ext (by go_grown)) (HU.out.ext (by go_grown))).mono ?_
    rintro e w1 ⟨rfl, hb1⟩
    have R1 := (Blk.new w #[.int .i64 0, .slice none 0 0] 32).ext hb1
    have E1 := Blk.new w1 #[.int .i64 z, .slice none 0 0] 32
    have R2 := Lib.hid (R1.alloc (.cells #[.int .i64 z, .slice none 0 0] 32))
    have E2 := Lib.hid E1
    have g1 : Below w.heap.size w w1 := ext (by go_grown) hb1
    have s1 : w.heap.size + 1 ≤ w1.heap.size := by have := hb1.size; simp at this; omega
    clear R1 E1
    go_wp2
    refine wp_loop_rounds 1 ?_
    rw [rounds_succ]
    go_wp2_with fail
    refine (ok_ne z hk _ _).mono ?_
    rintro e w2 ⟨rfl, hb2⟩
    have j2 : Below (w1.alloc (.cells #[.int .i64 z, .slice none 0 0] 32)).heap.size (w1.alloc (.cells #[.int .i64 z, .slice none 0 0] 32)) w2 := ext (by go_grown) hb2
    have g2 : Below w.heap.size w w2 := ext (by go_grown) j2
    obtain ⟨p0, p1, p2, p3⟩ := (E2.out.ext j2).two
    obtain ⟨r0, r1, r2, r3⟩ := (R2.out.ext j2).two
    have s2 := j2.size
    simp at s2
    go_wp2
    go_region
    all_goals go_wp2
    all_goals refine bodyPost_ret (by simp [results, Tryd.results12, go_sem, r0, r1, r2, r3]; try rfl) rfl ?_
    all_goals exact ⟨_, rfl, OwnInts.nil _ _, by go_grown⟩
set_option maxRecDepth 100000 in
set_option maxHeartbeats 4000000 in
theorem rsad_any (v u : Value) (a b : List Int) (w : World) (hv : Ints w v a) (hu : Ints w u b) (hl : a.length ≤ 5000) :
    Calls Tryd.prog 16 #[v, u] w fun e w' => e = .returned (.tuple #[.int .i64 (okI (bothE a b) (sadV a b)), .agg #[.int .i64 (bothE a b), .slice none 0 0]]) ∧ Below w.heap.size w w' := by
  have hc := fun w hv hu => two_any v u a b w hv hu
  have HV := Lib.hid hv
  have HU := Lib.hid hu
  obtain ⟨ao, cap, rfl⟩ := hv.shape
  obtain ⟨bo, cap2, rfl⟩ := hu.shape
  have HC := Lib.hid hc
  clear hc hv hu
  by_cases hz : bothE a b = 0
  · obtain ⟨hab, ha, hb⟩ := bothE_zero hz
    rw [okI_zero hz]
    rw [hz] at HC ⊢
    have hab2 : a.length ≤ b.length := by omega
    have A1 := Lib.hid ha
    have B1 := Lib.hid hb
    clear hab ha hb hz
    go_enter Tryd.func16, Tryd.ntmps16
    go_wp2_with fail
    refine (HC.out _ (HV.out.ext (by go_grown)) (HU.out.ext (by go_grown))).mono ?_
    rintro e w1 ⟨rfl, hb1⟩
    have R1 := (Blk.new w #[.int .i64 0, .slice none 0 0] 32).ext hb1
    have E1 := Blk.new w1 #[.int .i64 0, .slice none 0 0] 32
    have R2 := Lib.hid (R1.alloc (.cells #[.int .i64 0, .slice none 0 0] 32))
    have E2 := Lib.hid E1
    have g1 : Below w.heap.size w w1 := ext (by go_grown) hb1
    have s1 : w.heap.size + 1 ≤ w1.heap.size := by have := hb1.size; simp at this; omega
    clear R1 E1
    go_wp2
    go_loopw [7, 8] (fun o i wr => ∃ k : Nat, k ≤ a.length ∧ i = .int .i64 k ∧ o = .int .i64 (sumOf k (fun i => absD (a.getD i 0) (b.getD i 0))) ∧ Below w.heap.size w wr ∧ w1.heap.size + 1 ≤ wr.heap.size ∧ Blk wr w.heap.size #[.int .i64 0, .slice none 0 0] 32 ∧ Blk wr w1.heap.size #[.int .i64 0, .slice none 0 0] 32) (fun _ i _ => a.length - (intOf i).toNat)
    case atStart => exact ⟨0, Nat.zero_le _, rfl, rfl, by go_grown, by simp, R2.out, E2.out⟩
    case round =>
      obtain ⟨k, hk, rfl, rfl, hb, hsz, r2, e2⟩ := hrel
      have hs1 := sad_sum_bd A1.out B1.out k
      generalize hs : sumOf k (fun i => absD (a.getD i 0) (b.getD i 0)) = s at *
      have Hs := Lib.hid hs
      obtain ⟨hs1, hs2⟩ := hs1
      have RR := Lib.hid r2
      have EE := Lib.hid e2
      obtain ⟨p0, p1, p2, p3⟩ := e2.two
      clear hs r2 e2
      go_wp2_with fail
      clear p0 p1 p2 p3
      refine (ok_zero _ _).mono ?_
      rintro e w2 ⟨rfl, hb2⟩
      have j2 : Below wr.heap.size wr w2 := ext (by go_grown) hb2
      have g2 : Below w.heap.size w w2 := ext hb j2
      have RR2 := Lib.hid (RR.out.ext j2)
      have EE2 := Lib.hid (EE.out.ext j2)
      have s2 := j2.size
      clear RR EE hb2
      by_cases hlt : k < a.length
      · obtain ⟨b1, o1, b2, o2, rfl, rfl, c1, c2⟩ := pair_at HV.out HU.out g2 hlt (by omega)
        have x1 := within_get A1.out (by omega) (by omega) k
        have y1 := within_get B1.out (by omega) (by omega) k
        have hltb : k < b.length := by omega
        have hs0 := Lib.hid (show (fun i => absD (a.getD i 0) (b.getD i 0)) k = absD (a.getD k 0) (b.getD k 0) from rfl)
        generalize hx : a.getD k 0 = x at c1 x1 hs0
        generalize hy : b.getD k 0 = y at c2 y1 hs0
        obtain ⟨x1, x2⟩ := x1
        obtain ⟨y1, y2⟩ := y1
        have Hx := Lib.hid hx
        have Hy := Lib.hid hy
        clear hx hy
        by_cases hm : x - y < y - x
        · have HE := Lib.hid (sad_step2 Hs.out hs0.out hm)
          clear hs0 Hs
          go_wp2
          go_quiet (fail)
          go_wp2
          go_roundw
          case rel => exact ⟨k + 1, by omega, by go_num, int_eq HE.out, by first | exact g2 | exact g2.drew | exact below_drewN' g2 _, by first | omega | (simp; omega), RR2.out, EE2.out⟩
          case measure => simp [intOf]; omega
        · have HE := Lib.hid (sad_step Hs.out hs0.out hm)
          clear hs0 Hs
          go_wp2
          go_quiet (fail)
          go_wp2
          go_roundw
          case rel => exact ⟨k + 1, by omega, by go_num, int_eq HE.out, by first | exact g2 | exact g2.drew | exact below_drewN' g2 _, by first | omega | (simp; omega), RR2.out, EE2.out⟩
          case measure => simp [intOf]; omega
      · have e : k = a.length := by omega
        rw [e] at Hs
        obtain ⟨p0, p1, p2, p3⟩ := EE2.out.two
        obtain ⟨r0, r1, r2, r3⟩ := RR2.out.two
        clear e
        go_wp2
        go_region
        all_goals go_wp2
        all_goals refine bodyPost_ret (by simp [results, Tryd.results16, go_sem, r0, r1, r2, r3]; try rfl) rfl ?_
        all_goals exact ⟨by rw [← Hs.out]; rfl, by go_grown⟩
  · rw [okI_ne hz]
    have hk : (bothE a b == 0) = false := by simpa using hz
    clear hz
    generalize bothE a b = z at *
    go_enter Tryd.func16, Tryd.ntmps16
    go_wp2_with fail
    refine (HC.out _ (HV.out.ext (by go_grown)) (HU.out.ext (by go_grown))).mono ?_
    rintro e w1 ⟨rfl, hb1⟩
    have R1 := (Blk.new w #[.int .i64 0, .slice none 0 0] 32).ext hb1
    have E1 := Blk.new w1 #[.int .i64 z, .slice none 0 0] 32
    have R2 := Lib.hid (R1.alloc (.cells #[.int .i64 z, .slice none 0 0] 32))
    have E2 := Lib.hid E1
    have g1 : Below w.heap.size w w1 := ext (by go_grown) hb1
    have s1 : w.heap.size + 1 ≤ w1.heap.size := by have := hb1.size; simp at this; omega
    clear R1 E1
    go_wp2
    refine wp_loop_rounds 1 ?_
    rw [rounds_succ]
    go_wp2_with fail
    refine (ok_ne z hk _ _).mono ?_
    rintro e w2 ⟨rfl, hb2⟩
    have j2 : Below (w1.alloc (.cells #[.int .i64 z, .slice none 0 0] 32)).heap.size (w1.alloc (.cells #[.int .i64 z, .slice none 0 0] 32)) w2 := ext (by go_grown) hb2
    have g2 : Below w.heap.size w w2 := ext (by go_grown) j2
    obtain ⟨p0, p1, p2, p3⟩ := (E2.out.ext j2).two
    obtain ⟨r0, r1, r2, r3⟩ := (R2.out.ext j2).two
    have s2 := j2.size
    simp at s2
    go_wp2
    go_region
    all_goals go_wp2
    all_goals refine bodyPost_ret (by simp [results, Tryd.results16, go_sem, r0, r1, r2, r3]; try rfl) rfl ?_
    all_goals exact ⟨rfl, by go_grown⟩
set_option maxRecDepth 100000 in
set_option maxHeartbeats 4000000 in
theorem rcliplist_any (v u : Value) (a b : List Int) (w : World) (hv : Ints w v a) (hu : Ints w u b) (hl : a.length ≤ 5000) (hab2 : a.length ≤ b.length) (ha : withinB a (-1048576) 1048576 = true) (hb : withinB b (-1048576) 1048576 = true) :
    Calls Tryd.prog 34 #[v, u] w fun e w' => ∃ v', e = .returned v' ∧ OwnInts w' w.heap.size v' (addV a b) ∧ Below w.heap.size w w' := by
  have HV := Lib.hid hv
  have HU := Lib.hid hu
  obtain ⟨ao, cap, rfl⟩ := hv.shape
  obtain ⟨bo, cap2, rfl⟩ := hu.shape
  have A1 := Lib.hid ha
  have B1 := Lib.hid hb
  clear hv hu ha hb
  go_enter Tryd.func34, Tryd.ntmps34
  go_wp2
  go_loopw [5, 6] (fun o i wr => ∃ k : Nat, k ≤ a.length ∧ i = .int .i64 k ∧ OwnInts wr w.heap.size o (mapTo (fun i => clipV (a.getD i 0 + b.getD i 0)) k) ∧ Below w.heap.size w wr) (fun _ i _ => a.length - (intOf i).toNat)
  case atStart => exact ⟨0, Nat.zero_le _, rfl, OwnInts.nil _ _, Below.refl _ _⟩
  case round =>
    obtain ⟨k, hk, rfl, hown, g2⟩ := hrel
    have Hown2 := Lib.hid hown
    have s2 := g2.size
    clear hown
    by_cases hlt : k < a.length
    · obtain ⟨b1, o1, b2, o2, rfl, rfl, c1, c2⟩ := pair_at HV.out HU.out g2 hlt (by omega)
      have x1 := within_get A1.out (by omega) (by omega) k
      have y1 := within_get B1.out (by omega) (by omega) k
      have hltb : k < b.length := by omega
      generalize hx : a.getD k 0 = x at c1 x1
      generalize hy : b.getD k 0 = y at c2 y1
      obtain ⟨x1, x2⟩ := x1
      obtain ⟨y1, y2⟩ := y1
      have Hx := Lib.hid hx
      have Hy := Lib.hid hy
      have q1 : IntKind.i64.wrap (x + y) = x + y := IntWalk.i64_in _ (by omega)
      have hbd := clipV_bd (x + y)
      obtain ⟨z, hz⟩ : ∃ z, z = clipV (x + y) := ⟨_, rfl⟩
      rw [← hz] at hbd
      have Hxy := Lib.hid (show in64 z from by unfold in64; omega)
      have HZ := Lib.hid hz
      have hcl := fun w => rclip_any (x + y) w
      rw [← hz] at hcl
      have HCL := Lib.hid hcl
      have Hlen := Lib.hid (show (mapTo (fun i => clipV (a.getD i 0 + b.getD i 0)) k).length ≤ 1099511627776 from by rw [length_mapTo]; omega)
      have hl1 : b1 < w.heap.size := HV.out.at1 hlt
      have hl2 : b2 < w.heap.size := HU.out.at1 hltb
      clear hx hy hcl hz hbd
      go_wp2
      go_region_held3 (fun w' => w'.cell? ⟨b1, o1 + k, none⟩ = some (.int .i64 x) ∧ w'.cell? ⟨b2, o2 + k, none⟩ = some (.int .i64 y))
        (first | go_keep | exact ⟨(hb'.cell (p := ⟨b1, _, none⟩) hl1).trans c1, (hb'.cell (p := ⟨b2, _, none⟩) hl2).trans c2⟩)
        (first | (go_at_call 42; (with_reducible refine (HCL.out _).mono ?_); rintro e w' ⟨rfl, rfl⟩) | (refine step_app1 (by rfl) _ _ (by rfl) wr w.heap.size _ _ z (by rfl) Hown2.out (by rfl) (heap_alloc_new _ _) (grown_of _) Hxy.out Hlen.out s2 ?_; intro v' w' hown' hb' hg'))
      clear c1 c2
      have Hown' := Lib.hid hown'
      clear hown' Hown2 q1
      go_wp2
      go_roundw
      case rel => exact ⟨k + 1, by omega, by go_num, by rw [mapTo_succ, Hx.out, Hy.out, ← HZ.out]; exact Hown'.out, g2.trans hb'⟩
      case measure => simp [intOf]; omega
    · have e : k = a.length := by omega
      rw [e] at Hown2
      clear e
      go_wp2
      go_returns
      exact ⟨_, rfl, Hown2.out, g2⟩
set_option maxRecDepth 100000 in
set_option maxHeartbeats 4000000 in
theorem radd_any (v u : Value) (a b : List Int) (w : World) (hv : Ints w v a) (hu : Ints w u b) (hl : a.length ≤ 5000) :
    Calls Tryd.prog 14 #[v, u] w fun e w' => ∃ v', e = .returned (.tuple #[v', .agg #[.int .i64 (bothE a b), .slice none 0 0]]) ∧ OwnInts w' w.heap.size v' (okL (bothE a b) (addV a b)) ∧ Below w.heap.size w w' := by
  have hc := fun w hv hu => two_any v u a b w hv hu
  have HV := Lib.hid hv
  have HU := Lib.hid hu
  obtain ⟨ao, cap, rfl⟩ := hv.shape
  obtain ⟨bo, cap2, rfl⟩ := hu.shape
  have HC := Lib.hid hc
  clear hc hv hu
  by_cases hz : bothE a b = 0
  · obtain ⟨hab, ha, hb⟩ := bothE_zero hz
    rw [okL_zero hz]
    rw [hz] at HC ⊢
    have hcl := fun w hv hu => rcliplist_any (.slice ao a.length cap) (.slice bo b.length cap2) a b w hv hu hl (by omega) ha hb
    have HCL := Lib.hid hcl
    clear hab ha hb hz hcl
    go_enter Tryd.func14, Tryd.ntmps14
    go_wp2_with fail
    refine (HC.out _ (HV.out.ext (by go_grown)) (HU.out.ext (by go_grown))).mono ?_
    rintro e w1 ⟨rfl, hb1⟩
    have R1 := (Blk.new w #[.int .i64 0, .slice none 0 0] 32).ext hb1
    have E1 := Blk.new w1 #[.int .i64 0, .slice none 0 0] 32
    have R2 := Lib.hid (R1.alloc (.cells #[.int .i64 0, .slice none 0 0] 32))
    have E2 := Lib.hid E1
    have g1 : Below w.heap.size w w1 := ext (by go_grown) hb1
    have s1 : w.heap.size + 1 ≤ w1.heap.size := by have := hb1.size; simp at this; omega
    clear R1 E1
    go_wp2_with fail
    refine (ok_zero _ _).mono ?_
    rintro e w2 ⟨rfl, hb2⟩
    have j2 : Below (w1.alloc (.cells #[.int .i64 0, .slice none 0 0] 32)).heap.size (w1.alloc (.cells #[.int .i64 0, .slice none 0 0] 32)) w2 := ext (by go_grown) hb2
    have g2 : Below w.heap.size w w2 := ext (by go_grown) j2
    have E3 := Lib.hid (E2.out.ext j2)
    have R3 := Lib.hid (R2.out.ext j2)
    obtain ⟨p0, p1, p2, p3⟩ := E3.out.two
    have s2 : w1.heap.size + 1 ≤ w2.heap.size := by have := j2.size; simp at this; omega
    have le1 : w1.heap.size < w2.heap.size := by omega
    have hne : w1.heap.size ≠ w.heap.size := by omega
    clear p2 p3
    go_wp2
    go_region_held3 (fun w' => w'.cell? ⟨w1.heap.size, 0, none⟩ = some (.int .i64 0) ∧ w'.cell? ⟨w1.heap.size, 1, none⟩ = some (.slice none 0 0))
      (first | go_keep | exact ⟨q0, q1⟩ | exact ⟨far2 hne q0, far2 hne q1⟩)
      (first | (go_at_call 34; refine (HCL.out _ ?_ ?_).mono ?_; exact HV.out.ext g2.drew; exact HU.out.ext g2.drew; rintro e w3 ⟨v3, rfl, hown3, hbC⟩; have R4 := R3.out.drew.ext hbC; obtain ⟨r0, r1, r2, r3⟩ := R4.two; have q0 := (hbC.cell (p := ⟨w1.heap.size, 0, none⟩) le1).trans p0; have q1 := (hbC.cell (p := ⟨w1.heap.size, 1, none⟩) le1).trans p1; clear R4; have HO3 := Lib.hid hown3; clear hown3))
    go_wp2
    refine bodyPost_ret (by simp [results, Tryd.results14, go_sem, r0, r1, r2, r3]; try rfl) rfl ?_
    have g3 : Below w.heap.size w w3 := ext g2.drew hbC
    exact ⟨_, rfl, ((HO3.out.setOther (by simp; omega) _).setOther (by simp; omega) _).mono (by simp; omega), by go_grown⟩
  · rw [okL_ne hz]
    have hk : (bothE a b == 0) = false := by simpa using hz
    clear hz
    generalize bothE a b = z at *
    go_enter Tryd.func14, Tryd.ntmps14
    go_wp2_with fail
    refine (HC.out _ (HV.out.ext (by go_grown)) (HU.out.ext (by go_grown))).mono ?_
    rintro e w1 ⟨rfl, hb1⟩
    have R1 := (Blk.new w #[.int .i64 0, .slice none 0 0] 32).ext hb1
    have E1 := Blk.new w1 #[.int .i64 z, .slice none 0 0] 32
    have R2 := Lib.hid (R1.alloc (.cells #[.int .i64 z, .slice none 0 0] 32))
    have E2 := Lib.hid E1
    have g1 : Below w.heap.size w w1 := ext (by go_grown) hb1
    have s1 : w.heap.size + 1 ≤ w1.heap.size := by have := hb1.size; simp at this; omega
    clear R1 E1
    go_wp2_with fail
    refine (ok_ne z hk _ _).mono ?_
    rintro e w2 ⟨rfl, hb2⟩
    have j2 : Below (w1.alloc (.cells #[.int .i64 z, .slice none 0 0] 32)).heap.size (w1.alloc (.cells #[.int .i64 z, .slice none 0 0] 32)) w2 := ext (by go_grown) hb2
    have g2 : Below w.heap.size w w2 := ext (by go_grown) j2
    obtain ⟨p0, p1, p2, p3⟩ := (E2.out.ext j2).two
    obtain ⟨r0, r1, r2, r3⟩ := (R2.out.ext j2).two
    have s2 : w1.heap.size + 1 ≤ w2.heap.size := by have := j2.size; simp at this; omega
    go_wp2
    go_region
    all_goals go_wp2
    all_goals refine bodyPost_ret (by simp [results, Tryd.results14, go_sem, r0, r1, r2, r3]; try rfl) rfl ?_
    all_goals exact ⟨_, rfl, OwnInts.nil _ _, by go_grown⟩
end Go.Proofs.YtceobpoibiffhaaDoor
