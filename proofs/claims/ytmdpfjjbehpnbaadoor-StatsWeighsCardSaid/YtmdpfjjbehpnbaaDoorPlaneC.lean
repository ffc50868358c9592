/- plane.size, Sum, Peak; kinref6.Sum, Peak: contracts. -/
import Derived.Test.YtmdpfjjbehpnbaaDoorPlaneB
import Derived.Laws.Cover1
set_option linter.unusedSimpArgs false
set_option linter.unusedVariables false
namespace Go.Proofs.YtmdpfjjbehpnbaaDoor
open Go.RowKit

theorem psize (x y : Int) (w : World) (h : 0 ≤ x ∧ x ≤ 255) (h' : 0 ≤ y ∧ y ≤ 255) : Calls Tryd.prog 43 #[.int .i64 (x - y)] w fun e w' => e = .returned (.int .i64 (absD x y)) ∧ w = w' := by
  obtain ⟨v, hv⟩ : ∃ v, v = x - y := ⟨_, rfl⟩
  have e : absD x y = max v (-v) := by unfold absD; omega
  rw [e, ← hv]
  have h1 : -255 ≤ v ∧ v ≤ 255 := by omega
  obtain ⟨h1, h2⟩ := h1
  clear e hv h h'
  by_cases hn : v < -v
  · have hm : Hid (max v (-v) = -v) := by show _ = _; omega
    go_enter Tryd.func43, Tryd.ntmps43
    go_wp2
    go_returns
    exact ⟨by rw [hm.out]; rfl, rfl⟩
  · have hm : Hid (max v (-v) = v) := by show _ = _; omega
    go_enter Tryd.func43, Tryd.ntmps43
    go_wp2
    go_returns
    exact ⟨by rw [hm.out]; rfl, rfl⟩
theorem fsum_bd {a b : List Int} (ha : withinB a 0 255 = true) (hb : withinB b 0 255 = true) (k : Nat) : 0 ≤ sumOf k (fun i => absD (a.getD i 0) (b.getD i 0)) ∧ sumOf k (fun i => absD (a.getD i 0) (b.getD i 0)) ≤ k * 255 := by
  have := sumOf_bd (n := k) (f := fun i => absD (a.getD i 0) (b.getD i 0)) (lo := 0) (hi := 255) fun i _ => by
    have h1 := within_get ha (by omega) (by omega) i
    have h2 := within_get hb (by omega) (by omega) i
    unfold absD; omega
  omega
theorem absD_bd {x y : Int} (h : 0 ≤ x ∧ x ≤ 255) (h' : 0 ≤ y ∧ y ≤ 255) : 0 ≤ absD x y ∧ absD x y ≤ 255 := by unfold absD; omega
theorem peak_step {a b : List Int} {k : Nat} {x y s z : Int} (hs : peakTo a b k = s) (hx : a.getD k 0 = x) (hy : b.getD k 0 = y) (hz : max s (absD x y) = z) : z = peakTo a b (k + 1) := by
  rw [peakTo_succ, hs, hx, hy, hz]
theorem sum_step {a b : List Int} {k : Nat} {x y s : Int} (hs : sumOf k (fun i => absD (a.getD i 0) (b.getD i 0)) = s) (hx : a.getD k 0 = x) (hy : b.getD k 0 = y) : s + absD x y = sumOf (k + 1) (fun i => absD (a.getD i 0) (b.getD i 0)) := by
  rw [sumOf_succ, hs, hx, hy]

set_option maxRecDepth 100000 in
set_option maxHeartbeats 2000000 in
theorem psum_any (v u : Value) (W H : Int) (a : List Int) (W2 H2 : Int) (b : List Int) (w : World) (hv : FrameV w v W H a) (hu : FrameV w u W2 H2 b) :
    Calls Tryd.prog 22 #[v, u] w fun e w' => e = .returned (.tuple #[.int .i64 (okI (fbothE W H a W2 H2 b) (sadV a b)), errV (fbothE W H a W2 H2 b)]) ∧ Below w.heap.size w w' := by
  have hc := fun w hv hu => fboth_any v u W H a W2 H2 b w hv hu
  have HV := Lib.hid hv
  have HU := Lib.hid hu
  obtain ⟨ao, cap, rfl, hp⟩ := hv.cells
  obtain ⟨bo, cap2, rfl, hq⟩ := hu.cells
  have HP := Lib.hid hp
  have HQ := Lib.hid hq
  by_cases hz : fbothE W H a W2 H2 b = 0
  · obtain ⟨m1, m2, e1, e2⟩ := fbothE_zero hz
    rw [okI_zero hz]
    rw [hz] at hc ⊢
    have hab : a.length = b.length := by have := m1.len; have := m2.len; rw [← e1, ← e2] at this; omega
    have hl := m1.bd.2
    have hlb : b.length ≤ a.length := by omega
    have hlb' : a.length ≤ b.length := by omega
    have HC := Lib.hid hc
    have A1 := Lib.hid m1.pix
    have B1 := Lib.hid m2.pix
    clear hc hv hu hp hq hz m1 m2 e1 e2 hab
    have BX := Lib.hid ((Blk.new w #[.int .i64 W, .int .i64 H, .slice ao a.length cap] 24).alloc (.cells #[.int .i64 W2, .int .i64 H2, .slice bo b.length cap2] 24))
    have BY := Lib.hid (Blk.new (w.alloc (.cells #[.int .i64 W, .int .i64 H, .slice ao a.length cap] 24)) #[.int .i64 W2, .int .i64 H2, .slice bo b.length cap2] 24)
    simp only [World.size_alloc] at BY
    go_enter Tryd.func22, Tryd.ntmps22
    go_wp2_with fail
    refine (HC.out _ (HV.out.ext (by go_grown)) (HU.out.ext (by go_grown))).mono ?_
    rintro e w1 ⟨rfl, hb1⟩
    have g1 : Below w.heap.size w w1 := ext (by go_grown) hb1
    have x2 : _ = some _ := (BX.out.ext hb1).cell 2
    have y2 : _ = some _ := (BY.out.ext hb1).cell 2
    go_wp2
    go_loop [7, 19] (fun n i => ∃ k : Nat, k ≤ a.length ∧ i = .int .i64 k ∧ n = .int .i64 (sumOf k (fun i => absD (a.getD i 0) (b.getD i 0)))) (fun _ i => a.length - (intOf i).toNat)
    case atStart => exact ⟨0, Nat.zero_le _, rfl, rfl⟩
    case round =>
      obtain ⟨k, hk, rfl, rfl⟩ := hrel
      have hs1 := fsum_bd A1.out B1.out k
      generalize hs : sumOf k (fun i => absD (a.getD i 0) (b.getD i 0)) = s at *
      have Hs := Lib.hid hs
      obtain ⟨hs1, hs2⟩ := hs1
      clear hs
      by_cases hlt : k < a.length
      · obtain ⟨b1, o1, b2, o2, rfl, rfl, c1, c2⟩ := pair_at HP.out HQ.out g1 hlt (by omega)
        have hltb : k < b.length := by omega
        have hx1 := within_get A1.out (by omega) (by omega) k
        have hy1 := within_get B1.out (by omega) (by omega) k
        generalize hx : a.getD k 0 = x at c1 hx1
        generalize hy : b.getD k 0 = y at c2 hy1
        have C := Lib.hid (fun w => psize x y w hx1 hy1)
        have hz1 := absD_bd hx1 hy1
        have Hx := Lib.hid hx
        have Hy := Lib.hid hy
        clear hx hy
        obtain ⟨hx1, hx2⟩ := hx1
        obtain ⟨hy1, hy2⟩ := hy1
        obtain ⟨z, hz⟩ : ∃ z, z = absD x y := ⟨_, rfl⟩
        rw [← hz] at C hz1
        have HZ := Lib.hid hz
        obtain ⟨hz1, hz2⟩ := hz1
        clear hz
        go_wp2_with fail
        refine (C.out _).mono ?_
        rintro e w' ⟨rfl, rfl⟩
        have HE := Lib.hid (sum_step Hs.out Hx.out Hy.out)
        rw [← HZ.out] at HE
        clear Hs Hx Hy HZ
        go_wp2
        go_round
        case rel => exact ⟨k + 1, by omega, by go_num, int_eq HE.out⟩
        case measure => simp [intOf]; omega
      · have e : k = a.length := by omega
        rw [e] at Hs
        clear e
        go_wp2
        go_returns
        exact ⟨by rw [← Hs.out] <;> rfl, g1⟩
  · rw [okI_ne hz]
    have hk : (fbothE W H a W2 H2 b == 0) = false := by simpa using hz
    have HC := Lib.hid hc
    clear hz hc hv hu hp hq
    generalize fbothE W H a W2 H2 b = z at *
    go_enter Tryd.func22, Tryd.ntmps22
    go_wp2_with fail
    refine (HC.out _ (HV.out.ext (by go_grown)) (HU.out.ext (by go_grown))).mono ?_
    rintro e w1 ⟨rfl, hb1⟩
    have g1 : Below w.heap.size w w1 := ext (by go_grown) hb1
    go_wp2
    go_returns
    exact ⟨rfl, g1⟩


set_option maxRecDepth 100000 in
set_option maxHeartbeats 4000000 in
theorem rsum_any (v u : Value) (W H : Int) (a : List Int) (W2 H2 : Int) (b : List Int) (w : World) (hv : FrameV w v W H a) (hu : FrameV w u W2 H2 b) :
    Calls Tryd.prog 32 #[v, u] w fun e w' => e = .returned (.tuple #[.int .i64 (okI (fbothE W H a W2 H2 b) (sadV a b)), .agg #[.int .i64 (fbothE W H a W2 H2 b), .slice none 0 0]]) ∧ Below w.heap.size w w' := by
  have hc := fun w hv hu => fboth_ref v u W H a W2 H2 b w hv hu
  have HV := Lib.hid hv
  have HU := Lib.hid hu
  obtain ⟨ao, cap, rfl, hp⟩ := hv.cells
  obtain ⟨bo, cap2, rfl, hq⟩ := hu.cells
  have HP := Lib.hid hp
  have HQ := Lib.hid hq
  have BX := Lib.hid (((Blk.new w #[.int .i64 W, .int .i64 H, .slice ao a.length cap] 24).alloc (.cells #[.int .i64 W2, .int .i64 H2, .slice bo b.length cap2] 24)).alloc (.cells #[.int .i64 0, .slice none 0 0] 35))
  have BY := Lib.hid ((Blk.new (w.alloc (.cells #[.int .i64 W, .int .i64 H, .slice ao a.length cap] 24)) #[.int .i64 W2, .int .i64 H2, .slice bo b.length cap2] 24).alloc (.cells #[.int .i64 0, .slice none 0 0] 35))
  have BE := Lib.hid (Blk.new ((w.alloc (.cells #[.int .i64 W, .int .i64 H, .slice ao a.length cap] 24)).alloc (.cells #[.int .i64 W2, .int .i64 H2, .slice bo b.length cap2] 24)) #[.int .i64 0, .slice none 0 0] 35)
  simp only [World.size_alloc] at BY BE
  by_cases hz : fbothE W H a W2 H2 b = 0
  · obtain ⟨m1, m2, e1, e2⟩ := fbothE_zero hz
    rw [okI_zero hz]
    rw [hz] at hc ⊢
    have hab : a.length = b.length := by have := m1.len; have := m2.len; rw [← e1, ← e2] at this; omega
    have hl := m1.bd.2
    have hlb : b.length ≤ a.length := by omega
    have hlb' : a.length ≤ b.length := by omega
    have HC := Lib.hid hc
    have A1 := Lib.hid m1.pix
    have B1 := Lib.hid m2.pix
    clear hc hv hu hp hq hz m1 m2 e1 e2 hab
    go_enter Tryd.func32, Tryd.ntmps32
    go_wp2_with fail
    refine (HC.out _ (HV.out.ext (by go_grown)) (HU.out.ext (by go_grown))).mono ?_
    rintro e w1 ⟨rfl, hb1⟩
    have g1 : Below w.heap.size w w1 := ext (by go_grown) hb1
    have s1 : w.heap.size + 3 ≤ w1.heap.size := by have := hb1.size; simp at this; omega
    have X1 := Lib.hid (BX.out.ext hb1)
    have Y1 := Lib.hid (BY.out.ext hb1)
    have R1 := Lib.hid (BE.out.ext hb1)
    have E2 := Lib.hid (Blk.new w1 #[.int .i64 0, .slice none 0 0] 35)
    go_wp2
    go_loopw [7, 8] (fun n i wr => ∃ k : Nat, k ≤ a.length ∧ i = .int .i64 k ∧ n = .int .i64 (sumOf k (fun i => absD (a.getD i 0) (b.getD i 0))) ∧ Below w1.heap.size w1 wr ∧ w1.heap.size + 1 ≤ wr.heap.size ∧ Blk wr w1.heap.size #[.int .i64 0, .slice none 0 0] 35) (fun _ i _ => a.length - (intOf i).toNat)
    case atStart => exact ⟨0, Nat.zero_le _, rfl, rfl, by go_grown, by simp, E2.out⟩
    case round =>
      obtain ⟨k, hk, rfl, rfl, hb, hsz, e2⟩ := hrel
      have hs1 := fsum_bd A1.out B1.out k
      generalize hs : sumOf k (fun i => absD (a.getD i 0) (b.getD i 0)) = s at *
      have Hs := Lib.hid hs
      obtain ⟨hs1, hs2⟩ := hs1
      have EE := Lib.hid e2
      obtain ⟨p0, p1, p2, p3⟩ := e2.two
      clear hs e2
      have x2 : _ = some _ := (X1.out.ext hb).cell 2
      go_wp2_with fail
      clear p0 p1 p2 p3 x2
      refine (ok_zero _ _).mono ?_
      rintro e w2 ⟨rfl, hb2⟩
      have j2 : Below wr.heap.size wr w2 := ext (by go_grown) hb2
      have k2 : Below w1.heap.size w1 w2 := ext hb j2
      have g2 : Below w.heap.size w w2 := ext g1 k2
      have EE2 := Lib.hid (EE.out.ext j2)
      have s2 := j2.size
      have x2 : _ = some _ := (X1.out.ext k2).cell 2
      have y2 : _ = some _ := (Y1.out.ext k2).cell 2
      clear EE hb2
      by_cases hlt : k < a.length
      · obtain ⟨b1, o1, b2, o2, rfl, rfl, c1, c2⟩ := pair_at HP.out HQ.out g2 hlt (by omega)
        have hltb : k < b.length := by omega
        have hx1 := within_get A1.out (by omega) (by omega) k
        have hy1 := within_get B1.out (by omega) (by omega) k
        generalize hx : a.getD k 0 = x at c1 hx1
        generalize hy : b.getD k 0 = y at c2 hy1
        have Hx := Lib.hid hx
        have Hy := Lib.hid hy
        clear hx hy
        obtain ⟨hx1, hx2⟩ := hx1
        obtain ⟨hy1, hy2⟩ := hy1
        have he := sum_step Hs.out Hx.out Hy.out
        by_cases q1 : x - y < y - x
        · rw [show absD x y = y - x from by unfold absD; omega] at he
          have HE := Lib.hid he
          clear he
          clear Hs Hx Hy
          go_wp2
          go_quiet (fail)
          go_wp2
          go_roundw
          case rel => exact ⟨k + 1, by omega, by go_num, int_eq HE.out, by first | exact k2 | exact k2.drew | exact below_drewN' k2 _, by first | omega | (simp; omega), EE2.out⟩
          case measure => simp [intOf]; omega
        · rw [show absD x y = x - y from by unfold absD; omega] at he
          have HE := Lib.hid he
          clear he
          clear Hs Hx Hy
          go_wp2
          go_quiet (fail)
          go_wp2
          go_roundw
          case rel => exact ⟨k + 1, by omega, by go_num, int_eq HE.out, by first | exact k2 | exact k2.drew | exact below_drewN' k2 _, by first | omega | (simp; omega), EE2.out⟩
          case measure => simp [intOf]; omega
      · have e : k = a.length := by omega
        rw [e] at Hs
        obtain ⟨p0, p1, p2, p3⟩ := EE2.out.two
        obtain ⟨r0, r1, r2, r3⟩ := (R1.out.ext k2).two
        clear e y2
        go_wp2
        go_region
        all_goals go_wp2
        all_goals refine bodyPost_ret (by simp [results, Tryd.results32, go_sem, r0, r1, r2, r3]; try rfl) rfl ?_
        all_goals exact ⟨by rw [← Hs.out] <;> rfl, by go_grown⟩
  · rw [okI_ne hz]
    have hk : (fbothE W H a W2 H2 b == 0) = false := by simpa using hz
    have HC := Lib.hid hc
    clear hz hc hv hu hp hq
    generalize fbothE W H a W2 H2 b = z at *
    go_enter Tryd.func32, Tryd.ntmps32
    go_wp2_with fail
    refine (HC.out _ (HV.out.ext (by go_grown)) (HU.out.ext (by go_grown))).mono ?_
    rintro e w1 ⟨rfl, hb1⟩
    have g1 : Below w.heap.size w w1 := ext (by go_grown) hb1
    have s1 : w.heap.size + 3 ≤ w1.heap.size := by have := hb1.size; simp at this; omega
    have R1 := Lib.hid ((BE.out.ext hb1).alloc (.cells #[.int .i64 z, .slice none 0 0] 35))
    have E2 := Lib.hid (Blk.new w1 #[.int .i64 z, .slice none 0 0] 35)
    go_wp2
    refine wp_loop_rounds 1 ?_
    rw [rounds_succ]
    go_wp2_with fail
    refine (ok_ne z hk _ _).mono ?_
    rintro e w2 ⟨rfl, hb2⟩
    have j2 : Below (w1.alloc (.cells #[.int .i64 z, .slice none 0 0] 35)).heap.size (w1.alloc (.cells #[.int .i64 z, .slice none 0 0] 35)) w2 := ext (by go_grown) hb2
    have g2 : Below w.heap.size w w2 := ext (by go_grown) j2
    obtain ⟨p0, p1, p2, p3⟩ := (E2.out.ext j2).two
    obtain ⟨r0, r1, r2, r3⟩ := (R1.out.ext j2).two
    have s2 : w1.heap.size + 1 ≤ w2.heap.size := by have := j2.size; simp at this; omega
    go_wp2
    go_region
    all_goals go_wp2
    all_goals refine bodyPost_ret (by simp [results, Tryd.results32, go_sem, r0, r1, r2, r3]; try rfl) rfl ?_
    all_goals exact ⟨rfl, by go_grown⟩


end Go.Proofs.YtmdpfjjbehpnbaaDoor
