/- motion.size, Cost; kinref11.Cost: contracts. -/
import Derived.Test.YtjmkcbagedflkaaDoorMotionB
import Derived.Test.YtjmkcbagedflkaaDoorBlockR
set_option linter.unusedSimpArgs false
set_option linter.unusedVariables false
namespace Go.Proofs.YtjmkcbagedflkaaDoor
open Go.RowKit

theorem far2d {W : World} {b c o : Nat} {x y u : Value} (h : c ≠ b) (hu : W.cell? ⟨c, o, none⟩ = some u) : ((W.setCell ⟨b, 0, none⟩ x).setCell ⟨b, 1, none⟩ y).drew.cell? ⟨c, o, none⟩ = some u := far2 h hu
theorem psz_any (v : Int) (w : World) (h1 : -15 ≤ v) (h2 : v ≤ 15) : Calls Tryd.prog 34 #[.int .i64 v] w fun e w' => e = .returned (.int .i64 (absV v)) ∧ w = w' := by
  by_cases h : v < -v
  · rw [show absV v = -v from by unfold absV; omega]
    go_enter Tryd.func34, Tryd.ntmps34
    go_wp2
    go_returns
    exact ⟨by first | rfl | (simp; done) | (simp; omega), rfl⟩
  · rw [show absV v = v from by unfold absV; omega]
    go_enter Tryd.func34, Tryd.ntmps34
    go_wp2
    go_returns
    exact ⟨by first | rfl | (simp; done) | (simp; omega), rfl⟩
set_option maxRecDepth 100000 in
set_option maxHeartbeats 4000000 in
theorem pcost_ok (av bv : Value) (a b : List Int) (vx vy : Int) (w : World) (hv : Ints w av a) (hu : Ints w bv b) (hl : a.length ≤ 5000) (hz : bothE a b = 0) (h4 : vecB vx vy = true) :
    Calls Tryd.prog 17 #[av, bv, .agg #[.int .i64 vx, .int .i64 vy]] w fun e w' => e = .returned (.tuple #[.int .i64 (costV a b vx vy), .nilIface]) ∧ Below w.heap.size w w' := by
  have c1 := fun w hv hu => psad_any av bv a b w hv hu hl
  rw [hz, okI_zero rfl] at c1
  have cw := fun w => pvec_any vx vy w
  rw [h4] at cw
  have CW := Lib.hid cw
  have HV := Lib.hid hv
  have HU := Lib.hid hu
  have BW := Lib.hid (Blk.new w #[.int .i64 vx, .int .i64 vy] 26)
  obtain ⟨⟨a1, a2⟩, b1, b2⟩ := vecB_iff.1 h4
  have hs := sad_bd (m := 1048576) (by omega) (bothE_zero hz).2.1 (bothE_zero hz).2.2
  have hc : costV a b vx vy = 4 * sadV a b + absV vx + absV vy := rfl
  generalize sadV a b = s at *
  have hs1 : 0 ≤ s := hs.1
  have hs2 : s ≤ 10485760000 := by have := hs.2; omega
  have hx1 : 0 ≤ absV vx ∧ absV vx ≤ 15 := by unfold absV; omega
  have hy1 : 0 ≤ absV vy ∧ absV vy ≤ 15 := by unfold absV; omega
  have C1 := Lib.hid c1
  have CX := Lib.hid (fun w => (psz_any vx w a1 a2).mono fun e w' h => (⟨h.1, h.2.symm⟩ : e = .returned (.int .i64 (absV vx)) ∧ w' = w))
  have CY := Lib.hid (fun w => (psz_any vy w b1 b2).mono fun e w' h => (⟨h.1, h.2.symm⟩ : e = .returned (.int .i64 (absV vy)) ∧ w' = w))
  generalize absV vx = ax at *
  generalize absV vy = ay at *
  obtain ⟨S1, hS1⟩ : ∃ S, 4 * s = S := ⟨_, rfl⟩
  obtain ⟨S2, hS2⟩ : ∃ S, S1 + ax = S := ⟨_, rfl⟩
  obtain ⟨S3, hS3⟩ : ∃ S, S2 + ay = S := ⟨_, rfl⟩
  have q1 : IntKind.i64.wrap (4 * s) = S1 := by rw [IntWalk.i64_in _ (by omega)]; exact hS1
  have q2 : IntKind.i64.wrap (S1 + ax) = S2 := by rw [IntWalk.i64_in _ (by omega)]; exact hS2
  have q3 : IntKind.i64.wrap (S2 + ay) = S3 := by rw [IntWalk.i64_in _ (by omega)]; exact hS3
  rw [hc, hS1, hS2, hS3]
  clear cw c1 h4 hz hl hv hu hc hs hx1 hy1 hS1 hS2 hS3 a1 a2 b1 b2 hs1 hs2
  go_enter Tryd.func17, Tryd.ntmps17
  go_wp2_with fail
  refine (C1.out _ (HV.out.ext (by go_grown)) (HU.out.ext (by go_grown))).mono ?_
  rintro e w1 ⟨rfl, hb1⟩
  have g1 : Below w.heap.size w w1 := ext (by go_grown) hb1
  have B1 := Lib.hid (BW.out.ext hb1)
  obtain ⟨d0, d1, -, -⟩ := B1.out.two
  go_wp2_with fail
  clear d0 d1
  refine (CW.out _).mono ?_
  rintro e w2 ⟨rfl, hb2⟩
  have g2 : Below w.heap.size w w2 := ext g1 hb2
  have B2 := Lib.hid (B1.out.ext hb2)
  obtain ⟨d0, d1, -, -⟩ := B2.out.two
  have l2 := B2.out.lt
  go_wp2
  go_quiet ((first | (go_at_call_of 34 (Value.int IntKind.i64 vx); exact Calls.quiet_of_same (CX.out _)) | (go_at_call_of 34 (Value.int IntKind.i64 vy); exact Calls.quiet_of_same (CY.out _))))
  go_wp2
  go_returns
  exact ⟨by first | rfl | (simp; done), by first | exact g2 | exact below_drewN' g2 _⟩
set_option maxRecDepth 100000 in
set_option maxHeartbeats 2000000 in
theorem pcost_any (av bv : Value) (a b : List Int) (vx vy : Int) (w : World) (hv : Ints w av a) (hu : Ints w bv b) (hl : a.length ≤ 5000) :
    Calls Tryd.prog 17 #[av, bv, .agg #[.int .i64 vx, .int .i64 vy]] w fun e w' => e = .returned (.tuple #[.int .i64 (okI (costE a b vx vy) (costV a b vx vy)), errV (costE a b vx vy)]) ∧ Below w.heap.size w w' := by
  by_cases hz : bothE a b = 0
  · cases h4 : vecB vx vy with
    | true =>
      rw [costE_ok hz h4, okI_zero rfl]
      exact pcost_ok av bv a b vx vy w hv hu hl hz h4
    | false =>
      have he : costE a b vx vy = 3 := by unfold costE; rw [if_pos hz, h4]; rfl
      rw [he, okI_ne (by decide)]
      have c1 := fun w hv hu => psad_any av bv a b w hv hu hl
      rw [hz, okI_zero rfl] at c1
      have cw := fun w => pvec_any vx vy w
      rw [h4] at cw
      have C1 := Lib.hid c1
      have CW := Lib.hid cw
      have HV := Lib.hid hv
      have HU := Lib.hid hu
      have BW := Lib.hid (Blk.new w #[.int .i64 vx, .int .i64 vy] 26)
      generalize sadV a b = s at *
      clear cw c1 h4 hz hl hv hu he
      go_enter Tryd.func17, Tryd.ntmps17
      go_wp2_with fail
      refine (C1.out _ (HV.out.ext (by go_grown)) (HU.out.ext (by go_grown))).mono ?_
      rintro e w1 ⟨rfl, hb1⟩
      have g1 : Below w.heap.size w w1 := ext (by go_grown) hb1
      have B1 := Lib.hid (BW.out.ext hb1)
      obtain ⟨d0, d1, -, -⟩ := B1.out.two
      go_wp2_with fail
      clear d0 d1
      refine (CW.out _).mono ?_
      rintro e w2 ⟨rfl, hb2⟩
      have g2 : Below w.heap.size w w2 := ext g1 hb2
      go_wp2
      go_returns
      exact ⟨rfl, g2⟩
  · have he : costE a b vx vy = bothE a b := by unfold costE; rw [if_neg hz]
    rw [he, okI_ne hz]
    have C1 := Lib.hid (fun w hv hu => psad_any av bv a b w hv hu hl)
    have hk : (bothE a b == 0) = false := by simpa using hz
    have HV := Lib.hid hv
    have HU := Lib.hid hu
    generalize bothE a b = z at *
    generalize okI z (sadV a b) = s at *
    clear he hz hl hv hu
    go_enter Tryd.func17, Tryd.ntmps17
    go_wp2_with fail
    refine (C1.out _ (HV.out.ext (by go_grown)) (HU.out.ext (by go_grown))).mono ?_
    rintro e w1 ⟨rfl, hb1⟩
    have g1 : Below w.heap.size w w1 := ext (by go_grown) hb1
    go_wp2
    go_returns
    exact ⟨rfl, g1⟩

set_option maxRecDepth 100000 in
set_option maxHeartbeats 4000000 in
theorem rcost_no (av bv : Value) (a b : List Int) (vx vy : Int) (w : World) (hv : Ints w av a) (hu : Ints w bv b) (hl : a.length ≤ 5000) (hz : bothE a b ≠ 0) :
    Calls Tryd.prog 18 #[av, bv, .agg #[.int .i64 vx, .int .i64 vy]] w fun e w' => e = .returned (.tuple #[.int .i64 0, .agg #[.int .i64 (bothE a b), .slice none 0 0]]) ∧ Below w.heap.size w w' := by
  have C1 := Lib.hid (fun w hv hu => rsad_any av bv a b w hv hu hl)
  have hk : (bothE a b == 0) = false := by simpa using hz
  have HV := Lib.hid hv
  have HU := Lib.hid hu
  have BW := Lib.hid ((Blk.new w #[.int .i64 vx, .int .i64 vy] 26).alloc (.cells #[.int .i64 0, .slice none 0 0] 41))
  have BR := Lib.hid (Blk.new (w.alloc (.cells #[.int .i64 vx, .int .i64 vy] 26)) #[.int .i64 0, .slice none 0 0] 41)
  simp only [World.size_alloc] at BR
  generalize bothE a b = z at *
  generalize okI z (sadV a b) = s at *
  clear hz hl hv hu
  go_enter Tryd.func18, Tryd.ntmps18
  go_wp2_with fail
  refine (C1.out _ (HV.out.ext (by go_grown)) (HU.out.ext (by go_grown))).mono ?_
  rintro e w1 ⟨rfl, hb1⟩
  have g1 : Below w.heap.size w w1 := ext (by go_grown) hb1
  have s1 : w.heap.size + 2 ≤ w1.heap.size := by have := hb1.size; simp at this; omega
  have W1 := Lib.hid ((BW.out.ext hb1).alloc (.cells #[.int .i64 z, .slice none 0 0] 41))
  have R1 := Lib.hid ((BR.out.ext hb1).alloc (.cells #[.int .i64 z, .slice none 0 0] 41))
  have E1 := Lib.hid (Blk.new w1 #[.int .i64 z, .slice none 0 0] 41)
  go_wp2_with fail
  refine (ok_ne z hk _ _).mono ?_
  rintro e w2 ⟨rfl, hb2⟩
  have j2 : Below (w1.alloc (.cells #[.int .i64 z, .slice none 0 0] 41)).heap.size (w1.alloc (.cells #[.int .i64 z, .slice none 0 0] 41)) w2 := ext (by go_grown) hb2
  have g2 : Below w.heap.size w w2 := ext (ext g1 (by go_grown)) j2
  have W2 := Lib.hid (W1.out.ext j2)
  have R2 := Lib.hid (R1.out.ext j2)
  have E2 := Lib.hid (E1.out.ext j2)
  have s2 : w1.heap.size + 1 ≤ w2.heap.size := by have := j2.size; simp at this; omega
  clear W1 R1 E1 hb2
  obtain ⟨r0, r1, r2, r3⟩ := R2.out.two
  obtain ⟨p0, p1, p2, p3⟩ := E2.out.two
  go_wp2
  go_region
  all_goals go_wp2
  all_goals refine bodyPost_ret (by simp [results, Tryd.results18, go_sem, r0, r1, r2, r3]; try rfl) rfl ?_
  all_goals exact ⟨rfl, by go_grown⟩
set_option maxRecDepth 100000 in
set_option maxHeartbeats 4000000 in
theorem rcost_vec (av bv : Value) (a b : List Int) (vx vy : Int) (w : World) (hv : Ints w av a) (hu : Ints w bv b) (hl : a.length ≤ 5000) (hz : bothE a b = 0) (h4 : vecB vx vy = false) :
    Calls Tryd.prog 18 #[av, bv, .agg #[.int .i64 vx, .int .i64 vy]] w fun e w' => e = .returned (.tuple #[.int .i64 0, .agg #[.int .i64 3, .slice none 0 0]]) ∧ Below w.heap.size w w' := by
  have c1 := fun w hv hu => rsad_any av bv a b w hv hu hl
  rw [hz, okI_zero rfl] at c1
  have C1 := Lib.hid c1
  have cw := fun w => rvec_any vx vy w
  rw [h4] at cw
  have CW := Lib.hid cw
  have HV := Lib.hid hv
  have HU := Lib.hid hu
  have BW := Lib.hid ((Blk.new w #[.int .i64 vx, .int .i64 vy] 26).alloc (.cells #[.int .i64 0, .slice none 0 0] 41))
  have BR := Lib.hid (Blk.new (w.alloc (.cells #[.int .i64 vx, .int .i64 vy] 26)) #[.int .i64 0, .slice none 0 0] 41)
  simp only [World.size_alloc] at BR
  generalize sadV a b = s at *
  clear cw c1 h4 hz hl hv hu
  go_enter Tryd.func18, Tryd.ntmps18
  go_wp2_with fail
  refine (C1.out _ (HV.out.ext (by go_grown)) (HU.out.ext (by go_grown))).mono ?_
  rintro e w1 ⟨rfl, hb1⟩
  have g1 : Below w.heap.size w w1 := ext (by go_grown) hb1
  have s1 : w.heap.size + 2 ≤ w1.heap.size := by have := hb1.size; simp at this; omega
  have W1 := Lib.hid ((BW.out.ext hb1).alloc (.cells #[.int .i64 0, .slice none 0 0] 41))
  have R1 := Lib.hid ((BR.out.ext hb1).alloc (.cells #[.int .i64 0, .slice none 0 0] 41))
  have E1 := Lib.hid (Blk.new w1 #[.int .i64 0, .slice none 0 0] 41)
  go_wp2_with fail
  refine (ok_zero _ _).mono ?_
  rintro e w2 ⟨rfl, hb2⟩
  have j2 : Below (w1.alloc (.cells #[.int .i64 0, .slice none 0 0] 41)).heap.size (w1.alloc (.cells #[.int .i64 0, .slice none 0 0] 41)) w2 := ext (by go_grown) hb2
  have g2 : Below w.heap.size w w2 := ext (ext g1 (by go_grown)) j2
  have W2 := Lib.hid (W1.out.ext j2)
  have R2 := Lib.hid (R1.out.ext j2)
  have E2 := Lib.hid (E1.out.ext j2)
  have s2 : w1.heap.size + 1 ≤ w2.heap.size := by have := j2.size; simp at this; omega
  clear W1 R1 E1 hb2
  obtain ⟨d0, d1, -, -⟩ := W2.out.two
  go_wp2_with fail
  clear d0 d1
  refine (CW.out _).mono ?_
  rintro e w3 ⟨rfl, hb3⟩
  have g3 : Below w.heap.size w w3 := ext g2 hb3
  go_wp2_with fail
  refine (fail_any _ _).mono ?_
  rintro e w4 ⟨rfl, hb4⟩
  have g4 : Below w.heap.size w w4 := ext g3 hb4
  obtain ⟨r0, r1, r2, r3⟩ := ((R2.out.ext hb3).ext hb4).two
  go_wp2
  refine bodyPost_ret (by simp [results, Tryd.results18, go_sem, r0, r1, r2, r3]; try rfl) rfl ?_
  exact ⟨rfl, by go_grown⟩
set_option maxRecDepth 100000 in
set_option maxHeartbeats 8000000 in
theorem rcost_ok00 (av bv : Value) (a b : List Int) (vx vy : Int) (w : World) (hv : Ints w av a) (hu : Ints w bv b) (hl : a.length ≤ 5000) (hz : bothE a b = 0) (h4 : vecB vx vy = true) (hX : ¬ vx < -vx) (hY : ¬ vy < -vy) :
    Calls Tryd.prog 18 #[av, bv, .agg #[.int .i64 vx, .int .i64 vy]] w fun e w' => e = .returned (.tuple #[.int .i64 (costV a b vx vy), .agg #[.int .i64 0, .slice none 0 0]]) ∧ Below w.heap.size w w' := by
  have c1 := fun w hv hu => rsad_any av bv a b w hv hu hl
  rw [hz, okI_zero rfl] at c1
  have cw := fun w => rvec_any vx vy w
  rw [h4] at cw
  have CW := Lib.hid cw
  have HV := Lib.hid hv
  have HU := Lib.hid hu
  have BW := Lib.hid ((Blk.new w #[.int .i64 vx, .int .i64 vy] 26).alloc (.cells #[.int .i64 0, .slice none 0 0] 41))
  have BR := Lib.hid (Blk.new (w.alloc (.cells #[.int .i64 vx, .int .i64 vy] 26)) #[.int .i64 0, .slice none 0 0] 41)
  simp only [World.size_alloc] at BR
  obtain ⟨⟨a1, a2⟩, b1, b2⟩ := vecB_iff.1 h4
  have hs := sad_bd (m := 1048576) (by omega) (bothE_zero hz).2.1 (bothE_zero hz).2.2
  have hc : costV a b vx vy = 4 * sadV a b + absV vx + absV vy := rfl
  generalize sadV a b = s at *
  have hs1 : 0 ≤ s := hs.1
  have hs2 : s ≤ 10485760000 := by have := hs.2; omega
  have hx1 : 0 ≤ absV vx ∧ absV vx ≤ 15 := by unfold absV; omega
  have hy1 : 0 ≤ absV vy ∧ absV vy ≤ 15 := by unfold absV; omega
  have C1 := Lib.hid c1
  have nx1 : IntKind.i64.wrap (-vx) = -vx := IntWalk.i64_in _ (by omega)
  have ny1 : IntKind.i64.wrap (-vy) = -vy := IntWalk.i64_in _ (by omega)
  rw [show absV vx = vx from by unfold absV; omega, show absV vy = vy from by unfold absV; omega] at hc
  rw [show absV vx = vx from by unfold absV; omega] at hx1
  rw [show absV vy = vy from by unfold absV; omega] at hy1
  obtain ⟨S1, hS1⟩ : ∃ S, 4 * s = S := ⟨_, rfl⟩
  obtain ⟨S2, hS2⟩ : ∃ S, S1 + vx = S := ⟨_, rfl⟩
  obtain ⟨S3, hS3⟩ : ∃ S, S2 + vy = S := ⟨_, rfl⟩
  have q1 : IntKind.i64.wrap (4 * s) = S1 := by rw [IntWalk.i64_in _ (by omega)]; exact hS1
  have q2 : IntKind.i64.wrap (S1 + vx) = S2 := by rw [IntWalk.i64_in _ (by omega)]; exact hS2
  have q3 : IntKind.i64.wrap (S2 + vy) = S3 := by rw [IntWalk.i64_in _ (by omega)]; exact hS3
  rw [hc, hS1, hS2, hS3]
  clear cw c1 h4 hz hl hv hu hc hs hx1 hy1 hS1 hS2 hS3 a1 a2 b1 b2 hs1 hs2
  go_enter Tryd.func18, Tryd.ntmps18
  go_wp2_with fail
  refine (C1.out _ (HV.out.ext (by go_grown)) (HU.out.ext (by go_grown))).mono ?_
  rintro e w1 ⟨rfl, hb1⟩
  have g1 : Below w.heap.size w w1 := ext (by go_grown) hb1
  have s1 : w.heap.size + 2 ≤ w1.heap.size := by have := hb1.size; simp at this; omega
  have W1 := Lib.hid ((BW.out.ext hb1).alloc (.cells #[.int .i64 0, .slice none 0 0] 41))
  have R1 := Lib.hid ((BR.out.ext hb1).alloc (.cells #[.int .i64 0, .slice none 0 0] 41))
  have E1 := Lib.hid (Blk.new w1 #[.int .i64 0, .slice none 0 0] 41)
  go_wp2_with fail
  refine (ok_zero _ _).mono ?_
  rintro e w2 ⟨rfl, hb2⟩
  have j2 : Below (w1.alloc (.cells #[.int .i64 0, .slice none 0 0] 41)).heap.size (w1.alloc (.cells #[.int .i64 0, .slice none 0 0] 41)) w2 := ext (by go_grown) hb2
  have g2 : Below w.heap.size w w2 := ext (ext g1 (by go_grown)) j2
  have W2 := Lib.hid (W1.out.ext j2)
  have R2 := Lib.hid (R1.out.ext j2)
  have E2 := Lib.hid (E1.out.ext j2)
  have s2 : w1.heap.size + 1 ≤ w2.heap.size := by have := j2.size; simp at this; omega
  clear W1 R1 E1 hb2
  obtain ⟨d0, d1, -, -⟩ := W2.out.two
  go_wp2_with fail
  clear d0 d1
  refine (CW.out _).mono ?_
  rintro e w3 ⟨rfl, hb3⟩
  have j3 : Below w2.heap.size w2 w3 := ext (by go_grown) hb3
  have g3 : Below w.heap.size w w3 := ext g2 j3
  have W3 := Lib.hid (W2.out.ext j3)
  have R3 := Lib.hid (R2.out.ext j3)
  have E3 := Lib.hid (E2.out.ext j3)
  have s3 := j3.size
  clear W2 R2 E2
  obtain ⟨d0, d1, -, -⟩ := W3.out.two
  obtain ⟨p0, p1, -, -⟩ := E3.out.two
  obtain ⟨r0, r1, r2, r3⟩ := R3.out.two
  have n1 : w.heap.size ≠ w.heap.size + 1 := by omega
  have n2 : w1.heap.size ≠ w.heap.size + 1 := by omega
  have n3 : ¬ w.heap.size + 1 = w1.heap.size := by omega
  have lE := E3.out.lt
  have lR := R3.out.lt
  have lW := W3.out.lt
  go_wp2
  go_region_held3 (fun w' => w'.cell? ⟨w.heap.size, 0, none⟩ = some (.int .i64 vx) ∧ w'.cell? ⟨w.heap.size, 1, none⟩ = some (.int .i64 vy) ∧ w'.cell? ⟨w1.heap.size, 0, none⟩ = some (.int .i64 0) ∧ w'.cell? ⟨w1.heap.size, 1, none⟩ = some (.slice none 0 0))
    (first | go_keep | exact ⟨far2 n1 d0, far2 n1 d1, far2 n2 p0, far2 n2 p1⟩ | exact ⟨far2d n1 d0, far2d n1 d1, far2d n2 p0, far2d n2 p1⟩)
    (fail)
  all_goals (try (exfalso; clear q1 q2 q3 nx1 ny1; omega))
  all_goals go_wp2
  all_goals refine bodyPost_ret (by simp [results, Tryd.results18, go_sem, r0, r1, r2, r3]; try rfl) rfl ?_
  all_goals exact ⟨rfl, by go_grown⟩
set_option maxRecDepth 100000 in
set_option maxHeartbeats 8000000 in
theorem rcost_ok01 (av bv : Value) (a b : List Int) (vx vy : Int) (w : World) (hv : Ints w av a) (hu : Ints w bv b) (hl : a.length ≤ 5000) (hz : bothE a b = 0) (h4 : vecB vx vy = true) (hX : ¬ vx < -vx) (hY : vy < -vy) :
    Calls Tryd.prog 18 #[av, bv, .agg #[.int .i64 vx, .int .i64 vy]] w fun e w' => e = .returned (.tuple #[.int .i64 (costV a b vx vy), .agg #[.int .i64 0, .slice none 0 0]]) ∧ Below w.heap.size w w' := by
  have c1 := fun w hv hu => rsad_any av bv a b w hv hu hl
  rw [hz, okI_zero rfl] at c1
  have cw := fun w => rvec_any vx vy w
  rw [h4] at cw
  have CW := Lib.hid cw
  have HV := Lib.hid hv
  have HU := Lib.hid hu
  have BW := Lib.hid ((Blk.new w #[.int .i64 vx, .int .i64 vy] 26).alloc (.cells #[.int .i64 0, .slice none 0 0] 41))
  have BR := Lib.hid (Blk.new (w.alloc (.cells #[.int .i64 vx, .int .i64 vy] 26)) #[.int .i64 0, .slice none 0 0] 41)
  simp only [World.size_alloc] at BR
  obtain ⟨⟨a1, a2⟩, b1, b2⟩ := vecB_iff.1 h4
  have hs := sad_bd (m := 1048576) (by omega) (bothE_zero hz).2.1 (bothE_zero hz).2.2
  have hc : costV a b vx vy = 4 * sadV a b + absV vx + absV vy := rfl
  generalize sadV a b = s at *
  have hs1 : 0 ≤ s := hs.1
  have hs2 : s ≤ 10485760000 := by have := hs.2; omega
  have hx1 : 0 ≤ absV vx ∧ absV vx ≤ 15 := by unfold absV; omega
  have hy1 : 0 ≤ absV vy ∧ absV vy ≤ 15 := by unfold absV; omega
  have C1 := Lib.hid c1
  have nx1 : IntKind.i64.wrap (-vx) = -vx := IntWalk.i64_in _ (by omega)
  have ny1 : IntKind.i64.wrap (-vy) = -vy := IntWalk.i64_in _ (by omega)
  rw [show absV vx = vx from by unfold absV; omega, show absV vy = -vy from by unfold absV; omega] at hc
  rw [show absV vx = vx from by unfold absV; omega] at hx1
  rw [show absV vy = -vy from by unfold absV; omega] at hy1
  obtain ⟨S1, hS1⟩ : ∃ S, 4 * s = S := ⟨_, rfl⟩
  obtain ⟨S2, hS2⟩ : ∃ S, S1 + vx = S := ⟨_, rfl⟩
  obtain ⟨S3, hS3⟩ : ∃ S, S2 + -vy = S := ⟨_, rfl⟩
  have q1 : IntKind.i64.wrap (4 * s) = S1 := by rw [IntWalk.i64_in _ (by omega)]; exact hS1
  have q2 : IntKind.i64.wrap (S1 + vx) = S2 := by rw [IntWalk.i64_in _ (by omega)]; exact hS2
  have q3 : IntKind.i64.wrap (S2 + -vy) = S3 := by rw [IntWalk.i64_in _ (by omega)]; exact hS3
  rw [hc, hS1, hS2, hS3]
  clear cw c1 h4 hz hl hv hu hc hs hx1 hy1 hS1 hS2 hS3 a1 a2 b1 b2 hs1 hs2
  go_enter Tryd.func18, Tryd.ntmps18
  go_wp2_with fail
  refine (C1.out _ (HV.out.ext (by go_grown)) (HU.out.ext (by go_grown))).mono ?_
  rintro e w1 ⟨rfl, hb1⟩
  have g1 : Below w.heap.size w w1 := ext (by go_grown) hb1
  have s1 : w.heap.size + 2 ≤ w1.heap.size := by have := hb1.size; simp at this; omega
  have W1 := Lib.hid ((BW.out.ext hb1).alloc (.cells #[.int .i64 0, .slice none 0 0] 41))
  have R1 := Lib.hid ((BR.out.ext hb1).alloc (.cells #[.int .i64 0, .slice none 0 0] 41))
  have E1 := Lib.hid (Blk.new w1 #[.int .i64 0, .slice none 0 0] 41)
  go_wp2_with fail
  refine (ok_zero _ _).mono ?_
  rintro e w2 ⟨rfl, hb2⟩
  have j2 : Below (w1.alloc (.cells #[.int .i64 0, .slice none 0 0] 41)).heap.size (w1.alloc (.cells #[.int .i64 0, .slice none 0 0] 41)) w2 := ext (by go_grown) hb2
  have g2 : Below w.heap.size w w2 := ext (ext g1 (by go_grown)) j2
  have W2 := Lib.hid (W1.out.ext j2)
  have R2 := Lib.hid (R1.out.ext j2)
  have E2 := Lib.hid (E1.out.ext j2)
  have s2 : w1.heap.size + 1 ≤ w2.heap.size := by have := j2.size; simp at this; omega
  clear W1 R1 E1 hb2
  obtain ⟨d0, d1, -, -⟩ := W2.out.two
  go_wp2_with fail
  clear d0 d1
  refine (CW.out _).mono ?_
  rintro e w3 ⟨rfl, hb3⟩
  have j3 : Below w2.heap.size w2 w3 := ext (by go_grown) hb3
  have g3 : Below w.heap.size w w3 := ext g2 j3
  have W3 := Lib.hid (W2.out.ext j3)
  have R3 := Lib.hid (R2.out.ext j3)
  have E3 := Lib.hid (E2.out.ext j3)
  have s3 := j3.size
  clear W2 R2 E2
  obtain ⟨d0, d1, -, -⟩ := W3.out.two
  obtain ⟨p0, p1, -, -⟩ := E3.out.two
  obtain ⟨r0, r1, r2, r3⟩ := R3.out.two
  have n1 : w.heap.size ≠ w.heap.size + 1 := by omega
  have n2 : w1.heap.size ≠ w.heap.size + 1 := by omega
  have n3 : ¬ w.heap.size + 1 = w1.heap.size := by omega
  have lE := E3.out.lt
  have lR := R3.out.lt
  have lW := W3.out.lt
  go_wp2
  go_region_held3 (fun w' => w'.cell? ⟨w.heap.size, 0, none⟩ = some (.int .i64 vx) ∧ w'.cell? ⟨w.heap.size, 1, none⟩ = some (.int .i64 vy) ∧ w'.cell? ⟨w1.heap.size, 0, none⟩ = some (.int .i64 0) ∧ w'.cell? ⟨w1.heap.size, 1, none⟩ = some (.slice none 0 0))
    (first | go_keep | exact ⟨far2 n1 d0, far2 n1 d1, far2 n2 p0, far2 n2 p1⟩ | exact ⟨far2d n1 d0, far2d n1 d1, far2d n2 p0, far2d n2 p1⟩)
    (fail)
  all_goals (try (exfalso; clear q1 q2 q3 nx1 ny1; omega))
  all_goals go_wp2
  all_goals refine bodyPost_ret (by simp [results, Tryd.results18, go_sem, r0, r1, r2, r3]; try rfl) rfl ?_
  all_goals exact ⟨rfl, by go_grown⟩
set_option maxRecDepth 100000 in
set_option maxHeartbeats 8000000 in
theorem rcost_ok10 (av bv : Value) (a b : List Int) (vx vy : Int) (w : World) (hv : Ints w av a) (hu : Ints w bv b) (hl : a.length ≤ 5000) (hz : bothE a b = 0) (h4 : vecB vx vy = true) (hX : vx < -vx) (hY : ¬ vy < -vy) :
    Calls Tryd.prog 18 #[av, bv, .agg #[.int .i64 vx, .int .i64 vy]] w fun e w' => e = .returned (.tuple #[.int .i64 (costV a b vx vy), .agg #[.int .i64 0, .slice none 0 0]]) ∧ Below w.heap.size w w' := by
  have c1 := fun w hv hu => rsad_any av bv a b w hv hu hl
  rw [hz, okI_zero rfl] at c1
  have cw := fun w => rvec_any vx vy w
  rw [h4] at cw
  have CW := Lib.hid cw
  have HV := Lib.hid hv
  have HU := Lib.hid hu
  have BW := Lib.hid ((Blk.new w #[.int .i64 vx, .int .i64 vy] 26).alloc (.cells #[.int .i64 0, .slice none 0 0] 41))
  have BR := Lib.hid (Blk.new (w.alloc (.cells #[.int .i64 vx, .int .i64 vy] 26)) #[.int .i64 0, .slice none 0 0] 41)
  simp only [World.size_alloc] at BR
  obtain ⟨⟨a1, a2⟩, b1, b2⟩ := vecB_iff.1 h4
  have hs := sad_bd (m := 1048576) (by omega) (bothE_zero hz).2.1 (bothE_zero hz).2.2
  have hc : costV a b vx vy = 4 * sadV a b + absV vx + absV vy := rfl
  generalize sadV a b = s at *
  have hs1 : 0 ≤ s := hs.1
  have hs2 : s ≤ 10485760000 := by have := hs.2; omega
  have hx1 : 0 ≤ absV vx ∧ absV vx ≤ 15 := by unfold absV; omega
  have hy1 : 0 ≤ absV vy ∧ absV vy ≤ 15 := by unfold absV; omega
  have C1 := Lib.hid c1
  have nx1 : IntKind.i64.wrap (-vx) = -vx := IntWalk.i64_in _ (by omega)
  have ny1 : IntKind.i64.wrap (-vy) = -vy := IntWalk.i64_in _ (by omega)
  rw [show absV vx = -vx from by unfold absV; omega, show absV vy = vy from by unfold absV; omega] at hc
  rw [show absV vx = -vx from by unfold absV; omega] at hx1
  rw [show absV vy = vy from by unfold absV; omega] at hy1
  obtain ⟨S1, hS1⟩ : ∃ S, 4 * s = S := ⟨_, rfl⟩
  obtain ⟨S2, hS2⟩ : ∃ S, S1 + -vx = S := ⟨_, rfl⟩
  obtain ⟨S3, hS3⟩ : ∃ S, S2 + vy = S := ⟨_, rfl⟩
  have q1 : IntKind.i64.wrap (4 * s) = S1 := by rw [IntWalk.i64_in _ (by omega)]; exact hS1
  have q2 : IntKind.i64.wrap (S1 + -vx) = S2 := by rw [IntWalk.i64_in _ (by omega)]; exact hS2
  have q3 : IntKind.i64.wrap (S2 + vy) = S3 := by rw [IntWalk.i64_in _ (by omega)]; exact hS3
  rw [hc, hS1, hS2, hS3]
  clear cw c1 h4 hz hl hv hu hc hs hx1 hy1 hS1 hS2 hS3 a1 a2 b1 b2 hs1 hs2
  go_enter Tryd.func18, Tryd.ntmps18
  go_wp2_with fail
  refine (C1.out _ (HV.out.ext (by go_grown)) (HU.out.ext (by go_grown))).mono ?_
  rintro e w1 ⟨rfl, hb1⟩
  have g1 : Below w.heap.size w w1 := ext (by go_grown) hb1
  have s1 : w.heap.size + 2 ≤ w1.heap.size := by have := hb1.size; simp at this; omega
  have W1 := Lib.hid ((BW.out.ext hb1).alloc (.cells #[.int .i64 0, .slice none 0 0] 41))
  have R1 := Lib.hid ((BR.out.ext hb1).alloc (.cells #[.int .i64 0, .slice none 0 0] 41))
  have E1 := Lib.hid (Blk.new w1 #[.int .i64 0, .slice none 0 0] 41)
  go_wp2_with fail
  refine (ok_zero _ _).mono ?_
  rintro e w2 ⟨rfl, hb2⟩
  have j2 : Below (w1.alloc (.cells #[.int .i64 0, .slice none 0 0] 41)).heap.size (w1.alloc (.cells #[.int .i64 0, .slice none 0 0] 41)) w2 := ext (by go_grown) hb2
  have g2 : Below w.heap.size w w2 := ext (ext g1 (by go_grown)) j2
  have W2 := Lib.hid (W1.out.ext j2)
  have R2 := Lib.hid (R1.out.ext j2)
  have E2 := Lib.hid (E1.out.ext j2)
  have s2 : w1.heap.size + 1 ≤ w2.heap.size := by have := j2.size; simp at this; omega
  clear W1 R1 E1 hb2
  obtain ⟨d0, d1, -, -⟩ := W2.out.two
  go_wp2_with fail
  clear d0 d1
  refine (CW.out _).mono ?_
  rintro e w3 ⟨rfl, hb3⟩
  have j3 : Below w2.heap.size w2 w3 := ext (by go_grown) hb3
  have g3 : Below w.heap.size w w3 := ext g2 j3
  have W3 := Lib.hid (W2.out.ext j3)
  have R3 := Lib.hid (R2.out.ext j3)
  have E3 := Lib.hid (E2.out.ext j3)
  have s3 := j3.size
  clear W2 R2 E2
  obtain ⟨d0, d1, -, -⟩ := W3.out.two
  obtain ⟨p0, p1, -, -⟩ := E3.out.two
  obtain ⟨r0, r1, r2, r3⟩ := R3.out.two
  have n1 : w.heap.size ≠ w.heap.size + 1 := by omega
  have n2 : w1.heap.size ≠ w.heap.size + 1 := by omega
  have n3 : ¬ w.heap.size + 1 = w1.heap.size := by omega
  have lE := E3.out.lt
  have lR := R3.out.lt
  have lW := W3.out.lt
  go_wp2
  go_region_held3 (fun w' => w'.cell? ⟨w.heap.size, 0, none⟩ = some (.int .i64 vx) ∧ w'.cell? ⟨w.heap.size, 1, none⟩ = some (.int .i64 vy) ∧ w'.cell? ⟨w1.heap.size, 0, none⟩ = some (.int .i64 0) ∧ w'.cell? ⟨w1.heap.size, 1, none⟩ = some (.slice none 0 0))
    (first | go_keep | exact ⟨far2 n1 d0, far2 n1 d1, far2 n2 p0, far2 n2 p1⟩ | exact ⟨far2d n1 d0, far2d n1 d1, far2d n2 p0, far2d n2 p1⟩)
    (fail)
  all_goals (try (exfalso; clear q1 q2 q3 nx1 ny1; omega))
  all_goals go_wp2
  all_goals refine bodyPost_ret (by simp [results, Tryd.results18, go_sem, r0, r1, r2, r3]; try rfl) rfl ?_
  all_goals exact ⟨rfl, by go_grown⟩
set_option maxRecDepth 100000 in
set_option maxHeartbeats 8000000 in
theorem rcost_ok11 (av bv : Value) (a b : List Int) (vx vy : Int) (w : World) (hv : Ints w av a) (hu : Ints w bv b) (hl : a.length ≤ 5000) (hz : bothE a b = 0) (h4 : vecB vx vy = true) (hX : vx < -vx) (hY : vy < -vy) :
    Calls Tryd.prog 18 #[av, bv, .agg #[.int .i64 vx, .int .i64 vy]] w fun e w' => e = .returned (.tuple #[.int .i64 (costV a b vx vy), .agg #[.int .i64 0, .slice none 0 0]]) ∧ Below w.heap.size w w' := by
  have c1 := fun w hv hu => rsad_any av bv a b w hv hu hl
  rw [hz, okI_zero rfl] at c1
  have cw := fun w => rvec_any vx vy w
  rw [h4] at cw
  have CW := Lib.hid cw
  have HV := Lib.hid hv
  have HU := Lib.hid hu
  have BW := Lib.hid ((Blk.new w #[.int .i64 vx, .int .i64 vy] 26).alloc (.cells #[.int .i64 0, .slice none 0 0] 41))
  have BR := Lib.hid (Blk.new (w.alloc (.cells #[.int .i64 vx, .int .i64 vy] 26)) #[.int .i64 0, .slice none 0 0] 41)
  simp only [World.size_alloc] at BR
  obtain ⟨⟨a1, a2⟩, b1, b2⟩ := vecB_iff.1 h4
  have hs := sad_bd (m := 1048576) (by omega) (bothE_zero hz).2.1 (bothE_zero hz).2.2
  have hc : costV a b vx vy = 4 * sadV a b + absV vx + absV vy := rfl
  generalize sadV a b = s at *
  have hs1 : 0 ≤ s := hs.1
  have hs2 : s ≤ 10485760000 := by have := hs.2; omega
  have hx1 : 0 ≤ absV vx ∧ absV vx ≤ 15 := by unfold absV; omega
  have hy1 : 0 ≤ absV vy ∧ absV vy ≤ 15 := by unfold absV; omega
  have C1 := Lib.hid c1
  have nx1 : IntKind.i64.wrap (-vx) = -vx := IntWalk.i64_in _ (by omega)
  have ny1 : IntKind.i64.wrap (-vy) = -vy := IntWalk.i64_in _ (by omega)
  rw [show absV vx = -vx from by unfold absV; omega, show absV vy = -vy from by unfold absV; omega] at hc
  rw [show absV vx = -vx from by unfold absV; omega] at hx1
  rw [show absV vy = -vy from by unfold absV; omega] at hy1
  obtain ⟨S1, hS1⟩ : ∃ S, 4 * s = S := ⟨_, rfl⟩
  obtain ⟨S2, hS2⟩ : ∃ S, S1 + -vx = S := ⟨_, rfl⟩
  obtain ⟨S3, hS3⟩ : ∃ S, S2 + -vy = S := ⟨_, rfl⟩
  have q1 : IntKind.i64.wrap (4 * s) = S1 := by rw [IntWalk.i64_in _ (by omega)]; exact hS1
  have q2 : IntKind.i64.wrap (S1 + -vx) = S2 := by rw [IntWalk.i64_in _ (by omega)]; exact hS2
  have q3 : IntKind.i64.wrap (S2 + -vy) = S3 := by rw [IntWalk.i64_in _ (by omega)]; exact hS3
  rw [hc, hS1, hS2, hS3]
  clear cw c1 h4 hz hl hv hu hc hs hx1 hy1 hS1 hS2 hS3 a1 a2 b1 b2 hs1 hs2
  go_enter Tryd.func18, Tryd.ntmps18
  go_wp2_with fail
  refine (C1.out _ (HV.out.ext (by go_grown)) (HU.out.ext (by go_grown))).mono ?_
  rintro e w1 ⟨rfl, hb1⟩
  have g1 : Below w.heap.size w w1 := ext (by go_grown) hb1
  have s1 : w.heap.size + 2 ≤ w1.heap.size := by have := hb1.size; simp at this; omega
  have W1 := Lib.hid ((BW.out.ext hb1).alloc (.cells #[.int .i64 0, .slice none 0 0] 41))
  have R1 := Lib.hid ((BR.out.ext hb1).alloc (.cells #[.int .i64 0, .slice none 0 0] 41))
  have E1 := Lib.hid (Blk.new w1 #[.int .i64 0, .slice none 0 0] 41)
  go_wp2_with fail
  refine (ok_zero _ _).mono ?_
  rintro e w2 ⟨rfl, hb2⟩
  have j2 : Below (w1.alloc (.cells #[.int .i64 0, .slice none 0 0] 41)).heap.size (w1.alloc (.cells #[.int .i64 0, .slice none 0 0] 41)) w2 := ext (by go_grown) hb2
  have g2 : Below w.heap.size w w2 := ext (ext g1 (by go_grown)) j2
  have W2 := Lib.hid (W1.out.ext j2)
  have R2 := Lib.hid (R1.out.ext j2)
  have E2 := Lib.hid (E1.out.ext j2)
  have s2 : w1.heap.size + 1 ≤ w2.heap.size := by have := j2.size; simp at this; omega
  clear W1 R1 E1 hb2
  obtain ⟨d0, d1, -, -⟩ := W2.out.two
  go_wp2_with fail
  clear d0 d1
  refine (CW.out _).mono ?_
  rintro e w3 ⟨rfl, hb3⟩
  have j3 : Below w2.heap.size w2 w3 := ext (by go_grown) hb3
  have g3 : Below w.heap.size w w3 := ext g2 j3
  have W3 := Lib.hid (W2.out.ext j3)
  have R3 := Lib.hid (R2.out.ext j3)
  have E3 := Lib.hid (E2.out.ext j3)
  have s3 := j3.size
  clear W2 R2 E2
  obtain ⟨d0, d1, -, -⟩ := W3.out.two
  obtain ⟨p0, p1, -, -⟩ := E3.out.two
  obtain ⟨r0, r1, r2, r3⟩ := R3.out.two
  have n1 : w.heap.size ≠ w.heap.size + 1 := by omega
  have n2 : w1.heap.size ≠ w.heap.size + 1 := by omega
  have n3 : ¬ w.heap.size + 1 = w1.heap.size := by omega
  have lE := E3.out.lt
  have lR := R3.out.lt
  have lW := W3.out.lt
  go_wp2
  go_region_held3 (fun w' => w'.cell? ⟨w.heap.size, 0, none⟩ = some (.int .i64 vx) ∧ w'.cell? ⟨w.heap.size, 1, none⟩ = some (.int .i64 vy) ∧ w'.cell? ⟨w1.heap.size, 0, none⟩ = some (.int .i64 0) ∧ w'.cell? ⟨w1.heap.size, 1, none⟩ = some (.slice none 0 0))
    (first | go_keep | exact ⟨far2 n1 d0, far2 n1 d1, far2 n2 p0, far2 n2 p1⟩ | exact ⟨far2d n1 d0, far2d n1 d1, far2d n2 p0, far2d n2 p1⟩)
    (fail)
  all_goals (try (exfalso; clear q1 q2 q3 nx1 ny1; omega))
  all_goals go_wp2
  all_goals refine bodyPost_ret (by simp [results, Tryd.results18, go_sem, r0, r1, r2, r3]; try rfl) rfl ?_
  all_goals exact ⟨rfl, by go_grown⟩
theorem rcost_ok (av bv : Value) (a b : List Int) (vx vy : Int) (w : World) (hv : Ints w av a) (hu : Ints w bv b) (hl : a.length ≤ 5000) (hz : bothE a b = 0) (h4 : vecB vx vy = true) :
    Calls Tryd.prog 18 #[av, bv, .agg #[.int .i64 vx, .int .i64 vy]] w fun e w' => e = .returned (.tuple #[.int .i64 (costV a b vx vy), .agg #[.int .i64 0, .slice none 0 0]]) ∧ Below w.heap.size w w' := by
  by_cases hX : vx < -vx <;> by_cases hY : vy < -vy
  · exact rcost_ok11 av bv a b vx vy w hv hu hl hz h4 hX hY
  · exact rcost_ok10 av bv a b vx vy w hv hu hl hz h4 hX hY
  · exact rcost_ok01 av bv a b vx vy w hv hu hl hz h4 hX hY
  · exact rcost_ok00 av bv a b vx vy w hv hu hl hz h4 hX hY
theorem rcost_any (av bv : Value) (a b : List Int) (vx vy : Int) (w : World) (hv : Ints w av a) (hu : Ints w bv b) (hl : a.length ≤ 5000) :
    Calls Tryd.prog 18 #[av, bv, .agg #[.int .i64 vx, .int .i64 vy]] w fun e w' => e = .returned (.tuple #[.int .i64 (okI (costE a b vx vy) (costV a b vx vy)), .agg #[.int .i64 (costE a b vx vy), .slice none 0 0]]) ∧ Below w.heap.size w w' := by
  by_cases hz : bothE a b = 0
  · cases h4 : vecB vx vy with
    | true =>
      rw [costE_ok hz h4, okI_zero rfl]
      exact rcost_ok av bv a b vx vy w hv hu hl hz h4
    | false =>
      have he : costE a b vx vy = 3 := by unfold costE; rw [if_pos hz, h4]; rfl
      rw [he, okI_ne (by decide)]
      exact rcost_vec av bv a b vx vy w hv hu hl hz h4
  · have he : costE a b vx vy = bothE a b := by unfold costE; rw [if_neg hz]
    rw [he, okI_ne hz]
    exact rcost_no av bv a b vx vy w hv hu hl hz
end Go.Proofs.YtjmkcbagedflkaaDoor
