/- kinref16.Inner, kinref16.Outer: contracts. -/
import Derived.Test.YtmdpfjjbehpnbaaDoorStatsI
set_option linter.unusedSimpArgs false
set_option linter.unusedVariables false
namespace Go.Proofs.YtmdpfjjbehpnbaaDoor
open Go.RowKit Go.Extern.Stop Go.Stop Go.Extern
/-- The numbers of a square's place. -/
theorem sq_nums {W H : Int} {a : List Int} (hm : May W H a) : ∃ C N : Nat, W.toNat / 8 = C ∧ sqN W H = N ∧ 1 ≤ C ∧ C ≤ 4 ∧ N ≤ 16 ∧ W = 8 * C ∧ W * H = 64 * N ∧ ∀ k, k < N → k / C ≤ 4 := by
  obtain ⟨C, R, hW, hH, c1, c2, r1, r2, hC, hN, hCR⟩ := hm.sides
  refine ⟨C, C * R, hC, hN, c1, c2, hCR, hW, ?_, fun k hk => ?_⟩
  · rw [hW, hH, Int.mul_assoc, Int.mul_left_comm (C : Int) 8 (R : Int), ← Int.mul_assoc]; simp
  · have : k / C < R := Nat.div_lt_of_lt_mul hk
    omega
set_option maxRecDepth 100000 in
set_option maxHeartbeats 4000000 in
theorem rinner_no (v : Value) (W H : Int) (a : List Int) (w : World) (hv : FrameV w v W H a) (hm : mayB W H a = false) :
    Calls Tryd.prog 11 #[v] w fun e w' => e = .returned (.tuple #[.int .i64 0, .agg #[.int .i64 2, .slice none 0 0]]) ∧ Below w.heap.size w w' := by
  have c1 := fun u w h => rmay_any u W H a w h
  rw [hm] at c1
  have C1 := Lib.hid c1
  have HV := Lib.hid hv
  obtain ⟨ao, cap, rfl, -⟩ := hv.cells
  have BR := Lib.hid (Blk.new (w.alloc (.cells #[.int .i64 W, .int .i64 H, .slice ao a.length cap] 24)) #[.int .i64 0, .slice none 0 0] 35)
  simp only [World.size_alloc] at BR
  clear hv hm c1
  go_enter Tryd.func11, Tryd.ntmps11
  go_wp2_with fail
  refine (C1.out _ _ (HV.out.ext (by go_grown))).mono ?_
  rintro e w1 ⟨rfl, hb1⟩
  have g1 : Below w.heap.size w w1 := ext (by go_grown) hb1
  go_wp2_with fail
  refine (fail_any _ _).mono ?_
  rintro e w2 ⟨rfl, hb2⟩
  have g2 : Below w.heap.size w w2 := ext g1 (ext (by go_grown) hb2)
  obtain ⟨r0, r1, r2, r3⟩ := ((BR.out.ext hb1).ext hb2).two
  go_wp2
  refine bodyPost_ret (by simp [results, Tryd.results11, go_sem, r0, r1, r2, r3]; try rfl) rfl ?_
  exact ⟨rfl, by go_grown⟩
set_option maxRecDepth 100000 in
set_option maxHeartbeats 8000000 in
theorem rinner_yes (v : Value) (W H : Int) (a : List Int) (w : World) (hv : FrameV w v W H a) (hm : mayB W H a = true) :
    Calls Tryd.prog 11 #[v] w fun e w' => e = .returned (.tuple #[.int .i64 (inTo W H a (sqN W H)), .agg #[.int .i64 0, .slice none 0 0]]) ∧ Below w.heap.size w w' := by
  have c1 := fun u w h => rmay_any u W H a w h
  rw [hm] at c1
  have C1 := Lib.hid c1
  have hM := mayB_iff.1 hm
  obtain ⟨C, N, hC, hN, c1', c2', n16, hW, hWH, hD⟩ := sq_nums hM
  have C2 := Lib.hid (fun u (i j : Int) w (h : FrameV w u W H a) => rget_any u W H a (i * 8) (j * 8) 8 w h)
  have C3 := Lib.hid (fun u k w h => rinside_any u (sqA W H a k) w h (sqA_within hM k) (length_sqA ..))
  have HSQ := Lib.hid (fun k (hk : k < N) => sq_get (pix := a) hM hC (Nat.mod_lt k (by omega)) (Nat.le_trans (Nat.le_of_lt (Nat.mod_lt k (by omega))) c2') (hD k hk))
  have HDV := Lib.hid hD
  have HB := Lib.hid (fun k => inTo_bounds hM k)
  have HI := Lib.hid (fun k => inV_bd (sqA_within hM k) (by rw [length_sqA]; omega))
  have HU := Lib.hid (fun k => inTo_succ W H a k)
  have HV := Lib.hid hv
  obtain ⟨ao, cap, rfl, -⟩ := hv.cells
  have BF := Lib.hid ((Blk.new w #[.int .i64 W, .int .i64 H, .slice ao a.length cap] 24).alloc (.cells #[.int .i64 0, .slice none 0 0] 35))
  have BR := Lib.hid (Blk.new (w.alloc (.cells #[.int .i64 W, .int .i64 H, .slice ao a.length cap] 24)) #[.int .i64 0, .slice none 0 0] 35)
  simp only [World.size_alloc] at BR
  have q1 : IntKind.i64.wrap (W * H) = W * H := by rw [hWH]; exact IntWalk.i64_in _ (by omega)
  have q2 : Int.tdiv (W * H) 64 = (N : Int) := by rw [Int.tdiv_eq_ediv_of_nonneg (by omega)]; omega
  have q3 : IntKind.i64.wrap (N : Int) = (N : Int) := IntWalk.i64_in _ (by omega)
  have q4 : Int.tdiv W 8 = (C : Int) := by rw [Int.tdiv_eq_ediv_of_nonneg (by omega)]; omega
  have q5 : IntKind.i64.wrap (C : Int) = (C : Int) := IntWalk.i64_in _ (by omega)
  have q6 : ¬ (C : Int) = 0 := by omega
  have q7 : ((C : Int) == 0) = false := by rw [beq_eq_false_iff_ne]; omega
  have q8 : ¬ C = 0 := by omega
  rw [hN]
  clear hv hm c1 hM hW hWH hD hN hC
  go_enter Tryd.func11, Tryd.ntmps11
  go_wp2_with fail
  refine (C1.out _ _ (HV.out.ext (by go_grown))).mono ?_
  rintro e w1 ⟨rfl, hb1⟩
  have g1 : Below w.heap.size w w1 := ext (by go_grown) hb1
  have BF1 := Lib.hid (BF.out.ext hb1)
  have BR1 := Lib.hid (BR.out.ext hb1)
  have HV1 := Lib.hid (HV.out.ext g1)
  have s1 : w.heap.size + 2 ≤ w1.heap.size := by have := hb1.size; simp at this; omega
  go_wp2
  go_loopw [4, 5] (fun n i wr => ∃ k : Nat, k ≤ N ∧ i = .int .i64 k ∧ n = .int .i64 (inTo W H a k) ∧ Below w1.heap.size w1 wr) (fun _ i _ => N - (intOf i).toNat)
  case atStart => exact ⟨0, Nat.zero_le _, rfl, rfl, Below.refl _ _⟩
  case round =>
    obtain ⟨k, hk, rfl, rfl, hbr⟩ := hrel
    obtain ⟨h1, h2⟩ := HB.out k
    have BFr := Lib.hid (BF1.out.ext hbr)
    have HVr := Lib.hid (HV1.out.ext hbr)
    obtain ⟨f0, f1, f2, -, -, -⟩ := BFr.out.three
    have lf := BFr.out.lt
    by_cases hlt : k < N
    · obtain ⟨M, hMo⟩ : ∃ M, k % C = M := ⟨_, rfl⟩
      obtain ⟨D, hDo⟩ : ∃ D, k / C = D := ⟨_, rfl⟩
      have hM4 : M < C := by rw [← hMo]; exact Nat.mod_lt k (by omega)
      have hD4 : D ≤ 4 := by rw [← hDo]; exact HDV.out k hlt
      have p1 : Int.tmod (k : Int) (C : Int) = (M : Int) := by rw [← hMo, Int.tmod_eq_emod_of_nonneg (by omega)]; simp
      have p2 : Int.tdiv (k : Int) (C : Int) = (D : Int) := by rw [← hDo, Int.tdiv_eq_ediv_of_nonneg (by omega)]; simp
      have p3 : IntKind.i64.wrap (M : Int) = (M : Int) := IntWalk.i64_in _ (by omega)
      have p4 : IntKind.i64.wrap (D : Int) = (D : Int) := IntWalk.i64_in _ (by omega)
      have p5 : IntKind.i64.wrap ((M : Int) * 8) = (M : Int) * 8 := IntWalk.i64_in _ (by omega)
      have p6 : IntKind.i64.wrap ((D : Int) * 8) = (D : Int) * 8 := IntWalk.i64_in _ (by omega)
      have hsq := HSQ.out k hlt
      rw [hMo, hDo, show D * C + M = k from by rw [← hMo, ← hDo, Nat.mul_comm]; exact Nat.div_add_mod k C] at hsq
      have HSK := Lib.hid hsq
      obtain ⟨d1, d2⟩ := HI.out k
      have he := HU.out k
      have CG := Lib.hid (C2.out (.agg #[.int .i64 W, .int .i64 H, .slice ao a.length cap]) (M : Int) (D : Int))
      have CI := Lib.hid (fun u w h => C3.out u k w h)
      generalize inTo W H a k = s at *
      generalize inV (sqA W H a k) = z at *
      have HE := Lib.hid he
      clear he hsq hMo hDo
      have p7 : IntKind.i64.wrap (s + z) = s + z := IntWalk.i64_in _ (by omega)
      go_wp2
      go_region_held3 (fun w' => w'.cell? ⟨w.heap.size, 0, none⟩ = some (.int .i64 W) ∧ w'.cell? ⟨w.heap.size, 1, none⟩ = some (.int .i64 H) ∧ w'.cell? ⟨w.heap.size, 2, none⟩ = some (.slice ao a.length cap))
        (first | with_reducible exact ⟨B6.out.three.1, B6.out.three.2.1, B6.out.three.2.2.1⟩ | with_reducible exact ⟨B5.out.three.1, B5.out.three.2.1, B5.out.three.2.2.1⟩ | with_reducible exact ⟨BFr.out.three.1, BFr.out.three.2.1, BFr.out.three.2.2.1⟩ | go_keep)
        (first | (go_at_call 30; refine (CG.out _ ?_).mono ?_; exact HVr.out; rintro e w5 ⟨p, rfl, hp, hb5⟩; have j5 : Below wr.heap.size wr w5 := (by first | exact hb5 | exact below_undrew hb5); rw [HSK.out] at hp; have HP := Lib.hid hp.ints; have B5 := Lib.hid (BFr.out.ext j5); clear hp) | (go_at_call 29; refine (CI.out _ _ ?_).mono ?_; exact HP.out; rintro e w6 ⟨rfl, hb6⟩; have j6 : Below w5.heap.size w5 w6 := (by first | exact hb6 | exact below_undrew hb6); have B6 := Lib.hid (B5.out.ext j6)))
      have g6 : Below w1.heap.size w1 w6 := ext hbr (ext j5 j6)
      clear f0 f1 f2
      go_wp2
      go_roundw
      case rel => exact ⟨k + 1, by omega, by go_num, int_eq HE.out.symm, g6⟩
      case measure => simp [intOf]; omega
    · obtain rfl : k = N := by omega
      obtain ⟨r0, r1, r2, r3⟩ := (BR1.out.ext hbr).two
      have gr := ext g1 hbr
      go_wp2
      all_goals refine bodyPost_ret (by simp [results, Tryd.results11, go_sem, r0, r1, r2, r3]; try rfl) rfl ?_
      all_goals exact ⟨rfl, by go_grown⟩
theorem rinner_any (v : Value) (f : Fr) (w : World) (hv : FrameV w v f.W f.H f.pix) :
    Calls Tryd.prog 11 #[v] w fun e w' => e = .returned (.tuple #[.int .i64 (innV f), .agg #[.int .i64 (innE f), .slice none 0 0]]) ∧ Below w.heap.size w w' := by
  unfold innV innE
  cases hm : mayB f.W f.H f.pix with
  | true => exact rinner_yes v f.W f.H f.pix w hv hm
  | false => exact rinner_no v f.W f.H f.pix w hv hm
set_option maxRecDepth 100000 in
set_option maxHeartbeats 4000000 in
theorem router_no (v u : Value) (W H : Int) (a : List Int) (W2 H2 : Int) (b : List Int) (w : World) (hv : FrameV w v W H a) (hu : FrameV w u W2 H2 b) (he : fbothE W H a W2 H2 b ≠ 0) :
    Calls Tryd.prog 13 #[v, u] w fun e w' => e = .returned (.tuple #[.int .i64 0, .agg #[.int .i64 (fbothE W H a W2 H2 b), .slice none 0 0]]) ∧ Below w.heap.size w w' := by
  have c1 := fun x y w h1 h2 => rsum_any x y W H a W2 H2 b w h1 h2
  rw [okI_ne he] at c1
  have C1 := Lib.hid c1
  have hk : (fbothE W H a W2 H2 b == 0) = false := by rw [beq_eq_false_iff_ne]; exact he
  generalize fbothE W H a W2 H2 b = k at *
  have HV := Lib.hid hv
  have HU := Lib.hid hu
  obtain ⟨ao, cap, rfl, -⟩ := hv.cells
  obtain ⟨bo, bcap, rfl, -⟩ := hu.cells
  have BA := Lib.hid (((Blk.new w #[.int .i64 W, .int .i64 H, .slice ao a.length cap] 24).alloc (.cells #[.int .i64 W2, .int .i64 H2, .slice bo b.length bcap] 24)).alloc (.cells #[.int .i64 0, .slice none 0 0] 35))
  have BB := Lib.hid ((Blk.new (w.alloc (.cells #[.int .i64 W, .int .i64 H, .slice ao a.length cap] 24)) #[.int .i64 W2, .int .i64 H2, .slice bo b.length bcap] 24).alloc (.cells #[.int .i64 0, .slice none 0 0] 35))
  have BR := Lib.hid (Blk.new ((w.alloc (.cells #[.int .i64 W, .int .i64 H, .slice ao a.length cap] 24)).alloc (.cells #[.int .i64 W2, .int .i64 H2, .slice bo b.length bcap] 24)) #[.int .i64 0, .slice none 0 0] 35)
  simp only [World.size_alloc] at BB BR
  clear hv hu c1 he
  go_enter Tryd.func13, Tryd.ntmps13
  go_wp2_with fail
  refine (C1.out _ _ _ (HV.out.ext (by go_grown)) (HU.out.ext (by go_grown))).mono ?_
  rintro e w1 ⟨rfl, hb1⟩
  have g1 : Below w.heap.size w w1 := ext (by go_grown) hb1
  have s1 : w.heap.size + 3 ≤ w1.heap.size := by have := hb1.size; simp at this; omega
  have R1 := Lib.hid ((BR.out.ext hb1).alloc (.cells #[.int .i64 k, .slice none 0 0] 35))
  have E2 := Lib.hid (Blk.new w1 #[.int .i64 k, .slice none 0 0] 35)
  go_wp2_with fail
  refine (ok_ne k hk _ _).mono ?_
  rintro e w2 ⟨rfl, hb2⟩
  have j2 : Below (w1.alloc (.cells #[.int .i64 k, .slice none 0 0] 35)).heap.size (w1.alloc (.cells #[.int .i64 k, .slice none 0 0] 35)) w2 := ext (by go_grown) hb2
  have g2 : Below w.heap.size w w2 := ext (by go_grown) j2
  obtain ⟨p0, p1, p2, p3⟩ := (E2.out.ext j2).two
  obtain ⟨r0, r1, r2, r3⟩ := (R1.out.ext j2).two
  have s2 : w1.heap.size + 1 ≤ w2.heap.size := by have := j2.size; simp at this; omega
  go_wp2
  go_region
  all_goals go_wp2
  all_goals refine bodyPost_ret (by simp [results, Tryd.results13, go_sem, r0, r1, r2, r3]; try rfl) rfl ?_
  all_goals exact ⟨rfl, by go_grown⟩
set_option maxRecDepth 100000 in
set_option maxHeartbeats 16000000 in
theorem router_yes (v u : Value) (W H : Int) (a b : List Int) (w : World) (hv : FrameV w v W H a) (hu : FrameV w u W H b) (hA : May W H a) (hB : May W H b) :
    Calls Tryd.prog 13 #[v, u] w fun e w' => e = .returned (.tuple #[.int .i64 (outTo W H a b (sqN W H)), .agg #[.int .i64 0, .slice none 0 0]]) ∧ Below w.heap.size w w' := by
  have he : fbothE W H a W H b = 0 := by unfold fbothE; rw [mayB_iff.2 hA, mayB_iff.2 hB]; simp
  have c1 := fun x y w h1 h2 => rsum_any x y W H a W H b w h1 h2
  rw [he] at c1
  have C1 := Lib.hid c1
  obtain ⟨C, N, hC, hN, c1', c2', n16, hW, hWH, hD⟩ := sq_nums hA
  have C2 := Lib.hid (fun u (i j : Int) w (h : FrameV w u W H a) => rget_any u W H a (i * 8) (j * 8) 8 w h)
  have C4 := Lib.hid (fun u (i j : Int) w (h : FrameV w u W H b) => rget_any u W H b (i * 8) (j * 8) 8 w h)
  have C3 := Lib.hid (fun u k w h => rinside_any u (sqA W H a k) w h (sqA_within hA k) (length_sqA ..))
  have C6 : Hid (∀ (x y : Value) (k : Nat) (w : World), Ints w x (sqA W H a k) → Ints w y (sqA W H b k) → Calls Tryd.prog 34 #[x, y] w fun e w' => e = .returned (.tuple #[.int .i64 (sadV (sqA W H a k) (sqA W H b k)), .agg #[.int .i64 0, .slice none 0 0]]) ∧ Below w.heap.size w w') := fun x y k w h1 h2 => by
    have hc := rsad_any x y (sqA W H a k) (sqA W H b k) w h1 h2 (by rw [length_sqA]; omega)
    rw [bothQ hA hB k, okI_zero rfl] at hc
    exact hc
  have HSQ := Lib.hid (fun k (hk : k < N) => sq_get (pix := a) hA hC (Nat.mod_lt k (by omega)) (Nat.le_trans (Nat.le_of_lt (Nat.mod_lt k (by omega))) c2') (hD k hk))
  have HSP := Lib.hid (fun k (hk : k < N) => sq_get (pix := b) hB hC (Nat.mod_lt k (by omega)) (Nat.le_trans (Nat.le_of_lt (Nat.mod_lt k (by omega))) c2') (hD k hk))
  have HDV := Lib.hid hD
  have HIB := Lib.hid (fun k => inTo_bounds hA k)
  have HOB := Lib.hid (fun k => outTo_bounds hA hB k)
  have HI := Lib.hid (fun k => inV_bd (sqA_within hA k) (by rw [length_sqA]; omega))
  have HS := Lib.hid (fun k => sadQ_bd hA hB k)
  have HU1 := Lib.hid (fun k => outTo_succ W H a b k)
  have HV := Lib.hid hv
  have HU := Lib.hid hu
  obtain ⟨ao, cap, rfl, -⟩ := hv.cells
  obtain ⟨bo, bcap, rfl, -⟩ := hu.cells
  have BA := Lib.hid (((Blk.new w #[.int .i64 W, .int .i64 H, .slice ao a.length cap] 24).alloc (.cells #[.int .i64 W, .int .i64 H, .slice bo b.length bcap] 24)).alloc (.cells #[.int .i64 0, .slice none 0 0] 35))
  have BB := Lib.hid ((Blk.new (w.alloc (.cells #[.int .i64 W, .int .i64 H, .slice ao a.length cap] 24)) #[.int .i64 W, .int .i64 H, .slice bo b.length bcap] 24).alloc (.cells #[.int .i64 0, .slice none 0 0] 35))
  have BR := Lib.hid (Blk.new ((w.alloc (.cells #[.int .i64 W, .int .i64 H, .slice ao a.length cap] 24)).alloc (.cells #[.int .i64 W, .int .i64 H, .slice bo b.length bcap] 24)) #[.int .i64 0, .slice none 0 0] 35)
  simp only [World.size_alloc] at BB BR
  have q1 : IntKind.i64.wrap (W * H) = W * H := by rw [hWH]; exact IntWalk.i64_in _ (by omega)
  have q2 : Int.tdiv (W * H) 64 = (N : Int) := by rw [Int.tdiv_eq_ediv_of_nonneg (by omega)]; omega
  have q3 : IntKind.i64.wrap (N : Int) = (N : Int) := IntWalk.i64_in _ (by omega)
  have q4 : Int.tdiv W 8 = (C : Int) := by rw [Int.tdiv_eq_ediv_of_nonneg (by omega)]; omega
  have q5 : IntKind.i64.wrap (C : Int) = (C : Int) := IntWalk.i64_in _ (by omega)
  have q6 : ¬ (C : Int) = 0 := by omega
  have q7 : ((C : Int) == 0) = false := by rw [beq_eq_false_iff_ne]; omega
  have q8 : ¬ C = 0 := by omega
  rw [hN]
  clear hv hu c1 he hA hB hW hWH hD hN hC
  go_enter Tryd.func13, Tryd.ntmps13
  go_wp2_with fail
  refine (C1.out _ _ _ (HV.out.ext (by go_grown)) (HU.out.ext (by go_grown))).mono ?_
  rintro e w1 ⟨rfl, hb1⟩
  have g1 : Below w.heap.size w w1 := ext (by go_grown) hb1
  have s1 : w.heap.size + 3 ≤ w1.heap.size := by have := hb1.size; simp at this; omega
  have A1 := Lib.hid ((BA.out.ext hb1).alloc (.cells #[.int .i64 0, .slice none 0 0] 35))
  have B1 := Lib.hid ((BB.out.ext hb1).alloc (.cells #[.int .i64 0, .slice none 0 0] 35))
  have R1 := Lib.hid ((BR.out.ext hb1).alloc (.cells #[.int .i64 0, .slice none 0 0] 35))
  have E1 := Lib.hid (Blk.new w1 #[.int .i64 0, .slice none 0 0] 35)
  go_wp2_with fail
  refine (ok_zero _ _).mono ?_
  rintro e w2 ⟨rfl, hb2⟩
  have j2 : Below (w1.alloc (.cells #[.int .i64 0, .slice none 0 0] 35)).heap.size (w1.alloc (.cells #[.int .i64 0, .slice none 0 0] 35)) w2 := ext (by go_grown) hb2
  have g2 : Below w.heap.size w w2 := ext (by go_grown) j2
  have s2 : w1.heap.size + 1 ≤ w2.heap.size := by have := j2.size; simp at this; omega
  have A2 := Lib.hid (A1.out.ext j2)
  have B2 := Lib.hid (B1.out.ext j2)
  have R2 := Lib.hid (R1.out.ext j2)
  have E2 := Lib.hid (E1.out.ext j2)
  have HV2 := Lib.hid (HV.out.ext g2)
  have HU2 := Lib.hid (HU.out.ext g2)
  clear A1 B1 R1 E1 BA BB BR
  go_wp2
  go_loopw [8, 9] (fun n i wr => ∃ k : Nat, k ≤ N ∧ i = .int .i64 k ∧ n = .int .i64 (outTo W H a b k) ∧ Below w2.heap.size w2 wr) (fun _ i _ => N - (intOf i).toNat)
  case atStart => exact ⟨0, Nat.zero_le _, rfl, rfl, Below.refl _ _⟩
  case round =>
    obtain ⟨k, hk, rfl, rfl, hbr⟩ := hrel
    obtain ⟨h1, h2⟩ := HOB.out k
    obtain ⟨h3, h4⟩ := HIB.out k
    have Ar := Lib.hid (A2.out.ext hbr)
    have Br := Lib.hid (B2.out.ext hbr)
    obtain ⟨f0, f1, f2, -, -, -⟩ := Ar.out.three
    have lf := Ar.out.lt
    by_cases hlt : k < N
    · obtain ⟨M, hMo⟩ : ∃ M, k % C = M := ⟨_, rfl⟩
      obtain ⟨D, hDo⟩ : ∃ D, k / C = D := ⟨_, rfl⟩
      have hM4 : M < C := by rw [← hMo]; exact Nat.mod_lt k (by omega)
      have hD4 : D ≤ 4 := by rw [← hDo]; exact HDV.out k hlt
      have p1 : Int.tmod (k : Int) (C : Int) = (M : Int) := by rw [← hMo, Int.tmod_eq_emod_of_nonneg (by omega)]; simp
      have p2 : Int.tdiv (k : Int) (C : Int) = (D : Int) := by rw [← hDo, Int.tdiv_eq_ediv_of_nonneg (by omega)]; simp
      have p3 : IntKind.i64.wrap (M : Int) = (M : Int) := IntWalk.i64_in _ (by omega)
      have p4 : IntKind.i64.wrap (D : Int) = (D : Int) := IntWalk.i64_in _ (by omega)
      have p5 : IntKind.i64.wrap ((M : Int) * 8) = (M : Int) * 8 := IntWalk.i64_in _ (by omega)
      have p6 : IntKind.i64.wrap ((D : Int) * 8) = (D : Int) * 8 := IntWalk.i64_in _ (by omega)
      have ek : D * C + M = k := by rw [← hMo, ← hDo, Nat.mul_comm]; exact Nat.div_add_mod k C
      have hsq := HSQ.out k hlt
      rw [hMo, hDo, ek] at hsq
      have HSK := Lib.hid hsq
      have hsp := HSP.out k hlt
      rw [hMo, hDo, ek] at hsp
      have HSL := Lib.hid hsp
      obtain ⟨d1, d2⟩ := HI.out k
      obtain ⟨d3, d4⟩ := HS.out k
      have hee := HU1.out k
      have CG := Lib.hid (C2.out (.agg #[.int .i64 W, .int .i64 H, .slice ao a.length cap]) (M : Int) (D : Int))
      have CH := Lib.hid (C4.out (.agg #[.int .i64 W, .int .i64 H, .slice bo b.length bcap]) (M : Int) (D : Int))
      have CI := Lib.hid (fun u w h => C3.out u k w h)
      have CS := Lib.hid (fun x y w h1 h2 => C6.out x y k w h1 h2)
      generalize outTo W H a b k = s at *
      generalize inTo W H a k = t at *
      generalize inV (sqA W H a k) = z at *
      generalize sadV (sqA W H a k) (sqA W H b k) = y at *
      obtain ⟨m, qm, qm2, qm3, qm4⟩ : ∃ m : Int, (if y < z then y else z) = m ∧ min y z = m ∧ 0 ≤ m ∧ m ≤ z := ⟨_, rfl, by split <;> omega, by split <;> omega, by split <;> omega⟩
      rw [qm2] at hee
      have HE := Lib.hid hee
      clear hee hsq hsp hMo hDo ek qm2
      have p7 : IntKind.i64.wrap (s + m) = s + m := IntWalk.i64_in _ (by omega)
      go_wp2
      go_quiet (fail)
      rename_i nq
      have jq : Below wr.heap.size wr (wr.drewN nq) := below_drewN' (Below.refl _ _) nq
      generalize hq : wr.drewN nq = wq at *
      have hbq : Below w2.heap.size w2 wq := hbr.trans (jq.mono hbr.size)
      have Aq := Lib.hid (A2.out.ext hbq)
      have Bq := Lib.hid (B2.out.ext hbq)
      have HVq := Lib.hid (HV2.out.ext hbq)
      have HUq := Lib.hid (HU2.out.ext hbq)
      clear hq f0 f1 f2 lf
      obtain ⟨f0, f1, f2, -, -, -⟩ := Aq.out.three
      have lf := Aq.out.lt
      go_wp2_with fail
      clear f0 f1 f2 lf
      refine (CG.out _ (HVq.out.ext (by go_grown))).mono ?_
      rintro e w4 ⟨p, rfl, hp, hb4⟩
      have j4 : Below wq.heap.size wq w4 := ext (by go_grown) hb4
      rw [HSK.out] at hp
      obtain ⟨po, pc, rfl⟩ := hp.sliceN (length_sqA W H a k)
      have HP := Lib.hid hp.ints
      clear hp
      obtain ⟨e0, e1, e2, -, -, -⟩ := (Bq.out.ext j4).three
      have le := (Bq.out.ext j4).lt
      go_wp2_with fail
      clear e0 e1 e2 le
      refine (CH.out _ ((HUq.out.ext j4).ext (by go_grown))).mono ?_
      rintro e w5 ⟨p', rfl, hp, hb5⟩
      have j5 : Below w4.heap.size w4 w5 := ext (by go_grown) hb5
      rw [HSL.out] at hp
      obtain ⟨po', pc', rfl⟩ := hp.sliceN (length_sqA W H b k)
      have HP' := Lib.hid hp.ints
      clear hp
      go_wp2_with fail
      refine (CS.out _ _ _ ((HP.out.ext j5).ext (by go_grown)) (HP'.out.ext (by go_grown))).mono ?_
      rintro e w6 ⟨rfl, hb6⟩
      have j6 : Below w5.heap.size w5 w6 := ext (by go_grown) hb6
      go_wp2_with fail
      refine (CI.out _ _ (((HP.out.ext j5).ext j6).ext (by go_grown))).mono ?_
      rintro e w7 ⟨rfl, hb7⟩
      have j7 : Below w6.heap.size w6 w7 := ext (by go_grown) hb7
      have g7 : Below w2.heap.size w2 w7 := ext (ext (ext (ext hbq j4) j5) j6) j7
      go_wp2
      go_roundw
      case rel => exact ⟨k + 1, by omega, by go_num, int_eq HE.out.symm, g7⟩
      case measure => simp [intOf]; omega
    · obtain rfl : k = N := by omega
      obtain ⟨r0, r1, r2, r3⟩ := (R2.out.ext hbr).two
      obtain ⟨p0, p1, p2, p3⟩ := (E2.out.ext hbr).two
      have gr := ext g2 hbr
      have sr := hbr.size
      go_wp2
      go_region
      all_goals go_wp2
      all_goals refine bodyPost_ret (by simp [results, Tryd.results13, go_sem, r0, r1, r2, r3]; try rfl) rfl ?_
      all_goals exact ⟨rfl, by go_grown⟩
theorem router_any (v u : Value) (f p : Fr) (w : World) (hv : FrameV w v f.W f.H f.pix) (hu : FrameV w u p.W p.H p.pix) :
    Calls Tryd.prog 13 #[v, u] w fun e w' => e = .returned (.tuple #[.int .i64 (outV f p), .agg #[.int .i64 (unlE f p), .slice none 0 0]]) ∧ Below w.heap.size w w' := by
  by_cases he : unlE f p = 0
  · obtain ⟨h1, h2, h3, h4⟩ := fboth_zero he
    rw [he, show outV f p = outTo f.W f.H f.pix p.pix (sqN f.W f.H) from by unfold outV; rw [if_pos he]]
    rw [← h3, ← h4] at hu h2
    exact router_yes v u f.W f.H f.pix p.pix w hv hu h1 h2
  · rw [show outV f p = 0 from by unfold outV; rw [if_neg he]]
    exact router_no v u f.W f.H f.pix p.W p.H p.pix w hv hu he
end Go.Proofs.YtmdpfjjbehpnbaaDoor
