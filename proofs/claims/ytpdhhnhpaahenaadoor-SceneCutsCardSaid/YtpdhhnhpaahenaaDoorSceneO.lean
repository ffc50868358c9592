/- kinlaw16.SceneOnce: the walk. -/
import Derived.Test.YtpdhhnhpaahenaaDoorSceneQ
set_option linter.unusedSimpArgs false
set_option linter.unusedVariables false
namespace Go.Proofs.YtpdhhnhpaahenaaDoor
open Go.RowKit Go.Extern.Stop Go.Stop Go.Extern

@[go_sem] theorem held_guard (op : BinOp) (t T : TypeId) (X : Value) (x : Operand) (w : World) : (eqGuard op t x (.const .nilIface) (.iface T X) .nilIface).run Tryd.prog w = .ok () w := by
  cases op <;> simp [eqGuard]
@[go_sem] theorem held_neq (T : TypeId) (X : Value) (w : World) : (binOp .neq 29 (.iface T X) .nilIface).run Tryd.prog w = .ok (.bool true) w := run_neq_held_nil w _ _ _ errV_underlying
theorem pgrp_bad (v : Value) (fs : List Fr) (cut gop : Int) (w : World) (hv : Frames w v fs) (hb : argE cut gop fs.length ≠ 0 ∨ ∃ j, j < fs.length ∧ ueA fs j ≠ 0) :
    Calls Tryd.prog 14 #[v, .int .i64 cut, .int .i64 gop] w fun e w' => ∃ T X, e = .returned (.tuple #[.slice none 0 0, .iface T X]) ∧ Below w.heap.size w w' := by
  by_cases h : argE cut gop fs.length = 0
  · refine (pgrp_any v fs cut gop w hv h).mono fun e w' hp => ?_
    rcases hp with ⟨hz, -⟩ | ⟨i, -, -, -, b, he, -, -, hb2⟩
    · rcases hb with hb | ⟨j, hj, hb⟩
      · exact absurd h hb
      · exact absurd (hz j hj) hb
    · exact ⟨_, _, he, hb2⟩
  · refine (pgrp_arg v fs cut gop w hv h).mono fun e w' ⟨he, hb2⟩ => ?_
    rw [errV_ne h] at he
    exact ⟨_, _, he, hb2⟩
theorem six_ext2 {A w5 : World} (hb : Below A.heap.size A w5) {b c o0 o1 o2 p0 p1 p2 : Nat} {x0 x1 x2 y0 y1 y2 : Value}
    (h : A.cell? ⟨b, o0, none⟩ = some x0 ∧ A.cell? ⟨b, o1, none⟩ = some x1 ∧ A.cell? ⟨b, o2, none⟩ = some x2 ∧ A.cell? ⟨c, p0, none⟩ = some y0 ∧ A.cell? ⟨c, p1, none⟩ = some y1 ∧ A.cell? ⟨c, p2, none⟩ = some y2) :
    w5.cell? ⟨b, o0, none⟩ = some x0 ∧ w5.cell? ⟨b, o1, none⟩ = some x1 ∧ w5.cell? ⟨b, o2, none⟩ = some x2 ∧ w5.cell? ⟨c, p0, none⟩ = some y0 ∧ w5.cell? ⟨c, p1, none⟩ = some y1 ∧ w5.cell? ⟨c, p2, none⟩ = some y2 := by
  have k : ∀ {p : Addr} {x : Value}, A.cell? p = some x → w5.cell? p = some x := fun {p x} hp => (hb.cell (World.block_lt_of_cell? A p hp)).trans hp
  exact ⟨k h.1, k h.2.1, k h.2.2.1, k h.2.2.2.1, k h.2.2.2.2.1, k h.2.2.2.2.2⟩
theorem six_drew2 {A : World} {b c o0 o1 o2 p0 p1 p2 : Nat} {x0 x1 x2 y0 y1 y2 : Value}
    (h : A.cell? ⟨b, o0, none⟩ = some x0 ∧ A.cell? ⟨b, o1, none⟩ = some x1 ∧ A.cell? ⟨b, o2, none⟩ = some x2 ∧ A.cell? ⟨c, p0, none⟩ = some y0 ∧ A.cell? ⟨c, p1, none⟩ = some y1 ∧ A.cell? ⟨c, p2, none⟩ = some y2) :
    A.drew.cell? ⟨b, o0, none⟩ = some x0 ∧ A.drew.cell? ⟨b, o1, none⟩ = some x1 ∧ A.drew.cell? ⟨b, o2, none⟩ = some x2 ∧ A.drew.cell? ⟨c, p0, none⟩ = some y0 ∧ A.drew.cell? ⟨c, p1, none⟩ = some y1 ∧ A.drew.cell? ⟨c, p2, none⟩ = some y2 := h

set_option maxRecDepth 100000 in
set_option maxHeartbeats 16000000 in
theorem once_p (v : Value) (fs : List Fr) (cut gop : Int) (w : World) (hv : Frames w v fs) (hg : TypeIs w) (hp : pixB fs = false) :
    Calls Tryd.prog 5 #[v, .int .i64 cut, .int .i64 gop] w fun e w' => e = .returned (.bool true) ∧ Below w.heap.size w w' := by
  have HG := Lib.hid hg
  have HV := Lib.hid hv
  have c1 := fun w h => pix_any v fs w h
  rw [hp] at c1
  have C1 := Lib.hid c1
  clear hv hg c1 hp
  go_enter Tryd.func5, Tryd.ntmps5
  have g0 : Below w.heap.size w w := Below.refl _ _
  go_wp2_with fail
  refine (first_any _ (HG.out.ext (by go_grown))).mono ?_
  rintro e w1 ⟨rfl, hb1⟩
  have j1 : Below w.heap.size w w1 := ext (by go_grown) hb1
  have g1 : Below w.heap.size w w1 := ext g0 j1
  have s1 := j1.size
  have t1 := g1.size
  go_wp2_with fail
  refine (C1.out _ ((HV.out.ext j1).ext (by go_grown))).mono ?_
  rintro e w2 ⟨rfl, hb2⟩
  have j2 : Below w1.heap.size w1 w2 := ext (by go_grown) hb2
  have g2 : Below w.heap.size w w2 := ext g1 j2
  have s2 := j2.size
  have t2 := g2.size
  go_wp2_with fail
  refine (first_any _ (((HG.out.ext j1).ext j2).ext (by go_grown))).mono ?_
  rintro e w3 ⟨rfl, hb3⟩
  have j3 : Below w2.heap.size w2 w3 := ext (by go_grown) hb3
  have g3 : Below w.heap.size w w3 := ext g2 j3
  have s3 := j3.size
  have t3 := g3.size
  go_wp2
  all_goals go_returns
  all_goals exact ⟨by first | rfl | (simp; done) | (simp; omega), g3⟩

set_option maxRecDepth 100000 in
set_option maxHeartbeats 16000000 in
theorem once_b (v : Value) (fs : List Fr) (cut gop : Int) (w : World) (hv : Frames w v fs) (hg : TypeIs w) (hp : pixB fs = true) (hb : argE cut gop fs.length ≠ 0 ∨ ∃ j, j < fs.length ∧ ueA fs j ≠ 0) :
    Calls Tryd.prog 5 #[v, .int .i64 cut, .int .i64 gop] w fun e w' => e = .returned (.bool true) ∧ Below w.heap.size w w' := by
  have HG := Lib.hid hg
  have HV := Lib.hid hv
  have c1 := fun w h => pix_any v fs w h
  rw [hp] at c1
  have C1 := Lib.hid c1
  have C2 := Lib.hid (fun w h => pgrp_bad v fs cut gop w h hb)
  clear hv hg c1 hp hb
  go_enter Tryd.func5, Tryd.ntmps5
  have g0 : Below w.heap.size w w := Below.refl _ _
  go_wp2_with fail
  refine (first_any _ (HG.out.ext (by go_grown))).mono ?_
  rintro e w1 ⟨rfl, hb1⟩
  have j1 : Below w.heap.size w w1 := ext (by go_grown) hb1
  have g1 : Below w.heap.size w w1 := ext g0 j1
  have s1 := j1.size
  have t1 := g1.size
  go_wp2_with fail
  refine (C1.out _ ((HV.out.ext j1).ext (by go_grown))).mono ?_
  rintro e w2 ⟨rfl, hb2⟩
  have j2 : Below w1.heap.size w1 w2 := ext (by go_grown) hb2
  have g2 : Below w.heap.size w w2 := ext g1 j2
  have s2 := j2.size
  have t2 := g2.size
  go_wp2_with fail
  refine (C2.out _ (((HV.out.ext j1).ext j2).ext (by go_grown))).mono ?_
  rintro e w3 ⟨T, X, rfl, hb3⟩
  have j3 : Below w2.heap.size w2 w3 := ext (by go_grown) hb3
  have g3 : Below w.heap.size w w3 := ext g2 j3
  have s3 := j3.size
  have t3 := g3.size
  go_wp2_with fail
  refine (first_any _ ((((HG.out.ext j1).ext j2).ext j3).ext (by go_grown))).mono ?_
  rintro e w4 ⟨rfl, hb4⟩
  have j4 : Below w3.heap.size w3 w4 := ext (by go_grown) hb4
  have g4 : Below w.heap.size w w4 := ext g3 j4
  have s4 := j4.size
  have t4 := g4.size
  go_wp2
  all_goals go_returns
  all_goals exact ⟨by first | rfl | (simp; done) | (simp; omega), g4⟩

set_option maxRecDepth 100000 in
set_option maxHeartbeats 16000000 in
theorem once_g (v : Value) (fs : List Fr) (cut gop : Int) (w : World) (hv : Frames w v fs) (hg : TypeIs w) (hp : pixB fs = true) (ha : argE cut gop fs.length = 0) (hz : ∀ j, j < fs.length → ueA fs j = 0) :
    Calls Tryd.prog 5 #[v, .int .i64 cut, .int .i64 gop] w fun e w' => e = .returned (.bool true) ∧ Below w.heap.size w w' := by
  have HG := Lib.hid hg
  have HV := Lib.hid hv
  have c1 := fun w h => pix_any v fs w h
  rw [hp] at c1
  have C1 := Lib.hid c1
  obtain ⟨⟨a1, a2, a3, a4⟩, a5, a6⟩ := argE_zero ha
  have ha2 : argE 16320 gop fs.length = 0 := by unfold argE; rw [if_pos (by omega), if_neg (by omega)]
  have c2 := fun w h => pgrp_ok v fs cut gop w h ha hz
  have c3 := fun w h => pgrp_ok v fs 16320 gop w h ha2 hz
  have HI := ginv fs (cut := cut) a3 fs.length
  have HA := ginv fs (cut := 16320) a3 fs.length
  have hj := HA.just (by omega) a3
  have hw := HI.fewest HA (by omega) a3
  have hs := HI.small a6
  have hle := HI.le
  have hae := HA.le
  have HZ : Hid (∀ j, j < fs.length → ueA fs j = 0) := hz
  generalize grpTo fs cut gop fs.length = G at *
  generalize grpTo fs 16320 gop fs.length = A at *
  clear ha ha2 hz HA
  obtain ⟨n, hn⟩ : ∃ n, fs.length = n := ⟨_, rfl⟩
  obtain ⟨L, hL⟩ : ∃ L, G.length = L := ⟨_, rfl⟩
  obtain ⟨M, hM⟩ : ∃ M, A.length = M := ⟨_, rfl⟩
  obtain ⟨ao, cap, rfl⟩ := hv.shapeN hn
  rw [hn] at HI hj a5 a6 hle hae
  rw [hL, hM] at hw
  rw [hM] at hj hae
  rw [hL] at hle
  have HGI := Lib.hid HI
  have LN := Lib.hid hn
  have LG := Lib.hid hL
  have LA := Lib.hid hM
  have HS := Lib.hid hs
  have C2 := Lib.hid c2
  have C3 := Lib.hid c3
  have q1 : IntKind.i64.wrap ((n : Int) + gop) = (n : Int) + gop := IntWalk.i64_in _ (by omega)
  have q2 : IntKind.i64.wrap ((n : Int) + gop - 1) = (n : Int) + gop - 1 := IntWalk.i64_in _ (by omega)
  have q3 : ¬ gop = 0 := by omega
  have q4 : Int.tdiv ((n : Int) + gop - 1) gop = (M : Int) := by rw [Int.tdiv_eq_ediv_of_nonneg (by omega), hj]
  have Q := Lib.hid (And.intro q1 (And.intro q2 (And.intro q3 q4)))
  clear hv hg c1 c2 c3 hp HI hn hL hM hs hj q1 q2 q3 q4
  go_enter Tryd.func5, Tryd.ntmps5
  have g0 : Below w.heap.size w w := Below.refl _ _
  go_wp2_with fail
  refine (first_any _ (HG.out.ext (by go_grown))).mono ?_
  rintro e w1 ⟨rfl, hb1⟩
  have j1 : Below w.heap.size w w1 := ext (by go_grown) hb1
  have g1 : Below w.heap.size w w1 := ext g0 j1
  have s1 := j1.size
  have t1 := g1.size
  go_wp2_with fail
  refine (C1.out _ ((HV.out.ext j1).ext (by go_grown))).mono ?_
  rintro e w2 ⟨rfl, hb2⟩
  have j2 : Below w1.heap.size w1 w2 := ext (by go_grown) hb2
  have g2 : Below w.heap.size w w2 := ext g1 j2
  have s2 := j2.size
  have t2 := g2.size
  go_wp2_with fail
  refine (C2.out _ (((HV.out.ext j1).ext j2).ext (by go_grown))).mono ?_
  rintro e w3 ⟨vg, rfl, og, hb3⟩
  have j3 : Below w2.heap.size w2 w3 := ext (by go_grown) hb3
  have g3 : Below w.heap.size w w3 := ext g2 j3
  have s3 := j3.size
  have t3 := g3.size
  obtain ⟨go, gc, rfl⟩ := og.grps.shapeN LG.out
  have HGR := Lib.hid (og.grps)
  clear og
  go_wp2
  go_loopw [9, 10] (fun z i wr => ∃ k f : Nat, k ≤ L ∧ i = .int .i64 k ∧ z = .int .i64 f ∧ (f : Int) = stG G n k ∧ Below w3.heap.size w3 wr) (fun _ i _ => L - (intOf i).toNat)
  case atStart => exact ⟨0, 0, Nat.zero_le _, rfl, rfl, by rw [HGI.out.st_zero]; rfl, Below.refl _ _⟩
  case round =>
    obtain ⟨k, i0, hk, rfl, rfl, hst, hbr⟩ := hrel
    have gr : Below w.heap.size w wr := ext g3 hbr
    by_cases hlt : k < L
    · obtain ⟨bg, ogf, rfl, lg, c0, c1⟩ := (HGR.out.ext hbr).cellAt (j := k) (by rw [LG.out]; exact hlt)
      obtain ⟨e1, e2⟩ := HGI.out.st (k := k) (by rw [LG.out]; exact hlt)
      obtain ⟨b1, b2⟩ := HGI.out.cnt k (by rw [LG.out]; exact hlt)
      obtain ⟨b3, b4⟩ := HGI.out.fst k (by rw [LG.out]; exact hlt)
      obtain ⟨c, hc⟩ : ∃ c : Nat, (G.getD k (0, 0)).2 = c := ⟨(G.getD k (0, 0)).2.toNat, by omega⟩
      have hf : (G.getD k (0, 0)).1 = (i0 : Int) := by rw [hst, e1]
      have HOF : Hid (∀ j : Nat, j < c → OfIs G ((i0 : Int) + j) k) := fun j hj => HGI.out.of (by rw [LG.out]; exact hlt) (inG_iff.2 (by rw [hf, hc]; omega))
      have HF1 := Lib.hid hf
      have HF2 := Lib.hid hc
      have HE2 : Hid (stG G n (k + 1) = (i0 : Int) + (c : Int)) := by show _ = _; rw [e2, hf, hc]
      rw [hf] at c0 b4
      rw [hc] at c1 b1 b2 b4
      clear hf hc e1 e2 hst b3
      rcases Nat.eq_zero_or_pos k with hk0 | hk0
      · have qk : decide ((0 : Int) < (k : Int)) = false := by simp; omega
        have qk2 : decide (0 < k) = false := by simp; omega
        have qk3 : ¬ 0 < k := by omega
        obtain ⟨wo, rfl⟩ : ∃ wo : World, wo = wr := ⟨_, rfl⟩
        have hbo := hbr
        clear hk0
        go_wp2
        go_loopw [13] (fun z wx => ∃ j : Nat, j ≤ c ∧ z = .int .i64 ((i0 : Int) + j) ∧ Below wo.heap.size wo wx) (fun z _ => (i0 + c) - (intOf z).toNat)
        case atStart => exact ⟨0, Nat.zero_le _, by simp, by first | exact Below.refl _ _ | go_grown⟩
        case round =>
          obtain ⟨j, hj, rfl, hbx⟩ := hrel
          have gx : Below w3.heap.size w3 wr := hbo.trans (hbx.mono hbo.size)
          obtain ⟨bg2, og2, e2, lg2, d0, d1⟩ := (HGR.out.ext gx).cellAt (j := k) (by rw [LG.out]; exact hlt)
          obtain ⟨rfl, rfl⟩ : bg = bg2 ∧ ogf = og2 := by simpa using e2
          rw [HF1.out] at d0
          rw [HF2.out] at d1
          clear e2
          have qa : IntKind.i64.wrap ((i0 : Int) + (c : Int)) = (i0 : Int) + (c : Int) := IntWalk.i64_in _ (by omega)
          by_cases hjc : j < c
          · have qd : decide ((i0 : Int) + (j : Int) < (i0 : Int) + (c : Int)) = true := by simp; omega
            have CO := Lib.hid (HOF.out j hjc)
            go_wp2_with fail
            refine (psof_any _ G ((i0 : Int) + j) k _ ((HGR.out.ext gx).ext (by go_grown)) HS.out (by omega) (by omega) CO.out).mono ?_
            rintro e wy ⟨rfl, hby⟩
            have gy : Below wo.heap.size wo wy := ext hbx (ext (by go_grown) hby)
            have qb : IntKind.i64.wrap ((i0 : Int) + (j : Int) + 1) = (i0 : Int) + ((j + 1 : Nat) : Int) := by rw [IntWalk.i64_in _ (by omega)]; omega
            go_wp2
            go_roundw
            case rel => exact ⟨j + 1, by omega, by first | rfl | (simp; omega), gy⟩
            case measure => simp [intOf]; omega
          · have qd : decide ((i0 : Int) + (j : Int) < (i0 : Int) + (c : Int)) = false := by simp; omega
            go_wp2
            go_roundw
            case rel => exact ⟨k + 1, i0 + c, by omega, by go_num, by first | rfl | (simp; done), by rw [HE2.out]; omega, gx⟩
            case measure => simp [intOf]; omega
      · obtain ⟨m, hm⟩ : ∃ m, k = m + 1 := ⟨k - 1, by omega⟩
        have qk : decide ((0 : Int) < (k : Int)) = true := by simp; omega
        have qk2 : decide (0 < k) = true := by simp; omega
        have qk3 : 0 < k := by omega
        obtain ⟨x0, x1⟩ : (i0 : Int) = (G.getD m (0, 0)).1 + (G.getD m (0, 0)).2 ∧ 1 ≤ (G.getD m (0, 0)).2 := by
          have h1 := HGI.out.next m (by rw [LG.out]; omega)
          have h2 := HGI.out.cnt m (by rw [LG.out]; omega)
          rw [← hm, HF1.out] at h1
          exact ⟨h1, h2.1⟩
        have x2 := (HGI.out.fst m (by rw [LG.out]; omega)).1
        obtain ⟨p, hpi⟩ : ∃ p, i0 = p + 1 := ⟨i0 - 1, by omega⟩
        have hin : i0 < n := by omega
        have hcut : Hid (cut < uvA fs i0 ∨ (G.getD m (0, 0)).2 = gop) := by
          obtain ⟨i, h1, h2, h3⟩ := HGI.out.cut m (by rw [LG.out]; omega)
          rw [← hm, HF1.out] at h1
          obtain rfl : i0 = i := by omega
          exact h3
        have hue : ueA fs i0 = 0 := HZ.out i0 (by rw [LN.out]; exact hin)
        have CU := fun v u w h1 h2 => punl_any v u (fs.getD p Fr.nought) (fs.getD i0 Fr.nought) w h1 h2
        have e1 : unlE (fs.getD p Fr.nought) (fs.getD i0 Fr.nought) = 0 := by unfold ueA frA at hue; rw [show i0 - 1 = p from by omega] at hue; exact hue
        have e2 : unlV (fs.getD p Fr.nought) (fs.getD i0 Fr.nought) = uvA fs i0 := by unfold uvA frA; rw [show i0 - 1 = p from by omega]
        rw [e1, e2, errV_zero] at CU
        have CU1 := Lib.hid CU
        have hub := unlV_bd (fs.getD p Fr.nought) (fs.getD i0 Fr.nought)
        rw [e2] at hub
        obtain ⟨hu1, hu2⟩ := hub
        clear CU e1 e2 hue x0 x1 x2
        obtain ⟨bm, om, em, lm, y0, y1⟩ := (HGR.out.ext hbr).cellAt (j := m) (by rw [LG.out]; omega)
        obtain ⟨rfl, rfl⟩ : bg = bm ∧ ogf = om := by simpa using em
        clear em y0
        generalize hcm : (G.getD m (0, 0)).2 = cm at *
        generalize uvA fs i0 = u at *
        obtain ⟨b, off, po, pc, rfl, lb, s0, s1, s2, fv⟩ := ((((HV.out.ext j1).ext j2).ext j3).ext hbr).cellAt (j := p) (by rw [LN.out]; omega)
        obtain ⟨bq, offq, qo, qc, eq, lbq, r0, r1, r2, fvq⟩ := ((((HV.out.ext j1).ext j2).ext j3).ext hbr).cellAt (j := i0) (by rw [LN.out]; omega)
        obtain ⟨rfl, rfl⟩ : b = bq ∧ off = offq := by simpa using eq
        have HFP := Lib.hid fv
        have HFI := Lib.hid fvq
        clear fv fvq eq lbq
        generalize fs.getD p Fr.nought = fp at *
        generalize fs.getD i0 Fr.nought = fi at *
        have S6 := Lib.hid (And.intro s0 (And.intro s1 (And.intro s2 (And.intro r0 (And.intro r1 r2)))))
        have qi : IntKind.i64.wrap ((i0 : Int) - 1) = (p : Int) := by rw [IntWalk.i64_in _ (by omega)]; omega
        have qj : IntKind.i64.wrap ((k : Int) - 1) = (m : Int) := by rw [IntWalk.i64_in _ (by omega)]; omega
        have hp1 : (0 : Int) ≤ (p : Int) := by omega
        have hp2 : (p : Int) < (n : Int) := by omega
        have hm2 : m < L := by omega
        clear hpi hm
        clear y1
        go_wp2
        go_region_held3 (fun w' => w'.cell? ⟨b, off + p * 3, none⟩ = some (.int .i64 fp.W) ∧ w'.cell? ⟨b, off + p * 3 + 1, none⟩ = some (.int .i64 fp.H) ∧ w'.cell? ⟨b, off + p * 3 + 2, none⟩ = some (.slice po fp.pix.length pc) ∧ w'.cell? ⟨b, off + i0 * 3, none⟩ = some (.int .i64 fi.W) ∧ w'.cell? ⟨b, off + i0 * 3 + 1, none⟩ = some (.int .i64 fi.H) ∧ w'.cell? ⟨b, off + i0 * 3 + 2, none⟩ = some (.slice qo fi.pix.length qc))
          (first | with_reducible exact S65.out | with_reducible exact S6.out | with_reducible exact six_drew2 S6.out | go_keep)
          (first | (go_at_call 10; refine (CU1.out _ _ _ ?_ ?_).mono ?_; exact HFP.out; exact HFI.out; rintro e w5 ⟨rfl, hb5⟩; have S65 := Lib.hid (six_ext2 hb5 S6.out)))
        have j5 : Below wr.heap.size wr w5 := by first | exact hb5 | exact below_undrew hb5
        have hbo : Below w3.heap.size w3 w5 := hbr.trans (j5.mono hbr.size)
        clear s0 s1 s2 r0 r1 r2 S6 HFP HFI CU1 hb5 c0 c1
        obtain ⟨bm, om, em, lm, y0, y1⟩ := (HGR.out.ext hbo).cellAt (j := m) (by rw [LG.out]; omega)
        obtain ⟨rfl, rfl⟩ : bg = bm ∧ ogf = om := by simpa using em
        obtain ⟨wo, rfl⟩ : ∃ wo : World, wo = w5 := ⟨_, rfl⟩
        have HCM := Lib.hid hcm
        rw [hcm] at y1
        clear em y0 hcm j5 hbr gr
        rcases hcut.out with hcu | hcg
        · have qu : decide (u ≤ cut) = false := by simp; omega
          have qu2 : ¬ u ≤ cut := by omega
          clear hcut
          go_wp2
          go_loopw [13] (fun z wx => ∃ j : Nat, j ≤ c ∧ z = .int .i64 ((i0 : Int) + j) ∧ Below wo.heap.size wo wx) (fun z _ => (i0 + c) - (intOf z).toNat)
          case atStart => exact ⟨0, Nat.zero_le _, by simp, by first | exact Below.refl _ _ | go_grown⟩
          case round =>
            obtain ⟨j, hj, rfl, hbx⟩ := hrel
            have gx : Below w3.heap.size w3 wr := hbo.trans (hbx.mono hbo.size)
            obtain ⟨bg2, og2, e2, lg2, d0, d1⟩ := (HGR.out.ext gx).cellAt (j := k) (by rw [LG.out]; exact hlt)
            obtain ⟨rfl, rfl⟩ : bg = bg2 ∧ ogf = og2 := by simpa using e2
            rw [HF1.out] at d0
            rw [HF2.out] at d1
            clear e2
            have qa : IntKind.i64.wrap ((i0 : Int) + (c : Int)) = (i0 : Int) + (c : Int) := IntWalk.i64_in _ (by omega)
            by_cases hjc : j < c
            · have qd : decide ((i0 : Int) + (j : Int) < (i0 : Int) + (c : Int)) = true := by simp; omega
              have CO := Lib.hid (HOF.out j hjc)
              go_wp2_with fail
              refine (psof_any _ G ((i0 : Int) + j) k _ ((HGR.out.ext gx).ext (by go_grown)) HS.out (by omega) (by omega) CO.out).mono ?_
              rintro e wy ⟨rfl, hby⟩
              have gy : Below wo.heap.size wo wy := ext hbx (ext (by go_grown) hby)
              have qb : IntKind.i64.wrap ((i0 : Int) + (j : Int) + 1) = (i0 : Int) + ((j + 1 : Nat) : Int) := by rw [IntWalk.i64_in _ (by omega)]; omega
              go_wp2
              go_roundw
              case rel => exact ⟨j + 1, by omega, by first | rfl | (simp; omega), gy⟩
              case measure => simp [intOf]; omega
            · have qd : decide ((i0 : Int) + (j : Int) < (i0 : Int) + (c : Int)) = false := by simp; omega
              go_wp2
              go_roundw
              case rel => exact ⟨k + 1, i0 + c, by omega, by go_num, by first | rfl | (simp; done), by rw [HE2.out]; omega, gx⟩
              case measure => simp [intOf]; omega
        · have qg : decide (cm < gop) = false := by simp; omega
          clear hcut
          by_cases hcu : u ≤ cut
          · have qu : decide (u ≤ cut) = true := by simp; omega
            go_wp2
            go_loopw [13] (fun z wx => ∃ j : Nat, j ≤ c ∧ z = .int .i64 ((i0 : Int) + j) ∧ Below wo.heap.size wo wx) (fun z _ => (i0 + c) - (intOf z).toNat)
            case atStart => exact ⟨0, Nat.zero_le _, by simp, by first | exact Below.refl _ _ | go_grown⟩
            case round =>
              obtain ⟨j, hj, rfl, hbx⟩ := hrel
              have gx : Below w3.heap.size w3 wr := hbo.trans (hbx.mono hbo.size)
              obtain ⟨bg2, og2, e2, lg2, d0, d1⟩ := (HGR.out.ext gx).cellAt (j := k) (by rw [LG.out]; exact hlt)
              obtain ⟨rfl, rfl⟩ : bg = bg2 ∧ ogf = og2 := by simpa using e2
              rw [HF1.out] at d0
              rw [HF2.out] at d1
              clear e2
              have qa : IntKind.i64.wrap ((i0 : Int) + (c : Int)) = (i0 : Int) + (c : Int) := IntWalk.i64_in _ (by omega)
              by_cases hjc : j < c
              · have qd : decide ((i0 : Int) + (j : Int) < (i0 : Int) + (c : Int)) = true := by simp; omega
                have CO := Lib.hid (HOF.out j hjc)
                go_wp2_with fail
                refine (psof_any _ G ((i0 : Int) + j) k _ ((HGR.out.ext gx).ext (by go_grown)) HS.out (by omega) (by omega) CO.out).mono ?_
                rintro e wy ⟨rfl, hby⟩
                have gy : Below wo.heap.size wo wy := ext hbx (ext (by go_grown) hby)
                have qb : IntKind.i64.wrap ((i0 : Int) + (j : Int) + 1) = (i0 : Int) + ((j + 1 : Nat) : Int) := by rw [IntWalk.i64_in _ (by omega)]; omega
                go_wp2
                go_roundw
                case rel => exact ⟨j + 1, by omega, by first | rfl | (simp; omega), gy⟩
                case measure => simp [intOf]; omega
              · have qd : decide ((i0 : Int) + (j : Int) < (i0 : Int) + (c : Int)) = false := by simp; omega
                go_wp2
                go_roundw
                case rel => exact ⟨k + 1, i0 + c, by omega, by go_num, by first | rfl | (simp; done), by rw [HE2.out]; omega, gx⟩
                case measure => simp [intOf]; omega
          · have qu : decide (u ≤ cut) = false := by simp; omega
            go_wp2
            go_loopw [13] (fun z wx => ∃ j : Nat, j ≤ c ∧ z = .int .i64 ((i0 : Int) + j) ∧ Below wo.heap.size wo wx) (fun z _ => (i0 + c) - (intOf z).toNat)
            case atStart => exact ⟨0, Nat.zero_le _, by simp, by first | exact Below.refl _ _ | go_grown⟩
            case round =>
              obtain ⟨j, hj, rfl, hbx⟩ := hrel
              have gx : Below w3.heap.size w3 wr := hbo.trans (hbx.mono hbo.size)
              obtain ⟨bg2, og2, e2, lg2, d0, d1⟩ := (HGR.out.ext gx).cellAt (j := k) (by rw [LG.out]; exact hlt)
              obtain ⟨rfl, rfl⟩ : bg = bg2 ∧ ogf = og2 := by simpa using e2
              rw [HF1.out] at d0
              rw [HF2.out] at d1
              clear e2
              have qa : IntKind.i64.wrap ((i0 : Int) + (c : Int)) = (i0 : Int) + (c : Int) := IntWalk.i64_in _ (by omega)
              by_cases hjc : j < c
              · have qd : decide ((i0 : Int) + (j : Int) < (i0 : Int) + (c : Int)) = true := by simp; omega
                have CO := Lib.hid (HOF.out j hjc)
                go_wp2_with fail
                refine (psof_any _ G ((i0 : Int) + j) k _ ((HGR.out.ext gx).ext (by go_grown)) HS.out (by omega) (by omega) CO.out).mono ?_
                rintro e wy ⟨rfl, hby⟩
                have gy : Below wo.heap.size wo wy := ext hbx (ext (by go_grown) hby)
                have qb : IntKind.i64.wrap ((i0 : Int) + (j : Int) + 1) = (i0 : Int) + ((j + 1 : Nat) : Int) := by rw [IntWalk.i64_in _ (by omega)]; omega
                go_wp2
                go_roundw
                case rel => exact ⟨j + 1, by omega, by first | rfl | (simp; omega), gy⟩
                case measure => simp [intOf]; omega
              · have qd : decide ((i0 : Int) + (j : Int) < (i0 : Int) + (c : Int)) = false := by simp; omega
                go_wp2
                go_roundw
                case rel => exact ⟨k + 1, i0 + c, by omega, by go_num, by first | rfl | (simp; done), by rw [HE2.out]; omega, gx⟩
                case measure => simp [intOf]; omega
    · have ek : k = L := by omega
      have hi0 : (i0 : Int) = n := by rw [hst, ek, ← LG.out]; exact if_neg (by omega)
      obtain rfl : i0 = n := by omega
      obtain ⟨wa, rfl⟩ : ∃ wa : World, wa = wr := ⟨_, rfl⟩
      have OF := Lib.hid (show OfIs G (i0 : Int) (-1) from HGI.out.of_none)
      have HVa := Lib.hid ((((HV.out.ext j1).ext j2).ext j3).ext hbr)
      have HGa := Lib.hid ((((HG.out.ext j1).ext j2).ext j3).ext hbr)
      have HRa := Lib.hid (HGR.out.ext hbr)
      obtain ⟨q1, q2, q3, q4⟩ := Q.out
      clear ek hst hi0 hbr
      have g0 : Below wa.heap.size wa wa := Below.refl _ _
      go_wp2_with fail
      refine (C3.out _ (HVa.out.ext (by go_grown))).mono ?_
      rintro e w1 ⟨va, rfl, oa, hb1⟩
      have j1 : Below wa.heap.size wa w1 := ext (by go_grown) hb1
      have g1 : Below wa.heap.size wa w1 := ext g0 j1
      have s1 := j1.size
      have t1 := g1.size
      obtain ⟨aa, ac, rfl⟩ := oa.grps.shapeN LA.out
      clear oa
      go_wp2_with fail
      refine (first_any _ ((HGa.out.ext j1).ext (by go_grown))).mono ?_
      rintro e w2 ⟨rfl, hb2⟩
      have j2 : Below w1.heap.size w1 w2 := ext (by go_grown) hb2
      have g2 : Below wa.heap.size wa w2 := ext g1 j2
      have s2 := j2.size
      have t2 := g2.size
      go_wp2_with fail
      refine (psof_any _ G i0 (-1) _ (((HRa.out.ext j1).ext j2).ext (by go_grown)) HS.out (by omega) (by omega) OF.out).mono ?_
      rintro e w3 ⟨rfl, hb3⟩
      have j3 : Below w2.heap.size w2 w3 := ext (by go_grown) hb3
      have g3 : Below wa.heap.size wa w3 := ext g2 j3
      have s3 := j3.size
      have t3 := g3.size
      have gF : Below w.heap.size w w3 := ext gr g3
      go_wp2
      all_goals go_returns
      all_goals exact ⟨by first | rfl | (simp; done) | (simp; omega), gF⟩

theorem once_walk (v : Value) (fs : List Fr) (cut gop : Int) (w : World) (hv : Frames w v fs) (hg : TypeIs w) :
    Calls Tryd.prog 5 #[v, .int .i64 cut, .int .i64 gop] w fun e w' => e = .returned (.bool true) ∧ Below w.heap.size w w' := by
  cases hp : pixB fs with
  | false => exact once_p v fs cut gop w hv hg hp
  | true =>
    by_cases ha : argE cut gop fs.length = 0
    · by_cases hz : ∀ j, j < fs.length → ueA fs j = 0
      · exact once_g v fs cut gop w hv hg hp ha hz
      · refine once_b v fs cut gop w hv hg hp (.inr ?_)
        exact Classical.byContradiction fun h => hz fun j hj => Classical.byContradiction fun h2 => h ⟨j, hj, h2⟩
    · exact once_b v fs cut gop w hv hg hp (.inl ha)
end Go.Proofs.YtpdhhnhpaahenaaDoor
