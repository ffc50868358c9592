/- kinlaw16.SceneCuts: the walk. -/
import Derived.Test.YtpdhhnhpaahenaaDoorSceneO
set_option linter.unusedSimpArgs false
set_option linter.unusedVariables false
namespace Go.Proofs.YtpdhhnhpaahenaaDoor
open Go.RowKit Go.Extern.Stop Go.Stop Go.Extern

set_option maxRecDepth 100000 in
set_option maxHeartbeats 16000000 in
theorem cuts_p (v : Value) (fs : List Fr) (cut more : Int) (w : World) (hv : Frames w v fs) (hg : TypeIs w) (hp : pixB fs = false) :
    Calls Tryd.prog 7 #[v, .int .i64 cut, .int .i64 more] w fun e w' => e = .returned (.bool true) ∧ Below w.heap.size w w' := by
  have HG := Lib.hid hg
  have HV := Lib.hid hv
  have c1 := fun w h => pix_any v fs w h
  rw [hp] at c1
  have C1 := Lib.hid c1
  clear hv hg c1 hp
  go_enter Tryd.func7, Tryd.ntmps7
  have g0 : Below w.heap.size w w := Below.refl _ _
  go_wp2_with fail
  refine (first_any _ (HG.out.ext (by go_grown))).mono ?_
  rintro e w1 ⟨rfl, hb1⟩
  have j1 : Below w.heap.size w w1 := ext (by go_grown) hb1
  have g1 : Below w.heap.size w w1 := ext g0 j1
  have s1 := j1.size
  have t1 := g1.size
  go_wp2_with fail
  refine (C1.out _ ((HV.out.ext j1).ext (by go_grown))).mono ?_
  rintro e w2 ⟨rfl, hb2⟩
  have j2 : Below w1.heap.size w1 w2 := ext (by go_grown) hb2
  have g2 : Below w.heap.size w w2 := ext g1 j2
  have s2 := j2.size
  have t2 := g2.size
  go_wp2_with fail
  refine (first_any _ (((HG.out.ext j1).ext j2).ext (by go_grown))).mono ?_
  rintro e w3 ⟨rfl, hb3⟩
  have j3 : Below w2.heap.size w2 w3 := ext (by go_grown) hb3
  have g3 : Below w.heap.size w w3 := ext g2 j3
  have s3 := j3.size
  have t3 := g3.size
  go_wp2
  all_goals go_returns
  all_goals exact ⟨by first | rfl | (simp; done) | (simp; omega), g3⟩

set_option maxRecDepth 100000 in
set_option maxHeartbeats 16000000 in
theorem cuts_n (v : Value) (fs : List Fr) (cut more : Int) (w : World) (hv : Frames w v fs) (hg : TypeIs w) (hp : pixB fs = true) (h16 : 16 < fs.length) :
    Calls Tryd.prog 7 #[v, .int .i64 cut, .int .i64 more] w fun e w' => e = .returned (.bool true) ∧ Below w.heap.size w w' := by
  have HG := Lib.hid hg
  have HV := Lib.hid hv
  have c1 := fun w h => pix_any v fs w h
  rw [hp] at c1
  have C1 := Lib.hid c1
  obtain ⟨n, hn⟩ : ∃ n, fs.length = n := ⟨_, rfl⟩
  obtain ⟨ao, cap, rfl⟩ := hv.shapeN hn
  rw [hn] at h16
  clear hv hg c1 hp hn
  go_enter Tryd.func7, Tryd.ntmps7
  have g0 : Below w.heap.size w w := Below.refl _ _
  go_wp2_with fail
  refine (first_any _ (HG.out.ext (by go_grown))).mono ?_
  rintro e w1 ⟨rfl, hb1⟩
  have j1 : Below w.heap.size w w1 := ext (by go_grown) hb1
  have g1 : Below w.heap.size w w1 := ext g0 j1
  have s1 := j1.size
  have t1 := g1.size
  go_wp2_with fail
  refine (C1.out _ ((HV.out.ext j1).ext (by go_grown))).mono ?_
  rintro e w2 ⟨rfl, hb2⟩
  have j2 : Below w1.heap.size w1 w2 := ext (by go_grown) hb2
  have g2 : Below w.heap.size w w2 := ext g1 j2
  have s2 := j2.size
  have t2 := g2.size
  go_wp2_with fail
  refine (first_any _ (((HG.out.ext j1).ext j2).ext (by go_grown))).mono ?_
  rintro e w3 ⟨rfl, hb3⟩
  have j3 : Below w2.heap.size w2 w3 := ext (by go_grown) hb3
  have g3 : Below w.heap.size w w3 := ext g2 j3
  have s3 := j3.size
  have t3 := g3.size
  go_wp2
  all_goals go_returns
  all_goals exact ⟨by first | rfl | (simp; done) | (simp; omega), g3⟩

set_option maxRecDepth 100000 in
set_option maxHeartbeats 16000000 in
theorem cuts_b (v : Value) (fs : List Fr) (cut more : Int) (w : World) (hv : Frames w v fs) (hg : TypeIs w) (hp : pixB fs = true) (h16 : fs.length ≤ 16) (hb : argE cut 16 fs.length ≠ 0 ∨ ∃ j, j < fs.length ∧ ueA fs j ≠ 0) :
    Calls Tryd.prog 7 #[v, .int .i64 cut, .int .i64 more] w fun e w' => e = .returned (.bool true) ∧ Below w.heap.size w w' := by
  have HG := Lib.hid hg
  have HV := Lib.hid hv
  have c1 := fun w h => pix_any v fs w h
  rw [hp] at c1
  have C1 := Lib.hid c1
  have C2 := Lib.hid (fun w h => pgrp_bad v fs cut 16 w h hb)
  clear hb
  obtain ⟨n, hn⟩ : ∃ n, fs.length = n := ⟨_, rfl⟩
  obtain ⟨ao, cap, rfl⟩ := hv.shapeN hn
  rw [hn] at h16
  clear hv hg c1 hp hn
  go_enter Tryd.func7, Tryd.ntmps7
  have g0 : Below w.heap.size w w := Below.refl _ _
  go_wp2_with fail
  refine (first_any _ (HG.out.ext (by go_grown))).mono ?_
  rintro e w1 ⟨rfl, hb1⟩
  have j1 : Below w.heap.size w w1 := ext (by go_grown) hb1
  have g1 : Below w.heap.size w w1 := ext g0 j1
  have s1 := j1.size
  have t1 := g1.size
  go_wp2_with fail
  refine (C1.out _ ((HV.out.ext j1).ext (by go_grown))).mono ?_
  rintro e w2 ⟨rfl, hb2⟩
  have j2 : Below w1.heap.size w1 w2 := ext (by go_grown) hb2
  have g2 : Below w.heap.size w w2 := ext g1 j2
  have s2 := j2.size
  have t2 := g2.size
  go_wp2_with fail
  refine (C2.out _ (((HV.out.ext j1).ext j2).ext (by go_grown))).mono ?_
  rintro e w3 ⟨T, X, rfl, hb3⟩
  have j3 : Below w2.heap.size w2 w3 := ext (by go_grown) hb3
  have g3 : Below w.heap.size w w3 := ext g2 j3
  have s3 := j3.size
  have t3 := g3.size
  go_wp2_with fail
  refine (first_any _ ((((HG.out.ext j1).ext j2).ext j3).ext (by go_grown))).mono ?_
  rintro e w4 ⟨rfl, hb4⟩
  have j4 : Below w3.heap.size w3 w4 := ext (by go_grown) hb4
  have g4 : Below w.heap.size w w4 := ext g3 j4
  have s4 := j4.size
  have t4 := g4.size
  go_wp2
  all_goals go_returns
  all_goals exact ⟨by first | rfl | (simp; done) | (simp; omega), g4⟩

set_option maxRecDepth 100000 in
set_option maxHeartbeats 16000000 in
theorem cuts_gb (v : Value) (fs : List Fr) (cut more : Int) (w : World) (hv : Frames w v fs) (hg : TypeIs w) (hp : pixB fs = true) (ha : argE cut 16 fs.length = 0) (hz : ∀ j, j < fs.length → ueA fs j = 0) (hm : argE more 16 fs.length ≠ 0) :
    Calls Tryd.prog 7 #[v, .int .i64 cut, .int .i64 more] w fun e w' => e = .returned (.bool true) ∧ Below w.heap.size w w' := by
  have HG := Lib.hid hg
  have HV := Lib.hid hv
  have c1 := fun w h => pix_any v fs w h
  rw [hp] at c1
  have C1 := Lib.hid c1
  obtain ⟨⟨a1, a2, a3, a4⟩, a5, a6⟩ := argE_zero ha
  have c2 := fun w h => pgrp_ok v fs cut 16 w h ha hz
  have c3 := fun w h => pgrp_bad v fs more 16 w h (.inl hm)
  have HI := ginv fs (cut := cut) a3 fs.length
  have HCA : Hid (∀ i, i < fs.length → CutsAt fs cut (grpTo fs cut 16 fs.length) i) := cuts_at fs cut a6
  have hs := HI.small a6
  have HZ : Hid (∀ j, j < fs.length → ueA fs j = 0) := hz
  have hle := HI.le
  generalize grpTo fs cut 16 fs.length = G at *
  clear ha hm hz
  obtain ⟨n, hn⟩ : ∃ n, fs.length = n := ⟨_, rfl⟩
  obtain ⟨L, hL⟩ : ∃ L, G.length = L := ⟨_, rfl⟩
  obtain ⟨ao, cap, rfl⟩ := hv.shapeN hn
  rw [hn] at HI a5 a6 HCA hle
  rw [hL] at hle
  have HGI := Lib.hid HI
  have LN := Lib.hid hn
  have LG := Lib.hid hL
  have HS := Lib.hid hs
  have C2 := Lib.hid c2
  have C3 := Lib.hid c3
  clear hv hg c1 c2 c3 hp HI hn hL hs
  go_enter Tryd.func7, Tryd.ntmps7
  have g0 : Below w.heap.size w w := Below.refl _ _
  go_wp2_with fail
  refine (first_any _ (HG.out.ext (by go_grown))).mono ?_
  rintro e w1 ⟨rfl, hb1⟩
  have j1 : Below w.heap.size w w1 := ext (by go_grown) hb1
  have g1 : Below w.heap.size w w1 := ext g0 j1
  have s1 := j1.size
  have t1 := g1.size
  go_wp2_with fail
  refine (C1.out _ ((HV.out.ext j1).ext (by go_grown))).mono ?_
  rintro e w2 ⟨rfl, hb2⟩
  have j2 : Below w1.heap.size w1 w2 := ext (by go_grown) hb2
  have g2 : Below w.heap.size w w2 := ext g1 j2
  have s2 := j2.size
  have t2 := g2.size
  go_wp2_with fail
  refine (C2.out _ (((HV.out.ext j1).ext j2).ext (by go_grown))).mono ?_
  rintro e w3 ⟨vg, rfl, og, hb3⟩
  have j3 : Below w2.heap.size w2 w3 := ext (by go_grown) hb3
  have g3 : Below w.heap.size w w3 := ext g2 j3
  have s3 := j3.size
  have t3 := g3.size
  obtain ⟨go, gc, rfl⟩ := og.grps.shapeN LG.out
  have HGR := Lib.hid (og.grps)
  clear og
  go_wp2
  go_loopw [9] (fun i wr => ∃ k : Nat, k ≤ n ∧ i = .int .i64 k ∧ Below w3.heap.size w3 wr) (fun i _ => n - (intOf i).toNat)
  case atStart => exact ⟨0, Nat.zero_le _, rfl, Below.refl _ _⟩
  case round =>
    obtain ⟨k, hk, rfl, hbr⟩ := hrel
    have gr : Below w.heap.size w wr := ext g3 hbr
    by_cases hlt : k < n
    · rcases Nat.eq_zero_or_pos k with hk0 | hk0
      · have HK0 := Lib.hid hk0
        have hkp : k - 1 = 0 := by omega
        have qk : IntKind.i64.wrap ((k : Int) - 1) = -1 := by rw [hk0]; rfl
        clear hk0
        have CU := fun v u w h1 h2 => punl_any v u (fs.getD 0 Fr.nought) (fs.getD k Fr.nought) w h1 h2
        have e1 : unlE (fs.getD 0 Fr.nought) (fs.getD k Fr.nought) = 0 := by have hue := HZ.out k (by rw [LN.out]; exact hlt); unfold ueA frA at hue; rw [hkp] at hue; exact hue
        have e2 : unlV (fs.getD 0 Fr.nought) (fs.getD k Fr.nought) = uvA fs k := by unfold uvA frA; rw [hkp]
        rw [e1, e2, errV_zero] at CU
        have CU1 := Lib.hid CU
        have hub := unlV_bd (fs.getD 0 Fr.nought) (fs.getD k Fr.nought)
        rw [e2] at hub
        obtain ⟨hu1, hu2⟩ := hub
        obtain ⟨j, hjl, hjin, hjf⟩ := HCA.out k hlt
        have CO := Lib.hid (HGI.out.of hjl hjin)
        rw [LG.out] at hjl
        have hf0 := HS.out j (by rw [LG.out]; exact hjl)
        clear CU e1 e2 hjin
        obtain ⟨b, off, po, pc, rfl, lb, s0, s1, s2, fv⟩ := ((((HV.out.ext j1).ext j2).ext j3).ext hbr).cellAt (j := 0) (by rw [LN.out]; omega)
        obtain ⟨bq, offq, qo, qc, eq, lbq, r0, r1, r2, fvq⟩ := ((((HV.out.ext j1).ext j2).ext j3).ext hbr).cellAt (j := k) (by rw [LN.out]; omega)
        obtain ⟨rfl, rfl⟩ : b = bq ∧ off = offq := by simpa using eq
        simp only [Nat.zero_mul, Nat.add_zero] at s0 s1 s2
        have HFP := Lib.hid fv
        have HFI := Lib.hid fvq
        clear fv fvq eq lbq
        generalize fs.getD 0 Fr.nought = fp at *
        generalize fs.getD k Fr.nought = fi at *
        generalize uvA fs k = u at *
        have HF0 : Hid ((G.getD j (0, 0)).1 = (G.getD j (0, 0)).1) := Lib.hid rfl
        generalize hff : (G.getD j (0, 0)).1 = f at *
        have HFF := Lib.hid hff
        have S6 := Lib.hid (And.intro s0 (And.intro s1 (And.intro s2 (And.intro r0 (And.intro r1 r2)))))
        have hpn : 0 < n := by omega
        clear hkp hff HF0
        go_wp2
        go_region_held3 (fun w' => w'.cell? ⟨b, off, none⟩ = some (.int .i64 fp.W) ∧ w'.cell? ⟨b, off + 1, none⟩ = some (.int .i64 fp.H) ∧ w'.cell? ⟨b, off + 2, none⟩ = some (.slice po fp.pix.length pc) ∧ w'.cell? ⟨b, off + k * 3, none⟩ = some (.int .i64 fi.W) ∧ w'.cell? ⟨b, off + k * 3 + 1, none⟩ = some (.int .i64 fi.H) ∧ w'.cell? ⟨b, off + k * 3 + 2, none⟩ = some (.slice qo fi.pix.length qc))
          (first | with_reducible exact S65.out | with_reducible exact S6.out | with_reducible exact six_drew2 S6.out | go_keep)
          (first | (go_at_call 10; refine (CU1.out _ _ _ ?_ ?_).mono ?_; exact HFP.out; exact HFI.out; rintro e w5 ⟨rfl, hb5⟩; have S65 := Lib.hid (six_ext2 hb5 S6.out)))
        have j5 : Below wr.heap.size wr w5 := by first | exact hb5 | exact below_undrew hb5
        have g5 : Below w3.heap.size w3 w5 := hbr.trans (j5.mono hbr.size)
        clear s0 s1 s2 r0 r1 r2 S6 HFP HFI CU1 hb5
        go_wp2_with fail
        refine (psof_any _ G k j _ ((HGR.out.ext g5).ext (by go_grown)) HS.out (by omega) (by omega) CO.out).mono ?_
        rintro e w6 ⟨rfl, hb6⟩
        have g6 : Below w3.heap.size w3 w6 := ext g5 (ext (by go_grown) hb6)
        obtain ⟨bg, og, rfl, lg, c0, c1⟩ := (HGR.out.ext g6).cellAt (j := j) (by rw [LG.out]; exact hjl)
        rw [HFF.out] at c0
        clear c1
        have qL : decide ((L : Int) ≤ (j : Int)) = false := by simp; omega
        have qf : f = (k : Int) := hjf.2 (.inl HK0.out)
        clear hjf
        subst qf
        have qz : ((k : Int) == 0) = true := by rw [HK0.out]; rfl
        have qy : ((k : Int) == (k : Int)) = true := by simp
        go_wp2
        go_roundw
        case rel => exact ⟨k + 1, by omega, by go_num, g6⟩
        case measure => simp [intOf]; omega
      · obtain ⟨p, hp⟩ : ∃ p, k = p + 1 := ⟨k - 1, by omega⟩
        have hkp : k - 1 = p := by omega
        have qk : IntKind.i64.wrap ((k : Int) - 1) = p := by rw [IntWalk.i64_in _ (by omega)]; omega
        clear hp
        have hp0 : ¬ (p : Int) < 0 := by omega
        have hp1 : (0 : Int) ≤ (p : Int) := by omega
        have hp4 : (if (0 : Int) > (p : Int) then (0 : Int) else (p : Int)) = (p : Int) := if_neg (by omega)
        have hp2 : (p : Int) < (n : Int) := by omega
        have CU := fun v u w h1 h2 => punl_any v u (fs.getD p Fr.nought) (fs.getD k Fr.nought) w h1 h2
        have e1 : unlE (fs.getD p Fr.nought) (fs.getD k Fr.nought) = 0 := by have hue := HZ.out k (by rw [LN.out]; exact hlt); unfold ueA frA at hue; rw [hkp] at hue; exact hue
        have e2 : unlV (fs.getD p Fr.nought) (fs.getD k Fr.nought) = uvA fs k := by unfold uvA frA; rw [hkp]
        rw [e1, e2, errV_zero] at CU
        have CU1 := Lib.hid CU
        have hub := unlV_bd (fs.getD p Fr.nought) (fs.getD k Fr.nought)
        rw [e2] at hub
        obtain ⟨hu1, hu2⟩ := hub
        obtain ⟨j, hjl, hjin, hjf⟩ := HCA.out k hlt
        have CO := Lib.hid (HGI.out.of hjl hjin)
        rw [LG.out] at hjl
        have hf0 := HS.out j (by rw [LG.out]; exact hjl)
        clear CU e1 e2 hjin
        obtain ⟨b, off, po, pc, rfl, lb, s0, s1, s2, fv⟩ := ((((HV.out.ext j1).ext j2).ext j3).ext hbr).cellAt (j := p) (by rw [LN.out]; omega)
        obtain ⟨bq, offq, qo, qc, eq, lbq, r0, r1, r2, fvq⟩ := ((((HV.out.ext j1).ext j2).ext j3).ext hbr).cellAt (j := k) (by rw [LN.out]; omega)
        obtain ⟨rfl, rfl⟩ : b = bq ∧ off = offq := by simpa using eq
        have HFP := Lib.hid fv
        have HFI := Lib.hid fvq
        clear fv fvq eq lbq
        generalize fs.getD p Fr.nought = fp at *
        generalize fs.getD k Fr.nought = fi at *
        generalize uvA fs k = u at *
        have HF0 : Hid ((G.getD j (0, 0)).1 = (G.getD j (0, 0)).1) := Lib.hid rfl
        generalize hff : (G.getD j (0, 0)).1 = f at *
        have HFF := Lib.hid hff
        have S6 := Lib.hid (And.intro s0 (And.intro s1 (And.intro s2 (And.intro r0 (And.intro r1 r2)))))
        have hpn : p < n := by omega
        clear hkp hff HF0
        go_wp2
        go_region_held3 (fun w' => w'.cell? ⟨b, off + p * 3, none⟩ = some (.int .i64 fp.W) ∧ w'.cell? ⟨b, off + p * 3 + 1, none⟩ = some (.int .i64 fp.H) ∧ w'.cell? ⟨b, off + p * 3 + 2, none⟩ = some (.slice po fp.pix.length pc) ∧ w'.cell? ⟨b, off + k * 3, none⟩ = some (.int .i64 fi.W) ∧ w'.cell? ⟨b, off + k * 3 + 1, none⟩ = some (.int .i64 fi.H) ∧ w'.cell? ⟨b, off + k * 3 + 2, none⟩ = some (.slice qo fi.pix.length qc))
          (first | with_reducible exact S65.out | with_reducible exact S6.out | with_reducible exact six_drew2 S6.out | go_keep)
          (first | (go_at_call 10; refine (CU1.out _ _ _ ?_ ?_).mono ?_; exact HFP.out; exact HFI.out; rintro e w5 ⟨rfl, hb5⟩; have S65 := Lib.hid (six_ext2 hb5 S6.out)))
        have j5 : Below wr.heap.size wr w5 := by first | exact hb5 | exact below_undrew hb5
        have g5 : Below w3.heap.size w3 w5 := hbr.trans (j5.mono hbr.size)
        clear s0 s1 s2 r0 r1 r2 S6 HFP HFI CU1 hb5
        go_wp2_with fail
        refine (psof_any _ G k j _ ((HGR.out.ext g5).ext (by go_grown)) HS.out (by omega) (by omega) CO.out).mono ?_
        rintro e w6 ⟨rfl, hb6⟩
        have g6 : Below w3.heap.size w3 w6 := ext g5 (ext (by go_grown) hb6)
        obtain ⟨bg, og, rfl, lg, c0, c1⟩ := (HGR.out.ext g6).cellAt (j := j) (by rw [LG.out]; exact hjl)
        rw [HFF.out] at c0
        clear c1
        have qL : decide ((L : Int) ≤ (j : Int)) = false := by simp; omega
        have qz : ((k : Int) == 0) = false := by rw [beq_eq_false_iff_ne]; omega
        by_cases hcu : cut < u
        · have qf : f = (k : Int) := hjf.2 (.inr hcu)
          clear hjf
          subst qf
          have qy : ((k : Int) == (k : Int)) = true := by simp
          have qu : decide (cut < u) = true := by simp; omega
          go_wp2
          go_roundw
          case rel => exact ⟨k + 1, by omega, by go_num, g6⟩
          case measure => simp [intOf]; omega
        · have qf : (f == (k : Int)) = false := by rw [beq_eq_false_iff_ne]; exact fun q => by have := hjf.1 q; omega
          clear hjf
          have qu : decide (cut < u) = false := by simp; omega
          go_wp2
          go_roundw
          case rel => exact ⟨k + 1, by omega, by go_num, g6⟩
          case measure => simp [intOf]; omega
    · obtain rfl : k = n := by omega
      obtain ⟨wa, rfl⟩ : ∃ wa : World, wa = wr := ⟨_, rfl⟩
      have HVa := Lib.hid ((((HV.out.ext j1).ext j2).ext j3).ext hbr)
      have HGa := Lib.hid ((((HG.out.ext j1).ext j2).ext j3).ext hbr)
      clear hbr
      have g0 : Below wa.heap.size wa wa := Below.refl _ _
      go_wp2_with fail
      refine (C3.out _ (HVa.out.ext (by go_grown))).mono ?_
      rintro e w1 ⟨T, X, rfl, hb1⟩
      have j1 : Below wa.heap.size wa w1 := ext (by go_grown) hb1
      have g1 : Below wa.heap.size wa w1 := ext g0 j1
      have s1 := j1.size
      have t1 := g1.size
      go_wp2_with fail
      refine (first_any _ ((HGa.out.ext j1).ext (by go_grown))).mono ?_
      rintro e w2 ⟨rfl, hb2⟩
      have j2 : Below w1.heap.size w1 w2 := ext (by go_grown) hb2
      have g2 : Below wa.heap.size wa w2 := ext g1 j2
      have s2 := j2.size
      have t2 := g2.size
      have gF : Below w.heap.size w w2 := ext gr g2
      go_wp2
      all_goals go_returns
      all_goals exact ⟨by first | rfl | (simp; done) | (simp; omega), gF⟩

set_option maxRecDepth 100000 in
set_option maxHeartbeats 16000000 in
theorem cuts_gg (v : Value) (fs : List Fr) (cut more : Int) (w : World) (hv : Frames w v fs) (hg : TypeIs w) (hp : pixB fs = true) (ha : argE cut 16 fs.length = 0) (hz : ∀ j, j < fs.length → ueA fs j = 0) (hm : argE more 16 fs.length = 0) :
    Calls Tryd.prog 7 #[v, .int .i64 cut, .int .i64 more] w fun e w' => e = .returned (.bool true) ∧ Below w.heap.size w w' := by
  have HG := Lib.hid hg
  have HV := Lib.hid hv
  have c1 := fun w h => pix_any v fs w h
  rw [hp] at c1
  have C1 := Lib.hid c1
  obtain ⟨⟨a1, a2, a3, a4⟩, a5, a6⟩ := argE_zero ha
  have c2 := fun w h => pgrp_ok v fs cut 16 w h ha hz
  have c3 := fun w h => pgrp_ok v fs more 16 w h hm hz
  have HI := ginv fs (cut := cut) a3 fs.length
  have HCA : Hid (∀ i, i < fs.length → CutsAt fs cut (grpTo fs cut 16 fs.length) i) := cuts_at fs cut a6
  have hs := HI.small a6
  have hw : cut ≤ more → (grpTo fs more 16 fs.length).length ≤ (grpTo fs cut 16 fs.length).length := fun h => cuts_fewer h a6
  have hwm : (grpTo fs more 16 fs.length).length ≤ fs.length := (ginv fs (cut := more) a3 fs.length).le
  have HZ : Hid (∀ j, j < fs.length → ueA fs j = 0) := hz
  have hle := HI.le
  generalize grpTo fs cut 16 fs.length = G at *
  generalize grpTo fs more 16 fs.length = A at *
  clear ha hm hz
  obtain ⟨n, hn⟩ : ∃ n, fs.length = n := ⟨_, rfl⟩
  obtain ⟨L, hL⟩ : ∃ L, G.length = L := ⟨_, rfl⟩
  obtain ⟨M, hM⟩ : ∃ M, A.length = M := ⟨_, rfl⟩
  obtain ⟨ao, cap, rfl⟩ := hv.shapeN hn
  rw [hn] at HI a5 a6 HCA hle
  rw [hL] at hle
  rw [hL, hM] at hw
  rw [hM, hn] at hwm
  have LA := Lib.hid hM
  clear hM
  have HGI := Lib.hid HI
  have LN := Lib.hid hn
  have LG := Lib.hid hL
  have HS := Lib.hid hs
  have C2 := Lib.hid c2
  have C3 := Lib.hid c3
  clear hv hg c1 c2 c3 hp HI hn hL hs
  go_enter Tryd.func7, Tryd.ntmps7
  have g0 : Below w.heap.size w w := Below.refl _ _
  go_wp2_with fail
  refine (first_any _ (HG.out.ext (by go_grown))).mono ?_
  rintro e w1 ⟨rfl, hb1⟩
  have j1 : Below w.heap.size w w1 := ext (by go_grown) hb1
  have g1 : Below w.heap.size w w1 := ext g0 j1
  have s1 := j1.size
  have t1 := g1.size
  go_wp2_with fail
  refine (C1.out _ ((HV.out.ext j1).ext (by go_grown))).mono ?_
  rintro e w2 ⟨rfl, hb2⟩
  have j2 : Below w1.heap.size w1 w2 := ext (by go_grown) hb2
  have g2 : Below w.heap.size w w2 := ext g1 j2
  have s2 := j2.size
  have t2 := g2.size
  go_wp2_with fail
  refine (C2.out _ (((HV.out.ext j1).ext j2).ext (by go_grown))).mono ?_
  rintro e w3 ⟨vg, rfl, og, hb3⟩
  have j3 : Below w2.heap.size w2 w3 := ext (by go_grown) hb3
  have g3 : Below w.heap.size w w3 := ext g2 j3
  have s3 := j3.size
  have t3 := g3.size
  obtain ⟨go, gc, rfl⟩ := og.grps.shapeN LG.out
  have HGR := Lib.hid (og.grps)
  clear og
  go_wp2
  go_loopw [9] (fun i wr => ∃ k : Nat, k ≤ n ∧ i = .int .i64 k ∧ Below w3.heap.size w3 wr) (fun i _ => n - (intOf i).toNat)
  case atStart => exact ⟨0, Nat.zero_le _, rfl, Below.refl _ _⟩
  case round =>
    obtain ⟨k, hk, rfl, hbr⟩ := hrel
    have gr : Below w.heap.size w wr := ext g3 hbr
    by_cases hlt : k < n
    · rcases Nat.eq_zero_or_pos k with hk0 | hk0
      · have HK0 := Lib.hid hk0
        have hkp : k - 1 = 0 := by omega
        have qk : IntKind.i64.wrap ((k : Int) - 1) = -1 := by rw [hk0]; rfl
        clear hk0
        have CU := fun v u w h1 h2 => punl_any v u (fs.getD 0 Fr.nought) (fs.getD k Fr.nought) w h1 h2
        have e1 : unlE (fs.getD 0 Fr.nought) (fs.getD k Fr.nought) = 0 := by have hue := HZ.out k (by rw [LN.out]; exact hlt); unfold ueA frA at hue; rw [hkp] at hue; exact hue
        have e2 : unlV (fs.getD 0 Fr.nought) (fs.getD k Fr.nought) = uvA fs k := by unfold uvA frA; rw [hkp]
        rw [e1, e2, errV_zero] at CU
        have CU1 := Lib.hid CU
        have hub := unlV_bd (fs.getD 0 Fr.nought) (fs.getD k Fr.nought)
        rw [e2] at hub
        obtain ⟨hu1, hu2⟩ := hub
        obtain ⟨j, hjl, hjin, hjf⟩ := HCA.out k hlt
        have CO := Lib.hid (HGI.out.of hjl hjin)
        rw [LG.out] at hjl
        have hf0 := HS.out j (by rw [LG.out]; exact hjl)
        clear CU e1 e2 hjin
        obtain ⟨b, off, po, pc, rfl, lb, s0, s1, s2, fv⟩ := ((((HV.out.ext j1).ext j2).ext j3).ext hbr).cellAt (j := 0) (by rw [LN.out]; omega)
        obtain ⟨bq, offq, qo, qc, eq, lbq, r0, r1, r2, fvq⟩ := ((((HV.out.ext j1).ext j2).ext j3).ext hbr).cellAt (j := k) (by rw [LN.out]; omega)
        obtain ⟨rfl, rfl⟩ : b = bq ∧ off = offq := by simpa using eq
        simp only [Nat.zero_mul, Nat.add_zero] at s0 s1 s2
        have HFP := Lib.hid fv
        have HFI := Lib.hid fvq
        clear fv fvq eq lbq
        generalize fs.getD 0 Fr.nought = fp at *
        generalize fs.getD k Fr.nought = fi at *
        generalize uvA fs k = u at *
        have HF0 : Hid ((G.getD j (0, 0)).1 = (G.getD j (0, 0)).1) := Lib.hid rfl
        generalize hff : (G.getD j (0, 0)).1 = f at *
        have HFF := Lib.hid hff
        have S6 := Lib.hid (And.intro s0 (And.intro s1 (And.intro s2 (And.intro r0 (And.intro r1 r2)))))
        have hpn : 0 < n := by omega
        clear hkp hff HF0
        go_wp2
        go_region_held3 (fun w' => w'.cell? ⟨b, off, none⟩ = some (.int .i64 fp.W) ∧ w'.cell? ⟨b, off + 1, none⟩ = some (.int .i64 fp.H) ∧ w'.cell? ⟨b, off + 2, none⟩ = some (.slice po fp.pix.length pc) ∧ w'.cell? ⟨b, off + k * 3, none⟩ = some (.int .i64 fi.W) ∧ w'.cell? ⟨b, off + k * 3 + 1, none⟩ = some (.int .i64 fi.H) ∧ w'.cell? ⟨b, off + k * 3 + 2, none⟩ = some (.slice qo fi.pix.length qc))
          (first | with_reducible exact S65.out | with_reducible exact S6.out | with_reducible exact six_drew2 S6.out | go_keep)
          (first | (go_at_call 10; refine (CU1.out _ _ _ ?_ ?_).mono ?_; exact HFP.out; exact HFI.out; rintro e w5 ⟨rfl, hb5⟩; have S65 := Lib.hid (six_ext2 hb5 S6.out)))
        have j5 : Below wr.heap.size wr w5 := by first | exact hb5 | exact below_undrew hb5
        have g5 : Below w3.heap.size w3 w5 := hbr.trans (j5.mono hbr.size)
        clear s0 s1 s2 r0 r1 r2 S6 HFP HFI CU1 hb5
        go_wp2_with fail
        refine (psof_any _ G k j _ ((HGR.out.ext g5).ext (by go_grown)) HS.out (by omega) (by omega) CO.out).mono ?_
        rintro e w6 ⟨rfl, hb6⟩
        have g6 : Below w3.heap.size w3 w6 := ext g5 (ext (by go_grown) hb6)
        obtain ⟨bg, og, rfl, lg, c0, c1⟩ := (HGR.out.ext g6).cellAt (j := j) (by rw [LG.out]; exact hjl)
        rw [HFF.out] at c0
        clear c1
        have qL : decide ((L : Int) ≤ (j : Int)) = false := by simp; omega
        have qf : f = (k : Int) := hjf.2 (.inl HK0.out)
        clear hjf
        subst qf
        have qz : ((k : Int) == 0) = true := by rw [HK0.out]; rfl
        have qy : ((k : Int) == (k : Int)) = true := by simp
        go_wp2
        go_roundw
        case rel => exact ⟨k + 1, by omega, by go_num, g6⟩
        case measure => simp [intOf]; omega
      · obtain ⟨p, hp⟩ : ∃ p, k = p + 1 := ⟨k - 1, by omega⟩
        have hkp : k - 1 = p := by omega
        have qk : IntKind.i64.wrap ((k : Int) - 1) = p := by rw [IntWalk.i64_in _ (by omega)]; omega
        clear hp
        have hp0 : ¬ (p : Int) < 0 := by omega
        have hp1 : (0 : Int) ≤ (p : Int) := by omega
        have hp4 : (if (0 : Int) > (p : Int) then (0 : Int) else (p : Int)) = (p : Int) := if_neg (by omega)
        have hp2 : (p : Int) < (n : Int) := by omega
        have CU := fun v u w h1 h2 => punl_any v u (fs.getD p Fr.nought) (fs.getD k Fr.nought) w h1 h2
        have e1 : unlE (fs.getD p Fr.nought) (fs.getD k Fr.nought) = 0 := by have hue := HZ.out k (by rw [LN.out]; exact hlt); unfold ueA frA at hue; rw [hkp] at hue; exact hue
        have e2 : unlV (fs.getD p Fr.nought) (fs.getD k Fr.nought) = uvA fs k := by unfold uvA frA; rw [hkp]
        rw [e1, e2, errV_zero] at CU
        have CU1 := Lib.hid CU
        have hub := unlV_bd (fs.getD p Fr.nought) (fs.getD k Fr.nought)
        rw [e2] at hub
        obtain ⟨hu1, hu2⟩ := hub
        obtain ⟨j, hjl, hjin, hjf⟩ := HCA.out k hlt
        have CO := Lib.hid (HGI.out.of hjl hjin)
        rw [LG.out] at hjl
        have hf0 := HS.out j (by rw [LG.out]; exact hjl)
        clear CU e1 e2 hjin
        obtain ⟨b, off, po, pc, rfl, lb, s0, s1, s2, fv⟩ := ((((HV.out.ext j1).ext j2).ext j3).ext hbr).cellAt (j := p) (by rw [LN.out]; omega)
        obtain ⟨bq, offq, qo, qc, eq, lbq, r0, r1, r2, fvq⟩ := ((((HV.out.ext j1).ext j2).ext j3).ext hbr).cellAt (j := k) (by rw [LN.out]; omega)
        obtain ⟨rfl, rfl⟩ : b = bq ∧ off = offq := by simpa using eq
        have HFP := Lib.hid fv
        have HFI := Lib.hid fvq
        clear fv fvq eq lbq
        generalize fs.getD p Fr.nought = fp at *
        generalize fs.getD k Fr.nought = fi at *
        generalize uvA fs k = u at *
        have HF0 : Hid ((G.getD j (0, 0)).1 = (G.getD j (0, 0)).1) := Lib.hid rfl
        generalize hff : (G.getD j (0, 0)).1 = f at *
        have HFF := Lib.hid hff
        have S6 := Lib.hid (And.intro s0 (And.intro s1 (And.intro s2 (And.intro r0 (And.intro r1 r2)))))
        have hpn : p < n := by omega
        clear hkp hff HF0
        go_wp2
        go_region_held3 (fun w' => w'.cell? ⟨b, off + p * 3, none⟩ = some (.int .i64 fp.W) ∧ w'.cell? ⟨b, off + p * 3 + 1, none⟩ = some (.int .i64 fp.H) ∧ w'.cell? ⟨b, off + p * 3 + 2, none⟩ = some (.slice po fp.pix.length pc) ∧ w'.cell? ⟨b, off + k * 3, none⟩ = some (.int .i64 fi.W) ∧ w'.cell? ⟨b, off + k * 3 + 1, none⟩ = some (.int .i64 fi.H) ∧ w'.cell? ⟨b, off + k * 3 + 2, none⟩ = some (.slice qo fi.pix.length qc))
          (first | with_reducible exact S65.out | with_reducible exact S6.out | with_reducible exact six_drew2 S6.out | go_keep)
          (first | (go_at_call 10; refine (CU1.out _ _ _ ?_ ?_).mono ?_; exact HFP.out; exact HFI.out; rintro e w5 ⟨rfl, hb5⟩; have S65 := Lib.hid (six_ext2 hb5 S6.out)))
        have j5 : Below wr.heap.size wr w5 := by first | exact hb5 | exact below_undrew hb5
        have g5 : Below w3.heap.size w3 w5 := hbr.trans (j5.mono hbr.size)
        clear s0 s1 s2 r0 r1 r2 S6 HFP HFI CU1 hb5
        go_wp2_with fail
        refine (psof_any _ G k j _ ((HGR.out.ext g5).ext (by go_grown)) HS.out (by omega) (by omega) CO.out).mono ?_
        rintro e w6 ⟨rfl, hb6⟩
        have g6 : Below w3.heap.size w3 w6 := ext g5 (ext (by go_grown) hb6)
        obtain ⟨bg, og, rfl, lg, c0, c1⟩ := (HGR.out.ext g6).cellAt (j := j) (by rw [LG.out]; exact hjl)
        rw [HFF.out] at c0
        clear c1
        have qL : decide ((L : Int) ≤ (j : Int)) = false := by simp; omega
        have qz : ((k : Int) == 0) = false := by rw [beq_eq_false_iff_ne]; omega
        by_cases hcu : cut < u
        · have qf : f = (k : Int) := hjf.2 (.inr hcu)
          clear hjf
          subst qf
          have qy : ((k : Int) == (k : Int)) = true := by simp
          have qu : decide (cut < u) = true := by simp; omega
          go_wp2
          go_roundw
          case rel => exact ⟨k + 1, by omega, by go_num, g6⟩
          case measure => simp [intOf]; omega
        · have qf : (f == (k : Int)) = false := by rw [beq_eq_false_iff_ne]; exact fun q => by have := hjf.1 q; omega
          clear hjf
          have qu : decide (cut < u) = false := by simp; omega
          go_wp2
          go_roundw
          case rel => exact ⟨k + 1, by omega, by go_num, g6⟩
          case measure => simp [intOf]; omega
    · obtain rfl : k = n := by omega
      obtain ⟨wa, rfl⟩ : ∃ wa : World, wa = wr := ⟨_, rfl⟩
      have HVa := Lib.hid ((((HV.out.ext j1).ext j2).ext j3).ext hbr)
      have HGa := Lib.hid ((((HG.out.ext j1).ext j2).ext j3).ext hbr)
      clear hbr
      have g0 : Below wa.heap.size wa wa := Below.refl _ _
      go_wp2_with fail
      refine (C3.out _ (HVa.out.ext (by go_grown))).mono ?_
      rintro e w1 ⟨va, rfl, oa, hb1⟩
      have j1 : Below wa.heap.size wa w1 := ext (by go_grown) hb1
      have g1 : Below wa.heap.size wa w1 := ext g0 j1
      have s1 := j1.size
      have t1 := g1.size
      obtain ⟨aa, ac, rfl⟩ := oa.grps.shapeN LA.out
      clear oa
      go_wp2_with fail
      refine (first_any _ ((HGa.out.ext j1).ext (by go_grown))).mono ?_
      rintro e w2 ⟨rfl, hb2⟩
      have j2 : Below w1.heap.size w1 w2 := ext (by go_grown) hb2
      have g2 : Below wa.heap.size wa w2 := ext g1 j2
      have s2 := j2.size
      have t2 := g2.size
      have gF : Below w.heap.size w w2 := ext gr g2
      by_cases hmc : more < cut
      · have qm : decide (more < cut) = true := by simp; omega
        clear hw
        go_wp2
        all_goals go_returns
        all_goals exact ⟨by first | rfl | (simp; done) | (simp; omega), gF⟩
      · have qm : decide (more < cut) = false := by simp; omega
        have hwl : M ≤ L := hw (by omega)
        clear hw
        go_wp2
        all_goals go_returns
        all_goals exact ⟨by first | rfl | (simp; done) | (simp; omega), gF⟩

theorem cuts_walk (v : Value) (fs : List Fr) (cut more : Int) (w : World) (hv : Frames w v fs) (hg : TypeIs w) :
    Calls Tryd.prog 7 #[v, .int .i64 cut, .int .i64 more] w fun e w' => e = .returned (.bool true) ∧ Below w.heap.size w w' := by
  cases hp : pixB fs with
  | false => exact cuts_p v fs cut more w hv hg hp
  | true =>
    by_cases h16 : 16 < fs.length
    · exact cuts_n v fs cut more w hv hg hp h16
    by_cases ha : argE cut 16 fs.length = 0
    · by_cases hz : ∀ j, j < fs.length → ueA fs j = 0
      · by_cases hm : argE more 16 fs.length = 0
        · exact cuts_gg v fs cut more w hv hg hp ha hz hm
        · exact cuts_gb v fs cut more w hv hg hp ha hz hm
      · refine cuts_b v fs cut more w hv hg hp (by omega) (.inr ?_)
        exact Classical.byContradiction fun h => hz fun j hj => Classical.byContradiction fun h2 => h ⟨j, hj, h2⟩
    · exact cuts_b v fs cut more w hv hg hp (by omega) (.inl ha)
end Go.Proofs.YtpdhhnhpaahenaaDoor
