/- DiskEither: the walk. -/
import Derived.Test.YtdiaejphgcoknaaDoorDiskAp
import Derived.Test.YtdiaejphgcoknaaDoorDiskAo
set_option linter.unusedSimpArgs false
set_option linter.unusedVariables false
namespace Go.Proofs.YtdiaejphgcoknaaDoor
open Go.RowKit Go.Extern.Stop Go.Stop Go.Extern

set_option maxRecDepth 100000 in
set_option maxHeartbeats 8000000 in
theorem either_walk (v : Value) (l : List OpP) (vb : Value) (b : Bs) (arm : Int) (u : Value) (picks : List Int) (W : World) (hv : OpsV W v l) (hb : BytesV W vb b) (hm : in64 arm) (hu : Ints W u picks) (hg : TypeIs W) :
    Calls Tryd.prog 6 #[v, vb, .int .i64 arm, u] W fun e W' => e = .returned (.bool true) ∧ Below W.heap.size W W' := by
  have HG := Lib.hid hg
  have HV := Lib.hid hv
  have HU := Lib.hid hu
  have HM := Lib.hid hm
  have CF := Lib.hid (fun (w : World) (h : Below W.heap.size W w) => first_any w (hg.ext h))
  obtain ⟨n, hnn⟩ : ∃ n, l.length = n := ⟨_, rfl⟩
  obtain ⟨ao, cap, rfl⟩ := hv.shapeN hnn
  have LN := Lib.hid hnn
  have hl := hv.len
  rw [hnn] at hl
  have hbl := hb.len
  have HB := Lib.hid hb
  obtain ⟨ob', cb', rfl⟩ := hb.shape
  obtain ⟨bl, hbl2⟩ : ∃ bl, b.length = bl := ⟨_, rfl⟩
  rw [hbl2] at HB hbl ⊢
  have HBL := Lib.hid hbl2
  clear hg hv hnn hu hm hb hbl2
  go_enter Tryd.func6, Tryd.ntmps6
  go_wp2_with (go_at_call 8; refine (CF.out _ (Below.refl _ _)).mono ?_; rintro e wa ⟨rfl, hba⟩)
  refine (few_ops _ l _ (HV.out.ext hba)).mono ?_
  rintro e wb ⟨fw, rfl, hfw, hbb⟩
  have HC := Lib.hid (ext hba hbb)
  clear hba hbb
  cases fw
  · go_wp2_with (go_at_call 8; refine (CF.out _ HC.out).mono ?_; rintro e wd ⟨rfl, hbd⟩)
    go_returns
    exact ⟨by first | rfl | (simp; done), ext HC.out hbd⟩
  have hn3 : n ≤ 300 := by rw [← LN.out]; exact hfw (by first | trivial | rfl)
  clear hfw
  by_cases h1 : 20000 < bl
  · go_wp2_with (go_at_call 8; refine (CF.out _ HC.out).mono ?_; rintro e wd ⟨rfl, hbd⟩)
    go_returns
    exact ⟨by first | rfl | (simp; done), ext HC.out hbd⟩
  have CN := Lib.hid (new_any 16777216 (by omega) wb)
  go_wp2_with (go_at_call 9; refine CN.out.mono ?_; rintro e we ⟨rfl, hD, hbe⟩; have SE := Lib.hid (Stand.new HC.out hD (has_new rfl) hbe); clear hD hbe)
  obtain ⟨p, hp⟩ : ∃ p, wb.heap.size + 2 = p := ⟨_, rfl⟩
  rw [hp] at SE ⊢
  clear hp CN HC
  go_loopw [11] (fun i wr => ∃ (k : Nat) (L : Lay) (D : DS), k ≤ n ∧ i = .int .i64 k ∧ Stand W p L D wr ∧ Inv D (3 * k)) (fun i _ => n - (intOf i).toNat)
  case atStart => exact ⟨0, _, _, Nat.zero_le _, rfl, SE.out, Inv.new (by omega)⟩
  case round =>
    obtain ⟨k, L, D, hk, rfl, hS, hI⟩ := hrel
    have S := Lib.hid hS
    have HI := Lib.hid hI
    clear hS hI
    have hT : 3 * k ≤ 100000 := by omega
    by_cases hlt : k < n
    · obtain ⟨b2, off, vb, vp, rfl, lb, ho0⟩ := HV.out.cellAt (j := k) (by rw [LN.out]; exact hlt)
      have ho := ho0
      generalize l.getD k OpP.nought = o at *
      have HI2 := Lib.hid (HI.out.act o ho.i1)
      have HO := Lib.hid ho0
      have CA := Lib.hid (fun w' (h : Stand W p L D w') => h.actN HI.out hT HO.out)
      obtain ⟨c0, c1, c2, c3, c4, c5, ik, -, hln, hlt2, -, -⟩ := ho
      have hcc : ∀ o', wr.cell? ⟨b2, o', none⟩ = W.cell? ⟨b2, o', none⟩ := fun o' => S.out.below.cell (p := ⟨b2, o', none⟩) lb
      rw [← hcc] at c0 c1 c2 c3 c4 c5
      clear hcc ho0
      unfold in64 at ik
      go_wp2_with (go_at_call 14; refine (CA.out _ S.out).mono ?_; rintro e w2 ⟨rfl, L2, S2', hk2, hn2⟩; have S2 := Lib.hid S2'; clear S2')
      go_wp2
      go_roundw
      case rel => exact ⟨k + 1, _, _, by omega, by go_num, S2.out, HI2.out.mono (by omega)⟩
      case measure => simp [intOf]; omega
    · obtain rfl : k = n := by omega
      obtain ⟨ob, hold, hre0, hrv0⟩ := old_first HI.out picks
      have HI0 := Lib.hid (HI.out.crashD picks)
      have C0 := Lib.hid (fun w' (h : Stand W p L D w') => h.crashN (picks := picks) HI.out hT HU.out)
      have CR0 := Lib.hid (fun L' w' (h : Stand W p L' (crashD D picks) w') => h.read (a := bN) HI0.out (by omega) (by decide))
      have HA0 := Lib.hid (old_ready hold HI0.out rfl rfl)
      rw [hre0] at CR0
      generalize crashD D picks = D0 at *
      generalize hwas : readV D0 bN = was at *
      have HWA := Lib.hid hrv0
      clear hwas hre0 hrv0 hold
      have HI1 := Lib.hid (HI0.out.remD nw)
      have C1 := Lib.hid (fun L' w' (h : Stand W p L' D0 w') => h.remove (a := nw) HI0.out (by omega) (by decide))
      have HI2 := Lib.hid HI1.out.sdirD
      have C2 := Lib.hid (fun L' w' (h : Stand W p L' (remD D0 nw) w') => h.sdir HI1.out (by omega))
      have HI3 := Lib.hid (HI2.out.armD arm HM.out)
      have C3 := Lib.hid (fun L' w' (h : Stand W p L' (sdirD (remD D0 nw)) w') => h.armN arm)
      have HA3 := Lib.hid (HA0.out.1.arm arm HA0.out.2)
      generalize armD (sdirD (remD D0 nw)) arm = D3 at *
      generalize remE D0 nw = x1 at *
      generalize sdirE (remD D0 nw) = x2 at *
      generalize sdirD (remD D0 nw) = D2 at *
      generalize remD D0 nw = D1 at *
      obtain ⟨wl, hwl⟩ : ∃ wl, was.length = wl := ⟨_, rfl⟩
      rw [hwl] at CR0
      have HWL := Lib.hid hwl
      clear hwl HA0
      cases ob
      · have hw0 : was = [] := HWA.out
        subst hw0
        have hw1 : 0 = wl := HWL.out
        subst hw1
        rw [show oldE none = 7 from rfl] at CR0
        have HI4 := Lib.hid (HI3.out.createD nw)
        have C4 := Lib.hid (fun L' w' (h : Stand W p L' D3 w') => h.create (a := nw) HI3.out (by omega) (by decide))
        obtain ⟨ho4, hnew4⟩ := old_create HA3.out.1 HA3.out.2
        by_cases hx4 : goesE D3 (createE D3 nw) = 0
        · rw [hx4] at C4
          obtain ⟨nv, hn4⟩ := hnew4 hx4
          clear hx4 hnew4
          generalize createD D3 nw = D4 at *
          have HI5 := Lib.hid (HI4.out.appD nw b)
          have C5 := Lib.hid (fun L' w' (h : Stand W p L' D4 w') => h.append (a := nw) (b := b) HI4.out (by omega) (by decide) (HB.out.ext h.below))
          obtain ⟨ho5, hnew5⟩ := old_append ho4 hn4 b
          by_cases hx5 : appE D4 nw b = 0
          · rw [hx5] at C5
            have hn5 := hnew5 hx5
            clear hx5 hnew5 ho4 hn4
            generalize appD D4 nw b = D5 at *
            have HI6 := Lib.hid (HI5.out.syncD nw)
            have C6 := Lib.hid (fun L' w' (h : Stand W p L' D5 w') => h.sync (a := nw) HI5.out (by omega) (by decide))
            obtain ⟨ho6, hnew6⟩ := old_sync ho5 hn5
            by_cases hx6 : syncE D5 nw = 0
            · rw [hx6] at C6
              have hn6 := hnew6 hx6
              clear hx6 hnew6 ho5 hn5
              generalize syncD D5 nw = D6 at *
              have HI7 := Lib.hid (HI6.out.renD nw bN)
              have C7 := Lib.hid (fun L' w' (h : Stand W p L' D6 w') => h.rename (a := nw) (b := bN) HI6.out (by omega) (by decide) (by decide))
              by_cases hx7 : renE D6 nw bN = 0
              · rw [hx7] at C7
                have hren := renamed ho6 hn6 hx7 picks
                clear ho6 hn6
                clear hx7
                generalize renD D6 nw bN = D7 at *
                have HI8 := Lib.hid (HI7.out.sdirD)
                have C8 := Lib.hid (fun L' w' (h : Stand W p L' D7 w') => h.sdir HI7.out (by omega))
                by_cases hx8 : sdirE D7 = 0
                · obtain ⟨-, hal⟩ := hren
                  obtain ⟨hre, hrv⟩ := hal hx8
                  rw [hx8] at C8
                  have HRE := Lib.hid (And.intro hre hrv)
                  have HIX := Lib.hid HI8.out
                  clear hre hrv hx8 hal
                  generalize sdirD D7 = DX at *
                  go_wp2_with (first
                    | (go_at_call 19; refine (C0.out _ S.out).mono ?_; rintro e w0 ⟨rfl, L0, S0', -, -⟩; have S0 := Lib.hid S0'; clear S0' S)
                    | (go_at_call 22; refine (CR0.out _ _ S0.out).mono ?_; rintro e wq ⟨aoq, capq, rfl, hcapq, hhq, Sq', -⟩; have Sq := Lib.hid Sq'; have HHq := Lib.hid hhq; clear Sq' hhq S0)
                    | (go_at_call 24; refine (C1.out _ _ Sq.out).mono ?_; rintro e w1 ⟨rfl, L1, S1', hk1, hn1⟩; have S1 := Lib.hid S1'; have HH1 := Lib.hid (HHq.out.keep hk1 hn1); clear S1' hk1 hn1 Sq HHq)
                    | (go_at_call 21; refine (C2.out _ _ S1.out).mono ?_; rintro e w2 ⟨rfl, L2, S2', hk2, hn2⟩; have S2 := Lib.hid S2'; have HH2 := Lib.hid (HH1.out.keep hk2 hn2); clear S2' hk2 hn2 S1 HH1)
                    | (go_at_call 18; refine (C3.out _ _ S2.out).mono ?_; rintro e w3 ⟨rfl, L3, S3', hk3, hn3⟩; have S3 := Lib.hid S3'; have HH3 := Lib.hid (HH2.out.keep hk3 hn3); clear S3' hk3 hn3 S2 HH2))
                  go_wp2_with (first
                    | (go_at_call 21; refine (C8.out _ _ S7.out).mono ?_; rintro e w8 ⟨rfl, L8, S8', hk8, hn8⟩; have S8 := Lib.hid S8'; have HH8 := Lib.hid (HH7.out.keep hk8 hn8); clear S8' hk8 hn8 S7 HH7)
                    | (go_at_call 27; refine (C7.out _ _ S6.out).mono ?_; rintro e w7 ⟨rfl, L7, S7', hk7, hn7⟩; have S7 := Lib.hid S7'; have HH7 := Lib.hid (HH6.out.keep hk7 hn7); clear S7' hk7 hn7 S6 HH6)
                    | (go_at_call 20; refine (C6.out _ _ S5.out).mono ?_; rintro e w6 ⟨rfl, L6, S6', hk6, hn6⟩; have S6 := Lib.hid S6'; have HH6 := Lib.hid (HH5.out.keep hk6 hn6); clear S6' hk6 hn6 S5 HH5)
                    | (go_at_call 26; refine (C5.out _ _ S4.out).mono ?_; rintro e w5 ⟨rfl, L5, S5', hk5, hn5⟩; have S5 := Lib.hid S5'; have HH5 := Lib.hid (HH4.out.keep hk5 hn5); clear S5' hk5 hn5 S4 HH4)
                    | (go_at_call 25; refine (C4.out _ _ S3.out).mono ?_; rintro e w4 ⟨rfl, L4, S4', hk4, hn4⟩; have S4 := Lib.hid S4'; have HH4 := Lib.hid (HH3.out.keep hk4 hn4); clear S4' hk4 hn4 S3 HH3))
                  obtain ⟨hre, hrv⟩ := HRE.out
                  have HIC := Lib.hid (HIX.out.crashD picks)
                  have CC := Lib.hid (fun L' w' (h : Stand W p L' DX w') => h.crashN (picks := picks) HIX.out (by omega) HU.out)
                  have CR := Lib.hid (fun L' w' (h : Stand W p L' (crashD DX picks) w') => h.read (a := bN) HIC.out (by omega) (by decide))
                  rw [hre, hrv] at CR
                  clear hre hrv
                  generalize crashD DX picks = DC at *
                  rw [HBL.out] at CR
                  go_wp2_with (first
                    | (go_at_call 19; refine (CC.out _ _ S8.out).mono ?_; rintro e wc ⟨rfl, Lc, Sc', hkc, hnc⟩; have Sc := Lib.hid Sc'; have HHc := Lib.hid (HH8.out.keep hkc hnc); clear Sc' hkc hnc S8 HH8)
                    | (go_at_call 22; refine (CR.out _ _ Sc.out).mono ?_; rintro e wr9 ⟨ao9, cap9, rfl, hcap9, hh9, S9', hb9⟩; have S9 := Lib.hid S9'; have HN := Lib.hid hh9; have HW := Lib.hid (HHc.out.ext hb9); clear S9' hh9 hb9))
                  have HBB := Lib.hid (HB.out.ext S9.out.below)
                  have CB1 := Lib.hid (fun w' (h : Below wr9.heap.size wr9 w') => rbytes_any _ _ _ _ w' (HN.out.ext h).bytes (HW.out.ext h).bytes)
                  have CB2 := Lib.hid (fun w' (h : Below wr9.heap.size wr9 w') => rbytes_any _ _ _ _ w' (HN.out.ext h).bytes (HBB.out.ext h))
                  have q1 : (b == b) = true := by simp
                  rw [q1] at CB2
                  clear q1
                  go_wp2
                  refine wp_region_held_drew (S := fun _ => True) (by kernel_rfl) trivial (fun hHeld => ?_)
                  refine wpAnyH_take (i := 0) (v := ?_) rfl (by kernel_rfl) (by kernel_rfl) (by kernel_rfl) (fun _ _ _ h => h) (Or.inl ⟨by rfl, ?_⟩) trivial ?_
                  rotate_left
                  · (intro w hSw; (try dsimp only at hSw); go_simp; try with_reducible rfl)
                  try simp only [List.getElem_toArray, List.getElem_cons_zero, List.getElem_cons_succ, Act.put, List.setIfInBounds_toArray, List.set_cons_zero, List.set_cons_succ]
                  refine wpAnyH_take (i := 1) (v := ?_) rfl (by kernel_rfl) (by kernel_rfl) (by kernel_rfl) (fun _ _ _ h => h) (Or.inl ⟨by rfl, ?_⟩) trivial ?_
                  rotate_left
                  · (intro w hSw; (try dsimp only at hSw); go_simp; try with_reducible rfl)
                  try simp only [List.getElem_toArray, List.getElem_cons_zero, List.getElem_cons_succ, Act.put, List.setIfInBounds_toArray, List.set_cons_zero, List.set_cons_succ]
                  refine wpAnyH_take (i := 2) (v := ?_) rfl (by kernel_rfl) (by kernel_rfl) (by kernel_rfl) (fun _ _ _ h => h) (Or.inl ⟨by rfl, ?_⟩) trivial ?_
                  rotate_left
                  · (intro w hSw; (try dsimp only at hSw); go_simp; try with_reducible rfl)
                  try simp only [List.getElem_toArray, List.getElem_cons_zero, List.getElem_cons_succ, Act.put, List.setIfInBounds_toArray, List.set_cons_zero, List.set_cons_succ]
                  refine wpAnyH_take (i := 3) (v := ?_) rfl (by kernel_rfl) (by kernel_rfl) (by kernel_rfl) (fun _ _ _ h => h) (Or.inl ⟨by rfl, ?_⟩) trivial ?_
                  rotate_left
                  · (intro w hSw; (try dsimp only at hSw); go_simp; try with_reducible rfl)
                  try simp only [List.getElem_toArray, List.getElem_cons_zero, List.getElem_cons_succ, Act.put, List.setIfInBounds_toArray, List.set_cons_zero, List.set_cons_succ]
                  refine wpAnyH_take (i := 4) (v := ?_) rfl (by kernel_rfl) (by kernel_rfl) (by kernel_rfl) (fun _ _ _ h => h) (Or.inl ⟨by rfl, ?_⟩) trivial ?_
                  rotate_left
                  · (intro w hSw; (try dsimp only at hSw); go_simp; try with_reducible rfl)
                  try simp only [List.getElem_toArray, List.getElem_cons_zero, List.getElem_cons_succ, Act.put, List.setIfInBounds_toArray, List.set_cons_zero, List.set_cons_succ]
                  refine wpAnyH_take (i := 5) (v := ?_) rfl (by kernel_rfl) (by kernel_rfl) (by kernel_rfl) (fun _ _ _ h => h) (Or.inl ⟨by rfl, ?_⟩) trivial ?_
                  rotate_left
                  · (intro w hSw; (try dsimp only at hSw); go_simp; try with_reducible rfl)
                  try simp only [List.getElem_toArray, List.getElem_cons_zero, List.getElem_cons_succ, Act.put, List.setIfInBounds_toArray, List.set_cons_zero, List.set_cons_succ]
                  refine wpAnyH_take (i := 6) (v := undef) rfl (by kernel_rfl) (by kernel_rfl) (by kernel_rfl) (fun _ _ _ h => h) (Or.inr ⟨by rfl, rfl⟩) trivial ?_
                  try simp only [List.getElem_toArray, List.getElem_cons_zero, List.getElem_cons_succ, Act.put, List.setIfInBounds_toArray, List.set_cons_zero, List.set_cons_succ]
                  refine wpAnyH_take (i := 7) (v := undef) rfl (by kernel_rfl) (by kernel_rfl) (by kernel_rfl) (fun _ _ _ h => h) (Or.inr ⟨by rfl, rfl⟩) trivial ?_
                  try simp only [List.getElem_toArray, List.getElem_cons_zero, List.getElem_cons_succ, Act.put, List.setIfInBounds_toArray, List.set_cons_zero, List.set_cons_succ]
                  refine wpAnyH_take (i := 8) (v := undef) rfl (by kernel_rfl) (by kernel_rfl) (by kernel_rfl) (fun _ _ _ h => h) (Or.inr ⟨by rfl, rfl⟩) trivial ?_
                  try simp only [List.getElem_toArray, List.getElem_cons_zero, List.getElem_cons_succ, Act.put, List.setIfInBounds_toArray, List.set_cons_zero, List.set_cons_succ]
                  refine wpAnyH_take (i := 9) (v := ?_) rfl (by kernel_rfl) (by kernel_rfl) (by kernel_rfl) (fun _ _ _ h => h) (Or.inl ⟨by rfl, ?_⟩) trivial ?_
                  rotate_left
                  · (intro w hSw; (try dsimp only at hSw); go_simp; try with_reducible rfl)
                  try simp only [List.getElem_toArray, List.getElem_cons_zero, List.getElem_cons_succ, Act.put, List.setIfInBounds_toArray, List.set_cons_zero, List.set_cons_succ]
                  refine wpAnyH_take (i := 10) (v := ?_) rfl (by kernel_rfl) (by kernel_rfl) (by kernel_rfl) (fun _ _ _ h => h) (Or.inl ⟨by rfl, ?_⟩) trivial ?_
                  rotate_left
                  · (intro w hSw; (try dsimp only at hSw); go_simp; try with_reducible rfl)
                  try simp only [List.getElem_toArray, List.getElem_cons_zero, List.getElem_cons_succ, Act.put, List.setIfInBounds_toArray, List.set_cons_zero, List.set_cons_succ]
                  refine wpAnyH_done (by kernel_rfl) ?_ _
                  all_goals (go_wp2_with (first | (go_at_call 23; refine (CB2.out _ (by go_grown)).mono ?_; rintro e w' ⟨rfl, rfl⟩) | (go_at_call 8; refine (CF.out _ (S9.out.ext (by go_grown)).below).mono ?_; rintro e wd ⟨rfl, hbd⟩)); go_returns; exact ⟨by first | rfl | (simp; done), (S9.out.ext (ext (by go_grown) hbd)).below⟩)
                · have q0 := err_ne hx8
                  obtain ⟨hei, -⟩ := hren
                  have HIX := Lib.hid HI8.out
                  have HEI := Lib.hid hei
                  clear hei
                  generalize sdirE D7 = xq at *
                  generalize sdirD D7 = DX at *
                  go_wp2_with (first
                    | (go_at_call 19; refine (C0.out _ S.out).mono ?_; rintro e w0 ⟨rfl, L0, S0', -, -⟩; have S0 := Lib.hid S0'; clear S0' S)
                    | (go_at_call 22; refine (CR0.out _ _ S0.out).mono ?_; rintro e wq ⟨aoq, capq, rfl, hcapq, hhq, Sq', -⟩; have Sq := Lib.hid Sq'; have HHq := Lib.hid hhq; clear Sq' hhq S0)
                    | (go_at_call 24; refine (C1.out _ _ Sq.out).mono ?_; rintro e w1 ⟨rfl, L1, S1', hk1, hn1⟩; have S1 := Lib.hid S1'; have HH1 := Lib.hid (HHq.out.keep hk1 hn1); clear S1' hk1 hn1 Sq HHq)
                    | (go_at_call 21; refine (C2.out _ _ S1.out).mono ?_; rintro e w2 ⟨rfl, L2, S2', hk2, hn2⟩; have S2 := Lib.hid S2'; have HH2 := Lib.hid (HH1.out.keep hk2 hn2); clear S2' hk2 hn2 S1 HH1)
                    | (go_at_call 18; refine (C3.out _ _ S2.out).mono ?_; rintro e w3 ⟨rfl, L3, S3', hk3, hn3⟩; have S3 := Lib.hid S3'; have HH3 := Lib.hid (HH2.out.keep hk3 hn3); clear S3' hk3 hn3 S2 HH2))
                  go_wp2_with (first
                    | (go_at_call 21; refine (C8.out _ _ S7.out).mono ?_; rintro e w8 ⟨rfl, L8, S8', hk8, hn8⟩; have S8 := Lib.hid S8'; have HH8 := Lib.hid (HH7.out.keep hk8 hn8); clear S8' hk8 hn8 S7 HH7)
                    | (go_at_call 27; refine (C7.out _ _ S6.out).mono ?_; rintro e w7 ⟨rfl, L7, S7', hk7, hn7⟩; have S7 := Lib.hid S7'; have HH7 := Lib.hid (HH6.out.keep hk7 hn7); clear S7' hk7 hn7 S6 HH6)
                    | (go_at_call 20; refine (C6.out _ _ S5.out).mono ?_; rintro e w6 ⟨rfl, L6, S6', hk6, hn6⟩; have S6 := Lib.hid S6'; have HH6 := Lib.hid (HH5.out.keep hk6 hn6); clear S6' hk6 hn6 S5 HH5)
                    | (go_at_call 26; refine (C5.out _ _ S4.out).mono ?_; rintro e w5 ⟨rfl, L5, S5', hk5, hn5⟩; have S5 := Lib.hid S5'; have HH5 := Lib.hid (HH4.out.keep hk5 hn5); clear S5' hk5 hn5 S4 HH4)
                    | (go_at_call 25; refine (C4.out _ _ S3.out).mono ?_; rintro e w4 ⟨rfl, L4, S4', hk4, hn4⟩; have S4 := Lib.hid S4'; have HH4 := Lib.hid (HH3.out.keep hk4 hn4); clear S4' hk4 hn4 S3 HH3))
                  rcases HEI.out with ⟨hre, hrv⟩ | ⟨hre, hrv⟩
                  · have HIC := Lib.hid (HIX.out.crashD picks)
                    have CC := Lib.hid (fun L' w' (h : Stand W p L' DX w') => h.crashN (picks := picks) HIX.out (by omega) HU.out)
                    have CR := Lib.hid (fun L' w' (h : Stand W p L' (crashD DX picks) w') => h.read (a := bN) HIC.out (by omega) (by decide))
                    rw [hre, hrv] at CR
                    clear hre hrv
                    generalize crashD DX picks = DC at *
                    rw [HBL.out] at CR
                    go_wp2_with (first
                      | (go_at_call 19; refine (CC.out _ _ S8.out).mono ?_; rintro e wc ⟨rfl, Lc, Sc', hkc, hnc⟩; have Sc := Lib.hid Sc'; have HHc := Lib.hid (HH8.out.keep hkc hnc); clear Sc' hkc hnc S8 HH8)
                      | (go_at_call 22; refine (CR.out _ _ Sc.out).mono ?_; rintro e wr9 ⟨ao9, cap9, rfl, hcap9, hh9, S9', hb9⟩; have S9 := Lib.hid S9'; have HN := Lib.hid hh9; have HW := Lib.hid (HHc.out.ext hb9); clear S9' hh9 hb9))
                    have HBB := Lib.hid (HB.out.ext S9.out.below)
                    have CB1 := Lib.hid (fun w' (h : Below wr9.heap.size wr9 w') => rbytes_any _ _ _ _ w' (HN.out.ext h).bytes (HW.out.ext h).bytes)
                    have CB2 := Lib.hid (fun w' (h : Below wr9.heap.size wr9 w') => rbytes_any _ _ _ _ w' (HN.out.ext h).bytes (HBB.out.ext h))
                    have q1 : (b == b) = true := by simp
                    rw [q1] at CB2
                    clear q1
                    go_wp2
                    refine wp_region_held_drew (S := fun _ => True) (by kernel_rfl) trivial (fun hHeld => ?_)
                    refine wpAnyH_take (i := 0) (v := ?_) rfl (by kernel_rfl) (by kernel_rfl) (by kernel_rfl) (fun _ _ _ h => h) (Or.inl ⟨by rfl, ?_⟩) trivial ?_
                    rotate_left
                    · (intro w hSw; (try dsimp only at hSw); go_simp; try with_reducible rfl)
                    try simp only [List.getElem_toArray, List.getElem_cons_zero, List.getElem_cons_succ, Act.put, List.setIfInBounds_toArray, List.set_cons_zero, List.set_cons_succ]
                    refine wpAnyH_take (i := 1) (v := ?_) rfl (by kernel_rfl) (by kernel_rfl) (by kernel_rfl) (fun _ _ _ h => h) (Or.inl ⟨by rfl, ?_⟩) trivial ?_
                    rotate_left
                    · (intro w hSw; (try dsimp only at hSw); go_simp; try with_reducible rfl)
                    try simp only [List.getElem_toArray, List.getElem_cons_zero, List.getElem_cons_succ, Act.put, List.setIfInBounds_toArray, List.set_cons_zero, List.set_cons_succ]
                    refine wpAnyH_take (i := 2) (v := ?_) rfl (by kernel_rfl) (by kernel_rfl) (by kernel_rfl) (fun _ _ _ h => h) (Or.inl ⟨by rfl, ?_⟩) trivial ?_
                    rotate_left
                    · (intro w hSw; (try dsimp only at hSw); go_simp; try with_reducible rfl)
                    try simp only [List.getElem_toArray, List.getElem_cons_zero, List.getElem_cons_succ, Act.put, List.setIfInBounds_toArray, List.set_cons_zero, List.set_cons_succ]
                    refine wpAnyH_take (i := 3) (v := ?_) rfl (by kernel_rfl) (by kernel_rfl) (by kernel_rfl) (fun _ _ _ h => h) (Or.inl ⟨by rfl, ?_⟩) trivial ?_
                    rotate_left
                    · (intro w hSw; (try dsimp only at hSw); go_simp; try with_reducible rfl)
                    try simp only [List.getElem_toArray, List.getElem_cons_zero, List.getElem_cons_succ, Act.put, List.setIfInBounds_toArray, List.set_cons_zero, List.set_cons_succ]
                    refine wpAnyH_take (i := 4) (v := ?_) rfl (by kernel_rfl) (by kernel_rfl) (by kernel_rfl) (fun _ _ _ h => h) (Or.inl ⟨by rfl, ?_⟩) trivial ?_
                    rotate_left
                    · (intro w hSw; (try dsimp only at hSw); go_simp; try with_reducible rfl)
                    try simp only [List.getElem_toArray, List.getElem_cons_zero, List.getElem_cons_succ, Act.put, List.setIfInBounds_toArray, List.set_cons_zero, List.set_cons_succ]
                    refine wpAnyH_take (i := 5) (v := ?_) rfl (by kernel_rfl) (by kernel_rfl) (by kernel_rfl) (fun _ _ _ h => h) (Or.inl ⟨by rfl, ?_⟩) trivial ?_
                    rotate_left
                    · (intro w hSw; (try dsimp only at hSw); go_simp; try with_reducible rfl)
                    try simp only [List.getElem_toArray, List.getElem_cons_zero, List.getElem_cons_succ, Act.put, List.setIfInBounds_toArray, List.set_cons_zero, List.set_cons_succ]
                    refine wpAnyH_take (i := 6) (v := undef) rfl (by kernel_rfl) (by kernel_rfl) (by kernel_rfl) (fun _ _ _ h => h) (Or.inr ⟨by rfl, rfl⟩) trivial ?_
                    try simp only [List.getElem_toArray, List.getElem_cons_zero, List.getElem_cons_succ, Act.put, List.setIfInBounds_toArray, List.set_cons_zero, List.set_cons_succ]
                    refine wpAnyH_take (i := 7) (v := undef) rfl (by kernel_rfl) (by kernel_rfl) (by kernel_rfl) (fun _ _ _ h => h) (Or.inr ⟨by rfl, rfl⟩) trivial ?_
                    try simp only [List.getElem_toArray, List.getElem_cons_zero, List.getElem_cons_succ, Act.put, List.setIfInBounds_toArray, List.set_cons_zero, List.set_cons_succ]
                    refine wpAnyH_take (i := 8) (v := undef) rfl (by kernel_rfl) (by kernel_rfl) (by kernel_rfl) (fun _ _ _ h => h) (Or.inr ⟨by rfl, rfl⟩) trivial ?_
                    try simp only [List.getElem_toArray, List.getElem_cons_zero, List.getElem_cons_succ, Act.put, List.setIfInBounds_toArray, List.set_cons_zero, List.set_cons_succ]
                    refine wpAnyH_take (i := 9) (v := ?_) rfl (by kernel_rfl) (by kernel_rfl) (by kernel_rfl) (fun _ _ _ h => h) (Or.inl ⟨by rfl, ?_⟩) trivial ?_
                    rotate_left
                    · (intro w hSw; (try dsimp only at hSw); go_simp; try with_reducible rfl)
                    try simp only [List.getElem_toArray, List.getElem_cons_zero, List.getElem_cons_succ, Act.put, List.setIfInBounds_toArray, List.set_cons_zero, List.set_cons_succ]
                    refine wpAnyH_take (i := 10) (v := ?_) rfl (by kernel_rfl) (by kernel_rfl) (by kernel_rfl) (fun _ _ _ h => h) (Or.inl ⟨by rfl, ?_⟩) trivial ?_
                    rotate_left
                    · (intro w hSw; (try dsimp only at hSw); go_simp; try with_reducible rfl)
                    try simp only [List.getElem_toArray, List.getElem_cons_zero, List.getElem_cons_succ, Act.put, List.setIfInBounds_toArray, List.set_cons_zero, List.set_cons_succ]
                    refine wpAnyH_done (by kernel_rfl) ?_ _
                    all_goals (go_wp2_with (first | (go_at_call 23; refine (CB2.out _ (by go_grown)).mono ?_; rintro e w' ⟨rfl, rfl⟩) | (go_at_call 8; refine (CF.out _ (S9.out.ext (by go_grown)).below).mono ?_; rintro e wd ⟨rfl, hbd⟩)); go_returns; exact ⟨by first | rfl | (simp; done), (S9.out.ext (ext (by go_grown) hbd)).below⟩)
                  · have hre : readE (crashD DX picks) bN = 7 := hre
                    have hrv : readV (crashD DX picks) bN = ([] : Bs) := hrv
                    have HIC := Lib.hid (HIX.out.crashD picks)
                    have CC := Lib.hid (fun L' w' (h : Stand W p L' DX w') => h.crashN (picks := picks) HIX.out (by omega) HU.out)
                    have CR := Lib.hid (fun L' w' (h : Stand W p L' (crashD DX picks) w') => h.read (a := bN) HIC.out (by omega) (by decide))
                    rw [hre, hrv] at CR
                    clear hre hrv
                    generalize crashD DX picks = DC at *
                    go_wp2_with (first
                      | (go_at_call 19; refine (CC.out _ _ S8.out).mono ?_; rintro e wc ⟨rfl, Lc, Sc', hkc, hnc⟩; have Sc := Lib.hid Sc'; have HHc := Lib.hid (HH8.out.keep hkc hnc); clear Sc' hkc hnc S8 HH8)
                      | (go_at_call 22; refine (CR.out _ _ Sc.out).mono ?_; rintro e wr9 ⟨ao9, cap9, rfl, hcap9, hh9, S9', hb9⟩; have S9 := Lib.hid S9'; have HN := Lib.hid hh9; have HW := Lib.hid (HHc.out.ext hb9); clear S9' hh9 hb9))
                    have HBB := Lib.hid (HB.out.ext S9.out.below)
                    have CB1 := Lib.hid (fun w' (h : Below wr9.heap.size wr9 w') => rbytes_any _ _ _ _ w' (HN.out.ext h).bytes (HW.out.ext h).bytes)
                    have CB2 := Lib.hid (fun w' (h : Below wr9.heap.size wr9 w') => rbytes_any _ _ _ _ w' (HN.out.ext h).bytes (HBB.out.ext h))
                    have q1 : (([] : Bs) == ([] : Bs)) = true := by simp
                    rw [q1] at CB1
                    clear q1
                    go_wp2
                    go_region_held3 (fun w' => True) (trivial) (first | (go_at_call 23; refine (CB1.out _ (by go_grown)).mono ?_; rintro e w' ⟨rfl, rfl⟩))
                    all_goals (go_wp2_with (first | (go_at_call 23; refine (CB2.out _ (by go_grown)).mono ?_; rintro e w' ⟨rfl, rfl⟩) | (go_at_call 8; refine (CF.out _ (S9.out.ext (by go_grown)).below).mono ?_; rintro e wd ⟨rfl, hbd⟩)); go_returns; exact ⟨by first | rfl | (simp; done), (S9.out.ext (ext (by go_grown) hbd)).below⟩)
              · have q0 := err_ne hx7
                have ho7 := old_rename ho6 hx7
                have hre : readE (crashD (renD D6 nw bN) picks) bN = 7 := (ho7.read picks).1
                have hrv : readV (crashD (renD D6 nw bN) picks) bN = ([] : Bs) := (ho7.read picks).2
                have HIX := Lib.hid HI7.out
                have HRE := Lib.hid (And.intro hre hrv)
                clear hre hrv
                generalize renE D6 nw bN = xq at *
                generalize renD D6 nw bN = DX at *
                go_wp2_with (first
                  | (go_at_call 19; refine (C0.out _ S.out).mono ?_; rintro e w0 ⟨rfl, L0, S0', -, -⟩; have S0 := Lib.hid S0'; clear S0' S)
                  | (go_at_call 22; refine (CR0.out _ _ S0.out).mono ?_; rintro e wq ⟨aoq, capq, rfl, hcapq, hhq, Sq', -⟩; have Sq := Lib.hid Sq'; have HHq := Lib.hid hhq; clear Sq' hhq S0)
                  | (go_at_call 24; refine (C1.out _ _ Sq.out).mono ?_; rintro e w1 ⟨rfl, L1, S1', hk1, hn1⟩; have S1 := Lib.hid S1'; have HH1 := Lib.hid (HHq.out.keep hk1 hn1); clear S1' hk1 hn1 Sq HHq)
                  | (go_at_call 21; refine (C2.out _ _ S1.out).mono ?_; rintro e w2 ⟨rfl, L2, S2', hk2, hn2⟩; have S2 := Lib.hid S2'; have HH2 := Lib.hid (HH1.out.keep hk2 hn2); clear S2' hk2 hn2 S1 HH1)
                  | (go_at_call 18; refine (C3.out _ _ S2.out).mono ?_; rintro e w3 ⟨rfl, L3, S3', hk3, hn3⟩; have S3 := Lib.hid S3'; have HH3 := Lib.hid (HH2.out.keep hk3 hn3); clear S3' hk3 hn3 S2 HH2))
                go_wp2_with (first
                  | (go_at_call 27; refine (C7.out _ _ S6.out).mono ?_; rintro e w7 ⟨rfl, L7, S7', hk7, hn7⟩; have S7 := Lib.hid S7'; have HH7 := Lib.hid (HH6.out.keep hk7 hn7); clear S7' hk7 hn7 S6 HH6)
                  | (go_at_call 20; refine (C6.out _ _ S5.out).mono ?_; rintro e w6 ⟨rfl, L6, S6', hk6, hn6⟩; have S6 := Lib.hid S6'; have HH6 := Lib.hid (HH5.out.keep hk6 hn6); clear S6' hk6 hn6 S5 HH5)
                  | (go_at_call 26; refine (C5.out _ _ S4.out).mono ?_; rintro e w5 ⟨rfl, L5, S5', hk5, hn5⟩; have S5 := Lib.hid S5'; have HH5 := Lib.hid (HH4.out.keep hk5 hn5); clear S5' hk5 hn5 S4 HH4)
                  | (go_at_call 25; refine (C4.out _ _ S3.out).mono ?_; rintro e w4 ⟨rfl, L4, S4', hk4, hn4⟩; have S4 := Lib.hid S4'; have HH4 := Lib.hid (HH3.out.keep hk4 hn4); clear S4' hk4 hn4 S3 HH3))
                obtain ⟨hre, hrv⟩ := HRE.out
                have HIC := Lib.hid (HIX.out.crashD picks)
                have CC := Lib.hid (fun L' w' (h : Stand W p L' DX w') => h.crashN (picks := picks) HIX.out (by omega) HU.out)
                have CR := Lib.hid (fun L' w' (h : Stand W p L' (crashD DX picks) w') => h.read (a := bN) HIC.out (by omega) (by decide))
                rw [hre, hrv] at CR
                clear hre hrv
                generalize crashD DX picks = DC at *
                go_wp2_with (first
                  | (go_at_call 19; refine (CC.out _ _ S7.out).mono ?_; rintro e wc ⟨rfl, Lc, Sc', hkc, hnc⟩; have Sc := Lib.hid Sc'; have HHc := Lib.hid (HH7.out.keep hkc hnc); clear Sc' hkc hnc S7 HH7)
                  | (go_at_call 22; refine (CR.out _ _ Sc.out).mono ?_; rintro e wr9 ⟨ao9, cap9, rfl, hcap9, hh9, S9', hb9⟩; have S9 := Lib.hid S9'; have HN := Lib.hid hh9; have HW := Lib.hid (HHc.out.ext hb9); clear S9' hh9 hb9))
                have HBB := Lib.hid (HB.out.ext S9.out.below)
                have CB1 := Lib.hid (fun w' (h : Below wr9.heap.size wr9 w') => rbytes_any _ _ _ _ w' (HN.out.ext h).bytes (HW.out.ext h).bytes)
                have CB2 := Lib.hid (fun w' (h : Below wr9.heap.size wr9 w') => rbytes_any _ _ _ _ w' (HN.out.ext h).bytes (HBB.out.ext h))
                have q1 : (([] : Bs) == ([] : Bs)) = true := by simp
                rw [q1] at CB1
                clear q1
                go_wp2
                go_region_held3 (fun w' => True) (trivial) (first | (go_at_call 23; refine (CB1.out _ (by go_grown)).mono ?_; rintro e w' ⟨rfl, rfl⟩))
                all_goals (go_wp2_with (first | (go_at_call 23; refine (CB2.out _ (by go_grown)).mono ?_; rintro e w' ⟨rfl, rfl⟩) | (go_at_call 8; refine (CF.out _ (S9.out.ext (by go_grown)).below).mono ?_; rintro e wd ⟨rfl, hbd⟩)); go_returns; exact ⟨by first | rfl | (simp; done), (S9.out.ext (ext (by go_grown) hbd)).below⟩)
            · have q0 := err_ne hx6
              have hre : readE (crashD (syncD D5 nw) picks) bN = 7 := (ho6.read picks).1
              have hrv : readV (crashD (syncD D5 nw) picks) bN = ([] : Bs) := (ho6.read picks).2
              have HIX := Lib.hid HI6.out
              have HRE := Lib.hid (And.intro hre hrv)
              clear hre hrv
              generalize syncE D5 nw = xq at *
              generalize syncD D5 nw = DX at *
              go_wp2_with (first
                | (go_at_call 19; refine (C0.out _ S.out).mono ?_; rintro e w0 ⟨rfl, L0, S0', -, -⟩; have S0 := Lib.hid S0'; clear S0' S)
                | (go_at_call 22; refine (CR0.out _ _ S0.out).mono ?_; rintro e wq ⟨aoq, capq, rfl, hcapq, hhq, Sq', -⟩; have Sq := Lib.hid Sq'; have HHq := Lib.hid hhq; clear Sq' hhq S0)
                | (go_at_call 24; refine (C1.out _ _ Sq.out).mono ?_; rintro e w1 ⟨rfl, L1, S1', hk1, hn1⟩; have S1 := Lib.hid S1'; have HH1 := Lib.hid (HHq.out.keep hk1 hn1); clear S1' hk1 hn1 Sq HHq)
                | (go_at_call 21; refine (C2.out _ _ S1.out).mono ?_; rintro e w2 ⟨rfl, L2, S2', hk2, hn2⟩; have S2 := Lib.hid S2'; have HH2 := Lib.hid (HH1.out.keep hk2 hn2); clear S2' hk2 hn2 S1 HH1)
                | (go_at_call 18; refine (C3.out _ _ S2.out).mono ?_; rintro e w3 ⟨rfl, L3, S3', hk3, hn3⟩; have S3 := Lib.hid S3'; have HH3 := Lib.hid (HH2.out.keep hk3 hn3); clear S3' hk3 hn3 S2 HH2))
              go_wp2_with (first
                | (go_at_call 20; refine (C6.out _ _ S5.out).mono ?_; rintro e w6 ⟨rfl, L6, S6', hk6, hn6⟩; have S6 := Lib.hid S6'; have HH6 := Lib.hid (HH5.out.keep hk6 hn6); clear S6' hk6 hn6 S5 HH5)
                | (go_at_call 26; refine (C5.out _ _ S4.out).mono ?_; rintro e w5 ⟨rfl, L5, S5', hk5, hn5⟩; have S5 := Lib.hid S5'; have HH5 := Lib.hid (HH4.out.keep hk5 hn5); clear S5' hk5 hn5 S4 HH4)
                | (go_at_call 25; refine (C4.out _ _ S3.out).mono ?_; rintro e w4 ⟨rfl, L4, S4', hk4, hn4⟩; have S4 := Lib.hid S4'; have HH4 := Lib.hid (HH3.out.keep hk4 hn4); clear S4' hk4 hn4 S3 HH3))
              obtain ⟨hre, hrv⟩ := HRE.out
              have HIC := Lib.hid (HIX.out.crashD picks)
              have CC := Lib.hid (fun L' w' (h : Stand W p L' DX w') => h.crashN (picks := picks) HIX.out (by omega) HU.out)
              have CR := Lib.hid (fun L' w' (h : Stand W p L' (crashD DX picks) w') => h.read (a := bN) HIC.out (by omega) (by decide))
              rw [hre, hrv] at CR
              clear hre hrv
              generalize crashD DX picks = DC at *
              go_wp2_with (first
                | (go_at_call 19; refine (CC.out _ _ S6.out).mono ?_; rintro e wc ⟨rfl, Lc, Sc', hkc, hnc⟩; have Sc := Lib.hid Sc'; have HHc := Lib.hid (HH6.out.keep hkc hnc); clear Sc' hkc hnc S6 HH6)
                | (go_at_call 22; refine (CR.out _ _ Sc.out).mono ?_; rintro e wr9 ⟨ao9, cap9, rfl, hcap9, hh9, S9', hb9⟩; have S9 := Lib.hid S9'; have HN := Lib.hid hh9; have HW := Lib.hid (HHc.out.ext hb9); clear S9' hh9 hb9))
              have HBB := Lib.hid (HB.out.ext S9.out.below)
              have CB1 := Lib.hid (fun w' (h : Below wr9.heap.size wr9 w') => rbytes_any _ _ _ _ w' (HN.out.ext h).bytes (HW.out.ext h).bytes)
              have CB2 := Lib.hid (fun w' (h : Below wr9.heap.size wr9 w') => rbytes_any _ _ _ _ w' (HN.out.ext h).bytes (HBB.out.ext h))
              have q1 : (([] : Bs) == ([] : Bs)) = true := by simp
              rw [q1] at CB1
              clear q1
              go_wp2
              go_region_held3 (fun w' => True) (trivial) (first | (go_at_call 23; refine (CB1.out _ (by go_grown)).mono ?_; rintro e w' ⟨rfl, rfl⟩))
              all_goals (go_wp2_with (first | (go_at_call 23; refine (CB2.out _ (by go_grown)).mono ?_; rintro e w' ⟨rfl, rfl⟩) | (go_at_call 8; refine (CF.out _ (S9.out.ext (by go_grown)).below).mono ?_; rintro e wd ⟨rfl, hbd⟩)); go_returns; exact ⟨by first | rfl | (simp; done), (S9.out.ext (ext (by go_grown) hbd)).below⟩)
          · have q0 := err_ne hx5
            have hre : readE (crashD (appD D4 nw b) picks) bN = 7 := (ho5.read picks).1
            have hrv : readV (crashD (appD D4 nw b) picks) bN = ([] : Bs) := (ho5.read picks).2
            have HIX := Lib.hid HI5.out
            have HRE := Lib.hid (And.intro hre hrv)
            clear hre hrv
            generalize appE D4 nw b = xq at *
            generalize appD D4 nw b = DX at *
            go_wp2_with (first
              | (go_at_call 19; refine (C0.out _ S.out).mono ?_; rintro e w0 ⟨rfl, L0, S0', -, -⟩; have S0 := Lib.hid S0'; clear S0' S)
              | (go_at_call 22; refine (CR0.out _ _ S0.out).mono ?_; rintro e wq ⟨aoq, capq, rfl, hcapq, hhq, Sq', -⟩; have Sq := Lib.hid Sq'; have HHq := Lib.hid hhq; clear Sq' hhq S0)
              | (go_at_call 24; refine (C1.out _ _ Sq.out).mono ?_; rintro e w1 ⟨rfl, L1, S1', hk1, hn1⟩; have S1 := Lib.hid S1'; have HH1 := Lib.hid (HHq.out.keep hk1 hn1); clear S1' hk1 hn1 Sq HHq)
              | (go_at_call 21; refine (C2.out _ _ S1.out).mono ?_; rintro e w2 ⟨rfl, L2, S2', hk2, hn2⟩; have S2 := Lib.hid S2'; have HH2 := Lib.hid (HH1.out.keep hk2 hn2); clear S2' hk2 hn2 S1 HH1)
              | (go_at_call 18; refine (C3.out _ _ S2.out).mono ?_; rintro e w3 ⟨rfl, L3, S3', hk3, hn3⟩; have S3 := Lib.hid S3'; have HH3 := Lib.hid (HH2.out.keep hk3 hn3); clear S3' hk3 hn3 S2 HH2))
            go_wp2_with (first
              | (go_at_call 26; refine (C5.out _ _ S4.out).mono ?_; rintro e w5 ⟨rfl, L5, S5', hk5, hn5⟩; have S5 := Lib.hid S5'; have HH5 := Lib.hid (HH4.out.keep hk5 hn5); clear S5' hk5 hn5 S4 HH4)
              | (go_at_call 25; refine (C4.out _ _ S3.out).mono ?_; rintro e w4 ⟨rfl, L4, S4', hk4, hn4⟩; have S4 := Lib.hid S4'; have HH4 := Lib.hid (HH3.out.keep hk4 hn4); clear S4' hk4 hn4 S3 HH3))
            obtain ⟨hre, hrv⟩ := HRE.out
            have HIC := Lib.hid (HIX.out.crashD picks)
            have CC := Lib.hid (fun L' w' (h : Stand W p L' DX w') => h.crashN (picks := picks) HIX.out (by omega) HU.out)
            have CR := Lib.hid (fun L' w' (h : Stand W p L' (crashD DX picks) w') => h.read (a := bN) HIC.out (by omega) (by decide))
            rw [hre, hrv] at CR
            clear hre hrv
            generalize crashD DX picks = DC at *
            go_wp2_with (first
              | (go_at_call 19; refine (CC.out _ _ S5.out).mono ?_; rintro e wc ⟨rfl, Lc, Sc', hkc, hnc⟩; have Sc := Lib.hid Sc'; have HHc := Lib.hid (HH5.out.keep hkc hnc); clear Sc' hkc hnc S5 HH5)
              | (go_at_call 22; refine (CR.out _ _ Sc.out).mono ?_; rintro e wr9 ⟨ao9, cap9, rfl, hcap9, hh9, S9', hb9⟩; have S9 := Lib.hid S9'; have HN := Lib.hid hh9; have HW := Lib.hid (HHc.out.ext hb9); clear S9' hh9 hb9))
            have HBB := Lib.hid (HB.out.ext S9.out.below)
            have CB1 := Lib.hid (fun w' (h : Below wr9.heap.size wr9 w') => rbytes_any _ _ _ _ w' (HN.out.ext h).bytes (HW.out.ext h).bytes)
            have CB2 := Lib.hid (fun w' (h : Below wr9.heap.size wr9 w') => rbytes_any _ _ _ _ w' (HN.out.ext h).bytes (HBB.out.ext h))
            have q1 : (([] : Bs) == ([] : Bs)) = true := by simp
            rw [q1] at CB1
            clear q1
            go_wp2
            go_region_held3 (fun w' => True) (trivial) (first | (go_at_call 23; refine (CB1.out _ (by go_grown)).mono ?_; rintro e w' ⟨rfl, rfl⟩))
            all_goals (go_wp2_with (first | (go_at_call 23; refine (CB2.out _ (by go_grown)).mono ?_; rintro e w' ⟨rfl, rfl⟩) | (go_at_call 8; refine (CF.out _ (S9.out.ext (by go_grown)).below).mono ?_; rintro e wd ⟨rfl, hbd⟩)); go_returns; exact ⟨by first | rfl | (simp; done), (S9.out.ext (ext (by go_grown) hbd)).below⟩)
        · have q0 := err_ne hx4
          have hre : readE (crashD (createD D3 nw) picks) bN = 7 := (ho4.read picks).1
          have hrv : readV (crashD (createD D3 nw) picks) bN = ([] : Bs) := (ho4.read picks).2
          have HIX := Lib.hid HI4.out
          have HRE := Lib.hid (And.intro hre hrv)
          clear hre hrv
          generalize goesE D3 (createE D3 nw) = xq at *
          generalize createD D3 nw = DX at *
          go_wp2_with (first
            | (go_at_call 19; refine (C0.out _ S.out).mono ?_; rintro e w0 ⟨rfl, L0, S0', -, -⟩; have S0 := Lib.hid S0'; clear S0' S)
            | (go_at_call 22; refine (CR0.out _ _ S0.out).mono ?_; rintro e wq ⟨aoq, capq, rfl, hcapq, hhq, Sq', -⟩; have Sq := Lib.hid Sq'; have HHq := Lib.hid hhq; clear Sq' hhq S0)
            | (go_at_call 24; refine (C1.out _ _ Sq.out).mono ?_; rintro e w1 ⟨rfl, L1, S1', hk1, hn1⟩; have S1 := Lib.hid S1'; have HH1 := Lib.hid (HHq.out.keep hk1 hn1); clear S1' hk1 hn1 Sq HHq)
            | (go_at_call 21; refine (C2.out _ _ S1.out).mono ?_; rintro e w2 ⟨rfl, L2, S2', hk2, hn2⟩; have S2 := Lib.hid S2'; have HH2 := Lib.hid (HH1.out.keep hk2 hn2); clear S2' hk2 hn2 S1 HH1)
            | (go_at_call 18; refine (C3.out _ _ S2.out).mono ?_; rintro e w3 ⟨rfl, L3, S3', hk3, hn3⟩; have S3 := Lib.hid S3'; have HH3 := Lib.hid (HH2.out.keep hk3 hn3); clear S3' hk3 hn3 S2 HH2))
          go_wp2_with (first
            | (go_at_call 25; refine (C4.out _ _ S3.out).mono ?_; rintro e w4 ⟨rfl, L4, S4', hk4, hn4⟩; have S4 := Lib.hid S4'; have HH4 := Lib.hid (HH3.out.keep hk4 hn4); clear S4' hk4 hn4 S3 HH3))
          obtain ⟨hre, hrv⟩ := HRE.out
          have HIC := Lib.hid (HIX.out.crashD picks)
          have CC := Lib.hid (fun L' w' (h : Stand W p L' DX w') => h.crashN (picks := picks) HIX.out (by omega) HU.out)
          have CR := Lib.hid (fun L' w' (h : Stand W p L' (crashD DX picks) w') => h.read (a := bN) HIC.out (by omega) (by decide))
          rw [hre, hrv] at CR
          clear hre hrv
          generalize crashD DX picks = DC at *
          go_wp2_with (first
            | (go_at_call 19; refine (CC.out _ _ S4.out).mono ?_; rintro e wc ⟨rfl, Lc, Sc', hkc, hnc⟩; have Sc := Lib.hid Sc'; have HHc := Lib.hid (HH4.out.keep hkc hnc); clear Sc' hkc hnc S4 HH4)
            | (go_at_call 22; refine (CR.out _ _ Sc.out).mono ?_; rintro e wr9 ⟨ao9, cap9, rfl, hcap9, hh9, S9', hb9⟩; have S9 := Lib.hid S9'; have HN := Lib.hid hh9; have HW := Lib.hid (HHc.out.ext hb9); clear S9' hh9 hb9))
          have HBB := Lib.hid (HB.out.ext S9.out.below)
          have CB1 := Lib.hid (fun w' (h : Below wr9.heap.size wr9 w') => rbytes_any _ _ _ _ w' (HN.out.ext h).bytes (HW.out.ext h).bytes)
          have CB2 := Lib.hid (fun w' (h : Below wr9.heap.size wr9 w') => rbytes_any _ _ _ _ w' (HN.out.ext h).bytes (HBB.out.ext h))
          have q1 : (([] : Bs) == ([] : Bs)) = true := by simp
          rw [q1] at CB1
          clear q1
          go_wp2
          go_region_held3 (fun w' => True) (trivial) (first | (go_at_call 23; refine (CB1.out _ (by go_grown)).mono ?_; rintro e w' ⟨rfl, rfl⟩))
          all_goals (go_wp2_with (first | (go_at_call 23; refine (CB2.out _ (by go_grown)).mono ?_; rintro e w' ⟨rfl, rfl⟩) | (go_at_call 8; refine (CF.out _ (S9.out.ext (by go_grown)).below).mono ?_; rintro e wd ⟨rfl, hbd⟩)); go_returns; exact ⟨by first | rfl | (simp; done), (S9.out.ext (ext (by go_grown) hbd)).below⟩)
      · rename_i fv
        have HWB : True := trivial
        rw [show oldE (some fv) = 0 from rfl] at CR0
        have HI4 := Lib.hid (HI3.out.createD nw)
        have C4 := Lib.hid (fun L' w' (h : Stand W p L' D3 w') => h.create (a := nw) HI3.out (by omega) (by decide))
        obtain ⟨ho4, hnew4⟩ := old_create HA3.out.1 HA3.out.2
        by_cases hx4 : goesE D3 (createE D3 nw) = 0
        · rw [hx4] at C4
          obtain ⟨nv, hn4⟩ := hnew4 hx4
          clear hx4 hnew4
          generalize createD D3 nw = D4 at *
          have HI5 := Lib.hid (HI4.out.appD nw b)
          have C5 := Lib.hid (fun L' w' (h : Stand W p L' D4 w') => h.append (a := nw) (b := b) HI4.out (by omega) (by decide) (HB.out.ext h.below))
          obtain ⟨ho5, hnew5⟩ := old_append ho4 hn4 b
          by_cases hx5 : appE D4 nw b = 0
          · rw [hx5] at C5
            have hn5 := hnew5 hx5
            clear hx5 hnew5 ho4 hn4
            generalize appD D4 nw b = D5 at *
            have HI6 := Lib.hid (HI5.out.syncD nw)
            have C6 := Lib.hid (fun L' w' (h : Stand W p L' D5 w') => h.sync (a := nw) HI5.out (by omega) (by decide))
            obtain ⟨ho6, hnew6⟩ := old_sync ho5 hn5
            by_cases hx6 : syncE D5 nw = 0
            · rw [hx6] at C6
              have hn6 := hnew6 hx6
              clear hx6 hnew6 ho5 hn5
              generalize syncD D5 nw = D6 at *
              have HI7 := Lib.hid (HI6.out.renD nw bN)
              have C7 := Lib.hid (fun L' w' (h : Stand W p L' D6 w') => h.rename (a := nw) (b := bN) HI6.out (by omega) (by decide) (by decide))
              by_cases hx7 : renE D6 nw bN = 0
              · rw [hx7] at C7
                have hren := renamed ho6 hn6 hx7 picks
                clear ho6 hn6
                clear hx7
                generalize renD D6 nw bN = D7 at *
                have HI8 := Lib.hid (HI7.out.sdirD)
                have C8 := Lib.hid (fun L' w' (h : Stand W p L' D7 w') => h.sdir HI7.out (by omega))
                by_cases hx8 : sdirE D7 = 0
                · obtain ⟨-, hal⟩ := hren
                  obtain ⟨hre, hrv⟩ := hal hx8
                  rw [hx8] at C8
                  have HRE := Lib.hid (And.intro hre hrv)
                  have HIX := Lib.hid HI8.out
                  clear hre hrv hx8 hal
                  generalize sdirD D7 = DX at *
                  go_wp2_with (first
                    | (go_at_call 19; refine (C0.out _ S.out).mono ?_; rintro e w0 ⟨rfl, L0, S0', -, -⟩; have S0 := Lib.hid S0'; clear S0' S)
                    | (go_at_call 22; refine (CR0.out _ _ S0.out).mono ?_; rintro e wq ⟨aoq, capq, rfl, hcapq, hhq, Sq', -⟩; have Sq := Lib.hid Sq'; have HHq := Lib.hid hhq; clear Sq' hhq S0)
                    | (go_at_call 24; refine (C1.out _ _ Sq.out).mono ?_; rintro e w1 ⟨rfl, L1, S1', hk1, hn1⟩; have S1 := Lib.hid S1'; have HH1 := Lib.hid (HHq.out.keep hk1 hn1); clear S1' hk1 hn1 Sq HHq)
                    | (go_at_call 21; refine (C2.out _ _ S1.out).mono ?_; rintro e w2 ⟨rfl, L2, S2', hk2, hn2⟩; have S2 := Lib.hid S2'; have HH2 := Lib.hid (HH1.out.keep hk2 hn2); clear S2' hk2 hn2 S1 HH1)
                    | (go_at_call 18; refine (C3.out _ _ S2.out).mono ?_; rintro e w3 ⟨rfl, L3, S3', hk3, hn3⟩; have S3 := Lib.hid S3'; have HH3 := Lib.hid (HH2.out.keep hk3 hn3); clear S3' hk3 hn3 S2 HH2))
                  go_wp2_with (first
                    | (go_at_call 21; refine (C8.out _ _ S7.out).mono ?_; rintro e w8 ⟨rfl, L8, S8', hk8, hn8⟩; have S8 := Lib.hid S8'; have HH8 := Lib.hid (HH7.out.keep hk8 hn8); clear S8' hk8 hn8 S7 HH7)
                    | (go_at_call 27; refine (C7.out _ _ S6.out).mono ?_; rintro e w7 ⟨rfl, L7, S7', hk7, hn7⟩; have S7 := Lib.hid S7'; have HH7 := Lib.hid (HH6.out.keep hk7 hn7); clear S7' hk7 hn7 S6 HH6)
                    | (go_at_call 20; refine (C6.out _ _ S5.out).mono ?_; rintro e w6 ⟨rfl, L6, S6', hk6, hn6⟩; have S6 := Lib.hid S6'; have HH6 := Lib.hid (HH5.out.keep hk6 hn6); clear S6' hk6 hn6 S5 HH5)
                    | (go_at_call 26; refine (C5.out _ _ S4.out).mono ?_; rintro e w5 ⟨rfl, L5, S5', hk5, hn5⟩; have S5 := Lib.hid S5'; have HH5 := Lib.hid (HH4.out.keep hk5 hn5); clear S5' hk5 hn5 S4 HH4)
                    | (go_at_call 25; refine (C4.out _ _ S3.out).mono ?_; rintro e w4 ⟨rfl, L4, S4', hk4, hn4⟩; have S4 := Lib.hid S4'; have HH4 := Lib.hid (HH3.out.keep hk4 hn4); clear S4' hk4 hn4 S3 HH3))
                  obtain ⟨hre, hrv⟩ := HRE.out
                  have HIC := Lib.hid (HIX.out.crashD picks)
                  have CC := Lib.hid (fun L' w' (h : Stand W p L' DX w') => h.crashN (picks := picks) HIX.out (by omega) HU.out)
                  have CR := Lib.hid (fun L' w' (h : Stand W p L' (crashD DX picks) w') => h.read (a := bN) HIC.out (by omega) (by decide))
                  rw [hre, hrv] at CR
                  clear hre hrv
                  generalize crashD DX picks = DC at *
                  rw [HBL.out] at CR
                  go_wp2_with (first
                    | (go_at_call 19; refine (CC.out _ _ S8.out).mono ?_; rintro e wc ⟨rfl, Lc, Sc', hkc, hnc⟩; have Sc := Lib.hid Sc'; have HHc := Lib.hid (HH8.out.keep hkc hnc); clear Sc' hkc hnc S8 HH8)
                    | (go_at_call 22; refine (CR.out _ _ Sc.out).mono ?_; rintro e wr9 ⟨ao9, cap9, rfl, hcap9, hh9, S9', hb9⟩; have S9 := Lib.hid S9'; have HN := Lib.hid hh9; have HW := Lib.hid (HHc.out.ext hb9); clear S9' hh9 hb9))
                  have HBB := Lib.hid (HB.out.ext S9.out.below)
                  have CB1 := Lib.hid (fun w' (h : Below wr9.heap.size wr9 w') => rbytes_any _ _ _ _ w' (HN.out.ext h).bytes (HW.out.ext h).bytes)
                  have CB2 := Lib.hid (fun w' (h : Below wr9.heap.size wr9 w') => rbytes_any _ _ _ _ w' (HN.out.ext h).bytes (HBB.out.ext h))
                  have q1 : (b == b) = true := by simp
                  rw [q1] at CB2
                  clear q1
                  generalize (b == was) = lt at *
                  cases lt <;> (
                  go_wp2;
                  go_region_held3 (fun w' => True) (trivial) (first | (go_at_call 23; refine (CB1.out _ (by go_grown)).mono ?_; rintro e w' ⟨rfl, rfl⟩));
                  all_goals (go_wp2_with (first | (go_at_call 23; refine (CB2.out _ (by go_grown)).mono ?_; rintro e w' ⟨rfl, rfl⟩) | (go_at_call 8; refine (CF.out _ (S9.out.ext (by go_grown)).below).mono ?_; rintro e wd ⟨rfl, hbd⟩)); go_returns; exact ⟨by first | rfl | (simp; done), (S9.out.ext (ext (by go_grown) hbd)).below⟩))
                · have q0 := err_ne hx8
                  obtain ⟨hei, -⟩ := hren
                  have HIX := Lib.hid HI8.out
                  have HEI := Lib.hid hei
                  clear hei
                  generalize sdirE D7 = xq at *
                  generalize sdirD D7 = DX at *
                  go_wp2_with (first
                    | (go_at_call 19; refine (C0.out _ S.out).mono ?_; rintro e w0 ⟨rfl, L0, S0', -, -⟩; have S0 := Lib.hid S0'; clear S0' S)
                    | (go_at_call 22; refine (CR0.out _ _ S0.out).mono ?_; rintro e wq ⟨aoq, capq, rfl, hcapq, hhq, Sq', -⟩; have Sq := Lib.hid Sq'; have HHq := Lib.hid hhq; clear Sq' hhq S0)
                    | (go_at_call 24; refine (C1.out _ _ Sq.out).mono ?_; rintro e w1 ⟨rfl, L1, S1', hk1, hn1⟩; have S1 := Lib.hid S1'; have HH1 := Lib.hid (HHq.out.keep hk1 hn1); clear S1' hk1 hn1 Sq HHq)
                    | (go_at_call 21; refine (C2.out _ _ S1.out).mono ?_; rintro e w2 ⟨rfl, L2, S2', hk2, hn2⟩; have S2 := Lib.hid S2'; have HH2 := Lib.hid (HH1.out.keep hk2 hn2); clear S2' hk2 hn2 S1 HH1)
                    | (go_at_call 18; refine (C3.out _ _ S2.out).mono ?_; rintro e w3 ⟨rfl, L3, S3', hk3, hn3⟩; have S3 := Lib.hid S3'; have HH3 := Lib.hid (HH2.out.keep hk3 hn3); clear S3' hk3 hn3 S2 HH2))
                  go_wp2_with (first
                    | (go_at_call 21; refine (C8.out _ _ S7.out).mono ?_; rintro e w8 ⟨rfl, L8, S8', hk8, hn8⟩; have S8 := Lib.hid S8'; have HH8 := Lib.hid (HH7.out.keep hk8 hn8); clear S8' hk8 hn8 S7 HH7)
                    | (go_at_call 27; refine (C7.out _ _ S6.out).mono ?_; rintro e w7 ⟨rfl, L7, S7', hk7, hn7⟩; have S7 := Lib.hid S7'; have HH7 := Lib.hid (HH6.out.keep hk7 hn7); clear S7' hk7 hn7 S6 HH6)
                    | (go_at_call 20; refine (C6.out _ _ S5.out).mono ?_; rintro e w6 ⟨rfl, L6, S6', hk6, hn6⟩; have S6 := Lib.hid S6'; have HH6 := Lib.hid (HH5.out.keep hk6 hn6); clear S6' hk6 hn6 S5 HH5)
                    | (go_at_call 26; refine (C5.out _ _ S4.out).mono ?_; rintro e w5 ⟨rfl, L5, S5', hk5, hn5⟩; have S5 := Lib.hid S5'; have HH5 := Lib.hid (HH4.out.keep hk5 hn5); clear S5' hk5 hn5 S4 HH4)
                    | (go_at_call 25; refine (C4.out _ _ S3.out).mono ?_; rintro e w4 ⟨rfl, L4, S4', hk4, hn4⟩; have S4 := Lib.hid S4'; have HH4 := Lib.hid (HH3.out.keep hk4 hn4); clear S4' hk4 hn4 S3 HH3))
                  rcases HEI.out with ⟨hre, hrv⟩ | ⟨hre, hrv⟩
                  · have HIC := Lib.hid (HIX.out.crashD picks)
                    have CC := Lib.hid (fun L' w' (h : Stand W p L' DX w') => h.crashN (picks := picks) HIX.out (by omega) HU.out)
                    have CR := Lib.hid (fun L' w' (h : Stand W p L' (crashD DX picks) w') => h.read (a := bN) HIC.out (by omega) (by decide))
                    rw [hre, hrv] at CR
                    clear hre hrv
                    generalize crashD DX picks = DC at *
                    rw [HBL.out] at CR
                    go_wp2_with (first
                      | (go_at_call 19; refine (CC.out _ _ S8.out).mono ?_; rintro e wc ⟨rfl, Lc, Sc', hkc, hnc⟩; have Sc := Lib.hid Sc'; have HHc := Lib.hid (HH8.out.keep hkc hnc); clear Sc' hkc hnc S8 HH8)
                      | (go_at_call 22; refine (CR.out _ _ Sc.out).mono ?_; rintro e wr9 ⟨ao9, cap9, rfl, hcap9, hh9, S9', hb9⟩; have S9 := Lib.hid S9'; have HN := Lib.hid hh9; have HW := Lib.hid (HHc.out.ext hb9); clear S9' hh9 hb9))
                    have HBB := Lib.hid (HB.out.ext S9.out.below)
                    have CB1 := Lib.hid (fun w' (h : Below wr9.heap.size wr9 w') => rbytes_any _ _ _ _ w' (HN.out.ext h).bytes (HW.out.ext h).bytes)
                    have CB2 := Lib.hid (fun w' (h : Below wr9.heap.size wr9 w') => rbytes_any _ _ _ _ w' (HN.out.ext h).bytes (HBB.out.ext h))
                    have q1 : (b == b) = true := by simp
                    rw [q1] at CB2
                    clear q1
                    generalize (b == was) = lt at *
                    cases lt <;> (
                    go_wp2;
                    go_region_held3 (fun w' => True) (trivial) (first | (go_at_call 23; refine (CB1.out _ (by go_grown)).mono ?_; rintro e w' ⟨rfl, rfl⟩));
                    all_goals (go_wp2_with (first | (go_at_call 23; refine (CB2.out _ (by go_grown)).mono ?_; rintro e w' ⟨rfl, rfl⟩) | (go_at_call 8; refine (CF.out _ (S9.out.ext (by go_grown)).below).mono ?_; rintro e wd ⟨rfl, hbd⟩)); go_returns; exact ⟨by first | rfl | (simp; done), (S9.out.ext (ext (by go_grown) hbd)).below⟩))
                  · have hre : readE (crashD DX picks) bN = 0 := hre
                    have hrv : readV (crashD DX picks) bN = was := hrv
                    have HIC := Lib.hid (HIX.out.crashD picks)
                    have CC := Lib.hid (fun L' w' (h : Stand W p L' DX w') => h.crashN (picks := picks) HIX.out (by omega) HU.out)
                    have CR := Lib.hid (fun L' w' (h : Stand W p L' (crashD DX picks) w') => h.read (a := bN) HIC.out (by omega) (by decide))
                    rw [hre, hrv] at CR
                    clear hre hrv
                    generalize crashD DX picks = DC at *
                    rw [HWL.out] at CR
                    go_wp2_with (first
                      | (go_at_call 19; refine (CC.out _ _ S8.out).mono ?_; rintro e wc ⟨rfl, Lc, Sc', hkc, hnc⟩; have Sc := Lib.hid Sc'; have HHc := Lib.hid (HH8.out.keep hkc hnc); clear Sc' hkc hnc S8 HH8)
                      | (go_at_call 22; refine (CR.out _ _ Sc.out).mono ?_; rintro e wr9 ⟨ao9, cap9, rfl, hcap9, hh9, S9', hb9⟩; have S9 := Lib.hid S9'; have HN := Lib.hid hh9; have HW := Lib.hid (HHc.out.ext hb9); clear S9' hh9 hb9))
                    have HBB := Lib.hid (HB.out.ext S9.out.below)
                    have CB1 := Lib.hid (fun w' (h : Below wr9.heap.size wr9 w') => rbytes_any _ _ _ _ w' (HN.out.ext h).bytes (HW.out.ext h).bytes)
                    have CB2 := Lib.hid (fun w' (h : Below wr9.heap.size wr9 w') => rbytes_any _ _ _ _ w' (HN.out.ext h).bytes (HBB.out.ext h))
                    have q1 : (was == was) = true := by simp
                    rw [q1] at CB1
                    clear q1
                    generalize (was == b) = lt at *
                    cases lt <;> (
                    go_wp2;
                    go_region_held3 (fun w' => True) (trivial) (first | (go_at_call 23; refine (CB1.out _ (by go_grown)).mono ?_; rintro e w' ⟨rfl, rfl⟩));
                    all_goals (go_wp2_with (first | (go_at_call 23; refine (CB2.out _ (by go_grown)).mono ?_; rintro e w' ⟨rfl, rfl⟩) | (go_at_call 8; refine (CF.out _ (S9.out.ext (by go_grown)).below).mono ?_; rintro e wd ⟨rfl, hbd⟩)); go_returns; exact ⟨by first | rfl | (simp; done), (S9.out.ext (ext (by go_grown) hbd)).below⟩))
              · have q0 := err_ne hx7
                have ho7 := old_rename ho6 hx7
                have hre : readE (crashD (renD D6 nw bN) picks) bN = 0 := (ho7.read picks).1
                have hrv : readV (crashD (renD D6 nw bN) picks) bN = was := (ho7.read picks).2
                have HIX := Lib.hid HI7.out
                have HRE := Lib.hid (And.intro hre hrv)
                clear hre hrv
                generalize renE D6 nw bN = xq at *
                generalize renD D6 nw bN = DX at *
                go_wp2_with (first
                  | (go_at_call 19; refine (C0.out _ S.out).mono ?_; rintro e w0 ⟨rfl, L0, S0', -, -⟩; have S0 := Lib.hid S0'; clear S0' S)
                  | (go_at_call 22; refine (CR0.out _ _ S0.out).mono ?_; rintro e wq ⟨aoq, capq, rfl, hcapq, hhq, Sq', -⟩; have Sq := Lib.hid Sq'; have HHq := Lib.hid hhq; clear Sq' hhq S0)
                  | (go_at_call 24; refine (C1.out _ _ Sq.out).mono ?_; rintro e w1 ⟨rfl, L1, S1', hk1, hn1⟩; have S1 := Lib.hid S1'; have HH1 := Lib.hid (HHq.out.keep hk1 hn1); clear S1' hk1 hn1 Sq HHq)
                  | (go_at_call 21; refine (C2.out _ _ S1.out).mono ?_; rintro e w2 ⟨rfl, L2, S2', hk2, hn2⟩; have S2 := Lib.hid S2'; have HH2 := Lib.hid (HH1.out.keep hk2 hn2); clear S2' hk2 hn2 S1 HH1)
                  | (go_at_call 18; refine (C3.out _ _ S2.out).mono ?_; rintro e w3 ⟨rfl, L3, S3', hk3, hn3⟩; have S3 := Lib.hid S3'; have HH3 := Lib.hid (HH2.out.keep hk3 hn3); clear S3' hk3 hn3 S2 HH2))
                go_wp2_with (first
                  | (go_at_call 27; refine (C7.out _ _ S6.out).mono ?_; rintro e w7 ⟨rfl, L7, S7', hk7, hn7⟩; have S7 := Lib.hid S7'; have HH7 := Lib.hid (HH6.out.keep hk7 hn7); clear S7' hk7 hn7 S6 HH6)
                  | (go_at_call 20; refine (C6.out _ _ S5.out).mono ?_; rintro e w6 ⟨rfl, L6, S6', hk6, hn6⟩; have S6 := Lib.hid S6'; have HH6 := Lib.hid (HH5.out.keep hk6 hn6); clear S6' hk6 hn6 S5 HH5)
                  | (go_at_call 26; refine (C5.out _ _ S4.out).mono ?_; rintro e w5 ⟨rfl, L5, S5', hk5, hn5⟩; have S5 := Lib.hid S5'; have HH5 := Lib.hid (HH4.out.keep hk5 hn5); clear S5' hk5 hn5 S4 HH4)
                  | (go_at_call 25; refine (C4.out _ _ S3.out).mono ?_; rintro e w4 ⟨rfl, L4, S4', hk4, hn4⟩; have S4 := Lib.hid S4'; have HH4 := Lib.hid (HH3.out.keep hk4 hn4); clear S4' hk4 hn4 S3 HH3))
                obtain ⟨hre, hrv⟩ := HRE.out
                have HIC := Lib.hid (HIX.out.crashD picks)
                have CC := Lib.hid (fun L' w' (h : Stand W p L' DX w') => h.crashN (picks := picks) HIX.out (by omega) HU.out)
                have CR := Lib.hid (fun L' w' (h : Stand W p L' (crashD DX picks) w') => h.read (a := bN) HIC.out (by omega) (by decide))
                rw [hre, hrv] at CR
                clear hre hrv
                generalize crashD DX picks = DC at *
                rw [HWL.out] at CR
                go_wp2_with (first
                  | (go_at_call 19; refine (CC.out _ _ S7.out).mono ?_; rintro e wc ⟨rfl, Lc, Sc', hkc, hnc⟩; have Sc := Lib.hid Sc'; have HHc := Lib.hid (HH7.out.keep hkc hnc); clear Sc' hkc hnc S7 HH7)
                  | (go_at_call 22; refine (CR.out _ _ Sc.out).mono ?_; rintro e wr9 ⟨ao9, cap9, rfl, hcap9, hh9, S9', hb9⟩; have S9 := Lib.hid S9'; have HN := Lib.hid hh9; have HW := Lib.hid (HHc.out.ext hb9); clear S9' hh9 hb9))
                have HBB := Lib.hid (HB.out.ext S9.out.below)
                have CB1 := Lib.hid (fun w' (h : Below wr9.heap.size wr9 w') => rbytes_any _ _ _ _ w' (HN.out.ext h).bytes (HW.out.ext h).bytes)
                have CB2 := Lib.hid (fun w' (h : Below wr9.heap.size wr9 w') => rbytes_any _ _ _ _ w' (HN.out.ext h).bytes (HBB.out.ext h))
                have q1 : (was == was) = true := by simp
                rw [q1] at CB1
                clear q1
                generalize (was == b) = lt at *
                cases lt <;> (
                go_wp2;
                go_region_held3 (fun w' => True) (trivial) (first | (go_at_call 23; refine (CB1.out _ (by go_grown)).mono ?_; rintro e w' ⟨rfl, rfl⟩));
                all_goals (go_wp2_with (first | (go_at_call 23; refine (CB2.out _ (by go_grown)).mono ?_; rintro e w' ⟨rfl, rfl⟩) | (go_at_call 8; refine (CF.out _ (S9.out.ext (by go_grown)).below).mono ?_; rintro e wd ⟨rfl, hbd⟩)); go_returns; exact ⟨by first | rfl | (simp; done), (S9.out.ext (ext (by go_grown) hbd)).below⟩))
            · have q0 := err_ne hx6
              have hre : readE (crashD (syncD D5 nw) picks) bN = 0 := (ho6.read picks).1
              have hrv : readV (crashD (syncD D5 nw) picks) bN = was := (ho6.read picks).2
              have HIX := Lib.hid HI6.out
              have HRE := Lib.hid (And.intro hre hrv)
              clear hre hrv
              generalize syncE D5 nw = xq at *
              generalize syncD D5 nw = DX at *
              go_wp2_with (first
                | (go_at_call 19; refine (C0.out _ S.out).mono ?_; rintro e w0 ⟨rfl, L0, S0', -, -⟩; have S0 := Lib.hid S0'; clear S0' S)
                | (go_at_call 22; refine (CR0.out _ _ S0.out).mono ?_; rintro e wq ⟨aoq, capq, rfl, hcapq, hhq, Sq', -⟩; have Sq := Lib.hid Sq'; have HHq := Lib.hid hhq; clear Sq' hhq S0)
                | (go_at_call 24; refine (C1.out _ _ Sq.out).mono ?_; rintro e w1 ⟨rfl, L1, S1', hk1, hn1⟩; have S1 := Lib.hid S1'; have HH1 := Lib.hid (HHq.out.keep hk1 hn1); clear S1' hk1 hn1 Sq HHq)
                | (go_at_call 21; refine (C2.out _ _ S1.out).mono ?_; rintro e w2 ⟨rfl, L2, S2', hk2, hn2⟩; have S2 := Lib.hid S2'; have HH2 := Lib.hid (HH1.out.keep hk2 hn2); clear S2' hk2 hn2 S1 HH1)
                | (go_at_call 18; refine (C3.out _ _ S2.out).mono ?_; rintro e w3 ⟨rfl, L3, S3', hk3, hn3⟩; have S3 := Lib.hid S3'; have HH3 := Lib.hid (HH2.out.keep hk3 hn3); clear S3' hk3 hn3 S2 HH2))
              go_wp2_with (first
                | (go_at_call 20; refine (C6.out _ _ S5.out).mono ?_; rintro e w6 ⟨rfl, L6, S6', hk6, hn6⟩; have S6 := Lib.hid S6'; have HH6 := Lib.hid (HH5.out.keep hk6 hn6); clear S6' hk6 hn6 S5 HH5)
                | (go_at_call 26; refine (C5.out _ _ S4.out).mono ?_; rintro e w5 ⟨rfl, L5, S5', hk5, hn5⟩; have S5 := Lib.hid S5'; have HH5 := Lib.hid (HH4.out.keep hk5 hn5); clear S5' hk5 hn5 S4 HH4)
                | (go_at_call 25; refine (C4.out _ _ S3.out).mono ?_; rintro e w4 ⟨rfl, L4, S4', hk4, hn4⟩; have S4 := Lib.hid S4'; have HH4 := Lib.hid (HH3.out.keep hk4 hn4); clear S4' hk4 hn4 S3 HH3))
              obtain ⟨hre, hrv⟩ := HRE.out
              have HIC := Lib.hid (HIX.out.crashD picks)
              have CC := Lib.hid (fun L' w' (h : Stand W p L' DX w') => h.crashN (picks := picks) HIX.out (by omega) HU.out)
              have CR := Lib.hid (fun L' w' (h : Stand W p L' (crashD DX picks) w') => h.read (a := bN) HIC.out (by omega) (by decide))
              rw [hre, hrv] at CR
              clear hre hrv
              generalize crashD DX picks = DC at *
              rw [HWL.out] at CR
              go_wp2_with (first
                | (go_at_call 19; refine (CC.out _ _ S6.out).mono ?_; rintro e wc ⟨rfl, Lc, Sc', hkc, hnc⟩; have Sc := Lib.hid Sc'; have HHc := Lib.hid (HH6.out.keep hkc hnc); clear Sc' hkc hnc S6 HH6)
                | (go_at_call 22; refine (CR.out _ _ Sc.out).mono ?_; rintro e wr9 ⟨ao9, cap9, rfl, hcap9, hh9, S9', hb9⟩; have S9 := Lib.hid S9'; have HN := Lib.hid hh9; have HW := Lib.hid (HHc.out.ext hb9); clear S9' hh9 hb9))
              have HBB := Lib.hid (HB.out.ext S9.out.below)
              have CB1 := Lib.hid (fun w' (h : Below wr9.heap.size wr9 w') => rbytes_any _ _ _ _ w' (HN.out.ext h).bytes (HW.out.ext h).bytes)
              have CB2 := Lib.hid (fun w' (h : Below wr9.heap.size wr9 w') => rbytes_any _ _ _ _ w' (HN.out.ext h).bytes (HBB.out.ext h))
              have q1 : (was == was) = true := by simp
              rw [q1] at CB1
              clear q1
              generalize (was == b) = lt at *
              cases lt <;> (
              go_wp2;
              go_region_held3 (fun w' => True) (trivial) (first | (go_at_call 23; refine (CB1.out _ (by go_grown)).mono ?_; rintro e w' ⟨rfl, rfl⟩));
              all_goals (go_wp2_with (first | (go_at_call 23; refine (CB2.out _ (by go_grown)).mono ?_; rintro e w' ⟨rfl, rfl⟩) | (go_at_call 8; refine (CF.out _ (S9.out.ext (by go_grown)).below).mono ?_; rintro e wd ⟨rfl, hbd⟩)); go_returns; exact ⟨by first | rfl | (simp; done), (S9.out.ext (ext (by go_grown) hbd)).below⟩))
          · have q0 := err_ne hx5
            have hre : readE (crashD (appD D4 nw b) picks) bN = 0 := (ho5.read picks).1
            have hrv : readV (crashD (appD D4 nw b) picks) bN = was := (ho5.read picks).2
            have HIX := Lib.hid HI5.out
            have HRE := Lib.hid (And.intro hre hrv)
            clear hre hrv
            generalize appE D4 nw b = xq at *
            generalize appD D4 nw b = DX at *
            go_wp2_with (first
              | (go_at_call 19; refine (C0.out _ S.out).mono ?_; rintro e w0 ⟨rfl, L0, S0', -, -⟩; have S0 := Lib.hid S0'; clear S0' S)
              | (go_at_call 22; refine (CR0.out _ _ S0.out).mono ?_; rintro e wq ⟨aoq, capq, rfl, hcapq, hhq, Sq', -⟩; have Sq := Lib.hid Sq'; have HHq := Lib.hid hhq; clear Sq' hhq S0)
              | (go_at_call 24; refine (C1.out _ _ Sq.out).mono ?_; rintro e w1 ⟨rfl, L1, S1', hk1, hn1⟩; have S1 := Lib.hid S1'; have HH1 := Lib.hid (HHq.out.keep hk1 hn1); clear S1' hk1 hn1 Sq HHq)
              | (go_at_call 21; refine (C2.out _ _ S1.out).mono ?_; rintro e w2 ⟨rfl, L2, S2', hk2, hn2⟩; have S2 := Lib.hid S2'; have HH2 := Lib.hid (HH1.out.keep hk2 hn2); clear S2' hk2 hn2 S1 HH1)
              | (go_at_call 18; refine (C3.out _ _ S2.out).mono ?_; rintro e w3 ⟨rfl, L3, S3', hk3, hn3⟩; have S3 := Lib.hid S3'; have HH3 := Lib.hid (HH2.out.keep hk3 hn3); clear S3' hk3 hn3 S2 HH2))
            go_wp2_with (first
              | (go_at_call 26; refine (C5.out _ _ S4.out).mono ?_; rintro e w5 ⟨rfl, L5, S5', hk5, hn5⟩; have S5 := Lib.hid S5'; have HH5 := Lib.hid (HH4.out.keep hk5 hn5); clear S5' hk5 hn5 S4 HH4)
              | (go_at_call 25; refine (C4.out _ _ S3.out).mono ?_; rintro e w4 ⟨rfl, L4, S4', hk4, hn4⟩; have S4 := Lib.hid S4'; have HH4 := Lib.hid (HH3.out.keep hk4 hn4); clear S4' hk4 hn4 S3 HH3))
            obtain ⟨hre, hrv⟩ := HRE.out
            have HIC := Lib.hid (HIX.out.crashD picks)
            have CC := Lib.hid (fun L' w' (h : Stand W p L' DX w') => h.crashN (picks := picks) HIX.out (by omega) HU.out)
            have CR := Lib.hid (fun L' w' (h : Stand W p L' (crashD DX picks) w') => h.read (a := bN) HIC.out (by omega) (by decide))
            rw [hre, hrv] at CR
            clear hre hrv
            generalize crashD DX picks = DC at *
            rw [HWL.out] at CR
            go_wp2_with (first
              | (go_at_call 19; refine (CC.out _ _ S5.out).mono ?_; rintro e wc ⟨rfl, Lc, Sc', hkc, hnc⟩; have Sc := Lib.hid Sc'; have HHc := Lib.hid (HH5.out.keep hkc hnc); clear Sc' hkc hnc S5 HH5)
              | (go_at_call 22; refine (CR.out _ _ Sc.out).mono ?_; rintro e wr9 ⟨ao9, cap9, rfl, hcap9, hh9, S9', hb9⟩; have S9 := Lib.hid S9'; have HN := Lib.hid hh9; have HW := Lib.hid (HHc.out.ext hb9); clear S9' hh9 hb9))
            have HBB := Lib.hid (HB.out.ext S9.out.below)
            have CB1 := Lib.hid (fun w' (h : Below wr9.heap.size wr9 w') => rbytes_any _ _ _ _ w' (HN.out.ext h).bytes (HW.out.ext h).bytes)
            have CB2 := Lib.hid (fun w' (h : Below wr9.heap.size wr9 w') => rbytes_any _ _ _ _ w' (HN.out.ext h).bytes (HBB.out.ext h))
            have q1 : (was == was) = true := by simp
            rw [q1] at CB1
            clear q1
            generalize (was == b) = lt at *
            cases lt <;> (
            go_wp2;
            go_region_held3 (fun w' => True) (trivial) (first | (go_at_call 23; refine (CB1.out _ (by go_grown)).mono ?_; rintro e w' ⟨rfl, rfl⟩));
            all_goals (go_wp2_with (first | (go_at_call 23; refine (CB2.out _ (by go_grown)).mono ?_; rintro e w' ⟨rfl, rfl⟩) | (go_at_call 8; refine (CF.out _ (S9.out.ext (by go_grown)).below).mono ?_; rintro e wd ⟨rfl, hbd⟩)); go_returns; exact ⟨by first | rfl | (simp; done), (S9.out.ext (ext (by go_grown) hbd)).below⟩))
        · have q0 := err_ne hx4
          have hre : readE (crashD (createD D3 nw) picks) bN = 0 := (ho4.read picks).1
          have hrv : readV (crashD (createD D3 nw) picks) bN = was := (ho4.read picks).2
          have HIX := Lib.hid HI4.out
          have HRE := Lib.hid (And.intro hre hrv)
          clear hre hrv
          generalize goesE D3 (createE D3 nw) = xq at *
          generalize createD D3 nw = DX at *
          go_wp2_with (first
            | (go_at_call 19; refine (C0.out _ S.out).mono ?_; rintro e w0 ⟨rfl, L0, S0', -, -⟩; have S0 := Lib.hid S0'; clear S0' S)
            | (go_at_call 22; refine (CR0.out _ _ S0.out).mono ?_; rintro e wq ⟨aoq, capq, rfl, hcapq, hhq, Sq', -⟩; have Sq := Lib.hid Sq'; have HHq := Lib.hid hhq; clear Sq' hhq S0)
            | (go_at_call 24; refine (C1.out _ _ Sq.out).mono ?_; rintro e w1 ⟨rfl, L1, S1', hk1, hn1⟩; have S1 := Lib.hid S1'; have HH1 := Lib.hid (HHq.out.keep hk1 hn1); clear S1' hk1 hn1 Sq HHq)
            | (go_at_call 21; refine (C2.out _ _ S1.out).mono ?_; rintro e w2 ⟨rfl, L2, S2', hk2, hn2⟩; have S2 := Lib.hid S2'; have HH2 := Lib.hid (HH1.out.keep hk2 hn2); clear S2' hk2 hn2 S1 HH1)
            | (go_at_call 18; refine (C3.out _ _ S2.out).mono ?_; rintro e w3 ⟨rfl, L3, S3', hk3, hn3⟩; have S3 := Lib.hid S3'; have HH3 := Lib.hid (HH2.out.keep hk3 hn3); clear S3' hk3 hn3 S2 HH2))
          go_wp2_with (first
            | (go_at_call 25; refine (C4.out _ _ S3.out).mono ?_; rintro e w4 ⟨rfl, L4, S4', hk4, hn4⟩; have S4 := Lib.hid S4'; have HH4 := Lib.hid (HH3.out.keep hk4 hn4); clear S4' hk4 hn4 S3 HH3))
          obtain ⟨hre, hrv⟩ := HRE.out
          have HIC := Lib.hid (HIX.out.crashD picks)
          have CC := Lib.hid (fun L' w' (h : Stand W p L' DX w') => h.crashN (picks := picks) HIX.out (by omega) HU.out)
          have CR := Lib.hid (fun L' w' (h : Stand W p L' (crashD DX picks) w') => h.read (a := bN) HIC.out (by omega) (by decide))
          rw [hre, hrv] at CR
          clear hre hrv
          generalize crashD DX picks = DC at *
          rw [HWL.out] at CR
          go_wp2_with (first
            | (go_at_call 19; refine (CC.out _ _ S4.out).mono ?_; rintro e wc ⟨rfl, Lc, Sc', hkc, hnc⟩; have Sc := Lib.hid Sc'; have HHc := Lib.hid (HH4.out.keep hkc hnc); clear Sc' hkc hnc S4 HH4)
            | (go_at_call 22; refine (CR.out _ _ Sc.out).mono ?_; rintro e wr9 ⟨ao9, cap9, rfl, hcap9, hh9, S9', hb9⟩; have S9 := Lib.hid S9'; have HN := Lib.hid hh9; have HW := Lib.hid (HHc.out.ext hb9); clear S9' hh9 hb9))
          have HBB := Lib.hid (HB.out.ext S9.out.below)
          have CB1 := Lib.hid (fun w' (h : Below wr9.heap.size wr9 w') => rbytes_any _ _ _ _ w' (HN.out.ext h).bytes (HW.out.ext h).bytes)
          have CB2 := Lib.hid (fun w' (h : Below wr9.heap.size wr9 w') => rbytes_any _ _ _ _ w' (HN.out.ext h).bytes (HBB.out.ext h))
          have q1 : (was == was) = true := by simp
          rw [q1] at CB1
          clear q1
          generalize (was == b) = lt at *
          cases lt <;> (
          go_wp2;
          go_region_held3 (fun w' => True) (trivial) (first | (go_at_call 23; refine (CB1.out _ (by go_grown)).mono ?_; rintro e w' ⟨rfl, rfl⟩));
          all_goals (go_wp2_with (first | (go_at_call 23; refine (CB2.out _ (by go_grown)).mono ?_; rintro e w' ⟨rfl, rfl⟩) | (go_at_call 8; refine (CF.out _ (S9.out.ext (by go_grown)).below).mono ?_; rintro e wd ⟨rfl, hbd⟩)); go_returns; exact ⟨by first | rfl | (simp; done), (S9.out.ext (ext (by go_grown) hbd)).below⟩))
end Go.Proofs.YtdiaejphgcoknaaDoor
