/- DiskRefused: the walk. -/
import Derived.Test.YtdiaejphgcoknaaDoorDiskAh
set_option linter.unusedSimpArgs false
set_option linter.unusedVariables false
namespace Go.Proofs.YtdiaejphgcoknaaDoor
open Go.RowKit Go.Extern.Stop Go.Stop Go.Extern

set_option maxRecDepth 100000 in
set_option maxHeartbeats 4000000 in
theorem refused_walk (size : Int) (v : Value) (l : List OpP) (W : World) (hv : OpsV W v l) (hg : TypeIs W) :
    Calls Tryd.prog 3 #[.int .i64 size, v] W fun e W' => e = .returned (.bool true) ∧ Below W.heap.size W W' := by
  have HG := Lib.hid hg
  have HV := Lib.hid hv
  have CF := Lib.hid (fun (w : World) (h : Below W.heap.size W w) => first_any w (hg.ext h))
  obtain ⟨n, hnn⟩ : ∃ n, l.length = n := ⟨_, rfl⟩
  obtain ⟨ao, cap, rfl⟩ := hv.shapeN hnn
  have LN := Lib.hid hnn
  have hl := hv.len
  rw [hnn] at hl
  by_cases hr : 0 ≤ size ∧ size ≤ 16777216
  · have HA := Lib.hid (Inv.acts hr hv.in64)
    clear hg hv hnn
    go_enter Tryd.func3, Tryd.ntmps3
    go_wp2_with (go_at_call 8; refine (CF.out _ (Below.refl _ _)).mono ?_; rintro e wa ⟨rfl, hba⟩)
    have CN := Lib.hid (new_any size hr wa)
    clear hr
    go_wp2_with (go_at_call 9; refine CN.out.mono ?_; rintro e wb ⟨rfl, hD, hbb⟩; have SB := Lib.hid (Stand.new hba hD (has_new rfl) hbb); clear hD)
    go_wp2_with (go_at_call 10; refine (few_ops _ l _ (HV.out.ext SB.out.below)).mono ?_; rintro e wc ⟨fw, rfl, hfw, hbc⟩; have SC := Lib.hid (SB.out.ext hbc); cases fw)
    · go_wp2_with (go_at_call 8; refine (CF.out _ SC.out.below).mono ?_; rintro e wd ⟨rfl, hbd⟩)
      go_returns
      exact ⟨rfl, (SC.out.ext hbd).below⟩
    · have hn3 : n ≤ 300 := by rw [← LN.out]; exact hfw (by first | trivial | rfl)
      obtain ⟨p, hp⟩ : ∃ p, wa.heap.size + 2 = p := ⟨_, rfl⟩
      rw [hp] at SC ⊢
      clear hfw hbc SB hbb hba hp CN
      go_wp2
      go_loopw [7] (fun i wr => ∃ (k : Nat) (L : Lay), k ≤ n ∧ i = .int .i64 k ∧ Stand W p L (actsD (newD size) (l.take k)) wr) (fun i _ => n - (intOf i).toNat)
      case atStart => exact ⟨0, _, Nat.zero_le _, rfl, SC.out⟩
      case round =>
        obtain ⟨k, L, hk, rfl, hS⟩ := hrel
        have S := Lib.hid hS
        clear hS
        by_cases hlt : k < n
        · have hT : 3 * k ≤ 100000 := by omega
          have hT2 : 3 * k + 3 ≤ 100000 := by omega
          have HI := Lib.hid (HA.out k (by rw [LN.out]; exact hk))
          have HSUC := Lib.hid (actsD_succ (newD size) (l := l) (k := k) (by rw [LN.out]; exact hlt))
          obtain ⟨b, off, vb, vp, rfl, lb, ho0⟩ := HV.out.cellAt (j := k) (by rw [LN.out]; exact hlt)
          have ho := ho0
          generalize hD : actsD (newD size) (l.take k) = D at *
          generalize l.getD k OpP.nought = o at *
          clear hD
          have HI2 := Lib.hid (HI.out.act o ho.i1)
          have HO := Lib.hid ho0
          have CD := Lib.hid (fun w' h => down_any p L D w' h)
          have CS := Lib.hid (fun w' h => steps_any p L D w' h)
          have CA := Lib.hid (fun w' (h : Stand W p L D w') => h.act HI.out hT HO.out)
          have CD2 := Lib.hid (fun L' w' h => down_any p L' (actD D o) w' h)
          have CS2 := Lib.hid (fun L' w' h => steps_any p L' (actD D o) w' h)
          have HFL := Lib.hid (show (filesD D).length ≤ 1000000 from Nat.le_trans (filesD_le HI.out) (by omega))
          obtain ⟨c0, c1, c2, c3, c4, c5, ik, -, -, -, -, -⟩ := ho
          have hcc : ∀ o' w', Below W.heap.size W w' → w'.cell? ⟨b, o', none⟩ = W.cell? ⟨b, o', none⟩ := fun o' w' h => h.cell (p := ⟨b, o', none⟩) lb
          have HX : Hid (∀ w', Below W.heap.size W w' → w'.cell? ⟨b, off + k * 6, none⟩ = some (.int .i64 o.kind) ∧ w'.cell? ⟨b, off + k * 6 + 1, none⟩ = some (.int .i64 o.n) ∧ w'.cell? ⟨b, off + k * 6 + 2, none⟩ = some (.string ⟨o.name.toArray⟩) ∧ w'.cell? ⟨b, off + k * 6 + 3, none⟩ = some (.string ⟨o.to.toArray⟩) ∧ w'.cell? ⟨b, off + k * 6 + 4, none⟩ = some vb ∧ w'.cell? ⟨b, off + k * 6 + 5, none⟩ = some vp) := fun w' h => ⟨(hcc _ _ h).trans c0, (hcc _ _ h).trans c1, (hcc _ _ h).trans c2, (hcc _ _ h).trans c3, (hcc _ _ h).trans c4, (hcc _ _ h).trans c5⟩
          clear c0 c1 c2 c3 c4 c5 hcc ho0
          have hdn := HI.out.done
          unfold in64 at ik
          by_cases h1 : o.kind < 0
          · go_wp2_with (first
              | (go_at_call 11; refine (S.out.files HI.out hT).mono ?_; rintro e w1 ⟨fo, fc, rfl, hfs, S1', hb1⟩; have S1 := Lib.hid S1'; obtain ⟨y0, y1, y2, y3, y4, y5⟩ := HX.out _ S1.out.below; have HF1 := Lib.hid hfs; have B1 := Lib.hid hb1; clear S1' hfs hb1)
              | (go_at_call 12; refine (CD.out _ S1.out.dp).mono ?_; rintro e w' ⟨rfl, rfl⟩)
              | (go_at_call 13; refine (CS.out _ S1.out.dp).mono ?_; rintro e w' ⟨rfl, rfl⟩)
              | (go_at_call 14; refine (CA.out _ S1.out).mono ?_; rintro e w2 hq; obtain ⟨rfl, L2, S2', hk2⟩ := hq; have S2 := Lib.hid S2'; clear y0 y1 y2 y3 y4 y5; obtain ⟨z0, -⟩ := HX.out _ S2.out.below; have K2 := Lib.hid hk2; have HF2 := Lib.hid (HF1.out.past S.out.dp K2.out); clear S2' hk2 S1 HF1 K2 S))
            go_wp2
            go_roundw
            case rel => exact ⟨k + 1, _, by omega, by go_num, by rw [HSUC.out]; exact S2.out⟩
            case measure => simp [intOf]; omega
          · by_cases h2 : 5 < o.kind
            · go_wp2_with (first
                | (go_at_call 11; refine (S.out.files HI.out hT).mono ?_; rintro e w1 ⟨fo, fc, rfl, hfs, S1', hb1⟩; have S1 := Lib.hid S1'; obtain ⟨y0, y1, y2, y3, y4, y5⟩ := HX.out _ S1.out.below; have HF1 := Lib.hid hfs; have B1 := Lib.hid hb1; clear S1' hfs hb1)
                | (go_at_call 12; refine (CD.out _ S1.out.dp).mono ?_; rintro e w' ⟨rfl, rfl⟩)
                | (go_at_call 13; refine (CS.out _ S1.out.dp).mono ?_; rintro e w' ⟨rfl, rfl⟩)
                | (go_at_call 14; refine (CA.out _ S1.out).mono ?_; rintro e w2 hq; obtain ⟨rfl, L2, S2', hk2⟩ := hq; have S2 := Lib.hid S2'; clear y0 y1 y2 y3 y4 y5; obtain ⟨z0, -⟩ := HX.out _ S2.out.below; have K2 := Lib.hid hk2; have HF2 := Lib.hid (HF1.out.past S.out.dp K2.out); clear S2' hk2 S1 HF1 K2 S))
              go_wp2
              go_roundw
              case rel => exact ⟨k + 1, _, by omega, by go_num, by rw [HSUC.out]; exact S2.out⟩
              case measure => simp [intOf]; omega
            · have HK := Lib.hid (And.intro (show 0 ≤ o.kind by omega) (show o.kind ≤ 5 by omega))
              cases hd : D.down with
              | true =>
                obtain ⟨e1, e2⟩ := act_down hd HK.out
                rw [hd] at CD
                rw [e1, e2] at CA
                rw [e2] at CS2 CD2 HI2 HSUC
                rw [hd] at CD2
                clear hd e1 e2
                go_wp2_with (first
                  | (go_at_call 11; refine (S.out.files HI.out hT).mono ?_; rintro e w1 ⟨fo, fc, rfl, hfs, S1', hb1⟩; have S1 := Lib.hid S1'; obtain ⟨y0, y1, y2, y3, y4, y5⟩ := HX.out _ S1.out.below; have HF1 := Lib.hid hfs; have B1 := Lib.hid hb1; clear S1' hfs hb1)
                  | (go_at_call 12; refine (CD.out _ S1.out.dp).mono ?_; rintro e w' ⟨rfl, rfl⟩)
                  | (go_at_call 13; refine (CS.out _ S1.out.dp).mono ?_; rintro e w' ⟨rfl, rfl⟩)
                  | (go_at_call 14; refine (CA.out _ S1.out).mono ?_; rintro e w2 hq; obtain ⟨rfl, L2, S2', hk2⟩ := hq; have S2 := Lib.hid S2'; clear y0 y1 y2 y3 y4 y5; obtain ⟨z0, -⟩ := HX.out _ S2.out.below; have K2 := Lib.hid hk2; have HF2 := Lib.hid (HF1.out.past S.out.dp K2.out); clear S2' hk2 S1 HF1 K2 S)
                  | (go_at_call 16; refine (fail_any _ _).mono ?_; rintro e wf ⟨rfl, hbf⟩)
                  | (go_at_call 15; refine (same_any 10 _ (HG.out.ext (S2.out.ext hbf).below)).mono ?_; rintro e w3 ⟨rfl, hb3⟩; have B3 := Lib.hid (ext hbf hb3); have S3 := Lib.hid (S2.out.ext B3.out); have HF3 := Lib.hid (HF2.out.ext B3.out); clear hb3 hbf)
                  | (go_at_call 13; refine (CS2.out _ _ S3.out.dp).mono ?_; rintro e w' ⟨rfl, rfl⟩)
                  | (go_at_call 11; refine (S3.out.files HI2.out hT2).mono ?_; rintro e w4 ⟨fo4, fc4, rfl, hfs4, S4', hb4⟩; have S4 := Lib.hid S4'; have HF4 := Lib.hid hfs4; have B4 := Lib.hid hb4; clear S4' hfs4 hb4)
                  | (go_at_call 17; refine (rfiles_same _ _ _ _ _ _ HF4.out (HF3.out.ext B4.out) HFL.out).mono ?_; rintro e w5 ⟨rfl, hb5⟩; have S5 := Lib.hid (S4.out.ext hb5); clear hb5)
                  | (go_at_call 13; refine (CS2.out _ _ S5.out.dp).mono ?_; rintro e w' ⟨rfl, rfl⟩))
                go_wp2
                go_roundw
                case rel => exact ⟨k + 1, _, by omega, by go_num, by rw [HSUC.out]; exact S5.out⟩
                case measure => simp [intOf]; omega
              | false =>
                have HE0 := Lib.hid (fun h => act_done (D := D) (o := o) HK.out h)
                have HE1 := Lib.hid (fun h1 h2 => act_refused (D := D) (o := o) HK.out h1 (.inr h2))
                rw [hd] at CD
                by_cases hx : actE D o = 0
                · have e3 := HE0.out hx
                  rw [hx] at CA
                  rw [e3] at CS2
                  have q1 : IntKind.i64.wrap (D.done + 1) = D.done + 1 := IntWalk.i64_in _ (by omega)
                  have q2 : ((D.done + 1) != (D.done + 1)) = false := by simp
                  clear hd e3 hx HE0 HE1
                  generalize actD D o = D2 at *
                  generalize D.done = dn at *
                  go_wp2_with (first
                    | (go_at_call 11; refine (S.out.files HI.out hT).mono ?_; rintro e w1 ⟨fo, fc, rfl, hfs, S1', hb1⟩; have S1 := Lib.hid S1'; obtain ⟨y0, y1, y2, y3, y4, y5⟩ := HX.out _ S1.out.below; have HF1 := Lib.hid hfs; have B1 := Lib.hid hb1; clear S1' hfs hb1)
                    | (go_at_call 12; refine (CD.out _ S1.out.dp).mono ?_; rintro e w' ⟨rfl, rfl⟩)
                    | (go_at_call 13; refine (CS.out _ S1.out.dp).mono ?_; rintro e w' ⟨rfl, rfl⟩)
                    | (go_at_call 14; refine (CA.out _ S1.out).mono ?_; rintro e w2 hq; obtain ⟨rfl, L2, S2', hk2⟩ := hq; have S2 := Lib.hid S2'; clear y0 y1 y2 y3 y4 y5; obtain ⟨z0, -⟩ := HX.out _ S2.out.below; have K2 := Lib.hid hk2; have HF2 := Lib.hid (HF1.out.past S.out.dp K2.out); clear S2' hk2 S1 HF1 K2 S)
                    | (go_at_call 13; refine (CS2.out _ _ S2.out.dp).mono ?_; rintro e w' ⟨rfl, rfl⟩))
                  go_wp2
                  go_roundw
                  case rel => exact ⟨k + 1, _, by omega, by go_num, by rw [HSUC.out]; exact S2.out⟩
                  case measure => simp [intOf]; omega
                · cases hd2 : (actD D o).down with
                  | true =>
                    rw [hd2] at CD2
                    have q1 := err_ne hx
                    clear hd hd2 HE0 HE1 hx
                    generalize actE D o = x at *
                    generalize actD D o = D2 at *
                    go_wp2_with (first
                      | (go_at_call 11; refine (S.out.files HI.out hT).mono ?_; rintro e w1 ⟨fo, fc, rfl, hfs, S1', hb1⟩; have S1 := Lib.hid S1'; obtain ⟨y0, y1, y2, y3, y4, y5⟩ := HX.out _ S1.out.below; have HF1 := Lib.hid hfs; have B1 := Lib.hid hb1; clear S1' hfs hb1)
                      | (go_at_call 12; refine (CD.out _ S1.out.dp).mono ?_; rintro e w' ⟨rfl, rfl⟩)
                      | (go_at_call 12; refine (CD2.out _ _ S2.out.dp).mono ?_; rintro e w' ⟨rfl, rfl⟩)
                      | (go_at_call 13; refine (CS.out _ S1.out.dp).mono ?_; rintro e w' ⟨rfl, rfl⟩)
                      | (go_at_call 14; refine (CA.out _ S1.out).mono ?_; rintro e w2 hq; obtain ⟨rfl, L2, S2', hk2⟩ := hq; have S2 := Lib.hid S2'; clear y0 y1 y2 y3 y4 y5; obtain ⟨z0, -⟩ := HX.out _ S2.out.below; have K2 := Lib.hid hk2; have HF2 := Lib.hid (HF1.out.past S.out.dp K2.out); clear S2' hk2 S1 HF1 K2 S)
                      | (go_at_call 13; refine (CS2.out _ _ S2.out.dp).mono ?_; rintro e w' ⟨rfl, rfl⟩))
                    go_wp2
                    go_roundw
                    case rel => exact ⟨k + 1, _, by omega, by go_num, by rw [HSUC.out]; exact S2.out⟩
                    case measure => simp [intOf]; omega
                  | false =>
                    have e2 := HE1.out hx hd2
                    rw [hd2] at CD2
                    rw [e2] at CA CS2 CD2 HI2 HSUC
                    have q1 := err_ne hx
                    clear hd hd2 HE0 HE1 hx e2
                    generalize actE D o = x at *
                    go_wp2_with (first
                      | (go_at_call 11; refine (S.out.files HI.out hT).mono ?_; rintro e w1 ⟨fo, fc, rfl, hfs, S1', hb1⟩; have S1 := Lib.hid S1'; obtain ⟨y0, y1, y2, y3, y4, y5⟩ := HX.out _ S1.out.below; have HF1 := Lib.hid hfs; have B1 := Lib.hid hb1; clear S1' hfs hb1)
                      | (go_at_call 12; refine (CD.out _ S1.out.dp).mono ?_; rintro e w' ⟨rfl, rfl⟩)
                      | (go_at_call 12; refine (CD2.out _ _ S2.out.dp).mono ?_; rintro e w' ⟨rfl, rfl⟩)
                      | (go_at_call 13; refine (CS.out _ S1.out.dp).mono ?_; rintro e w' ⟨rfl, rfl⟩)
                      | (go_at_call 14; refine (CA.out _ S1.out).mono ?_; rintro e w2 hq; obtain ⟨rfl, L2, S2', hk2⟩ := hq; have S2 := Lib.hid S2'; clear y0 y1 y2 y3 y4 y5; obtain ⟨z0, -⟩ := HX.out _ S2.out.below; have K2 := Lib.hid hk2; have HF2 := Lib.hid (HF1.out.past S.out.dp K2.out); clear S2' hk2 S1 HF1 K2 S)
                      | (go_at_call 11; refine (S2.out.files HI2.out hT2).mono ?_; rintro e w4 ⟨fo4, fc4, rfl, hfs4, S4', hb4⟩; have S4 := Lib.hid S4'; have HF4 := Lib.hid hfs4; have B4 := Lib.hid hb4; clear S4' hfs4 hb4)
                      | (go_at_call 17; refine (rfiles_same _ _ _ _ _ _ HF4.out (HF2.out.ext B4.out) HFL.out).mono ?_; rintro e w5 ⟨rfl, hb5⟩; have S5 := Lib.hid (S4.out.ext hb5); clear hb5)
                      | (go_at_call 13; refine (CS2.out _ _ S5.out.dp).mono ?_; rintro e w' ⟨rfl, rfl⟩))
                    go_wp2
                    go_roundw
                    case rel => exact ⟨k + 1, _, by omega, by go_num, by rw [HSUC.out]; exact S5.out⟩
                    case measure => simp [intOf]; omega
        · obtain rfl : k = n := by omega
          go_wp2_with (go_at_call 8; refine (CF.out _ S.out.below).mono ?_; rintro e wd ⟨rfl, hbd⟩)
          go_returns
          exact ⟨rfl, (S.out.ext hbd).below⟩
  · have CN := Lib.hid (fun w => new_not size hr w)
    clear hr hg hv hnn
    go_enter Tryd.func3, Tryd.ntmps3
    go_wp2_with (first | (go_at_call 9; refine (CN.out _).mono ?_; rintro e wb ⟨rfl, hbb⟩) | (go_at_call 8; refine (CF.out _ (ext hba hbb)).mono ?_; rintro e wc ⟨rfl, hbc⟩) | (go_at_call 8; refine (CF.out _ (Below.refl _ _)).mono ?_; rintro e wa ⟨rfl, hba⟩))
    go_returns
    exact ⟨by first | rfl | (simp; done), ext (ext hba hbb) hbc⟩
end Go.Proofs.YtdiaejphgcoknaaDoor
