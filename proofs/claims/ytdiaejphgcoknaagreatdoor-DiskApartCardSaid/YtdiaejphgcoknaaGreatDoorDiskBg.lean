/- DiskApart: the walk. -/
import Derived.Test.YtdiaejphgcoknaaGreatDoorDiskCp
set_option linter.unusedSimpArgs false
set_option linter.unusedVariables false
namespace Go.Proofs.YtdiaejphgcoknaaGreatDoor
open Go.RowKit Go.Extern.Stop Go.Stop Go.Extern

set_option maxRecDepth 100000 in
set_option maxHeartbeats 4000000 in
theorem apart_walk (size : Int) (v : Value) (l : List OpP) (v2 : Value) (l2 : List OpP) (W : World) (hv : OpsV W v l) (hv2 : OpsV W v2 l2) (hg : TypeIs W) :
    Calls Tryz.prog 3 #[.int .i64 size, v, v2] W fun e W' => e = .returned (.bool true) ∧ Below W.heap.size W W' := by
  have HG := Lib.hid hg
  have HV := Lib.hid hv
  have HV2 := Lib.hid hv2
  have CF := Lib.hid (fun (w : World) (h : Below W.heap.size W w) => first_any w (hg.ext h))
  obtain ⟨n, hnn⟩ : ∃ n, l.length = n := ⟨_, rfl⟩
  obtain ⟨ao, cap, rfl⟩ := hv.shapeN hnn
  have LN := Lib.hid hnn
  have hl := hv.len
  rw [hnn] at hl
  obtain ⟨n2, hnn2⟩ : ∃ n2, l2.length = n2 := ⟨_, rfl⟩
  obtain ⟨ao2, cap2, rfl⟩ := hv2.shapeN hnn2
  have LN2 := Lib.hid hnn2
  have hl2 := hv2.len
  rw [hnn2] at hl2
  by_cases hr : 0 ≤ size ∧ size ≤ 16777216
  · clear hg hv hnn hv2 hnn2
    obtain ⟨hr1, hr2⟩ := hr
    go_enter Tryz.func3, Tryz.ntmps3
    go_wp2_with (go_at_call 5; refine (CF.out _ (Below.refl _ _)).mono ?_; rintro e wa ⟨rfl, hba⟩)
    have CN := Lib.hid (new_any size ⟨hr1, hr2⟩ wa)
    go_wp2_with (go_at_call 6; refine CN.out.mono ?_; rintro e wb ⟨rfl, hD, hbb⟩; have SB := Lib.hid (Stand.new hba hD (has_new rfl) hbb); clear hD)
    refine (few_ops _ l _ (HV.out.ext SB.out.below)).mono ?_
    rintro e wc ⟨fw, rfl, hfw, hbc⟩
    have SC := Lib.hid (SB.out.ext hbc)
    cases fw
    · go_wp2_with (go_at_call 5; refine (CF.out _ SC.out.below).mono ?_; rintro e wd ⟨rfl, hbd⟩)
      go_returns
      exact ⟨by first | rfl | (simp; done), (SC.out.ext hbd).below⟩
    have hn3 : n ≤ 300 := by rw [← LN.out]; exact hfw (by first | trivial | rfl)
    go_wp2_with fail
    refine (few_ops _ l2 _ (HV2.out.ext SC.out.below)).mono ?_
    rintro e wc2 ⟨fw, rfl, hfw2, hbc2⟩
    have SD := Lib.hid (SC.out.ext hbc2)
    cases fw
    · go_wp2_with (go_at_call 5; refine (CF.out _ SD.out.below).mono ?_; rintro e wd ⟨rfl, hbd⟩)
      go_returns
      exact ⟨by first | rfl | (simp; done), (SD.out.ext hbd).below⟩
    have hn4 : n2 ≤ 300 := by rw [← LN2.out]; exact hfw2 (by first | trivial | rfl)
    obtain ⟨p, hp⟩ : ∃ p, wa.heap.size + 2 = p := ⟨_, rfl⟩
    rw [hp] at SD ⊢
    clear hfw hbc SB SC hbb hba hp CN hbc2 hfw2
    go_wp2
    go_loopw [9] (fun i wr => ∃ (j : Nat) (L : Lay) (D : DS), j ≤ n ∧ i = .int .i64 j ∧ Stand W p L D wr ∧ Inv D (3 * j)) (fun i _ => n - (intOf i).toNat)
    case atStart => exact ⟨0, _, _, Nat.zero_le _, rfl, SD.out, Inv.new ⟨hr1, hr2⟩⟩
    case round =>
      obtain ⟨j, L, D, hj, rfl, hS, hI⟩ := hrel
      have S := Lib.hid hS
      have HI := Lib.hid hI
      clear hS hI
      have hT : 3 * j ≤ 100000 := by omega
      by_cases hlt : j < n
      · obtain ⟨b, off, vb, vp, rfl, lb, ho0⟩ := HV.out.cellAt (j := j) (by rw [LN.out]; exact hlt)
        have ho := ho0
        generalize l.getD j OpP.nought = o at *
        have HI2 := Lib.hid (HI.out.act o ho.i1)
        have HO := Lib.hid ho0
        have CA := Lib.hid (fun w' (h : Stand W p L D w') => h.actN HI.out hT HO.out)
        obtain ⟨c0, c1, c2, c3, c4, c5, ik, -, -, -, -, -⟩ := ho
        have hcc : ∀ o', wr.cell? ⟨b, o', none⟩ = W.cell? ⟨b, o', none⟩ := fun o' => S.out.below.cell (p := ⟨b, o', none⟩) lb
        rw [← hcc] at c0 c1 c2 c3 c4 c5
        clear hcc ho0
        unfold in64 at ik
        go_wp2_with (go_at_call 8; refine (CA.out _ S.out).mono ?_; rintro e w2 ⟨rfl, L2, S2', hk2, hn2⟩; have S2 := Lib.hid S2'; clear S2' hk2 hn2)
        go_wp2
        go_roundw
        case rel => exact ⟨j + 1, _, _, by omega, by go_num, S2.out, HI2.out.mono (by omega)⟩
        case measure => simp [intOf]; omega
      · obtain rfl : j = n := by omega
        have HI0' := Lib.hid HI.out
        have CC := Lib.hid (fun w' (h : Stand W p L D w') => h.copy HI.out hT)
        have CFI := Lib.hid (fun q Lc w' (h : Stand W q Lc D w') => h.files HI.out hT)
        have CD := Lib.hid (fun q Lc w' (h : Stand W q Lc D w') => down_any q Lc D w' h.dp)
        obtain ⟨fl, hfl⟩ : ∃ fl, (filesD D).length = fl := ⟨_, rfl⟩
        have hfl2 := filesD_le HI.out
        have HFLE := Lib.hid (show (filesD D).length ≤ 1000000 from by omega)
        rw [hfl] at CFI hfl2
        have HFL := Lib.hid hfl
        clear hfl
        obtain ⟨off, hoff⟩ : ∃ off, D.down = off := ⟨_, rfl⟩
        rw [hoff] at CD
        clear hoff
        go_wp2_with (first
          | (go_at_call 9; refine (CC.out _ S.out).mono ?_; rintro e w2 ⟨q, Lc, rfl, Sc', S2', hd', -⟩; have S2 := Lib.hid S2'; have Sc := Lib.hid Sc'; have HD := Lib.hid hd'; clear S2' Sc' hd' S)
          | (go_at_call 10; refine (CFI.out _ _ _ Sc.out).mono ?_; rintro e w3 ⟨fo, fc, rfl, hfs, Sc3', hb3⟩; have S3 := Lib.hid (S2.out.ext hb3); have HF3 := Lib.hid (HeldFs.of hfs (fun k hk => S2.out.dp.lt hk)); have HFc := Lib.hid (HeldFs.of hfs (fun k hk => Sc.out.dp.lt hk)); have Sc3 := Lib.hid Sc3'; clear hfs Sc3' hb3 S2 Sc)
          | (go_at_call 11; refine (CD.out _ _ _ Sc3.out).mono ?_; rintro e w' ⟨rfl, rfl⟩))
        have hD0 : D = actsD D (l2.take 0) := by rw [List.take_zero]; rfl
        go_loopw [13] (fun i wr => ∃ (j2 : Nat) (L' : Lay) (D' : DS), j2 ≤ n2 ∧ i = .int .i64 j2 ∧ Stand W p L' D' wr ∧ Inv D' (3 * j + 3 * j2) ∧ D' = actsD D (l2.take j2) ∧ Stand W q Lc D wr ∧ (∀ k, Lc.has q k → ¬ L'.has p k) ∧ HeldFs L' p wr (.slice fo fl fc) (filesD D)) (fun i _ => n2 - (intOf i).toNat)
        case atStart => exact ⟨0, _, _, Nat.zero_le _, rfl, S3.out, HI.out, hD0, Sc3.out, HD.out, HF3.out⟩
        case round =>
          obtain ⟨j2, L', D2, hj2, rfl, hS, hI2, hE, hSc, hd, hF⟩ := hrel
          have S := Lib.hid hS
          have HI := Lib.hid hI2
          have HE := Lib.hid hE
          have Sc := Lib.hid hSc
          have HDd := Lib.hid hd
          have HF := Lib.hid hF
          clear hS hI2 hE hSc hd hF
          have hT2 : 3 * j + 3 * j2 ≤ 100000 := by omega
          by_cases hlt2 : j2 < n2
          · have hs := actsD_succ D (l := l2) (k := j2) (by rw [LN2.out]; exact hlt2)
            rw [← HE.out] at hs
            have HSUC := Lib.hid hs
            clear hs
            obtain ⟨b, off, vb, vp, rfl, lb, ho0⟩ := HV2.out.cellAt (j := j2) (by rw [LN2.out]; exact hlt2)
            have ho := ho0
            generalize hgo : l2.getD j2 OpP.nought = o at *
            have HI2 := Lib.hid (HI.out.act o ho.i1)
            have HO := Lib.hid ho0
            have CA := Lib.hid (fun w' (h : Stand W p L' D2 w') => h.actN HI.out hT2 HO.out)
            obtain ⟨c0, c1, c2, c3, c4, c5, ik, -, -, -, -, -⟩ := ho
            have hcc : ∀ o', wr.cell? ⟨b, o', none⟩ = W.cell? ⟨b, o', none⟩ := fun o' => S.out.below.cell (p := ⟨b, o', none⟩) lb
            rw [← hcc] at c0 c1 c2 c3 c4 c5
            clear hcc ho0
            unfold in64 at ik
            go_wp2_with (go_at_call 8; refine (CA.out _ S.out).mono ?_; rintro e w4 ⟨rfl, L4, S4', hk4, hn4⟩; have S4 := Lib.hid S4'; have Sc4 := Lib.hid (Stand.beside Sc.out HDd.out S4' hk4 hn4).1; have HD4 := Lib.hid (Stand.beside Sc.out HDd.out S4' hk4 hn4).2; have HF4 := Lib.hid (HF.out.keep hk4 hn4); clear S4' hk4 hn4)
            go_wp2
            go_roundw
            case rel => exact ⟨j2 + 1, _, _, by omega, by go_num, S4.out, HI2.out.mono (by omega), HSUC.out.symm, Sc4.out, HD4.out, HF4.out⟩
            case measure => simp [intOf]; omega
          · obtain rfl : j2 = n2 := by omega
            have qo : (off != off) = false := by simp
            have HI0 := Lib.hid (show Inv D (3 * j + 3 * 0) from by have := HI0'.out; exact this)
            have CFI2 := Lib.hid (fun q Lc w' (h : Stand W q Lc D2 w') => h.files HI.out hT2)
            have CD2 := Lib.hid (fun q Lc w' (h : Stand W q Lc D2 w') => down_any q Lc D2 w' h.dp)
            have CS2 := Lib.hid (fun q Lc w' (h : Stand W q Lc D2 w') => steps_any q Lc D2 w' h.dp)
            have CU2 := Lib.hid (fun q Lc w' (h : Stand W q Lc D2 w') => h.used HI.out hT2)
            have hfl3 := filesD_le HI.out
            have HFLE2 := Lib.hid (show (filesD D2).length ≤ 1000000 from by omega)
            go_wp2_with (first
              | (go_at_call 10; refine (CFI.out _ _ _ Sc.out).mono ?_; rintro e w5 ⟨fo5, fc5, rfl, hfs5, Sc5', hb5⟩; have S5 := Lib.hid (S.out.ext hb5); have Sc5 := Lib.hid Sc5'; have HF5 := Lib.hid (HF.out.ext hb5); have HO5 := Lib.hid hfs5; have HD5 := Lib.hid HDd.out; clear hfs5 Sc5' hb5 S Sc HF HDd)
              | (go_at_call 12; refine (rfiles_same _ _ _ _ _ _ HO5.out HF5.out.own HFLE.out).mono ?_; rintro e w6 ⟨rfl, hb6⟩; have S6 := Lib.hid (S5.out.ext hb6); have Sc6 := Lib.hid (Sc5.out.ext hb6); clear hb6 S5 Sc5 HO5 HF5)
              | (go_at_call 11; refine (CD.out _ _ _ Sc6.out).mono ?_; rintro e w' ⟨rfl, rfl⟩))
            go_loopw [14] (fun i wr => ∃ (j3 : Nat) (Lc' : Lay) (E : DS), j3 ≤ j2 ∧ i = .int .i64 j3 ∧ Stand W q Lc' E wr ∧ Inv E (3 * j + 3 * j3) ∧ E = actsD D (l2.take j3) ∧ Stand W p L' D2 wr ∧ (∀ k, L'.has p k → ¬ Lc'.has q k)) (fun i _ => j2 - (intOf i).toNat)
            case atStart => exact ⟨0, _, _, Nat.zero_le _, rfl, Sc6.out, HI0.out, hD0, S6.out, Stand.apart HD5.out⟩
            case round =>
              obtain ⟨j3, Lc', E, hj3, rfl, hS, hI3, hE3, hSp, hd3⟩ := hrel
              have S := Lib.hid hS
              have HIE := Lib.hid hI3
              have HE3 := Lib.hid hE3
              have Sp := Lib.hid hSp
              have HDd := Lib.hid hd3
              clear hS hI3 hE3 hSp hd3
              have hT3 : 3 * j + 3 * j3 ≤ 100000 := by omega
              by_cases hlt3 : j3 < j2
              · have hs := actsD_succ D (l := l2) (k := j3) (by rw [LN2.out]; exact hlt3)
                rw [← HE3.out] at hs
                have HSUC := Lib.hid hs
                clear hs
                obtain ⟨b, off, vb, vp, rfl, lb, ho0⟩ := HV2.out.cellAt (j := j3) (by rw [LN2.out]; exact hlt3)
                have ho := ho0
                generalize hgo : l2.getD j3 OpP.nought = o at *
                have HI2 := Lib.hid (HIE.out.act o ho.i1)
                have HO := Lib.hid ho0
                have CA := Lib.hid (fun w' (h : Stand W q Lc' E w') => h.actN HIE.out hT3 HO.out)
                obtain ⟨c0, c1, c2, c3, c4, c5, ik, -, -, -, -, -⟩ := ho
                have hcc : ∀ o', wr.cell? ⟨b, o', none⟩ = W.cell? ⟨b, o', none⟩ := fun o' => S.out.below.cell (p := ⟨b, o', none⟩) lb
                rw [← hcc] at c0 c1 c2 c3 c4 c5
                clear hcc ho0
                unfold in64 at ik
                go_wp2_with (go_at_call 8; refine (CA.out _ S.out).mono ?_; rintro e w4 ⟨rfl, L4, S4', hk4, hn4⟩; have S4 := Lib.hid S4'; have Sp4 := Lib.hid (Stand.beside Sp.out HDd.out S4' hk4 hn4).1; have HD4 := Lib.hid (Stand.beside Sp.out HDd.out S4' hk4 hn4).2; clear S4' hk4 hn4)
                go_wp2
                go_roundw
                case rel => exact ⟨j3 + 1, _, _, by omega, by go_num, S4.out, HI2.out.mono (by omega), HSUC.out.symm, Sp4.out, HD4.out⟩
                case measure => simp [intOf]; omega
              · obtain rfl : j3 = j2 := by omega
                have hED : E = D2 := HE3.out.trans HE.out.symm
                subst hED
                have S0 := Lib.hid S.out
                clear HE3 HIE
                obtain ⟨fl2, hfl4⟩ : ∃ fl2, (filesD E).length = fl2 := ⟨_, rfl⟩
                rw [hfl4] at CFI2
                clear hfl3 hfl4
                have q1 : (E.down == E.down) = true := by simp
                generalize usedD E = ud at *
                go_wp2_with (first
                  | (go_at_call 5; refine (CF.out _ S.out.below).mono ?_; rintro e w7 ⟨rfl, hb7⟩; have Sc7 := Lib.hid (S.out.ext hb7); have S7 := Lib.hid (Sp.out.ext hb7); clear hb7 S Sp S0)
                  | (go_at_call 10; refine (CFI2.out q _ _ Sc7.out).mono ?_; rintro e w8 ⟨fo8, fc8, rfl, hfs8, Sc8', hb8⟩; have S8 := Lib.hid (S7.out.ext hb8); have Sc8 := Lib.hid Sc8'; have HO8 := Lib.hid hfs8; clear hfs8 Sc8' hb8 S7 Sc7)
                  | (go_at_call 10; refine (CFI2.out p _ _ S8.out).mono ?_; rintro e w9 ⟨fo9, fc9, rfl, hfs9, S9', hb9⟩; have Sc9 := Lib.hid (Sc8.out.ext hb9); have S9 := Lib.hid S9'; have HO9 := Lib.hid hfs9; have HOc := Lib.hid (HO8.out.ext hb9); clear hfs9 S9' hb9 S8 Sc8 HO8)
                  | (go_at_call 12; refine (rfiles_same _ _ _ _ _ _ HOc.out HO9.out HFLE2.out).mono ?_; rintro e w10 ⟨rfl, hb10⟩; have S10 := Lib.hid (S9.out.ext hb10); have Sc10 := Lib.hid (Sc9.out.ext hb10); clear hb10 S9 Sc9 HOc HO9)
                  | (go_at_call 11; refine (CD2.out q _ _ Sc10.out).mono ?_; rintro e w' ⟨rfl, rfl⟩)
                  | (go_at_call 11; refine (CD2.out p _ _ S10.out).mono ?_; rintro e w' ⟨rfl, rfl⟩)
                  | (go_at_call 13; refine (CS2.out q _ _ Sc10.out).mono ?_; rintro e w' ⟨rfl, rfl⟩)
                  | (go_at_call 13; refine (CS2.out p _ _ S10.out).mono ?_; rintro e w' ⟨rfl, rfl⟩)
                  | (go_at_call 14; refine (CU2.out q _ _ Sc10.out).mono ?_; rintro e w11 ⟨rfl, Sc11', hb11⟩; have S11 := Lib.hid (S10.out.ext hb11); clear Sc11' hb11 S10 Sc10)
                  | (go_at_call 14; refine (CU2.out p _ _ S11.out).mono ?_; rintro e w12 ⟨rfl, S12', -⟩; have S12 := Lib.hid S12'; clear S12' S11))
                go_returns
                exact ⟨by first | rfl | (simp; done), S12.out.below⟩
  · have CN := Lib.hid (fun w => new_not size hr w)
    clear hr hg hv hnn hv2 hnn2
    go_enter Tryz.func3, Tryz.ntmps3
    go_wp2_with (first | (go_at_call 6; refine (CN.out _).mono ?_; rintro e wb ⟨rfl, hbb⟩) | (go_at_call 5; refine (CF.out _ (ext hba hbb)).mono ?_; rintro e wc ⟨rfl, hbc⟩) | (go_at_call 5; refine (CF.out _ (Below.refl _ _)).mono ?_; rintro e wa ⟨rfl, hba⟩))
    go_returns
    exact ⟨by first | rfl | (simp; done), ext (ext hba hbb) hbc⟩
end Go.Proofs.YtdiaejphgcoknaaGreatDoor
