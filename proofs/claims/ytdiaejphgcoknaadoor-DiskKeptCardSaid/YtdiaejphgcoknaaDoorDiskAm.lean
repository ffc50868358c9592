/- DiskKept: the walk. -/
import Derived.Test.YtdiaejphgcoknaaDoorDiskAl
import Derived.Test.YtdiaejphgcoknaaDoorDiskAk
import Derived.Test.YtdiaejphgcoknaaDoorDiskAn
set_option linter.unusedSimpArgs false
set_option linter.unusedVariables false
namespace Go.Proofs.YtdiaejphgcoknaaDoor
open Go.RowKit Go.Extern.Stop Go.Stop Go.Extern

set_option maxRecDepth 100000 in
set_option maxHeartbeats 4000000 in
theorem kept_walk (v : Value) (l : List OpP) (name : Bs) (v2 : Value) (l2 : List OpP) (u : Value) (picks : List Int) (W : World) (hv : OpsV W v l) (hnm : name.length ≤ maxLen) (hv2 : OpsV W v2 l2) (hu : Ints W u picks) (hg : TypeIs W) :
    Calls Tryd.prog 5 #[v, .string ⟨name.toArray⟩, v2, u] W fun e W' => e = .returned (.bool true) ∧ Below W.heap.size W W' := by
  have HG := Lib.hid hg
  have HV := Lib.hid hv
  have HV2 := Lib.hid hv2
  have HU := Lib.hid hu
  have HNM := Lib.hid hnm
  have CF := Lib.hid (fun (w : World) (h : Below W.heap.size W w) => first_any w (hg.ext h))
  obtain ⟨n, hnn⟩ : ∃ n, l.length = n := ⟨_, rfl⟩
  obtain ⟨ao, cap, rfl⟩ := hv.shapeN hnn
  have LN := Lib.hid hnn
  have hl := hv.len
  rw [hnn] at hl
  obtain ⟨n2, hnn2⟩ : ∃ n2, l2.length = n2 := ⟨_, rfl⟩
  obtain ⟨ao2, cap2, rfl⟩ := hv2.shapeN hnn2
  have LN2 := Lib.hid hnn2
  have hl2 := hv2.len
  rw [hnn2] at hl2
  obtain ⟨ns, hns⟩ : ∃ ns : ByteArray, ns = ⟨name.toArray⟩ := ⟨_, rfl⟩
  have HNS := Lib.hid hns
  obtain ⟨nl, hnl⟩ : ∃ nl, name.length = nl := ⟨_, rfl⟩
  have hsz : ns.size = nl := by rw [hns, ← hnl]; simp [ByteArray.size]
  rw [← hns]
  rw [hnl] at hnm
  unfold maxLen at hnm
  clear hg hv hnn hu hv2 hnn2 hns hnl
  go_enter Tryd.func5, Tryd.ntmps5
  go_wp2_with (go_at_call 8; refine (CF.out _ (Below.refl _ _)).mono ?_; rintro e wa ⟨rfl, hba⟩)
  refine (few_ops _ l _ (HV.out.ext hba)).mono ?_
  rintro e wb ⟨fw, rfl, hfw, hbb⟩
  have HB := Lib.hid (ext hba hbb)
  clear hba hbb
  cases fw
  · go_wp2_with (go_at_call 8; refine (CF.out _ HB.out).mono ?_; rintro e wd ⟨rfl, hbd⟩)
    go_returns
    exact ⟨by first | rfl | (simp; done), ext HB.out hbd⟩
  go_wp2_with fail
  refine (few_ops _ l2 _ (HV2.out.ext HB.out)).mono ?_
  rintro e wc ⟨fw, rfl, hfw2, hbc⟩
  have HC := Lib.hid (ext HB.out hbc)
  clear HB hbc
  cases fw
  · go_wp2_with (go_at_call 8; refine (CF.out _ HC.out).mono ?_; rintro e wd ⟨rfl, hbd⟩)
    go_returns
    exact ⟨by first | rfl | (simp; done), ext HC.out hbd⟩
  have hn3 : n ≤ 300 := by rw [← LN.out]; exact hfw (by first | trivial | rfl)
  have hn4 : n2 ≤ 300 := by rw [← LN2.out]; exact hfw2 (by first | trivial | rfl)
  clear hfw hfw2
  by_cases h1 : 100 < nl
  · go_wp2_with (go_at_call 8; refine (CF.out _ HC.out).mono ?_; rintro e wd ⟨rfl, hbd⟩)
    go_returns
    exact ⟨by first | rfl | (simp; done), ext HC.out hbd⟩
  have CN := Lib.hid (new_any 16777216 (by omega) wc)
  go_wp2_with (go_at_call 9; refine CN.out.mono ?_; rintro e we ⟨rfl, hD, hbe⟩; have SE := Lib.hid (Stand.new HC.out hD (has_new rfl) hbe); clear hD hbe)
  obtain ⟨p, hp⟩ : ∃ p, wc.heap.size + 2 = p := ⟨_, rfl⟩
  rw [hp] at SE ⊢
  clear hp CN HC
  go_loopw [11] (fun i wr => ∃ (k : Nat) (L : Lay) (D : DS), k ≤ n ∧ i = .int .i64 k ∧ Stand W p L D wr ∧ Inv D (3 * k)) (fun i _ => n - (intOf i).toNat)
  case atStart => exact ⟨0, _, _, Nat.zero_le _, rfl, SE.out, Inv.new (by omega)⟩
  case round =>
    obtain ⟨k, L, D, hk, rfl, hS, hI⟩ := hrel
    have S := Lib.hid hS
    have HI := Lib.hid hI
    clear hS hI
    have hT : 3 * k ≤ 100000 := by omega
    by_cases hlt : k < n
    · obtain ⟨b, off, vb, vp, rfl, lb, ho0⟩ := HV.out.cellAt (j := k) (by rw [LN.out]; exact hlt)
      have ho := ho0
      generalize l.getD k OpP.nought = o at *
      have HI2 := Lib.hid (HI.out.act o ho.i1)
      have HO := Lib.hid ho0
      have CA := Lib.hid (fun w' (h : Stand W p L D w') => h.actN HI.out hT HO.out)
      obtain ⟨c0, c1, c2, c3, c4, c5, ik, -, hln, hlt2, -, -⟩ := ho
      have hcc : ∀ o', wr.cell? ⟨b, o', none⟩ = W.cell? ⟨b, o', none⟩ := fun o' => S.out.below.cell (p := ⟨b, o', none⟩) lb
      rw [← hcc] at c0 c1 c2 c3 c4 c5
      have lb2 : b < wr.heap.size := Nat.lt_of_lt_of_le lb S.out.size
      clear hcc ho0
      unfold in64 at ik
      go_wp2_with (go_at_call 14; refine (CA.out _ S.out).mono ?_; rintro e w2 ⟨rfl, L2, S2', hk2, hn2⟩; have S2 := Lib.hid S2'; clear S2')
      go_wp2
      go_roundw
      case rel => exact ⟨k + 1, _, _, by omega, by go_num, S2.out, HI2.out.mono (by omega)⟩
      case measure => simp [intOf]; omega
    · obtain rfl : k = n := by omega
      have HI1 := Lib.hid (HI.out.syncD name)
      have HI2 := Lib.hid (HI1.out.sdirD)
      have CS := Lib.hid (fun w' (h : Stand W p L D w') => h.sync (a := name) HI.out hT HNM.out)
      have CD := Lib.hid (fun L' w' (h : Stand W p L' (syncD D name) w') => h.sdir HI1.out (by omega))
      have CR := Lib.hid (fun L' w' (h : Stand W p L' (sdirD (syncD D name)) w') => h.read (a := name) HI2.out (by omega) HNM.out)
      rw [← HNS.out] at CS CR
      have HKS := Lib.hid (kept_synced (name := name) HI.out)
      by_cases hx1 : syncE D name = 0
      · rw [hx1] at CS
        by_cases hx2 : sdirE (syncD D name) = 0
        · obtain ⟨hnb, hr0, hkp⟩ := HKS.out hx1 hx2
          rw [hx2] at CD
          rw [hr0] at CR
          have HNB := Lib.hid hnb
          have HKP := Lib.hid hkp
          clear HKS hx1 hx2 hnb hr0 hkp HI HI1
          generalize fileN D.names name = fv at *
          generalize sdirD (syncD D name) = D2 at *
          generalize hwas : readV D2 name = was at *
          clear hwas
          generalize syncD D name = D1 at *
          obtain ⟨m, hm⟩ : ∃ m, was.length = m := ⟨_, rfl⟩
          have HMM := Lib.hid hm
          rw [hm] at CR
          clear hm
          go_wp2_with (first
            | (go_at_call 20; refine (CS.out _ S.out).mono ?_; rintro e w2 ⟨rfl, L2, S2', -, -⟩; have S2 := Lib.hid S2'; clear S2')
            | (go_at_call 21; refine (CD.out _ _ S2.out).mono ?_; rintro e w3 ⟨rfl, L3, S3', -, -⟩; have S3 := Lib.hid S3'; clear S3')
            | (go_at_call 22; refine (CR.out _ _ S3.out).mono ?_; rintro e w4 ⟨ao4, cap4, rfl, hcap4, hh4, S4', -⟩; have S4 := Lib.hid S4'; have HH4 := Lib.hid hh4; clear S4' hh4))
          go_loopw [14] (fun i wr => ∃ (j : Nat) (L : Lay) (D : DS), j ≤ n2 ∧ i = .int .i64 j ∧ Stand W p L D wr ∧ Inv D (3 * k + 6 + 3 * j) ∧ Kept name was fv D ∧ Held L p wr (.slice ao4 m cap4) was) (fun i _ => n2 - (intOf i).toNat)
          case atStart => exact ⟨0, _, _, Nat.zero_le _, rfl, S4.out, HI2.out.mono (by omega), HKP.out, HH4.out⟩
          case round =>
            obtain ⟨j, L5, D5, hj, rfl, hS, hI, hKt, hH⟩ := hrel
            have S5 := Lib.hid hS
            have HI5 := Lib.hid hI
            have HK5 := Lib.hid hKt
            have HH5 := Lib.hid hH
            clear hS hI hKt hH
            by_cases hlt2 : j < n2
            · have hT5 : 3 * k + 6 + 3 * j ≤ 100000 := by omega
              obtain ⟨b, off, vb, vp, rfl, lb, ho0⟩ := HV2.out.cellAt (j := j) (by rw [LN2.out]; exact hlt2)
              have ho := ho0
              generalize l2.getD j OpP.nought = o at *
              have HI6 := Lib.hid (HI5.out.act o ho.i1)
              have HKA := Lib.hid (fun hs => HK5.out.act (o := o) HI5.out hs)
              obtain ⟨bo, bcp, hvb⟩ := ho.bytes.shape
              obtain ⟨bl, hbl⟩ : ∃ bl, o.b.length = bl := ⟨_, rfl⟩
              rw [hbl] at hvb
              obtain ⟨po, pcp, hvp, -⟩ := ho.ints
              obtain ⟨pl, hpl⟩ : ∃ pl, o.picks.length = pl := ⟨_, rfl⟩
              rw [hpl] at hvp
              subst hvb hvp
              clear hbl hpl
              have HO := Lib.hid ho0
              have ca := fun w' (h : Stand W p L5 D5 w') => h.actN HI5.out hT5 HO.out
              unfold opV at ca
              have CA := Lib.hid ca
              obtain ⟨c0, c1, c2, c3, c4, c5, ik, -, hln, hlt3, -, -⟩ := ho
              have hcc : ∀ o', wr.cell? ⟨b, o', none⟩ = W.cell? ⟨b, o', none⟩ := fun o' => S5.out.below.cell (p := ⟨b, o', none⟩) lb
              rw [← hcc] at c0 c1 c2 c3 c4 c5
              have lb2 : b < wr.heap.size := Nat.lt_of_lt_of_le lb S5.out.size
              have hn1 : (o.name = name ∧ (⟨o.name.toArray⟩ : ByteArray) = ns) ∨ (o.name ≠ name ∧ ¬ (⟨o.name.toArray⟩ : ByteArray).toList = ns.toList) := by
                by_cases h : o.name = name
                · exact .inl ⟨h, by rw [h, HNS.out]⟩
                · exact .inr ⟨h, fun e => h (by rw [HNS.out] at e; simpa using e)⟩
              have hn2 : (o.to = name ∧ (⟨o.to.toArray⟩ : ByteArray) = ns) ∨ (o.to ≠ name ∧ ¬ (⟨o.to.toArray⟩ : ByteArray).toList = ns.toList) := by
                by_cases h : o.to = name
                · exact .inl ⟨h, by rw [h, HNS.out]⟩
                · exact .inr ⟨h, fun e => h (by rw [HNS.out] at e; simpa using e)⟩
              generalize (⟨o.name.toArray⟩ : ByteArray) = s1 at *
              generalize (⟨o.to.toArray⟩ : ByteArray) = s2 at *
              clear hcc ho0 ca hln hlt3 HO
              unfold in64 at ik
              rcases hn1 with ⟨e1, e2⟩ | ⟨e1, e2⟩
              · subst e2
                by_cases g1 : o.kind = 1
                · have HOS : Hid (OpShuns name o) := ⟨fun _ => g1, fun h => absurd (g1.symm.trans h) (by decide)⟩
                  clear e1 hn2
                  rw [g1] at c0 CA
                  go_wp2_with (go_at_call 14; refine (CA.out _ (S5.out.ext (by go_grown))).mono ?_; rintro e w2 ⟨rfl, L2, S2', hk2, hn9⟩; have S2 := Lib.hid S2'; have HH2 := Lib.hid ((HH5.out.ext (by go_grown)).keep hk2 hn9); clear S2' hk2 hn9)
                  go_wp2
                  go_roundw
                  case rel => exact ⟨j + 1, _, _, by omega, by go_num, S2.out, HI6.out.mono (by omega), HKA.out HOS.out, HH2.out⟩
                  case measure => simp [intOf]; omega
                · have q1 : (o.kind != 1) = true := by simpa using g1
                  clear e1 hn2
                  go_wp2
                  go_roundw
                  case rel => exact ⟨j + 1, _, _, by omega, by go_num, S5.out.ext (by go_grown), HI5.out.mono (by omega), HK5.out, HH5.out.ext (by go_grown)⟩
                  case measure => simp [intOf]; omega
              · by_cases g1 : o.kind = 3
                · rcases hn2 with ⟨e3, e4⟩ | ⟨e3, e4⟩
                  · subst e4
                    clear e1 e3
                    rw [g1] at c0 CA
                    go_wp2
                    go_roundw
                    case rel => exact ⟨j + 1, _, _, by omega, by go_num, S5.out.ext (by go_grown), HI5.out.mono (by omega), HK5.out, HH5.out.ext (by go_grown)⟩
                    case measure => simp [intOf]; omega
                  · have q3 : (s2.toList == ns.toList) = false := by simpa using e4
                    have HOS : Hid (OpShuns name o) := ⟨fun h => absurd h e1, fun _ => e3⟩
                    clear e1 e3
                    rw [g1] at c0 CA
                    go_wp2_with (go_at_call 14; refine (CA.out _ (S5.out.ext (by go_grown))).mono ?_; rintro e w2 ⟨rfl, L2, S2', hk2, hn9⟩; have S2 := Lib.hid S2'; have HH2 := Lib.hid ((HH5.out.ext (by go_grown)).keep hk2 hn9); clear S2' hk2 hn9)
                    go_wp2
                    go_roundw
                    case rel => exact ⟨j + 1, _, _, by omega, by go_num, S2.out, HI6.out.mono (by omega), HKA.out HOS.out, HH2.out⟩
                    case measure => simp [intOf]; omega
                · have HOS : Hid (OpShuns name o) := ⟨fun h => absurd h e1, fun h => absurd h g1⟩
                  have q3 : (o.kind == 3) = false := by simpa using g1
                  clear e1 hn2
                  go_wp2_with (go_at_call 14; refine (CA.out _ (S5.out.ext (by go_grown))).mono ?_; rintro e w2 ⟨rfl, L2, S2', hk2, hn9⟩; have S2 := Lib.hid S2'; have HH2 := Lib.hid ((HH5.out.ext (by go_grown)).keep hk2 hn9); clear S2' hk2 hn9)
                  go_wp2
                  go_roundw
                  case rel => exact ⟨j + 1, _, _, by omega, by go_num, S2.out, HI6.out.mono (by omega), HKA.out HOS.out, HH2.out⟩
                  case measure => simp [intOf]; omega
            · obtain rfl : j = n2 := by omega
              obtain ⟨hr1, hr2, hr3⟩ := kept_read HK5.out HI5.out HNB.out picks
              have HIC := Lib.hid (HI5.out.crashD picks)
              have CC := Lib.hid (S5.out.crashN HI5.out (by omega) HU.out)
              have CR2 := Lib.hid (fun L' w' (h : Stand W p L' (crashD D5 picks) w') => h.read (a := name) HIC.out (by omega) HNM.out)
              rw [← HNS.out, hr1] at CR2
              generalize crashD D5 picks = D6 at *
              generalize readV D6 name = now at *
              obtain ⟨len, hlen⟩ : ∃ len, now.length = len := ⟨_, rfl⟩
              rw [hlen] at CR2 hr2
              rw [HMM.out] at hr2 hr3
              have HR3 := Lib.hid hr3
              have HLE := Lib.hid hlen
              clear hr1 hr3 hlen
              go_wp2_with (first
                | (go_at_call 19; refine CC.out.mono ?_; rintro e w6 ⟨rfl, L6, S6', hk6, hn6⟩; have S6 := Lib.hid S6'; have HH6 := Lib.hid (HH5.out.keep hk6 hn6); clear S6' hk6 hn6)
                | (go_at_call 22; refine (CR2.out _ _ S6.out).mono ?_; rintro e w7 ⟨ao7, cap7, rfl, hcap7, hh7, S7', hb7⟩; have S7 := Lib.hid S7'; have HH7 := Lib.hid hh7; have HW7 := Lib.hid (HH6.out.ext hb7); clear S7' hh7 hb7))
              have j1 : (0 : Int) ≤ (m : Int) := by omega
              have j2 : (m : Int) ≤ (cap7 : Int) := by omega
              have CB := Lib.hid (fun (w : World) (h : Below w7.heap.size w7 w) => rbytes_any (.slice ao7 m cap7) (.slice ao4 m cap4) was was w (by
                have h9 := ((HH7.out.ext h).bytes)
                have h8 := BytesV.cut h9 hr2
                rw [HR3.out] at h8; exact h8) (HW7.out.ext h).bytes)
              have qw : (was == was) = true := by simp
              rw [qw] at CB
              clear qw
              go_wp2_with (first
                | (go_at_call 8; refine (CF.out _ S7.out.below).mono ?_; rintro e wd ⟨rfl, hbd⟩)
                | (go_at_call 23; refine (CB.out _ hbd).mono ?_; rintro e w' ⟨rfl, rfl⟩))
              go_returns
              exact ⟨by first | rfl | (simp; done), (S7.out.ext hbd).below⟩
        · have q2 := err_ne hx2
          rw [hx1] at *
          clear HKS hx2 hx1
          generalize sdirE (syncD D name) = x2 at *
          generalize syncD D name = D1 at *
          go_wp2_with (first
            | (go_at_call 20; refine (CS.out _ S.out).mono ?_; rintro e w2 ⟨rfl, L2, S2', -, -⟩; have S2 := Lib.hid S2'; clear S2')
            | (go_at_call 21; refine (CD.out _ _ S2.out).mono ?_; rintro e w3 ⟨rfl, L3, S3', -, -⟩; have S3 := Lib.hid S3'; clear S3'))
          go_wp2_with (go_at_call 8; refine (CF.out _ S3.out.below).mono ?_; rintro e wd ⟨rfl, hbd⟩)
          go_returns
          exact ⟨by first | rfl | (simp; done), (S3.out.ext hbd).below⟩
      · have q1 := err_ne hx1
        clear HKS hx1
        generalize syncE D name = x1 at *
        generalize syncD D name = D1 at *
        go_wp2_with (go_at_call 20; refine (CS.out _ S.out).mono ?_; rintro e w2 ⟨rfl, L2, S2', -, -⟩; have S2 := Lib.hid S2'; clear S2')
        go_wp2_with (go_at_call 8; refine (CF.out _ S2.out.below).mono ?_; rintro e wd ⟨rfl, hbd⟩)
        go_returns
        exact ⟨by first | rfl | (simp; done), (S2.out.ext hbd).below⟩
end Go.Proofs.YtdiaejphgcoknaaDoor
