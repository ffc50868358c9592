/- DiskRoom: the walk. -/
import Derived.Test.YtdiaejphgcoknaaDoorDiskCp
import Derived.Test.YtdiaejphgcoknaaDoorDiskAr
set_option linter.unusedSimpArgs false
set_option linter.unusedVariables false
namespace Go.Proofs.YtdiaejphgcoknaaDoor
open Go.RowKit Go.Extern.Stop Go.Stop Go.Extern

set_option maxRecDepth 100000 in
set_option maxHeartbeats 4000000 in
theorem room_walk (size : Int) (v : Value) (l : List OpP) (name : Bs) (W : World) (hv : OpsV W v l) (hnm : name.length ≤ maxLen) (hg : TypeIs W) :
    Calls Tryd.prog 7 #[.int .i64 size, v, .string ⟨name.toArray⟩] W fun e W' => e = .returned (.bool true) ∧ Below W.heap.size W W' := by
  have HG := Lib.hid hg
  have HV := Lib.hid hv
  have HNM := Lib.hid hnm
  have CF := Lib.hid (fun (w : World) (h : Below W.heap.size W w) => first_any w (hg.ext h))
  obtain ⟨n, hnn⟩ : ∃ n, l.length = n := ⟨_, rfl⟩
  obtain ⟨ao, cap, rfl⟩ := hv.shapeN hnn
  have LN := Lib.hid hnn
  have hl := hv.len
  rw [hnn] at hl
  obtain ⟨ns, hns⟩ : ∃ ns : ByteArray, ns = ⟨name.toArray⟩ := ⟨_, rfl⟩
  have HNS := Lib.hid hns
  rw [← hns]
  by_cases hr : 0 ≤ size ∧ size ≤ 16777216
  · clear hg hv hnn hns hnm
    obtain ⟨hr1, hr2⟩ := hr
    go_enter Tryd.func7, Tryd.ntmps7
    go_wp2_with (go_at_call 8; refine (CF.out _ (Below.refl _ _)).mono ?_; rintro e wa ⟨rfl, hba⟩)
    have CN := Lib.hid (new_any size ⟨hr1, hr2⟩ wa)
    go_wp2_with (go_at_call 9; refine CN.out.mono ?_; rintro e wb ⟨rfl, hD, hbb⟩; have SB := Lib.hid (Stand.new hba hD (has_new rfl) hbb); clear hD)
    refine (few_ops _ l _ (HV.out.ext SB.out.below)).mono ?_
    rintro e wc ⟨fw, rfl, hfw, hbc⟩
    have SC := Lib.hid (SB.out.ext hbc)
    cases fw
    · go_wp2_with (go_at_call 8; refine (CF.out _ SC.out.below).mono ?_; rintro e wd ⟨rfl, hbd⟩)
      go_returns
      exact ⟨by first | rfl | (simp; done), (SC.out.ext hbd).below⟩
    have hn3 : n ≤ 300 := by rw [← LN.out]; exact hfw (by first | trivial | rfl)
    by_cases hbig : 100000 < size
    · clear hfw
      go_wp2_with (go_at_call 8; refine (CF.out _ SC.out.below).mono ?_; rintro e wd ⟨rfl, hbd⟩)
      go_returns
      exact ⟨by first | rfl | (simp; done), (SC.out.ext hbd).below⟩
    obtain ⟨p, hp⟩ : ∃ p, wa.heap.size + 2 = p := ⟨_, rfl⟩
    rw [hp] at SC ⊢
    clear hfw hbc SB hbb hba hp CN
    go_wp2
    go_loopw [9] (fun i wr => ∃ (k : Nat) (L : Lay) (D : DS), k ≤ n ∧ i = .int .i64 k ∧ Stand W p L D wr ∧ Inv D (3 * k) ∧ Full D size) (fun i _ => n - (intOf i).toNat)
    case atStart => exact ⟨0, _, _, Nat.zero_le _, rfl, SC.out, Inv.new ⟨hr1, hr2⟩, full_new hr1⟩
    case round =>
      obtain ⟨k, L, D, hk, rfl, hS, hI, hF⟩ := hrel
      have S := Lib.hid hS
      have HI := Lib.hid hI
      have HF := Lib.hid hF
      clear hS hI hF
      by_cases hlt : k < n
      · have hT : 3 * k ≤ 100000 := by omega
        have hT2 : 3 * k + 3 ≤ 100000 := by omega
        obtain ⟨b, off, vb, vp, rfl, lb, ho0⟩ := HV.out.cellAt (j := k) (by rw [LN.out]; exact hlt)
        have ho := ho0
        generalize l.getD k OpP.nought = o at *
        have HO := Lib.hid ho0
        have CA := Lib.hid (fun w' (h : Stand W p L D w') => h.actN HI.out hT HO.out)
        obtain ⟨c0, c1, c2, c3, c4, c5, ik, i1, -, -, -, -⟩ := ho
        have hcc : ∀ o', wr.cell? ⟨b, o', none⟩ = W.cell? ⟨b, o', none⟩ := fun o' => S.out.below.cell (p := ⟨b, o', none⟩) lb
        rw [← hcc] at c0 c1 c2 c3 c4 c5
        clear hcc ho0
        by_cases g1 : o.kind < 6
        · have HI2 := Lib.hid (HI.out.act o i1)
          have HF2 := Lib.hid (HF.out.act HI.out g1)
          obtain ⟨hu, hll⟩ := HF2.out.says
          generalize actD D o = D2 at *
          generalize actE D o = x at *
          have CU2 := Lib.hid (fun L' w' (h : Stand W p L' D2 w') => h.used HI2.out hT2)
          have CL2 := Lib.hid (fun L' w' (h : Stand W p L' D2 w') => h.list HI2.out hT2)
          generalize usedD D2 = ud at *
          generalize (listD D2).length = ll at *
          clear i1
          unfold in64 at ik
          go_wp2_with (first
            | (go_at_call 28; refine (CU2.out _ _ S3.out).mono ?_; rintro e w4 ⟨rfl, S4', -⟩; have S4 := Lib.hid S4'; clear S4' S3)
            | (go_at_call 28; refine (CU2.out _ _ S2.out).mono ?_; rintro e w3 ⟨rfl, S3', -⟩; have S3 := Lib.hid S3'; clear S3' S2)
            | (go_at_call 29; refine (CL2.out _ _ S4.out).mono ?_; rintro e w5 ⟨lo, lcap, rfl, S5', -⟩; have S5 := Lib.hid S5'; clear S5' S4)
            | (go_at_call 14; refine (CA.out _ S.out).mono ?_; rintro e w2 ⟨rfl, L2, S2', hk2, hn2⟩; have S2 := Lib.hid S2'; clear S2' hk2 hn2))
          go_wp2
          go_roundw
          case rel => exact ⟨k + 1, _, _, by omega, by go_num, S5.out, HI2.out.mono (by omega), HF2.out⟩
          case measure => simp [intOf]; omega
        · have HI2 := Lib.hid (HI.out.mono (show 3 * k ≤ 3 * k + 3 by omega))
          have HF2 := Lib.hid HF.out
          have S2 := Lib.hid S.out
          obtain ⟨hu, hll⟩ := HF2.out.says
          have CU2 := Lib.hid (fun L' w' (h : Stand W p L' D w') => h.used HI2.out hT2)
          have CL2 := Lib.hid (fun L' w' (h : Stand W p L' D w') => h.list HI2.out hT2)
          generalize usedD D = ud at *
          generalize (listD D).length = ll at *
          clear S i1
          unfold in64 at ik
          go_wp2_with (first
            | (go_at_call 28; refine (CU2.out _ _ S3.out).mono ?_; rintro e w4 ⟨rfl, S4', -⟩; have S4 := Lib.hid S4'; clear S4' S3)
            | (go_at_call 28; refine (CU2.out _ _ S2.out).mono ?_; rintro e w3 ⟨rfl, S3', -⟩; have S3 := Lib.hid S3'; clear S3' S2)
            | (go_at_call 29; refine (CL2.out _ _ S4.out).mono ?_; rintro e w5 ⟨lo, lcap, rfl, S5', -⟩; have S5 := Lib.hid S5'; clear S5' S4)
            | (go_at_call 14; refine (CA.out _ S.out).mono ?_; rintro e w2 ⟨rfl, L2, S2', hk2, hn2⟩; have S2 := Lib.hid S2'; clear S2' hk2 hn2))
          go_wp2
          go_roundw
          case rel => exact ⟨k + 1, _, _, by omega, by go_num, S5.out, HI2.out.mono (by omega), HF2.out⟩
          case measure => simp [intOf]; omega
      · obtain rfl : k = n := by omega
        have hT : 3 * k ≤ 100000 := by omega
        obtain ⟨hu, -⟩ := HF.out.says
        obtain ⟨left, hleft⟩ : ∃ left : Nat, (left : Int) = size - usedD D := ⟨(size - usedD D).toNat, by omega⟩
        have q1 : IntKind.i64.wrap (size - (usedD D : Int)) = (left : Int) := by rw [IntWalk.i64_in _ (by omega)]; omega
        have hle : left ≤ 100000 := by omega
        obtain ⟨l1, hl1⟩ : ∃ l1, left + 1 = l1 := ⟨_, rfl⟩
        have q2 : IntKind.i64.wrap ((left : Int) + 1) = (l1 : Int) := by rw [IntWalk.i64_in _ (by omega)]; omega
        have hmk1 := run_makeB l1 (by omega)
        have hmk2 := run_makeB left (by omega)
        have HFE := Lib.hid (fun h0 => full_ends HF.out HI.out (n := name) h0 hleft)
        rw [hl1] at HFE
        have HI1 := Lib.hid (HI.out.appD name [])
        have HI2 := Lib.hid (HI1.out.appD name (List.replicate left 0))
        have CU := Lib.hid (fun w' (h : Stand W p L D w') => h.used HI.out hT)
        have CC := Lib.hid (fun w' (h : Stand W p L D w') => h.copy HI.out hT)
        have C1 := Lib.hid (fun w' (h : Stand W p L D w') => h.append (a := name) (b := []) HI.out hT HNM.out (BytesV.nil w'))
        have C2 := Lib.hid (fun q Lc w' u (h : Stand W q Lc D w') hu => h.append (a := name) (b := List.replicate l1 0) (u := u) HI.out hT HNM.out hu)
        have C3 := Lib.hid (fun L' w' u (h : Stand W p L' (appD D name []) w') hu => h.append (a := name) (b := List.replicate left 0) (u := u) HI1.out (by omega) HNM.out hu)
        have C4 := Lib.hid (fun L' w' (h : Stand W p L' (appD (appD D name []) name (List.replicate left 0)) w') => h.used HI2.out (by omega))
        rw [← HNS.out] at C1 C2 C3
        have HZ1 := Lib.hid (fun w => bytes_zero w l1 (by omega))
        have HZ2 := Lib.hid (fun w => bytes_zero w left (by omega))
        have COPY : True := trivial
        by_cases hx : appE D name [] = 0
        · obtain ⟨e1, e2, e3⟩ := HFE.out hx
          rw [hx] at C1
          rw [e1] at C2
          rw [e2] at C3
          rw [e3] at C4
          clear e1 e2 e3 hx HFE hleft hl1 HI1 HI2
          generalize usedD D = ud at *
          generalize appD (appD D name []) name (List.replicate left 0) = D3 at *
          generalize appD D name [] = D1 at *
          generalize List.replicate l1 0 = z1 at *
          generalize List.replicate left 0 = z2 at *
          go_wp2_with (first
            | (go_at_call 28; refine (CU.out _ S.out).mono ?_; rintro e w1 ⟨rfl, S1', -⟩; have S1 := Lib.hid S1'; clear S1' S)
            | (go_at_call 30; refine (CC.out _ S1.out).mono ?_; rintro e w2 ⟨q, Lc, rfl, Sc', S2', hd', -⟩; have S2 := Lib.hid S2'; have Sc := Lib.hid Sc'; have HD := Lib.hid hd'; clear S2' Sc' hd' S1)
            | (go_at_call 26; refine (C3.out _ _ _ (S4.out.ext (by go_grown)) (HZ2.out _)).mono ?_; rintro e w5 ⟨rfl, L5, S5', -, -⟩; have S5 := Lib.hid S5'; clear S5' S4)
            | (go_at_call 26; refine (C2.out _ _ _ _ (Sc3.out.ext (by go_grown)) (HZ1.out _)).mono ?_; rintro e w4 ⟨rfl, L4, S4', hk4, hn4⟩; have S4 := Lib.hid (Stand.beside (S3.out.ext (by go_grown)) (Stand.apart HD3.out) S4' hk4 hn4).1; clear S4' hk4 hn4 S3 Sc3)
            | (go_at_call 26; refine (C1.out _ S2.out).mono ?_; rintro e w3 ⟨rfl, L3, S3', hk3, hn3'⟩; have S3 := Lib.hid S3'; have Sc3 := Lib.hid (Stand.beside Sc.out HD.out S3' hk3 hn3').1; have HD3 := Lib.hid (Stand.beside Sc.out HD.out S3' hk3 hn3').2; clear S3' hk3 hn3' S2 Sc HD))
          go_wp2_with (first
            | (go_at_call 8; refine (CF.out _ S5.out.below).mono ?_; rintro e w6 ⟨rfl, hb6⟩; have S6 := Lib.hid (S5.out.ext hb6); clear hb6 S5)
            | (go_at_call 16; refine (fail_any _ _).mono ?_; rintro e w7 ⟨rfl, hb7⟩; have S7 := Lib.hid (S6.out.ext hb7); clear hb7 S6)
            | (go_at_call 15; refine (same_any 9 _ (HG.out.ext S7.out.below)).mono ?_; rintro e w8 ⟨rfl, hb8⟩; have S8 := Lib.hid (S7.out.ext hb8); clear hb8 S7)
            | (go_at_call 28; refine (C4.out _ _ S8.out).mono ?_; rintro e w9 ⟨rfl, S9', -⟩; have S9 := Lib.hid S9'; clear S9' S8))
          go_returns
          exact ⟨by first | rfl | (simp; done), S9.out.below⟩
        · have qx := err_ne hx
          clear hx HFE hleft hl1 HI1 HI2 C2 C3 C4
          generalize usedD D = ud at *
          generalize appE D name [] = x at *
          generalize appD D name [] = D1 at *
          go_wp2_with (first
            | (go_at_call 28; refine (CU.out _ S.out).mono ?_; rintro e w1 ⟨rfl, S1', -⟩; have S1 := Lib.hid S1'; clear S1' S)
            | (go_at_call 30; refine (CC.out _ S1.out).mono ?_; rintro e w2 ⟨q, Lc, rfl, Sc', S2', hd', -⟩; have S2 := Lib.hid S2'; clear S2' Sc' hd' S1)
            | (go_at_call 26; refine (C1.out _ S2.out).mono ?_; rintro e w3 ⟨rfl, L3, S3', hk3, hn3'⟩; have S3 := Lib.hid S3'; clear S3' hk3 hn3' S2)
            | (go_at_call 8; refine (CF.out _ S3.out.below).mono ?_; rintro e wd ⟨rfl, hbd⟩))
          go_returns
          exact ⟨by first | rfl | (simp; done), (S3.out.ext hbd).below⟩
  · have CN := Lib.hid (fun w => new_not size hr w)
    clear hr hg hv hnn hns hnm
    go_enter Tryd.func7, Tryd.ntmps7
    go_wp2_with (first | (go_at_call 9; refine (CN.out _).mono ?_; rintro e wb ⟨rfl, hbb⟩) | (go_at_call 8; refine (CF.out _ (ext hba hbb)).mono ?_; rintro e wc ⟨rfl, hbc⟩) | (go_at_call 8; refine (CF.out _ (Below.refl _ _)).mono ?_; rintro e wa ⟨rfl, hba⟩))
    go_returns
    exact ⟨by first | rfl | (simp; done), ext (ext hba hbb) hbc⟩
end Go.Proofs.YtdiaejphgcoknaaDoor
