/- DiskFalls: the walk. -/
import Derived.Test.YtdiaejphgcoknaaDoorDiskAh
set_option linter.unusedSimpArgs false
set_option linter.unusedVariables false
namespace Go.Proofs.YtdiaejphgcoknaaDoor
open Go.RowKit Go.Extern.Stop Go.Stop Go.Extern

section
variable {W : World} {p : Nat} {L : Lay} {D : DS} {w : World}
theorem Stand.crash (S : Stand W p L D w) {picks : List Int} {u : Value} {T : Nat} (hI : Inv D T) (hT : T ≤ 100000) (hu : Ints W u picks) :
    Calls Tryd.prog 19 #[.pointer (some ⟨p, 0, none⟩), u] w fun e w' => e = .returned (.tuple #[]) ∧ ∃ L', Stand W p L' (crashD D picks) w' ∧ Keep (L.has p) w w' :=
  (crash_any p L D picks u T w S.dp hI hT fun w' hk => hu.ext (S.below.trans (hk.below S.own S.size))).mono fun e w' ⟨he, L', h1, h2, h3⟩ => ⟨he, L', S.keep h1 h2 h3, h3⟩
theorem Stand.arm (S : Stand W p L D w) (n : Int) :
    Calls Tryd.prog 18 #[.pointer (some ⟨p, 0, none⟩), .int .i64 n] w fun e w' => e = .returned (.tuple #[]) ∧ Stand W p L (armD D n) w' :=
  (arm_any p L D n w S.dp).mono fun e w' ⟨he, h1, h3⟩ => ⟨he, S.keep h1 (fun _ hk => .inl hk) (Keep.self h3)⟩
end
set_option maxRecDepth 100000 in
set_option maxHeartbeats 4000000 in
theorem falls_walk (v : Value) (l : List OpP) (m : Int) (u : Value) (picks : List Int) (W : World) (hv : OpsV W v l) (hm : in64 m) (hu : Ints W u picks) (hg : TypeIs W) :
    Calls Tryd.prog 4 #[v, .int .i64 m, u] W fun e W' => e = .returned (.bool true) ∧ Below W.heap.size W W' := by
  have HG := Lib.hid hg
  have HV := Lib.hid hv
  have HU := Lib.hid hu
  have HM := Lib.hid hm
  have CF := Lib.hid (fun (w : World) (h : Below W.heap.size W w) => first_any w (hg.ext h))
  obtain ⟨n, hnn⟩ : ∃ n, l.length = n := ⟨_, rfl⟩
  obtain ⟨ao, cap, rfl⟩ := hv.shapeN hnn
  have LN := Lib.hid hnn
  have hl := hv.len
  rw [hnn] at hl
  clear hg hv hnn hu hm
  go_enter Tryd.func4, Tryd.ntmps4
  go_wp2_with (go_at_call 8; refine (CF.out _ (Below.refl _ _)).mono ?_; rintro e wa ⟨rfl, hba⟩)
  have CN := Lib.hid (new_any 16777216 (by omega) wa)
  go_wp2_with (go_at_call 9; refine CN.out.mono ?_; rintro e wb ⟨rfl, hD, hbb⟩; have SB := Lib.hid (Stand.new hba hD (has_new rfl) hbb); clear hD)
  refine (few_ops _ l _ (HV.out.ext SB.out.below)).mono ?_
  rintro e wc ⟨fw, rfl, hfw, hbc⟩
  have SC := Lib.hid (SB.out.ext hbc)
  cases fw
  · go_wp2_with (go_at_call 8; refine (CF.out _ SC.out.below).mono ?_; rintro e wd ⟨rfl, hbd⟩)
    go_returns
    exact ⟨rfl, (SC.out.ext hbd).below⟩
  · have hn3 : n ≤ 300 := by rw [← LN.out]; exact hfw (by first | trivial | rfl)
    obtain ⟨p, hp⟩ : ∃ p, wa.heap.size + 2 = p := ⟨_, rfl⟩
    rw [hp] at SC ⊢
    clear hfw hbc SB hbb hba hp CN
    by_cases h1 : m < 1
    · go_wp2_with (go_at_call 8; refine (CF.out _ SC.out.below).mono ?_; rintro e wd ⟨rfl, hbd⟩)
      go_returns
      exact ⟨rfl, (SC.out.ext hbd).below⟩
    · by_cases h2 : 400 < m
      · go_wp2_with (go_at_call 8; refine (CF.out _ SC.out.below).mono ?_; rintro e wd ⟨rfl, hbd⟩)
        go_returns
        exact ⟨rfl, (SC.out.ext hbd).below⟩
      · have HA0 := Lib.hid (armed_new (room := 16777216) (n := m) (by omega))
        have HI0 := Lib.hid ((Inv.new (room := 16777216) (by omega)).armD m HM.out)
        go_wp2_with (go_at_call 18; refine (SC.out.arm m).mono ?_; rintro e we ⟨rfl, SE'⟩; have SE := Lib.hid SE'; clear SE' SC)
        go_loopw [9] (fun i wr => ∃ (k : Nat) (L : Lay) (D : DS), k ≤ n ∧ i = .int .i64 k ∧ Stand W p L D wr ∧ Inv D (3 * k + 3) ∧ ArmedAt D m) (fun i _ => n - (intOf i).toNat)
        case atStart => exact ⟨0, _, _, Nat.zero_le _, rfl, SE.out, HI0.out, HA0.out⟩
        case round =>
          obtain ⟨k, L, D, hk, rfl, hS, hI, hA⟩ := hrel
          have S := Lib.hid hS
          have HI := Lib.hid hI
          have HA := Lib.hid hA
          clear hS hI hA
          by_cases hlt : k < n
          · have hT : 3 * k + 3 ≤ 100000 := by omega
            obtain ⟨b, off, vb, vp, rfl, lb, ho0⟩ := HV.out.cellAt (j := k) (by rw [LN.out]; exact hlt)
            have ho := ho0
            generalize l.getD k OpP.nought = o at *
            have HI2 := Lib.hid (HI.out.act o ho.i1)
            have HO := Lib.hid ho0
            have CS := Lib.hid (fun w' h => steps_any p L D w' h)
            have CA := Lib.hid (fun w' (h : Stand W p L D w') => h.act HI.out hT HO.out)
            have CD2 := Lib.hid (fun L' w' h => down_any p L' (actD D o) w' h)
            have CS2 := Lib.hid (fun L' w' h => steps_any p L' (actD D o) w' h)
            obtain ⟨c0, c1, c2, c3, c4, c5, ik, -, -, -, -, -⟩ := ho
            have hcc : ∀ o', wr.cell? ⟨b, o', none⟩ = W.cell? ⟨b, o', none⟩ := fun o' => S.out.below.cell (p := ⟨b, o', none⟩) lb
            rw [← hcc] at c0 c1 c2 c3 c4 c5
            clear hcc ho0
            unfold in64 at ik
            by_cases g1 : 0 ≤ o.kind
            · by_cases g2 : o.kind < 6
              · obtain ⟨ha1, ha2⟩ := armed_act (o := o) HA.out ⟨g1, by omega⟩
                have HA2 := Lib.hid ha1
                obtain ⟨hs1, hs2⟩ := armed_says ha1
                generalize actD D o = D2 at *
                generalize actE D o = x at *
                cases hdn : D2.down with
                | true =>
                  have hd3 := hs2.1 hdn
                  rw [hd3] at CS2 ha2
                  rw [hdn] at CD2
                  generalize D.done = d1 at *
                  clear hdn hs1 hs2 ha1 hd3
                  go_wp2_with (first
                    | (go_at_call 13; refine (CS.out _ S.out.dp).mono ?_; rintro e w' ⟨rfl, rfl⟩)
                    | (go_at_call 14; refine (CA.out _ S.out).mono ?_; rintro e w2 hq; obtain ⟨rfl, L2, S2', hk2⟩ := hq; have S2 := Lib.hid S2'; clear S2' hk2 S)
                    | (go_at_call 13; refine (CS2.out _ _ S2.out.dp).mono ?_; rintro e w' ⟨rfl, rfl⟩)
                    | (go_at_call 12; refine (CD2.out _ _ S2.out.dp).mono ?_; rintro e w' ⟨rfl, rfl⟩))
                  go_wp2
                  go_roundw
                  case rel => exact ⟨k + 1, _, _, by omega, by go_num, S2.out, HI2.out.mono (by omega), HA2.out⟩
                  case measure => simp [intOf]; omega
                | false =>
                  have hd3 : ¬ D2.done = m := fun h => by have := hs2.2 h; rw [hdn] at this; cases this
                  rw [hdn] at CD2
                  generalize D.done = d1 at *
                  generalize D2.done = d2 at *
                  have q1 : (d2 == m) = false := by simpa using hd3
                  clear hdn hs2 ha1 hd3
                  go_wp2_with (first
                    | (go_at_call 13; refine (CS.out _ S.out.dp).mono ?_; rintro e w' ⟨rfl, rfl⟩)
                    | (go_at_call 14; refine (CA.out _ S.out).mono ?_; rintro e w2 hq; obtain ⟨rfl, L2, S2', hk2⟩ := hq; have S2 := Lib.hid S2'; clear S2' hk2 S)
                    | (go_at_call 13; refine (CS2.out _ _ S2.out.dp).mono ?_; rintro e w' ⟨rfl, rfl⟩)
                    | (go_at_call 12; refine (CD2.out _ _ S2.out.dp).mono ?_; rintro e w' ⟨rfl, rfl⟩))
                  go_wp2
                  go_roundw
                  case rel => exact ⟨k + 1, _, _, by omega, by go_num, S2.out, HI2.out.mono (by omega), HA2.out⟩
                  case measure => simp [intOf]; omega
              · go_wp2
                go_roundw
                case rel => exact ⟨k + 1, _, _, by omega, by go_num, S.out, HI.out.mono (by omega), HA.out⟩
                case measure => simp [intOf]; omega
            · go_wp2
              go_roundw
              case rel => exact ⟨k + 1, _, _, by omega, by go_num, S.out, HI.out.mono (by omega), HA.out⟩
              case measure => simp [intOf]; omega
          · obtain rfl : k = n := by omega
            have HCF := Lib.hid (crash_files HI.out picks)
            have HIC := Lib.hid (HI.out.crashD picks)
            have CC := Lib.hid (S.out.crash HI.out (by omega) HU.out)
            have CDN := Lib.hid (fun L' w' h => down_any p L' (crashD D picks) w' h)
            have CST := Lib.hid (fun L' w' h => steps_any p L' (crashD D picks) w' h)
            rw [show (crashD D picks).down = false from rfl] at CDN
            rw [show (crashD D picks).done = 0 from rfl] at CST
            have hT : 3 * k + 3 + 3 ≤ 100000 := by omega
            generalize crashD D picks = D2 at *
            go_wp2_with (first
              | (go_at_call 19; refine CC.out.mono ?_; rintro e w2 ⟨rfl, L2, S2', hk2⟩; have S2 := Lib.hid S2'; clear S2' hk2 S)
              | (go_at_call 11; refine (S2.out.files HIC.out hT).mono ?_; rintro e w3 ⟨fo, fc, rfl, hfs, S3', hb3⟩; have S3 := Lib.hid S3'; have HF := Lib.hid hfs; clear S3' hfs hb3)
              | (go_at_call 12; refine (CDN.out _ _ S3.out.dp).mono ?_; rintro e w' ⟨rfl, rfl⟩)
              | (go_at_call 13; refine (CST.out _ _ S3.out.dp).mono ?_; rintro e w' ⟨rfl, rfl⟩))
            have hfl := filesD_le HIC.out
            obtain ⟨fn, hfn⟩ : ∃ fn, (filesD D2).length = fn := ⟨_, rfl⟩
            have HFN := Lib.hid hfn
            rw [hfn] at HF hfl ⊢
            clear hfn
            go_loopw [12] (fun i wr => ∃ j : Nat, j ≤ fn ∧ i = .int .i64 j ∧ Below w3.heap.size w3 wr) (fun i _ => fn - (intOf i).toNat)
            case atStart => exact ⟨0, Nat.zero_le _, rfl, Below.refl _ _⟩
            case round =>
              obtain ⟨j, hj, rfl, hb⟩ := hrel
              by_cases hlt : j < fn
              · obtain ⟨b, po, rfl, lb, c0, c1, c2, fv⟩ := (HF.out.ext hb).cellAt (j := j) (by rw [HFN.out]; exact hlt)
                have hmem : (filesD D2).getD j FV.nought ∈ filesD D2 := by rw [List.getD_eq_getElem?_getD, List.getElem?_eq_getElem (by rw [HFN.out]; exact hlt)]; exact List.getElem_mem _
                have hsafe := HCF.out _ hmem
                generalize (filesD D2).getD j FV.nought = f at *
                obtain ⟨nm, dt, sf⟩ := f
                simp only at c0 c1 c2 fv hsafe
                obtain ⟨ao2, dcap, rfl⟩ := rowShape fv
                rw [hsafe] at c2
                generalize dt.length = len at *
                have q : ((len : Int) != (len : Int)) = false := by simp
                clear fv hmem hsafe c0
                go_wp2
                go_quiet (fail)
                go_wp2
                go_roundw
                case rel => exact ⟨j + 1, by omega, by go_num, by first | exact hb | exact hb.drew | exact below_drewN' hb _⟩
                case measure => simp [intOf]; omega
              · go_wp2_with (go_at_call 8; refine (CF.out _ (S3.out.ext hb).below).mono ?_; rintro e wd ⟨rfl, hbd⟩)
                go_returns
                exact ⟨rfl, ((S3.out.ext hb).ext hbd).below⟩
end Go.Proofs.YtdiaejphgcoknaaDoor
