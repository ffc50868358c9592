/- disk: Crash: contract. -/
import Derived.Test.YtdiaejphgcoknaaGreatDoorDiskY
set_option linter.unusedSimpArgs false
set_option linter.unusedVariables false
namespace Go.Proofs.YtdiaejphgcoknaaGreatDoor
open Go.RowKit Go.Extern.Stop Go.Stop Go.Extern Go.Maps Go.Sort

def CrashPost (p : Nat) (L : Lay) (D' : DS) (w : World) (e : Ending) (w' : World) : Prop :=
  e = .returned (.tuple #[]) ∧ ∃ L', DP w' p L' D' ∧ (∀ k, L'.has p k → L.has p k ∨ w.heap.size ≤ k) ∧ Keep (L.has p) w w'
theorem has_fv {p : Nat} {L : Lay} {fv fv' : List Value} (hl : fv'.length = fv.length) {k : Nat} (hb : ∀ j, j < fv.length → (fv'.getD j .nilIface).ownBlock = (fv.getD j .nilIface).ownBlock) (h : ({ L with fv := fv' } : Lay).has p k) : ({ L with fv := fv } : Lay).has p k := by
  rcases h with h | h | h | h | h | ⟨i, hi, h⟩
  · exact .inl h
  · exact .inr (.inl h)
  · exact .inr (.inr (.inl h))
  · exact .inr (.inr (.inr (.inl h)))
  · exact .inr (.inr (.inr (.inr (.inl h))))
  · refine .inr (.inr (.inr (.inr (.inr ⟨i, by rw [← hl]; exact hi, ?_⟩))))
    have := hb i (by rw [← hl]; exact hi)
    show (fv.getD i .nilIface).ownBlock = some k
    rw [← this]; exact h
theorem pickV_le (picks : List Int) (i most : Nat) : pickV picks i most ≤ most := by
  unfold pickV
  split
  · exact Nat.le_of_lt_succ (Nat.mod_lt _ (by omega))
  · omega
set_option maxRecDepth 100000 in
set_option maxHeartbeats 4000000 in
theorem crash_any (p : Nat) (L : Lay) (D : DS) (picks : List Int) (u : Value) (T : Nat) (w : World) (h : DP w p L D) (hI : Inv D T) (hT : T ≤ 100000) (hu : ∀ w', Keep (L.has p) w w' → Ints w' u picks) :
    Calls Tryz.prog 18 #[.pointer (some ⟨p, 0, none⟩), u] w (CrashPost p L (crashD D picks) w) := by
  have CL := Lib.hid (left_any p L D T w h hI hT)
  have H := Lib.hid h
  have HI := Lib.hid hI
  have HU := Lib.hid hu
  have hsl := hI.stp
  have hll := leftS_len hI
  obtain ⟨so, scp, hvs⟩ := rowShape h.stp
  obtain ⟨ns, hns⟩ : ∃ ns, D.steps.length = ns := ⟨_, rfl⟩
  have HNS := Lib.hid hns
  rw [hns] at hvs hsl
  have HVS := Lib.hid hvs
  have c4 : w.cell? ⟨p, 4, none⟩ = some (.slice so ns scp) := (h.cell 4).trans (congrArg some hvs)
  have PK := Lib.hid (pick_any u picks 0 ns w (hu w (Keep.refl _ _)) (by omega) (by omega))
  have hK := pickV_le picks 0 ns
  obtain ⟨K, hKK⟩ : ∃ K, pickV picks 0 ns = K := ⟨_, rfl⟩
  have HK := Lib.hid hKK
  rw [hKK] at PK hK
  obtain ⟨ln, hln⟩ : ∃ ln, (leftS D).length = ln := ⟨_, rfl⟩
  have HLN := Lib.hid hln
  rw [hln] at hll
  clear h hI hu hns hvs hKK hln
  go_enter Tryz.func18, Tryz.ntmps18
  go_wp2_with (first
    | (go_at_call 40; refine PK.out.mono ?_; rintro e w' ⟨rfl, e2⟩; have e3 := e2.symm; clear e2; subst e3)
    | (go_at_call 41; refine CL.out.mono ?_; rintro e w1 ⟨v, rfl, hrow, hb1⟩; rw [HLN.out] at hrow; obtain ⟨lo, lcap, rfl⟩ := rowShape hrow; have HR := Lib.hid hrow; clear hrow))
  have HB1 := Lib.hid hb1
  go_loopw [5, 23] (fun i idx wr => ∃ (k : Nat) (fv : List Value), k ≤ ln ∧ idx = .int .i64 (k : Int) ∧ i = .int .i64 ((cutK picks D k).2 : Int) ∧ DP wr p { L with fv := fv } { D with all := (cutK picks D k).1 } ∧ fv.length = L.fv.length ∧ (∀ j, j < L.fv.length → (fv.getD j .nilIface).ownBlock = (L.fv.getD j .nilIface).ownBlock) ∧ Keep (L.has p) w1 wr) (fun _ idx _ => ln - (intOf idx).toNat)
  case atStart => exact ⟨0, L.fv, Nat.zero_le _, rfl, rfl, H.out.stays (fun k hk => hb1.block k (H.out.lt hk)), rfl, fun _ _ => rfl, Keep.refl _ _⟩
  case round =>
    obtain ⟨k, fv, hk, rfl, rfl, hD, hfl, hfo, hkp⟩ := hrel
    have HD := Lib.hid hD
    have HKP := Lib.hid hkp
    have HFO := Lib.hid hfo
    have HFL := Lib.hid hfl
    have hck := cutK_le picks D k
    clear hD hkp hfo hfl
    by_cases hlt : k < ln
    · have hkl : k < (leftS D).length := by rw [HLN.out]; exact hlt
      have HCS := Lib.hid (cutK_succ picks D hkl)
      have hno : (leftS D).getD k 0 < D.all.length := leftS_lt HI.out _ (by rw [List.getD_eq_getElem?_getD, List.getElem?_eq_getElem hkl]; exact List.getElem_mem hkl)
      have HOK := Lib.hid (cutK_ok (picks := picks) HI.out k _ hno)
      have HR2 : Hid (wr.ownsRow w.heap.size 3 1 (.slice lo ln lcap) ln ((leftS D).map natI)) := row_of_block HR.out fun b e => HKP.out.block b (HR.out.lt b e).2 fun hh => absurd (H.out.lt hh) (by have := (HR.out.lt b e).1; omega)
      obtain ⟨gl, hlo, hcl⟩ : ∃ gl, lo = some ⟨gl, 0, none⟩ ∧ wr.cell? ⟨gl, k, none⟩ = some (.int .i64 (((leftS D).getD k 0 : Nat) : Int)) := by
        rcases row_head HR2.out with ⟨_, h0⟩ | ⟨g, cap', e, -, hl2, -⟩
        · omega
        · obtain ⟨rfl, -, rfl⟩ := Value.slice.inj e
          refine ⟨g, rfl, row_cellAt HR2.out ?_⟩
          simp [List.getElem?_map, List.getElem?_eq_getElem hkl, List.getD_eq_getElem?_getD, natI]
      subst hlo
      have hcl2 := cutK_len picks D k
      generalize (leftS D).getD k 0 = no at *
      obtain ⟨A, i, hA⟩ : ∃ A i, cutK picks D k = (A, i) := ⟨_, _, rfl⟩
      rw [hA] at HD HCS HOK hcl2 hck ⊢
      simp only at hcl2 hck
      have hnoA : no < A.length := by rw [hcl2]; exact hno
      have HNO := Lib.hid hnoA
      obtain ⟨nn, hnn⟩ : ∃ nn, A.length = nn := ⟨_, rfl⟩
      have HNN := Lib.hid hnn
      have hn100 : A.length ≤ 100000 := by rw [hcl2]; have := HI.out.cnt; omega
      obtain ⟨g, cap9, hva, hgl, hgp, k0, k1, kf⟩ := HD.out.head (j := no) hnoA
      have hva2 : L.va = .slice (some ⟨g, 0, none⟩) nn cap9 := by rw [← hnn]; exact hva
      have HVA := Lib.hid hva2
      obtain ⟨ao2, dcap, hdv⟩ := rowShape (HD.out.dat no hnoA)
      obtain ⟨f, hf⟩ : ∃ f, A.getD no DF.nought = f := ⟨_, rfl⟩
      have hfile : ({ D with all := A } : DS).file no = f := hf
      have HF := Lib.hid hfile
      have hok : f.safe ≤ f.data.length ∧ f.data.length ≤ 16777216 := by rw [← hf]; exact HOK.out
      rw [hfile] at k1 hdv
      rw [hdv] at k0
      have HDV := Lib.hid hdv
      obtain ⟨xs, sf⟩ := f
      simp only at hok k0 k1 hdv
      obtain ⟨len, hlen⟩ : ∃ len, xs.length = len := ⟨_, rfl⟩
      have HLE := Lib.hid hlen
      rw [hlen] at hok k0 hdv
      have c1 : wr.cell? ⟨p, 1, none⟩ = some (.slice (some ⟨g, 0, none⟩) nn cap9) := (HD.out.cell 1).trans (congrArg some hva2)
      have i1 : (0 : Int) ≤ (no : Int) := by omega
      have i2 : (no : Int) < (nn : Int) := by omega
      have KW0 : Keep (L.has p) w wr := (Keep.of_below HB1.out).trans HKP.out
      have kf0 := kf (no * 2)
      have kf1 := kf (no * 2 + 1)
      have q : IntKind.i64.wrap ((len : Int) - (sf : Int)) = ((len - sf : Nat) : Int) := by rw [IntWalk.i64_in _ (by omega)]; omega
      have hm1 : len - sf ≤ 16777216 := by omega
      have hCF : cutF picks i ⟨xs, sf⟩ = if 0 < len - sf then ⟨xs.take (sf + pickV picks i (len - sf)), (xs.take (sf + pickV picks i (len - sf))).length⟩ else ⟨xs, len⟩ := by
        unfold cutF
        simp only [hlen]
        by_cases h9 : sf < len
        · rw [if_pos h9, if_pos (by omega)]
        · rw [if_neg h9, if_neg (by omega)]
      have hCI : cutI i ⟨xs, sf⟩ = if 0 < len - sf then i + 1 else i := by
        unfold cutI
        simp only [hlen]
        by_cases h9 : sf < len
        · rw [if_pos h9, if_pos (by omega)]
        · rw [if_neg h9, if_neg (by omega)]
      obtain ⟨m, hm⟩ : ∃ m, len - sf = m := ⟨_, rfl⟩
      rw [hm] at q hm1 hCF hCI
      have HM := Lib.hid hm
      have HCF := Lib.hid hCF
      have HCI := Lib.hid hCI
      have HKF := Lib.hid kf
      have HA := Lib.hid hA
      have HFA := Lib.hid hf
      have S6 := Lib.hid (show wr.drew.cell? ⟨g, no * 2, none⟩ = some (.slice ao2 len dcap) ∧ wr.drew.cell? ⟨g, no * 2 + 1, none⟩ = some (.int .i64 (sf : Int)) from ⟨k0, k1⟩)
      clear hkl hno hcl2 hnoA hnn hva hdv hva2 hf hfile hlen hm hCF hCI kf hA hgp
      by_cases hm0 : 0 < m
      · have d1 : decide ((m : Int) > 0) = true := decide_eq_true (by omega)
        go_wp2
        go_region_held3 (fun w' => w'.cell? ⟨g, no * 2, none⟩ = some (.slice ao2 len dcap) ∧ w'.cell? ⟨g, no * 2 + 1, none⟩ = some (.int .i64 (sf : Int)))
          (first | with_reducible exact S6.out | exact S6.out | go_keep)
          (fail)
        go_wp2
        have hpl := pickV_le picks i m
        have PK8 := Lib.hid (pick_any u picks i m wr.drew.drew (HU.out _ (KW0.trans ⟨rfl, rfl, rfl, Nat.le_refl _, fun _ _ _ => rfl⟩)) (by omega) (by omega))
        obtain ⟨P, hP⟩ : ∃ P, pickV picks i m = P := ⟨_, rfl⟩
        have HP := Lib.hid hP
        rw [hP] at PK8 hpl
        obtain ⟨M, hM⟩ : ∃ M, sf + P = M := ⟨_, rfl⟩
        have q8 : IntKind.i64.wrap ((sf : Int) + (P : Int)) = (M : Int) := by rw [IntWalk.i64_in _ (by omega)]; omega
        have hML : M ≤ len := by have := HM.out; omega
        obtain ⟨gd, hao, hdc⟩ : ∃ gd, ao2 = some ⟨gd, 0, none⟩ ∧ len ≤ dcap := by
          have hr := HD.out.dat no HNO.out
          rw [HDV.out, HF.out] at hr
          rcases row_head hr with ⟨_, h0⟩ | ⟨gd, cap', e, -, -, hc1, -⟩
          · exfalso; have := HM.out; have h9 : xs.length = 0 := h0; have := HLE.out; omega
          · obtain ⟨rfl, -, rfl⟩ := Value.slice.inj e
            exact ⟨gd, rfl, by rw [← HLE.out]; exact hc1⟩
        subst hao
        have j1 : (0 : Int) ≤ (M : Int) := by omega
        have j2 : (M : Int) ≤ (dcap : Int) := by omega
        have e0 : wr.drew.drew.cell? ⟨g, no * 2, none⟩ = some (.slice (some ⟨gd, 0, none⟩) len dcap) := k0
        have e1 : wr.drew.drew.cell? ⟨g, no * 2 + 1, none⟩ = some (.int .i64 (sf : Int)) := k1
        have ef0 : wr.drew.drew.frozen? ⟨g, no * 2, none⟩ = false := kf0
        have HD6 := Lib.hid ((show DP wr.drew.drew p { L with fv := fv } { D with all := A } from HD.out.stays fun _ _ => rfl).cut (j := no) HNO.out HVA.out (m := M) HDV.out (by rw [HF.out]) (by have := HLE.out; omega))
        have HMM := Lib.hid hM
        have HD7 : Hid (DP ((wr.drew.drew.setCell ⟨g, no * 2, none⟩ (.slice (some ⟨gd, 0, none⟩) M dcap)).setCell ⟨g, no * 2 + 1, none⟩ (.int .i64 (M : Int))) p { L with fv := fv.set no (.slice (some ⟨gd, 0, none⟩) M dcap) } { D with all := (cutK picks D (k + 1)).1 }) := by
          have h7 := HD6.out.safeSet (j := no) (by show no < (setF A no _).length; rw [length_setF]; exact HNO.out) HVA.out M
          have e : (cutK picks D (k + 1)).1 = setF A no ⟨xs.take M, M⟩ := by
            rw [HCS.out]
            show setF A no (cutF picks i (A.getD no DF.nought)) = _
            rw [HFA.out, HCF.out, if_pos hm0, HP.out, HMM.out, List.length_take, HLE.out, Nat.min_eq_left hML]
          rw [e]
          have e2 : ({ D with all := A } : DS).file no = ⟨xs, sf⟩ := HF.out
          rw [e2] at h7
          have e3 : ({ D with all := setF A no ⟨xs.take M, sf⟩ } : DS).file no = ⟨xs.take M, sf⟩ := by
            show (setF A no _).getD no DF.nought = _
            rw [getD_setF, if_pos ⟨rfl, HNO.out⟩]
          have e4 : setF (setF A no ⟨xs.take M, sf⟩) no ⟨xs.take M, M⟩ = setF A no ⟨xs.take M, M⟩ := List.set_set ..
          have h8 : DP ((wr.drew.drew.setCell ⟨g, no * 2, none⟩ (.slice (some ⟨gd, 0, none⟩) M dcap)).setCell ⟨g, no * 2 + 1, none⟩ (.int .i64 (M : Int))) p { L with fv := fv.set no (.slice (some ⟨gd, 0, none⟩) M dcap) } { D with all := setF (setF A no ⟨xs.take M, sf⟩) no ⟨(({ D with all := setF A no ⟨xs.take M, sf⟩ } : DS).file no).data, M⟩ } := h7
          rw [e3] at h8
          rw [← e4]
          exact h8
        have hfvl : no < fv.length := by have := HD.out.len; have h9 : fv.length = A.length := this; rw [h9]; exact HNO.out
        obtain ⟨z0, z1, zf⟩ : (wr.setCell ⟨g, no * 2, none⟩ (.slice (some ⟨gd, 0, none⟩) M dcap)).cell? ⟨g, no * 2, none⟩ = some (.slice (some ⟨gd, 0, none⟩) M dcap) ∧ (wr.setCell ⟨g, no * 2, none⟩ (.slice (some ⟨gd, 0, none⟩) M dcap)).cell? ⟨g, no * 2 + 1, none⟩ = some (.int .i64 (sf : Int)) ∧ (wr.setCell ⟨g, no * 2, none⟩ (.slice (some ⟨gd, 0, none⟩) M dcap)).frozen? ⟨g, no * 2 + 1, none⟩ = false := by
          show (wr.drew.drew.setCell ⟨g, no * 2, none⟩ (.slice (some ⟨gd, 0, none⟩) M dcap)).cell? ⟨g, no * 2, none⟩ = some (.slice (some ⟨gd, 0, none⟩) M dcap) ∧ (wr.drew.drew.setCell ⟨g, no * 2, none⟩ (.slice (some ⟨gd, 0, none⟩) M dcap)).cell? ⟨g, no * 2 + 1, none⟩ = some (.int .i64 (sf : Int)) ∧ (wr.drew.drew.setCell ⟨g, no * 2, none⟩ (.slice (some ⟨gd, 0, none⟩) M dcap)).frozen? ⟨g, no * 2 + 1, none⟩ = false
          obtain ⟨g2, cap2, e2, -, -, y0, y1, yf⟩ := HD6.out.head (j := no) (by show no < (setF A no _).length; rw [length_setF]; exact HNO.out)
          obtain rfl : g = g2 := by have h9 : L.va = _ := e2; rw [HVA.out] at h9; simp at h9; exact h9.1
          refine ⟨?_, ?_, yf _⟩
          · rw [y0]; unfold Lay.at; simp [List.getD_eq_getElem?_getD, hfvl]
          · rw [y1]; have e9 : ({ D with all := setF A no ⟨(({ D with all := A } : DS).file no).data.take M, (({ D with all := A } : DS).file no).safe⟩ } : DS).file no = ⟨xs.take M, sf⟩ := by
              show (setF A no _).getD no DF.nought = _
              rw [getD_setF, if_pos ⟨rfl, HNO.out⟩, HF.out]
            exact congrArg (fun x : DF => some (Value.int .i64 (x.safe : Int))) e9
        have q9 : IntKind.i64.wrap ((i : Int) + 1) = ((i + 1 : Nat) : Int) := by rw [IntWalk.i64_in _ (by omega)]; omega
        have HI2 : Hid ((cutK picks D (k + 1)).2 = i + 1) := by
          show _ = _
          rw [HCS.out]
          show cutI i (A.getD no DF.nought) = _
          rw [HFA.out, HCI.out, if_pos hm0]
        have HOW8 : Hid (∀ j, j < L.fv.length → ((fv.set no (.slice (some ⟨gd, 0, none⟩) M dcap)).getD j .nilIface).ownBlock = (L.fv.getD j .nilIface).ownBlock) := fun j hj => by
          rw [← HFO.out j hj]
          by_cases e : no = j
          · subst e
            have h9 : fv.getD no .nilIface = .slice (some ⟨gd, 0, none⟩) xs.length dcap := HDV.out
            rw [h9]
            simp [List.getD_eq_getElem?_getD, hfvl, Value.ownBlock]
          · simp [List.getD_eq_getElem?_getD, e]
        have hgo : L.va.ownBlock = some g := by rw [HVA.out]; rfl
        have HKP8 : Hid (Keep (L.has p) w1 (((wr.setCell ⟨g, no * 2, none⟩ (.slice (some ⟨gd, 0, none⟩) M dcap)).setCell ⟨g, no * 2 + 1, none⟩ (.int .i64 (M : Int))).drew.drew)) :=
          ((HKP.out.trans (Keep.grown (grown_set _ _ _ _) fun k hk => by cases hk; exact .inr (.inl hgo))).trans (Keep.grown (grown_set _ _ _ _) fun k hk => by cases hk; exact .inr (.inl hgo))).trans ⟨rfl, rfl, rfl, Nat.le_refl _, fun _ _ _ => rfl⟩
        clear hP hM k0 k1 hgo
        go_region_with ((go_at_call 40; refine PK8.out.mono ?_; rintro e w' ⟨rfl, rfl⟩))
        all_goals
          clear e0 e1 ef0
          go_wp2
          go_roundw
          case rel => exact ⟨k + 1, fv.set no (.slice (some ⟨gd, 0, none⟩) M dcap), by omega, by go_num, by rw [HI2.out]; exact int_eq (by omega), HD7.out.stays (fun _ _ => rfl), by rw [List.length_set]; exact HFL.out, HOW8.out, HKP8.out⟩
          case measure => simp [intOf]; omega
      · have d1 : decide ((m : Int) > 0) = false := decide_eq_false (by omega)
        obtain rfl : m = 0 := by omega
        have e0 : wr.drew.cell? ⟨g, no * 2, none⟩ = some (.slice ao2 len dcap) := k0
        have ef1 : wr.frozen? ⟨g, no * 2 + 1, none⟩ = false := kf1
        have HD7 : Hid (DP (wr.setCell ⟨g, no * 2 + 1, none⟩ (.int .i64 (len : Int))) p { L with fv := fv } { D with all := (cutK picks D (k + 1)).1 }) := by
          have h7 := HD.out.safeSet (j := no) HNO.out HVA.out len
          have e : (cutK picks D (k + 1)).1 = setF A no ⟨xs, len⟩ := by
            rw [HCS.out]
            show setF A no (cutF picks i (A.getD no DF.nought)) = _
            rw [HFA.out, HCF.out, if_neg (by omega)]
          rw [e]
          have e2 : ({ D with all := A } : DS).file no = ⟨xs, sf⟩ := HF.out
          rw [e2] at h7
          exact h7
        have HI2 : Hid ((cutK picks D (k + 1)).2 = i) := by
          show _ = _
          rw [HCS.out]
          show cutI i (A.getD no DF.nought) = _
          rw [HFA.out, HCI.out, if_neg (by omega)]
        have hgo : L.va.ownBlock = some g := by rw [HVA.out]; rfl
        have HKP8 : Hid (Keep (L.has p) w1 ((wr.setCell ⟨g, no * 2 + 1, none⟩ (.int .i64 (len : Int))).drew)) :=
          (HKP.out.trans (Keep.grown (grown_set _ _ _ _) fun k hk => by cases hk; exact .inr (.inl hgo))).trans ⟨rfl, rfl, rfl, Nat.le_refl _, fun _ _ _ => rfl⟩
        clear hgo
        go_wp2
        go_region_held3 (fun w' => w'.cell? ⟨g, no * 2, none⟩ = some (.slice ao2 len dcap) ∧ w'.cell? ⟨g, no * 2 + 1, none⟩ = some (.int .i64 (sf : Int)))
          (first | with_reducible exact S6.out | exact S6.out | go_keep)
          (fail)
        go_wp2
        go_roundw
        case rel => exact ⟨k + 1, fv, by omega, by go_num, by rw [HI2.out], HD7.out.stays (fun _ _ => rfl), HFL.out, HFO.out, HKP8.out⟩
        case measure => simp [intOf]; omega
    · obtain rfl : k = ln := by omega
      have HAL : Hid ((cutK picks D k).1 = cutTo picks (leftS D) D.all 1) := by show _ = _; rw [← HLN.out]; exact cutK_all picks D
      have HCL := Lib.hid (cutK_len picks D k)
      generalize (cutK picks D k).2 = i at *
      generalize (cutK picks D k).1 = A at *
      obtain ⟨wl, hwl⟩ : ∃ wl, wl = wr := ⟨_, rfl⟩
      subst hwl
      have c3 : wl.cell? ⟨p, 3, none⟩ = some (.map (some L.bs)) := HD.out.cell 3
      have d4 : wl.cell? ⟨p, 4, none⟩ = some (.slice so ns scp) := (HD.out.cell 4).trans (congrArg some HVS.out)
      have hcap : ns ≤ scp := by
        have hr := H.out.stp
        rw [HVS.out, HNS.out] at hr
        rcases row_head hr with ⟨e, h0⟩ | ⟨g, cap', e, -, -, hc, -⟩
        · omega
        · obtain ⟨-, -, rfl⟩ := Value.slice.inj e; exact hc
      have j1 : (0 : Int) ≤ (K : Int) := by omega
      have j2 : (K : Int) ≤ (scp : Int) := by omega
      go_wp2
      go_loopw [84] (fun idx wr => ∃ k2 : Nat, k2 ≤ K ∧ idx = .int .i64 (k2 : Int) ∧ DP wr p { L with fv := fv } { D with all := A, safe := (D.steps.take k2).foldl actN D.safe } ∧ Keep (L.has p) wl wr) (fun idx _ => K - (intOf idx).toNat)
      case atStart => exact ⟨0, Nat.zero_le _, rfl, HD.out, Keep.refl _ _⟩
      case round =>
        obtain ⟨k2, hk2, rfl, hD2, hkp2⟩ := hrel
        have HD2 := Lib.hid hD2
        have HKP2 := Lib.hid hkp2
        clear hD2 hkp2
        by_cases hlt2 : k2 < K
        · have hks : k2 < D.steps.length := by rw [HNS.out]; omega
          obtain ⟨r1, r2, r3, r4, r5⟩ := HI.out.runs.at hks
          have hml := length_acts (D.steps.take k2) D.safe
          have hml2 : ((D.steps.take k2).foldl actN D.safe).length ≤ 1000000 := by have := hsl; rw [List.length_take] at hml; omega
          have hN := HI.out.cnt
          have HTK := Lib.hid (show (D.steps.take (k2 + 1)).foldl actN D.safe = actN ((D.steps.take k2).foldl actN D.safe) (D.steps.getD k2 ⟨0, [], [], 0⟩) from by rw [take_app _ ⟨0, [], [], 0⟩ hks, List.foldl_append]; rfl)
          obtain ⟨g, hso, hgl, f0, f1, f2, f3⟩ : ∃ g, so = some ⟨g, 0, none⟩ ∧ g < wr.heap.size ∧ wr.cell? ⟨g, k2 * 4, none⟩ = some (.int .i64 ((D.steps.getD k2 ⟨0, [], [], 0⟩).kind : Int)) ∧ wr.cell? ⟨g, k2 * 4 + 1, none⟩ = some (.string ⟨(D.steps.getD k2 ⟨0, [], [], 0⟩).name.toArray⟩) ∧ wr.cell? ⟨g, k2 * 4 + 2, none⟩ = some (.string ⟨(D.steps.getD k2 ⟨0, [], [], 0⟩).to.toArray⟩) ∧ wr.cell? ⟨g, k2 * 4 + 3, none⟩ = some (.int .i64 ((D.steps.getD k2 ⟨0, [], [], 0⟩).file : Int)) := by
            have hr := HD2.out.stp
            have hr : wr.ownsRow 0 73 4 (.slice so ns scp) ns (stepcells D.steps) := by have h9 := HVS.out; have h8 := HNS.out; rw [← h9, ← h8]; exact hr
            rcases row_head hr with ⟨_, h0⟩ | ⟨g, cap', e, -, hl2, -⟩
            · omega
            · obtain ⟨rfl, -, rfl⟩ := Value.slice.inj e
              exact ⟨g, rfl, hl2, row_cellAt hr (flatR_at (m := 4) (c := 0) (fun _ => rfl) _ hks (by decide)), row_cellAt hr (flatR_at (m := 4) (c := 1) (fun _ => rfl) _ hks (by decide)), row_cellAt hr (flatR_at (m := 4) (c := 2) (fun _ => rfl) _ hks (by decide)), row_cellAt hr (flatR_at (m := 4) (c := 3) (fun _ => rfl) _ hks (by decide))⟩
          subst hso
          have CA := Lib.hid (fun (wx : World) (hx : NamesAt wx L.bs ((D.steps.take k2).foldl actN D.safe)) => act_any ((D.steps.take k2).foldl actN D.safe) L.bs (D.steps.getD k2 ⟨0, [], [], 0⟩) wx hx ⟨by unfold maxLen; omega, by unfold maxLen; omega, by omega⟩ r1 hml2 (fun q hq => by have := r5 q hq; omega))
          generalize D.steps.getD k2 ⟨0, [], [], 0⟩ = st at *
          obtain ⟨kd, nm, to, fl⟩ := st
          simp only at f0 f1 f2 f3
          unfold stepV at CA
          simp only at CA
          clear hks r1 r2 r3 r4 r5 hml
          go_wp2_with (go_at_call 42; refine (CA.out _ (HD2.out.saf.alloc _)).mono ?_; rintro e w6 ⟨rfl, hn6, hg6⟩; have HN6 := Lib.hid hn6; have HG6 := Lib.hid hg6; clear hn6 hg6)
          have HD6 : Hid (DP w6 p { L with fv := fv } { D with all := A, safe := (D.steps.take (k2 + 1)).foldl actN D.safe }) := by
            show DP _ _ _ _
            rw [HTK.out]
            exact (HD2.out.stays (w' := wr.alloc _) fun k hk => heap_alloc_old wr _ (HD2.out.lt hk)).safeNamed HG6.out HN6.out
          have HK6 : Hid (Keep (L.has p) wl w6) := (HKP2.out.trans (Keep.of_below ((Below.refl _ _).alloc (Nat.le_refl _) _))).trans (Keep.grown HG6.out fun k hk => by cases hk; exact .inr (.inr (.inr (.inr (.inl rfl)))))
          go_wp2
          go_roundw
          case rel => exact ⟨k2 + 1, by omega, by go_num, HD6.out, HK6.out⟩
          case measure => simp [intOf]; omega
        · obtain rfl : k2 = K := by omega
          have CC := Lib.hid (clone_any L.bs ((D.steps.take k2).foldl actN D.safe) wr HD2.out.saf)
          have HM : Hid ((D.steps.take k2).foldl actN D.safe = crashN D picks) := by
            show _ = _
            unfold crashN
            rw [HNS.out, HK.out]
          have c10 : wr.cell? ⟨p, 3, none⟩ = some (.map (some L.bs)) := HD2.out.cell 3
          go_wp2_with (go_at_call 30; refine CC.out.mono ?_; rintro e w6 ⟨rfl, hn6, hg6⟩; have HN6 := Lib.hid hn6; have HG6 := Lib.hid hg6; have B6 := Lib.hid (HD2.out.blk.grown hg6 (by simp)); have y2 : w6.cell? ⟨p, 2, none⟩ = some (.map (some L.bn)) := B6.out.cell 2; have y3 : w6.cell? ⟨p, 3, none⟩ = some (.map (some L.bs)) := B6.out.cell 3; have y4 : w6.cell? ⟨p, 4, none⟩ = some L.vs := B6.out.cell 4; have y5 : w6.cell? ⟨p, 5, none⟩ = some (.int .i64 D.armed) := B6.out.cell 5; have y6 : w6.cell? ⟨p, 6, none⟩ = some (.bool D.down) := B6.out.cell 6; have y7 : w6.cell? ⟨p, 7, none⟩ = some (.int .i64 D.done) := B6.out.cell 7; have x2 := B6.out.free 2; have x3 := B6.out.free 3; have x4 := B6.out.free 4; have x5 := B6.out.free 5; have x6 := B6.out.free 6; have x7 := B6.out.free 7; clear hn6 hg6)
          go_end0
          refine ⟨rfl, _, (?_ : DP _ p ⟨L.va, .slice none 0 0, L.bs, wr.heap.size, fv⟩ (crashD D picks)), fun k hk => ?_, ?_⟩
          · have h9 := HD2.out.crashed (c := wr.heap.size) (w3 := (((((w6.setCell ⟨p, 2, none⟩ (.map (some L.bs))).setCell ⟨p, 3, none⟩ (.map (some wr.heap.size))).setCell ⟨p, 4, none⟩ (.slice none 0 0)).setCell ⟨p, 5, none⟩ (.int .i64 0)).setCell ⟨p, 6, none⟩ (.bool false)).setCell ⟨p, 7, none⟩ (.int .i64 0)) ?_ ?_ ?_ (Nat.le_refl _)
            · have e : crashD D picks = ⟨D.room, A, (D.steps.take k2).foldl actN D.safe, (D.steps.take k2).foldl actN D.safe, [], 0, false, 0⟩ := by
                rw [HM.out, HAL.out]; rfl
              rw [e]; exact h9
            · have h8 := (((((B6.out.set 2 (.map (some L.bs))).set 3 (.map (some wr.heap.size))).set 4 (.slice none 0 0)).set 5 (.int .i64 0)).set 6 (.bool false)).set 7 (.int .i64 0)
              exact h8
            · intro k hk hlt
              rw [set_other _ _ _ _ k hk, set_other _ _ _ _ k hk, set_other _ _ _ _ k hk, set_other _ _ _ _ k hk, set_other _ _ _ _ k hk, set_other _ _ _ _ k hk]
              exact HG6.out.block k hlt (by simp)
            · have h7 := HN6.out
              have hpn : wr.heap.size ≠ p := by have := HD2.out.blk.lt; omega
              refine h7.ext ?_
              rw [set_other _ _ _ _ _ hpn, set_other _ _ _ _ _ hpn, set_other _ _ _ _ _ hpn, set_other _ _ _ _ _ hpn, set_other _ _ _ _ _ hpn, set_other _ _ _ _ _ hpn]
          · have z1 := HB1.out.size
            have z2 := HKP.out.size
            have z3 := HKP2.out.size
            rcases hk with h | h | h | h | h | ⟨j, hj, h⟩
            · exact .inl (.inl h)
            · exact .inl (.inr (.inl h))
            · simp [Value.ownBlock] at h
            · exact .inl (.inr (.inr (.inr (.inr (.inl h)))))
            · exact .inr (by have h : k = wr.heap.size := h; omega)
            · refine .inl (.inr (.inr (.inr (.inr (.inr ⟨j, by rw [← HFL.out]; exact hj, ?_⟩)))))
              have h6 := HFO.out j (by rw [← HFL.out]; exact hj)
              exact h6.symm.trans h
          · refine (Keep.of_below HB1.out).trans (HKP.out.trans (HKP2.out.trans ((Keep.grown HG6.out (by simp)).trans ?_)))
            exact (((((Keep.self (grown_set _ _ _ _)).trans (Keep.self (grown_set _ _ _ _))).trans (Keep.self (grown_set _ _ _ _))).trans (Keep.self (grown_set _ _ _ _))).trans (Keep.self (grown_set _ _ _ _))).trans (Keep.self (grown_set _ _ _ _))
end Go.Proofs.YtdiaejphgcoknaaGreatDoor
