/- disk.files: contract. -/
import Derived.Test.YtdiaejphgcoknaaGreatDoorDiskS
set_option linter.unusedSimpArgs false
set_option linter.unusedVariables false
namespace Go.Proofs.YtdiaejphgcoknaaGreatDoor
open Go.RowKit Go.Extern.Stop Go.Stop Go.Extern Go.Maps Go.Sort

theorem infoI1 : (Tryz.prog.info? 3).map (fun i => (i.zero, i.size, i.bytes)) = some (some (.int .i64 0), 1, 8) := by kernel_rfl
def LeftPost (D : DS) (w : World) (e : Ending) (w' : World) : Prop := ∃ v, e = .returned v ∧ w'.ownsRow w.heap.size 3 1 v (leftS D).length ((leftS D).map natI) ∧ Below w.heap.size w w'
set_option maxRecDepth 100000 in
set_option maxHeartbeats 2000000 in
theorem left_any (p : Nat) (L : Lay) (D : DS) (T : Nat) (w : World) (h : DP w p L D) (hI : Inv D T) (hT : T ≤ 100000) :
    Calls Tryz.prog 41 #[.pointer (some ⟨p, 0, none⟩)] w (LeftPost D w) := by
  have H := Lib.hid h
  have HI := Lib.hid hI
  have HNM := Lib.hid (show w.ownsMap Tryz.prog 9 (plainElem Tryz.prog 3) L.bs D.safe.length (toD D.safe) from h.saf)
  have hbl := h.saf.lt
  have hnl : D.safe.length + D.steps.length ≤ 100000 := by have := hI.stp; omega
  have c3 : w.cell? ⟨p, 3, none⟩ = some (.map (some L.bs)) := h.cell 3
  have HFP : Hid (∀ ks : List Bs, ks.Perm (keysN D.safe) → (ks.map (fileN D.safe)).Perm ((keysN D.safe).map (fileN D.safe))) := fun ks hp => hp.map _
  clear h hI
  go_enter Tryz.func41, Tryz.ntmps41
  go_wp2_with (at_range; refine wpList_range_own _ rfl _ 58 rfl 9 3 strK Tryz.underlying58 _ L.bs _ _ rfl HNM.out ?_; intro w0 hrg0 hg0 hs0)
  go_frame
  have HR0 := Lib.hid hrg0
  have hb0 : Below w.heap.size w w0 := ⟨hg0.os, hg0.tape, hg0.output, hg0.size, fun k hk => hg0.block k hk (by simp)⟩
  clear hrg0 hg0 hs0
  go_loopw [3] (fun s wr => ∃ (left : Lit → Bool) (cnt : Nat) (ks : List Bs), wr.ranges Tryz.prog 9 (plainElem Tryz.prog 3) L.bs w.heap.size D.safe.length (toD D.safe) left cnt ∧ ks.length + cnt ≤ D.safe.length ∧ Collected (toD D.safe) left ks ∧ wr.ownsRow w.heap.size 3 1 s ks.length ((ks.map (fileN D.safe)).map natI) ∧ Below w.heap.size w wr)
    (fun _ wr => wr.rangeLeft L.bs w.heap.size)
  case atStart => exact ⟨_, _, [], HR0.out, by simp [toD_size], Collected.start _, World.ownsRow_nil _ _ _ _, hb0⟩
  case round =>
    obtain ⟨left, cnt, ks, hrg, hcs, hC, hrow, hb⟩ := hrel
    have HRG := Lib.hid hrg
    have HC := Lib.hid hC
    obtain ⟨n, hn⟩ : ∃ n, ks.length = n := ⟨_, rfl⟩
    have HN : Hid (ks.length = n) := hn
    rw [hn] at hcs hrow
    obtain ⟨ao, scap, rfl⟩ := rowShape hrow
    have HW := Lib.hid hrow
    have hn2 : n ≤ 100000 := by omega
    clear hrg hC hrow hn
    go_wp2_with (at_next; refine wpList_next_ranges _ rfl _ rfl 9 strK (plainElem Tryz.prog 3) Go.Proofs.encStr (Value.int .i64) (fun key kl hk => by obtain ⟨x, hx, _⟩ := Maps.keyOf_str Tryz.underlying9 hk; exact ⟨x, hx⟩) (fun v y hv => by obtain ⟨c, rfl, _⟩ := plainElem_int_inv Tryz.underlying3 hv; exact ⟨c, rfl⟩) L.bs w.heap.size _ _ _ _ rfl HRG.out ?_ ?_)
    · intro hc0 hl0
      have hp := HC.out.perm HNM.out strK Tryz.underlying9 hl0
      rw [strKeys_toD] at hp
      have HPF := Lib.hid (HFP.out ks hp)
      have hlen : n + D.steps.length ≤ 100000 := by rw [← HN.out, hp.length_eq]; simpa [keysN] using hnl
      obtain ⟨l1, hl1⟩ : ∃ l1, ks.map (fileN D.safe) = l1 := ⟨_, rfl⟩
      have hl1n : l1.length = n := by rw [← hl1, List.length_map, HN.out]
      rw [hl1] at HPF
      have HW1 : Hid (wr.ownsRow w.heap.size 3 1 (.slice ao n scap) n (l1.map natI)) := by rw [← hl1]; exact HW.out
      have HL1 := Lib.hid hl1n
      clear hp hl0 hc0 hl1 HW HN HC HRG HFP hl1n
      have HD := Lib.hid (H.out.stays fun k hk => hb.block k (H.out.lt hk))
      obtain ⟨so, scp, hvs⟩ := rowShape HD.out.stp
      obtain ⟨ns, hns⟩ : ∃ ns, D.steps.length = ns := ⟨_, rfl⟩
      have HNS := Lib.hid hns
      rw [hns] at hvs hlen
      have c4 : wr.cell? ⟨p, 4, none⟩ = some (.slice so ns scp) := (HD.out.cell 4).trans (congrArg some hvs)
      have HVS := Lib.hid hvs
      have HB := Lib.hid hb
      clear hvs hns hb
      obtain ⟨wl, hwl⟩ : ∃ wl, wl = wr := ⟨_, rfl⟩
      subst hwl
      go_wp2
      go_loopw [3, 26] (fun o i wr => ∃ k : Nat, k ≤ ns ∧ i = .int .i64 k ∧ wr.ownsRow w.heap.size 3 1 o (l1 ++ madeN D.steps k).length ((l1 ++ madeN D.steps k).map natI) ∧ Below w.heap.size wl wr) (fun _ i _ => ns - (intOf i).toNat)
      case atStart => exact ⟨0, Nat.zero_le _, rfl, by rw [show madeN D.steps 0 = [] from rfl, List.append_nil, HL1.out]; exact HW1.out, Below.refl _ _⟩
      case round =>
        obtain ⟨k, hk, rfl, hrow, hbx⟩ := hrel
        have HBX := Lib.hid hbx
        have hml := madeN_le D.steps k
        have hll : (l1 ++ madeN D.steps k).length ≤ 100000 := by rw [List.length_append, HL1.out]; omega
        obtain ⟨ln, hln⟩ : ∃ ln, (l1 ++ madeN D.steps k).length = ln := ⟨_, rfl⟩
        have HLN := Lib.hid hln
        rw [hln] at hrow hll
        obtain ⟨oo, ocap, rfl⟩ := rowShape hrow
        have HRW := Lib.hid hrow
        have sx : w.heap.size ≤ wr.heap.size := Nat.le_trans HB.out.size hbx.size
        clear hrow hln hml
        have hbw := HB.out.trans hbx
        by_cases hlt : k < ns
        · have HD2 := Lib.hid (H.out.stays fun j hj => hbw.block j (H.out.lt hj))
          have hks : k < D.steps.length := by rw [HNS.out]; exact hlt
          have HMS := Lib.hid (madeN_succ D.steps hks)
          obtain ⟨g, hso, hgl, f0, f1, f2, f3⟩ : ∃ g, so = some ⟨g, 0, none⟩ ∧ g < wr.heap.size ∧ wr.cell? ⟨g, k * 4, none⟩ = some (.int .i64 ((D.steps.getD k ⟨0, [], [], 0⟩).kind : Int)) ∧ wr.cell? ⟨g, k * 4 + 1, none⟩ = some (.string ⟨(D.steps.getD k ⟨0, [], [], 0⟩).name.toArray⟩) ∧ wr.cell? ⟨g, k * 4 + 2, none⟩ = some (.string ⟨(D.steps.getD k ⟨0, [], [], 0⟩).to.toArray⟩) ∧ wr.cell? ⟨g, k * 4 + 3, none⟩ = some (.int .i64 ((D.steps.getD k ⟨0, [], [], 0⟩).file : Int)) := by
            have hr := HD2.out.stp
            rw [HVS.out, HNS.out] at hr
            rcases row_head hr with ⟨_, h0⟩ | ⟨g, cap', e, -, hl2, -⟩
            · omega
            · obtain ⟨rfl, -, rfl⟩ := Value.slice.inj e
              exact ⟨g, rfl, hl2, row_cellAt hr (flatR_at (m := 4) (c := 0) (fun _ => rfl) _ hks (by decide)), row_cellAt hr (flatR_at (m := 4) (c := 1) (fun _ => rfl) _ hks (by decide)), row_cellAt hr (flatR_at (m := 4) (c := 2) (fun _ => rfl) _ hks (by decide)), row_cellAt hr (flatR_at (m := 4) (c := 3) (fun _ => rfl) _ hks (by decide))⟩
          subst hso
          generalize D.steps.getD k ⟨0, [], [], 0⟩ = st at *
          obtain ⟨kd, nm, to, fl⟩ := st
          simp only at f0 f1 f2 f3
          clear hks hbw hbx
          by_cases hkd : kd = 0
          · subst hkd
            have HM2 : Hid (madeN D.steps (k + 1) = madeN D.steps k ++ [fl]) := by show _ = _; rw [HMS.out]; rfl
            clear HMS
            go_wp2_with (at_builtin; refine wpList_row1 32 3 1 8 _ Tryz.underlying32 infoI1 rfl (by decide) rfl _ _ rfl w.heap.size (.slice oo ln ocap) ln ((l1 ++ madeN D.steps k).map natI) [Value.int .i64 (fl : Int)] rfl (HRW.out.alloc _) rfl (by simp) rfl (by intro u hu; simp at hu; subst hu; rfl) (by omega) (by decide) (by simp; omega) ?_; intro v' w3 hown3 hb3 hg3 _; go_frame)
            have hq1 : Below w.heap.size wl w3 := (HBX.out.alloc sx _).trans hb3
            have hq2 : w3.ownsRow w.heap.size 3 1 v' (l1 ++ madeN D.steps (k + 1)).length ((l1 ++ madeN D.steps (k + 1)).map natI) := by
              rw [HM2.out, ← List.append_assoc, List.length_append, HLN.out, List.map_append]
              exact hown3
            clear hown3 hg3 hb3
            go_wp2
            go_roundw
            case rel => exact ⟨k + 1, by omega, by go_num, hq2, hq1⟩
            case measure => simp [intOf]; omega
          · have HM2 : Hid (madeN D.steps (k + 1) = madeN D.steps k) := by show _ = _; rw [HMS.out, if_neg hkd]
            have q : ((kd : Int) == 0) = false := by simp; omega
            clear HMS
            go_wp2
            go_roundw
            case rel => exact ⟨k + 1, by omega, by go_num, by rw [HM2.out, HLN.out]; exact HRW.out.alloc _, HBX.out.alloc sx _⟩
            case measure => simp [intOf]; omega
        · have ek : k = ns := by omega
          subst ek
          have hfull : madeN D.steps k = (D.steps.filter fun s => s.kind == 0).map fun s => s.file := by unfold madeN; rw [← HNS.out, List.take_length]
          have hperm : (l1 ++ madeN D.steps k).Perm (leftN D) := by rw [hfull]; exact HPF.out.append_right _
          have hsrt : (((l1 ++ madeN D.steps k).map fun n : Nat => (n : Int)).mergeSort fun x y => decide (x ≤ y)) = (leftS D).map fun n : Nat => (n : Int) := by rw [sortI_of_perm (hperm.map _), sort_ofNat]; rfl
          have hmap : (l1 ++ madeN D.steps k).map natI = ((l1 ++ madeN D.steps k).map fun n : Nat => (n : Int)).map (Value.int .i64) := by rw [List.map_map]; rfl
          have hlm : ((l1 ++ madeN D.steps k).map fun n : Nat => (n : Int)).length = ln := by rw [List.length_map, HLN.out]
          have HLL : Hid ((leftS D).length = ln) := by show _ = _; rw [← HLN.out, hperm.length_eq]; simp [leftS]
          have HMP : Hid ((leftS D).map natI = ((leftS D).map fun n : Nat => (n : Int)).map (Value.int .i64)) := by show _ = _; rw [List.map_map]; rfl
          generalize ((l1 ++ madeN D.steps k).map fun n : Nat => (n : Int)) = zs at *
          have hrow := HRW.out
          rw [hmap] at hrow
          have HSR := Lib.hid hsrt
          rcases hrow.2 with ⟨hnil, h0⟩ | ⟨g, cap, cur, hv, hbase, hbk, h1, h2, h3, h4⟩
          · obtain ⟨rfl, e2, rfl⟩ := Value.slice.inj hnil
            have hz0 : zs = [] := List.length_eq_zero_iff.1 (by rw [hlm, h0])
            obtain rfl : ln = 0 := by omega
            have hl0 : leftS D = [] := List.length_eq_zero_iff.1 HLL.out
            clear hrow hnil h0 e2 hmap hlm hsrt hperm hfull
            go_wp2_with (go_at_call 60; refine (Tryz.sort_int_none none 0 _).mono ?_; rintro e w' ⟨rfl, rfl⟩)
            go_returns
            refine ⟨.slice none 0 0, rfl, ?_, hbw⟩
            rw [hl0]
            exact World.ownsRow_nil _ _ _ _
          · obtain ⟨rfl, -, rfl⟩ := Value.slice.inj hv
            rw [← hlm] at h1 h4
            have HH : Hid (Holds (Value.int .i64) wr g 0 zs.toArray) := holds_of_blockI hbk (by simpa using h4)
            have hgl : g < wr.heap.size := (Array.getElem?_eq_some_iff.1 hbk).1
            have HRS : Hid (∀ (nn : Nat) (os : Array Obj), (grow (putRow (Value.int .i64) (Sort.ahead wr nn) g 0 ((leftS D).map fun n : Nat => (n : Int)).toArray) os).ownsRow w.heap.size 3 1 (.slice (some ⟨g, 0, none⟩) ln ocap) (leftS D).length ((leftS D).map natI)) := fun nn os => by
              have := ownsRow_sortedI (n := nn) (os := os) (ts := zs.mergeSort fun x y => decide (x ≤ y)) (ss := zs) (by simp) hbase hbk h1 h2 h3
              rw [hsrt, hlm, ← HMP.out] at this
              rw [HLL.out]
              exact this
            have HC8 : Hid (Calls Tryz.prog 60 #[.slice (some ⟨g, 0, none⟩) ln ocap] wr fun e w' => e = .returned (.tuple #[]) ∧ ∃ nn os, w' = grow (putRow (Value.int .i64) (Sort.ahead wr nn) g 0 ((leftS D).map fun n : Nat => (n : Int)).toArray) os) := by
              have := Tryz.sort_int g 0 ocap zs wr HH.out hgl (by rw [hlm]; omega)
              rw [hsrt, hlm] at this
              exact this
            clear hrow hv h1 h2 h3 h4 hbk hmap hlm hsrt hperm hfull HSR HH
            go_wp2_with (go_at_call 60; refine HC8.out.mono ?_; rintro e w' ⟨rfl, nn, os, rfl⟩)
            go_returns
            exact ⟨.slice (some ⟨g, 0, none⟩) ln ocap, rfl, HRS.out nn os, hbw.grown (grownBy_sortedI _) hbw.size (fun j hj => by cases hj; exact hbase)⟩
    · intro x c kl yd yp w2 cnt2 hkey hlk hv hat hrg2 hlt hg2 hs2 hen
      obtain ⟨x', ex, rfl, _⟩ := Maps.keyOf_str Tryz.underlying9 hkey
      obtain rfl : x = x' := encStr_inj ex
      obtain ⟨c', ec, hyd, -⟩ := plainElem_int_inv Tryz.underlying3 hv
      obtain rfl : c = c' := by simpa using ec
      obtain ⟨hc, v, hgv⟩ := nget_of_at hat (congrArg Prod.fst hyd)
      have HRW2 : Hid (w2.ownsRow w.heap.size 3 1 (.slice ao n scap) n ((ks.map (fileN D.safe)).map natI)) := HW.out.kept hg2 (Or.inr (row_ne_iter HW.out HRG.out).symm)
      have hb2 : Below w.heap.size w w2 := hb.grown hg2 hb.size (fun j hj => by cases hj; exact Nat.le_refl _)
      have HC2 := Lib.hid (HC.out.step hlk hat)
      have HR2 := Lib.hid hrg2
      have HLT := Lib.hid hlt
      have HCF : Hid ((ks.map (fileN D.safe)).map natI ++ [Value.int .i64 c] = ((ks ++ [x]).map (fileN D.safe)).map natI) := by show _ = _; rw [hc]; simp [natI]
      clear hkey hlk hv hat hrg2 hlt hg2 hs2 ex ec hyd hgv hc
      go_wp2_with (at_builtin; refine wpList_row1 32 3 1 8 _ Tryz.underlying32 infoI1 rfl (by decide) rfl _ _ rfl w.heap.size (.slice ao n scap) n ((ks.map (fileN D.safe)).map natI) [Value.int .i64 c] rfl HRW2.out rfl rfl rfl (by intro u hu; simp at hu; subst hu; rfl) (by omega) (by decide) hb2.size ?_; intro v' w3 hown3 hb3 hg3 _; go_frame)
      have HR3 := Lib.hid (HR2.out.kept hg3 (row_ne_low HRW2.out hbl) (row_ne_iter HRW2.out HR2.out))
      go_roundw
      case rel => exact ⟨_, cnt2, ks ++ [x], HR3.out, by rw [List.length_append, List.length_singleton]; have := HLT.out; have := HN.out; omega, HC2.out, by rw [List.length_append, List.length_singleton, HN.out, ← HCF.out]; exact hown3, hb2.trans hb3⟩
      case measure => rw [HR3.out.left_eq, HRG.out.left_eq]; exact HLT.out
end Go.Proofs.YtdiaejphgcoknaaGreatDoor
