/- disk: Files: contract. -/
import Derived.Test.YtdiaejphgcoknaaGreatDoorDiskN
set_option linter.unusedSimpArgs false
set_option linter.unusedVariables false
namespace Go.Proofs.YtdiaejphgcoknaaGreatDoor
open Go.RowKit Go.Extern.Stop Go.Stop Go.Extern Go.Maps Go.Sort

set_option maxRecDepth 100000 in
set_option maxHeartbeats 2000000 in
theorem files_any (p : Nat) (L : Lay) (D : DS) (T : Nat) (w : World) (h : DP w p L D) (hI : Inv D T) (hT : T ≤ 100000) :
    Calls Tryz.prog 10 #[.pointer (some ⟨p, 0, none⟩)] w (FilesPost D w) := by
  have CL := Lib.hid (list_any p L D T w h hI hT)
  have H := Lib.hid h
  have HI := Lib.hid hI
  have HKL := Lib.hid (keysN_le h)
  have hnl : D.names.length ≤ 100000 := by have := hI.nam; omega
  obtain ⟨n, hn⟩ : ∃ n, D.names.length = n := ⟨_, rfl⟩
  have HN : Hid (D.names.length = n) := hn
  rw [hn] at hnl
  clear h hI hn
  go_enter Tryz.func10, Tryz.ntmps10
  go_wp2_with (go_at_call 32; refine CL.out.mono ?_; rintro e w1 ⟨v, rfl, hrow, hb1⟩; rw [HN.out] at hrow; obtain ⟨lo, lcap, rfl⟩ := rowShape hrow; have HR := Lib.hid hrow; clear hrow)
  go_loopw [3, 10] (fun o i wr => ∃ k : Nat, k ≤ n ∧ i = .int .i64 k ∧ OwnFs wr w1.heap.size o ((filesD D).take k) ∧ Below w1.heap.size w1 wr) (fun _ i _ => n - (intOf i).toNat)
  case atStart => exact ⟨0, Nat.zero_le _, rfl, OwnFs.nil _ _, Below.refl _ _⟩
  case round =>
    obtain ⟨k, hk, rfl, hown, hb⟩ := hrel
    have HB1 := Lib.hid hb1
    have HB := Lib.hid hb
    have htl : ((filesD D).take k).length = k := by rw [List.length_take, length_filesD, HN.out]; exact Nat.min_eq_left hk
    obtain ⟨oo, ocap, rfl⟩ := hown.shapeN htl
    have HO := Lib.hid hown
    have HTL := Lib.hid htl
    clear hown htl
    by_cases hlt : k < n
    · have hlt' : k < D.names.length := by rw [HN.out]; exact hlt
      obtain ⟨hno, hmem⟩ := listD_file HI.out hlt'
      have HXL := Lib.hid (HKL.out _ hmem)
      have HT1 := Lib.hid (show (filesD D).take (k + 1) = (filesD D).take k ++ [fileV D ((listD D).getD k [])] from by rw [take_app _ FV.nought (by rw [length_filesD]; exact hlt'), filesD_at D hlt'])
      have HR2 := Lib.hid (row_ext HR.out hb)
      obtain ⟨gl, hlo, hll, hcl⟩ : ∃ gl, lo = some ⟨gl, 0, none⟩ ∧ gl < wr.heap.size ∧ wr.cell? ⟨gl, k, none⟩ = some (.string ⟨((listD D).getD k []).toArray⟩) := by
        rcases row_head HR2.out with ⟨_, h0⟩ | ⟨g, cap', e, -, hl2, -⟩
        · omega
        · obtain ⟨rfl, -, rfl⟩ := Value.slice.inj e
          refine ⟨g, rfl, hl2, row_cellAt HR2.out ?_⟩
          have : k < (listD D).length := by rw [length_listD]; exact hlt'
          simp [List.getElem?_map, List.getElem?_eq_getElem this, List.getD_eq_getElem?_getD, Go.Proofs.encStr]
      subst hlo
      have hBw : Below w.heap.size w wr := hb1.trans (hb.mono hb1.size)
      have HD := Lib.hid (H.out.stays fun k hk => hBw.block k (H.out.lt hk))
      have s0 := hb.size
      have HBW := Lib.hid hBw
      have HFV : Hid (fileV D ((listD D).getD k []) = ⟨(listD D).getD k [], (D.file (fileN D.names ((listD D).getD k []))).data, (D.file (fileN D.names ((listD D).getD k []))).safe⟩) := by rfl
      have hnog : (nget D.names ((listD D).getD k [])).getD 0 = fileN D.names ((listD D).getD k []) := rfl
      have hn100 : D.all.length ≤ 100000 := by have := HI.out.cnt; omega
      have hdl := (HI.out.data _ hno).2
      have hsl := (HI.out.data _ hno).1
      generalize hfn : fileN D.names ((listD D).getD k []) = no at *
      generalize (listD D).getD k [] = x at *
      have HNG := Lib.hid hnog
      have HNO := Lib.hid hno
      obtain ⟨nn, hnn⟩ : ∃ nn, D.all.length = nn := ⟨_, rfl⟩
      have HNN := Lib.hid hnn
      rw [hnn] at hno hn100
      have i1 : (0 : Int) ≤ (no : Int) := by omega
      have i2 : (no : Int) < (nn : Int) := by omega
      obtain ⟨xs, hxs⟩ : ∃ xs, (D.file no).data = xs := ⟨_, rfl⟩
      have HXS := Lib.hid hxs
      obtain ⟨sf, hsf⟩ : ∃ sf, (D.file no).safe = sf := ⟨_, rfl⟩
      have HSF := Lib.hid hsf
      rw [hxs] at hdl hsl
      rw [hsf] at hsl
      have HF2 : Hid (fileV D x = ⟨x, xs, sf⟩) := by show _ = _; rw [HFV.out, HXS.out, HSF.out]
      have HDL := Lib.hid (show ([] : Bs).length + xs.length ≤ 1099511627776 from by simp; omega)
      obtain ⟨g, cap9, hva, hgl, hgp, k0, k1, -⟩ := HD.out.head (j := no) HNO.out
      have hva2 : L.va = .slice (some ⟨g, 0, none⟩) nn cap9 := by rw [hva]; exact congrArg (fun x => Value.slice _ x _) HNN.out
      obtain ⟨ao2, dcap, hdv⟩ := rowShape (HD.out.dat no HNO.out)
      have hdv2 : L.at no = .slice ao2 xs.length dcap := by rw [hdv]; exact congrArg (fun x : Bs => Value.slice ao2 x.length dcap) HXS.out
      have HBV := Lib.hid (show BytesV wr (.slice ao2 xs.length dcap) xs from by have := bytes_of_row (HD.out.dat no HNO.out); rw [hdv2] at this; have e : (D.file no).data = xs := HXS.out; rw [e] at this; exact this)
      rw [hdv2] at k0
      rw [HSF.out] at k1
      have c1 : wr.cell? ⟨p, 1, none⟩ = some (.slice (some ⟨g, 0, none⟩) nn cap9) := (HD.out.cell 1).trans (congrArg some hva2)
      have c2 : wr.cell? ⟨p, 2, none⟩ = some (.map (some L.bn)) := HD.out.cell 2
      have lk : Hid (∀ wx, NamesAt wx L.bn D.names → (Instr.lookup 58 (.map (some L.bn)) (.string ⟨x.toArray⟩) false).run Tryz.prog wx = .ok (.int .i64 (no : Int)) wx) := fun wx hx => by
        rw [hx.look1 HXL.out]; exact congrArg (fun x : Nat => Result.ok (Value.int .i64 (x : Int)) wx) HNG.out
      have SA := Lib.hid (show wr.drew.cell? ⟨p, 1, none⟩ = some (.slice (some ⟨g, 0, none⟩) nn cap9) ∧ wr.drew.cell? ⟨p, 2, none⟩ = some (.map (some L.bn)) ∧ wr.drew.cell? ⟨g, no * 2, none⟩ = some (.slice ao2 xs.length dcap) ∧ wr.drew.cell? ⟨g, no * 2 + 1, none⟩ = some (.int .i64 (sf : Int)) ∧ (Instr.lookup 58 (.map (some L.bn)) (.string ⟨x.toArray⟩) false).run Tryz.prog wr.drew = .ok (.int .i64 (no : Int)) wr.drew from ⟨c1, c2, k0, k1, lk.out _ HD.out.nam⟩)
      have SB : Hid (∀ cs : Array Value, (wr.alloc (.cells cs 68)).drew.cell? ⟨p, 1, none⟩ = some (.slice (some ⟨g, 0, none⟩) nn cap9) ∧ (wr.alloc (.cells cs 68)).drew.cell? ⟨p, 2, none⟩ = some (.map (some L.bn)) ∧ (wr.alloc (.cells cs 68)).drew.cell? ⟨g, no * 2, none⟩ = some (.slice ao2 xs.length dcap) ∧ (wr.alloc (.cells cs 68)).drew.cell? ⟨g, no * 2 + 1, none⟩ = some (.int .i64 (sf : Int)) ∧ (Instr.lookup 58 (.map (some L.bn)) (.string ⟨x.toArray⟩) false).run Tryz.prog (wr.alloc (.cells cs 68)).drew = .ok (.int .i64 (no : Int)) (wr.alloc (.cells cs 68)).drew) := fun cs =>
        ⟨(World.cell?_alloc_lt _ _ _ HD.out.blk.lt).trans c1, (World.cell?_alloc_lt _ _ _ HD.out.blk.lt).trans c2, (World.cell?_alloc_lt _ _ _ hgl).trans k0, (World.cell?_alloc_lt _ _ _ hgl).trans k1, lk.out _ ((HD.out.stays (w' := wr.alloc (.cells cs 68)) fun k hk => heap_alloc_old wr _ (HD.out.lt hk)).nam)⟩
      clear hno hmem hb1 hb hBw hnog hfn hnn hxs hsf hva hva2 hdv hdv2 hlt' HFV
      go_wp2
      go_region_held3 (fun w' => w'.cell? ⟨p, 1, none⟩ = some (.slice (some ⟨g, 0, none⟩) nn cap9) ∧ w'.cell? ⟨p, 2, none⟩ = some (.map (some L.bn)) ∧ w'.cell? ⟨g, no * 2, none⟩ = some (.slice ao2 xs.length dcap) ∧ w'.cell? ⟨g, no * 2 + 1, none⟩ = some (.int .i64 (sf : Int)) ∧ (Instr.lookup 58 (.map (some L.bn)) (.string ⟨x.toArray⟩) false).run Tryz.prog w' = .ok (.int .i64 (no : Int)) w')
        (first | with_reducible exact SA.out | with_reducible exact SB.out _ | exact SA.out | exact SB.out _)
        (fail)
      clear SA SB
      go_wp2
      all_goals
        obtain ⟨w2, hw2⟩ : ∃ w2, (wr.alloc (.cells #[.slice ao2 xs.length dcap, .int .i64 (sf : Int)] 68)).drew = w2 := ⟨_, rfl⟩
        have hbw2 : Below wr.heap.size wr w2 := by rw [← hw2]; exact ((Below.refl _ _).alloc (Nat.le_refl _) _).drew
        have d0 : w2.cell? ⟨wr.heap.size, 0, none⟩ = some (.slice ao2 xs.length dcap) := by rw [← hw2]; exact cell_of_row _ _ _ _ _ (0, 0) (heap_alloc_new wr _)
        have d1 : w2.cell? ⟨wr.heap.size, 1, none⟩ = some (.int .i64 (sf : Int)) := by rw [← hw2]; exact cell_of_row _ _ _ _ _ (0, 0) (heap_alloc_new wr _)
        have hN2 : wr.heap.size < w2.heap.size := World.block_lt_of_cell? _ _ d0
        rw [hw2]
        clear hw2
        obtain ⟨ps, q1, q2, q3⟩ := HO.out
        have HBV2 := Lib.hid (HBV.out.ext hbw2)
        have HON : Hid (∀ j, (Value.slice oo k ocap).ownBlock = some j → j < wr.heap.size) := fun j e => (q1.lt j e).2
        have q1' := row_ext q1 hbw2
        rw [HTL.out] at q1'
        have Q1 := Lib.hid q1'
        have Q2 := Lib.hid q2
        have Q3 : Hid (∀ j, j < ((filesD D).take k).length → w2.ownsRow w1.heap.size 5 1 (ps.getD j .nilIface) (((filesD D).take k).getD j FV.nought).data.length (bcells (((filesD D).take k).getD j FV.nought).data)) := fun j hj => row_ext (q3 j hj) hbw2
        have hB2 : w1.heap.size ≤ w2.heap.size := by omega
        have HBW2 := Lib.hid hbw2
        have HS : Hid (∀ wx, Below w2.heap.size w2 wx → wx.cell? ⟨wr.heap.size, 0, none⟩ = some (.slice ao2 xs.length dcap) ∧ wx.cell? ⟨wr.heap.size, 1, none⟩ = some (.int .i64 (sf : Int))) := fun wx hb => ⟨(hb.cell hN2).trans d0, (hb.cell hN2).trans d1⟩
        have SA := Lib.hid (HS.out w2.drew (Below.refl _ _).drew)
        have SB := Lib.hid (HS.out (w2.alloc (.cells #[] 5)).drew ((Below.refl _ _).alloc (Nat.le_refl _) _).drew)
        generalize wr.heap.size = N at *
        clear q1 q1' q2 q3 lk c1 c2 k0 k1 hbw2
        go_region_held3 (fun w' => w'.cell? ⟨N, 0, none⟩ = some (.slice ao2 xs.length dcap) ∧ w'.cell? ⟨N, 1, none⟩ = some (.int .i64 (sf : Int)))
          (first | with_reducible exact SA.out | with_reducible exact SB.out | with_reducible exact SC.out | with_reducible exact SD.out _ _ | with_reducible exact SE.out | exact SA.out | exact SB.out | exact SD.out _ _)
          (first
            | (refine step_appB (by rfl) _ _ (by rfl) w1.heap.size (.slice (some ⟨w2.heap.size, 0, none⟩) 0 0) (.slice ao2 xs.length dcap) [] xs (by rfl) (row_mono (own_emptyB w2) hB2) (by rfl) (HBV2.out.ext (by go_grown)) HDL.out (by simp; omega) ?_; intro ao3 cap3 w3 hown3 hg3 hat3; have G3 := Lib.hid (show Below w2.heap.size w2 w3 from ((Below.refl _ _).alloc (Nat.le_refl _) (.cells #[] 5)).grown (w' := w3) ⟨hg3.os, hg3.tape, hg3.output, hg3.size, hg3.block⟩ (by simp) (by intro k hk; simp [Value.ownBlock] at hk; omega)); have SC := Lib.hid (HS.out w3 G3.out); have SD : Hid (∀ (cs : Array Value) (T : Nat), (w3.alloc (.cells cs T)).cell? ⟨N, 0, none⟩ = some (.slice ao2 xs.length dcap) ∧ (w3.alloc (.cells cs T)).cell? ⟨N, 1, none⟩ = some (.int .i64 (sf : Int))) := (fun cs T => HS.out _ (G3.out.alloc G3.out.size _)); have HOW3 := Lib.hid (show w3.ownsRow w1.heap.size 5 1 (.slice ao3 xs.length cap3) xs.length (bcells xs) from by simpa using hown3); clear hown3 hg3 hat3)
            | (refine step_row1 36 57 3 48 _ Tryz.underlying36 infoG rfl (by decide) (by rfl) _ _ (by rfl) w3 w1.heap.size (.slice oo k ocap) k (gcells ((filesD D).take k) ps) [.string ⟨x.toArray⟩, .slice ao3 xs.length cap3, .int .i64 (sf : Int)] (by rfl) (row_ext Q1.out G3.out) _ (by rfl) (heap_alloc_new _ _) ((Below.refl _ _).alloc (Nat.le_refl _) _) (by rfl) (by intro u hu; simp at hu; rcases hu with rfl | rfl | rfl <;> rfl) (by omega) (by decide) (Nat.le_trans hB2 G3.out.size) ?_; intro g4 cap4 w4 hown4 hb4 hg4 hlt4; have HOW4 := Lib.hid hown4; have HG4 := Lib.hid hg4; have HB4 := Lib.hid hb4; clear hown4 hg4 hb4 hlt4; have hne4 : some N ≠ (Value.slice oo k ocap).ownBlock := (fun e => absurd (HON.out N e.symm) (by omega)); have SE : Hid (w4.cell? ⟨N, 0, none⟩ = some (.slice ao2 xs.length dcap) ∧ w4.cell? ⟨N, 1, none⟩ = some (.int .i64 (sf : Int))) := ⟨HG4.out.cell SC.out.1 hne4, HG4.out.cell SC.out.2 hne4⟩; clear hne4))
        clear SA SB SC SD SE d0 d1
        have s4 : w2.heap.size ≤ w4.heap.size := Nat.le_trans G3.out.size HG4.out.size
        have hq : OwnFs w4 w1.heap.size (.slice (some ⟨g4, 0, none⟩) (k + 1) cap4) ((filesD D).take (k + 1)) := by
          rw [HT1.out, HF2.out]
          have := OwnFs.app (f := ⟨x, xs, sf⟩) (v := .slice oo k ocap) (v' := .slice (some ⟨g4, 0, none⟩) (k + 1) cap4) (fs := (filesD D).take k) (ps := ps) (by rw [HTL.out]; exact row_ext Q1.out G3.out) Q2.out (fun j hj => row_ext (Q3.out j hj) G3.out) HOW3.out HG4.out (by rw [HTL.out]; exact HOW4.out)
          exact this
        have hq2 : Below w1.heap.size w1 w4 := by
          have e1 : Below w1.heap.size w1 w2 := HB.out.trans (HBW2.out.mono s0)
          have e2 : Below w1.heap.size w1 w3 := e1.trans (G3.out.mono e1.size)
          exact e2.trans HB4.out
        go_wp2
        go_roundw
        case rel => exact ⟨k + 1, by omega, by go_num, hq, hq2⟩
        case measure => simp [intOf]; omega
    · have ek : k = n := by omega
      subst ek
      have HE := Lib.hid (show (filesD D).take k = filesD D from by rw [← HN.out, ← length_filesD]; exact List.take_length)
      go_wp2
      go_returns
      exact ⟨_, rfl, by rw [← HE.out]; exact HO.out.mono hb1.size, hb1.trans (hb.mono hb1.size)⟩
end Go.Proofs.YtdiaejphgcoknaaGreatDoor
