/- disk: Append: contract. -/
import Derived.Test.YtdiaejphgcoknaaGreatDoorBytes
set_option linter.unusedSimpArgs false
set_option linter.unusedVariables false
namespace Go.Proofs.YtdiaejphgcoknaaGreatDoor
open Go.RowKit Go.Extern.Stop Go.Stop Go.Extern

section
variable {w w2 : World} {p : Nat} {L : Lay} {D : DS}
theorem at_set {l : List Value} {j i : Nat} {v : Value} : (l.set j v).getD i .nilIface = if j = i ∧ i < l.length then v else l.getD i .nilIface := by
  rw [List.getD_eq_getElem?_getD, List.getElem?_set]
  by_cases h : j = i
  · subst h
    by_cases h2 : j < l.length
    · simp [h2]
    · simp [h2, List.getD_eq_getElem?_getD, List.getElem?_eq_none (Nat.le_of_not_lt h2)]
  · simp [h, List.getD_eq_getElem?_getD]
/-- A file's bytes are written anew. -/
theorem DP.dataSet (h : DP w p L D) {j g cap n : Nat} (hj : j < D.all.length) (hg : L.va = .slice (some ⟨g, 0, none⟩) n cap) {v : Value} {b : Bs} (hgr : w.grownBy w2 (L.at j).ownBlock)
    (hrow : w2.ownsRow 0 5 1 v b.length (bcells b)) (hat : v.ownBlock = (L.at j).ownBlock ∨ ∃ k, v.ownBlock = some k ∧ w.heap.size ≤ k) :
    DP (w2.setCell ⟨g, j * 2, none⟩ v) p { L with fv := L.fv.set j v } { D with all := setF D.all j ⟨b, (D.file j).safe⟩ } := by
  obtain ⟨o1, o2, o3, o4, o5⟩ := h.others
  have so := set_other w2 g (j * 2) v
  have hown : L.va.ownBlock = some g := by rw [hg]; rfl
  obtain rfl : n = D.all.length := by
    obtain ⟨g', cap', e, _⟩ := h.head hj
    rw [hg] at e; simp at e; exact e.2.1
  have hall2 := row_grown h.all hgr (rows_ne (h.dat j hj) h.all (by decide))
  have ha := hall2
  rw [hg] at ha
  have hs := (ha.stored (j * 2) v).1
  have hjl : j < L.fv.length := by rw [h.len]; exact hj
  have hset : (filecells D.all L.fv).set (j * 2) v = filecells (setF D.all j ⟨b, (D.file j).safe⟩) (L.fv.set j v) := by
    unfold filecells
    rw [length_setF]
    refine flatR_set (m := 2) (c := 0) (fun _ => rfl) (fun _ => rfl) hj (by decide) ?_ ?_
    · unfold filec; rw [getD_setF, if_pos ⟨rfl, hj⟩, at_set, if_pos ⟨rfl, hjl⟩]; rfl
    · intro i hi; unfold filec; rw [getD_setF, if_neg (fun e => hi e.1.symm), at_set, if_neg (fun e => hi e.1.symm)]
  have hf : ∀ i, i ≠ j → (setF D.all j ⟨b, (D.file j).safe⟩).getD i DF.nought = D.file i := fun i hi => by rw [getD_setF, if_neg (fun e => hi e.1.symm)]; rfl
  have hfj : (setF D.all j ⟨b, (D.file j).safe⟩).getD j DF.nought = ⟨b, (D.file j).safe⟩ := by rw [getD_setF, if_pos ⟨rfl, hj⟩]
  have hv : ∀ i, i ≠ j → (L.fv.set j v).getD i .nilIface = L.at i := fun i hi => by rw [at_set, if_neg (fun e => hi e.1.symm)]; rfl
  have hvj : (L.fv.set j v).getD j .nilIface = v := by rw [at_set, if_pos ⟨rfl, hjl⟩]
  have hB2 := h.blk.grown hgr fun e => o5 j hj e.symm
  have hne : ∀ i k, i < D.all.length → i ≠ j → (L.at i).ownBlock = some k → v.ownBlock ≠ some k := by
    intro i k hi hij hk e
    rcases hat with h1 | ⟨k', h1, h2⟩
    · exact h.apart i j k hi hj hij hk (h1 ▸ e)
    · rw [h1] at e
      have := row_lt (h.dat i hi) hk
      have := Option.some.inj e
      omega
  refine ⟨hB2.of_block (so _ fun e => o1 (by rw [hown, e])), ?_, by rw [length_setF, List.length_set]; exact h.len, ?_, ?_, ?_, ?_, h.ne, ?_⟩
  · show World.ownsRow _ 0 _ 2 L.va (setF D.all j _).length _
    rw [length_setF, hg, ← hset]; exact hs
  · intro i hi
    rw [length_setF] at hi
    show World.ownsRow _ 0 _ 1 ((L.fv.set j v).getD i .nilIface) ((setF D.all j ⟨b, (D.file j).safe⟩).getD i DF.nought).data.length (bcells ((setF D.all j ⟨b, (D.file j).safe⟩).getD i DF.nought).data)
    by_cases hij : i = j
    · subst hij
      rw [hfj, hvj]
      exact row_of_block hrow fun k hk => so k fun e => by
        have h9 := rows_ne hrow hall2 (by decide) g hown
        exact h9 (by rw [hk, e])
    · rw [hf i hij, hv i hij]
      have hd := row_grown (h.dat i hi) hgr fun k hk e => h.apart i j k hi hj hij hk e.symm
      exact row_of_block hd fun k hk => so k fun e => rows_ne h.all (h.dat i hi) (by decide) k hk (by rw [hown, e])
  · intro i i2 k hi hi2 hne2 hk
    rw [length_setF] at hi hi2
    show ((L.fv.set j v).getD i2 .nilIface).ownBlock ≠ some k
    replace hk : ((L.fv.set j v).getD i .nilIface).ownBlock = some k := hk
    by_cases h1 : i = j
    · subst h1
      rw [hvj] at hk
      rw [hv i2 (fun e => hne2 e.symm)]
      exact fun e => hne i2 k hi2 (fun e => hne2 e.symm) e hk
    · rw [hv i h1] at hk
      by_cases h2 : i2 = j
      · subst h2
        rw [hvj]
        exact hne i k hi h1 hk
      · rw [hv i2 h2]
        exact h.apart i i2 k hi hi2 hne2 hk
  · exact (h.nam.kept hgr fun e => map_row h.nam (h.dat j hj) e.symm).ext (so _ fun e => map_row h.nam h.all (by rw [hown, e]))
  · exact (h.saf.kept hgr fun e => map_row h.saf (h.dat j hj) e.symm).ext (so _ fun e => map_row h.saf h.all (by rw [hown, e]))
  · exact row_of_block (row_grown h.stp hgr (rows_ne (h.dat j hj) h.stp (by decide))) fun k hk => so k fun e => rows_ne h.all h.stp (by decide) k hk (by rw [hown, e])
theorem has_data {j N k : Nat} {v : Value} (h : ({ L with fv := L.fv.set j v } : Lay).has p k) (hj : j < L.fv.length) (hat : v.ownBlock = (L.at j).ownBlock ∨ ∃ k, v.ownBlock = some k ∧ N ≤ k) : L.has p k ∨ N ≤ k := by
  rcases h with h | h | h | h | h | ⟨i, hi, h⟩
  · exact .inl (.inl h)
  · exact .inl (.inr (.inl h))
  · exact .inl (.inr (.inr (.inl h)))
  · exact .inl (.inr (.inr (.inr (.inl h))))
  · exact .inl (.inr (.inr (.inr (.inr (.inl h)))))
  · replace h : ((L.fv.set j v).getD i .nilIface).ownBlock = some k := h
    simp only [List.length_set] at hi
    rw [at_set] at h
    by_cases hij : j = i
    · subst hij
      rw [if_pos ⟨rfl, hj⟩] at h
      rcases hat with h1 | ⟨k', h1, h2⟩
      · exact .inl (.inr (.inr (.inr (.inr (.inr ⟨j, hj, h1 ▸ h⟩)))))
      · rw [h1] at h; exact .inr (by have := Option.some.inj h; omega)
    · rw [if_neg (fun e => hij e.1)] at h
      exact .inl (.inr (.inr (.inr (.inr (.inr ⟨i, hi, h⟩)))))
end

set_option maxRecDepth 100000 in
theorem append_down (p : Nat) (L : Lay) (D : DS) (a : Bs) (u : Value) (b : Bs) (T : Nat) (w : World) (h : DP w p L D) (hu : BytesV w u b) (hI : Inv D T) (hT : T ≤ 100000) (ha : a.length ≤ maxLen) (hd : D.down = true) :
    Calls Tryz.prog 21 #[.pointer (some ⟨p, 0, none⟩), .string ⟨a.toArray⟩, u] w fun e w' => OpPost p L 10 D w e w' := by
  have CT := Lib.hid (there_any p L D a ha w h)
  have H := Lib.hid h
  have c6 : w.cell? ⟨p, 6, none⟩ = some (.bool true) := hd ▸ h.cell 6
  obtain ⟨ao, cap, rfl⟩ := hu.shape
  generalize thereE D a = x at *
  clear h hu hI hT ha hd
  go_enter Tryz.func21, Tryz.ntmps21
  go_wp2_with (first | (go_at_call 55; refine CT.out.mono ?_; rintro e w' ⟨rfl, rfl⟩))
  go_returns
  exact ⟨by rw [errV_ne (k := 10) (by decide)]; rfl, L, H.out, fun k hk => .inl hk, Keep.refl _ _⟩
set_option maxRecDepth 100000 in
theorem append_there (p : Nat) (L : Lay) (D : DS) (a : Bs) (u : Value) (b : Bs) (T : Nat) (w : World) (h : DP w p L D) (hu : BytesV w u b) (hI : Inv D T) (hT : T ≤ 100000) (ha : a.length ≤ maxLen) (hd : D.down = false) (hx : thereE D a ≠ 0) :
    Calls Tryz.prog 21 #[.pointer (some ⟨p, 0, none⟩), .string ⟨a.toArray⟩, u] w fun e w' => OpPost p L (thereE D a) D w e w' := by
  have CT := Lib.hid (there_any p L D a ha w h)
  have H := Lib.hid h
  have c6 : w.cell? ⟨p, 6, none⟩ = some (.bool false) := hd ▸ h.cell 6
  obtain ⟨ao, cap, rfl⟩ := hu.shape
  generalize thereE D a = x at *
  have q := err_ne hx
  clear h hu hI hT ha hd hx
  go_enter Tryz.func21, Tryz.ntmps21
  go_wp2_with (first | (go_at_call 55; refine CT.out.mono ?_; rintro e w' ⟨rfl, rfl⟩))
  go_returns
  exact ⟨rfl, L, H.out, fun k hk => .inl hk, Keep.refl _ _⟩

set_option maxRecDepth 100000 in
theorem append_full (p : Nat) (L : Lay) (D : DS) (a : Bs) (u : Value) (b : Bs) (T : Nat) (w : World) (h : DP w p L D) (hu : BytesV w u b) (hI : Inv D T) (hT : T ≤ 100000) (ha : a.length ≤ maxLen) (hd : D.down = false) (hx : thereE D a = 0) (hb : b ≠ []) (hf : D.room - usedD D < b.length) :
    Calls Tryz.prog 21 #[.pointer (some ⟨p, 0, none⟩), .string ⟨a.toArray⟩, u] w fun e w' => OpPost p L 9 D w e w' := by
  have CT := Lib.hid (there_any p L D a ha w h)
  rw [hx] at CT
  have H := Lib.hid h
  have HU := Lib.hid hu
  have c6 : w.cell? ⟨p, 6, none⟩ = some (.bool false) := hd ▸ h.cell 6
  have c0 : w.cell? ⟨p, 0, none⟩ = some (.int .i64 D.room) := h.cell 0
  have hbl := hu.len
  obtain ⟨r0, r1⟩ := hI.room
  have CU := Lib.hid (fun (w : World) (h : DP w p L D) => used_any p L D T w h hI hT)
  have hus : usedD D ≤ 100000 * 16777216 := by
    have h1 := sum_le (f := sizeN D) (l := keysN D.names) (M := 16777216) fun x _ => sizeN_le hI x
    have h2 : (keysN D.names).length ≤ 100000 := by unfold keysN; rw [List.length_map]; have := hI.nam; omega
    unfold usedD
    exact Nat.le_trans h1 (Nat.mul_le_mul_right _ h2)
  obtain ⟨bl, hl⟩ : ∃ bl, b.length = bl := ⟨_, rfl⟩
  obtain ⟨us, hus2⟩ : ∃ us, usedD D = us := ⟨_, rfl⟩
  have HBL := Lib.hid hl
  have hbp : 0 < bl := by rw [← hl]; exact List.length_pos_iff.2 hb
  rw [hus2] at hf hus CU
  rw [hl] at hf hbl
  obtain ⟨ao, cap, rfl⟩ : ∃ ao cap, u = .slice ao bl cap := by obtain ⟨ao, cap, e⟩ := hu.shape; exact ⟨ao, cap, by rw [e, hl]⟩
  have q1 : decide ((0 : Int) < (bl : Int)) = true := by simp; omega
  have q2 : IntKind.i64.wrap (D.room - (us : Int)) = D.room - (us : Int) := IntWalk.i64_in _ (by omega)
  have q3 : decide (D.room - (us : Int) < (bl : Int)) = true := by simp; omega
  clear h hu hI hT ha hd hx hb hus2 hl hf
  go_enter Tryz.func21, Tryz.ntmps21
  go_wp2_with (first | (go_at_call 55; refine CT.out.mono ?_; rintro e w' ⟨rfl, rfl⟩))
  go_region_held3 (fun w' => w'.cell? ⟨p, 0, none⟩ = some (.int .i64 D.room)) (first | with_reducible exact S5.out | go_keep)
    (first | (go_at_call 14; refine (CU.out _ ?_).mono ?_; exact H.out.stays fun _ _ => rfl; rintro e w5 ⟨rfl, hb5⟩; have j5 : Below w.heap.size w w5 := (by first | exact hb5 | exact below_undrew hb5); have H5 := Lib.hid (H.out.stays fun k hk => j5.block k (H.out.lt hk)); have S5 := Lib.hid (show w5.cell? ⟨p, 0, none⟩ = some (.int .i64 D.room) from H5.out.cell 0)))
  go_wp2
  go_returns
  exact ⟨by rw [errV_ne (k := 9) (by decide)]; rfl, L, H5.out.stays fun _ _ => rfl, fun k hk => .inl hk, Keep.of_below j5⟩

/-- Bytes that lie elsewhere than in a struct that turns. -/
theorem BytesV.far1 {w w1 : World} {p : Nat} {L : Lay} {D : DS} {u : Value} {b : Bs} (h : BytesV w u b) (hg : w.grownBy w1 (some p)) (hD : DP w p L D) : BytesV w1 u b := by
  obtain ⟨ao, cap, rfl, h1, h2, h3, h4⟩ := h
  refine ⟨ao, cap, rfl, h1, h2, h3, fun j hj => ?_⟩
  obtain ⟨k, off, e, hc⟩ := h4 j hj
  refine ⟨k, off, e, hg.cell hc fun e2 => ?_⟩
  obtain rfl : k = p := Option.some.inj e2
  rw [hD.cell] at hc
  obtain ⟨a1, b1, ha⟩ := rowShape hD.all
  obtain ⟨a2, b2, hs⟩ := rowShape hD.stp
  unfold dcells at hc
  rw [ha, hs] at hc
  generalize off + j = o at hc
  match o, hc with
  | 0, hc => simp at hc
  | 1, hc => simp at hc
  | 2, hc => simp at hc
  | 3, hc => simp at hc
  | 4, hc => simp at hc
  | 5, hc => simp at hc
  | 6, hc => simp at hc
  | 7, hc => simp at hc
  | n + 8, hc => simp at hc

set_option maxRecDepth 100000 in
set_option maxHeartbeats 1000000 in
theorem append_nf (p : Nat) (L : Lay) (D : DS) (a : Bs) (u : Value) (b : Bs) (T : Nat) (w : World) (h : DP w p L D) (hu : BytesV w u b) (hI : Inv D T) (hT : T ≤ 100000) (ha : a.length ≤ maxLen) (hd : D.down = false) (hx : thereE D a = 0) (hn : u = .slice none 0 0) (hb0 : b = []) (hfl : downF D = true) :
    Calls Tryz.prog 21 #[.pointer (some ⟨p, 0, none⟩), .string ⟨a.toArray⟩, u] w fun e w' => OpPost p L 10 { fallD D with all := setF D.all (fileN D.names a) ⟨(D.file (fileN D.names a)).data ++ b.take (b.length / 2), (D.file (fileN D.names a)).safe⟩ } w e w' := by
  have CT := Lib.hid (there_any p L D a ha w h)
  rw [hx] at CT
  have H := Lib.hid h
  have HU := Lib.hid hu
  have c6 : w.cell? ⟨p, 6, none⟩ = some (.bool false) := hd ▸ h.cell 6
  have c0 : w.cell? ⟨p, 0, none⟩ = some (.int .i64 D.room) := h.cell 0
  have hbl := hu.len
  obtain ⟨r0, r1⟩ := hI.room
  have CU := Lib.hid (fun (w : World) (h : DP w p L D) => used_any p L D T w h hI hT)
  have hus : usedD D ≤ 100000 * 16777216 := by
    have h1 := sum_le (f := sizeN D) (l := keysN D.names) (M := 16777216) fun x _ => sizeN_le hI x
    have h2 : (keysN D.names).length ≤ 100000 := by unfold keysN; rw [List.length_map]; have := hI.nam; omega
    unfold usedD
    exact Nat.le_trans h1 (Nat.mul_le_mul_right _ h2)
  obtain ⟨bl, hl⟩ : ∃ bl, b.length = bl := ⟨_, rfl⟩
  obtain ⟨us, hus2⟩ : ∃ us, usedD D = us := ⟨_, rfl⟩
  have HBL := Lib.hid hl
  have hno := hI.fileN_lt hx
  have hnog : (nget D.names a).getD 0 = fileN D.names a := rfl
  have hn100 : D.all.length ≤ 100000 := by have := hI.cnt; omega
  have hdl := (hI.data _ hno).2
  have CF := Lib.hid (fun (w : World) (h : DP w p L D) => fall_any p L D w h hI.done.1 (by have := hI.done.2; omega) hI.armed.2)
  rw [hfl] at CF
  have HA := Lib.hid ha
  generalize hfn : fileN D.names a = no at *
  have HNG := Lib.hid hnog
  have HNO := Lib.hid hno
  obtain ⟨nn, hnn⟩ : ∃ nn, D.all.length = nn := ⟨_, rfl⟩
  have HNN := Lib.hid hnn
  rw [hnn] at hno hn100
  have i1 : (0 : Int) ≤ (no : Int) := by omega
  have i2 : (no : Int) < (nn : Int) := by omega
  obtain ⟨xs, hxs⟩ : ∃ xs, (D.file no).data = xs := ⟨_, rfl⟩
  have HXS := Lib.hid hxs
  rw [hxs] at hdl ⊢
  rw [hus2] at hus CU
  rw [hl] at hbl
  have hbl0 : bl = 0 := by rw [← hl, hb0]; rfl
  subst hn
  subst hbl0
  have HUY : Hid (∀ w, BytesV w (Value.slice none 0 0) b → BytesV w (Value.slice none 0 0) []) := fun w h => hb0 ▸ h
  have hb2 : xs.length + ([] : Bs).length ≤ 1099511627776 := by simp; omega
  have q1 : decide ((0 : Int) < ((0 : Nat) : Int)) = false := by decide
  rw [show b.take (b.length / 2) = [] from by first | (rw [hb0]; done) | (rw [hb0]; rfl)]
  have HYL : Hid (([] : Bs).length = 0) := Lib.hid rfl
  have w0 : IntKind.i64.wrap 0 = 0 := IntWalk.i64_in _ (by omega)
  clear h hu hI hT ha hd hx hb0 hus2 hl hfl hfn hnog hnn hxs
  go_enter Tryz.func21, Tryz.ntmps21
  go_wp2_with (first | (go_at_call 55; refine CT.out.mono ?_; rintro e w' ⟨rfl, rfl⟩))
  go_quiet (fail)
  rename_i nq
  have j5 : Below w.heap.size w (w.drewN nq) := below_drewN' (Below.refl _ _) nq
  have HUW := Lib.hid (HUY.out _ (HU.out.ext j5))
  have H5 := Lib.hid (H.out.stays fun k hk => j5.block k (H.out.lt hk))
  clear c6 c0 HUY
  generalize hq5 : w.drewN nq = w5 at *
  clear hq5
  go_wp2
  obtain ⟨g, cap9, hva, hgl, hgp, -, -, -⟩ := H5.out.head (j := no) HNO.out
  have HVA := Lib.hid hva
  have hva2 : L.va = .slice (some ⟨g, 0, none⟩) nn cap9 := by rw [hva]; exact congrArg (fun x => Value.slice _ x _) HNN.out
  have c1 : w5.cell? ⟨p, 1, none⟩ = some (.slice (some ⟨g, 0, none⟩) nn cap9) := (H5.out.cell 1).trans (congrArg some hva2)
  have c2 : w5.cell? ⟨p, 2, none⟩ = some (.map (some L.bn)) := H5.out.cell 2
  have hlk2 : (Instr.lookup 58 (.map (some L.bn)) (.string ⟨a.toArray⟩) false).run Tryz.prog w5 = .ok (.int .i64 (no : Int)) w5 := by rw [H5.out.nam.look1 HA.out]; exact congrArg (fun x : Nat => Result.ok (Value.int .i64 (x : Int)) w5) HNG.out
  have hlk3 : (Instr.lookup 58 (.map (some L.bn)) (.string ⟨a.toArray⟩) false).run Tryz.prog w5.drew = .ok (.int .i64 (no : Int)) w5.drew := by
    rw [NamesAt.look1 (w := w5.drew) H5.out.nam HA.out]; exact congrArg (fun x : Nat => Result.ok (Value.int .i64 (x : Int)) w5.drew) HNG.out
  have SA := Lib.hid (show w5.drew.cell? ⟨p, 1, none⟩ = some (.slice (some ⟨g, 0, none⟩) nn cap9) ∧ w5.drew.cell? ⟨p, 2, none⟩ = some (.map (some L.bn)) ∧ (Instr.lookup 58 (.map (some L.bn)) (.string ⟨a.toArray⟩) false).run Tryz.prog w5.drew = .ok (.int .i64 (no : Int)) w5.drew from ⟨c1, c2, hlk3⟩)
  clear hlk3 hva hva2
  go_region_held3 (fun w' => w'.cell? ⟨p, 1, none⟩ = some (.slice (some ⟨g, 0, none⟩) nn cap9) ∧ w'.cell? ⟨p, 2, none⟩ = some (.map (some L.bn)) ∧ (Instr.lookup 58 (.map (some L.bn)) (.string ⟨a.toArray⟩) false).run Tryz.prog w' = .ok (.int .i64 (no : Int)) w')
    (first | with_reducible exact SA.out | exact SA.out | go_keep)
    (fail)
  clear c1 c2 hlk2 SA
  have H6 := Lib.hid (show DP w5.drew p L D from H5.out.stays fun _ _ => rfl)
  have HUX := Lib.hid (show BytesV w5.drew (Value.slice none 0 0) ([] : Bs) from HUW.out)
  go_wp2_with fail
  refine (CF.out _ H6.out).mono ?_
  rintro e w1 ⟨rfl, hD1, hg1⟩
  have HD1 := Lib.hid hD1
  have HG1 := Lib.hid hg1
  have HUZ := Lib.hid (show BytesV w1 (Value.slice none 0 0) ([] : Bs) from HUX.out.far1 hg1 H6.out)
  obtain ⟨g2, cap2, e2, hgl2, -, k0, -, kf⟩ := hD1.head (j := no) HNO.out
  obtain rfl : g = g2 := by have := HVA.out; rw [e2] at this; simp at this; exact this.1.symm
  obtain ⟨ao2, dcap, hdv⟩ := rowShape (hD1.dat no HNO.out)
  have hdv2 : L.at no = .slice ao2 xs.length dcap := by rw [hdv]; exact congrArg (fun x : Bs => Value.slice ao2 x.length dcap) HXS.out
  have HOW := Lib.hid (show w1.ownsRow 0 5 1 (.slice ao2 xs.length dcap) xs.length (bcells xs) from by have := hD1.dat no HNO.out; rw [hdv2] at this; have e : ((fallD D).file no).data = xs := HXS.out; rw [e] at this; exact this)
  have hgne : some g ≠ (Value.slice ao2 xs.length dcap).ownBlock := by rw [← hdv2]; exact rows_ne (hD1.dat no HNO.out) hD1.all (by decide) g (by rw [HVA.out]; rfl)
  rw [hdv2] at k0
  have HDV := Lib.hid hdv2
  have kf1 := kf (no * 2)
  have kfr : Hid (∀ k, w1.frozen? ⟨g, k, none⟩ = false) := kf
  clear kf e2 hdv hdv2 hD1 hg1 hgl
  go_wp2
  go_region_law ((refine step_appB (by rfl) _ _ (by rfl) 0 (.slice ao2 xs.length dcap) (Value.slice none 0 0) xs ([] : Bs) (by rfl) HOW.out (by rfl) HUZ.out hb2 (Nat.zero_le _) ?_; intro ao3 cap3 w3 hown3 hg3 hat3; have G3 := Lib.hid (show w1.grownBy w3 (L.at no).ownBlock from by rw [HDV.out]; exact ⟨hg3.os, hg3.tape, hg3.output, hg3.size, hg3.block⟩); have z0 : w3.cell? ⟨g, no * 2, none⟩ = some (.slice ao2 xs.length dcap) := hg3.cell k0 hgne; have zf : w3.frozen? ⟨g, no * 2, none⟩ = false := (World.frozen?_of_block (a := ⟨g, no * 2, none⟩) (hg3.block g hgl2 hgne)).trans kf1; have HOW3 := Lib.hid hown3; have HAT3 := Lib.hid hat3; clear hown3 hg3 hat3))
  all_goals
    go_wp2
    go_returns
    have hat : (Value.slice ao3 (xs.length + ([] : Bs).length) cap3).ownBlock = (L.at no).ownBlock ∨ ∃ k, (Value.slice ao3 (xs.length + ([] : Bs).length) cap3).ownBlock = some k ∧ w1.heap.size ≤ k := by
      rcases HAT3.out with h | h
      · exact .inl (by rw [HDV.out]; exact h)
      · exact .inr ⟨_, h, Nat.le_refl _⟩
    have hD3 := HD1.out.dataSet (j := no) HNO.out HVA.out G3.out HOW3.out hat
    have e9 : ((fallD D).file no).safe = (D.file no).safe := rfl
    have z1 := HG1.out.size
    have z5 := j5.size
    have z6 : w5.drew.heap.size = w5.heap.size := rfl
    refine ⟨by first | (rw [errV_ne (k := 10) (by decide)]; done) | (rw [errV_ne (k := 10) (by decide)]; rfl), _, hD3, fun k hk => has_data hk (by rw [H5.out.len]; exact HNO.out) ?_, ?_⟩
    · rcases hat with h | ⟨k, h, h2⟩
      · exact .inl h
      · exact .inr ⟨k, h, by omega⟩
    · refine (Keep.of_below j5).trans (Keep.trans (b := w5.drew) ⟨rfl, rfl, rfl, Nat.le_refl _, fun _ _ _ => rfl⟩ ((Keep.self HG1.out).trans ((Keep.grown G3.out fun k hk => ?_).trans (Keep.grown (grown_set _ _ _ _) fun k hk => .inr (.inl ?_)))))
      · exact .inr (.inr (.inr (.inr (.inr ⟨no, by rw [H5.out.len]; exact HNO.out, hk⟩))))
      · rw [HVA.out]; exact hk

set_option maxRecDepth 100000 in
set_option maxHeartbeats 1000000 in
theorem append_ng (p : Nat) (L : Lay) (D : DS) (a : Bs) (u : Value) (b : Bs) (T : Nat) (w : World) (h : DP w p L D) (hu : BytesV w u b) (hI : Inv D T) (hT : T ≤ 100000) (ha : a.length ≤ maxLen) (hd : D.down = false) (hx : thereE D a = 0) (hn : u = .slice none 0 0) (hb0 : b = []) (hfl : downF D = false) :
    Calls Tryz.prog 21 #[.pointer (some ⟨p, 0, none⟩), .string ⟨a.toArray⟩, u] w fun e w' => OpPost p L 0 { fallD D with all := setF D.all (fileN D.names a) ⟨(D.file (fileN D.names a)).data ++ b, (D.file (fileN D.names a)).safe⟩ } w e w' := by
  have CT := Lib.hid (there_any p L D a ha w h)
  rw [hx] at CT
  have H := Lib.hid h
  have HU := Lib.hid hu
  have c6 : w.cell? ⟨p, 6, none⟩ = some (.bool false) := hd ▸ h.cell 6
  have c0 : w.cell? ⟨p, 0, none⟩ = some (.int .i64 D.room) := h.cell 0
  have hbl := hu.len
  obtain ⟨r0, r1⟩ := hI.room
  have CU := Lib.hid (fun (w : World) (h : DP w p L D) => used_any p L D T w h hI hT)
  have hus : usedD D ≤ 100000 * 16777216 := by
    have h1 := sum_le (f := sizeN D) (l := keysN D.names) (M := 16777216) fun x _ => sizeN_le hI x
    have h2 : (keysN D.names).length ≤ 100000 := by unfold keysN; rw [List.length_map]; have := hI.nam; omega
    unfold usedD
    exact Nat.le_trans h1 (Nat.mul_le_mul_right _ h2)
  obtain ⟨bl, hl⟩ : ∃ bl, b.length = bl := ⟨_, rfl⟩
  obtain ⟨us, hus2⟩ : ∃ us, usedD D = us := ⟨_, rfl⟩
  have HBL := Lib.hid hl
  have hno := hI.fileN_lt hx
  have hnog : (nget D.names a).getD 0 = fileN D.names a := rfl
  have hn100 : D.all.length ≤ 100000 := by have := hI.cnt; omega
  have hdl := (hI.data _ hno).2
  have CF := Lib.hid (fun (w : World) (h : DP w p L D) => fall_any p L D w h hI.done.1 (by have := hI.done.2; omega) hI.armed.2)
  rw [hfl] at CF
  have HA := Lib.hid ha
  generalize hfn : fileN D.names a = no at *
  have HNG := Lib.hid hnog
  have HNO := Lib.hid hno
  obtain ⟨nn, hnn⟩ : ∃ nn, D.all.length = nn := ⟨_, rfl⟩
  have HNN := Lib.hid hnn
  rw [hnn] at hno hn100
  have i1 : (0 : Int) ≤ (no : Int) := by omega
  have i2 : (no : Int) < (nn : Int) := by omega
  obtain ⟨xs, hxs⟩ : ∃ xs, (D.file no).data = xs := ⟨_, rfl⟩
  have HXS := Lib.hid hxs
  rw [hxs] at hdl ⊢
  rw [hus2] at hus CU
  rw [hl] at hbl
  have hbl0 : bl = 0 := by rw [← hl, hb0]; rfl
  subst hn
  subst hbl0
  have HUY : Hid (∀ w, BytesV w (Value.slice none 0 0) b → BytesV w (Value.slice none 0 0) []) := fun w h => hb0 ▸ h
  have hb2 : xs.length + ([] : Bs).length ≤ 1099511627776 := by simp; omega
  have q1 : decide ((0 : Int) < ((0 : Nat) : Int)) = false := by decide
  rw [show b = [] from by first | (rw [hb0]; done) | (rw [hb0]; rfl)]
  have HYL : Hid (([] : Bs).length = 0) := Lib.hid rfl
  have w0 : IntKind.i64.wrap 0 = 0 := IntWalk.i64_in _ (by omega)
  clear h hu hI hT ha hd hx hb0 hus2 hl hfl hfn hnog hnn hxs
  go_enter Tryz.func21, Tryz.ntmps21
  go_wp2_with (first | (go_at_call 55; refine CT.out.mono ?_; rintro e w' ⟨rfl, rfl⟩))
  go_quiet (fail)
  rename_i nq
  have j5 : Below w.heap.size w (w.drewN nq) := below_drewN' (Below.refl _ _) nq
  have HUW := Lib.hid (HUY.out _ (HU.out.ext j5))
  have H5 := Lib.hid (H.out.stays fun k hk => j5.block k (H.out.lt hk))
  clear c6 c0 HUY
  generalize hq5 : w.drewN nq = w5 at *
  clear hq5
  go_wp2
  obtain ⟨g, cap9, hva, hgl, hgp, -, -, -⟩ := H5.out.head (j := no) HNO.out
  have HVA := Lib.hid hva
  have hva2 : L.va = .slice (some ⟨g, 0, none⟩) nn cap9 := by rw [hva]; exact congrArg (fun x => Value.slice _ x _) HNN.out
  have c1 : w5.cell? ⟨p, 1, none⟩ = some (.slice (some ⟨g, 0, none⟩) nn cap9) := (H5.out.cell 1).trans (congrArg some hva2)
  have c2 : w5.cell? ⟨p, 2, none⟩ = some (.map (some L.bn)) := H5.out.cell 2
  have hlk2 : (Instr.lookup 58 (.map (some L.bn)) (.string ⟨a.toArray⟩) false).run Tryz.prog w5 = .ok (.int .i64 (no : Int)) w5 := by rw [H5.out.nam.look1 HA.out]; exact congrArg (fun x : Nat => Result.ok (Value.int .i64 (x : Int)) w5) HNG.out
  have hlk3 : (Instr.lookup 58 (.map (some L.bn)) (.string ⟨a.toArray⟩) false).run Tryz.prog w5.drew = .ok (.int .i64 (no : Int)) w5.drew := by
    rw [NamesAt.look1 (w := w5.drew) H5.out.nam HA.out]; exact congrArg (fun x : Nat => Result.ok (Value.int .i64 (x : Int)) w5.drew) HNG.out
  have SA := Lib.hid (show w5.drew.cell? ⟨p, 1, none⟩ = some (.slice (some ⟨g, 0, none⟩) nn cap9) ∧ w5.drew.cell? ⟨p, 2, none⟩ = some (.map (some L.bn)) ∧ (Instr.lookup 58 (.map (some L.bn)) (.string ⟨a.toArray⟩) false).run Tryz.prog w5.drew = .ok (.int .i64 (no : Int)) w5.drew from ⟨c1, c2, hlk3⟩)
  clear hlk3 hva hva2
  go_region_held3 (fun w' => w'.cell? ⟨p, 1, none⟩ = some (.slice (some ⟨g, 0, none⟩) nn cap9) ∧ w'.cell? ⟨p, 2, none⟩ = some (.map (some L.bn)) ∧ (Instr.lookup 58 (.map (some L.bn)) (.string ⟨a.toArray⟩) false).run Tryz.prog w' = .ok (.int .i64 (no : Int)) w')
    (first | with_reducible exact SA.out | exact SA.out | go_keep)
    (fail)
  clear c1 c2 hlk2 SA
  have H6 := Lib.hid (show DP w5.drew p L D from H5.out.stays fun _ _ => rfl)
  have HUX := Lib.hid (show BytesV w5.drew (Value.slice none 0 0) ([] : Bs) from HUW.out)
  go_wp2_with fail
  refine (CF.out _ H6.out).mono ?_
  rintro e w1 ⟨rfl, hD1, hg1⟩
  have HD1 := Lib.hid hD1
  have HG1 := Lib.hid hg1
  have HUZ := Lib.hid (show BytesV w1 (Value.slice none 0 0) ([] : Bs) from HUX.out.far1 hg1 H6.out)
  obtain ⟨g2, cap2, e2, hgl2, -, k0, -, kf⟩ := hD1.head (j := no) HNO.out
  obtain rfl : g = g2 := by have := HVA.out; rw [e2] at this; simp at this; exact this.1.symm
  obtain ⟨ao2, dcap, hdv⟩ := rowShape (hD1.dat no HNO.out)
  have hdv2 : L.at no = .slice ao2 xs.length dcap := by rw [hdv]; exact congrArg (fun x : Bs => Value.slice ao2 x.length dcap) HXS.out
  have HOW := Lib.hid (show w1.ownsRow 0 5 1 (.slice ao2 xs.length dcap) xs.length (bcells xs) from by have := hD1.dat no HNO.out; rw [hdv2] at this; have e : ((fallD D).file no).data = xs := HXS.out; rw [e] at this; exact this)
  have hgne : some g ≠ (Value.slice ao2 xs.length dcap).ownBlock := by rw [← hdv2]; exact rows_ne (hD1.dat no HNO.out) hD1.all (by decide) g (by rw [HVA.out]; rfl)
  rw [hdv2] at k0
  have HDV := Lib.hid hdv2
  have kf1 := kf (no * 2)
  have kfr : Hid (∀ k, w1.frozen? ⟨g, k, none⟩ = false) := kf
  clear kf e2 hdv hdv2 hD1 hg1 hgl
  go_wp2_with (at_builtin; refine wpList_appB rfl (.tmp 70) (.tmp 71) rfl 0 (.slice ao2 xs.length dcap) (Value.slice none 0 0) xs ([] : Bs) rfl HOW.out rfl HUZ.out hb2 (Nat.zero_le _) ?_; intro ao3 cap3 w3 hown3 hg3 hat3; have G3 := Lib.hid (show w1.grownBy w3 (L.at no).ownBlock from by rw [HDV.out]; exact ⟨hg3.os, hg3.tape, hg3.output, hg3.size, hg3.block⟩); have z0 : w3.cell? ⟨g, no * 2, none⟩ = some (.slice ao2 xs.length dcap) := hg3.cell k0 hgne; have zf : w3.frozen? ⟨g, no * 2, none⟩ = false := (World.frozen?_of_block (a := ⟨g, no * 2, none⟩) (hg3.block g hgl2 hgne)).trans kf1; have HOW3 := Lib.hid hown3; have HAT3 := Lib.hid hat3; clear hown3 hg3 hat3)
  go_returns
  have hat : (Value.slice ao3 (xs.length + ([] : Bs).length) cap3).ownBlock = (L.at no).ownBlock ∨ ∃ k, (Value.slice ao3 (xs.length + ([] : Bs).length) cap3).ownBlock = some k ∧ w1.heap.size ≤ k := by
    rcases HAT3.out with h | h
    · exact .inl (by rw [HDV.out]; exact h)
    · exact .inr ⟨_, h, Nat.le_refl _⟩
  have hD3 := HD1.out.dataSet (j := no) HNO.out HVA.out G3.out HOW3.out hat
  have e9 : ((fallD D).file no).safe = (D.file no).safe := rfl
  have z1 := HG1.out.size
  have z5 := j5.size
  have z6 : w5.drew.heap.size = w5.heap.size := rfl
  refine ⟨by first | (rw [errV_zero]; done) | (rw [errV_zero]; rfl), _, hD3, fun k hk => has_data hk (by rw [H5.out.len]; exact HNO.out) ?_, ?_⟩
  · rcases hat with h | ⟨k, h, h2⟩
    · exact .inl h
    · exact .inr ⟨k, h, by omega⟩
  · refine (Keep.of_below j5).trans (Keep.trans (b := w5.drew) ⟨rfl, rfl, rfl, Nat.le_refl _, fun _ _ _ => rfl⟩ ((Keep.self HG1.out).trans ((Keep.grown G3.out fun k hk => ?_).trans (Keep.grown (grown_set _ _ _ _) fun k hk => .inr (.inl ?_)))))
    · exact .inr (.inr (.inr (.inr (.inr ⟨no, by rw [H5.out.len]; exact HNO.out, hk⟩))))
    · rw [HVA.out]; exact hk

set_option maxRecDepth 100000 in
set_option maxHeartbeats 1000000 in
theorem append_ef (p : Nat) (L : Lay) (D : DS) (a : Bs) (u : Value) (b : Bs) (T : Nat) (w : World) (h : DP w p L D) (hu : BytesV w u b) (hI : Inv D T) (hT : T ≤ 100000) (ha : a.length ≤ maxLen) (hd : D.down = false) (hx : thereE D a = 0) (ad : Addr) (cap : Nat) (hn : u = .slice (some ad) 0 cap) (hb0 : b = []) (hfl : downF D = true) :
    Calls Tryz.prog 21 #[.pointer (some ⟨p, 0, none⟩), .string ⟨a.toArray⟩, u] w fun e w' => OpPost p L 10 { fallD D with all := setF D.all (fileN D.names a) ⟨(D.file (fileN D.names a)).data ++ b.take (b.length / 2), (D.file (fileN D.names a)).safe⟩ } w e w' := by
  have CT := Lib.hid (there_any p L D a ha w h)
  rw [hx] at CT
  have H := Lib.hid h
  have HU := Lib.hid hu
  have c6 : w.cell? ⟨p, 6, none⟩ = some (.bool false) := hd ▸ h.cell 6
  have c0 : w.cell? ⟨p, 0, none⟩ = some (.int .i64 D.room) := h.cell 0
  have hbl := hu.len
  obtain ⟨r0, r1⟩ := hI.room
  have CU := Lib.hid (fun (w : World) (h : DP w p L D) => used_any p L D T w h hI hT)
  have hus : usedD D ≤ 100000 * 16777216 := by
    have h1 := sum_le (f := sizeN D) (l := keysN D.names) (M := 16777216) fun x _ => sizeN_le hI x
    have h2 : (keysN D.names).length ≤ 100000 := by unfold keysN; rw [List.length_map]; have := hI.nam; omega
    unfold usedD
    exact Nat.le_trans h1 (Nat.mul_le_mul_right _ h2)
  obtain ⟨bl, hl⟩ : ∃ bl, b.length = bl := ⟨_, rfl⟩
  obtain ⟨us, hus2⟩ : ∃ us, usedD D = us := ⟨_, rfl⟩
  have HBL := Lib.hid hl
  have hno := hI.fileN_lt hx
  have hnog : (nget D.names a).getD 0 = fileN D.names a := rfl
  have hn100 : D.all.length ≤ 100000 := by have := hI.cnt; omega
  have hdl := (hI.data _ hno).2
  have CF := Lib.hid (fun (w : World) (h : DP w p L D) => fall_any p L D w h hI.done.1 (by have := hI.done.2; omega) hI.armed.2)
  rw [hfl] at CF
  have HA := Lib.hid ha
  generalize hfn : fileN D.names a = no at *
  have HNG := Lib.hid hnog
  have HNO := Lib.hid hno
  obtain ⟨nn, hnn⟩ : ∃ nn, D.all.length = nn := ⟨_, rfl⟩
  have HNN := Lib.hid hnn
  rw [hnn] at hno hn100
  have i1 : (0 : Int) ≤ (no : Int) := by omega
  have i2 : (no : Int) < (nn : Int) := by omega
  obtain ⟨xs, hxs⟩ : ∃ xs, (D.file no).data = xs := ⟨_, rfl⟩
  have HXS := Lib.hid hxs
  rw [hxs] at hdl ⊢
  rw [hus2] at hus CU
  rw [hl] at hbl
  have hbl0 : bl = 0 := by rw [← hl, hb0]; rfl
  subst hn
  subst hbl0
  have HUY : Hid (∀ w, BytesV w (Value.slice (some ad) 0 cap) b → BytesV w (Value.slice (some ad) 0 cap) []) := fun w h => hb0 ▸ h
  have hb2 : xs.length + ([] : Bs).length ≤ 1099511627776 := by simp; omega
  have q1 : decide ((0 : Int) < ((0 : Nat) : Int)) = false := by decide
  rw [show b.take (b.length / 2) = [] from by first | (rw [hb0]; done) | (rw [hb0]; rfl)]
  have HYL : Hid (([] : Bs).length = 0) := Lib.hid rfl
  have w0 : IntKind.i64.wrap 0 = 0 := IntWalk.i64_in _ (by omega)
  clear h hu hI hT ha hd hx hb0 hus2 hl hfl hfn hnog hnn hxs
  go_enter Tryz.func21, Tryz.ntmps21
  go_wp2_with (first | (go_at_call 55; refine CT.out.mono ?_; rintro e w' ⟨rfl, rfl⟩))
  go_quiet (fail)
  rename_i nq
  have j5 : Below w.heap.size w (w.drewN nq) := below_drewN' (Below.refl _ _) nq
  have HUW := Lib.hid (HUY.out _ (HU.out.ext j5))
  have H5 := Lib.hid (H.out.stays fun k hk => j5.block k (H.out.lt hk))
  clear c6 c0 HUY
  generalize hq5 : w.drewN nq = w5 at *
  clear hq5
  go_wp2
  obtain ⟨g, cap9, hva, hgl, hgp, -, -, -⟩ := H5.out.head (j := no) HNO.out
  have HVA := Lib.hid hva
  have hva2 : L.va = .slice (some ⟨g, 0, none⟩) nn cap9 := by rw [hva]; exact congrArg (fun x => Value.slice _ x _) HNN.out
  have c1 : w5.cell? ⟨p, 1, none⟩ = some (.slice (some ⟨g, 0, none⟩) nn cap9) := (H5.out.cell 1).trans (congrArg some hva2)
  have c2 : w5.cell? ⟨p, 2, none⟩ = some (.map (some L.bn)) := H5.out.cell 2
  have hlk2 : (Instr.lookup 58 (.map (some L.bn)) (.string ⟨a.toArray⟩) false).run Tryz.prog w5 = .ok (.int .i64 (no : Int)) w5 := by rw [H5.out.nam.look1 HA.out]; exact congrArg (fun x : Nat => Result.ok (Value.int .i64 (x : Int)) w5) HNG.out
  have hlk3 : (Instr.lookup 58 (.map (some L.bn)) (.string ⟨a.toArray⟩) false).run Tryz.prog w5.drew = .ok (.int .i64 (no : Int)) w5.drew := by
    rw [NamesAt.look1 (w := w5.drew) H5.out.nam HA.out]; exact congrArg (fun x : Nat => Result.ok (Value.int .i64 (x : Int)) w5.drew) HNG.out
  have SA := Lib.hid (show w5.drew.cell? ⟨p, 1, none⟩ = some (.slice (some ⟨g, 0, none⟩) nn cap9) ∧ w5.drew.cell? ⟨p, 2, none⟩ = some (.map (some L.bn)) ∧ (Instr.lookup 58 (.map (some L.bn)) (.string ⟨a.toArray⟩) false).run Tryz.prog w5.drew = .ok (.int .i64 (no : Int)) w5.drew from ⟨c1, c2, hlk3⟩)
  clear hlk3 hva hva2
  go_region_held3 (fun w' => w'.cell? ⟨p, 1, none⟩ = some (.slice (some ⟨g, 0, none⟩) nn cap9) ∧ w'.cell? ⟨p, 2, none⟩ = some (.map (some L.bn)) ∧ (Instr.lookup 58 (.map (some L.bn)) (.string ⟨a.toArray⟩) false).run Tryz.prog w' = .ok (.int .i64 (no : Int)) w')
    (first | with_reducible exact SA.out | exact SA.out | go_keep)
    (fail)
  clear c1 c2 hlk2 SA
  have H6 := Lib.hid (show DP w5.drew p L D from H5.out.stays fun _ _ => rfl)
  have HUX := Lib.hid (show BytesV w5.drew (Value.slice (some ad) 0 cap) ([] : Bs) from HUW.out)
  go_wp2_with fail
  refine (CF.out _ H6.out).mono ?_
  rintro e w1 ⟨rfl, hD1, hg1⟩
  have HD1 := Lib.hid hD1
  have HG1 := Lib.hid hg1
  have HUZ := Lib.hid (show BytesV w1 (Value.slice (some ad) 0 cap) ([] : Bs) from HUX.out.far1 hg1 H6.out)
  obtain ⟨g2, cap2, e2, hgl2, -, k0, -, kf⟩ := hD1.head (j := no) HNO.out
  obtain rfl : g = g2 := by have := HVA.out; rw [e2] at this; simp at this; exact this.1.symm
  obtain ⟨ao2, dcap, hdv⟩ := rowShape (hD1.dat no HNO.out)
  have hdv2 : L.at no = .slice ao2 xs.length dcap := by rw [hdv]; exact congrArg (fun x : Bs => Value.slice ao2 x.length dcap) HXS.out
  have HOW := Lib.hid (show w1.ownsRow 0 5 1 (.slice ao2 xs.length dcap) xs.length (bcells xs) from by have := hD1.dat no HNO.out; rw [hdv2] at this; have e : ((fallD D).file no).data = xs := HXS.out; rw [e] at this; exact this)
  have hgne : some g ≠ (Value.slice ao2 xs.length dcap).ownBlock := by rw [← hdv2]; exact rows_ne (hD1.dat no HNO.out) hD1.all (by decide) g (by rw [HVA.out]; rfl)
  rw [hdv2] at k0
  have HDV := Lib.hid hdv2
  have kf1 := kf (no * 2)
  have kfr : Hid (∀ k, w1.frozen? ⟨g, k, none⟩ = false) := kf
  clear kf e2 hdv hdv2 hD1 hg1 hgl
  go_wp2
  go_region_law ((refine step_appB (by rfl) _ _ (by rfl) 0 (.slice ao2 xs.length dcap) (Value.slice (some ad) 0 cap) xs ([] : Bs) (by rfl) HOW.out (by rfl) HUZ.out hb2 (Nat.zero_le _) ?_; intro ao3 cap3 w3 hown3 hg3 hat3; have G3 := Lib.hid (show w1.grownBy w3 (L.at no).ownBlock from by rw [HDV.out]; exact ⟨hg3.os, hg3.tape, hg3.output, hg3.size, hg3.block⟩); have z0 : w3.cell? ⟨g, no * 2, none⟩ = some (.slice ao2 xs.length dcap) := hg3.cell k0 hgne; have zf : w3.frozen? ⟨g, no * 2, none⟩ = false := (World.frozen?_of_block (a := ⟨g, no * 2, none⟩) (hg3.block g hgl2 hgne)).trans kf1; have HOW3 := Lib.hid hown3; have HAT3 := Lib.hid hat3; clear hown3 hg3 hat3))
  all_goals
    go_wp2
    go_returns
    have hat : (Value.slice ao3 (xs.length + ([] : Bs).length) cap3).ownBlock = (L.at no).ownBlock ∨ ∃ k, (Value.slice ao3 (xs.length + ([] : Bs).length) cap3).ownBlock = some k ∧ w1.heap.size ≤ k := by
      rcases HAT3.out with h | h
      · exact .inl (by rw [HDV.out]; exact h)
      · exact .inr ⟨_, h, Nat.le_refl _⟩
    have hD3 := HD1.out.dataSet (j := no) HNO.out HVA.out G3.out HOW3.out hat
    have e9 : ((fallD D).file no).safe = (D.file no).safe := rfl
    have z1 := HG1.out.size
    have z5 := j5.size
    have z6 : w5.drew.heap.size = w5.heap.size := rfl
    refine ⟨by first | (rw [errV_ne (k := 10) (by decide)]; done) | (rw [errV_ne (k := 10) (by decide)]; rfl), _, hD3, fun k hk => has_data hk (by rw [H5.out.len]; exact HNO.out) ?_, ?_⟩
    · rcases hat with h | ⟨k, h, h2⟩
      · exact .inl h
      · exact .inr ⟨k, h, by omega⟩
    · refine (Keep.of_below j5).trans (Keep.trans (b := w5.drew) ⟨rfl, rfl, rfl, Nat.le_refl _, fun _ _ _ => rfl⟩ ((Keep.self HG1.out).trans ((Keep.grown G3.out fun k hk => ?_).trans (Keep.grown (grown_set _ _ _ _) fun k hk => .inr (.inl ?_)))))
      · exact .inr (.inr (.inr (.inr (.inr ⟨no, by rw [H5.out.len]; exact HNO.out, hk⟩))))
      · rw [HVA.out]; exact hk

set_option maxRecDepth 100000 in
set_option maxHeartbeats 1000000 in
theorem append_eg (p : Nat) (L : Lay) (D : DS) (a : Bs) (u : Value) (b : Bs) (T : Nat) (w : World) (h : DP w p L D) (hu : BytesV w u b) (hI : Inv D T) (hT : T ≤ 100000) (ha : a.length ≤ maxLen) (hd : D.down = false) (hx : thereE D a = 0) (ad : Addr) (cap : Nat) (hn : u = .slice (some ad) 0 cap) (hb0 : b = []) (hfl : downF D = false) :
    Calls Tryz.prog 21 #[.pointer (some ⟨p, 0, none⟩), .string ⟨a.toArray⟩, u] w fun e w' => OpPost p L 0 { fallD D with all := setF D.all (fileN D.names a) ⟨(D.file (fileN D.names a)).data ++ b, (D.file (fileN D.names a)).safe⟩ } w e w' := by
  have CT := Lib.hid (there_any p L D a ha w h)
  rw [hx] at CT
  have H := Lib.hid h
  have HU := Lib.hid hu
  have c6 : w.cell? ⟨p, 6, none⟩ = some (.bool false) := hd ▸ h.cell 6
  have c0 : w.cell? ⟨p, 0, none⟩ = some (.int .i64 D.room) := h.cell 0
  have hbl := hu.len
  obtain ⟨r0, r1⟩ := hI.room
  have CU := Lib.hid (fun (w : World) (h : DP w p L D) => used_any p L D T w h hI hT)
  have hus : usedD D ≤ 100000 * 16777216 := by
    have h1 := sum_le (f := sizeN D) (l := keysN D.names) (M := 16777216) fun x _ => sizeN_le hI x
    have h2 : (keysN D.names).length ≤ 100000 := by unfold keysN; rw [List.length_map]; have := hI.nam; omega
    unfold usedD
    exact Nat.le_trans h1 (Nat.mul_le_mul_right _ h2)
  obtain ⟨bl, hl⟩ : ∃ bl, b.length = bl := ⟨_, rfl⟩
  obtain ⟨us, hus2⟩ : ∃ us, usedD D = us := ⟨_, rfl⟩
  have HBL := Lib.hid hl
  have hno := hI.fileN_lt hx
  have hnog : (nget D.names a).getD 0 = fileN D.names a := rfl
  have hn100 : D.all.length ≤ 100000 := by have := hI.cnt; omega
  have hdl := (hI.data _ hno).2
  have CF := Lib.hid (fun (w : World) (h : DP w p L D) => fall_any p L D w h hI.done.1 (by have := hI.done.2; omega) hI.armed.2)
  rw [hfl] at CF
  have HA := Lib.hid ha
  generalize hfn : fileN D.names a = no at *
  have HNG := Lib.hid hnog
  have HNO := Lib.hid hno
  obtain ⟨nn, hnn⟩ : ∃ nn, D.all.length = nn := ⟨_, rfl⟩
  have HNN := Lib.hid hnn
  rw [hnn] at hno hn100
  have i1 : (0 : Int) ≤ (no : Int) := by omega
  have i2 : (no : Int) < (nn : Int) := by omega
  obtain ⟨xs, hxs⟩ : ∃ xs, (D.file no).data = xs := ⟨_, rfl⟩
  have HXS := Lib.hid hxs
  rw [hxs] at hdl ⊢
  rw [hus2] at hus CU
  rw [hl] at hbl
  have hbl0 : bl = 0 := by rw [← hl, hb0]; rfl
  subst hn
  subst hbl0
  have HUY : Hid (∀ w, BytesV w (Value.slice (some ad) 0 cap) b → BytesV w (Value.slice (some ad) 0 cap) []) := fun w h => hb0 ▸ h
  have hb2 : xs.length + ([] : Bs).length ≤ 1099511627776 := by simp; omega
  have q1 : decide ((0 : Int) < ((0 : Nat) : Int)) = false := by decide
  rw [show b = [] from by first | (rw [hb0]; done) | (rw [hb0]; rfl)]
  have HYL : Hid (([] : Bs).length = 0) := Lib.hid rfl
  have w0 : IntKind.i64.wrap 0 = 0 := IntWalk.i64_in _ (by omega)
  clear h hu hI hT ha hd hx hb0 hus2 hl hfl hfn hnog hnn hxs
  go_enter Tryz.func21, Tryz.ntmps21
  go_wp2_with (first | (go_at_call 55; refine CT.out.mono ?_; rintro e w' ⟨rfl, rfl⟩))
  go_quiet (fail)
  rename_i nq
  have j5 : Below w.heap.size w (w.drewN nq) := below_drewN' (Below.refl _ _) nq
  have HUW := Lib.hid (HUY.out _ (HU.out.ext j5))
  have H5 := Lib.hid (H.out.stays fun k hk => j5.block k (H.out.lt hk))
  clear c6 c0 HUY
  generalize hq5 : w.drewN nq = w5 at *
  clear hq5
  go_wp2
  obtain ⟨g, cap9, hva, hgl, hgp, -, -, -⟩ := H5.out.head (j := no) HNO.out
  have HVA := Lib.hid hva
  have hva2 : L.va = .slice (some ⟨g, 0, none⟩) nn cap9 := by rw [hva]; exact congrArg (fun x => Value.slice _ x _) HNN.out
  have c1 : w5.cell? ⟨p, 1, none⟩ = some (.slice (some ⟨g, 0, none⟩) nn cap9) := (H5.out.cell 1).trans (congrArg some hva2)
  have c2 : w5.cell? ⟨p, 2, none⟩ = some (.map (some L.bn)) := H5.out.cell 2
  have hlk2 : (Instr.lookup 58 (.map (some L.bn)) (.string ⟨a.toArray⟩) false).run Tryz.prog w5 = .ok (.int .i64 (no : Int)) w5 := by rw [H5.out.nam.look1 HA.out]; exact congrArg (fun x : Nat => Result.ok (Value.int .i64 (x : Int)) w5) HNG.out
  have hlk3 : (Instr.lookup 58 (.map (some L.bn)) (.string ⟨a.toArray⟩) false).run Tryz.prog w5.drew = .ok (.int .i64 (no : Int)) w5.drew := by
    rw [NamesAt.look1 (w := w5.drew) H5.out.nam HA.out]; exact congrArg (fun x : Nat => Result.ok (Value.int .i64 (x : Int)) w5.drew) HNG.out
  have SA := Lib.hid (show w5.drew.cell? ⟨p, 1, none⟩ = some (.slice (some ⟨g, 0, none⟩) nn cap9) ∧ w5.drew.cell? ⟨p, 2, none⟩ = some (.map (some L.bn)) ∧ (Instr.lookup 58 (.map (some L.bn)) (.string ⟨a.toArray⟩) false).run Tryz.prog w5.drew = .ok (.int .i64 (no : Int)) w5.drew from ⟨c1, c2, hlk3⟩)
  clear hlk3 hva hva2
  go_region_held3 (fun w' => w'.cell? ⟨p, 1, none⟩ = some (.slice (some ⟨g, 0, none⟩) nn cap9) ∧ w'.cell? ⟨p, 2, none⟩ = some (.map (some L.bn)) ∧ (Instr.lookup 58 (.map (some L.bn)) (.string ⟨a.toArray⟩) false).run Tryz.prog w' = .ok (.int .i64 (no : Int)) w')
    (first | with_reducible exact SA.out | exact SA.out | go_keep)
    (fail)
  clear c1 c2 hlk2 SA
  have H6 := Lib.hid (show DP w5.drew p L D from H5.out.stays fun _ _ => rfl)
  have HUX := Lib.hid (show BytesV w5.drew (Value.slice (some ad) 0 cap) ([] : Bs) from HUW.out)
  go_wp2_with fail
  refine (CF.out _ H6.out).mono ?_
  rintro e w1 ⟨rfl, hD1, hg1⟩
  have HD1 := Lib.hid hD1
  have HG1 := Lib.hid hg1
  have HUZ := Lib.hid (show BytesV w1 (Value.slice (some ad) 0 cap) ([] : Bs) from HUX.out.far1 hg1 H6.out)
  obtain ⟨g2, cap2, e2, hgl2, -, k0, -, kf⟩ := hD1.head (j := no) HNO.out
  obtain rfl : g = g2 := by have := HVA.out; rw [e2] at this; simp at this; exact this.1.symm
  obtain ⟨ao2, dcap, hdv⟩ := rowShape (hD1.dat no HNO.out)
  have hdv2 : L.at no = .slice ao2 xs.length dcap := by rw [hdv]; exact congrArg (fun x : Bs => Value.slice ao2 x.length dcap) HXS.out
  have HOW := Lib.hid (show w1.ownsRow 0 5 1 (.slice ao2 xs.length dcap) xs.length (bcells xs) from by have := hD1.dat no HNO.out; rw [hdv2] at this; have e : ((fallD D).file no).data = xs := HXS.out; rw [e] at this; exact this)
  have hgne : some g ≠ (Value.slice ao2 xs.length dcap).ownBlock := by rw [← hdv2]; exact rows_ne (hD1.dat no HNO.out) hD1.all (by decide) g (by rw [HVA.out]; rfl)
  rw [hdv2] at k0
  have HDV := Lib.hid hdv2
  have kf1 := kf (no * 2)
  have kfr : Hid (∀ k, w1.frozen? ⟨g, k, none⟩ = false) := kf
  clear kf e2 hdv hdv2 hD1 hg1 hgl
  go_wp2_with (at_builtin; refine wpList_appB rfl (.tmp 70) (.tmp 71) rfl 0 (.slice ao2 xs.length dcap) (Value.slice (some ad) 0 cap) xs ([] : Bs) rfl HOW.out rfl HUZ.out hb2 (Nat.zero_le _) ?_; intro ao3 cap3 w3 hown3 hg3 hat3; have G3 := Lib.hid (show w1.grownBy w3 (L.at no).ownBlock from by rw [HDV.out]; exact ⟨hg3.os, hg3.tape, hg3.output, hg3.size, hg3.block⟩); have z0 : w3.cell? ⟨g, no * 2, none⟩ = some (.slice ao2 xs.length dcap) := hg3.cell k0 hgne; have zf : w3.frozen? ⟨g, no * 2, none⟩ = false := (World.frozen?_of_block (a := ⟨g, no * 2, none⟩) (hg3.block g hgl2 hgne)).trans kf1; have HOW3 := Lib.hid hown3; have HAT3 := Lib.hid hat3; clear hown3 hg3 hat3)
  go_returns
  have hat : (Value.slice ao3 (xs.length + ([] : Bs).length) cap3).ownBlock = (L.at no).ownBlock ∨ ∃ k, (Value.slice ao3 (xs.length + ([] : Bs).length) cap3).ownBlock = some k ∧ w1.heap.size ≤ k := by
    rcases HAT3.out with h | h
    · exact .inl (by rw [HDV.out]; exact h)
    · exact .inr ⟨_, h, Nat.le_refl _⟩
  have hD3 := HD1.out.dataSet (j := no) HNO.out HVA.out G3.out HOW3.out hat
  have e9 : ((fallD D).file no).safe = (D.file no).safe := rfl
  have z1 := HG1.out.size
  have z5 := j5.size
  have z6 : w5.drew.heap.size = w5.heap.size := rfl
  refine ⟨by first | (rw [errV_zero]; done) | (rw [errV_zero]; rfl), _, hD3, fun k hk => has_data hk (by rw [H5.out.len]; exact HNO.out) ?_, ?_⟩
  · rcases hat with h | ⟨k, h, h2⟩
    · exact .inl h
    · exact .inr ⟨k, h, by omega⟩
  · refine (Keep.of_below j5).trans (Keep.trans (b := w5.drew) ⟨rfl, rfl, rfl, Nat.le_refl _, fun _ _ _ => rfl⟩ ((Keep.self HG1.out).trans ((Keep.grown G3.out fun k hk => ?_).trans (Keep.grown (grown_set _ _ _ _) fun k hk => .inr (.inl ?_)))))
    · exact .inr (.inr (.inr (.inr (.inr ⟨no, by rw [H5.out.len]; exact HNO.out, hk⟩))))
    · rw [HVA.out]; exact hk

set_option maxRecDepth 100000 in
set_option maxHeartbeats 1000000 in
theorem append_pf (p : Nat) (L : Lay) (D : DS) (a : Bs) (u : Value) (b : Bs) (T : Nat) (w : World) (h : DP w p L D) (hu : BytesV w u b) (hI : Inv D T) (hT : T ≤ 100000) (ha : a.length ≤ maxLen) (hd : D.down = false) (hx : thereE D a = 0) (ad : Addr) (cap : Nat) (hn : u = .slice (some ad) b.length cap) (hb0 : b ≠ []) (hf : ¬ D.room - usedD D < b.length) (hfl : downF D = true) :
    Calls Tryz.prog 21 #[.pointer (some ⟨p, 0, none⟩), .string ⟨a.toArray⟩, u] w fun e w' => OpPost p L 10 { fallD D with all := setF D.all (fileN D.names a) ⟨(D.file (fileN D.names a)).data ++ b.take (b.length / 2), (D.file (fileN D.names a)).safe⟩ } w e w' := by
  have CT := Lib.hid (there_any p L D a ha w h)
  rw [hx] at CT
  have H := Lib.hid h
  have HU := Lib.hid hu
  have c6 : w.cell? ⟨p, 6, none⟩ = some (.bool false) := hd ▸ h.cell 6
  have c0 : w.cell? ⟨p, 0, none⟩ = some (.int .i64 D.room) := h.cell 0
  have hbl := hu.len
  obtain ⟨r0, r1⟩ := hI.room
  have CU := Lib.hid (fun (w : World) (h : DP w p L D) => used_any p L D T w h hI hT)
  have hus : usedD D ≤ 100000 * 16777216 := by
    have h1 := sum_le (f := sizeN D) (l := keysN D.names) (M := 16777216) fun x _ => sizeN_le hI x
    have h2 : (keysN D.names).length ≤ 100000 := by unfold keysN; rw [List.length_map]; have := hI.nam; omega
    unfold usedD
    exact Nat.le_trans h1 (Nat.mul_le_mul_right _ h2)
  obtain ⟨bl, hl⟩ : ∃ bl, b.length = bl := ⟨_, rfl⟩
  obtain ⟨us, hus2⟩ : ∃ us, usedD D = us := ⟨_, rfl⟩
  have HBL := Lib.hid hl
  have hno := hI.fileN_lt hx
  have hnog : (nget D.names a).getD 0 = fileN D.names a := rfl
  have hn100 : D.all.length ≤ 100000 := by have := hI.cnt; omega
  have hdl := (hI.data _ hno).2
  have CF := Lib.hid (fun (w : World) (h : DP w p L D) => fall_any p L D w h hI.done.1 (by have := hI.done.2; omega) hI.armed.2)
  rw [hfl] at CF
  have HA := Lib.hid ha
  generalize hfn : fileN D.names a = no at *
  have HNG := Lib.hid hnog
  have HNO := Lib.hid hno
  obtain ⟨nn, hnn⟩ : ∃ nn, D.all.length = nn := ⟨_, rfl⟩
  have HNN := Lib.hid hnn
  rw [hnn] at hno hn100
  have i1 : (0 : Int) ≤ (no : Int) := by omega
  have i2 : (no : Int) < (nn : Int) := by omega
  obtain ⟨xs, hxs⟩ : ∃ xs, (D.file no).data = xs := ⟨_, rfl⟩
  have HXS := Lib.hid hxs
  rw [hxs] at hdl ⊢
  rw [hus2] at hus CU
  rw [hl] at hbl
  rw [hl] at hn hf
  rw [hus2] at hf
  have hbp : 0 < bl := by rw [← hl]; exact List.length_pos_iff.2 hb0
  subst hn
  have hcap : bl ≤ cap := by obtain ⟨_, _, e, h1, _⟩ := hu; simp at e; omega
  have q1 : decide ((0 : Int) < (bl : Int)) = true := by simp; omega
  have q2 : IntKind.i64.wrap (D.room - (us : Int)) = D.room - (us : Int) := IntWalk.i64_in _ (by omega)
  have q3 : decide (D.room - (us : Int) < (bl : Int)) = false := by simp; omega
  obtain ⟨hf2, hhf⟩ : ∃ hf2, bl / 2 = hf2 := ⟨_, rfl⟩
  obtain ⟨ys, hys⟩ : ∃ ys, b.take (b.length / 2) = ys := ⟨_, rfl⟩
  have hyl : ys.length = hf2 := by rw [← hys, List.length_take, hl, ← hhf]; omega
  have HUY : Hid (∀ w, BytesV w (.slice (some ad) bl cap) b → BytesV w (.slice (some ad) hf2 cap) ys) := fun w h => by
    have := h.cut (m := hf2) (by omega)
    rw [← hhf, ← hl, hys] at this
    rw [hhf.symm, ← hl] ; exact this
  have HYL := Lib.hid hyl
  have hb2 : xs.length + ys.length ≤ 1099511627776 := by rw [hyl]; omega
  have p0 : (bl : Int) / 2 = (hf2 : Int) := by omega
  have p1 : Int.tdiv (bl : Int) 2 = (hf2 : Int) := by rw [Int.tdiv_eq_ediv_of_nonneg (by omega)]; omega
  have p2 : IntKind.i64.wrap (hf2 : Int) = (hf2 : Int) := IntWalk.i64_in _ (by omega)
  have p3 : (0 : Int) ≤ (hf2 : Int) := by omega
  have p4 : (hf2 : Int) ≤ (cap : Int) := by omega
  have p5 : hf2 ≤ cap := by omega
  have p6 : bl / 2 = hf2 := hhf
  rw [hys]
  clear hhf hys hyl
  clear h hu hI hT ha hd hx hb0 hus2 hl hfl hfn hnog hnn hxs hf
  go_enter Tryz.func21, Tryz.ntmps21
  go_wp2_with (first | (go_at_call 55; refine CT.out.mono ?_; rintro e w' ⟨rfl, rfl⟩))
  go_region_held3 (fun w' => w'.cell? ⟨p, 0, none⟩ = some (.int .i64 D.room)) (first | with_reducible exact S5.out | go_keep)
    (first | (go_at_call 14; refine (CU.out _ ?_).mono ?_; exact H.out.stays fun _ _ => rfl; rintro e w5 ⟨rfl, hb5⟩; have j5 : Below w.heap.size w w5 := (by first | exact hb5 | exact below_undrew hb5); have H5 := Lib.hid (H.out.stays fun k hk => j5.block k (H.out.lt hk)); have S5 := Lib.hid (show w5.cell? ⟨p, 0, none⟩ = some (.int .i64 D.room) from H5.out.cell 0)))
  have HUW := Lib.hid (HUY.out _ (HU.out.ext j5))
  clear S5 c6 c0 HUY hb5
  go_wp2
  obtain ⟨g, cap9, hva, hgl, hgp, -, -, -⟩ := H5.out.head (j := no) HNO.out
  have HVA := Lib.hid hva
  have hva2 : L.va = .slice (some ⟨g, 0, none⟩) nn cap9 := by rw [hva]; exact congrArg (fun x => Value.slice _ x _) HNN.out
  have c1 : w5.cell? ⟨p, 1, none⟩ = some (.slice (some ⟨g, 0, none⟩) nn cap9) := (H5.out.cell 1).trans (congrArg some hva2)
  have c2 : w5.cell? ⟨p, 2, none⟩ = some (.map (some L.bn)) := H5.out.cell 2
  have hlk2 : (Instr.lookup 58 (.map (some L.bn)) (.string ⟨a.toArray⟩) false).run Tryz.prog w5 = .ok (.int .i64 (no : Int)) w5 := by rw [H5.out.nam.look1 HA.out]; exact congrArg (fun x : Nat => Result.ok (Value.int .i64 (x : Int)) w5) HNG.out
  have hlk3 : (Instr.lookup 58 (.map (some L.bn)) (.string ⟨a.toArray⟩) false).run Tryz.prog w5.drew = .ok (.int .i64 (no : Int)) w5.drew := by
    rw [NamesAt.look1 (w := w5.drew) H5.out.nam HA.out]; exact congrArg (fun x : Nat => Result.ok (Value.int .i64 (x : Int)) w5.drew) HNG.out
  have SA := Lib.hid (show w5.drew.cell? ⟨p, 1, none⟩ = some (.slice (some ⟨g, 0, none⟩) nn cap9) ∧ w5.drew.cell? ⟨p, 2, none⟩ = some (.map (some L.bn)) ∧ (Instr.lookup 58 (.map (some L.bn)) (.string ⟨a.toArray⟩) false).run Tryz.prog w5.drew = .ok (.int .i64 (no : Int)) w5.drew from ⟨c1, c2, hlk3⟩)
  clear hlk3 hva hva2
  go_region_held3 (fun w' => w'.cell? ⟨p, 1, none⟩ = some (.slice (some ⟨g, 0, none⟩) nn cap9) ∧ w'.cell? ⟨p, 2, none⟩ = some (.map (some L.bn)) ∧ (Instr.lookup 58 (.map (some L.bn)) (.string ⟨a.toArray⟩) false).run Tryz.prog w' = .ok (.int .i64 (no : Int)) w')
    (first | with_reducible exact SA.out | exact SA.out | go_keep)
    (fail)
  clear c1 c2 hlk2 SA
  have H6 := Lib.hid (show DP w5.drew p L D from H5.out.stays fun _ _ => rfl)
  have HUX := Lib.hid (show BytesV w5.drew (Value.slice (some ad) hf2 cap) ys from HUW.out)
  go_wp2_with fail
  refine (CF.out _ H6.out).mono ?_
  rintro e w1 ⟨rfl, hD1, hg1⟩
  have HD1 := Lib.hid hD1
  have HG1 := Lib.hid hg1
  have HUZ := Lib.hid (show BytesV w1 (Value.slice (some ad) hf2 cap) ys from HUX.out.far1 hg1 H6.out)
  obtain ⟨g2, cap2, e2, hgl2, -, k0, -, kf⟩ := hD1.head (j := no) HNO.out
  obtain rfl : g = g2 := by have := HVA.out; rw [e2] at this; simp at this; exact this.1.symm
  obtain ⟨ao2, dcap, hdv⟩ := rowShape (hD1.dat no HNO.out)
  have hdv2 : L.at no = .slice ao2 xs.length dcap := by rw [hdv]; exact congrArg (fun x : Bs => Value.slice ao2 x.length dcap) HXS.out
  have HOW := Lib.hid (show w1.ownsRow 0 5 1 (.slice ao2 xs.length dcap) xs.length (bcells xs) from by have := hD1.dat no HNO.out; rw [hdv2] at this; have e : ((fallD D).file no).data = xs := HXS.out; rw [e] at this; exact this)
  have hgne : some g ≠ (Value.slice ao2 xs.length dcap).ownBlock := by rw [← hdv2]; exact rows_ne (hD1.dat no HNO.out) hD1.all (by decide) g (by rw [HVA.out]; rfl)
  rw [hdv2] at k0
  have HDV := Lib.hid hdv2
  have kf1 := kf (no * 2)
  have kfr : Hid (∀ k, w1.frozen? ⟨g, k, none⟩ = false) := kf
  clear kf e2 hdv hdv2 hD1 hg1 hgl
  go_wp2
  go_region_law ((refine step_appB (by rfl) _ _ (by rfl) 0 (.slice ao2 xs.length dcap) (Value.slice (some ad) hf2 cap) xs ys (by rfl) HOW.out (by rfl) HUZ.out hb2 (Nat.zero_le _) ?_; intro ao3 cap3 w3 hown3 hg3 hat3; have G3 := Lib.hid (show w1.grownBy w3 (L.at no).ownBlock from by rw [HDV.out]; exact ⟨hg3.os, hg3.tape, hg3.output, hg3.size, hg3.block⟩); have z0 : w3.cell? ⟨g, no * 2, none⟩ = some (.slice ao2 xs.length dcap) := hg3.cell k0 hgne; have zf : w3.frozen? ⟨g, no * 2, none⟩ = false := (World.frozen?_of_block (a := ⟨g, no * 2, none⟩) (hg3.block g hgl2 hgne)).trans kf1; have HOW3 := Lib.hid hown3; have HAT3 := Lib.hid hat3; clear hown3 hg3 hat3))
  all_goals
    go_wp2
    go_returns
    have hat : (Value.slice ao3 (xs.length + ys.length) cap3).ownBlock = (L.at no).ownBlock ∨ ∃ k, (Value.slice ao3 (xs.length + ys.length) cap3).ownBlock = some k ∧ w1.heap.size ≤ k := by
      rcases HAT3.out with h | h
      · exact .inl (by rw [HDV.out]; exact h)
      · exact .inr ⟨_, h, Nat.le_refl _⟩
    have hD3 := HD1.out.dataSet (j := no) HNO.out HVA.out G3.out HOW3.out hat
    have e9 : ((fallD D).file no).safe = (D.file no).safe := rfl
    have z1 := HG1.out.size
    have z5 := j5.size
    have z6 : w5.drew.heap.size = w5.heap.size := rfl
    refine ⟨by first | (rw [errV_ne (k := 10) (by decide)]; done) | (rw [errV_ne (k := 10) (by decide)]; rfl), _, hD3, fun k hk => has_data hk (by rw [H5.out.len]; exact HNO.out) ?_, ?_⟩
    · rcases hat with h | ⟨k, h, h2⟩
      · exact .inl h
      · exact .inr ⟨k, h, by omega⟩
    · refine (Keep.of_below j5).trans (Keep.trans (b := w5.drew) ⟨rfl, rfl, rfl, Nat.le_refl _, fun _ _ _ => rfl⟩ ((Keep.self HG1.out).trans ((Keep.grown G3.out fun k hk => ?_).trans (Keep.grown (grown_set _ _ _ _) fun k hk => .inr (.inl ?_)))))
      · exact .inr (.inr (.inr (.inr (.inr ⟨no, by rw [H5.out.len]; exact HNO.out, hk⟩))))
      · rw [HVA.out]; exact hk

set_option maxRecDepth 100000 in
set_option maxHeartbeats 1000000 in
theorem append_pg (p : Nat) (L : Lay) (D : DS) (a : Bs) (u : Value) (b : Bs) (T : Nat) (w : World) (h : DP w p L D) (hu : BytesV w u b) (hI : Inv D T) (hT : T ≤ 100000) (ha : a.length ≤ maxLen) (hd : D.down = false) (hx : thereE D a = 0) (ad : Addr) (cap : Nat) (hn : u = .slice (some ad) b.length cap) (hb0 : b ≠ []) (hf : ¬ D.room - usedD D < b.length) (hfl : downF D = false) :
    Calls Tryz.prog 21 #[.pointer (some ⟨p, 0, none⟩), .string ⟨a.toArray⟩, u] w fun e w' => OpPost p L 0 { fallD D with all := setF D.all (fileN D.names a) ⟨(D.file (fileN D.names a)).data ++ b, (D.file (fileN D.names a)).safe⟩ } w e w' := by
  have CT := Lib.hid (there_any p L D a ha w h)
  rw [hx] at CT
  have H := Lib.hid h
  have HU := Lib.hid hu
  have c6 : w.cell? ⟨p, 6, none⟩ = some (.bool false) := hd ▸ h.cell 6
  have c0 : w.cell? ⟨p, 0, none⟩ = some (.int .i64 D.room) := h.cell 0
  have hbl := hu.len
  obtain ⟨r0, r1⟩ := hI.room
  have CU := Lib.hid (fun (w : World) (h : DP w p L D) => used_any p L D T w h hI hT)
  have hus : usedD D ≤ 100000 * 16777216 := by
    have h1 := sum_le (f := sizeN D) (l := keysN D.names) (M := 16777216) fun x _ => sizeN_le hI x
    have h2 : (keysN D.names).length ≤ 100000 := by unfold keysN; rw [List.length_map]; have := hI.nam; omega
    unfold usedD
    exact Nat.le_trans h1 (Nat.mul_le_mul_right _ h2)
  obtain ⟨bl, hl⟩ : ∃ bl, b.length = bl := ⟨_, rfl⟩
  obtain ⟨us, hus2⟩ : ∃ us, usedD D = us := ⟨_, rfl⟩
  have HBL := Lib.hid hl
  have hno := hI.fileN_lt hx
  have hnog : (nget D.names a).getD 0 = fileN D.names a := rfl
  have hn100 : D.all.length ≤ 100000 := by have := hI.cnt; omega
  have hdl := (hI.data _ hno).2
  have CF := Lib.hid (fun (w : World) (h : DP w p L D) => fall_any p L D w h hI.done.1 (by have := hI.done.2; omega) hI.armed.2)
  rw [hfl] at CF
  have HA := Lib.hid ha
  generalize hfn : fileN D.names a = no at *
  have HNG := Lib.hid hnog
  have HNO := Lib.hid hno
  obtain ⟨nn, hnn⟩ : ∃ nn, D.all.length = nn := ⟨_, rfl⟩
  have HNN := Lib.hid hnn
  rw [hnn] at hno hn100
  have i1 : (0 : Int) ≤ (no : Int) := by omega
  have i2 : (no : Int) < (nn : Int) := by omega
  obtain ⟨xs, hxs⟩ : ∃ xs, (D.file no).data = xs := ⟨_, rfl⟩
  have HXS := Lib.hid hxs
  rw [hxs] at hdl ⊢
  rw [hus2] at hus CU
  rw [hl] at hbl
  rw [hl] at hn hf
  rw [hus2] at hf
  have hbp : 0 < bl := by rw [← hl]; exact List.length_pos_iff.2 hb0
  subst hn
  have hcap : bl ≤ cap := by obtain ⟨_, _, e, h1, _⟩ := hu; simp at e; omega
  have q1 : decide ((0 : Int) < (bl : Int)) = true := by simp; omega
  have q2 : IntKind.i64.wrap (D.room - (us : Int)) = D.room - (us : Int) := IntWalk.i64_in _ (by omega)
  have q3 : decide (D.room - (us : Int) < (bl : Int)) = false := by simp; omega
  obtain ⟨ys, hys⟩ : ∃ ys, b = ys := ⟨_, rfl⟩
  have HUY : Hid (∀ w, BytesV w (.slice (some ad) bl cap) b → BytesV w (.slice (some ad) bl cap) ys) := fun w h => hys ▸ h
  have hb2 : xs.length + ys.length ≤ 1099511627776 := by rw [← hys, hl]; omega
  rw [hys]
  clear hys
  clear h hu hI hT ha hd hx hb0 hus2 hl hfl hfn hnog hnn hxs hf
  go_enter Tryz.func21, Tryz.ntmps21
  go_wp2_with (first | (go_at_call 55; refine CT.out.mono ?_; rintro e w' ⟨rfl, rfl⟩))
  go_region_held3 (fun w' => w'.cell? ⟨p, 0, none⟩ = some (.int .i64 D.room)) (first | with_reducible exact S5.out | go_keep)
    (first | (go_at_call 14; refine (CU.out _ ?_).mono ?_; exact H.out.stays fun _ _ => rfl; rintro e w5 ⟨rfl, hb5⟩; have j5 : Below w.heap.size w w5 := (by first | exact hb5 | exact below_undrew hb5); have H5 := Lib.hid (H.out.stays fun k hk => j5.block k (H.out.lt hk)); have S5 := Lib.hid (show w5.cell? ⟨p, 0, none⟩ = some (.int .i64 D.room) from H5.out.cell 0)))
  have HUW := Lib.hid (HUY.out _ (HU.out.ext j5))
  clear S5 c6 c0 HUY hb5
  go_wp2
  obtain ⟨g, cap9, hva, hgl, hgp, -, -, -⟩ := H5.out.head (j := no) HNO.out
  have HVA := Lib.hid hva
  have hva2 : L.va = .slice (some ⟨g, 0, none⟩) nn cap9 := by rw [hva]; exact congrArg (fun x => Value.slice _ x _) HNN.out
  have c1 : w5.cell? ⟨p, 1, none⟩ = some (.slice (some ⟨g, 0, none⟩) nn cap9) := (H5.out.cell 1).trans (congrArg some hva2)
  have c2 : w5.cell? ⟨p, 2, none⟩ = some (.map (some L.bn)) := H5.out.cell 2
  have hlk2 : (Instr.lookup 58 (.map (some L.bn)) (.string ⟨a.toArray⟩) false).run Tryz.prog w5 = .ok (.int .i64 (no : Int)) w5 := by rw [H5.out.nam.look1 HA.out]; exact congrArg (fun x : Nat => Result.ok (Value.int .i64 (x : Int)) w5) HNG.out
  have hlk3 : (Instr.lookup 58 (.map (some L.bn)) (.string ⟨a.toArray⟩) false).run Tryz.prog w5.drew = .ok (.int .i64 (no : Int)) w5.drew := by
    rw [NamesAt.look1 (w := w5.drew) H5.out.nam HA.out]; exact congrArg (fun x : Nat => Result.ok (Value.int .i64 (x : Int)) w5.drew) HNG.out
  have SA := Lib.hid (show w5.drew.cell? ⟨p, 1, none⟩ = some (.slice (some ⟨g, 0, none⟩) nn cap9) ∧ w5.drew.cell? ⟨p, 2, none⟩ = some (.map (some L.bn)) ∧ (Instr.lookup 58 (.map (some L.bn)) (.string ⟨a.toArray⟩) false).run Tryz.prog w5.drew = .ok (.int .i64 (no : Int)) w5.drew from ⟨c1, c2, hlk3⟩)
  clear hlk3 hva hva2
  go_region_held3 (fun w' => w'.cell? ⟨p, 1, none⟩ = some (.slice (some ⟨g, 0, none⟩) nn cap9) ∧ w'.cell? ⟨p, 2, none⟩ = some (.map (some L.bn)) ∧ (Instr.lookup 58 (.map (some L.bn)) (.string ⟨a.toArray⟩) false).run Tryz.prog w' = .ok (.int .i64 (no : Int)) w')
    (first | with_reducible exact SA.out | exact SA.out | go_keep)
    (fail)
  clear c1 c2 hlk2 SA
  have H6 := Lib.hid (show DP w5.drew p L D from H5.out.stays fun _ _ => rfl)
  have HUX := Lib.hid (show BytesV w5.drew (Value.slice (some ad) bl cap) ys from HUW.out)
  go_wp2_with fail
  refine (CF.out _ H6.out).mono ?_
  rintro e w1 ⟨rfl, hD1, hg1⟩
  have HD1 := Lib.hid hD1
  have HG1 := Lib.hid hg1
  have HUZ := Lib.hid (show BytesV w1 (Value.slice (some ad) bl cap) ys from HUX.out.far1 hg1 H6.out)
  obtain ⟨g2, cap2, e2, hgl2, -, k0, -, kf⟩ := hD1.head (j := no) HNO.out
  obtain rfl : g = g2 := by have := HVA.out; rw [e2] at this; simp at this; exact this.1.symm
  obtain ⟨ao2, dcap, hdv⟩ := rowShape (hD1.dat no HNO.out)
  have hdv2 : L.at no = .slice ao2 xs.length dcap := by rw [hdv]; exact congrArg (fun x : Bs => Value.slice ao2 x.length dcap) HXS.out
  have HOW := Lib.hid (show w1.ownsRow 0 5 1 (.slice ao2 xs.length dcap) xs.length (bcells xs) from by have := hD1.dat no HNO.out; rw [hdv2] at this; have e : ((fallD D).file no).data = xs := HXS.out; rw [e] at this; exact this)
  have hgne : some g ≠ (Value.slice ao2 xs.length dcap).ownBlock := by rw [← hdv2]; exact rows_ne (hD1.dat no HNO.out) hD1.all (by decide) g (by rw [HVA.out]; rfl)
  rw [hdv2] at k0
  have HDV := Lib.hid hdv2
  have kf1 := kf (no * 2)
  have kfr : Hid (∀ k, w1.frozen? ⟨g, k, none⟩ = false) := kf
  clear kf e2 hdv hdv2 hD1 hg1 hgl
  go_wp2_with (at_builtin; refine wpList_appB rfl (.tmp 70) (.tmp 71) rfl 0 (.slice ao2 xs.length dcap) (Value.slice (some ad) bl cap) xs ys rfl HOW.out rfl HUZ.out hb2 (Nat.zero_le _) ?_; intro ao3 cap3 w3 hown3 hg3 hat3; have G3 := Lib.hid (show w1.grownBy w3 (L.at no).ownBlock from by rw [HDV.out]; exact ⟨hg3.os, hg3.tape, hg3.output, hg3.size, hg3.block⟩); have z0 : w3.cell? ⟨g, no * 2, none⟩ = some (.slice ao2 xs.length dcap) := hg3.cell k0 hgne; have zf : w3.frozen? ⟨g, no * 2, none⟩ = false := (World.frozen?_of_block (a := ⟨g, no * 2, none⟩) (hg3.block g hgl2 hgne)).trans kf1; have HOW3 := Lib.hid hown3; have HAT3 := Lib.hid hat3; clear hown3 hg3 hat3)
  go_returns
  have hat : (Value.slice ao3 (xs.length + ys.length) cap3).ownBlock = (L.at no).ownBlock ∨ ∃ k, (Value.slice ao3 (xs.length + ys.length) cap3).ownBlock = some k ∧ w1.heap.size ≤ k := by
    rcases HAT3.out with h | h
    · exact .inl (by rw [HDV.out]; exact h)
    · exact .inr ⟨_, h, Nat.le_refl _⟩
  have hD3 := HD1.out.dataSet (j := no) HNO.out HVA.out G3.out HOW3.out hat
  have e9 : ((fallD D).file no).safe = (D.file no).safe := rfl
  have z1 := HG1.out.size
  have z5 := j5.size
  have z6 : w5.drew.heap.size = w5.heap.size := rfl
  refine ⟨by first | (rw [errV_zero]; done) | (rw [errV_zero]; rfl), _, hD3, fun k hk => has_data hk (by rw [H5.out.len]; exact HNO.out) ?_, ?_⟩
  · rcases hat with h | ⟨k, h, h2⟩
    · exact .inl h
    · exact .inr ⟨k, h, by omega⟩
  · refine (Keep.of_below j5).trans (Keep.trans (b := w5.drew) ⟨rfl, rfl, rfl, Nat.le_refl _, fun _ _ _ => rfl⟩ ((Keep.self HG1.out).trans ((Keep.grown G3.out fun k hk => ?_).trans (Keep.grown (grown_set _ _ _ _) fun k hk => .inr (.inl ?_)))))
    · exact .inr (.inr (.inr (.inr (.inr ⟨no, by rw [H5.out.len]; exact HNO.out, hk⟩))))
    · rw [HVA.out]; exact hk
end Go.Proofs.YtdiaejphgcoknaaGreatDoor
