/- disk: Append whole; Read: contracts. -/
import Derived.Test.YtdiaejphgcoknaaGreatDoorDiskV
set_option linter.unusedSimpArgs false
set_option linter.unusedVariables false
namespace Go.Proofs.YtdiaejphgcoknaaGreatDoor
open Go.RowKit Go.Extern.Stop Go.Stop Go.Extern

theorem append_any (p : Nat) (L : Lay) (D : DS) (a : Bs) (u : Value) (b : Bs) (T : Nat) (w : World) (h : DP w p L D) (hu : BytesV w u b) (hI : Inv D T) (hT : T ≤ 100000) (ha : a.length ≤ maxLen) :
    Calls Tryz.prog 21 #[.pointer (some ⟨p, 0, none⟩), .string ⟨a.toArray⟩, u] w fun e w' => OpPost p L (appE D a b) (appD D a b) w e w' := by
  cases hd : D.down with
  | true =>
    have e0 : appE0 D a b = 10 := by unfold appE0; rw [if_pos hd]
    have e1 : appE D a b = 10 := by unfold appE; rw [e0, if_pos (by decide)]
    have e2 : appD D a b = D := by unfold appD; rw [e0, if_pos (by decide)]
    rw [e1, e2]; exact append_down p L D a u b T w h hu hI hT ha hd
  | false =>
    by_cases hx : thereE D a = 0
    · by_cases hf : b ≠ [] ∧ D.room - usedD D < b.length
      · have e0 : appE0 D a b = 9 := by unfold appE0; rw [hd, if_neg (by decide), if_neg (by simp [hx]), if_pos hf]
        have e1 : appE D a b = 9 := by unfold appE; rw [e0, if_pos (by decide)]
        have e2 : appD D a b = D := by unfold appD; rw [e0, if_pos (by decide)]
        rw [e1, e2]; exact append_full p L D a u b T w h hu hI hT ha hd hx hf.1 hf.2
      · have e0 : appE0 D a b = 0 := by unfold appE0; rw [hd, if_neg (by decide), if_neg (by simp [hx]), if_neg hf]
        have e1 : appE D a b = if downF D then 10 else 0 := by unfold appE; rw [e0]; simp
        have e2 : appD D a b = { fallD D with all := setF D.all (fileN D.names a) (appF D a b) } := by unfold appD; rw [e0]; simp
        rw [e1, e2]
        unfold appF
        obtain ⟨ao, cap, hsh, h1, h2, h3, h4⟩ := id hu
        by_cases hb : b = []
        · have hl : b.length = 0 := by rw [hb]; rfl
          rw [hl] at hsh
          cases ao with
          | none =>
            obtain rfl := h3 rfl
            cases hfl : downF D with
            | true => rw [if_pos rfl, if_pos rfl]; exact append_nf p L D a u b T w h hu hI hT ha hd hx hsh hb hfl
            | false => rw [if_neg (by decide), if_neg (by decide)]; exact append_ng p L D a u b T w h hu hI hT ha hd hx hsh hb hfl
          | some ad =>
            cases hfl : downF D with
            | true => rw [if_pos rfl, if_pos rfl]; exact append_ef p L D a u b T w h hu hI hT ha hd hx ad cap hsh hb hfl
            | false => rw [if_neg (by decide), if_neg (by decide)]; exact append_eg p L D a u b T w h hu hI hT ha hd hx ad cap hsh hb hfl
        · have hlt : ¬ D.room - usedD D < b.length := fun h => hf ⟨hb, h⟩
          cases ao with
          | none => obtain ⟨_, _, e, _⟩ := h4 0 (List.length_pos_iff.2 hb); cases e
          | some ad =>
            cases hfl : downF D with
            | true => rw [if_pos rfl, if_pos rfl]; exact append_pf p L D a u b T w h hu hI hT ha hd hx ad cap hsh hb hlt hfl
            | false => rw [if_neg (by decide), if_neg (by decide)]; exact append_pg p L D a u b T w h hu hI hT ha hd hx ad cap hsh hb hlt hfl
    · have e0 : appE0 D a b = thereE D a := by unfold appE0; rw [hd, if_neg (by decide), if_pos hx]
      have e1 : appE D a b = thereE D a := by unfold appE; rw [e0, if_pos hx]
      have e2 : appD D a b = D := by unfold appD; rw [e0, if_pos hx]
      rw [e1, e2]; exact append_there p L D a u b T w h hu hI hT ha hd hx

/-- What Read leaves. -/
def ReadPost (x : Int) (b : Bs) (w : World) (e : Ending) (w' : World) : Prop :=
  ∃ v, e = .returned (.tuple #[v, errV x]) ∧ w'.ownsRow w.heap.size 5 1 v b.length (bcells b) ∧ Below w.heap.size w w'
theorem own_emptyB (w : World) : (w.alloc (.cells #[] 5)).ownsRow w.heap.size 5 1 (.slice (some ⟨w.heap.size, 0, none⟩) 0 0) ([] : Bs).length (bcells []) :=
  World.ownsRow_lit w #[] 0 (Nat.le_refl _) (by simp [maxLen]) (by simp)
set_option maxRecDepth 100000 in
set_option maxHeartbeats 1000000 in
theorem read_any (p : Nat) (L : Lay) (D : DS) (a : Bs) (T : Nat) (w : World) (h : DP w p L D) (hI : Inv D T) (hT : T ≤ 100000) (ha : a.length ≤ maxLen) :
    Calls Tryz.prog 44 #[.pointer (some ⟨p, 0, none⟩), .string ⟨a.toArray⟩] w fun e w' => ReadPost (readE D a) (readV D a) w e w' := by
  have CT := Lib.hid (there_any p L D a ha w h)
  have H := Lib.hid h
  have c6 : w.cell? ⟨p, 6, none⟩ = some (.bool D.down) := h.cell 6
  cases hd : D.down with
  | true =>
    have e1 : readE D a = 10 := by unfold readE; rw [if_pos hd]
    have e2 : readV D a = [] := by unfold readV; rw [e1, if_neg (by decide)]
    rw [e1, e2]
    rw [hd] at c6
    generalize thereE D a = x at *
    clear h hI hT ha hd e1 e2
    go_enter Tryz.func44, Tryz.ntmps44
    go_wp2_with (first | (go_at_call 55; refine CT.out.mono ?_; rintro e w' ⟨rfl, rfl⟩))
    go_returns
    exact ⟨_, by rw [errV_ne (k := 10) (by decide)]; rfl, World.ownsRow_nil _ _ _ 1, Below.refl _ _⟩
  | false =>
    rw [hd] at c6
    by_cases hx : thereE D a = 0
    · have e1 : readE D a = 0 := by unfold readE; rw [hd, if_neg (by decide), hx]
      have e2 : readV D a = (D.file (fileN D.names a)).data := by unfold readV; rw [e1, if_pos rfl]
      rw [e1, e2]
      rw [hx] at CT
      have hno := hI.fileN_lt hx
      have hnog : (nget D.names a).getD 0 = fileN D.names a := rfl
      have hn100 : D.all.length ≤ 100000 := by have := hI.cnt; omega
      have hdl := (hI.data _ hno).2
      have HA := Lib.hid ha
      generalize hfn : fileN D.names a = no at *
      have HNG := Lib.hid hnog
      have HNO := Lib.hid hno
      obtain ⟨nn, hnn⟩ : ∃ nn, D.all.length = nn := ⟨_, rfl⟩
      have HNN := Lib.hid hnn
      rw [hnn] at hno hn100
      have i1 : (0 : Int) ≤ (no : Int) := by omega
      have i2 : (no : Int) < (nn : Int) := by omega
      obtain ⟨xs, hxs⟩ : ∃ xs, (D.file no).data = xs := ⟨_, rfl⟩
      have HXS := Lib.hid hxs
      rw [hxs] at hdl ⊢
      have HDL := Lib.hid (show ([] : Bs).length + xs.length ≤ 1099511627776 from by simp; omega)
      obtain ⟨g, cap9, hva, hgl, hgp, k0, -, -⟩ := h.head (j := no) HNO.out
      have hva2 : L.va = .slice (some ⟨g, 0, none⟩) nn cap9 := by rw [hva]; exact congrArg (fun x => Value.slice _ x _) HNN.out
      obtain ⟨ao2, dcap, hdv⟩ := rowShape (h.dat no HNO.out)
      have hdv2 : L.at no = .slice ao2 xs.length dcap := by rw [hdv]; exact congrArg (fun x : Bs => Value.slice ao2 x.length dcap) HXS.out
      have HBV := Lib.hid (show BytesV w (.slice ao2 xs.length dcap) xs from by have := bytes_of_row (h.dat no HNO.out); rw [hdv2] at this; have e : (D.file no).data = xs := HXS.out; rw [e] at this; exact this)
      rw [hdv2] at k0
      have c1 : w.cell? ⟨p, 1, none⟩ = some (.slice (some ⟨g, 0, none⟩) nn cap9) := (h.cell 1).trans (congrArg some hva2)
      have c2 : w.cell? ⟨p, 2, none⟩ = some (.map (some L.bn)) := h.cell 2
      have lk : Hid (∀ wx, NamesAt wx L.bn D.names → (Instr.lookup 58 (.map (some L.bn)) (.string ⟨a.toArray⟩) false).run Tryz.prog wx = .ok (.int .i64 (no : Int)) wx) := fun wx hx => by
        rw [hx.look1 HA.out]; exact congrArg (fun x : Nat => Result.ok (Value.int .i64 (x : Int)) wx) HNG.out
      have SA := Lib.hid (show w.drew.cell? ⟨p, 1, none⟩ = some (.slice (some ⟨g, 0, none⟩) nn cap9) ∧ w.drew.cell? ⟨p, 2, none⟩ = some (.map (some L.bn)) ∧ w.drew.cell? ⟨g, no * 2, none⟩ = some (.slice ao2 xs.length dcap) ∧ (Instr.lookup 58 (.map (some L.bn)) (.string ⟨a.toArray⟩) false).run Tryz.prog w.drew = .ok (.int .i64 (no : Int)) w.drew from ⟨c1, c2, k0, lk.out _ H.out.nam⟩)
      have HN1 := (H.out.nam.alloc (.cells #[] 5))
      have D1 := H.out.stays (w' := w.alloc (.cells #[] 5)) fun k hk => heap_alloc_old w _ (H.out.lt hk)
      have SB := Lib.hid (show (w.alloc (.cells #[] 5)).drew.cell? ⟨p, 1, none⟩ = some (.slice (some ⟨g, 0, none⟩) nn cap9) ∧ (w.alloc (.cells #[] 5)).drew.cell? ⟨p, 2, none⟩ = some (.map (some L.bn)) ∧ (w.alloc (.cells #[] 5)).drew.cell? ⟨g, no * 2, none⟩ = some (.slice ao2 xs.length dcap) ∧ (Instr.lookup 58 (.map (some L.bn)) (.string ⟨a.toArray⟩) false).run Tryz.prog (w.alloc (.cells #[] 5)).drew = .ok (.int .i64 (no : Int)) (w.alloc (.cells #[] 5)).drew from ⟨(World.cell?_alloc_lt _ _ _ H.out.blk.lt).trans c1, (World.cell?_alloc_lt _ _ _ H.out.blk.lt).trans c2, (World.cell?_alloc_lt _ _ _ hgl).trans k0, lk.out _ D1.nam⟩)
      clear h hI hT ha hd hx hfn hnog hnn hxs hdv hdv2 hva hva2 e1 e2 HN1 D1
      go_enter Tryz.func44, Tryz.ntmps44
      go_wp2_with (first | (go_at_call 55; refine CT.out.mono ?_; rintro e w' ⟨rfl, rfl⟩))
      go_region_held3 (fun w' => w'.cell? ⟨p, 1, none⟩ = some (.slice (some ⟨g, 0, none⟩) nn cap9) ∧ w'.cell? ⟨p, 2, none⟩ = some (.map (some L.bn)) ∧ w'.cell? ⟨g, no * 2, none⟩ = some (.slice ao2 xs.length dcap) ∧ (Instr.lookup 58 (.map (some L.bn)) (.string ⟨a.toArray⟩) false).run Tryz.prog w' = .ok (.int .i64 (no : Int)) w')
        (first | with_reducible exact SA.out | with_reducible exact SB.out | with_reducible exact SC.out | exact SA.out | exact SB.out)
        ((refine step_appB (by rfl) _ _ (by rfl) w.heap.size (.slice (some ⟨w.heap.size, 0, none⟩) 0 0) (.slice ao2 xs.length dcap) [] xs (by rfl) (own_emptyB w) (by rfl) (HBV.out.ext (by go_grown)) HDL.out (by simp) ?_; intro ao3 cap3 w3 hown3 hg3 hat3; have G3 := Lib.hid (show Below w.heap.size w w3 from ((Below.refl _ _).alloc (Nat.le_refl _) (.cells #[] 5)).grown (w' := w3) ⟨hg3.os, hg3.tape, hg3.output, hg3.size, hg3.block⟩ (by simp) (by intro k hk; simp [Value.ownBlock] at hk; omega)); have HD3 := Lib.hid (H.out.stays fun k hk => G3.out.block k (H.out.lt hk)); have SC := Lib.hid (show w3.cell? ⟨p, 1, none⟩ = some (.slice (some ⟨g, 0, none⟩) nn cap9) ∧ w3.cell? ⟨p, 2, none⟩ = some (.map (some L.bn)) ∧ w3.cell? ⟨g, no * 2, none⟩ = some (.slice ao2 xs.length dcap) ∧ (Instr.lookup 58 (.map (some L.bn)) (.string ⟨a.toArray⟩) false).run Tryz.prog w3 = .ok (.int .i64 (no : Int)) w3 from ⟨(G3.out.cell (p := ⟨p, 1, none⟩) H.out.blk.lt).trans c1, (G3.out.cell (p := ⟨p, 2, none⟩) H.out.blk.lt).trans c2, (G3.out.cell (p := ⟨g, no * 2, none⟩) hgl).trans k0, lk.out _ HD3.out.nam⟩); have HOW3 := Lib.hid hown3; clear hown3 hg3 hat3))
      all_goals go_wp2
      all_goals go_returns
      all_goals exact ⟨_, by first | (rw [errV_zero]; done) | (rw [errV_zero]; rfl), by simpa using HOW3.out, G3.out⟩
    · have e1 : readE D a = thereE D a := by unfold readE; rw [hd, if_neg (by decide)]
      have e2 : readV D a = [] := by unfold readV; rw [e1, if_neg hx]
      rw [e1, e2]
      generalize thereE D a = x at *
      have q := err_ne hx
      clear h hI hT ha hd hx e1 e2
      go_enter Tryz.func44, Tryz.ntmps44
      go_wp2_with (first | (go_at_call 55; refine CT.out.mono ?_; rintro e w' ⟨rfl, rfl⟩))
      go_returns
      exact ⟨_, rfl, World.ownsRow_nil _ _ _ 1, Below.refl _ _⟩
end Go.Proofs.YtdiaejphgcoknaaGreatDoor
