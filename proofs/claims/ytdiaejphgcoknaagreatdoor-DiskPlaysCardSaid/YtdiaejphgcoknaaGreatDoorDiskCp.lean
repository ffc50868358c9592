/- slices.Clone, disk.Copy; two disks beside one another; files beside a disk. -/
import Derived.Test.YtdiaejphgcoknaaGreatDoorDiskSt
import Derived.Lib.SliceRun
set_option linter.unusedSimpArgs false
set_option linter.unusedVariables false
namespace Go.Proofs.YtdiaejphgcoknaaGreatDoor
section
open Go.RowKit Go.Extern.Stop Go.Stop Go.Extern
set_option maxRecDepth 100000 in
set_option maxHeartbeats 1000000 in
theorem cloneF_any (v : Value) (n : Nat) (cs : List Value) (B : Nat) (w : World) (h : w.ownsRow B 68 2 v n cs) (hn : n ≤ 100000000) (h1 : ∀ u ∈ cs, u.oneCell' = true) :
    Calls Tryz.prog 28 #[v] w fun e w' => ∃ ao cap, e = .returned (.slice ao n cap) ∧ w'.ownsRow w.heap.size 68 2 (.slice ao n cap) n cs ∧ Below w.heap.size w w' := by
  have q : ∀ (w : World) (a : Option Addr) (n c n' c' : Nat), (binOp .eql 59 (.slice a n c) (.slice none n' c')).run Tryz.prog w = .ok (.bool a.isNone) w := fun w a n c n' c' => Lib.run_eql_slice_nil w _ _ a n c n' c' Tryz.underlying59
  have hlen := h.1
  rcases row_head h with ⟨e, h0⟩ | ⟨g, cap, e, -, hlt, hc1, hc2, -⟩
  · subst e; subst h0
    have hcs : cs = [] := List.length_eq_zero_iff.1 (by omega)
    subst hcs
    clear h h1 hlen
    go_enter Tryz.func28, Tryz.ntmps28
    go_wp2
    go_returns
    exact ⟨none, 0, rfl, World.ownsRow_nil _ _ _ _, Below.refl _ _⟩
  · subst e
    have H := Lib.hid h
    have H1 := Lib.hid h1
    obtain ⟨i0, hi, hz0, hz1, hz2⟩ := info_parts infoFile
    clear h h1
    go_enter Tryz.func28, Tryz.ntmps28
    go_wp2_with (at_builtin; refine wpList_append_own_at _ rfl _ _ 59 rfl w.heap.size 68 i0 (.agg #[.slice none 0 0, .int .i64 0]) 2 32 Tryz.underlying59 hi hz0 hz1 hz2 rfl (by decide) _ _ _ rfl (World.ownsRow_made w #[] 0 (Nat.le_refl _) (Nat.zero_le _) rfl) ⟨g, 0, none⟩ n cap cs rfl ?qc1 ?qc2 ?qc3 ?qc4 ?qc5 ?qc6 ?_)
    case qc1 => exact hlen
    case qc2 =>
      intro j u hj
      rw [Go.WideShapes.add_plain, Nat.zero_add]
      exact (World.cell?_alloc_lt w _ _ hlt).trans (row_cellAt H.out hj)
    case qc3 => exact H1.out
    case qc4 => unfold maxLen; omega
    case qc5 => omega
    case qc6 => simp
    intro v' w1 hown hgrow _ hat
    have hb : Below w.heap.size w w1 := ((Below.refl _ w).alloc (Nat.le_refl _) _).grown hgrow (by simp) (by intro k hk; simp [Value.ownBlock] at hk; omega)
    have hown2 : w1.ownsRow w.heap.size 68 2 v' n cs := by simpa using hown
    obtain ⟨ao2, cap2, rfl⟩ := rowShape hown2
    have HO := Lib.hid hown2
    clear hown hown2 hat hgrow
    go_wp2
    go_returns
    exact ⟨ao2, cap2, rfl, HO.out, hb⟩

set_option maxRecDepth 100000 in
set_option maxHeartbeats 1000000 in
theorem cloneS_any (v : Value) (n : Nat) (cs : List Value) (B : Nat) (w : World) (h : w.ownsRow B 73 4 v n cs) (hn : n ≤ 100000000) (h1 : ∀ u ∈ cs, u.oneCell' = true) :
    Calls Tryz.prog 31 #[v] w fun e w' => ∃ ao cap, e = .returned (.slice ao n cap) ∧ w'.ownsRow w.heap.size 73 4 (.slice ao n cap) n cs ∧ Below w.heap.size w w' := by
  have q : ∀ (w : World) (a : Option Addr) (n c n' c' : Nat), (binOp .eql 60 (.slice a n c) (.slice none n' c')).run Tryz.prog w = .ok (.bool a.isNone) w := fun w a n c n' c' => Lib.run_eql_slice_nil w _ _ a n c n' c' Tryz.underlying60
  have hlen := h.1
  rcases row_head h with ⟨e, h0⟩ | ⟨g, cap, e, -, hlt, hc1, hc2, -⟩
  · subst e; subst h0
    have hcs : cs = [] := List.length_eq_zero_iff.1 (by omega)
    subst hcs
    clear h h1 hlen
    go_enter Tryz.func31, Tryz.ntmps31
    go_wp2
    go_returns
    exact ⟨none, 0, rfl, World.ownsRow_nil _ _ _ _, Below.refl _ _⟩
  · subst e
    have H := Lib.hid h
    have H1 := Lib.hid h1
    obtain ⟨i0, hi, hz0, hz1, hz2⟩ := info_parts infoStep
    clear h h1
    go_enter Tryz.func31, Tryz.ntmps31
    go_wp2_with (at_builtin; refine wpList_append_own_at _ rfl _ _ 60 rfl w.heap.size 73 i0 (.agg #[.int .i64 0, .string ⟨#[]⟩, .string ⟨#[]⟩, .int .i64 0]) 4 48 Tryz.underlying60 hi hz0 hz1 hz2 rfl (by decide) _ _ _ rfl (World.ownsRow_made w #[] 0 (Nat.le_refl _) (Nat.zero_le _) rfl) ⟨g, 0, none⟩ n cap cs rfl ?qc1 ?qc2 ?qc3 ?qc4 ?qc5 ?qc6 ?_)
    case qc1 => exact hlen
    case qc2 =>
      intro j u hj
      rw [Go.WideShapes.add_plain, Nat.zero_add]
      exact (World.cell?_alloc_lt w _ _ hlt).trans (row_cellAt H.out hj)
    case qc3 => exact H1.out
    case qc4 => unfold maxLen; omega
    case qc5 => omega
    case qc6 => simp
    intro v' w1 hown hgrow _ hat
    have hb : Below w.heap.size w w1 := ((Below.refl _ w).alloc (Nat.le_refl _) _).grown hgrow (by simp) (by intro k hk; simp [Value.ownBlock] at hk; omega)
    have hown2 : w1.ownsRow w.heap.size 73 4 v' n cs := by simpa using hown
    obtain ⟨ao2, cap2, rfl⟩ := rowShape hown2
    have HO := Lib.hid hown2
    clear hown hown2 hat hgrow
    go_wp2
    go_returns
    exact ⟨ao2, cap2, rfl, HO.out, hb⟩

set_option maxRecDepth 100000 in
set_option maxHeartbeats 1000000 in
theorem cloneB_any (v : Value) (n : Nat) (cs : List Value) (B : Nat) (w : World) (h : w.ownsRow B 5 1 v n cs) (hn : n ≤ 100000000) (h1 : ∀ u ∈ cs, u.oneCell' = true) :
    Calls Tryz.prog 29 #[v] w fun e w' => ∃ ao cap, e = .returned (.slice ao n cap) ∧ w'.ownsRow w.heap.size 5 1 (.slice ao n cap) n cs ∧ Below w.heap.size w w' := by
  have q : ∀ (w : World) (a : Option Addr) (n c n' c' : Nat), (binOp .eql 31 (.slice a n c) (.slice none n' c')).run Tryz.prog w = .ok (.bool a.isNone) w := fun w a n c n' c' => Lib.run_eql_slice_nil w _ _ a n c n' c' Tryz.underlying31
  have hlen := h.1
  rcases row_head h with ⟨e, h0⟩ | ⟨g, cap, e, -, hlt, hc1, hc2, -⟩
  · subst e; subst h0
    have hcs : cs = [] := List.length_eq_zero_iff.1 (by omega)
    subst hcs
    clear h h1 hlen
    go_enter Tryz.func29, Tryz.ntmps29
    go_wp2
    go_returns
    exact ⟨none, 0, rfl, World.ownsRow_nil _ _ _ _, Below.refl _ _⟩
  · subst e
    have H := Lib.hid h
    have H1 := Lib.hid h1
    obtain ⟨i0, hi, hz0, hz1, hz2⟩ := info_parts infoB
    clear h h1
    go_enter Tryz.func29, Tryz.ntmps29
    go_wp2_with (at_builtin; refine wpList_append_own_at _ rfl _ _ 31 rfl w.heap.size 5 i0 (.int .u8 0) 1 1 Tryz.underlying31 hi hz0 hz1 hz2 rfl (by decide) _ _ _ rfl (World.ownsRow_made w #[] 0 (Nat.le_refl _) (Nat.zero_le _) rfl) ⟨g, 0, none⟩ n cap cs rfl ?qc1 ?qc2 ?qc3 ?qc4 ?qc5 ?qc6 ?_)
    case qc1 => exact hlen
    case qc2 =>
      intro j u hj
      rw [Go.WideShapes.add_plain, Nat.zero_add]
      exact (World.cell?_alloc_lt w _ _ hlt).trans (row_cellAt H.out hj)
    case qc3 => exact H1.out
    case qc4 => unfold maxLen; omega
    case qc5 => omega
    case qc6 => simp
    intro v' w1 hown hgrow _ hat
    have hb : Below w.heap.size w w1 := ((Below.refl _ w).alloc (Nat.le_refl _) _).grown hgrow (by simp) (by intro k hk; simp [Value.ownBlock] at hk; omega)
    have hown2 : w1.ownsRow w.heap.size 5 1 v' n cs := by simpa using hown
    obtain ⟨ao2, cap2, rfl⟩ := rowShape hown2
    have HO := Lib.hid hown2
    clear hown hown2 hat hgrow
    go_wp2
    go_returns
    exact ⟨ao2, cap2, rfl, HO.out, hb⟩
end

section
open Go.RowKit Go.Extern.Stop Go.Stop Go.Extern
/-- Behind k rounds: the new struct, the new row of files, the bytes of the first k of them. -/
structure CopyR (w : World) (q : Nat) (L : Lay) (D : DS) (va : Value) (k : Nat) (fv : List Value) (wr : World) : Prop where
  len : fv.length = D.all.length
  blk : Blk wr q (dcells { L with va := va } D) 62
  all : wr.ownsRow w.heap.size 68 2 va D.all.length (filecells D.all fv)
  dat : ∀ j, j < k → wr.ownsRow w.heap.size 5 1 (fv.getD j .nilIface) (D.file j).data.length (bcells (D.file j).data)
  old : ∀ j, k ≤ j → fv.getD j .nilIface = L.at j
  apart : ∀ i j b, i < k → j < k → i ≠ j → (fv.getD i .nilIface).ownBlock = some b → (fv.getD j .nilIface).ownBlock ≠ some b
  below : Below w.heap.size w wr
theorem below_set {B : Nat} {w w' : World} (h : Below B w w') {g o : Nat} (hg : B ≤ g) (u : Value) : Below B w (w'.setCell ⟨g, o, none⟩ u) :=
  ⟨h.os, h.tape, h.output, by have := h.size; simp; exact this, fun k hk => (set_other w' g o u k (by omega)).trans (h.block k hk)⟩
theorem CopyR.step {w : World} {q : Nat} {L : Lay} {D : DS} {k n cap g : Nat} {fv : List Value} {wr w5 : World} {v' : Value} (h : CopyR w q L D (.slice (some ⟨g, 0, none⟩) n cap) k fv wr) (hn : D.all.length = n) (hk : k < n)
    (hb : Below wr.heap.size wr w5) (hrow : w5.ownsRow wr.heap.size 5 1 v' (D.file k).data.length (bcells (D.file k).data)) :
    CopyR w q L D (.slice (some ⟨g, 0, none⟩) n cap) (k + 1) (fv.set k v') (w5.setCell ⟨g, k * 2, none⟩ v') := by
  subst hn
  have hkl : k < fv.length := by rw [h.len]; exact hk
  have hws := h.below.size
  have so := set_other w5 g (k * 2) v'
  have hall5 := row_ext h.all hb
  have hg := (h.all.lt g rfl).1
  have hs := (hall5.stored (k * 2) v').1
  have hqg : q ≠ g := fun e => blk_row h.blk h.all (by decide) (by rw [e]; rfl)
  have hset : (filecells D.all fv).set (k * 2) v' = filecells D.all (fv.set k v') := by
    unfold filecells
    refine flatR_set (m := 2) (c := 0) (fun _ => rfl) (fun _ => rfl) hk (by decide) ?_ ?_
    · unfold filec; simp [List.getD_eq_getElem?_getD, hkl]
    · intro i hi; unfold filec; simp [List.getD_eq_getElem?_getD, List.getElem?_set, Ne.symm hi]
  have hgetk : (fv.set k v').getD k .nilIface = v' := by simp [List.getD_eq_getElem?_getD, hkl]
  have hgeto : ∀ j, j ≠ k → (fv.set k v').getD j .nilIface = fv.getD j .nilIface := fun j hj => by simp [List.getD_eq_getElem?_getD, List.getElem?_set, Ne.symm hj]
  have hneR : ∀ {v : Value} {n : Nat} {cs : List Value} {B : Nat}, w5.ownsRow B 5 1 v n cs → ∀ b, v.ownBlock = some b → b ≠ g := fun hr b hb e => rows_ne hall5 hr (by decide) b hb (by rw [e]; rfl)
  refine ⟨by rw [List.length_set]; exact h.len, (h.blk.ext hb).of_block (so q hqg), by rw [← hset]; exact hs, ?_, ?_, ?_, below_set (h.below.trans (hb.mono hws)) hg v'⟩
  · intro j hj
    by_cases e : j = k
    · subst e
      rw [hgetk]
      exact row_of_block (row_mono hrow hws) fun b e => so b (hneR hrow b e)
    · rw [hgeto j e]
      have hr := row_ext (h.dat j (by omega)) hb
      exact row_of_block hr fun b e => so b (hneR hr b e)
  · intro j hj
    rw [hgeto j (by omega)]; exact h.old j (by omega)
  · intro i j b hi hj hne hib
    by_cases e : i = k
    · subst e
      rw [hgetk] at hib
      rw [hgeto j (by omega)]
      intro hjb
      have a1 := (hrow.lt b hib).1
      have a2 := ((h.dat j (by omega)).lt b hjb).2
      omega
    · rw [hgeto i e] at hib
      by_cases e2 : j = k
      · subst e2
        rw [hgetk]
        intro hjb
        have a1 := (hrow.lt b hjb).1
        have a2 := ((h.dat i (by omega)).lt b hib).2
        omega
      · rw [hgeto j e2]
        exact h.apart i j b (by omega) (by omega) hne hib
/-- The copy stands. -/
theorem CopyR.done {w : World} {q : Nat} {L : Lay} {D : DS} {va vs : Value} {n bn bs : Nat} {fv : List Value} {wr w9 : World} (h : CopyR w q L D va n fv wr) (hn : D.all.length = n) (hb : ∀ k, k < wr.heap.size → k ≠ q → w9.heap[k]? = wr.heap[k]?)
    (hB : Blk w9 q (dcells ⟨va, vs, bn, bs, fv⟩ D) 62) (hnm : NamesAt w9 bn D.names) (hsf : NamesAt w9 bs D.safe) (hst : w9.ownsRow 0 73 4 vs D.steps.length (stepcells D.steps)) (hne : bn ≠ bs) : DP w9 q ⟨va, vs, bn, bs, fv⟩ D := by
  subst hn
  have hq : ∀ {T sz n : Nat} {v : Value} {cs : List Value}, wr.ownsRow w.heap.size T sz v n cs → T ≠ 62 → ∀ k, v.ownBlock = some k → w9.heap[k]? = wr.heap[k]? := fun hr hT k hk => hb k (hr.lt k hk).2 fun e => blk_row h.blk hr (Ne.symm hT) (by rw [hk, e])
  refine ⟨hB, row_of_block (row_mono h.all (Nat.zero_le _)) (hq h.all (by decide)), h.len, fun j hj => row_of_block (row_mono (h.dat j hj) (Nat.zero_le _)) (hq (h.dat j hj) (by decide)), fun i j k hi hj => h.apart i j k hi hj, hnm, hsf, hne, hst⟩
end

section
open Go.RowKit Go.Extern.Stop Go.Stop Go.Extern
theorem filec_one (fs : List DF) (fv : List Value) (hv : ∀ j, j < fs.length → (fv.getD j .nilIface).oneCell' = true) : ∀ u ∈ filecells fs fv, u.oneCell' = true := by
  intro u hu
  unfold filecells at hu
  obtain ⟨j, hj, hu⟩ := List.mem_flatMap.1 hu
  unfold filec at hu
  simp at hu
  rcases hu with rfl | rfl
  · have := hv j (by simpa using hj)
    rw [List.getD_eq_getElem?_getD] at this; exact this
  · rfl
theorem stepc_one (l : List Stp) : ∀ u ∈ stepcells l, u.oneCell' = true := by
  intro u hu
  unfold stepcells at hu
  obtain ⟨j, -, hu⟩ := List.mem_flatMap.1 hu
  unfold stepc at hu
  simp at hu
  rcases hu with rfl | rfl | rfl | rfl <;> rfl
theorem row_oneCell {w : World} {B T sz n : Nat} {v : Value} {cs : List Value} (h : w.ownsRow B T sz v n cs) : v.oneCell' = true := by
  obtain ⟨ao, cap, rfl⟩ := rowShape h; rfl
theorem below_grown {w w' : World} (h : w.grownBy w' none) : Below w.heap.size w w' := ⟨h.os, h.tape, h.output, h.size, fun k hk => h.block k hk (by simp)⟩
def CopyPost (D : DS) (w : World) (e : Ending) (w' : World) : Prop :=
  ∃ q L', e = .returned (.pointer (some ⟨q, 0, none⟩)) ∧ DP w' q L' D ∧ (∀ k, L'.has q k → w.heap.size ≤ k) ∧ Below w.heap.size w w'
set_option maxRecDepth 100000 in
set_option maxHeartbeats 4000000 in
theorem copy_disk (p : Nat) (L : Lay) (D : DS) (T : Nat) (w : World) (h : DP w p L D) (hI : Inv D T) (hT : T ≤ 100000) :
    Calls Tryz.prog 9 #[.pointer (some ⟨p, 0, none⟩)] w (CopyPost D w) := by
  have H := Lib.hid h
  have HI := Lib.hid hI
  obtain ⟨vao, vcap, hva⟩ := rowShape h.all
  obtain ⟨vso, scap, hvs⟩ := rowShape h.stp
  obtain ⟨n, hn⟩ : ∃ n, D.all.length = n := ⟨_, rfl⟩
  obtain ⟨ns, hns⟩ : ∃ ns, D.steps.length = ns := ⟨_, rfl⟩
  rw [hn] at hva
  rw [hns] at hvs
  have hn1 : n ≤ 100000 := by rw [← hn]; have := hI.cnt; omega
  have hns1 : ns ≤ 100000 := by rw [← hns]; have := hI.stp; omega
  have HN := Lib.hid hn
  have HNS := Lib.hid hns
  have HVA := Lib.hid hva
  have HVS := Lib.hid hvs
  have c0 : w.cell? ⟨p, 0, none⟩ = some (.int .i64 D.room) := h.cell 0
  have c1 : w.cell? ⟨p, 1, none⟩ = some (.slice vao n vcap) := (h.cell 1).trans (congrArg some hva)
  have c2 : w.cell? ⟨p, 2, none⟩ = some (.map (some L.bn)) := h.cell 2
  have c3 : w.cell? ⟨p, 3, none⟩ = some (.map (some L.bs)) := h.cell 3
  have c4 : w.cell? ⟨p, 4, none⟩ = some (.slice vso ns scap) := (h.cell 4).trans (congrArg some hvs)
  have c5 : w.cell? ⟨p, 5, none⟩ = some (.int .i64 D.armed) := h.cell 5
  have c6 : w.cell? ⟨p, 6, none⟩ = some (.bool D.down) := h.cell 6
  have c7 : w.cell? ⟨p, 7, none⟩ = some (.int .i64 D.done) := h.cell 7
  have lp := h.blk.lt
  have HALL := Lib.hid (show w.ownsRow 0 68 2 (.slice vao n vcap) n (filecells D.all L.fv) from by have := h.all; rw [hva, hn] at this; exact this)
  have HF1 := Lib.hid (filec_one D.all L.fv fun j hj => row_oneCell (h.dat j hj))
  have BQ := Lib.hid (Blk.new w #[.int .i64 D.room, .slice vao n vcap, .map (some L.bn), .map (some L.bs), .slice vso ns scap, .int .i64 D.armed, .bool D.down, .int .i64 D.done] 62)
  clear h hI hva hvs hn hns
  go_enter Tryz.func9, Tryz.ntmps9
  go_wp2_with (go_at_call 28; refine (cloneF_any _ n _ 0 _ (row_ext HALL.out (by go_grown)) (by omega) HF1.out).mono ?_; rintro e w1 ⟨go, gcap, rfl, hrow1, hb1⟩; have HR1 := Lib.hid hrow1; have B1 := Lib.hid hb1; have BQ1 := Lib.hid (BQ.out.ext hb1); have z1 : w1.cell? ⟨w.heap.size, 1, none⟩ = some (.slice vao n vcap) := BQ1.out.cell 1; have zf1 := BQ1.out.free 1; clear hrow1 hb1)
  have hR0 : CopyR w w.heap.size L D (.slice go n gcap) 0 L.fv (w1.setCell ⟨w.heap.size, 1, none⟩ (.slice go n gcap)) := by
    have hq : w.heap.size ≤ w1.heap.size := by have := B1.out.size; simp at this; omega
    have hr1 := HR1.out
    have hbq : ∀ k, (Value.slice go n gcap).ownBlock = some k → k ≠ w.heap.size := fun k hk => by have := (hr1.lt k hk).1; simp at this; omega
    refine ⟨H.out.len, ?_, ?_, fun j hj => absurd hj (Nat.not_lt_zero j), fun j _ => rfl, fun i j b hi => absurd hi (Nat.not_lt_zero i), below_set ((((Below.refl _ _).alloc (Nat.le_refl _) _).trans (B1.out.mono (by simp)))) (Nat.le_refl _) _⟩
    · have e : dcells { L with va := .slice go n gcap } D = (#[.int .i64 D.room, .slice vao n vcap, .map (some L.bn), .map (some L.bs), .slice vso ns scap, .int .i64 D.armed, .bool D.down, .int .i64 D.done] : Array Value).setIfInBounds 1 (.slice go n gcap) := by simp [dcells, HVS.out]
      rw [e]; exact BQ1.out.set 1 _
    · rw [HN.out]
      exact row_of_block (row_mono hr1 (by simp)) fun k hk => set_other _ _ _ _ k (hbq k hk)
  have HR0 := Lib.hid hR0
  clear hR0 z1 zf1
  go_loopw [18] (fun idx wr => ∃ (k : Nat) (fv : List Value), k ≤ n ∧ idx = .int .i64 (k : Int) ∧ CopyR w w.heap.size L D (.slice go n gcap) k fv wr) (fun idx _ => n - (intOf idx).toNat)
  case atStart => exact ⟨0, L.fv, Nat.zero_le _, rfl, HR0.out⟩
  case round =>
    obtain ⟨k, fv, hk, rfl, hC⟩ := hrel
    have C := Lib.hid hC
    clear hC
    by_cases hlt : k < n
    · have hkl : k < D.all.length := by rw [HN.out]; exact hlt
      obtain ⟨dao, dcap, hdv⟩ := rowShape (H.out.dat k hkl)
      obtain ⟨dl, hdl⟩ : ∃ dl, (D.file k).data.length = dl := ⟨_, rfl⟩
      rw [hdl] at hdv
      obtain ⟨g, hg, hgl, k0, k1, kf⟩ : ∃ g, go = some ⟨g, 0, none⟩ ∧ g < wr.heap.size ∧ wr.cell? ⟨g, k * 2, none⟩ = some (.slice dao dl dcap) ∧ wr.cell? ⟨g, k * 2 + 1, none⟩ = some (.int .i64 ((D.file k).safe : Int)) ∧ (∀ j, wr.frozen? ⟨g, j, none⟩ = false) := by
        have ha := C.out.all
        have ha2 := ha
        rw [HN.out] at ha2
        rcases row_head ha with ⟨_, h0⟩ | ⟨g, cap', e, -, hlt', -, -, hf, -⟩
        · omega
        · obtain ⟨rfl, -, rfl⟩ := Value.slice.inj e
          have o1 := C.out.old k (Nat.le_refl _)
          have e0 : (filecells D.all fv)[k * 2]? = some (fv.getD k .nilIface) := flatR_at (g := filec D.all fv) (m := 2) (c := 0) (fun _ => rfl) _ hkl (by decide)
          have e1 : (filecells D.all fv)[k * 2 + 1]? = some (.int .i64 ((D.file k).safe : Int)) := flatR_at (g := filec D.all fv) (m := 2) (c := 1) (fun _ => rfl) _ hkl (by decide)
          rw [o1, hdv] at e0
          exact ⟨g, rfl, hlt', row_cellAt ha2 e0, row_cellAt ha2 e1, hf⟩
      subst hg
      have lq : w.heap.size < wr.heap.size := C.out.blk.lt
      have y1 : wr.cell? ⟨w.heap.size, 1, none⟩ = some (.slice (some ⟨g, 0, none⟩) n gcap) := C.out.blk.cell 1
      have hrow : Hid (∀ wx, Below wr.heap.size wr wx → wx.ownsRow 0 5 1 (.slice dao dl dcap) dl (bcells (D.file k).data)) := fun wx hb => by
        have := H.out.dat k hkl
        rw [hdv, hdl] at this
        exact row_ext this ((C.out.below).trans (hb.mono C.out.below.size))
      have hd1 : dl ≤ 16777216 := by rw [← hdl]; exact (HI.out.data k hkl).2
      have HDL := Lib.hid hdl
      have HKL := Lib.hid hkl
      obtain ⟨sf, hsf⟩ : ∃ sf, (D.file k).safe = sf := ⟨_, rfl⟩
      rw [hsf] at k1
      have kf0 := kf (k * 2)
      clear hsf hdl hkl hdv kf
      have i1 : (0 : Int) ≤ (k : Int) := by omega
      have i2 : (k : Int) < (n : Int) := by omega
      go_wp2
      go_region_with ((go_at_call 29; refine (cloneB_any _ dl _ 0 _ (hrow.out _ (by go_grown)) (by omega) (bcells_one _)).mono ?_; rintro e w5 ⟨ao5, cap5, rfl, hrow5, hb5⟩; have B5 : Below wr.heap.size wr w5 := ext (by go_grown) hb5; have u1 : w5.cell? ⟨w.heap.size, 1, none⟩ = some (.slice (some ⟨g, 0, none⟩) n gcap) := (B5.cell (p := ⟨w.heap.size, 1, none⟩) lq).trans y1; have u2 : w5.cell? ⟨g, k * 2, none⟩ = some (.slice dao dl dcap) := (B5.cell (p := ⟨g, k * 2, none⟩) hgl).trans k0; have u3 : w5.frozen? ⟨g, k * 2, none⟩ = false := (B5.frozen (p := ⟨g, k * 2, none⟩) hgl).trans kf0; have HR5 := Lib.hid (row_mono hrow5 (show Below wr.heap.size wr _ from by go_grown).size); clear hrow5))
      all_goals
        go_wp2
        go_roundw
        case rel => exact ⟨k + 1, fv.set k (.slice ao5 dl cap5), by omega, by go_num, C.out.step HN.out hlt B5 (by rw [HDL.out]; exact HR5.out)⟩
        case measure => simp [intOf]; omega
    · obtain rfl : k = n := by omega
      have lq : w.heap.size < wr.heap.size := C.out.blk.lt
      have lpr : p < wr.heap.size := by omega
      have HBW := Lib.hid C.out.below
      have hp : ∀ o, wr.cell? ⟨p, o, none⟩ = w.cell? ⟨p, o, none⟩ := fun o => HBW.out.cell (p := ⟨p, o, none⟩) lp
      rw [← hp] at c2 c3 c4
      have HP : Hid (∀ wx, Below wr.heap.size wr wx → wx.cell? ⟨p, 2, none⟩ = some (.map (some L.bn)) ∧ wx.cell? ⟨p, 3, none⟩ = some (.map (some L.bs)) ∧ wx.cell? ⟨p, 4, none⟩ = some (.slice vso ns scap)) := fun wx hb => ⟨(hb.cell (p := ⟨p, 2, none⟩) lpr).trans c2, (hb.cell (p := ⟨p, 3, none⟩) lpr).trans c3, (hb.cell (p := ⟨p, 4, none⟩) lpr).trans c4⟩
      have SA := Lib.hid (HP.out wr.drew (Below.refl _ _).drew)
      have CQ := Lib.hid C.out.blk
      have HNM : Hid (∀ wx, Below wr.heap.size wr wx → NamesAt wx L.bn D.names) := fun wx hb => (H.out.stays fun k hk => (HBW.out.trans (hb.mono HBW.out.size)).block k (H.out.lt hk)).nam
      have HSF : Hid (∀ wx, Below wr.heap.size wr wx → NamesAt wx L.bs D.safe) := fun wx hb => (H.out.stays fun k hk => (HBW.out.trans (hb.mono HBW.out.size)).block k (H.out.lt hk)).saf
      have HST : Hid (∀ wx, Below wr.heap.size wr wx → wx.ownsRow 0 73 4 (.slice vso ns scap) ns (stepcells D.steps)) := fun wx hb => by
        have := (H.out.stays fun k hk => (HBW.out.trans (hb.mono HBW.out.size)).block k (H.out.lt hk)).stp
        rw [HVS.out, HNS.out] at this; exact this
      have hpq : p ≠ w.heap.size := by omega
      have HPS : Hid (∀ (wx wy : World), (∀ k, k ≠ w.heap.size → wy.heap[k]? = wx.heap[k]?) → (wx.cell? ⟨p, 2, none⟩ = some (.map (some L.bn)) ∧ wx.cell? ⟨p, 3, none⟩ = some (.map (some L.bs)) ∧ wx.cell? ⟨p, 4, none⟩ = some (.slice vso ns scap)) → wy.cell? ⟨p, 2, none⟩ = some (.map (some L.bn)) ∧ wy.cell? ⟨p, 3, none⟩ = some (.map (some L.bs)) ∧ wy.cell? ⟨p, 4, none⟩ = some (.slice vso ns scap)) := fun wx wy hk hs => by
        have e : ∀ o, wy.cell? ⟨p, o, none⟩ = wx.cell? ⟨p, o, none⟩ := fun o => by simp only [World.cell?, hk p hpq]
        exact ⟨(e _).trans hs.1, (e _).trans hs.2.1, (e _).trans hs.2.2⟩
      clear hp c0 c1 c5 c6 c7
      go_wp2
      go_region_held3 (fun w' => w'.cell? ⟨p, 2, none⟩ = some (.map (some L.bn)) ∧ w'.cell? ⟨p, 3, none⟩ = some (.map (some L.bs)) ∧ w'.cell? ⟨p, 4, none⟩ = some (.slice vso ns scap))
        (first | with_reducible exact SA.out | with_reducible exact SB.out | with_reducible exact SC.out | with_reducible exact SD.out | with_reducible exact SE.out _ | with_reducible exact SF.out _ _ | with_reducible exact SG.out _ _ _ | go_keep)
        (first
          | (go_at_call 31; refine (cloneS_any _ ns (stepcells D.steps) 0 w7 (HST.out w7 B7.out) (by omega) (stepc_one _)).mono ?_; rintro e w8 ⟨vo8, vc8, rfl, hrow8, hb8⟩; have B8 := Lib.hid (ext B7.out hb8); have HR8 := Lib.hid hrow8; have HB8 := Lib.hid hb8; have CQ8 := Lib.hid (CQ.out.ext B8.out); have v2 : w8.cell? ⟨w.heap.size, 2, none⟩ = some (.map (some L.bn)) := CQ8.out.cell 2; have v3 : w8.cell? ⟨w.heap.size, 3, none⟩ = some (.map (some L.bs)) := CQ8.out.cell 3; have v4 : w8.cell? ⟨w.heap.size, 4, none⟩ = some (.slice vso ns scap) := (CQ8.out.cell 4).trans (congrArg some HVS.out); have f2 := CQ8.out.free 2; have f3 := CQ8.out.free 3; have f4 := CQ8.out.free 4; have SD := Lib.hid (HP.out w8 B8.out); have SE : Hid (∀ u, (w8.setCell ⟨w.heap.size, 2, none⟩ u).cell? ⟨p, 2, none⟩ = some (.map (some L.bn)) ∧ (w8.setCell ⟨w.heap.size, 2, none⟩ u).cell? ⟨p, 3, none⟩ = some (.map (some L.bs)) ∧ (w8.setCell ⟨w.heap.size, 2, none⟩ u).cell? ⟨p, 4, none⟩ = some (.slice vso ns scap)) := (fun u => HPS.out _ _ (fun k hk => set_other _ _ _ _ k hk) SD.out); have SF : Hid (∀ u u', ((w8.setCell ⟨w.heap.size, 2, none⟩ u).setCell ⟨w.heap.size, 3, none⟩ u').cell? ⟨p, 2, none⟩ = some (.map (some L.bn)) ∧ ((w8.setCell ⟨w.heap.size, 2, none⟩ u).setCell ⟨w.heap.size, 3, none⟩ u').cell? ⟨p, 3, none⟩ = some (.map (some L.bs)) ∧ ((w8.setCell ⟨w.heap.size, 2, none⟩ u).setCell ⟨w.heap.size, 3, none⟩ u').cell? ⟨p, 4, none⟩ = some (.slice vso ns scap)) := (fun u u' => HPS.out _ _ (fun k hk => set_other _ _ _ _ k hk) (SE.out u)); have SG : Hid (∀ u u' u'', (((w8.setCell ⟨w.heap.size, 2, none⟩ u).setCell ⟨w.heap.size, 3, none⟩ u').setCell ⟨w.heap.size, 4, none⟩ u'').cell? ⟨p, 2, none⟩ = some (.map (some L.bn)) ∧ (((w8.setCell ⟨w.heap.size, 2, none⟩ u).setCell ⟨w.heap.size, 3, none⟩ u').setCell ⟨w.heap.size, 4, none⟩ u'').cell? ⟨p, 3, none⟩ = some (.map (some L.bs)) ∧ (((w8.setCell ⟨w.heap.size, 2, none⟩ u).setCell ⟨w.heap.size, 3, none⟩ u').setCell ⟨w.heap.size, 4, none⟩ u'').cell? ⟨p, 4, none⟩ = some (.slice vso ns scap)) := (fun u u' u'' => HPS.out _ _ (fun k hk => set_other _ _ _ _ k hk) (SF.out u u')); clear hrow8 hb8)
          | (go_at_call 30; refine (clone_any L.bs D.safe w6 (HSF.out w6 B6.out)).mono ?_; rintro e w7 ⟨rfl, hn7, hg7⟩; have B7 := Lib.hid (ext B6.out (below_grown hg7)); have HN7 := Lib.hid hn7; have HG7 := Lib.hid hg7; have SC := Lib.hid (HP.out w7 B7.out); clear hn7 hg7)
          | (go_at_call 30; refine (clone_any L.bn D.names _ (HNM.out _ (by go_grown))).mono ?_; rintro e w6 ⟨rfl, hn6, hg6⟩; have B6 : Hid (Below wr.heap.size wr w6) := Lib.hid (ext (by go_grown) (below_grown hg6)); have HN6 := Lib.hid hn6; have HG6 := Lib.hid hg6; have SB := Lib.hid (HP.out w6 B6.out); clear hn6 hg6))
      go_wp2
      go_returns
      have z6 : wr.heap.size < w6.heap.size := (Array.getElem?_eq_some_iff.1 (show w6.heap[wr.heap.size]? = some _ from (HN6.out.choose_spec.choose_spec.1))).1
      have so : ∀ k, k ≠ w.heap.size → (((w8.setCell ⟨w.heap.size, 2, none⟩ (.map (some wr.heap.size))).setCell ⟨w.heap.size, 3, none⟩ (.map (some w6.heap.size))).setCell ⟨w.heap.size, 4, none⟩ (.slice vo8 ns vc8)).heap[k]? = w8.heap[k]? := fun k hk => by
        rw [set_other _ _ _ _ k hk, set_other _ _ _ _ k hk, set_other _ _ _ _ k hk]
      have e9 : dcells ⟨.slice go k gcap, .slice vo8 ns vc8, wr.heap.size, w6.heap.size, fv⟩ D = (((dcells { L with va := .slice go k gcap } D).setIfInBounds 2 (.map (some wr.heap.size))).setIfInBounds 3 (.map (some w6.heap.size))).setIfInBounds 4 (.slice vo8 ns vc8) := by simp [dcells]
      have hsz7 := HN7.out.lt
      refine ⟨w.heap.size, ⟨.slice go k gcap, .slice vo8 ns vc8, wr.heap.size, w6.heap.size, fv⟩, rfl, C.out.done (vs := .slice vo8 ns vc8) (bn := wr.heap.size) (bs := w6.heap.size) HN.out (fun j hj hne => (so j hne).trans (B8.out.block j hj)) ?_ ?_ ?_ ?_ (by show wr.heap.size ≠ w6.heap.size; omega), fun j hj => ?_, ?_⟩
      · rw [e9]; exact ((CQ8.out.set 2 _).set 3 _).set 4 _
      · have h6 : NamesAt w6 wr.heap.size D.names := HN6.out
        refine (h6.ext ?_ : NamesAt w8 wr.heap.size D.names).ext (so _ (by omega))
        exact (HB8.out.block _ (by have := HG7.out.size; omega)).trans (HG7.out.block _ z6 (by simp))
      · exact (HN7.out.ext (HB8.out.block _ hsz7)).ext (so _ (by omega))
      · rw [HNS.out]
        refine row_of_block (row_mono HR8.out (Nat.zero_le _)) fun j hj => so j ?_
        have a1 := (HR8.out.lt j hj).1
        have a2 := B7.out.size
        omega
      · have a0 := B7.out.size
        rcases hj with h | h | h | h | h | ⟨i, hi, h⟩
        · omega
        · exact (C.out.all.lt j h).1
        · have a1 := (HR8.out.lt j h).1; omega
        · have h : j = wr.heap.size := h; omega
        · have h : j = w6.heap.size := h; omega
        · have hi2 : i < k := by have := C.out.len; have h9 : i < fv.length := hi; rw [this, HN.out] at h9; exact h9
          exact ((C.out.dat i hi2).lt j h).1
      · exact below_set (below_set (below_set (HBW.out.trans (B8.out.mono HBW.out.size)) (Nat.le_refl _) _) (Nat.le_refl _) _) (Nat.le_refl _) _
end

section
open Go.RowKit Go.Extern.Stop Go.Stop Go.Extern
section
variable {W : World} {p q : Nat} {L Lc L1 : Lay} {D D' E : DS} {w w' : World}
theorem Stand.copy (S : Stand W p L D w) {T : Nat} (hI : Inv D T) (hT : T ≤ 100000) :
    Calls Tryz.prog 9 #[.pointer (some ⟨p, 0, none⟩)] w fun e w' => ∃ q Lc, e = .returned (.pointer (some ⟨q, 0, none⟩)) ∧ Stand W q Lc D w' ∧ Stand W p L D w' ∧ (∀ k, Lc.has q k → ¬ L.has p k) ∧ Below w.heap.size w w' :=
  (copy_disk p L D T w S.dp hI hT).mono fun e w' ⟨q, Lc, he, h1, h2, hb⟩ =>
    ⟨q, Lc, he, Stand.new S.below h1 h2 hb, S.ext hb, fun k hk hh => by have := h2 k hk; have := S.dp.lt hh; omega, hb⟩
/-- Another disk's operation leaves this one alone. -/
theorem Stand.beside (Sc : Stand W q Lc E w) (hd : ∀ k, Lc.has q k → ¬ L.has p k) (S1 : Stand W p L1 D' w') (hk : Keep (L.has p) w w') (hn : ∀ k, L1.has p k → L.has p k ∨ w.heap.size ≤ k) :
    Stand W q Lc E w' ∧ ∀ k, Lc.has q k → ¬ L1.has p k :=
  ⟨⟨Sc.dp.stays fun k h => hk.block k (Sc.dp.lt h) (hd k h), Sc.own, S1.below⟩, fun k h h1 => by
    rcases hn k h1 with h2 | h2
    · exact hd k h h2
    · have := Sc.dp.lt h; omega⟩
theorem Stand.apart (h : ∀ k, Lc.has q k → ¬ L.has p k) : ∀ k, L.has p k → ¬ Lc.has q k := fun k h1 h2 => h k h2 h1
theorem Stand.used (S : Stand W p L D w) {T : Nat} (hI : Inv D T) (hT : T ≤ 100000) :
    Calls Tryz.prog 14 #[.pointer (some ⟨p, 0, none⟩)] w fun e w' => e = .returned (.int .i64 (usedD D : Int)) ∧ Stand W p L D w' ∧ Below w.heap.size w w' :=
  (used_any p L D T w S.dp hI hT).mono fun e w' ⟨he, hb⟩ => ⟨he, S.ext hb, hb⟩
theorem Stand.list (S : Stand W p L D w) {T : Nat} (hI : Inv D T) (hT : T ≤ 100000) :
    Calls Tryz.prog 32 #[.pointer (some ⟨p, 0, none⟩)] w fun e w' => ∃ ao cap, e = .returned (.slice ao (listD D).length cap) ∧ Stand W p L D w' ∧ Below w.heap.size w w' :=
  (list_any p L D T w S.dp hI hT).mono fun e w' ⟨v, he, ho, hb⟩ => by
    obtain ⟨ao, cap, rfl⟩ := rowShape ho
    rw [length_listD]
    exact ⟨ao, cap, he, S.ext hb, hb⟩
end
end

section
open Go.RowKit Go.Extern.Stop Go.Stop Go.Extern
/-- Files in rows that are not the disk's. -/
def HeldFs (L : Lay) (p : Nat) (w : World) (v : Value) (fs : List FV) : Prop :=
  ∃ ps : List Value, w.ownsRow 0 57 3 v fs.length (gcells fs ps) ∧ ps.length = fs.length ∧ (∀ j, j < fs.length → w.ownsRow 0 5 1 (ps.getD j .nilIface) (fs.getD j FV.nought).data.length (bcells (fs.getD j FV.nought).data)) ∧
    (∀ k, v.ownBlock = some k → ¬ L.has p k) ∧ ∀ j, j < fs.length → ∀ k, (ps.getD j .nilIface).ownBlock = some k → ¬ L.has p k
section
variable {W : World} {p q : Nat} {L L' : Lay} {D : DS} {w w' : World} {v : Value} {fs : List FV}
theorem HeldFs.own (h : HeldFs L p w v fs) : OwnFs w 0 v fs := by
  obtain ⟨ps, h1, h2, h3, -, -⟩ := h
  exact ⟨ps, h1, h2, h3⟩
theorem HeldFs.of {B : Nat} (h : OwnFs w B v fs) (hB : ∀ k, L.has p k → k < B) : HeldFs L p w v fs := by
  obtain ⟨ps, h1, h2, h3⟩ := h
  exact ⟨ps, row_mono h1 (Nat.zero_le _), h2, fun j hj => row_mono (h3 j hj) (Nat.zero_le _), fun k e hh => by have := (h1.lt k e).1; have := hB k hh; omega, fun j hj k e hh => by have := ((h3 j hj).lt k e).1; have := hB k hh; omega⟩
theorem HeldFs.ext (h : HeldFs L p w v fs) (hb : Below w.heap.size w w') : HeldFs L p w' v fs := by
  obtain ⟨ps, h1, h2, h3, h4, h5⟩ := h
  exact ⟨ps, row_ext h1 hb, h2, fun j hj => row_ext (h3 j hj) hb, h4, h5⟩
theorem HeldFs.keep (h : HeldFs L p w v fs) (hk : Keep (L.has p) w w') (hn : ∀ k, L'.has p k → L.has p k ∨ w.heap.size ≤ k) : HeldFs L' p w' v fs := by
  obtain ⟨ps, h1, h2, h3, h4, h5⟩ := h
  refine ⟨ps, row_of_block h1 fun k e => hk.block k (h1.lt k e).2 (h4 k e), h2, fun j hj => row_of_block (h3 j hj) fun k e => hk.block k ((h3 j hj).lt k e).2 (h5 j hj k e), fun k e hh => ?_, fun j hj k e hh => ?_⟩
  · rcases hn k hh with h | h
    · exact h4 k e h
    · have := (h1.lt k e).2; omega
  · rcases hn k hh with h | h
    · exact h5 j hj k e h
    · have := ((h3 j hj).lt k e).2; omega
end
end
end Go.Proofs.YtdiaejphgcoknaaGreatDoor
