/- kinref5: Crash: what its loops carry. kinref5: Crash: contract. kinlaw5.Does: contract. kinref5: Files: contract. kinlaw5.Same: contract. kinlaw5.Few: contract, with a bound for the bytes of each operation. DiskPlays: the walk. -/
import Derived.Test.YtdiaejphgcoknaaGreatDoorPlaysE
import Derived.Test.YtdiaejphgcoknaaGreatDoorDiskAf
set_option linter.unusedSimpArgs false
set_option linter.unusedVariables false
namespace Go.Proofs.YtdiaejphgcoknaaGreatDoor

/-! kinref5: Crash: what its loops carry. -/
section
open Go.RowKit Go.Extern.Stop Go.Stop Go.Extern

section
variable {bs ns : List Nat} {D : DS} {T : Nat} {picks : List Int}
theorem keep_le (picks : List Int) : ∀ (c : List Nat) (s : List DF × Nat), (c.foldl (keepStep picks) s).2 ≤ s.2 + c.length
  | [], s => Nat.le_refl _
  | n :: r, s => by
    have h1 := keep_le picks r (keepStep picks s n)
    have h2 : (keepStep picks s n).2 ≤ s.2 + 1 := cutI_le _ _
    rw [List.foldl_cons, List.length_cons]; omega
theorem crashK_le (picks : List Int) (D : DS) (bs ns : List Nat) (k : Nat) : (crashK picks D bs ns k).2 ≤ k + 1 := by
  unfold crashK
  have h1 := keep_le picks ((bs.take k).filter (thereB D ns)) (D.all, 1)
  have h2 : ((bs.take k).filter (thereB D ns)).length ≤ k := Nat.le_trans (List.length_filter_le _ _) (by rw [List.length_take]; omega)
  simp only at h1
  omega
theorem not_before (h : XI D bs ns) {k : Nat} (hk : k < bs.length) : bs.getD k 0 ∉ bs.take k := by
  intro hm
  obtain ⟨j, hj, he⟩ := List.mem_iff_getElem.1 hm
  rw [List.length_take] at hj
  rw [List.getElem_take] at he
  have : bs.getD j 0 = bs.getD k 0 := by rw [List.getD_eq_getElem?_getD, List.getElem?_eq_getElem (show j < bs.length by omega), ← he]; rfl
  have := getD_inj h.asc (show j < bs.length by omega) hk this
  omega
theorem XI.atK (h : XI D bs ns) (picks : List Int) {k : Nat} (hk : k < bs.length) : (Go.Proofs.YtdiaejphgcoknaaGreatDoor.crashK picks D bs ns k).1.getD (bs.getD k 0) DF.nought = D.file (bs.getD k 0) := (h.crashK picks k).2.2 _ (not_before h hk)
/-- A body of which all is safe, or that is not there. -/
theorem crashK_same (h : XI D bs ns) {k : Nat} (hk : k < bs.length) (hs : ¬ (D.file (bs.getD k 0)).safe < (D.file (bs.getD k 0)).data.length ∨ thereB D ns (bs.getD k 0) = false) : crashK picks D bs ns (k + 1) = crashK picks D bs ns k := by
  rw [crashK_succ _ _ _ _ hk]
  cases ht : thereB D ns (bs.getD k 0) with
  | false => simp
  | true =>
    rw [if_pos rfl]
    have hs2 : ¬ (D.file (bs.getD k 0)).safe < (D.file (bs.getD k 0)).data.length := by
      rcases hs with h9 | h9
      · exact h9
      · rw [ht] at h9; cases h9
    have e := h.atK picks hk
    generalize crashK picks D bs ns k = K at *
    obtain ⟨l, i⟩ := K
    unfold keepStep
    show (setF l (bs.getD k 0) (keepF picks i (l.getD (bs.getD k 0) DF.nought)), cutI i (l.getD (bs.getD k 0) DF.nought)) = (l, i)
    rw [e]
    have e1 : keepF picks i (D.file (bs.getD k 0)) = D.file (bs.getD k 0) := by unfold keepF cutF; rw [if_neg hs2]
    have e2 : cutI i (D.file (bs.getD k 0)) = i := by unfold cutI; rw [if_neg hs2]
    rw [e1, e2]
    congr 1
    rw [← e]; exact setF_self l _
theorem crashK_cut (h : XI D bs ns) {k : Nat} (hk : k < bs.length) (hs : (D.file (bs.getD k 0)).safe < (D.file (bs.getD k 0)).data.length) (ht : thereB D ns (bs.getD k 0) = true) :
    (crashK picks D bs ns (k + 1)).1 = setF (crashK picks D bs ns k).1 (bs.getD k 0) ⟨(D.file (bs.getD k 0)).data.take ((D.file (bs.getD k 0)).safe + pickV picks (crashK picks D bs ns k).2 ((D.file (bs.getD k 0)).data.length - (D.file (bs.getD k 0)).safe)), (D.file (bs.getD k 0)).safe⟩ ∧
    (crashK picks D bs ns (k + 1)).2 = (crashK picks D bs ns k).2 + 1 := by
  rw [crashK_succ _ _ _ _ hk, if_pos ht]
  have e := h.atK picks hk
  generalize crashK picks D bs ns k = K at *
  obtain ⟨l, i⟩ := K
  unfold keepStep
  show setF l (bs.getD k 0) (keepF picks i (l.getD (bs.getD k 0) DF.nought)) = _ ∧ cutI i (l.getD (bs.getD k 0) DF.nought) = _
  rw [e]
  constructor
  · congr 1
    unfold keepF cutF
    rw [if_pos hs]
  · unfold cutI; rw [if_pos hs]
theorem crashK_zero (picks : List Int) (D : DS) (bs ns : List Nat) : crashK picks D bs ns 0 = (D.all, 1) := rfl
/-- The disk with files cut. -/
def cutD (D : DS) (l : List DF) : DS := { D with all := l }
theorem cutD_file (D : DS) (l : List DF) (b : Nat) : (cutD D l).file b = l.getD b DF.nought := rfl
/-- The bodies that are kept, among the first i. -/
def keptI (l : NM) (bs : List Nat) (i : Nat) : List Nat := (List.range i).filter fun j => ledB l (bs.getD j 0)
theorem keptI_succ (l : NM) (bs : List Nat) (i : Nat) : keptI l bs (i + 1) = if ledB l (bs.getD i 0) then keptI l bs i ++ [i] else keptI l bs i := by
  unfold keptI
  rw [List.range_succ, List.filter_append]
  by_cases e : ledB l (bs.getD i 0) = true
  · rw [if_pos e, List.filter_cons_of_pos (p := fun j => ledB l (bs.getD j 0)) e]; rfl
  · rw [if_neg e, List.filter_cons_of_neg (p := fun j => ledB l (bs.getD j 0)) e]; simp
theorem keptI_le (l : NM) (bs : List Nat) (i : Nat) : (keptI l bs i).length ≤ i := by
  unfold keptI
  exact Nat.le_trans (List.length_filter_le _ _) (by simp)
def keptN (l : NM) (bs : List Nat) (i : Nat) : List Nat := (keptI l bs i).map fun j => bs.getD j 0
def keptV (l : NM) (bs : List Nat) (dv : List Value) (i : Nat) : List Value := (keptI l bs i).map fun j => dv.getD j .nilIface
theorem range_getD (bs : List Nat) : (List.range bs.length).map (fun j => bs.getD j 0) = bs := by
  refine List.ext_getElem (by simp) fun k h1 h2 => ?_
  simp [List.getD_eq_getElem?_getD, List.getElem?_eq_getElem h2]
theorem keptN_all (l : NM) (bs : List Nat) : keptN l bs bs.length = bs.filter (ledB l) := by
  unfold keptN keptI
  conv => rhs; rw [← range_getD bs]
  rw [List.filter_map]; rfl
theorem keptN_len (l : NM) (bs : List Nat) (dv : List Value) (i : Nat) : (keptV l bs dv i).length = (keptN l bs i).length := by unfold keptV keptN; simp
theorem kept_at (l : NM) (bs : List Nat) (dv : List Value) (i : Nat) {j : Nat} (hj : j < (keptN l bs i).length) : ∃ t, t < i ∧ (keptN l bs i).getD j 0 = bs.getD t 0 ∧ (keptV l bs dv i).getD j .nilIface = dv.getD t .nilIface ∧ ledB l (bs.getD t 0) = true := by
  have hj' : j < (keptI l bs i).length := by unfold keptN at hj; simpa using hj
  have hm : (keptI l bs i)[j] ∈ keptI l bs i := List.getElem_mem hj'
  obtain ⟨h1, h2⟩ := List.mem_filter.1 hm
  refine ⟨(keptI l bs i)[j], List.mem_range.1 h1, ?_, ?_, h2⟩
  · unfold keptN; simp [List.getD_eq_getElem?_getD, List.getElem?_eq_getElem hj']
  · unfold keptV; simp [List.getD_eq_getElem?_getD, List.getElem?_eq_getElem hj']
theorem keptN_succ (l : NM) (bs : List Nat) (i : Nat) : keptN l bs (i + 1) = if ledB l (bs.getD i 0) then keptN l bs i ++ [bs.getD i 0] else keptN l bs i := by
  unfold keptN
  rw [keptI_succ]
  split
  · rw [List.map_append]; rfl
  · rfl
theorem keptV_succ (l : NM) (bs : List Nat) (dv : List Value) (i : Nat) : keptV l bs dv (i + 1) = if ledB l (bs.getD i 0) then keptV l bs dv i ++ [dv.getD i .nilIface] else keptV l bs dv i := by
  unfold keptV
  rw [keptI_succ]
  split
  · rw [List.map_append]; rfl
  · rfl
theorem bodycells_snoc (D : DS) (bs : List Nat) (dv : List Value) (hl : dv.length = bs.length) (b : Nat) (v : Value) : bodycells D (bs ++ [b]) (dv ++ [v]) = bodycells D bs dv ++ [.int .i64 (b : Int), v, .int .i64 ((D.file b).safe : Int)] := by
  unfold bodycells
  rw [List.length_append, List.length_singleton, List.range_succ, List.flatMap_append]
  congr 1
  · exact flatR_congr fun j hj => by unfold bodyc; rw [getD_appL hj, getD_appL (by rw [hl]; exact hj)]
  · rw [List.flatMap_cons, List.flatMap_nil, List.append_nil]
    unfold bodyc
    rw [getD_appE, show (dv ++ [v]).getD bs.length .nilIface = v from by rw [← hl]; exact getD_appE]
theorem ledB_succ (l : NM) (b : Nat) {t : Nat} (h : t < l.length) : ledB (l.take (t + 1)) b = (ledB (l.take t) b || (l.getD t ([], 0)).2 == b) := by
  unfold ledB
  rw [take_app l ([], 0) h, List.any_append]
  simp
end
section
variable {w w2 w3 : World} {x : Nat} {X : XLay} {D : DS} {bs ns : List Nat} {T : Nat} {picks : List Int}
/-- The document's disk behind a crash. -/
theorem XP.crashed {dv : List Value} {vb vl : Value} (hX : XI D bs ns) (hI : Inv D T) (h : XP w x { X with dv := dv } (cutD D (crashK picks D bs ns bs.length).1) bs ns) (hb : Below w.heap.size w w2)
    (hB : Blk w3 x (xcells ⟨vb, vl, vl, .slice none 0 0, keptV (crashN D picks) bs dv bs.length⟩ (crashD D picks)) 81) (ho : ∀ k, k ≠ x → w3.heap[k]? = w2.heap[k]?)
    (hrow : w2.ownsRow 0 116 3 vb (keptN (crashN D picks) bs bs.length).length (bodycells (crashD D picks) (keptN (crashN D picks) bs bs.length) (keptV (crashN D picks) bs dv bs.length))) (hl : NRow w2 0 vl (crashN D picks)) :
    XP w3 x ⟨vb, vl, vl, .slice none 0 0, keptV (crashN D picks) bs dv bs.length⟩ (crashD D picks) (crashB picks D bs) [] := by
  have h2 := h.ext hb
  have e : crashB picks D bs = keptN (crashN D picks) bs bs.length := (keptN_all _ _).symm
  have hne : ∀ {T sz n : Nat} {v : Value} {cs : List Value}, w2.ownsRow 0 T sz v n cs → T ≠ 81 → ∀ k, v.ownBlock = some k → k ≠ x := fun hr hT k hk e => blk_row h2.blk hr (Ne.symm hT) (e ▸ hk)
  rw [e]
  refine ⟨hB, row_of_block hrow fun k hk => ho k (hne hrow (by decide) k hk), keptN_len _ _ _ _, fun j hj => ?_, row_of_block hl fun k hk => ho k (hne hl (by decide) k hk), row_of_block hl fun k hk => ho k (hne hl (by decide) k hk), World.ownsRow_nil _ _ _ 4⟩
  obtain ⟨t, ht, e1, e2, hled⟩ := kept_at (crashN D picks) bs dv bs.length hj
  show World.ownsRow _ 0 _ 1 ((keptV (crashN D picks) bs dv bs.length).getD j .nilIface) _ _
  rw [e1, e2, hX.cut_all hI picks _ (hX.led_there hI picks hled)]
  have hd := h2.dat t ht
  exact row_of_block hd fun k hk => ho k (hne hd (by decide) k hk)
end
end

/-! kinref5: Crash: contract. -/
section
open Go.RowKit Go.Extern.Stop Go.Stop Go.Extern

set_option maxRecDepth 100000 in
set_option maxHeartbeats 8000000 in
theorem xcrash_any (x : Nat) (X : XLay) (D : DS) (bs ns : List Nat) (picks : List Int) (u : Value) (T : Nat) (w : World) (h : XP w x X D bs ns) (hI : Inv D T) (hT : T ≤ 100000) (hX : XI D bs ns) (hu : ∀ w', Keep (X.has x) w w' → Ints w' u picks) :
    Calls Tryz.prog 47 #[.pointer (some ⟨x, 0, none⟩), u] w fun e w' => e = .returned (.tuple #[]) ∧ ∃ X', XP w' x X' (crashD D picks) (crashB picks D bs) [] ∧ (∀ j, X'.has x j → X.has x j ∨ w.heap.size ≤ j) ∧ Keep (X.has x) w w' := by
  have H := Lib.hid h
  have HI := Lib.hid hI
  have HX := Lib.hid hX
  have HU := Lib.hid hu
  have hin := (hu w (Keep.refl _ _)).in64
  obtain ⟨m, hm⟩ : ∃ m, D.steps.length = m := ⟨_, rfl⟩
  obtain ⟨bn, hbn⟩ : ∃ bn, bs.length = bn := ⟨_, rfl⟩
  have hm1 : m ≤ 100000 := by have := hI.stp; omega
  have hbn1 : bn ≤ 100000 := by have := bs_len hX.asc hX.lt; have := hI.cnt; omega
  obtain ⟨uo, ul, ucap, rfl⟩ : ∃ uo ul ucap, u = .slice uo ul ucap := by
    obtain ⟨ao, cap, e, _⟩ := hu w (Keep.refl _ _)
    exact ⟨ao, _, cap, e⟩
  obtain ⟨to, tcap, hvt⟩ := rowShape h.stp
  rw [hm] at hvt
  have HVT := Lib.hid hvt
  have HM := Lib.hid hm
  have HBN := Lib.hid hbn
  have c4 : w.cell? ⟨x, 4, none⟩ = some (.slice to m tcap) := (h.cell 4).trans (congrArg some hvt)
  have lx := h.blk.lt
  have CP := Lib.hid (fun w' (hk : Keep (X.has x) w w') k (hk2 : k ≤ 1000000) => xpick_any _ picks k w' (hu w' hk) hk2)
  have hp0 := pickM_in hin 0
  obtain ⟨kp, hkp⟩ : ∃ kp, pickV picks 0 m = kp := ⟨_, rfl⟩
  have hkpm : kp ≤ m := by rw [← hkp]; exact pickV_le _ _ _
  have HKP := Lib.hid hkp
  obtain ⟨M1, hM1⟩ : ∃ M1, m + 1 = M1 := ⟨_, rfl⟩
  have q1 : IntKind.i64.wrap ((m : Int) + 1) = (M1 : Int) := by rw [IntWalk.i64_in _ (by omega)]; omega
  have q2 : ¬ (M1 : Int) = 0 := by omega
  have q2n : ¬ M1 = 0 := by omega
  have q3 : Int.tmod (pickM picks 0) (M1 : Int) = (kp : Int) := by rw [← hkp, ← pickM_rem]; congr 1; omega
  have q4 : IntKind.i64.wrap (kp : Int) = (kp : Int) := IntWalk.i64_in _ (by omega)
  have CP0 := Lib.hid (fun w' (hk : Keep (X.has x) w w') => CP.out w' hk 0 (by omega))
  have HZ : Hid ((crashK picks D bs ns 0) = (D.all, 1)) := Lib.hid rfl
  have HPI := Lib.hid (fun k => pickM_in hin k)
  generalize pickM picks 0 = pm at *
  clear h hI hX hu hin hm hbn hvt hkp hM1
  go_enter Tryz.func47, Tryz.ntmps47
  go_wp2
  go_region_held3 (fun w' => w'.cell? ⟨x, 4, none⟩ = some (.slice to m tcap)) (first | exact c4 | go_keep)
    (first | (go_at_call 70; refine (CP0.out _ ?_).mono ?_; exact ⟨rfl, rfl, rfl, Nat.le_refl _, fun _ _ _ => rfl⟩; rintro e w' ⟨rfl, rfl⟩))
  clear CP0 c4
  go_wp2
  go_loopw [5, 6] (fun at' i wr => ∃ (k : Nat) (dv : List Value), k ≤ bn ∧ i = .int .i64 (k : Int) ∧ at' = .int .i64 ((crashK picks D bs ns k).2 : Int) ∧ XP wr x { X with dv := dv } (cutD D (crashK picks D bs ns k).1) bs ns ∧ Keep (X.has x) w wr ∧ ∀ j, ({ X with dv := dv } : XLay).has x j → X.has x j ∨ w.heap.size ≤ j) (fun _ i _ => bn - (intOf i).toNat)
  case atStart => exact ⟨0, X.dv, Nat.zero_le _, rfl, rfl, H.out.stays fun _ _ => rfl, ⟨rfl, rfl, rfl, Nat.le_refl _, fun _ _ _ => rfl⟩, fun _ hj => .inl hj⟩
  case round =>
    obtain ⟨k, dv, hk, rfl, rfl, hX1, hK1, hN1⟩ := hrel
    have HX1 := Lib.hid hX1
    have HK1 := Lib.hid hK1
    have HN1 := Lib.hid hN1
    obtain ⟨vbo, vbc, hvb⟩ := rowShape H.out.bod
    rw [HBN.out] at hvb
    have HVB := Lib.hid hvb
    have c1 : wr.cell? ⟨x, 1, none⟩ = some (.slice vbo bn vbc) := (hX1.cell 1).trans (congrArg some hvb)
    have lx1 := hX1.blk.lt
    have hatle := crashK_le picks D bs ns k
    clear hX1 hK1 hN1 hvb
    by_cases hlt : k < bn
    · have hkl : k < bs.length := by rw [HBN.out]; exact hlt
      obtain ⟨g, cap, hvb, hgl, hgx, k0, k1, k2, kf⟩ := HX1.out.bodyAt HBN.out hlt
      have e9 := HVB.out.symm.trans hvb
      simp only [Value.slice.injEq, true_and] at e9
      obtain ⟨rfl, rfl⟩ := e9
      obtain ⟨dao, dcap, hdv⟩ := rowShape (HX1.out.dat k hkl)
      have hdat := HX1.out.dat k hkl
      have hfile : (cutD D (crashK picks D bs ns k).1).file (bs.getD k 0) = D.file (bs.getD k 0) := HX.out.atK picks hkl
      rw [hfile] at hdv hdat k2
      have hat : ({ X with dv := dv } : XLay).at k = .slice dao (D.file (bs.getD k 0)).data.length dcap := hdv
      rw [hat] at k1 hdat
      have HSAME := Lib.hid (fun hs => crashK_same (picks := picks) HX.out hkl hs)
      have HCUT := Lib.hid (fun hs ht => crashK_cut (picks := picks) HX.out hkl hs ht)
      have hfl := HI.out.file (bs.getD k 0)
      have hblt := HX.out.lt _ (mem_at hkl)
      have hcnt := HI.out.cnt
      have CTH : Hid (∀ wx, Below wr.heap.size wr wx → Calls Tryz.prog 71 #[.pointer (some ⟨x, 0, none⟩), .int .i64 ((bs.getD k 0 : Nat) : Int)] wx fun e w' => e = .returned (.bool (thereB D ns (bs.getD k 0))) ∧ Below wx.heap.size wx w') := fun wx hb => xthere_any x { X with dv := dv } (cutD D (crashK picks D bs ns k).1) bs ns (bs.getD k 0) wx (HX1.out.ext hb) (show D.safe.length ≤ 1000000 by have := HI.out.stp; omega) (show D.steps.length ≤ 1000000 by have := HI.out.stp; omega) HX.out.ann.len
      have HSD := Lib.hid (fun wx (hb : Below wr.heap.size wr wx) (u' : Value) (d' : Bs) (hu' : wx.ownsRow 0 5 1 u' d'.length (bcells d')) => HX1.out.setData HX.out.asc (fun b hb => by show b < (crashK picks D bs ns k).1.length; rw [(HX.out.crashK picks k).2.1]; exact HX.out.lt b hb) hb hkl hvb hu')
      rw [hfile] at HSD
      generalize D.file (bs.getD k 0) = f at *
      obtain ⟨ds, sf⟩ := f
      simp only at hdv hdat k1 k2 HSAME HCUT hfl HSD hat
      obtain ⟨dl, hdl⟩ : ∃ dl, ds.length = dl := ⟨_, rfl⟩
      have HDL := Lib.hid hdl
      rw [hdl] at k1 hfl
      have hdat2 : wr.ownsRow 0 5 1 (.slice dao dl dcap) ds.length (bcells ds) := by rw [hdl] at hdat ⊢; exact hdat
      have HDAT := Lib.hid hdat2
      obtain ⟨mm, hmm⟩ : ∃ mm, dl - sf = mm := ⟨_, rfl⟩
      have p1 : IntKind.i64.wrap ((dl : Int) - (sf : Int)) = (mm : Int) := by rw [IntWalk.i64_in _ (by omega)]; omega
      have i1 : (0 : Int) ≤ (k : Int) := by omega
      have i2 : (k : Int) < (bn : Int) := by omega
      have HP : Hid (∀ wx, Below wr.heap.size wr wx → wx.cell? ⟨x, 1, none⟩ = some (.slice (some ⟨g, 0, none⟩) bn vbc) ∧ wx.cell? ⟨g, k * 3, none⟩ = some (.int .i64 ((bs.getD k 0 : Nat) : Int)) ∧ wx.cell? ⟨g, k * 3 + 1, none⟩ = some (.slice dao dl dcap) ∧ wx.cell? ⟨g, k * 3 + 2, none⟩ = some (.int .i64 (sf : Int))) := fun wx hb => ⟨(hb.cell (p := ⟨x, 1, none⟩) lx1).trans c1, (hb.cell (p := ⟨g, k * 3, none⟩) hgl).trans k0, (hb.cell (p := ⟨g, k * 3 + 1, none⟩) hgl).trans k1, (hb.cell (p := ⟨g, k * 3 + 2, none⟩) hgl).trans k2⟩
      have kf1 := kf (k * 3 + 1)
      have SA := Lib.hid (HP.out wr.drew (Below.refl _ _).drew)
      have HMM := Lib.hid hmm
      clear hkl hdv hat hfile hdat hdat2 hdl kf hvb hmm
      by_cases hs : sf < dl
      · have hmp : 0 < mm := by rw [← HMM.out]; omega
        have gm : (0 : Int) < (mm : Int) := by omega
        cases ht : thereB D ns (bs.getD k 0) with
        | false =>
          have HE := Lib.hid (HSAME.out (.inr ht))
          rw [ht] at CTH
          generalize bs.getD k 0 = b at *
          clear ht
          go_wp2
          go_region_held3 (fun w' => w'.cell? ⟨x, 1, none⟩ = some (.slice (some ⟨g, 0, none⟩) bn vbc) ∧ w'.cell? ⟨g, k * 3, none⟩ = some (.int .i64 (b : Int)) ∧ w'.cell? ⟨g, k * 3 + 1, none⟩ = some (.slice dao dl dcap) ∧ w'.cell? ⟨g, k * 3 + 2, none⟩ = some (.int .i64 (sf : Int)))
            (first | with_reducible exact SA.out | go_keep) (fail)
          go_wp2_with (go_at_call 71; refine (CTH.out _ (by go_grown)).mono ?_; rintro e w2 ⟨rfl, hb2⟩; have HB2 : Hid (Below wr.heap.size wr w2) := Lib.hid (below_undrew hb2); clear hb2)
          go_wp2
          go_roundw
          case rel => exact ⟨k + 1, dv, by omega, by go_num, by rw [HE.out], by rw [HE.out]; exact HX1.out.ext HB2.out, HK1.out.trans (Keep.of_below HB2.out), HN1.out⟩
          case measure => simp [intOf]; omega
        | true =>
          have hc := HCUT.out (by rw [HDL.out]; exact hs) ht
          rw [HDL.out, HMM.out] at hc
          rw [ht] at CTH
          generalize bs.getD k 0 = b at *
          obtain ⟨atn, hatn⟩ : ∃ atn, (crashK picks D bs ns k).2 = atn := ⟨_, rfl⟩
          rw [hatn] at hc hatle ⊢
          have hpk := pickV_le picks atn mm
          have hrem := pickM_rem picks atn mm
          have hpm := HPI.out atn
          have CPA := Lib.hid (fun w' (hk : Keep (X.has x) w w') => CP.out w' hk atn (by omega))
          obtain ⟨pk, hpk2⟩ : ∃ pk, pickV picks atn mm = pk := ⟨_, rfl⟩
          rw [hpk2] at hc hpk hrem
          obtain ⟨nn, hnn⟩ : ∃ nn, sf + pk = nn := ⟨_, rfl⟩
          rw [hnn] at hc
          obtain ⟨hc1, hc2⟩ := hc
          have HC1 := Lib.hid hc1
          have HC2 := Lib.hid hc2
          have hnd : nn ≤ dl := by rw [← hnn]; have := HMM.out; omega
          have hmm2 : mm ≤ dl := by rw [← HMM.out]; omega
          obtain ⟨M2, hM2⟩ : ∃ M2, mm + 1 = M2 := ⟨_, rfl⟩
          generalize pickM picks atn = pa at *
          have r1 : IntKind.i64.wrap ((mm : Int) + 1) = (M2 : Int) := by rw [IntWalk.i64_in _ (by omega)]; omega
          have r2 : ¬ (M2 : Int) = 0 := by omega
          have r2n : ¬ M2 = 0 := by omega
          have r3 : Int.tmod pa (M2 : Int) = (pk : Int) := by rw [← hrem]; congr 1; omega
          have r4 : IntKind.i64.wrap (pk : Int) = (pk : Int) := IntWalk.i64_in _ (by omega)
          have r5 : IntKind.i64.wrap ((sf : Int) + (pk : Int)) = (nn : Int) := by rw [IntWalk.i64_in _ (by omega)]; omega
          have r6 : IntKind.i64.wrap ((atn : Int) + 1) = ((atn + 1 : Nat) : Int) := by rw [IntWalk.i64_in _ (by omega)]; omega
          obtain ⟨dg, hdao, hcap3⟩ : ∃ dg, dao = some ⟨dg, 0, none⟩ ∧ dl ≤ dcap := by
            rcases row_head HDAT.out with ⟨_, h0⟩ | ⟨dg, dc, e, -, -, hc3, -⟩
            · have := HDL.out; omega
            · obtain ⟨e1, -, e3⟩ := Value.slice.inj e
              exact ⟨dg, e1, by rw [e3, ← HDL.out]; exact hc3⟩
          subst hdao
          have r7 : (nn : Int) ≤ (dcap : Int) := by omega
          have r8 : nn ≤ dcap := by omega
          have r9 : (0 : Int) ≤ (nn : Int) := by omega
          have hcut : BytesV wr (.slice (some ⟨dg, 0, none⟩) nn dcap) (ds.take nn) := by
            have h9 := bytes_of_rowB HDAT.out
            rw [show (Value.slice (some ⟨dg, 0, none⟩) dl dcap : Value) = .slice (some ⟨dg, 0, none⟩) dl dcap from rfl] at h9
            exact h9.cut hnd
          have htl : (ds.take nn).length = nn := by rw [List.length_take, HDL.out]; omega
          have HTL := Lib.hid htl
          have CC := Lib.hid (fun wx (hb : Below wr.heap.size wr wx) => rcopy_any (.slice (some ⟨dg, 0, none⟩) nn dcap) (ds.take nn) wx (hcut.ext hb) (by rw [htl]; omega))
          rw [htl] at CC
          have HAT := Lib.hid hatn
          clear ht hc1 hc2 hpk2 hpk hrem hM2 hnn hnd hcut htl hatn hpm hcap3
          go_wp2
          go_region_held3 (fun w' => w'.cell? ⟨x, 1, none⟩ = some (.slice (some ⟨g, 0, none⟩) bn vbc) ∧ w'.cell? ⟨g, k * 3, none⟩ = some (.int .i64 (b : Int)) ∧ w'.cell? ⟨g, k * 3 + 1, none⟩ = some (.slice (some ⟨dg, 0, none⟩) dl dcap) ∧ w'.cell? ⟨g, k * 3 + 2, none⟩ = some (.int .i64 (sf : Int)))
            (first | with_reducible exact SA.out | go_keep) (fail)
          go_wp2_with (go_at_call 71; refine (CTH.out _ (by go_grown)).mono ?_; rintro e w2 ⟨rfl, hb2⟩; have HB2 : Hid (Below wr.heap.size wr w2) := Lib.hid (below_undrew hb2); obtain ⟨s1, s2, s3, s4⟩ := HP.out w2 HB2.out; have SB := Lib.hid (HP.out w2.drew HB2.out.drew); have kf2 : w2.frozen? ⟨g, k * 3 + 1, none⟩ = false := (World.frozen?_of_block (a := ⟨g, k * 3 + 1, none⟩) (HB2.out.block g hgl)).trans kf1; clear hb2)
          go_region_held3 (fun w' => w'.cell? ⟨x, 1, none⟩ = some (.slice (some ⟨g, 0, none⟩) bn vbc) ∧ w'.cell? ⟨g, k * 3, none⟩ = some (.int .i64 (b : Int)) ∧ w'.cell? ⟨g, k * 3 + 1, none⟩ = some (.slice (some ⟨dg, 0, none⟩) dl dcap) ∧ w'.cell? ⟨g, k * 3 + 2, none⟩ = some (.int .i64 (sf : Int)))
            (first | with_reducible exact SB.out | go_keep)
            (first | (go_at_call 70; refine (CPA.out _ ?_).mono ?_; exact (HK1.out.trans (Keep.of_below HB2.out)).trans ⟨rfl, rfl, rfl, Nat.le_refl _, fun _ _ _ => rfl⟩; rintro e w' ⟨rfl, rfl⟩))
          go_wp2
          go_region_with (first | (go_at_call 62; refine (CC.out _ (ext HB2.out (by go_grown))).mono ?_; rintro e w3 ⟨co, ccap, rfl, ho3, hb3⟩; have HB3 : Hid (Below w2.heap.size w2 w3) := Lib.hid (ext (by go_grown) hb3); have HW3 : Hid (Below wr.heap.size wr w3) := Lib.hid (HB2.out.trans (HB3.out.mono HB2.out.size)); obtain ⟨t1, t2, t3, t4⟩ := HP.out w3 HW3.out; have kf3 : w3.frozen? ⟨g, k * 3 + 1, none⟩ = false := (World.frozen?_of_block (a := ⟨g, k * 3 + 1, none⟩) (HW3.out.block g hgl)).trans kf1; have HO3 := Lib.hid (show w3.ownsRow w2.heap.size 5 1 (.slice co nn ccap) nn (bcells (ds.take nn)) from row_mono ho3 (Nat.le_refl _)); clear ho3 hb3))
          all_goals
            have hX4 := HSD.out w3 HW3.out (.slice co nn ccap) (ds.take nn) (by rw [HTL.out]; exact row_mono HO3.out (Nat.zero_le _))
            have HX4 := Lib.hid hX4
            clear hX4
            go_wp2
            go_roundw
            case rel =>
              refine ⟨k + 1, dv.set k (.slice co nn ccap), by omega, by go_num, by rw [HC2.out]; exact int_eq (by omega), by rw [HC1.out]; exact HX4.out, ?_, fun j hj => ?_⟩
              · exact (HK1.out.trans (Keep.of_below HW3.out)).trans (XKeep.body HVB.out _)
              · rcases xhas_dv (X := { X with dv := dv }) hj (N := w.heap.size) (fun j hj => Nat.le_trans (Nat.le_trans HK1.out.size HB2.out.size) (HO3.out.lt j hj).1) with h9 | h9
                · exact HN1.out j h9
                · exact .inr h9
            case measure => simp [intOf]; omega
      · have HE := Lib.hid (HSAME.out (.inl (by rw [HDL.out]; exact hs)))
        obtain rfl : mm = 0 := by rw [← HMM.out]; omega
        generalize bs.getD k 0 = b at *
        go_wp2
        go_region_held3 (fun w' => w'.cell? ⟨x, 1, none⟩ = some (.slice (some ⟨g, 0, none⟩) bn vbc) ∧ w'.cell? ⟨g, k * 3, none⟩ = some (.int .i64 (b : Int)) ∧ w'.cell? ⟨g, k * 3 + 1, none⟩ = some (.slice dao dl dcap) ∧ w'.cell? ⟨g, k * 3 + 2, none⟩ = some (.int .i64 (sf : Int)))
          (first | with_reducible exact SA.out | go_keep) (fail)
        go_wp2
        go_roundw
        case rel => exact ⟨k + 1, dv, by omega, by go_num, by rw [HE.out], by rw [HE.out]; exact HX1.out.stays fun _ _ => rfl, HK1.out.trans ⟨rfl, rfl, rfl, Nat.le_refl _, fun _ _ _ => rfl⟩, HN1.out⟩
        case measure => simp [intOf]; omega
    · obtain rfl : k = bn := by omega
      have hlen : (crashK picks D bs ns k).1.length = D.all.length := (HX.out.crashK picks k).2.1
      have HB1 := Lib.hid (show XP wr x { X with dv := dv } (cutD D (crashK picks D bs ns bs.length).1) bs ns from by rw [HBN.out]; exact HX1.out)
      obtain ⟨suo, sul, scap, hvu⟩ : ∃ suo sul scap, X.vu = .slice suo sul scap := by obtain ⟨a, c, e⟩ := rowShape H.out.sur; exact ⟨a, _, c, e⟩
      have c3 : wr.cell? ⟨x, 3, none⟩ = some (.slice suo sul scap) := (HX1.out.cell 3).trans (congrArg some hvu)
      have c4 : wr.cell? ⟨x, 4, none⟩ = some (.slice to m tcap) := (HX1.out.cell 4).trans (congrArg some HVT.out)
      have HSUR := Lib.hid (show NRow wr 0 (.slice suo sul scap) D.safe from by have h9 := HX1.out.sur; rw [← hvu]; exact h9)
      have HVU := Lib.hid hvu
      have s0 := HK1.out.size
      obtain ⟨wo, rfl⟩ : ∃ wo : World, wo = wr := ⟨_, rfl⟩
      clear hlen hvu
      go_wp2
      go_loopw [9, 10] (fun l i wr => ∃ (j : Nat), j ≤ kp ∧ i = .int .i64 (j : Int) ∧ NRow wr 0 l ((D.steps.take j).foldl actN D.safe) ∧ (∀ b, l.ownBlock = some b → X.has x b ∨ w.heap.size ≤ b) ∧ Below wo.heap.size wo wr) (fun _ i _ => kp - (intOf i).toNat)
      case atStart => exact ⟨0, Nat.zero_le _, rfl, HSUR.out, fun b hb => .inl (.inr (.inr (.inr (.inl (by rw [HVU.out]; exact hb))))), Below.refl _ _⟩
      case round =>
        obtain ⟨j, hj, rfl, hl, hlb, hb2⟩ := hrel
        obtain ⟨ll, hll⟩ : ∃ ll, ((D.steps.take j).foldl actN D.safe).length = ll := ⟨_, rfl⟩
        obtain ⟨lo, lc, rfl⟩ := hl.shapeN hll
        have HLL := Lib.hid hll
        clear hll
        have HL := Lib.hid hl
        have HLB := Lib.hid hlb
        have HB2 := Lib.hid hb2
        have d4 : wr.cell? ⟨x, 4, none⟩ = some (.slice to m tcap) := (hb2.cell (p := ⟨x, 4, none⟩) lx1).trans c4
        have d1 : wr.cell? ⟨x, 1, none⟩ = some (.slice vbo k vbc) := (hb2.cell (p := ⟨x, 1, none⟩) lx1).trans c1
        clear hl hlb hb2
        by_cases hlt2 : j < kp
        · have hjm : j < m := by omega
          obtain ⟨g, tc2, hvt2, hgl, e0, e1, e2, e3⟩ := (HX1.out.ext HB2.out).stepAt (D := cutD D (crashK picks D bs ns k).1) HM.out hjm
          have e9 := hvt2.symm.trans HVT.out
          simp only [Value.slice.injEq, true_and] at e9
          obtain ⟨rfl, rfl⟩ := e9
          have hjs : j < D.steps.length := by rw [HM.out]; exact hjm
          have HST := Lib.hid (crashN_step HX.out HI.out hjs)
          have hkd := (HI.out.runs.at hjs).1
          have hfn := HX.out.lt _ (HX.out.ann.at hjs).1
          have hcnt := HI.out.cnt
          have hsrt : Srt ((D.steps.take j).foldl actN D.safe) := Srt.acts _ HX.out.srtS
          have hlen2 : ((D.steps.take j).foldl actN D.safe).length ≤ 1000000 := by
            have h9 := length_acts (D.steps.take j) D.safe
            have h8 := HI.out.stp
            rw [List.length_take] at h9; omega
          have e0' : wr.cell? ⟨g, j * 4, none⟩ = some (.int .i64 (((D.steps.getD j ⟨0, [], [], 0⟩).kind : Int) + 1)) := e0
          have e1' : wr.cell? ⟨g, j * 4 + 1, none⟩ = some (.string ⟨(D.steps.getD j ⟨0, [], [], 0⟩).name.toArray⟩) := e1
          have e2' : wr.cell? ⟨g, j * 4 + 2, none⟩ = some (.string ⟨(D.steps.getD j ⟨0, [], [], 0⟩).to.toArray⟩) := e2
          have CD := Lib.hid (fun wx v (hv : NRow wx 0 v ((D.steps.take j).foldl actN D.safe)) => done_any v _ (D.steps.getD j ⟨0, [], [], 0⟩) (ns.getD j 0) 0 wx hv hsrt hlen2 (by omega) hkd)
          rw [HST.out] at CD
          unfold kstepV at CD
          clear hvt2 e0 e1 e2 hkd hfn hcnt hsrt hlen2 hjs
          generalize D.steps.getD j ⟨0, [], [], 0⟩ = st at *
          obtain ⟨kd, nm, tt, fl⟩ := st
          simp only at e0' e1' e2' CD
          generalize ns.getD j 0 = no at *
          have i1 : (0 : Int) ≤ (j : Int) := by omega
          have i2 : (j : Int) < (m : Int) := by omega
          go_wp2_with (go_at_call 72; refine (CD.out _ _ (HL.out.ext (by go_grown))).mono ?_; rintro e w2 ⟨ao2, cap2, rfl, ho2, hb2⟩; have HO2 := Lib.hid ho2; have HB22 := Lib.hid (show Below wr.heap.size wr w2 from ext (by go_grown) hb2); clear ho2 hb2)
          go_wp2
          go_roundw
          case rel => exact ⟨j + 1, by omega, by go_num, HO2.out.mono (Nat.zero_le _), fun b hb => .inr (Nat.le_trans (Nat.le_trans s0 HB2.out.size) (HO2.out.lt b hb).1), ext HB2.out HB22.out⟩
          case measure => simp [intOf]; omega
        · obtain rfl : j = kp := by omega
          obtain ⟨L, hL⟩ : ∃ L, crashN D picks = L := ⟨_, rfl⟩
          have hcn : (D.steps.take j).foldl actN D.safe = L := by rw [← hL]; unfold crashN; rw [HM.out, HKP.out]
          rw [hcn] at HL HLL
          have HLN := Lib.hid hL
          have hll2 : ll ≤ 1000000 := by
            have h9 := length_acts (D.steps.take j) D.safe
            have h8 := HI.out.stp
            have h7 := HM.out
            have h6 := HLL.out
            rw [hcn, List.length_take] at h9; omega
          have HX2 := Lib.hid (HB1.out.ext HB2.out)
          have hs2 := HB2.out.size
          obtain ⟨w5, rfl⟩ : ∃ w5 : World, w5 = wr := ⟨_, rfl⟩
          have lx5 : x < w5.heap.size := HX2.out.blk.lt
          clear hcn hL c1 c3 c4 d4
          go_wp2
          go_loopw [11, 12] (fun o i wr => ∃ (i' : Nat), i' ≤ k ∧ i = .int .i64 (i' : Int) ∧ wr.ownsRow w5.heap.size 116 3 o (keptN L bs i').length (bodycells (crashD D picks) (keptN L bs i') (keptV L bs dv i')) ∧ Below w5.heap.size w5 wr) (fun _ i _ => k - (intOf i).toNat)
          case atStart => exact ⟨0, Nat.zero_le _, rfl, World.ownsRow_nil _ _ _ 3, Below.refl _ _⟩
          case round =>
            obtain ⟨i, hi, rfl, ho, hb3⟩ := hrel
            obtain ⟨ol, hol⟩ : ∃ ol, (keptN L bs i).length = ol := ⟨_, rfl⟩
            rw [hol] at ho
            obtain ⟨oo, oc, rfl⟩ := rowShape ho
            have hol2 : ol ≤ k := by rw [← hol]; unfold keptN; rw [List.length_map]; exact Nat.le_trans (keptI_le _ _ _) hi
            have HO := Lib.hid ho
            have HOL := Lib.hid hol
            have HB3 := Lib.hid hb3
            have f1 : wr.cell? ⟨x, 1, none⟩ = some (.slice vbo k vbc) := (hb3.cell (p := ⟨x, 1, none⟩) lx5).trans d1
            have lxr : x < wr.heap.size := Nat.lt_of_lt_of_le lx5 hb3.size
            clear ho hol hb3
            by_cases hlt3 : i < k
            · have hX6 := HX2.out.ext HB3.out
              obtain ⟨g, cap, hvb, hgl, hgx, k0, k1, k2, kf⟩ := hX6.bodyAt HBN.out hlt3
              have e9 := HVB.out.symm.trans hvb
              simp only [Value.slice.injEq, true_and] at e9
              obtain ⟨rfl, rfl⟩ := e9
              have hil : i < bs.length := by rw [HBN.out]; exact hlt3
              obtain ⟨dao, dcap, hdv⟩ := rowShape (hX6.dat i hil)
              have HCA := Lib.hid (fun hb => HX.out.cut_all HI.out picks (bs.getD i 0) (HX.out.led_there HI.out picks hb))
              rw [HLN.out] at HCA
              have HSN := Lib.hid (keptN_succ L bs i)
              have HSV := Lib.hid (keptV_succ L bs dv i)
              have hdv2 : dv.getD i .nilIface = .slice dao ((crashK picks D bs ns bs.length).1.getD (bs.getD i 0) DF.nought).data.length dcap := hdv
              have k1' : wr.cell? ⟨g, i * 3 + 1, none⟩ = some (.slice dao ((crashK picks D bs ns bs.length).1.getD (bs.getD i 0) DF.nought).data.length dcap) := k1.trans (congrArg some hdv2)
              rw [hdv2] at HSV
              generalize (crashK picks D bs ns bs.length).1.getD (bs.getD i 0) DF.nought = f at *
              obtain ⟨dl, hdl⟩ : ∃ dl, f.data.length = dl := ⟨_, rfl⟩
              rw [hdl] at k1' HSV
              have HDL := Lib.hid hdl
              generalize bs.getD i 0 = b at *
              have i1 : (0 : Int) ≤ (i : Int) := by omega
              have i2 : (i : Int) < (k : Int) := by omega
              have HP : Hid (∀ wx, Below wr.heap.size wr wx → wx.cell? ⟨x, 1, none⟩ = some (.slice (some ⟨g, 0, none⟩) k vbc) ∧ wx.cell? ⟨g, i * 3, none⟩ = some (.int .i64 (b : Int)) ∧ wx.cell? ⟨g, i * 3 + 1, none⟩ = some (.slice dao dl dcap)) := fun wx hb => ⟨(hb.cell (p := ⟨x, 1, none⟩) lxr).trans f1, (hb.cell (p := ⟨g, i * 3, none⟩) hgl).trans k0, (hb.cell (p := ⟨g, i * 3 + 1, none⟩) hgl).trans k1'⟩
              have HLR := Lib.hid (HL.out.ext HB3.out)
              obtain ⟨w6, rfl⟩ : ∃ w6 : World, w6 = wr := ⟨_, rfl⟩
              clear k0 k1 k1' k2 kf hdv hdv2 hX6 hdl hvb f1 d1
              have f1 := (HP.out w6 (Below.refl _ _)).1
              go_wp2
              clear f1
              go_loopw [13, 14] (fun led t wr => ∃ (t' : Nat), t' ≤ ll ∧ t = .int .i64 (t' : Int) ∧ led = .bool (ledB (L.take t') b) ∧ Below w6.heap.size w6 wr) (fun _ t _ => ll - (intOf t).toNat)
              case atStart => exact ⟨0, Nat.zero_le _, rfl, by rw [List.take_zero]; rfl, Below.refl _ _⟩
              case round =>
                obtain ⟨t, ht, rfl, rfl, hb4⟩ := hrel
                have HB4 := Lib.hid hb4
                obtain ⟨f1, f2, f3⟩ := HP.out wr hb4
                clear hb4
                by_cases hlt4 : t < ll
                · have hls := ledB_succ L b (t := t) (by rw [HLL.out]; exact hlt4)
                  have HLS := Lib.hid hls
                  obtain ⟨gl, rfl, -, hgl2, -, l0, l1⟩ := (HLR.out.ext HB4.out).cellAt HLL.out hlt4
                  have i3 : (0 : Int) ≤ (t : Int) := by omega
                  have i4 : (t : Int) < (ll : Int) := by omega
                  clear hls l0
                  generalize (L.getD t ([], 0)).2 = v at *
                  obtain ⟨led, hled⟩ : ∃ led, ledB (L.take t) b = led := ⟨_, rfl⟩
                  rw [hled] at HLS ⊢
                  clear hled
                  cases led with
                  | true =>
                    have HL2 : Hid (ledB (L.take (t + 1)) b = true) := by show _ = _; rw [HLS.out]; rfl
                    go_wp2
                    go_quiet (fail)
                    go_wp2
                    go_roundw
                    case rel => exact ⟨t + 1, by omega, by go_num, by rw [HL2.out], by first | exact HB4.out | exact HB4.out.drew | exact below_drewN' HB4.out _⟩
                    case measure => simp [intOf]; omega
                  | false =>
                    by_cases hvb : v = b
                    · have HL2 : Hid (ledB (L.take (t + 1)) b = true) := by show _ = _; rw [HLS.out, hvb]; simp
                      subst hvb
                      have q : ((v : Int) == (v : Int)) = true := by simp
                      have SA := Lib.hid (show wr.drew.cell? ⟨x, 1, none⟩ = some (.slice (some ⟨g, 0, none⟩) k vbc) ∧ wr.drew.cell? ⟨g, i * 3, none⟩ = some (.int .i64 (v : Int)) ∧ wr.drew.cell? ⟨gl, t * 2 + 1, none⟩ = some (.int .i64 (v : Int)) from ⟨f1, f2, l1⟩)
                      go_wp2
                      go_region_held3 (fun w' => w'.cell? ⟨x, 1, none⟩ = some (.slice (some ⟨g, 0, none⟩) k vbc) ∧ w'.cell? ⟨g, i * 3, none⟩ = some (.int .i64 (v : Int)) ∧ w'.cell? ⟨gl, t * 2 + 1, none⟩ = some (.int .i64 (v : Int))) (first | with_reducible exact SA.out | go_keep) (fail)
                      go_wp2
                      go_roundw
                      case rel => exact ⟨t + 1, by omega, by go_num, by rw [HL2.out], by first | exact HB4.out | exact HB4.out.drew | exact below_drewN' HB4.out _⟩
                      case measure => simp [intOf]; omega
                    · have q : ((v : Int) == (b : Int)) = false := by
                        have : ¬ (v : Int) = (b : Int) := by omega
                        simpa using this
                      have q2 : ¬ (v : Int) = (b : Int) := by omega
                      have q3 : (v == b) = false := by simpa using hvb
                      have HL2 : Hid (ledB (L.take (t + 1)) b = false) := by show _ = _; rw [HLS.out, q3]; rfl
                      have SA := Lib.hid (show wr.drew.cell? ⟨x, 1, none⟩ = some (.slice (some ⟨g, 0, none⟩) k vbc) ∧ wr.drew.cell? ⟨g, i * 3, none⟩ = some (.int .i64 (b : Int)) ∧ wr.drew.cell? ⟨gl, t * 2 + 1, none⟩ = some (.int .i64 (v : Int)) from ⟨f1, f2, l1⟩)
                      go_wp2
                      go_region_held3 (fun w' => w'.cell? ⟨x, 1, none⟩ = some (.slice (some ⟨g, 0, none⟩) k vbc) ∧ w'.cell? ⟨g, i * 3, none⟩ = some (.int .i64 (b : Int)) ∧ w'.cell? ⟨gl, t * 2 + 1, none⟩ = some (.int .i64 (v : Int))) (first | with_reducible exact SA.out | go_keep) (fail)
                      go_wp2
                      go_roundw
                      case rel => exact ⟨t + 1, by omega, by go_num, by rw [HL2.out], by first | exact HB4.out | exact HB4.out.drew | exact below_drewN' HB4.out _⟩
                      case measure => simp [intOf]; omega
                · obtain rfl : t = ll := by omega
                  have htk : L.take t = L := by rw [← HLL.out]; exact List.take_length
                  rw [htk]
                  clear htk
                  have HOW := Lib.hid (row_ext HO.out HB4.out)
                  obtain ⟨led, hled⟩ : ∃ led, ledB L b = led := ⟨_, rfl⟩
                  rw [hled] at HSN HSV HCA ⊢
                  clear hled
                  cases led with
                  | false =>
                    have HN2 : Hid (keptN L bs (i + 1) = keptN L bs i) := by have h9 := HSN.out; rw [if_neg (by simp)] at h9; exact h9
                    have HV2 : Hid (keptV L bs dv (i + 1) = keptV L bs dv i) := by have h9 := HSV.out; rw [if_neg (by simp)] at h9; exact h9
                    go_wp2
                    go_roundw
                    case rel => exact ⟨i + 1, by omega, by go_num, by rw [HN2.out, HV2.out, HOL.out]; exact HOW.out, HB3.out.trans (HB4.out.mono HB3.out.size)⟩
                    case measure => simp [intOf]; omega
                  | true =>
                    have HN2 : Hid (keptN L bs (i + 1) = keptN L bs i ++ [b]) := by have h9 := HSN.out; rw [if_pos rfl] at h9; exact h9
                    have HV2 : Hid (keptV L bs dv (i + 1) = keptV L bs dv i ++ [.slice dao dl dcap]) := by have h9 := HSV.out; rw [if_pos rfl] at h9; exact h9
                    have HSF : Hid (((crashD D picks).file b).safe = dl) := by show _ = _; rw [HCA.out rfl]; exact HDL.out
                    have g5 : g < w5.heap.size := HX2.out.lt (.inr (.inl (by show X.vb.ownBlock = some g; rw [HVB.out]; rfl)))
                    have hw56 := HB3.out.size
                    have hw6 := HB4.out.size
                    have h55 : w5.heap.size ≤ wr.heap.size := Nat.le_trans hw56 hw6
                    have SA : Hid (wr.drew.cell? ⟨x, 1, none⟩ = some (.slice (some ⟨g, 0, none⟩) k vbc) ∧ wr.drew.cell? ⟨g, i * 3, none⟩ = some (.int .i64 (b : Int)) ∧ wr.drew.cell? ⟨g, i * 3 + 1, none⟩ = some (.slice dao dl dcap)) := ⟨f1, f2, f3⟩
                    have SB : Hid (∀ (cs : Array Value) (T : Nat), (wr.alloc (.cells cs T)).drew.cell? ⟨x, 1, none⟩ = some (.slice (some ⟨g, 0, none⟩) k vbc) ∧ (wr.alloc (.cells cs T)).drew.cell? ⟨g, i * 3, none⟩ = some (.int .i64 (b : Int)) ∧ (wr.alloc (.cells cs T)).drew.cell? ⟨g, i * 3 + 1, none⟩ = some (.slice dao dl dcap)) := fun cs T => HP.out _ (HB4.out.alloc hw6 _).drew
                    go_wp2
                    go_region_held3 (fun w' => w'.cell? ⟨x, 1, none⟩ = some (.slice (some ⟨g, 0, none⟩) k vbc) ∧ w'.cell? ⟨g, i * 3, none⟩ = some (.int .i64 (b : Int)) ∧ w'.cell? ⟨g, i * 3 + 1, none⟩ = some (.slice dao dl dcap))
                      (first | with_reducible exact SA.out | with_reducible exact SB.out _ _ | with_reducible exact SE.out)
                      (first
                        | (refine step_row1 77 116 3 40 _ Tryz.underlying77 infoBody rfl (by decide) (by rfl) _ _ (by rfl) wr w5.heap.size (.slice oo ol oc) ol (bodycells (crashD D picks) (keptN L bs i) (keptV L bs dv i)) [.int .i64 (b : Int), .slice dao dl dcap, .int .i64 (dl : Int)] (by rfl) HOW.out _ (by rfl) (heap_alloc_new wr _) ((Below.refl _ _).alloc (Nat.le_refl _) _).drew (by rfl) (by intro u hu; simp at hu; rcases hu with rfl | rfl | rfl <;> rfl) (by omega) (by decide) h55 ?_; intro g7 cap7 w7 hown7 hb7 hg7 hlt7; have HO7 := Lib.hid hown7; have HB7 := Lib.hid hb7; have SE : Hid (w7.cell? ⟨x, 1, none⟩ = some (.slice (some ⟨g, 0, none⟩) k vbc) ∧ w7.cell? ⟨g, i * 3, none⟩ = some (.int .i64 (b : Int)) ∧ w7.cell? ⟨g, i * 3 + 1, none⟩ = some (.slice dao dl dcap)) := ⟨(hb7.cell (p := ⟨x, 1, none⟩) lx5).trans f1, (hb7.cell (p := ⟨g, i * 3, none⟩) g5).trans f2, (hb7.cell (p := ⟨g, i * 3 + 1, none⟩) g5).trans f3⟩; clear hown7 hb7 hg7 hlt7))
                    all_goals
                      clear SA SB SE
                      go_wp2
                      go_roundw
                      case rel =>
                        refine ⟨i + 1, by omega, by go_num, ?_, (HB3.out.trans (HB4.out.mono HB3.out.size)).trans HB7.out⟩
                        rw [HN2.out, HV2.out, bodycells_snoc _ _ _ (keptN_len _ _ _ _), HSF.out, List.length_append, List.length_singleton, HOL.out]
                        exact HO7.out
                      case measure => simp [intOf]; omega
            · obtain rfl : i = k := by omega
              have HX6 := Lib.hid (HX2.out.ext HB3.out)
              have t2 := HX6.out.cell 2
              have t3 := HX6.out.cell 3
              have t4 := HX6.out.cell 4
              have t6 := HX6.out.cell 6
              have t7 := HX6.out.cell 7
              have t8 := HX6.out.cell 8
              have z1 := HX6.out.free 1
              have z2 := HX6.out.free 2
              have z3 := HX6.out.free 3
              have z4 := HX6.out.free 4
              have z6 := HX6.out.free 6
              have z7 := HX6.out.free 7
              have z8 := HX6.out.free 8
              simp only [xcells, List.getElem?_toArray, List.getElem?_cons_zero, List.getElem?_cons_succ] at t2 t3 t4 t6 t7 t8
              go_wp2
              go_end0
              have hlen : (crashK picks D bs ns bs.length).1.length = D.all.length := (HX.out.crashK picks bs.length).2.1
              have ex : xcells ⟨.slice oo ol oc, .slice lo ll lc, .slice lo ll lc, .slice none 0 0, keptV L bs dv bs.length⟩ (crashD D picks) = (((((((xcells { X with dv := dv } (cutD D (crashK picks D bs ns bs.length).1)).setIfInBounds 1 (.slice oo ol oc)).setIfInBounds 2 (.slice lo ll lc)).setIfInBounds 3 (.slice lo ll lc)).setIfInBounds 4 (.slice none 0 0)).setIfInBounds 7 (.bool false)).setIfInBounds 6 (.int .i64 0)).setIfInBounds 8 (.int .i64 0) := by
                simp [xcells, crashD, cutD, length_cutTo, hlen]
              have hB9 := ((((((HX6.out.blk.set 1 (.slice oo ol oc)).set 2 (.slice lo ll lc)).set 3 (.slice lo ll lc)).set 4 (.slice none 0 0)).set 7 (.bool false)).set 6 (.int .i64 0)).set 8 (.int .i64 0)
              rw [← ex] at hB9
              have hlk : NRow wr 0 (.slice lo ll lc) L := HL.out.ext HB3.out
              have hrow := HO.out
              rw [← HOL.out] at hrow
              rw [show i = bs.length from HBN.out.symm] at hrow
              rw [← HLN.out] at hrow hlk hB9
              have hfin := XP.crashed (vb := .slice oo ol oc) (vl := .slice lo ll lc) HX.out HI.out HB1.out (HB2.out.trans (HB3.out.mono HB2.out.size)) hB9 (fun j hj => by rw [set_other _ _ _ _ j hj, set_other _ _ _ _ j hj, set_other _ _ _ _ j hj, set_other _ _ _ _ j hj, set_other _ _ _ _ j hj, set_other _ _ _ _ j hj, set_other _ _ _ _ j hj]) (by have h9 := hrow; rw [HBN.out, HLN.out, HOL.out] at h9 ⊢; exact row_mono h9 (Nat.zero_le _)) hlk
              refine ⟨rfl, _, hfin, fun j hj => ?_, ?_⟩
              · rcases hj with hj | hj | hj | hj | hj | ⟨t, ht, hj⟩
                · exact .inl (.inl hj)
                · exact .inr (Nat.le_trans (Nat.le_trans s0 hs2) (HO.out.lt j hj).1)
                · exact HLB.out j hj
                · exact HLB.out j hj
                · simp [Value.ownBlock] at hj
                · have ht2 : t < (keptN (crashN D picks) bs bs.length).length := by rw [← keptN_len _ _ dv]; exact ht
                  obtain ⟨t', ht', -, e2, -⟩ := kept_at (crashN D picks) bs dv bs.length ht2
                  have hj2 : ((keptV (crashN D picks) bs dv bs.length).getD t .nilIface).ownBlock = some j := hj
                  rw [e2] at hj2
                  exact HN1.out j (.inr (.inr (.inr (.inr (.inr ⟨t', by show t' < dv.length; have := HX1.out.len; simp only at this; rw [this]; exact ht', hj2⟩)))))
              · have hK5 : Keep (X.has x) w wr := HK1.out.trans (Keep.of_below (HB2.out.trans (HB3.out.mono HB2.out.size)))
                exact ((((((hK5.trans (XKeep.self (grown_set _ _ _ _))).trans (XKeep.self (grown_set _ _ _ _))).trans (XKeep.self (grown_set _ _ _ _))).trans (XKeep.self (grown_set _ _ _ _))).trans (XKeep.self (grown_set _ _ _ _))).trans (XKeep.self (grown_set _ _ _ _))).trans (XKeep.self (grown_set _ _ _ _))
end

/-! kinlaw5.Does: contract. -/
section
open Go.RowKit Go.Extern.Stop Go.Stop Go.Extern

def playD (D : DS) (o : OpP) : DS := if o.kind = 9 then growD D o.n else actD D o
theorem Inv.play {D : DS} {T : Nat} (h : Inv D T) (o : OpP) (hn : in64 o.n) : Inv (playD D o) (T + 3) := by
  unfold playD
  split
  · exact h.growD _
  · exact h.act o hn
set_option maxRecDepth 100000 in
set_option maxHeartbeats 4000000 in
theorem does_writes (W : World) (p x : Nat) (L : Lay) (X : XLay) (D D2 : DS) (bs ns : List Nat) (kd n : Int) (a t b : Bs) (pk : List Int) (vb vp : Value) (w : World) (h : Beside W p x L X D D bs ns w) (hk : kd = 0 ∨ kd = 1 ∨ kd = 2 ∨ kd = 3 ∨ kd = 4 ∨ kd = 5)
    (hw : ∀ w', Beside W p x L X D D bs ns w' → Calls Tryz.prog 43 #[.pointer (some ⟨p, 0, none⟩), .pointer (some ⟨x, 0, none⟩), opV ⟨kd, n, a, t, b, pk⟩ vb vp] w' (PlayPost W p x D2)) :
    Calls Tryz.prog 19 #[.pointer (some ⟨p, 0, none⟩), .pointer (some ⟨x, 0, none⟩), opV ⟨kd, n, a, t, b, pk⟩ vb vp] w (PlayPost W p x D2) := by
  have HH := Lib.hid h
  have CW := Lib.hid hw
  clear h hw
  unfold opV at CW ⊢
  simp only at CW ⊢
  rcases hk with rfl | rfl | rfl | rfl | rfl | rfl
  all_goals
    go_enter Tryz.func19, Tryz.ntmps19
    go_wp2_with (go_at_call 43; refine (CW.out _ (HH.out.ext (by go_grown))).mono ?_; rintro e w1 ⟨rfl, hq⟩; have HQ := Lib.hid hq; clear hq)
    go_returns
    exact ⟨by first | rfl | (simp; done), HQ.out⟩
set_option maxRecDepth 100000 in
set_option maxHeartbeats 2000000 in
theorem does_read (W : World) (p x : Nat) (L : Lay) (X : XLay) (D : DS) (bs ns : List Nat) (n : Int) (a t b : Bs) (pk : List Int) (vb vp : Value) (T : Nat) (w : World) (h : Beside W p x L X D D bs ns w) (hI : Inv D T) (hT : T ≤ 100000) (hX : XI D bs ns) (hg : TypeIs W) (ha : a.length ≤ maxLen) :
    Calls Tryz.prog 19 #[.pointer (some ⟨p, 0, none⟩), .pointer (some ⟨x, 0, none⟩), opV ⟨6, n, a, t, b, pk⟩ vb vp] w (PlayPost W p x D) := by
  obtain ⟨wa, hwa⟩ : ∃ wa, wa = w.alloc (.cells #[.int .i64 6, .int .i64 n, .string ⟨a.toArray⟩, .string ⟨t.toArray⟩, vb, vp] 34) := ⟨_, rfl⟩
  have TA := Lib.hid (show Beside W p x L X D D bs ns wa from by rw [hwa]; exact h.ext ((Below.refl _ _).alloc (Nat.le_refl _) _))
  have BO := Lib.hid (show Blk wa w.heap.size #[.int .i64 6, .int .i64 n, .string ⟨a.toArray⟩, .string ⟨t.toArray⟩, vb, vp] 34 from by rw [hwa]; exact Blk.new w _ _)
  have CD := Lib.hid (fun w' (hd : Stand W p L D w') => hd.read hI hT ha)
  have CX := Lib.hid (fun w' (hx : XP w' x X D bs ns) => xread_any x X D bs ns a T w' hx hI hT hX ha)
  have CS := Lib.hid (fun k w' (hw : Below W.heap.size W w') => same_any k w' (hg.ext hw))
  have CS := Lib.hid (CS.out (readE D a))
  have HXI := Lib.hid hX
  obtain ⟨bl, hbl⟩ : ∃ bl, (readV D a).length = bl := ⟨_, rfl⟩
  rw [hbl] at CD CX
  have HBL := Lib.hid hbl
  have CB := Lib.hid (fun w' v u (hv : BytesV w' v (readV D a)) (hu : BytesV w' u (readV D a)) => rbytes_any v u (readV D a) (readV D a) w' hv hu)
  have qe : (readV D a == readV D a) = true := by simp
  rw [qe] at CB
  have HR : Hid (∀ w' B v, w'.ownsRow B 5 1 v bl (bcells (readV D a)) → BytesV w' v (readV D a)) := fun w' B v hr => bytes_of_rowB (B := B) (by rw [hbl]; exact hr)
  clear h hI hX hg ha qe hbl
  unfold opV
  generalize readE D a = k at *
  unfold errX at CX
  go_enter Tryz.func19, Tryz.ntmps19
  go_wp2_with (first
    | (go_at_call 44; rw [← hwa]; refine (CD.out _ TA.out.stand).mono ?_; rintro e w1 ⟨ao1, cap1, rfl, -, hh1, -, hb1⟩; have T1 := Lib.hid (TA.out.ext hb1); have R1 := Lib.hid hh1.bytes; have B1 := Lib.hid (BO.out.ext hb1); have d2 : w1.cell? ⟨w.heap.size, 2, none⟩ = some (.string ⟨a.toArray⟩) := B1.out.cell 2; clear hh1 hb1)
    | (go_at_call 45; refine (CX.out _ T1.out.xp).mono ?_; rintro e w2 ⟨ao2, cap2, rfl, hr2, hb2⟩; have T2 := Lib.hid (T1.out.ext hb2); have R1b := Lib.hid (R1.out.ext hb2); have R2 := Lib.hid (HR.out _ _ _ hr2); clear hr2 hb2)
    | (go_at_call 33; refine (CB.out _ _ _ (R1b.out.ext (by go_grown)) (R2.out.ext (by go_grown))).mono ?_; rintro e w' ⟨rfl, rfl⟩)
    | (go_at_call 16; refine (CS.out _ (T2.out.below.trans (Below.mono (B := w2.heap.size) (by go_grown) T2.out.below.size))).mono ?_; rintro e w5 ⟨rfl, hb5⟩; have T5 := Lib.hid (T2.out.ext (ext (by go_grown) hb5)); clear hb5))
  go_returns
  exact ⟨by first | rfl | (simp; done), L, X, _, _, T5.out, HXI.out⟩
set_option maxRecDepth 100000 in
set_option maxHeartbeats 2000000 in
theorem does_arm (W : World) (p x : Nat) (L : Lay) (X : XLay) (D : DS) (bs ns : List Nat) (n : Int) (a t b : Bs) (pk : List Int) (vb vp : Value) (w : World) (h : Beside W p x L X D D bs ns w) (hX : XI D bs ns) :
    Calls Tryz.prog 19 #[.pointer (some ⟨p, 0, none⟩), .pointer (some ⟨x, 0, none⟩), opV ⟨7, n, a, t, b, pk⟩ vb vp] w (PlayPost W p x (armD D n)) := by
  obtain ⟨wa, hwa⟩ : ∃ wa, wa = w.alloc (.cells #[.int .i64 7, .int .i64 n, .string ⟨a.toArray⟩, .string ⟨t.toArray⟩, vb, vp] 34) := ⟨_, rfl⟩
  have TA := Lib.hid (show Beside W p x L X D D bs ns wa from by rw [hwa]; exact h.ext ((Below.refl _ _).alloc (Nat.le_refl _) _))
  have BO := Lib.hid (show Blk wa w.heap.size #[.int .i64 7, .int .i64 n, .string ⟨a.toArray⟩, .string ⟨t.toArray⟩, vb, vp] 34 from by rw [hwa]; exact Blk.new w _ _)
  have ho : Off p x L X w.heap.size := h.new_off (Nat.le_refl _)
  have hlt : w.heap.size < wa.heap.size := BO.out.lt
  have HXI := Lib.hid (hX.armD n)
  have CD := Lib.hid (fun w' (hd : DP w' p L D) => arm_any p L D n w' hd)
  have CX := Lib.hid (fun w' (hx : XP w' x X D bs ns) => xarm_any x X D bs ns n w' hx)
  clear h hX
  unfold opV
  generalize armD D n = D2 at *
  go_enter Tryz.func19, Tryz.ntmps19
  go_wp2_with (first
    | (go_at_call 27; rw [← hwa]; refine (CD.out _ TA.out.dp).mono ?_; rintro e w1 ⟨rfl, h1, hg1⟩; have T1 := Lib.hid (TA.out.dop h1 (fun _ hk => .inl hk) (Keep.self hg1)); have B1 := Lib.hid (BO.out.of_block ((Keep.self (L := L) hg1).block w.heap.size hlt ho.1)); have d1 : w1.cell? ⟨w.heap.size, 1, none⟩ = some (.int .i64 n) := B1.out.cell 1; clear h1 hg1)
    | (go_at_call 46; refine (CX.out _ T1.out.xp).mono ?_; rintro e w2 ⟨rfl, h2, hg2⟩; have T2 := Lib.hid (T1.out.xop h2 (fun _ hk => .inl hk) (XKeep.self hg2)); clear h2 hg2))
  go_returns
  exact ⟨by first | rfl | (simp; done), L, X, _, _, T2.out, HXI.out⟩
set_option maxRecDepth 100000 in
set_option maxHeartbeats 2000000 in
theorem does_crash (W : World) (p x : Nat) (L : Lay) (X : XLay) (D : DS) (bs ns : List Nat) (n : Int) (a t b : Bs) (pk : List Int) (vb vp : Value) (T : Nat) (w : World) (h : Beside W p x L X D D bs ns w) (hI : Inv D T) (hT : T ≤ 100000) (hX : XI D bs ns) (hu : Ints W vp pk) :
    Calls Tryz.prog 19 #[.pointer (some ⟨p, 0, none⟩), .pointer (some ⟨x, 0, none⟩), opV ⟨8, n, a, t, b, pk⟩ vb vp] w (PlayPost W p x (crashD D pk)) := by
  obtain ⟨wa, hwa⟩ : ∃ wa, wa = w.alloc (.cells #[.int .i64 8, .int .i64 n, .string ⟨a.toArray⟩, .string ⟨t.toArray⟩, vb, vp] 34) := ⟨_, rfl⟩
  have TA := Lib.hid (show Beside W p x L X D D bs ns wa from by rw [hwa]; exact h.ext ((Below.refl _ _).alloc (Nat.le_refl _) _))
  have BO := Lib.hid (show Blk wa w.heap.size #[.int .i64 8, .int .i64 n, .string ⟨a.toArray⟩, .string ⟨t.toArray⟩, vb, vp] 34 from by rw [hwa]; exact Blk.new w _ _)
  have ho : Off p x L X w.heap.size := h.new_off (Nat.le_refl _)
  have hlt : w.heap.size < wa.heap.size := BO.out.lt
  have HXI := Lib.hid (hX.crashD hI pk)
  have CD := Lib.hid (fun w' (hd : Beside W p x L X D D bs ns w') => crash_any p L D pk vp T w' hd.dp hI hT fun w2 hk => hu.ext (hd.below.trans (hk.below hd.own hd.below.size)))
  have CX := Lib.hid (fun w' L' D' (hd : Beside W p x L' X D' D bs ns w') => xcrash_any x X D bs ns pk vp T w' hd.xp hI hT hX fun w2 hk => hu.ext (hd.below.trans (hk.below hd.xown hd.below.size)))
  clear h hI hX hu
  unfold opV
  generalize crashD D pk = D2 at *
  go_enter Tryz.func19, Tryz.ntmps19
  go_wp2_with (first
    | (go_at_call 18; rw [← hwa]; refine (CD.out _ TA.out).mono ?_; rintro e w1 ⟨rfl, L1, h1, hn1, hk1⟩; have T1 := Lib.hid (TA.out.dop h1 hn1 hk1); have B1 := Lib.hid (BO.out.of_block (hk1.block w.heap.size hlt ho.1)); have d1 : w1.cell? ⟨w.heap.size, 5, none⟩ = some vp := B1.out.cell 5; clear h1 hn1 hk1)
    | (go_at_call 47; refine (CX.out _ _ _ T1.out).mono ?_; rintro e w2 ⟨rfl, X2, h2, hn2, hk2⟩; have T2 := Lib.hid (T1.out.xop h2 hn2 hk2); clear h2 hn2 hk2))
  go_returns
  exact ⟨by first | rfl | (simp; done), L1, X2, _, _, T2.out, HXI.out⟩
set_option maxRecDepth 100000 in
theorem does_else (W : World) (p x : Nat) (L : Lay) (X : XLay) (D : DS) (bs ns : List Nat) (kd n : Int) (a t b : Bs) (pk : List Int) (vb vp : Value) (w : World) (h : Beside W p x L X D D bs ns w) (hX : XI D bs ns) (hk : kd < 0 ∨ 9 < kd) :
    Calls Tryz.prog 19 #[.pointer (some ⟨p, 0, none⟩), .pointer (some ⟨x, 0, none⟩), opV ⟨kd, n, a, t, b, pk⟩ vb vp] w (PlayPost W p x D) := by
  have HH := Lib.hid h
  have HXI := Lib.hid hX
  have q0 : (kd == 0) = false := by simp; omega
  have q1 : (kd == 1) = false := by simp; omega
  have q2 : (kd == 2) = false := by simp; omega
  have q3 : (kd == 3) = false := by simp; omega
  have q4 : (kd == 4) = false := by simp; omega
  have q5 : (kd == 5) = false := by simp; omega
  have q6 : (kd == 6) = false := by simp; omega
  have q7 : (kd == 7) = false := by simp; omega
  have q8 : (kd == 8) = false := by simp; omega
  have q9 : (kd == 9) = false := by simp; omega
  clear h hX hk
  unfold opV
  go_enter Tryz.func19, Tryz.ntmps19
  go_wp2
  go_returns
  exact ⟨by first | rfl | (simp; done), L, X, _, _, HH.out.ext (by go_grown), HXI.out⟩
theorem doesop_any (W : World) (p x : Nat) (L : Lay) (X : XLay) (D : DS) (bs ns : List Nat) (o : OpP) (vb vp : Value) (T : Nat) (w : World) (h : Beside W p x L X D D bs ns w) (hI : Inv D T) (hT : T ≤ 100000) (hX : XI D bs ns) (hg : TypeIs W) (ha : o.name.length ≤ maxLen) (ht : o.to.length ≤ maxLen) (hu : BytesV W vb o.b) (hbb : o.b.length ≤ 1000000) (hp : Ints W vp o.picks) :
    Calls Tryz.prog 19 #[.pointer (some ⟨p, 0, none⟩), .pointer (some ⟨x, 0, none⟩), opV o vb vp] w (PlayPost W p x (playD D o)) := by
  obtain ⟨kd, n, a, t, b, pk⟩ := o
  simp only at ha ht hu hbb hp
  by_cases h0 : kd = 0
  · subst h0; exact does_writes W p x L X D _ bs ns 0 n a t b pk vb vp w h (by omega) fun w' h' => wr_create W p x L X D bs ns n a t b pk vb vp T w' h' hI hT hX hg ha ht
  by_cases h1 : kd = 1
  · subst h1; exact does_writes W p x L X D _ bs ns 1 n a t b pk vb vp w h (by omega) fun w' h' => wr_append W p x L X D bs ns n a t b pk vb vp T w' h' hI hT hX hg ha ht hu hbb
  by_cases h2 : kd = 2
  · subst h2; exact does_writes W p x L X D _ bs ns 2 n a t b pk vb vp w h (by omega) fun w' h' => wr_sync W p x L X D bs ns n a t b pk vb vp T w' h' hI hT hX hg ha ht
  by_cases h3 : kd = 3
  · subst h3; exact does_writes W p x L X D _ bs ns 3 n a t b pk vb vp w h (by omega) fun w' h' => wr_rename W p x L X D bs ns n a t b pk vb vp T w' h' hI hT hX hg ha ht
  by_cases h4 : kd = 4
  · subst h4; exact does_writes W p x L X D _ bs ns 4 n a t b pk vb vp w h (by omega) fun w' h' => wr_remove W p x L X D bs ns n a t b pk vb vp T w' h' hI hT hX hg ha ht
  by_cases h5 : kd = 5
  · subst h5; exact does_writes W p x L X D _ bs ns 5 n a t b pk vb vp w h (by omega) fun w' h' => wr_sdir W p x L X D bs ns n a t b pk vb vp T w' h' hI hT hX hg ha ht
  by_cases h6 : kd = 6
  · subst h6; exact does_read W p x L X D bs ns n a t b pk vb vp T w h hI hT hX hg ha
  by_cases h7 : kd = 7
  · subst h7; exact does_arm W p x L X D bs ns n a t b pk vb vp w h hX
  by_cases h8 : kd = 8
  · subst h8; exact does_crash W p x L X D bs ns n a t b pk vb vp T w h hI hT hX hp
  by_cases h9 : kd = 9
  · subst h9; exact does_grow W p x L X D bs ns n a t b pk vb vp T w h hI hT hX hg ha ht
  have e : playD D ⟨kd, n, a, t, b, pk⟩ = D := by simp [playD, actD, h0, h1, h2, h3, h4, h5, h7, h8, h9]
  rw [e]
  exact does_else W p x L X D bs ns kd n a t b pk vb vp w h hX (by omega)
end

/-! kinref5: Files: contract. -/
section
open Go.RowKit Go.Extern.Stop Go.Stop Go.Extern

set_option maxRecDepth 100000 in
set_option maxHeartbeats 4000000 in
theorem xfiles_any (x : Nat) (X : XLay) (D : DS) (bs ns : List Nat) (T : Nat) (w : World) (h : XP w x X D bs ns) (hI : Inv D T) (hT : T ≤ 100000) (hX : XI D bs ns) :
    Calls Tryz.prog 50 #[.pointer (some ⟨x, 0, none⟩)] w (FilesPost D w) := by
  have H := Lib.hid h
  have HI := Lib.hid hI
  have HX := Lib.hid hX
  have HKE := Lib.hid (filesX_eq hX.srtN)
  obtain ⟨no', ncap, hvn⟩ := rowShape h.nam
  obtain ⟨n, hn⟩ : ∃ n, D.names.length = n := ⟨_, rfl⟩
  obtain ⟨bn, hbn⟩ : ∃ bn, bs.length = bn := ⟨_, rfl⟩
  rw [hn] at hvn
  have hn1 : n ≤ 100000 := by have := hI.nam; omega
  have hbn1 : bn ≤ 100000 := by have := bs_len hX.asc hX.lt; have := hI.cnt; omega
  have c2 : w.cell? ⟨x, 2, none⟩ = some (.slice no' n ncap) := (h.cell 2).trans (congrArg some hvn)
  have lx := h.blk.lt
  have HNR := Lib.hid (show NRow w 0 (.slice no' n ncap) D.names from hvn ▸ h.nam)
  have HN := Lib.hid hn
  have HBN := Lib.hid hbn
  have HTK := Lib.hid (show (filesX D).take n = filesX D from by rw [← hn, ← length_filesX]; exact List.take_length)
  unfold FilesPost
  rw [← HKE.out]
  clear h hI hX hvn hn hbn
  go_enter Tryz.func50, Tryz.ntmps50
  go_wp2
  go_loopw [3, 4] (fun o i wr => ∃ k : Nat, k ≤ n ∧ i = .int .i64 (k : Int) ∧ OwnFs wr w.heap.size o ((filesX D).take k) ∧ Below w.heap.size w wr) (fun _ i _ => n - (intOf i).toNat)
  case atStart => exact ⟨0, Nat.zero_le _, rfl, by rw [List.take_zero]; exact OwnFs.nil _ _, Below.refl _ _⟩
  case round =>
    obtain ⟨k, hk, rfl, hown, hb⟩ := hrel
    have htl : ((filesX D).take k).length = k := by rw [List.length_take, length_filesX, HN.out]; exact Nat.min_eq_left hk
    obtain ⟨oo, ocap, rfl⟩ := hown.shapeN htl
    have HO := Lib.hid hown
    have HTL := Lib.hid htl
    have e2 : wr.cell? ⟨x, 2, none⟩ = some (.slice no' n ncap) := (hb.cell (p := ⟨x, 2, none⟩) lx).trans c2
    clear hown htl c2
    by_cases hlt : k < n
    · have HT1 := Lib.hid (filesX_succ D (k := k) (by rw [HN.out]; exact hlt))
      obtain ⟨g, rfl, -, hglw, hcap, d0w, d1w⟩ := HNR.out.cellAt HN.out hlt
      have d0 := (hb.cell (p := ⟨g, k * 2, none⟩) hglw).trans d0w
      have d1 := (hb.cell (p := ⟨g, k * 2 + 1, none⟩) hglw).trans d1w
      have hgl : g < wr.heap.size := Nat.lt_of_lt_of_le hglw hb.size
      clear d0w d1w
      have hmem : D.names.getD k ([], 0) ∈ D.names := by rw [List.getD_eq_getElem?_getD, List.getElem?_eq_getElem (by rw [HN.out]; exact hlt)]; exact List.getElem_mem _
      obtain ⟨kb, hkb, hbv, hbne⟩ := bs_at HX.out.asc (HX.out.valN _ hmem)
      have hvlt := HX.out.lt _ (HX.out.valN _ hmem)
      have hcnt := HI.out.cnt
      have hdl := (HI.out.file (D.names.getD k ([], 0)).2)
      generalize D.names.getD k ([], 0) = p at *
      obtain ⟨nm, v⟩ := p
      simp only at d0 d1 hbv hbne hdl hvlt HT1
      have CB := Lib.hid (fun w' (hb' : Below wr.heap.size wr w') => xbody_any x X D bs ns kb v w' ((H.out.ext hb).ext (by have := hb.size; exact hb')) (by rw [HBN.out]; omega) hkb hbv hbne)
      obtain ⟨g2, bcap, hvb, hgl2, -, b0, b1, b2, -⟩ := (H.out.ext hb).bodyAt HBN.out (by rw [← HBN.out]; exact hkb)
      obtain ⟨dao, dcap, hdv⟩ := rowShape ((H.out.ext hb).dat kb hkb)
      have HOW0 := (H.out.ext hb).dat kb hkb
      rw [hbv] at hdv HOW0 b0 b2
      obtain ⟨xs, hxs⟩ : ∃ xs, (D.file v).data = xs := ⟨_, rfl⟩
      obtain ⟨sf, hsf⟩ : ∃ sf, (D.file v).safe = sf := ⟨_, rfl⟩
      rw [hxs] at hdv hdl HT1 HOW0
      rw [hsf] at b2 hdl HT1
      obtain ⟨dl, hdl2⟩ : ∃ dl, xs.length = dl := ⟨_, rfl⟩
      have HDL := Lib.hid hdl2
      rw [hdv] at b1 HOW0
      rw [hdl2] at hdl b1
      have HOW := Lib.hid (show wr.ownsRow 0 5 1 (.slice dao dl dcap) xs.length (bcells xs) from by rw [hdl2] at HOW0 ⊢; exact HOW0)
      have CC := Lib.hid (fun wx (hb : Below wr.heap.size wr wx) => rcopy_any (.slice dao dl dcap) xs wx ((bytes_of_rowB HOW.out).ext hb) (by rw [HDL.out]; omega))
      rw [HDL.out] at CC
      have e1 : wr.cell? ⟨x, 1, none⟩ = some (.slice (some ⟨g2, 0, none⟩) bn bcap) := ((H.out.ext hb).cell 1).trans (congrArg some hvb)
      have lx2 : x < wr.heap.size := Nat.lt_of_lt_of_le lx hb.size
      have hkb2 : kb < bn := by rw [← HBN.out]; exact hkb
      have i1 : (0 : Int) ≤ (k : Int) := by omega
      have i2 : (k : Int) < (n : Int) := by omega
      have i3 : (0 : Int) ≤ (kb : Int) := by omega
      have i4 : (kb : Int) < (bn : Int) := by omega
      have HP : Hid (∀ wx, Below wr.heap.size wr wx → wx.cell? ⟨x, 1, none⟩ = some (.slice (some ⟨g2, 0, none⟩) bn bcap) ∧ wx.cell? ⟨x, 2, none⟩ = some (.slice (some ⟨g, 0, none⟩) n ncap) ∧ wx.cell? ⟨g, k * 2, none⟩ = some (.string ⟨nm.toArray⟩) ∧ wx.cell? ⟨g, k * 2 + 1, none⟩ = some (.int .i64 (v : Int)) ∧ wx.cell? ⟨g2, kb * 3, none⟩ = some (.int .i64 (v : Int)) ∧ wx.cell? ⟨g2, kb * 3 + 1, none⟩ = some (.slice dao dl dcap) ∧ wx.cell? ⟨g2, kb * 3 + 2, none⟩ = some (.int .i64 (sf : Int))) := fun wx hb' => ⟨(hb'.cell (p := ⟨x, 1, none⟩) lx2).trans e1, (hb'.cell (p := ⟨x, 2, none⟩) lx2).trans e2, (hb'.cell (p := ⟨g, k * 2, none⟩) hgl).trans d0, (hb'.cell (p := ⟨g, k * 2 + 1, none⟩) hgl).trans d1, (hb'.cell (p := ⟨g2, kb * 3, none⟩) hgl2).trans b0, (hb'.cell (p := ⟨g2, kb * 3 + 1, none⟩) hgl2).trans b1, (hb'.cell (p := ⟨g2, kb * 3 + 2, none⟩) hgl2).trans b2⟩
      have HB := Lib.hid hb
      clear hmem hbv hbne hvlt hcnt hvb hdv hkb HOW0 d0 d1 b0 b1 b2 e1 hxs hsf hdl2
      have SA := Lib.hid (HP.out wr.drew (Below.refl _ _).drew)
      have SB : Hid (∀ (cs : Array Value), (wr.alloc (.cells cs 116)).drew.cell? ⟨x, 1, none⟩ = some (.slice (some ⟨g2, 0, none⟩) bn bcap) ∧ (wr.alloc (.cells cs 116)).drew.cell? ⟨x, 2, none⟩ = some (.slice (some ⟨g, 0, none⟩) n ncap) ∧ (wr.alloc (.cells cs 116)).drew.cell? ⟨g, k * 2, none⟩ = some (.string ⟨nm.toArray⟩) ∧ (wr.alloc (.cells cs 116)).drew.cell? ⟨g, k * 2 + 1, none⟩ = some (.int .i64 (v : Int)) ∧ (wr.alloc (.cells cs 116)).drew.cell? ⟨g2, kb * 3, none⟩ = some (.int .i64 (v : Int)) ∧ (wr.alloc (.cells cs 116)).drew.cell? ⟨g2, kb * 3 + 1, none⟩ = some (.slice dao dl dcap) ∧ (wr.alloc (.cells cs 116)).drew.cell? ⟨g2, kb * 3 + 2, none⟩ = some (.int .i64 (sf : Int))) := fun cs => HP.out _ ((Below.refl _ _).alloc (Nat.le_refl _) _).drew
      go_wp2
      go_region_held3 (fun w' => w'.cell? ⟨x, 1, none⟩ = some (.slice (some ⟨g2, 0, none⟩) bn bcap) ∧ w'.cell? ⟨x, 2, none⟩ = some (.slice (some ⟨g, 0, none⟩) n ncap) ∧ w'.cell? ⟨g, k * 2, none⟩ = some (.string ⟨nm.toArray⟩) ∧ w'.cell? ⟨g, k * 2 + 1, none⟩ = some (.int .i64 (v : Int)) ∧ w'.cell? ⟨g2, kb * 3, none⟩ = some (.int .i64 (v : Int)) ∧ w'.cell? ⟨g2, kb * 3 + 1, none⟩ = some (.slice dao dl dcap) ∧ w'.cell? ⟨g2, kb * 3 + 2, none⟩ = some (.int .i64 (sf : Int)))
        (first | with_reducible exact SA.out | with_reducible exact SB.out _ | with_reducible exact SC.out | with_reducible exact SD.out _ | with_reducible exact SE.out _ _ _)
        (first
          | (go_at_call 74; refine (CB.out _ (by first | exact ((Below.refl _ _).alloc (Nat.le_refl _) _).drew | exact (Below.refl _ _).drew)).mono ?_; rintro e w1 ⟨rfl, hb1⟩; have HB1 : Hid (Below wr.heap.size wr w1) := Lib.hid (by first | exact below_undrew hb1 | exact ext ((Below.refl _ _).alloc (Nat.le_refl _) _).drew hb1); have SC := Lib.hid (HP.out w1 HB1.out); have SD : Hid (∀ (cs : Array Value), (w1.alloc (.cells cs 116)).cell? ⟨x, 1, none⟩ = some (.slice (some ⟨g2, 0, none⟩) bn bcap) ∧ (w1.alloc (.cells cs 116)).cell? ⟨x, 2, none⟩ = some (.slice (some ⟨g, 0, none⟩) n ncap) ∧ (w1.alloc (.cells cs 116)).cell? ⟨g, k * 2, none⟩ = some (.string ⟨nm.toArray⟩) ∧ (w1.alloc (.cells cs 116)).cell? ⟨g, k * 2 + 1, none⟩ = some (.int .i64 (v : Int)) ∧ (w1.alloc (.cells cs 116)).cell? ⟨g2, kb * 3, none⟩ = some (.int .i64 (v : Int)) ∧ (w1.alloc (.cells cs 116)).cell? ⟨g2, kb * 3 + 1, none⟩ = some (.slice dao dl dcap) ∧ (w1.alloc (.cells cs 116)).cell? ⟨g2, kb * 3 + 2, none⟩ = some (.int .i64 (sf : Int))) := (fun cs => HP.out _ (HB1.out.alloc HB1.out.size _)); have SE : Hid (∀ (y0 y1 y2 : Value), (((w1.setCell ⟨wr.heap.size, 0, none⟩ y0).setCell ⟨wr.heap.size, 1, none⟩ y1).setCell ⟨wr.heap.size, 2, none⟩ y2).cell? ⟨x, 1, none⟩ = some (.slice (some ⟨g2, 0, none⟩) bn bcap) ∧ (((w1.setCell ⟨wr.heap.size, 0, none⟩ y0).setCell ⟨wr.heap.size, 1, none⟩ y1).setCell ⟨wr.heap.size, 2, none⟩ y2).cell? ⟨x, 2, none⟩ = some (.slice (some ⟨g, 0, none⟩) n ncap) ∧ (((w1.setCell ⟨wr.heap.size, 0, none⟩ y0).setCell ⟨wr.heap.size, 1, none⟩ y1).setCell ⟨wr.heap.size, 2, none⟩ y2).cell? ⟨g, k * 2, none⟩ = some (.string ⟨nm.toArray⟩) ∧ (((w1.setCell ⟨wr.heap.size, 0, none⟩ y0).setCell ⟨wr.heap.size, 1, none⟩ y1).setCell ⟨wr.heap.size, 2, none⟩ y2).cell? ⟨g, k * 2 + 1, none⟩ = some (.int .i64 (v : Int)) ∧ (((w1.setCell ⟨wr.heap.size, 0, none⟩ y0).setCell ⟨wr.heap.size, 1, none⟩ y1).setCell ⟨wr.heap.size, 2, none⟩ y2).cell? ⟨g2, kb * 3, none⟩ = some (.int .i64 (v : Int)) ∧ (((w1.setCell ⟨wr.heap.size, 0, none⟩ y0).setCell ⟨wr.heap.size, 1, none⟩ y1).setCell ⟨wr.heap.size, 2, none⟩ y2).cell? ⟨g2, kb * 3 + 1, none⟩ = some (.slice dao dl dcap) ∧ (((w1.setCell ⟨wr.heap.size, 0, none⟩ y0).setCell ⟨wr.heap.size, 1, none⟩ y1).setCell ⟨wr.heap.size, 2, none⟩ y2).cell? ⟨g2, kb * 3 + 2, none⟩ = some (.int .i64 (sf : Int))) := (fun y0 y1 y2 => HP.out _ (below_set (below_set (below_set HB1.out (Nat.le_refl _) _) (Nat.le_refl _) _) (Nat.le_refl _) _)); (try (have BN := (Blk.new wr #[.int .i64 0, .slice none 0 0, .int .i64 0] 116).ext (below_undrew hb1); have z0 := BN.cell 0; have z1 := BN.cell 1; have z2 := BN.cell 2; have zf0 := BN.free 0; have zf1 := BN.free 1; have zf2 := BN.free 2; simp only [List.getElem?_toArray, List.getElem?_cons_zero, List.getElem?_cons_succ] at z0 z1 z2)); clear hb1))
      all_goals clear SA SB SC SD SE
      all_goals
        first
          | (obtain ⟨w2, hw2⟩ : ∃ w2, (w1.alloc (.cells #[.int .i64 (v : Int), .slice dao dl dcap, .int .i64 (sf : Int)] 116)) = w2 := ⟨_, rfl⟩
             obtain ⟨N, hN⟩ : ∃ N, w1.heap.size = N := ⟨_, rfl⟩
             have HB2 : Below wr.heap.size wr w2 := by rw [← hw2]; exact HB1.out.alloc HB1.out.size _
             have B2 : Blk w2 N #[.int .i64 (v : Int), .slice dao dl dcap, .int .i64 (sf : Int)] 116 := by rw [← hw2, ← hN]; exact Blk.new w1 _ _
             have hN1 : wr.heap.size ≤ N := by rw [← hN]; exact HB1.out.size
             have hN2 : N < w2.heap.size := B2.lt
             rw [hw2, hN]
             clear hw2 hN)
          | (obtain ⟨w2, hw2⟩ : ∃ w2, (((w1.setCell ⟨wr.heap.size, 0, none⟩ (.int .i64 (v : Int))).setCell ⟨wr.heap.size, 1, none⟩ (.slice dao dl dcap)).setCell ⟨wr.heap.size, 2, none⟩ (.int .i64 (sf : Int))) = w2 := ⟨_, rfl⟩
             obtain ⟨N, hN⟩ : ∃ N, wr.heap.size = N := ⟨_, rfl⟩
             have HB2 : Below wr.heap.size wr w2 := by rw [← hw2]; exact below_set (below_set (below_set HB1.out (Nat.le_refl _) _) (Nat.le_refl _) _) (Nat.le_refl _) _
             have B2 : Blk w2 N #[.int .i64 (v : Int), .slice dao dl dcap, .int .i64 (sf : Int)] 116 := by rw [← hw2, ← hN]; exact ((BN.set 0 _).set 1 _).set 2 _
             have hN1 : wr.heap.size ≤ N := by rw [← hN]; exact Nat.le_refl _
             have hN2 : N < w2.heap.size := B2.lt
             rw [hw2, hN]
             clear hw2 hN)
      all_goals
        obtain ⟨ps, q1, q2, q3⟩ := HO.out
        have HON : Hid (∀ j, (Value.slice oo k ocap).ownBlock = some j → j < wr.heap.size) := fun j e => (q1.lt j e).2
        have q1' := row_ext q1 HB2
        rw [HTL.out] at q1'
        have Q1 := Lib.hid q1'
        have Q2 := Lib.hid q2
        have Q3 : Hid (∀ j, j < ((filesX D).take k).length → w2.ownsRow w.heap.size 5 1 (ps.getD j .nilIface) (((filesX D).take k).getD j FV.nought).data.length (bcells (((filesX D).take k).getD j FV.nought).data)) := fun j hj => row_ext (q3 j hj) HB2
        have hwr : w.heap.size ≤ wr.heap.size := HB.out.size
        have hB2 : w.heap.size ≤ w2.heap.size := Nat.le_trans hwr HB2.size
        have hs2 := HB2.size
        have HS : Hid (∀ wx, Below w2.heap.size w2 wx → wx.cell? ⟨x, 2, none⟩ = some (.slice (some ⟨g, 0, none⟩) n ncap) ∧ wx.cell? ⟨g, k * 2, none⟩ = some (.string ⟨nm.toArray⟩) ∧ wx.cell? ⟨N, 1, none⟩ = some (.slice dao dl dcap) ∧ wx.cell? ⟨N, 2, none⟩ = some (.int .i64 (sf : Int))) := fun wx hb => by
          obtain ⟨-, a2, a3, -⟩ := HP.out w2 HB2
          exact ⟨(hb.cell (p := ⟨x, 2, none⟩) (Nat.lt_of_lt_of_le lx2 hs2)).trans a2, (hb.cell (p := ⟨g, k * 2, none⟩) (Nat.lt_of_lt_of_le hgl hs2)).trans a3, (hb.cell (p := ⟨N, 1, none⟩) hN2).trans (B2.cell 1), (hb.cell (p := ⟨N, 2, none⟩) hN2).trans (B2.cell 2)⟩
        have HBW2 := Lib.hid HB2
        have SA := Lib.hid (HS.out w2.drew (Below.refl _ _).drew)
        have B2H := Lib.hid B2
        have CC2 := Lib.hid (fun wx (hb : Below w2.heap.size w2 wx) => CC.out wx (ext HBW2.out hb))
        clear q1 q1' q2 q3 e2 HB2 B2 HP CC CB
        go_wp2
        go_region_held3 (fun w' => w'.cell? ⟨x, 2, none⟩ = some (.slice (some ⟨g, 0, none⟩) n ncap) ∧ w'.cell? ⟨g, k * 2, none⟩ = some (.string ⟨nm.toArray⟩) ∧ w'.cell? ⟨N, 1, none⟩ = some (.slice dao dl dcap) ∧ w'.cell? ⟨N, 2, none⟩ = some (.int .i64 (sf : Int)))
          (first | with_reducible exact SA.out | with_reducible exact SC.out | with_reducible exact SD.out _ _ | with_reducible exact SE.out)
          (first
            | (go_at_call 62; refine (CC2.out _ (Below.refl _ _).drew).mono ?_; rintro e w3 ⟨co, ccap, rfl, ho3, hb3⟩; have G3 : Hid (Below w2.heap.size w2 w3) := Lib.hid (below_undrew hb3); have SC := Lib.hid (HS.out w3 G3.out); have SD : Hid (∀ (cs : Array Value) (T : Nat), (w3.alloc (.cells cs T)).cell? ⟨x, 2, none⟩ = some (.slice (some ⟨g, 0, none⟩) n ncap) ∧ (w3.alloc (.cells cs T)).cell? ⟨g, k * 2, none⟩ = some (.string ⟨nm.toArray⟩) ∧ (w3.alloc (.cells cs T)).cell? ⟨N, 1, none⟩ = some (.slice dao dl dcap) ∧ (w3.alloc (.cells cs T)).cell? ⟨N, 2, none⟩ = some (.int .i64 (sf : Int))) := (fun cs T => HS.out _ (G3.out.alloc G3.out.size _)); have HO3 := Lib.hid (show w3.ownsRow w.heap.size 5 1 (.slice co dl ccap) xs.length (bcells xs) from by rw [HDL.out]; exact row_mono ho3 hB2); clear ho3 hb3)
            | (refine step_row1 36 57 3 48 _ Tryz.underlying36 infoG rfl (by decide) (by rfl) _ _ (by rfl) w3 w.heap.size (.slice oo k ocap) k (gcells ((filesX D).take k) ps) [.string ⟨nm.toArray⟩, .slice co dl ccap, .int .i64 (sf : Int)] (by rfl) (row_ext Q1.out G3.out) _ (by rfl) (heap_alloc_new _ _) ((Below.refl _ _).alloc (Nat.le_refl _) _) (by rfl) (by intro u hu; simp at hu; rcases hu with rfl | rfl | rfl <;> rfl) (by omega) (by decide) (Nat.le_trans hB2 G3.out.size) ?_; intro g4 cap4 w4 hown4 hb4 hg4 hlt4; have HOW4 := Lib.hid hown4; have HG4 := Lib.hid hg4; have HB4 := Lib.hid hb4; have hne4 : some N ≠ (Value.slice oo k ocap).ownBlock := (fun e => absurd (HON.out N e.symm) (by omega)); have SE : Hid (w4.cell? ⟨x, 2, none⟩ = some (.slice (some ⟨g, 0, none⟩) n ncap) ∧ w4.cell? ⟨g, k * 2, none⟩ = some (.string ⟨nm.toArray⟩) ∧ w4.cell? ⟨N, 1, none⟩ = some (.slice dao dl dcap) ∧ w4.cell? ⟨N, 2, none⟩ = some (.int .i64 (sf : Int))) := (by obtain ⟨a1, a2, a3, a4⟩ := HS.out w3 G3.out; exact ⟨(hb4.cell (p := ⟨x, 2, none⟩) lx).trans a1, (hb4.cell (p := ⟨g, k * 2, none⟩) hglw).trans a2, hg4.cell a3 hne4, hg4.cell a4 hne4⟩); clear hown4 hg4 hb4 hlt4))
        clear SA SC SD SE
        have s4 : w2.heap.size ≤ w4.heap.size := Nat.le_trans G3.out.size HG4.out.size
        have hq : OwnFs w4 w.heap.size (.slice (some ⟨g4, 0, none⟩) (k + 1) cap4) ((filesX D).take (k + 1)) := by
          rw [HT1.out]
          exact OwnFs.app (f := ⟨nm, xs, sf⟩) (v := .slice oo k ocap) (v' := .slice (some ⟨g4, 0, none⟩) (k + 1) cap4) (fs := (filesX D).take k) (ps := ps) (by rw [HTL.out]; exact row_ext Q1.out G3.out) Q2.out (fun j hj => row_ext (Q3.out j hj) G3.out) HO3.out HG4.out (by rw [HTL.out]; exact HOW4.out)
        have hq2 : Below w.heap.size w w4 := by
          have e1 : Below w.heap.size w w2 := HB.out.trans (HBW2.out.mono hwr)
          have e2 : Below w.heap.size w w3 := e1.trans (G3.out.mono e1.size)
          exact e2.trans HB4.out
        go_wp2
        go_roundw
        case rel => exact ⟨k + 1, by omega, by go_num, hq, hq2⟩
        case measure => simp [intOf]; omega
    · have ek : k = n := by omega
      subst ek
      go_wp2
      go_returns
      exact ⟨_, rfl, by have h9 := HO.out; rw [HTK.out] at h9; exact h9, hb⟩
end

/-! kinlaw5.Same: contract. -/
section
open Go.RowKit Go.Extern.Stop Go.Stop Go.Extern

set_option maxRecDepth 100000 in
set_option maxHeartbeats 8000000 in
theorem samedisks_any (W : World) (p x : Nat) (L : Lay) (X : XLay) (D : DS) (bs ns : List Nat) (T : Nat) (w : World) (h : Beside W p x L X D D bs ns w) (hI : Inv D T) (hT : T ≤ 100000) (hX : XI D bs ns) :
    Calls Tryz.prog 20 #[.pointer (some ⟨p, 0, none⟩), .pointer (some ⟨x, 0, none⟩)] w fun e w' => e = .returned (.bool true) ∧ Beside W p x L X D D bs ns w' := by
  have HH := Lib.hid h
  have hfl := filesD_le hI
  have hnl := hI.nam
  have CF := Lib.hid (fun w' (hd : Beside W p x L X D D bs ns w') => files_any p L D T w' hd.dp hI hT)
  have CXF := Lib.hid (fun w' (hd : Beside W p x L X D D bs ns w') => xfiles_any x X D bs ns T w' hd.xp hI hT hX)
  have CL := Lib.hid (fun w' (hd : Beside W p x L X D D bs ns w') => list_any p L D T w' hd.dp hI hT)
  have CXL := Lib.hid (fun w' (hd : Beside W p x L X D D bs ns w') => xlist_any x X D bs ns w' hd.xp (by omega) hX.srtN)
  have CU := Lib.hid (fun w' (hd : Beside W p x L X D D bs ns w') => used_any p L D T w' hd.dp hI hT)
  have CXU := Lib.hid (fun w' (hd : Beside W p x L X D D bs ns w') => xused_any x X D bs ns T w' hd.xp hI hT hX)
  have CR := Lib.hid (fun w' (hd : Beside W p x L X D D bs ns w') => room_any p L D w' hd.dp)
  have CDN := Lib.hid (fun w' (hd : Beside W p x L X D D bs ns w') => down_any p L D w' hd.dp)
  have CST := Lib.hid (fun w' (hd : Beside W p x L X D D bs ns w') => steps_any p L D w' hd.dp)
  have CFF := Lib.hid (fun w' v u B B2 (hv : OwnFs w' B v (filesD D)) (hu : OwnFs w' B2 u (filesD D)) => rfiles_same v u (filesD D) B B2 w' hv hu (by omega))
  have hll : (listD D).length ≤ 1000000 := by rw [length_listD]; omega
  have CT := Lib.hid (fun w' v u B B2 (hv : w'.ownsRow B 9 1 v (listD D).length ((listD D).map Go.Proofs.encStr)) (hu : w'.ownsRow B2 9 1 u (listD D).length ((listD D).map Go.Proofs.encStr)) => rtexts_same v u (listD D) B B2 w' hv hu hll)
  obtain ⟨fl, hfl2⟩ : ∃ fl, (filesD D).length = fl := ⟨_, rfl⟩
  have HFL := Lib.hid hfl2
  rw [hfl2] at hfl
  have HLL := Lib.hid (length_listD D)
  have HSX : Hid (∀ w', Beside W p x L X D D bs ns w' → w'.cell? ⟨x, 0, none⟩ = some (.int .i64 D.room) ∧ w'.cell? ⟨x, 7, none⟩ = some (.bool D.down) ∧ w'.cell? ⟨x, 8, none⟩ = some (.int .i64 D.done)) := fun w' hd => ⟨hd.xp.cell 0, hd.xp.cell 7, hd.xp.cell 8⟩
  have HOFF : Hid (∀ g, w.heap.size ≤ g → Off p x L X g ∧ W.heap.size ≤ g) := fun g hg => ⟨h.new_off hg, Nat.le_trans h.below.size hg⟩
  have qu : ((usedD D : Int) != (usedD D : Int)) = false := by simp
  have qr : (D.room != D.room) = false := by simp
  have qd : (D.down != D.down) = false := by simp
  have qs : (D.done != D.done) = false := by simp
  have HDL : Hid (∀ j, j < fl → ((filesD D).getD j FV.nought).data.length ≤ 16777216) := fun j hj => by
    have hj2 : j < (filesD D).length := by rw [hfl2]; exact hj
    have hj3 : j < D.names.length := by rw [length_filesD] at hj2; exact hj2
    rw [filesD_at D hj3]; exact (hI.file _).2
  clear h hI hX hnl hll hfl2
  generalize usedD D = ud at *
  generalize D.room = rm at *
  generalize D.down = dn at *
  generalize D.done = de at *
  go_enter Tryz.func20, Tryz.ntmps20
  go_wp2_with (go_at_call 10; refine (CF.out _ HH.out).mono ?_; rintro e w1 ⟨v1, rfl, hf1, hb1⟩; have T1 := Lib.hid (HH.out.ext hb1); have F1 := Lib.hid hf1; have G1 := Lib.hid hb1; clear hf1 hb1)
  obtain ⟨fo, fc, rfl⟩ := F1.out.shapeN HFL.out
  have SA := Lib.hid (HSX.out w1.drew (T1.out.ext (Below.refl _ _).drew))
  have T1d := Lib.hid (T1.out.ext (w' := w1.drew) (Below.refl _ _).drew)
  have F1d := Lib.hid (F1.out.ext (w' := w1.drew) (Below.refl _ _).drew)
  go_region_held3 (fun w' => w'.cell? ⟨x, 0, none⟩ = some (.int .i64 rm) ∧ w'.cell? ⟨x, 7, none⟩ = some (.bool dn) ∧ w'.cell? ⟨x, 8, none⟩ = some (.int .i64 de))
    (first | with_reducible exact SA.out | with_reducible exact S2.out | with_reducible exact S3.out | with_reducible exact S4.out | with_reducible exact S5.out | with_reducible exact S6.out | with_reducible exact S7.out | with_reducible exact S8.out)
    (first
      | (go_at_call 50; refine (CXF.out _ T1d.out).mono ?_; rintro e w2 ⟨v2, rfl, hf2, hb2⟩; have T2 := Lib.hid (T1d.out.ext hb2); have F2 := Lib.hid hf2; have F12 := Lib.hid (F1d.out.ext hb2); have S2 := Lib.hid (HSX.out w2 T2.out); clear hf2 hb2)
      | (go_at_call 12; refine (CFF.out _ _ _ _ _ F12.out F2.out).mono ?_; rintro e w3 ⟨rfl, hb3⟩; have T3 := Lib.hid (T2.out.ext hb3); have F13 := Lib.hid (F12.out.ext hb3); have S3 := Lib.hid (HSX.out w3 T3.out); clear hb3)
      | (go_at_call 32; refine (CL.out _ T3.out).mono ?_; rintro e w4 ⟨v4, rfl, hr4, hb4⟩; have T4 := Lib.hid (T3.out.ext hb4); have F14 := Lib.hid (F13.out.ext hb4); have R4 := Lib.hid hr4; have S4 := Lib.hid (HSX.out w4 T4.out); clear hr4 hb4)
      | (go_at_call 52; refine (CXL.out _ T4.out).mono ?_; rintro e w5 ⟨v5, rfl, hr5, hb5⟩; have T5 := Lib.hid (T4.out.ext hb5); have F15 := Lib.hid (F14.out.ext hb5); have R5 := Lib.hid hr5; have R45 := Lib.hid (row_ext R4.out hb5); have S5 := Lib.hid (HSX.out w5 T5.out); clear hr5 hb5)
      | (go_at_call 51; refine (CT.out _ _ _ _ _ (by rw [HLL.out]; exact R45.out) (by rw [HLL.out]; exact R5.out)).mono ?_; rintro e w6 ⟨rfl, hb6⟩; have T6 := Lib.hid (T5.out.ext hb6); have F16 := Lib.hid (F15.out.ext hb6); have S6 := Lib.hid (HSX.out w6 T6.out); clear hb6)
      | (go_at_call 14; refine (CU.out _ T6.out).mono ?_; rintro e w7 ⟨rfl, hb7⟩; have T7 := Lib.hid (T6.out.ext hb7); have F17 := Lib.hid (F16.out.ext hb7); have S7 := Lib.hid (HSX.out w7 T7.out); clear hb7)
      | (go_at_call 53; refine (CXU.out _ T7.out).mono ?_; rintro e w8 ⟨rfl, hb8⟩; have T8 := Lib.hid (T7.out.ext hb8); have F18 := Lib.hid (F17.out.ext hb8); have S8 := Lib.hid (HSX.out w8 T8.out); clear hb8)
      | (go_at_call 54; refine (CR.out _ T8.out).mono ?_; rintro e w' ⟨rfl, rfl⟩)
      | (go_at_call 11; refine (CDN.out _ T8.out).mono ?_; rintro e w' ⟨rfl, rfl⟩)
      | (go_at_call 13; refine (CST.out _ T8.out).mono ?_; rintro e w' ⟨rfl, rfl⟩))
  obtain ⟨ps, q1, q2, q3⟩ := F18.out
  rw [HFL.out] at q1 q2 q3
  have Q1 := Lib.hid q1
  have Q3 : Hid (∀ j, j < fl → U8Row w8 w.heap.size (ps.getD j .nilIface) ((filesD D).getD j FV.nought).data.length) := fun j hj => U8Row.of (q3 j hj)
  have HPS : Hid (∀ j, j < fl → ∃ ao cap, ps.getD j .nilIface = .slice ao ((filesD D).getD j FV.nought).data.length cap) := fun j hj => by obtain ⟨ao, cap, e⟩ := rowShape (q3 j hj); exact ⟨ao, cap, e⟩
  have HAT : Hid (∀ (wx : World), wx.ownsRow w.heap.size 57 3 (.slice fo fl fc) fl (gcells (filesD D) ps) → ∀ j, j < fl → ∃ g, fo = some ⟨g, 0, none⟩ ∧ g < wx.heap.size ∧ w.heap.size ≤ g ∧ wx.cell? ⟨g, j * 3 + 1, none⟩ = some (ps.getD j .nilIface)) := fun wx hr j hj => by
    rcases row_head hr with ⟨_, h0⟩ | ⟨g, cap', e, hB, hlt, -⟩
    · omega
    · obtain ⟨rfl, -, rfl⟩ := Value.slice.inj e
      exact ⟨g, rfl, hlt, hB, row_cellAt hr (flatR_at (g := gcell (filesD D) ps) (m := 3) (c := 1) (fun _ => rfl) _ (by rw [HFL.out]; exact hj) (by decide))⟩
  have HNE : Hid (∀ (wx : World) (g n : Nat) (cp : Nat), wx.ownsRow w.heap.size 57 3 (.slice fo fl fc) fl (gcells (filesD D) ps) → U8Row wx w.heap.size (.slice (some ⟨g, 0, none⟩) n cp) n → ∀ (o : Nat) (u : Value), (wx.setCell ⟨g, o, none⟩ u).ownsRow w.heap.size 57 3 (.slice fo fl fc) fl (gcells (filesD D) ps)) := fun wx g n cp hr hu o u => by
    obtain ⟨cs, hu1, -⟩ := hu
    exact row_of_block hr fun k hk => set_other _ _ _ _ k fun e => by
      have := rows_ne hr hu1 (by decide) g rfl
      rw [hk, e] at this; exact this rfl
  clear q1 q2 q3 SA S2 S3 S4 S5 S6 S7 S8 T1 T1d T2 T3 T4 T5 T6 T7 F1 F1d F12 F13 F14 F15 F16 F17 F18 F2 R4 R5 R45
  go_wp2
  go_loopw [6] (fun i wr => ∃ (j : Nat), j ≤ fl ∧ i = .int .i64 (j : Int) ∧ wr.ownsRow w.heap.size 57 3 (.slice fo fl fc) fl (gcells (filesD D) ps) ∧ (∀ j, j < fl → U8Row wr w.heap.size (ps.getD j .nilIface) ((filesD D).getD j FV.nought).data.length) ∧ Beside W p x L X D D bs ns wr) (fun i _ => fl - (intOf i).toNat)
  case atStart => exact ⟨0, Nat.zero_le _, rfl, Q1.out, Q3.out, T8.out⟩
  case round =>
    obtain ⟨j, hj, rfl, hr1, hr3, hTw⟩ := hrel
    have R1 := Lib.hid hr1
    have R3 := Lib.hid hr3
    have TW := Lib.hid hTw
    clear hr1 hr3 hTw
    by_cases hlt : j < fl
    · obtain ⟨dl, hdl⟩ : ∃ dl, ((filesD D).getD j FV.nought).data.length = dl := ⟨_, rfl⟩
      have hdlm := HDL.out j hlt
      obtain ⟨dao, dcap, hps⟩ := HPS.out j hlt
      rw [hdl] at hps hdlm
      have HPJ := Lib.hid hps
      have HDJ := Lib.hid hdl
      clear hps hdl
      obtain ⟨wo, rfl⟩ : ∃ wo : World, wo = wr := ⟨_, rfl⟩
      have i1 : (0 : Int) ≤ (j : Int) := by omega
      have i2 : (j : Int) < (fl : Int) := by omega
      go_wp2
      go_loopw [7] (fun i wr => ∃ (t : Nat), t ≤ dl ∧ i = .int .i64 (t : Int) ∧ wr.ownsRow w.heap.size 57 3 (.slice fo fl fc) fl (gcells (filesD D) ps) ∧ (∀ j, j < fl → U8Row wr w.heap.size (ps.getD j .nilIface) ((filesD D).getD j FV.nought).data.length) ∧ Beside W p x L X D D bs ns wr) (fun i _ => dl - (intOf i).toNat)
      case atStart => exact ⟨0, Nat.zero_le _, rfl, R1.out, R3.out, TW.out⟩
      case round =>
        obtain ⟨t, ht, rfl, hr1, hr3, hTw⟩ := hrel
        obtain ⟨g, rfl, hgl, -, hc⟩ := HAT.out wr hr1 j hlt
        have hu := hr3 j hlt
        have R1 := Lib.hid hr1
        have R3 := Lib.hid hr3
        have TW := Lib.hid hTw
        rw [HPJ.out] at hc
        rw [HPJ.out, HDJ.out] at hu
        have HUU := Lib.hid hu
        clear hr1 hr3 hTw hu
        by_cases hlt2 : t < dl
        · obtain ⟨g2, z, rfl, hgB, hgl2, e0, ef, hcap⟩ := HUU.out.at hlt2
          have i3 : (0 : Int) ≤ (t : Int) := by omega
          have i4 : (t : Int) < (dl : Int) := by omega
          obtain ⟨hog, hgW⟩ := HOFF.out g2 hgB
          go_wp2
          go_roundw
          case rel => exact ⟨t + 1, by omega, by go_num, HNE.out _ _ _ _ R1.out HUU.out _ _, fun j' hj' => (R3.out j' hj').set _ _ ⟨_, rfl⟩, TW.out.set_off hog hgW⟩
          case measure => simp [intOf]; omega
        · obtain rfl : t = dl := by omega
          go_wp2
          go_roundw
          case rel => exact ⟨j + 1, by omega, by go_num, R1.out, R3.out, TW.out⟩
          case measure => simp [intOf]; omega
    · obtain rfl : j = fl := by omega
      go_wp2_with (first
        | (go_at_call 10; refine (CF.out _ TW.out).mono ?_; rintro e w10 ⟨v10, rfl, hf10, hb10⟩; have T10 := Lib.hid (TW.out.ext hb10); have F10 := Lib.hid hf10; clear hf10 hb10)
        | (go_at_call 50; refine (CXF.out _ T10.out).mono ?_; rintro e w11 ⟨v11, rfl, hf11, hb11⟩; have T11 := Lib.hid (T10.out.ext hb11); have F11 := Lib.hid hf11; have F10b := Lib.hid (F10.out.ext hb11); clear hf11 hb11)
        | (go_at_call 12; refine (CFF.out _ _ _ _ _ F10b.out F11.out).mono ?_; rintro e w12 ⟨rfl, hb12⟩; have T12 := Lib.hid (T11.out.ext hb12); clear hb12))
      go_returns
      exact ⟨by first | rfl | (simp; done), T12.out⟩
end

/-! kinlaw5.Few: contract, with a bound for the bytes of each operation. -/
section
open Go.RowKit

set_option maxRecDepth 100000 in
set_option maxHeartbeats 1000000 in
theorem few_opsB (v : Value) (l : List OpP) (w : World) (hv : OpsV w v l) :
    Calls Tryz.prog 7 #[v] w fun e w' => ∃ b, e = .returned (.bool b) ∧ (b = true → l.length ≤ 300 ∧ ∀ j, j < l.length → (l.getD j OpP.nought).b.length ≤ 20000) ∧ Below w.heap.size w w' := by
  have HV := Lib.hid hv
  have hl := hv.len
  obtain ⟨n, hnn⟩ : ∃ n, l.length = n := ⟨_, rfl⟩
  obtain ⟨ao, cap, rfl⟩ := hv.shapeN hnn
  have LN := Lib.hid hnn
  rw [hnn] at hl ⊢
  clear hv hnn
  go_enter Tryz.func7, Tryz.ntmps7
  go_wp2
  go_loopw [3, 4] (fun s i wr => ∃ k c : Nat, k ≤ n ∧ i = .int .i64 k ∧ s = .int .i64 (c : Int) ∧ c ≤ 100010 ∧ (∀ j, j < k → min (l.getD j OpP.nought).b.length 20001 ≤ c) ∧ Below w.heap.size w wr) (fun _ i _ => n - (intOf i).toNat)
  case atStart => exact ⟨0, 0, Nat.zero_le _, rfl, rfl, by omega, fun j hj => absurd hj (Nat.not_lt_zero j), Below.refl _ _⟩
  case round =>
    obtain ⟨k, c, hk, rfl, rfl, hc, hA, hb⟩ := hrel
    have HA := Lib.hid hA
    clear hA
    by_cases hgo : k < n ∧ k < 300 ∧ c ≤ 20000
    · obtain ⟨hlt, hlt2, hlt3⟩ := hgo
      obtain ⟨b, off, vb, vp, rfl, lb, ho⟩ := (HV.out.ext hb).cellAt (j := k) (by rw [LN.out]; exact hlt)
      have HSU : Hid (∀ c', c ≤ c' → min (l.getD k OpP.nought).b.length 20001 ≤ c' → ∀ j, j < k + 1 → min (l.getD j OpP.nought).b.length 20001 ≤ c') := fun c' h1 h2 j hj => by
        by_cases e : j = k
        · rw [e]; exact h2
        · exact Nat.le_trans (HA.out j (by omega)) h1
      generalize l.getD k OpP.nought = o at *
      obtain ⟨kd, no, nm, to, bb, pk⟩ := o
      obtain ⟨c0, c1, c2, c3, c4, c5, -, -, ln, lt, hbb, hpk⟩ := ho
      simp only at c0 c1 c2 c3 c4 c5 ln lt hbb hpk HSU
      have lb1 := hbb.len
      have lp1 := hpk.len
      obtain ⟨bo, bc, rfl⟩ := hbb.shape
      obtain ⟨po, pc, rfl, -⟩ := hpk
      obtain ⟨x1, hx1⟩ : ∃ x, nm.length = x := ⟨_, rfl⟩
      obtain ⟨x2, hx2⟩ : ∃ x, to.length = x := ⟨_, rfl⟩
      obtain ⟨x3, hx3⟩ : ∃ x, bb.length = x := ⟨_, rfl⟩
      obtain ⟨x4, hx4⟩ : ∃ x, pk.length = x := ⟨_, rfl⟩
      have hs1 : (⟨nm.toArray⟩ : ByteArray).size = x1 := by simp [ByteArray.size, hx1]
      have hs2 : (⟨to.toArray⟩ : ByteArray).size = x2 := by simp [ByteArray.size, hx2]
      generalize (⟨nm.toArray⟩ : ByteArray) = s1 at *
      generalize (⟨to.toArray⟩ : ByteArray) = s2 at *
      rw [hx3] at c4 HSU
      rw [hx4] at c5
      obtain ⟨m1, hm1⟩ : ∃ m : Nat, min x1 20001 = m := ⟨_, rfl⟩
      obtain ⟨m2, hm2⟩ : ∃ m : Nat, min x2 20001 = m := ⟨_, rfl⟩
      obtain ⟨m3, hm3⟩ : ∃ m : Nat, min x3 20001 = m := ⟨_, rfl⟩
      rw [hm3] at HSU
      obtain ⟨m4, hm4⟩ : ∃ m : Nat, min x4 20001 = m := ⟨_, rfl⟩
      have t1 : (if (x1 : Int) ≤ 20001 then (x1 : Int) else 20001) = (m1 : Int) := by split <;> omega
      have t2 : (if (x2 : Int) ≤ 20001 then (x2 : Int) else 20001) = (m2 : Int) := by split <;> omega
      have t3 : (if (x3 : Int) ≤ 20001 then (x3 : Int) else 20001) = (m3 : Int) := by split <;> omega
      have t4 : (if (x4 : Int) ≤ 20001 then (x4 : Int) else 20001) = (m4 : Int) := by split <;> omega
      have u1 : m1 ≤ 20001 := by omega
      have u2 : m2 ≤ 20001 := by omega
      have u3 : m3 ≤ 20001 := by omega
      have u4 : m4 ≤ 20001 := by omega
      obtain ⟨e1, he1⟩ : ∃ e, c + m1 = e := ⟨_, rfl⟩
      obtain ⟨e2, he2⟩ : ∃ e, e1 + m2 = e := ⟨_, rfl⟩
      obtain ⟨e3, he3⟩ : ∃ e, e2 + m3 = e := ⟨_, rfl⟩
      obtain ⟨e4, he4⟩ : ∃ e, e3 + m4 = e := ⟨_, rfl⟩
      have q1 : IntKind.i64.wrap ((c : Int) + (m1 : Int)) = (e1 : Int) := by rw [IntWalk.i64_in _ (by omega)]; omega
      have q2 : IntKind.i64.wrap ((e1 : Int) + (m2 : Int)) = (e2 : Int) := by rw [IntWalk.i64_in _ (by omega)]; omega
      have q3 : IntKind.i64.wrap ((e2 : Int) + (m3 : Int)) = (e3 : Int) := by rw [IntWalk.i64_in _ (by omega)]; omega
      have q4 : IntKind.i64.wrap ((e3 : Int) + (m4 : Int)) = (e4 : Int) := by rw [IntWalk.i64_in _ (by omega)]; omega
      have hE : e4 ≤ 100010 := by omega
      have HAE : Hid (∀ j, j < k + 1 → min (l.getD j OpP.nought).b.length 20001 ≤ e4) := HSU.out e4 (by omega) (by omega)
      have HM := Lib.hid (And.intro hm1 (And.intro hm2 (And.intro hm3 hm4)))
      have HQ := Lib.hid (And.intro he1 (And.intro he2 (And.intro he3 he4)))
      clear hx1 hx2 hx3 hx4 hm1 hm2 hm3 hm4 he1 he2 he3 he4 ln lt hbb lb1 lp1 u1 u2 u3 u4
      go_wp2
      go_quiet (fail)
      go_wp2
      go_roundw
      case rel => exact ⟨k + 1, e4, by omega, by go_num, by first | go_num | (obtain ⟨a1, a2, a3, a4⟩ := HM.out; obtain ⟨b1, b2, b3, b4⟩ := HQ.out; exact int_eq (by omega)), hE, HAE.out, by first | exact hb | exact hb.drew | exact below_drewN' hb _⟩
      case measure => simp [intOf]; omega
    · by_cases hlt : k < n
      · by_cases hlt2 : k < 300
        · have hlt3 : ¬ c ≤ 20000 := fun h => hgo ⟨hlt, hlt2, h⟩
          clear hgo
          by_cases h9 : n ≤ 300
          · go_wp2
            all_goals go_returns
            all_goals first | exact hb | exact ⟨rfl, hb⟩ | exact ⟨_, rfl, fun h => (by simp at h; omega), hb⟩
          · go_wp2
            all_goals go_returns
            all_goals first | exact hb | exact ⟨rfl, hb⟩ | exact ⟨_, rfl, fun h => (by simp at h; omega), hb⟩
        · clear hgo
          have h9 : 300 < n := by omega
          have h8 : ¬ n ≤ 300 := by omega
          go_wp2
          all_goals go_returns
          all_goals first | exact hb | exact ⟨rfl, hb⟩ | exact ⟨_, rfl, fun h => (by simp at h; omega), hb⟩
      · clear hgo
        obtain rfl : k = n := by omega
        by_cases h9 : k ≤ 300
        · by_cases hc2 : c ≤ 20000
          · have HF : Hid (k ≤ 300 ∧ ∀ j, j < k → (l.getD j OpP.nought).b.length ≤ 20000) := ⟨h9, fun j hj => by have := HA.out j hj; omega⟩
            go_wp2
            all_goals go_returns
            all_goals first | exact ⟨_, rfl, fun _ => HF.out, hb⟩ | exact ⟨HF.out.1, HF.out.2, hb⟩ | exact ⟨HF.out, hb⟩
          · go_wp2
            all_goals go_returns
            all_goals first | exact hb | exact ⟨rfl, hb⟩ | exact ⟨_, rfl, fun h => (by simp at h; omega), hb⟩
        · go_wp2
          all_goals go_returns
          all_goals first | exact hb | exact ⟨rfl, hb⟩ | exact ⟨_, rfl, fun h => (by simp at h; omega), hb⟩
end

/-! DiskPlays: the walk. -/
section
open Go.RowKit Go.Extern.Stop Go.Stop Go.Extern

def spoilt : Bs := [115, 112, 111, 105, 108, 116]
section
variable {W w w' : World} {p q x : Nat} {L Lq : Lay} {X : XLay} {D E : DS} {bs ns : List Nat} {F : Nat → Prop}
theorem Beside.far (h : Beside W q x L X D E bs ns w) (hk : Keep F w w') (h1 : ∀ k, L.has q k → ¬ F k) (h2 : ∀ k, X.has x k → ¬ F k) (h3 : ∀ k, F k → W.heap.size ≤ k) : Beside W q x L X D E bs ns w' :=
  ⟨h.dp.stays fun k hk2 => hk.block k (h.dp.lt hk2) (h1 k hk2), h.xp.stays fun k hk2 => hk.block k (h.xp.lt hk2) (h2 k hk2), h.own, h.xown, h.apart, h.below.trans (hk.below h3 h.below.size)⟩
/-- The copy lies beside the document's disk too. -/
theorem Beside.copied (h : Beside W p x L X D E bs ns w) (hq : DP w' q Lq D) (hn : ∀ k, Lq.has q k → w.heap.size ≤ k) (hb : Below w.heap.size w w') : Beside W q x Lq X D E bs ns w' ∧ ∀ k, Lq.has q k → ¬ L.has p k :=
  ⟨⟨hq, h.xp.ext hb, fun k hk => Nat.le_trans h.below.size (hn k hk), h.xown, fun k hk hx => by have := hn k hk; have := h.xp.lt hx; omega, h.below.trans (hb.mono h.below.size)⟩, fun k hk hl => by have := hn k hk; have := h.dp.lt hl; omega⟩
end
theorem Beside.new {W wa wb wc : World} {L : Lay} {X : XLay} {p x : Nat} {r : Int} (h : Stand W p L (newD r) wb) (hX : XP wc x X (newD r) [] []) (hn : ∀ k, X.has x k → wb.heap.size ≤ k) (hb : Below wb.heap.size wb wc) : Beside W p x L X (newD r) (newD r) [] [] wc :=
  ⟨h.dp.stays fun k hk => hb.block k (h.dp.lt hk), hX, h.own, fun k hk => Nat.le_trans h.below.size (hn k hk), fun k hk hx => by have := hn k hx; have := h.dp.lt hk; omega, h.below.trans (hb.mono h.below.size)⟩
theorem xhas_new {x k : Nat} (h : (⟨.slice none 0 0, .slice none 0 0, .slice none 0 0, .slice none 0 0, []⟩ : XLay).has x k) : k = x := by
  rcases h with h | h | h | h | h | ⟨j, hj, -⟩
  · exact h
  · simp [Value.ownBlock] at h
  · simp [Value.ownBlock] at h
  · simp [Value.ownBlock] at h
  · simp [Value.ownBlock] at h
  · simp at hj
theorem ints_block {w : World} {N : Nat} {T : Nat} (h : Blk w N #[.int .i64 1, .int .i64 9, .int .i64 9] T) : Ints w (.slice (some ⟨N, 0, none⟩) 3 3) [1, 9, 9] := by
  refine ⟨some ⟨N, 0, none⟩, 3, rfl, Nat.le_refl 3, by decide, fun x hx => ?_, fun e => (by cases e), fun j hj => ⟨N, 0, rfl, ?_⟩⟩
  · simp at hx
    rcases hx with rfl | rfl <;> (unfold in64; omega)
  · rw [Nat.zero_add]
    have hj3 : j < 3 := hj
    rcases j with _ | _ | _ | j
    · exact h.cell 0
    · exact h.cell 1
    · exact h.cell 2
    · omega
set_option maxRecDepth 100000 in
set_option maxHeartbeats 8000000 in
theorem plays_walk (size : Int) (v : Value) (l : List OpP) (W : World) (hv : OpsV W v l) (hg : TypeIs W) :
    Calls Tryz.prog 4 #[.int .i64 size, v] W fun e W' => e = .returned (.bool true) ∧ Below W.heap.size W W' := by
  have HG := Lib.hid hg
  have HV := Lib.hid hv
  have CF := Lib.hid (fun (w : World) (h : Below W.heap.size W w) => first_any w (hg.ext h))
  have CS0 : Hid (∀ w, Below W.heap.size W w → Calls Tryz.prog 16 #[.nilIface, .agg #[.int .i64 0, .slice none 0 0]] w fun e w' => e = .returned (.bool true) ∧ Below w.heap.size w w') := fun w h => same_any 0 w (hg.ext h)
  have CS3 : Hid (∀ w, Below W.heap.size W w → Calls Tryz.prog 16 #[errV 3, .agg #[.int .i64 3, .slice none 0 0]] w fun e w' => e = .returned (.bool true) ∧ Below w.heap.size w w') := fun w h => same_any 3 w (hg.ext h)
  obtain ⟨n, hnn⟩ : ∃ n, l.length = n := ⟨_, rfl⟩
  obtain ⟨ao, cap, rfl⟩ := hv.shapeN hnn
  have LN := Lib.hid hnn
  have hl := hv.len
  rw [hnn] at hl
  by_cases hr : 0 ≤ size ∧ size ≤ 16777216
  · clear hg hv hnn CS3
    obtain ⟨hr1, hr2⟩ := hr
    go_enter Tryz.func4, Tryz.ntmps4
    go_wp2_with (go_at_call 5; refine (CF.out _ (Below.refl _ _)).mono ?_; rintro e wa ⟨rfl, hba⟩)
    have CN := Lib.hid (new_any size ⟨hr1, hr2⟩ wa)
    go_wp2_with (go_at_call 6; refine CN.out.mono ?_; rintro e wb ⟨rfl, hD, hbb⟩; have SB := Lib.hid (Stand.new hba hD (has_new rfl) hbb); clear hD)
    have CXN := Lib.hid (xnew_any size ⟨hr1, hr2⟩ wb)
    unfold errX at CXN
    go_wp2_with (go_at_call 15; refine CXN.out.mono ?_; rintro e wc ⟨rfl, hXP, hbc⟩; have TC := Lib.hid (Beside.new (wa := wa) SB.out hXP (fun k hk => by rw [xhas_new hk]; omega) hbc); clear hXP)
    go_wp2_with (go_at_call 16; refine (CS0.out _ (TC.out.ext (by go_grown)).below).mono ?_; rintro e wd ⟨rfl, hbd⟩; have TD := Lib.hid (TC.out.ext (ext (by go_grown) hbd)); clear hbd)
    refine (few_opsB _ l _ (HV.out.ext TD.out.below)).mono ?_
    rintro e we ⟨fw, rfl, hfw, hbe⟩
    have TE := Lib.hid (TD.out.ext hbe)
    cases fw
    · go_wp2_with (go_at_call 5; refine (CF.out _ TE.out.below).mono ?_; rintro e wd ⟨rfl, hbd⟩)
      go_returns
      exact ⟨by first | rfl | (simp; done), (TE.out.ext hbd).below⟩
    obtain ⟨hf1, hf2⟩ := hfw (by first | trivial | rfl)
    have hn3 : n ≤ 300 := by rw [← LN.out]; exact hf1
    have HFB := Lib.hid hf2
    obtain ⟨p, hp⟩ : ∃ p, wa.heap.size + 2 = p := ⟨_, rfl⟩
    obtain ⟨x, hx⟩ : ∃ x, wb.heap.size + 1 = x := ⟨_, rfl⟩
    rw [hp, hx] at TE ⊢
    have HI0 : Hid (Inv (newD size) (3 * 0)) := Inv.new ⟨hr1, hr2⟩
    have HX0 : Hid (XI (newD size) [] []) := XI.new size
    clear hfw hf1 hf2 hbe TC TD SB hbb hbc hba hp hx CN CXN
    go_wp2
    go_loopw [5, 9] (fun d i wr => ∃ (j p : Nat) (L : Lay) (X : XLay) (D : DS) (bs ns : List Nat), j ≤ n ∧ d = .pointer (some ⟨p, 0, none⟩) ∧ i = .int .i64 (j : Int) ∧ Beside W p x L X D D bs ns wr ∧ Inv D (3 * j) ∧ XI D bs ns) (fun _ i _ => n - (intOf i).toNat)
    case atStart => exact ⟨0, p, _, _, _, _, _, Nat.zero_le _, rfl, rfl, TE.out, HI0.out, HX0.out⟩
    case round =>
      clear TE HI0 HX0
      obtain ⟨j, p, L, X, D, bs, ns, hj, rfl, rfl, hTw, hI, hX⟩ := hrel
      have TW := Lib.hid hTw
      have HI := Lib.hid hI
      have HX := Lib.hid hX
      clear hTw hI hX
      have hT : 3 * j ≤ 100000 := by omega
      by_cases hlt : j < n
      · obtain ⟨b, off, vb, vp, rfl, lb, ho0⟩ := HV.out.cellAt (j := j) (by rw [LN.out]; exact hlt)
        have hbb := HFB.out j (by rw [LN.out]; exact hlt)
        have ho := ho0
        generalize l.getD j OpP.nought = o at *
        have HI2 := Lib.hid (HI.out.play o ho.i1)
        have HO := Lib.hid ho0
        have CDO := Lib.hid (fun p' L' X' bs' ns' w' (h : Beside W p' x L' X' D D bs' ns' w') (hX : XI D bs' ns') => doesop_any W p' x L' X' D bs' ns' o vb vp (3 * j) w' h HI.out hT hX HG.out HO.out.ln HO.out.lt HO.out.bytes (by omega) HO.out.ints)
        obtain ⟨D2, hD2⟩ : ∃ D2, playD D o = D2 := ⟨_, rfl⟩
        rw [hD2] at HI2 CDO
        have CSA := Lib.hid (fun p' L' X' bs' ns' w' (h : Beside W p' x L' X' D2 D2 bs' ns' w') (hX : XI D2 bs' ns') => samedisks_any W p' x L' X' D2 bs' ns' (3 * j + 3) w' h HI2.out (by omega) hX)
        obtain ⟨c0, c1, c2, c3, c4, c5, ik, -, -, -, -, -⟩ := ho
        have HWR : Hid (∀ wx, Below W.heap.size W wx → wx.cell? ⟨b, off + j * 6, none⟩ = some (.int .i64 o.kind) ∧ wx.cell? ⟨b, off + j * 6 + 1, none⟩ = some (.int .i64 o.n) ∧ wx.cell? ⟨b, off + j * 6 + 2, none⟩ = some (.string ⟨o.name.toArray⟩) ∧ wx.cell? ⟨b, off + j * 6 + 3, none⟩ = some (.string ⟨o.to.toArray⟩) ∧ wx.cell? ⟨b, off + j * 6 + 4, none⟩ = some vb ∧ wx.cell? ⟨b, off + j * 6 + 5, none⟩ = some vp) := fun wx hb => ⟨(hb.cell (p := ⟨b, _, none⟩) lb).trans c0, (hb.cell (p := ⟨b, _, none⟩) lb).trans c1, (hb.cell (p := ⟨b, _, none⟩) lb).trans c2, (hb.cell (p := ⟨b, _, none⟩) lb).trans c3, (hb.cell (p := ⟨b, _, none⟩) lb).trans c4, (hb.cell (p := ⟨b, _, none⟩) lb).trans c5⟩
        clear ho0 c0 c1 c2 c3 c4 c5 hD2 hbb
        obtain ⟨c0, c1, c2, c3, c4, c5⟩ := HWR.out wr TW.out.below
        unfold in64 at ik
        have i1 : (0 : Int) ≤ (j : Int) := by omega
        have i2 : (j : Int) < (n : Int) := by omega
        unfold opV at CDO
        by_cases hk : o.kind < 0 ∨ 9 < o.kind
        · have CC := Lib.hid (fun w' (h : DP w' p L D) => copy_disk p L D (3 * j) w' h HI.out hT)
          have CK := Lib.hid (fun w' (h : DP w' p L D) => create_any p L D spoilt (3 * j) w' h HI.out hT (by decide))
          have HI3 := Lib.hid (HI.out.createD spoilt)
          have CCR := Lib.hid (fun w' L' u (h : DP w' p L' (createD D spoilt)) (hu : ∀ w2, Keep (L'.has p) w' w2 → Ints w2 u [1, 9, 9]) => crash_any p L' (createD D spoilt) [1, 9, 9] u (3 * j + 3) w' h HI3.out (by omega) hu)
          generalize goesE D (createE D spoilt) = ke at *
          generalize createD D spoilt = D3 at *
          have hk9 : o.kind < 0 ∨ (¬ o.kind < 0 ∧ o.kind > 9) := by omega
          clear hk
          rcases hk9 with hk | ⟨hk0, hk⟩
          all_goals
            go_wp2_with (first
              | (go_at_call 9; refine (CC.out _ TW.out.dp).mono ?_; rintro e w2 ⟨q, Lq, rfl, hq, hnq, hbq⟩; have T2 := Lib.hid (TW.out.ext hbq); have Q2 := Lib.hid (TW.out.copied hq hnq hbq).1; have A2 := Lib.hid (TW.out.copied hq hnq hbq).2; clear hq hnq hbq)
              | (go_at_call 17; refine (CK.out _ T2.out.dp).mono ?_; rintro e w3 ⟨rfl, L3, h3, hn3, hk3⟩; have T3 := Lib.hid (T2.out.dop h3 hn3 hk3); have Q3 := Lib.hid (Q2.out.far hk3 A2.out (fun k hx hl => T2.out.apart k hl hx) T2.out.own); have A3 : Hid (∀ k, Lq.has q k → ¬ L3.has p k) := (fun k hk hl => (hn3 k hl).elim (A2.out k hk) (fun h9 => by have := Q2.out.dp.lt hk; omega)); clear h3 hn3 hk3)
              | (go_at_call 18; refine (CCR.out _ L3 _ (T3.out.ext (by go_grown)).dp (fun w2 hk2 => ints_block (T := 3) ((Blk.new w3 #[.int .i64 1, .int .i64 9, .int .i64 9] 3).of_block (hk2.block w3.heap.size (by simp) (fun h9 => absurd (T3.out.dp.lt h9) (Nat.lt_irrefl _)))))).mono ?_; rintro e w4 ⟨rfl, L4, h4, hn4, hk4⟩; have Q4 := Lib.hid ((Q3.out.ext (w' := w3.alloc (.cells #[.int .i64 1, .int .i64 9, .int .i64 9] 3)) (by go_grown)).far hk4 A3.out (fun k hx hl => T3.out.apart k hl hx) T3.out.own); clear h4 hn4 hk4; obtain ⟨d0, d1, d2, d3, d4, d5⟩ := HWR.out w4 Q4.out.below)
              | (go_at_call 19; refine (CDO.out _ _ _ _ _ _ Q4.out HX.out).mono ?_; rintro e w5 ⟨rfl, L2, X2, bs2, ns2, h2, hx2⟩; have T5 := Lib.hid h2; have HX2 := Lib.hid hx2; clear h2 hx2)
              | (go_at_call 20; refine (CSA.out _ _ _ _ _ _ T5.out HX2.out).mono ?_; rintro e w6 ⟨rfl, h6⟩; have T6 := Lib.hid h6; clear h6))
            go_wp2
            go_roundw
            case rel => exact ⟨j + 1, q, L2, X2, D2, bs2, ns2, by omega, rfl, by go_num, T6.out, HI2.out.mono (by omega), HX2.out⟩
            case measure => simp [intOf]; omega
        · have hk0 : ¬ o.kind < 0 := by omega
          have hk9 : ¬ o.kind > 9 := by omega
          clear hk
          go_wp2_with (first
            | (go_at_call 19; refine (CDO.out _ _ _ _ _ _ TW.out HX.out).mono ?_; rintro e w2 ⟨rfl, L2, X2, bs2, ns2, h2, hx2⟩; have T2 := Lib.hid h2; have HX2 := Lib.hid hx2; clear h2 hx2)
            | (go_at_call 20; refine (CSA.out _ _ _ _ _ _ T2.out HX2.out).mono ?_; rintro e w3 ⟨rfl, h3⟩; have T3 := Lib.hid h3; clear h3))
          go_wp2
          go_roundw
          case rel => exact ⟨j + 1, p, L2, X2, D2, bs2, ns2, by omega, rfl, by go_num, T3.out, HI2.out.mono (by omega), HX2.out⟩
          case measure => simp [intOf]; omega
      · obtain rfl : j = n := by omega
        go_wp2_with (go_at_call 5; refine (CF.out _ TW.out.below).mono ?_; rintro e w7 ⟨rfl, hb7⟩)
        go_returns
        exact ⟨by first | rfl | (simp; done), (TW.out.ext hb7).below⟩
  · have CN := Lib.hid (fun w => new_not size hr w)
    have CXN := Lib.hid (fun w => xnew_not size hr w)
    unfold errX at CXN
    clear hr hg hv hnn
    go_enter Tryz.func4, Tryz.ntmps4
    go_wp2_with (first | (go_at_call 6; refine (CN.out _).mono ?_; rintro e wb ⟨rfl, hbb⟩; have hab := Lib.hid (ext hba hbb)) | (go_at_call 15; refine (CXN.out _).mono ?_; rintro e wc ⟨rfl, hbc⟩; have hac := Lib.hid (ext hab.out hbc)) | (go_at_call 16; refine (CS3.out _ (hac.out.alloc hac.out.size _)).mono ?_; rintro e wd ⟨rfl, hbd⟩; have had := Lib.hid (ext (hac.out.alloc hac.out.size _) hbd)) | (go_at_call 5; refine (CF.out _ had.out).mono ?_; rintro e we ⟨rfl, hbe⟩) | (go_at_call 5; refine (CF.out _ (Below.refl _ _)).mono ?_; rintro e wa ⟨rfl, hba⟩))
    go_returns
    exact ⟨by first | rfl | (simp; done), ext had.out hbe⟩
end
end Go.Proofs.YtdiaejphgcoknaaGreatDoor
