/- kinref5: Remove: contract. The numbers of the document's disk, in plain Lean: kept by every operation; what a crash leaves. The document's disk in memory: a body turns, a body more, the directory is made safe, what a crash leaves. kinref5: Rename: contract. kinref5: Arm: contract. kinref5: New, Grow, SyncDir: contracts. kinref5: Sync: contract. kinref5: Create: contract. -/
import Derived.Test.YtdiaejphgcoknaaGreatDoorPlaysA
set_option linter.unusedSimpArgs false
set_option linter.unusedVariables false
namespace Go.Proofs.YtdiaejphgcoknaaGreatDoor

/-! kinref5: Remove: contract. -/
section
open Go.RowKit Go.Extern.Stop Go.Stop Go.Extern

theorem goesE_read {D : DS} {a : Bs} (h : readE D a ≠ 0) : goesE D (thereE D a) = readE D a ∧ goesD D (thereE D a) = D := by
  unfold readE at h ⊢
  unfold goesE goesD
  cases hd : D.down with
  | true => simp
  | false =>
    rw [hd] at h
    have h2 : thereE D a ≠ 0 := by simpa using h
    simp [h2]
theorem goesE_ready {D : DS} {a : Bs} (h : readE D a = 0) : goesE D (thereE D a) = (if downF D then 10 else 0) ∧ goesD D (thereE D a) = fallD D ∧ D.down = false ∧ thereE D a = 0 := by
  unfold readE at h
  cases hd : D.down with
  | true => rw [hd] at h; simp at h
  | false =>
    rw [hd] at h
    have h2 : thereE D a = 0 := by simpa using h
    unfold goesE goesD
    rw [hd, h2]
    simp
/-- Numbers of steps behind an operation that writes one down. -/
def nsBy (k : Int) (ns : List Nat) (no : Nat) : List Nat := if k = 0 then ns ++ [no] else ns
theorem remD_not {D : DS} {a : Bs} (h : readE D a ≠ 0) : remE D a = readE D a ∧ remD D a = D := by
  obtain ⟨h1, h2⟩ := goesE_read h
  refine ⟨h1, ?_⟩
  unfold remD remE
  rw [if_neg (by rw [h1]; exact h), h2]
theorem remD_down {D : DS} {a : Bs} (h : readE D a = 0) (hd : downF D = true) : remE D a = 10 ∧ remD D a = fallD D := by
  obtain ⟨h1, h2, -, -⟩ := goesE_ready h
  rw [hd, if_pos rfl] at h1
  refine ⟨h1, ?_⟩
  unfold remD remE
  rw [if_neg (by rw [h1]; decide), h2]
theorem remD_up {D : DS} {a : Bs} (h : readE D a = 0) (hd : downF D = false) : remE D a = 0 ∧ remD D a = stepXD D ⟨2, a, [], 0⟩ (fileN D.names a) := by
  obtain ⟨h1, h2, -, -⟩ := goesE_ready h
  rw [hd, if_neg (by simp)] at h1
  refine ⟨h1, ?_⟩
  unfold remD remE
  rw [if_pos h1]; rfl
set_option maxRecDepth 100000 in
set_option maxHeartbeats 2000000 in
theorem xremove_any (x : Nat) (X : XLay) (D : DS) (bs ns : List Nat) (a : Bs) (T : Nat) (w : World) (h : XP w x X D bs ns) (hI : Inv D T) (hT : T ≤ 100000) (hX : XI D bs ns) (ha : a.length ≤ maxLen) :
    Calls Tryz.prog 66 #[.pointer (some ⟨x, 0, none⟩), .string ⟨a.toArray⟩] w (XPost x X (remE D a) (remD D a) bs (nsBy (remE D a) ns (fileN D.names a)) w) := by
  have H := Lib.hid h
  have hnl := hI.nam
  have CA := Lib.hid (fun w' (hb : Below w.heap.size w w') => xasks_any x X D bs ns a w' (h.ext hb) (by omega) ha)
  obtain ⟨wb, hwb⟩ : ∃ wb, wb = w.alloc (.cells #[.int .i64 0, .slice none 0 0] 45) := ⟨_, rfl⟩
  have BQ := Lib.hid (show Blk wb w.heap.size #[.int .i64 0, .slice none 0 0] 45 from by rw [hwb]; exact Blk.new w _ _)
  have HBW := Lib.hid (show Below w.heap.size w wb from by rw [hwb]; go_grown)
  have lx := h.blk.lt
  by_cases hr : readE D a = 0
  · obtain ⟨K, D2, ns2, hK, hD2, hns2, CST⟩ : ∃ K D2 ns2, remE D a = K ∧ remD D a = D2 ∧ nsBy (remE D a) ns (fileN D.names a) = ns2 ∧ ∀ w', Below w.heap.size w w' → Calls Tryz.prog 84 #[.pointer (some ⟨x, 0, none⟩), kstepV ⟨2, a, [], 0⟩ (fileN D.names a)] w' (XPost x X K D2 bs ns2 w') := by
      cases hd : downF D with
      | true =>
        obtain ⟨e1, e2⟩ := remD_down hr hd
        exact ⟨10, fallD D, ns, e1, e2, by unfold nsBy; rw [e1]; rfl, fun w' hb => xstep_down x X D bs ns _ _ T w' (h.ext hb) hI hT hd⟩
      | false =>
        obtain ⟨e1, e2⟩ := remD_up hr hd
        have hfl : fileN D.names a ≤ 1000000 := by have := hI.fileN_lt (goesE_ready hr).2.2.2; have := hI.cnt; omega
        exact ⟨0, _, ns ++ [fileN D.names a], e1, e2, by unfold nsBy; rw [e1]; rfl, fun w' hb => xstep_up x X D bs ns _ _ T w' (h.ext hb) hI hT hX (Nat.le_refl 2) hfl hd⟩
    rw [hns2, hK, hD2]
    obtain ⟨-, hg⟩ := thereE_zero (goesE_ready hr).2.2.2
    rw [hr] at CA
    generalize fileN D.names a = v at *
    obtain ⟨no', ncap, hvn⟩ := rowShape h.nam
    obtain ⟨n, hn⟩ : ∃ n, D.names.length = n := ⟨_, rfl⟩
    rw [hn] at hvn
    have c2 : w.cell? ⟨x, 2, none⟩ = some (.slice no' n ncap) := (h.cell 2).trans (congrArg some hvn)
    have HNR := Lib.hid (show NRow w 0 (.slice no' n ncap) D.names from hvn ▸ h.nam)
    have CFD := Lib.hid (fun w' (hb : Below w.heap.size w w') => find_any (.slice no' n ncap) D.names a 0 w' (HNR.out.ext hb) (by omega))
    obtain ⟨k, hkn, hfv, hat⟩ : ∃ k, k < n ∧ findV D.names a = (k : Int) ∧ D.names.getD k ([], 0) = (a, v) := by
      rcases findV_cases D.names a with ⟨h9, _⟩ | ⟨k, v', h1, h2, h3, h4⟩
      · rw [hg] at h9; cases h9
      · rw [hg] at h2; obtain rfl := Option.some.inj h2
        exact ⟨k, by omega, h3, h4⟩
    obtain ⟨g, rfl, -, hgl, hcap, d0, d1⟩ := HNR.out.cellAt hn hkn
    rw [hat] at d0 d1
    simp only at d0 d1
    rw [hfv] at CFD
    have i1 : (0 : Int) ≤ (k : Int) := by omega
    have i2 : (k : Int) < (n : Int) := by omega
    have HP : Hid (∀ wx, Below w.heap.size w wx → wx.cell? ⟨x, 2, none⟩ = some (.slice (some ⟨g, 0, none⟩) n ncap) ∧ wx.cell? ⟨g, k * 2 + 1, none⟩ = some (.int .i64 (v : Int))) := fun wx hb => ⟨(hb.cell (p := ⟨x, 2, none⟩) lx).trans c2, (hb.cell (p := ⟨g, k * 2 + 1, none⟩) hgl).trans d1⟩
    have CS := Lib.hid CST
    clear h hI hX ha hnl hr hK hD2 hns2 hvn hn hg hfv hat d0 CST c2 d1 hcap HNR
    unfold errX at CA
    unfold kstepV at CS
    go_enter Tryz.func66, Tryz.ntmps66
    go_wp2_with (first
      | (go_at_call 68; refine (CA.out _ (by go_grown)).mono ?_; rintro e w1 ⟨rfl, hb1⟩; rw [← hwb] at hb1; have B1 := Lib.hid (BQ.out.ext hb1); have HB1 := Lib.hid (ext HBW.out hb1); have E1 := Lib.hid (Blk.new w1 #[.int .i64 0, .slice none 0 0] 45); clear hb1)
      | (go_at_call 34; refine (ok_zero _ _).mono ?_; rintro e w2 ⟨rfl, hb2⟩; have HB2 := Lib.hid (show Below w1.heap.size w1 w2 from ext (by go_grown) hb2); have B2 := Lib.hid (B1.out.ext HB2.out); have HW2 : Hid (Below w.heap.size w w2) := Lib.hid (HB1.out.trans (HB2.out.mono HB1.out.size)); obtain ⟨x0, x1, x2, x3⟩ := B2.out.two; clear hb2))
    obtain ⟨z2, z3⟩ := HP.out w2 HW2.out
    clear x0 x1 x2 x3
    go_region_with (first
      | (go_at_call 83; refine (CFD.out _ (ext HW2.out (by go_grown))).mono ?_; rintro e w3 ⟨rfl, hb3⟩; have HB3 := Lib.hid (show Below w2.heap.size w2 w3 from ext (by go_grown) hb3); have HW3 : Hid (Below w.heap.size w w3) := Lib.hid (HW2.out.trans (HB3.out.mono HW2.out.size)); have B3 := Lib.hid (B2.out.ext HB3.out); obtain ⟨u2, u3⟩ := HP.out w3 HW3.out; clear hb3)
      | (go_at_call 84; refine (CS.out _ (ext HW3.out (by go_grown))).mono ?_; rintro e w4 ⟨he4, X4, hX4, hn4, hk4⟩; unfold errX at he4; subst he4; have HX4 := Lib.hid hX4; have HN4 := Lib.hid hn4; have HK4 := Lib.hid hk4; have B4 := Lib.hid (B3.out.of_block (hk4.block w.heap.size B3.out.lt (fun hh => absurd (H.out.lt hh) (Nat.lt_irrefl _)))); obtain ⟨x0, x1, x2, x3⟩ := B4.out.two; clear hX4 hn4 hk4))
    all_goals
      go_wp2
      obtain ⟨r0, r1, r2, r3⟩ := (B4.out.set2 (.int .i64 K) (.slice none 0 0)).two
      refine bodyPost_ret (by simp [results, Tryz.results66, go_sem, r0, r1, r2, r3]; try rfl) rfl ?_
      have hxlt := HX4.out.not_err B4.out (by omega)
      have K4 : Keep (X.has x) w w4 := (Keep.of_below HW3.out).trans (show Keep (X.has x) w3 w4 from ⟨HK4.out.os, HK4.out.tape, HK4.out.output, HK4.out.size, HK4.out.block⟩)
      refine ⟨rfl, X4, HX4.out.stays fun k hk => by rw [set_other _ _ _ _ k (hxlt k hk), set_other _ _ _ _ k (hxlt k hk)], fun j hj => ?_, Keep.set_new (Keep.set_new K4 (Nat.le_refl _) _) (Nat.le_refl _) _⟩
      rcases HN4.out j hj with h9 | h9
      · exact .inl h9
      · exact .inr (Nat.le_trans HW3.out.size h9)
  · obtain ⟨e1, e2⟩ := remD_not hr
    have e3 : nsBy (remE D a) ns (fileN D.names a) = ns := by unfold nsBy; rw [if_neg (by rw [e1]; exact hr)]
    rw [e3, e1, e2]
    have qk : (readE D a == 0) = false := by simpa using hr
    clear h hI hX ha hnl e1 e2 e3 hr
    generalize readE D a = k at *
    unfold errX at CA
    go_enter Tryz.func66, Tryz.ntmps66
    go_wp2_with (first
      | (go_at_call 68; refine (CA.out _ (by go_grown)).mono ?_; rintro e w1 ⟨rfl, hb1⟩; rw [← hwb] at hb1; have B1 := Lib.hid (BQ.out.ext hb1); have HB1 := Lib.hid hb1; have E1 := Lib.hid (Blk.new w1 #[.int .i64 k, .slice none 0 0] 45); clear hb1)
      | (go_at_call 34; refine (ok_ne k qk _ _).mono ?_; rintro e w2 ⟨rfl, hb2⟩; have E2 := Lib.hid (E1.out.ext hb2); have HB2 := Lib.hid (show Below w1.heap.size w1 w2 from ext (by go_grown) hb2); have B2 := Lib.hid (B1.out.ext HB2.out); obtain ⟨x0, x1, x2, x3⟩ := B2.out.two; obtain ⟨y0, y1, y2, y3⟩ := E2.out.two; clear hb2))
    obtain ⟨r0, r1, r2, r3⟩ := (B2.out.set2 (.int .i64 k) (.slice none 0 0)).two
    refine bodyPost_ret (by simp [results, Tryz.results66, go_sem, r0, r1, r2, r3]; try rfl) rfl ?_
    have HW2 : Below w.heap.size w w2 := (ext HBW.out HB1.out).trans (HB2.out.mono (ext HBW.out HB1.out).size)
    have hbb := below_set (below_set HW2 (Nat.le_refl _) (o := 0) (.int .i64 k)) (Nat.le_refl _) (o := 1) (.slice none 0 0)
    exact ⟨rfl, X, H.out.ext hbb, fun j hj => .inl hj, Keep.of_below hbb⟩
end

/-! The numbers of the document's disk, in plain Lean: kept by every operation; what a crash leaves. -/
section
section
variable {bs bs' ns : List Nat} {D : DS} {T : Nat}
theorem Ann.mono (h : ∀ b ∈ bs, b ∈ bs') : ∀ {l : List Stp} {m : NM} {ns : List Nat}, Ann bs m l ns → Ann bs' m l ns
  | [], _, [], _ => trivial
  | [], _, _ :: _, h1 => h1.elim
  | _ :: _, _, [], h1 => h1.elim
  | _ :: _, _, _ :: _, h1 => ⟨h _ h1.1, h1.2.1, h1.2.2.1, Ann.mono h h1.2.2.2⟩
theorem Ann.snoc {s : Stp} {n : Nat} (hn : n ∈ bs) (h0 : s.kind = 0 → n = s.file) : ∀ {l : List Stp} {m : NM} {ns : List Nat}, Ann bs m l ns → (s.kind ≠ 0 → nget (l.foldl actN m) s.name = some n) → Ann bs m (l ++ [s]) (ns ++ [n])
  | [], _, [], _, h1 => ⟨hn, h0, h1, trivial⟩
  | [], _, _ :: _, h, _ => h.elim
  | _ :: _, _, [], h, _ => h.elim
  | _ :: _, _, _ :: _, h, h1 => ⟨h.1, h.2.1, h.2.2.1, Ann.snoc hn h0 h.2.2.2 h1⟩
/-- Values of names are among the numbers, step by step. -/
theorem Ann.acts : ∀ {l : List Stp} {m : NM} {ns : List Nat}, Ann bs m l ns → (∀ q ∈ m, q.2 ∈ bs) → (∀ s ∈ l, s.kind = 1 → True) → ∀ q ∈ l.foldl actN m, q.2 ∈ bs
  | [], _, [], _, h1, _ => h1
  | [], _, _ :: _, h, _, _ => h.elim
  | _ :: _, _, [], h, _, _ => h.elim
  | s :: r, m, n :: t, h, h1, h2 => by
    refine Ann.acts (l := r) h.2.2.2 (fun q hq => ?_) (fun s hs => h2 s (by simp [hs]))
    unfold actN at hq
    split at hq
    · rename_i e
      rcases mem_nput hq with rfl | hq
      · show s.file ∈ bs; rw [← h.2.1 e]; exact h.1
      · exact h1 q hq
    · rename_i e0
      split at hq
      · rename_i e
        rcases mem_nput hq with rfl | hq
        · show fileN m s.name ∈ bs
          unfold fileN; rw [h.2.2.1 e0]; exact h.1
        · exact h1 q (mem_ndel hq)
      · exact h1 q (mem_ndel hq)
theorem Ann.take : ∀ (k : Nat) {l : List Stp} {m : NM} {ns : List Nat}, Ann bs m l ns → Ann bs m (l.take k) (ns.take k)
  | 0, _, _, _, _ => by rw [List.take_zero, List.take_zero]; trivial
  | _ + 1, [], _, [], _ => trivial
  | _ + 1, [], _, _ :: _, h => h.elim
  | _ + 1, _ :: _, _, [], h => h.elim
  | k + 1, _ :: _, _, _ :: _, h => ⟨h.1, h.2.1, h.2.2.1, Ann.take k h.2.2.2⟩
theorem Ann.at : ∀ {l : List Stp} {m : NM} {ns : List Nat}, Ann bs m l ns → ∀ {k : Nat}, k < l.length → ns.getD k 0 ∈ bs ∧ ((l.getD k ⟨0, [], [], 0⟩).kind = 0 → ns.getD k 0 = (l.getD k ⟨0, [], [], 0⟩).file) ∧ ((l.getD k ⟨0, [], [], 0⟩).kind ≠ 0 → nget ((l.take k).foldl actN m) (l.getD k ⟨0, [], [], 0⟩).name = some (ns.getD k 0))
  | [], _, [], _, _, hk => by simp at hk
  | [], _, _ :: _, h, _, _ => h.elim
  | _ :: _, _, [], h, _, _ => h.elim
  | _ :: _, _, _ :: _, h, 0, _ => ⟨h.1, h.2.1, h.2.2.1⟩
  | _ :: _, _, _ :: _, h, k + 1, hk => by
    have := Ann.at h.2.2.2 (k := k) (by simpa using hk)
    simpa using this
/-- One step done, the file's number written out. -/
theorem done_act {m : NM} {s : Stp} {n : Nat} (hk : s.kind ≤ 2) (h0 : s.kind = 0 → n = s.file) (h1 : s.kind ≠ 0 → nget m s.name = some n) : doneV m s n = actN m s := by
  unfold doneV actN
  by_cases e0 : s.kind = 0
  · rw [if_pos e0, if_pos e0, h0 e0]
  · rw [if_neg e0, if_neg e0]
    by_cases e1 : s.kind = 1
    · rw [if_pos e1, if_pos e1]
      have : fileN m s.name = n := by unfold fileN; rw [h1 e0]; rfl
      rw [this]
    · rw [if_neg e1, if_neg e1]

theorem XI.scal {D' : DS} (h : XI D bs ns) (ha : D'.all.length = D.all.length) (hn : D'.names = D.names) (hs : D'.safe = D.safe) (hst : D'.steps = D.steps) : XI D' bs ns :=
  ⟨by rw [hn]; exact h.srtN, by rw [hs]; exact h.srtS, h.asc, by rw [ha]; exact h.lt, by rw [hn]; exact h.valN, by rw [hs]; exact h.valS, by rw [hs, hst]; exact h.ann⟩
theorem XI.goesD (h : XI D bs ns) (x : Int) : XI (goesD D x) bs ns := by
  unfold Go.Proofs.YtdiaejphgcoknaaGreatDoor.goesD
  split
  · exact h
  · split
    · exact h
    · exact h.scal rfl rfl rfl rfl
/-- A step is written down. -/
theorem XI.step {D1 : DS} (h : XI D1 bs ns) (hE : D1.names = D1.steps.foldl actN D1.safe) {s : Stp} {n : Nat} (hn : n ∈ bs) (h0 : s.kind = 0 → n = s.file) (h1 : s.kind ≠ 0 → nget D1.names s.name = some n) : XI (doesD D1 s) bs (ns ++ [n]) := by
  refine ⟨h.srtN.actN s, h.srtS, h.asc, h.lt, ?_, h.valS, h.ann.snoc hn h0 (by rw [← hE]; exact h1)⟩
  have : Ann bs D1.names [s] [n] := ⟨hn, h0, h1, trivial⟩
  exact this.acts h.valN (fun _ _ _ => trivial)
def bsBy (k : Int) (bs : List Nat) (N : Nat) : List Nat := if k = 0 then bs ++ [N] else bs
theorem XI.made (h : XI D bs ns) : XI { D with all := D.all ++ [DF.nought] } (bs ++ [D.all.length]) ns := by
  refine ⟨h.srtN, h.srtS, ?_, ?_, fun q hq => List.mem_append_left _ (h.valN q hq), fun q hq => List.mem_append_left _ (h.valS q hq), h.ann.mono fun b hb => List.mem_append_left _ hb⟩
  · refine List.pairwise_append.2 ⟨h.asc, List.pairwise_singleton _ _, fun a ha b hb => ?_⟩
    rw [List.mem_singleton.1 hb]; exact h.lt a ha
  · intro b hb
    show b < (D.all ++ [DF.nought]).length
    rw [List.length_append, List.length_singleton]
    rcases List.mem_append.1 hb with hb | hb
    · have := h.lt b hb; omega
    · rw [List.mem_singleton.1 hb]; omega
theorem XI.createD (h : XI D bs ns) (hI : Inv D T) (n : Bs) : XI (createD D n) (bsBy (goesE D (createE D n)) bs D.all.length) (nsBy (goesE D (createE D n)) ns D.all.length) := by
  unfold Go.Proofs.YtdiaejphgcoknaaGreatDoor.createD bsBy nsBy
  split
  · rename_i hg
    obtain ⟨-, -, -, hd⟩ := goesE_zero hg
    rw [hd]
    have h1 : XI (fallD D) bs ns := h.scal rfl rfl rfl rfl
    exact h1.made.step hI.ends (List.mem_append_right _ (List.mem_singleton.2 rfl)) (fun _ => rfl) (fun e => absurd rfl e)
  · exact h.goesD _
theorem XI.appD (h : XI D bs ns) (n b : Bs) : XI (appD D n b) bs ns := by
  unfold Go.Proofs.YtdiaejphgcoknaaGreatDoor.appD
  split
  · exact h
  · exact h.scal (length_setF _ _ _) rfl rfl rfl
theorem XI.syncD (h : XI D bs ns) (n : Bs) : XI (syncD D n) bs ns := by
  unfold Go.Proofs.YtdiaejphgcoknaaGreatDoor.syncD
  split
  · exact h.scal (length_setF _ _ _) rfl rfl rfl
  · exact h.goesD _
theorem nget_fileN {m : NM} {a : Bs} {v : Nat} (h : nget m a = some v) : fileN m a = v := by unfold fileN; rw [h]; rfl
theorem XI.renD (h : XI D bs ns) (hI : Inv D T) (a b : Bs) : XI (renD D a b) bs (nsBy (renE D a b) ns (fileN D.names a)) := by
  unfold Go.Proofs.YtdiaejphgcoknaaGreatDoor.renD nsBy
  split
  · rename_i hg
    obtain ⟨-, h0, -, -⟩ := goesE_zero hg
    unfold renE0 at h0
    cases hb : namedB b with
    | false => rw [hb] at h0; simp at h0
    | true =>
      rw [hb] at h0
      obtain ⟨-, hn⟩ := thereE_zero (h0 : thereE D a = 0)
      have h1 : XI (fallD D) bs ns := h.scal rfl rfl rfl rfl
      exact h1.step (s := ⟨1, a, b, 0⟩) hI.ends (h.valN _ (mem_nget hn)) (fun e => by cases e) (fun _ => hn)
  · exact h.goesD _
theorem XI.remD (h : XI D bs ns) (hI : Inv D T) (a : Bs) : XI (remD D a) bs (nsBy (remE D a) ns (fileN D.names a)) := by
  unfold Go.Proofs.YtdiaejphgcoknaaGreatDoor.remD nsBy
  split
  · rename_i hg
    obtain ⟨-, h0, -, -⟩ := goesE_zero hg
    obtain ⟨-, hn⟩ := thereE_zero h0
    have h1 : XI (fallD D) bs ns := h.scal rfl rfl rfl rfl
    exact h1.step (s := ⟨2, a, [], 0⟩) hI.ends (h.valN _ (mem_nget hn)) (fun e => by cases e) (fun _ => hn)
  · exact h.goesD _
def nsS (k : Int) (ns : List Nat) : List Nat := if k = 0 then [] else ns
theorem XI.sdirD (h : XI D bs ns) : XI (sdirD D) bs (nsS (sdirE D) ns) := by
  unfold Go.Proofs.YtdiaejphgcoknaaGreatDoor.sdirD nsS
  split
  · exact ⟨h.srtN, h.srtN, h.asc, h.lt, h.valN, h.valN, trivial⟩
  · exact h.goesD _
theorem XI.armD (h : XI D bs ns) (n : Int) : XI (armD D n) bs ns := by
  unfold Go.Proofs.YtdiaejphgcoknaaGreatDoor.armD
  split
  · exact h
  · exact h.scal rfl rfl rfl rfl
theorem XI.new (room : Int) : XI (newD room) [] [] :=
  ⟨List.Pairwise.nil, List.Pairwise.nil, List.Pairwise.nil, fun b hb => (by simp at hb), fun q hq => (by simp [newD] at hq), fun q hq => (by simp [newD] at hq), trivial⟩

/-! grow -/
def growE (D : DS) (n : Int) : Int := if D.down then 10 else if n < 0 ∨ 16777216 - D.room < n then 3 else 0
def growD (D : DS) (n : Int) : DS := if growE D n = 0 then { D with room := D.room + n } else D
theorem growE_zero {n : Int} (h : growE D n = 0) : D.down = false ∧ 0 ≤ n ∧ n ≤ 16777216 - D.room := by
  unfold growE at h
  cases hd : D.down with
  | true => rw [hd] at h; simp at h
  | false =>
    rw [hd] at h
    by_cases e : n < 0 ∨ 16777216 - D.room < n
    · simp [e] at h
    · exact ⟨rfl, by omega, by omega⟩
theorem Inv.growD (h : Inv D T) (n : Int) : Inv (growD D n) (T + 3) := by
  unfold Go.Proofs.YtdiaejphgcoknaaGreatDoor.growD
  split
  · rename_i e
    obtain ⟨-, h1, h2⟩ := growE_zero e
    have := h.room
    exact Inv.mono (T := T) ⟨by show 0 ≤ D.room + n ∧ D.room + n ≤ 16777216; omega, h.done, h.armed, h.nam, h.stp, h.cnt, h.runs, h.ends, h.data⟩ (by omega)
  · exact h.mono (by omega)
theorem XI.growD (h : XI D bs ns) (n : Int) : XI (growD D n) bs ns := by
  unfold Go.Proofs.YtdiaejphgcoknaaGreatDoor.growD
  split
  · exact h.scal rfl rfl rfl rfl
  · exact h
end

/-! crash -/
def thereB (D : DS) (ns : List Nat) (b : Nat) : Bool := (D.safe.any fun q => q.2 == b) || ns.any fun n => n == b
theorem Ann.made {bs : List Nat} {N : Nat} : ∀ {l : List Stp} {m : NM} {ns : List Nat}, Ann bs m l ns → Runs N m l → ∀ n ∈ ns, (∃ k, nget m k = some n) ∨ ∃ s ∈ l, s.kind = 0 ∧ s.file = n
  | [], _, [], _, _, n, hn => by simp at hn
  | [], _, _ :: _, h, _, _, _ => h.elim
  | _ :: _, _, [], h, _, _, _ => h.elim
  | s :: r, m, n' :: t, h, hr, n, hn => by
    rcases List.mem_cons.1 hn with rfl | hn
    · by_cases e : s.kind = 0
      · exact .inr ⟨s, by simp, e, (h.2.1 e).symm⟩
      · exact .inl ⟨s.name, h.2.2.1 e⟩
    · obtain ⟨h1, h2, h3, h4, h5, h6, h7, h8⟩ := hr
      rcases Ann.made h.2.2.2 h8 n hn with ⟨k, hk⟩ | ⟨u, hu, h9⟩
      · have hone : Runs N m [s] := ⟨h1, h2, h3, h4, h5, h6, h7, h8.start⟩
        rcases nget_acts (l := [s]) hone hk with h9 | ⟨u, hu, h9⟩
        · exact .inl h9
        · exact .inr ⟨u, by rw [List.mem_singleton.1 hu]; simp, h9⟩
      · exact .inr ⟨u, by simp [hu], h9⟩
theorem Ann.has {bs : List Nat} : ∀ {l : List Stp} {m : NM} {ns : List Nat}, Ann bs m l ns → ∀ s ∈ l, s.kind = 0 → s.file ∈ ns
  | [], _, _, _, s, hs, _ => by simp at hs
  | _ :: _, _, [], h, _, _, _ => h.elim
  | u :: r, m, n :: t, h, s, hs, e => by
    rcases List.mem_cons.1 hs with rfl | hs
    · rw [← h.2.1 e]; simp
    · exact List.mem_cons_of_mem _ (Ann.has h.2.2.2 s hs e)
section
variable {bs ns : List Nat} {D : DS} {T : Nat}
theorem XI.left (h : XI D bs ns) (hI : Inv D T) (b : Nat) : b ∈ leftS D ↔ thereB D ns b = true := by
  have hm : b ∈ leftS D ↔ b ∈ leftN D := List.mem_mergeSort
  rw [hm]
  unfold leftN thereB
  rw [List.mem_append, Bool.or_eq_true, List.any_eq_true, List.any_eq_true]
  constructor
  · rintro (h1 | h1)
    · obtain ⟨k, hk, rfl⟩ := List.mem_map.1 h1
      obtain ⟨v, hv, hmem⟩ := mem_keysN hk
      exact .inl ⟨(k, v), hmem, by simp [nget_fileN hv]⟩
    · obtain ⟨s, hs, rfl⟩ := List.mem_map.1 h1
      obtain ⟨h2, h3⟩ := List.mem_filter.1 hs
      exact .inr ⟨s.file, h.ann.has s h2 (by simpa using h3), by simp⟩
  · rintro (⟨q, hq, e⟩ | ⟨n, hn, e⟩)
    · obtain rfl : q.2 = b := by simpa using e
      exact .inl (List.mem_map.2 ⟨q.1, List.mem_map.2 ⟨q, hq, rfl⟩, nget_fileN (nget_mem h.srtS.keys hq)⟩)
    · obtain rfl : n = b := by simpa using e
      rcases h.ann.made hI.runs n hn with ⟨k, hk⟩ | ⟨s, hs, e0, e1⟩
      · exact .inl (List.mem_map.2 ⟨k, mem_keys_of hk, nget_fileN hk⟩)
      · exact .inr (List.mem_map.2 ⟨s, List.mem_filter.2 ⟨hs, by simpa using e0⟩, e1⟩)
theorem XI.there_mem (h : XI D bs ns) {b : Nat} (hb : thereB D ns b = true) : b ∈ bs := by
  unfold thereB at hb
  rw [Bool.or_eq_true, List.any_eq_true, List.any_eq_true] at hb
  rcases hb with ⟨q, hq, e⟩ | ⟨n, hn, e⟩
  · obtain rfl : q.2 = b := by simpa using e
    exact h.valS q hq
  · obtain rfl : n = b := by simpa using e
    obtain ⟨k, hk, rfl⟩ := List.mem_iff_getElem.1 hn
    have := (h.ann.at (k := k) (by rw [← h.ann.len]; exact hk)).1
    rw [List.getD_eq_getElem?_getD, List.getElem?_eq_getElem hk] at this
    exact this
end
theorem set_nought (l : List DF) (a : Nat) (h : ¬ a < l.length) (f : DF) : setF l a f = l ∧ l.getD a DF.nought = DF.nought := by
  unfold setF
  exact ⟨List.set_eq_of_length_le (by omega), by rw [List.getD_eq_getElem?_getD, List.getElem?_eq_none (by omega)]; rfl⟩
theorem setF_self (l : List DF) (a : Nat) : setF l a (l.getD a DF.nought) = l := by
  unfold setF
  refine List.ext_getElem? fun k => ?_
  rw [List.getElem?_set]
  by_cases e : a = k
  · subst e
    by_cases h : a < l.length
    · simp [h, List.getD_eq_getElem?_getD]
    · simp [h, List.getElem?_eq_none (Nat.le_of_not_lt h)]
  · simp [e]
theorem cut_twice (picks : List Int) (s : List DF × Nat) (a : Nat) : cutStep picks (cutStep picks s a) a = cutStep picks s a := by
  obtain ⟨l, i⟩ := s
  unfold cutStep
  simp only
  by_cases h : a < l.length
  · have e : (setF l a (cutF picks i (l.getD a DF.nought))).getD a DF.nought = cutF picks i (l.getD a DF.nought) := by rw [getD_setF, if_pos ⟨rfl, h⟩]
    rw [e]
    have hs := cutF_safe picks i (l.getD a DF.nought)
    generalize cutF picks i (l.getD a DF.nought) = g at *
    have e2 : ∀ i', cutF picks i' g = g := fun i' => by unfold cutF; rw [if_neg (by omega), ← hs]
    have e3 : ∀ i', cutI i' g = i' := fun i' => by unfold cutI; rw [if_neg (by omega)]
    rw [e2, e3]
    congr 1
    unfold setF
    rw [List.set_set]
  · obtain ⟨h1, h2⟩ := set_nought l a h (cutF picks i (l.getD a DF.nought))
    rw [h1, h2]
    have e3 : ∀ i', cutI i' DF.nought = i' := fun i' => by unfold cutI DF.nought; simp
    rw [e3, e3, (set_nought l a h _).1]
/-- What lies twice is cut once. -/
theorem cut_same (picks : List Int) : ∀ {r c : List Nat} {s : List DF × Nat}, r.Pairwise (fun a b => a ≤ b) → c.Pairwise (fun a b => a < b) → (∀ b, b ∈ r ↔ b ∈ c) → r.foldl (cutStep picks) s = c.foldl (cutStep picks) s
  | [], [], _, _, _, _ => rfl
  | [], b :: c, _, _, _, h => absurd ((h b).2 (by simp)) (by simp)
  | a :: r, [], _, _, _, h => absurd ((h a).1 (by simp)) (by simp)
  | a :: r, b :: c, s, hr, hc, h => by
    obtain ⟨hr1, hr2⟩ := List.pairwise_cons.1 hr
    obtain ⟨hc1, hc2⟩ := List.pairwise_cons.1 hc
    have hab : a = b := by
      have h1 : a ≤ b := by
        rcases List.mem_cons.1 ((h b).2 (by simp)) with e | e
        · omega
        · exact hr1 b e
      have h2 : b ≤ a := by
        rcases List.mem_cons.1 ((h a).1 (by simp)) with e | e
        · omega
        · exact Nat.le_of_lt (hc1 a e)
      omega
    subst hab
    by_cases ha : a ∈ r
    · rw [List.foldl_cons]
      rw [cut_same picks (r := r) (c := a :: c) hr2 hc (fun x => by
        constructor
        · intro hx; exact (h x).1 (by simp [hx])
        · intro hx
          rcases List.mem_cons.1 hx with rfl | hx
          · exact ha
          · rcases List.mem_cons.1 ((h x).2 (by simp [hx])) with rfl | h9
            · exact ha
            · exact h9)]
      rw [List.foldl_cons, List.foldl_cons, cut_twice]
    · rw [List.foldl_cons, List.foldl_cons]
      refine cut_same picks hr2 hc2 fun x => ?_
      constructor
      · intro hx
        rcases List.mem_cons.1 ((h x).1 (by simp [hx])) with rfl | h9
        · exact absurd hx ha
        · exact h9
      · intro hx
        rcases List.mem_cons.1 ((h x).2 (by simp [hx])) with rfl | h9
        · have := hc1 x hx; omega
        · exact h9
/-- Cut, but what is safe is not told anew yet. -/
def keepF (picks : List Int) (i : Nat) (f : DF) : DF := ⟨(cutF picks i f).data, f.safe⟩
def keepStep (picks : List Int) (s : List DF × Nat) (n : Nat) : List DF × Nat := (setF s.1 n (keepF picks s.2 (s.1.getD n DF.nought)), cutI s.2 (s.1.getD n DF.nought))
def allSafe (f : DF) : DF := ⟨f.data, f.data.length⟩
theorem allSafe_keep (picks : List Int) (i : Nat) (f : DF) : allSafe (keepF picks i f) = cutF picks i f := by
  unfold allSafe keepF
  have := cutF_safe picks i f
  cases h : cutF picks i f with
  | mk d s => rw [h] at this; simp only at this ⊢; rw [this]
theorem nodup_snoc {c : List Nat} {a : Nat} (h : (c ++ [a]).Nodup) : c.Nodup ∧ a ∉ c := by
  obtain ⟨h1, -, h2⟩ := List.nodup_append.1 h
  exact ⟨h1, fun h3 => h2 a h3 a (by simp) rfl⟩
/-- Both ways of cutting, beside one another. -/
theorem keep_cut (picks : List Int) (l : List DF) (i : Nat) : ∀ n (c : List Nat), c.length = n → c.Nodup →
    (c.foldl (keepStep picks) (l, i)).2 = (c.foldl (cutStep picks) (l, i)).2 ∧ (c.foldl (keepStep picks) (l, i)).1.length = l.length ∧ (c.foldl (cutStep picks) (l, i)).1.length = l.length ∧
    (∀ b, ((c.foldl (keepStep picks) (l, i)).1.getD b DF.nought).safe = (l.getD b DF.nought).safe) ∧
    (∀ b, b ∉ c → (c.foldl (keepStep picks) (l, i)).1.getD b DF.nought = l.getD b DF.nought ∧ (c.foldl (cutStep picks) (l, i)).1.getD b DF.nought = l.getD b DF.nought) ∧
    (∀ b, b ∈ c → (c.foldl (cutStep picks) (l, i)).1.getD b DF.nought = allSafe ((c.foldl (keepStep picks) (l, i)).1.getD b DF.nought))
  | 0, c, hl, _ => by
    obtain rfl := List.length_eq_zero_iff.1 hl
    exact ⟨rfl, rfl, rfl, fun _ => rfl, fun _ _ => ⟨rfl, rfl⟩, fun b hb => by simp at hb⟩
  | n + 1, c, hl, hn => by
    obtain ⟨c, a, rfl⟩ : ∃ c' a, c = c' ++ [a] := by
      rcases List.eq_nil_or_concat c with h | ⟨c', a, h⟩
      · rw [h] at hl; simp at hl
      · exact ⟨c', a, by rw [h, List.concat_eq_append]⟩
    obtain ⟨hn1, ha⟩ := nodup_snoc hn
    obtain ⟨i1, i2, i3, i4, i5, i6⟩ := keep_cut picks l i n c (by simpa using hl) hn1
    rw [List.foldl_append, List.foldl_append]
    simp only [List.foldl_cons, List.foldl_nil]
    generalize c.foldl (keepStep picks) (l, i) = K at *
    generalize c.foldl (cutStep picks) (l, i) = C at *
    obtain ⟨e1, e2⟩ := i5 a ha
    unfold keepStep cutStep
    simp only
    rw [e1, e2, i1]
    refine ⟨rfl, by rw [length_setF]; exact i2, by rw [length_setF]; exact i3, fun b => ?_, fun b hb => ?_, fun b hb => ?_⟩
    · rw [getD_setF]
      split
      · rename_i h; rw [← h.1]; rfl
      · exact i4 b
    · have hb1 : b ∉ c := fun h => hb (List.mem_append_left _ h)
      have hb2 : ¬ (a = b ∧ b < K.1.length) := fun h => hb (by rw [h.1]; simp)
      have hb3 : ¬ (a = b ∧ b < C.1.length) := fun h => hb (by rw [h.1]; simp)
      rw [getD_setF, getD_setF, if_neg hb2, if_neg hb3]
      exact i5 b hb1
    · rw [getD_setF, getD_setF, i2, i3]
      by_cases e : a = b
      · subst e
        by_cases hlt : a < l.length
        · rw [if_pos ⟨rfl, hlt⟩, if_pos ⟨rfl, hlt⟩, allSafe_keep]
        · rw [if_neg (fun h => hlt h.2), if_neg (fun h => hlt h.2), e1, e2]
          have : l.getD a DF.nought = DF.nought := (set_nought l a hlt DF.nought).2
          rw [this]; rfl
      · rw [if_neg (fun h => e h.1), if_neg (fun h => e h.1)]
        rcases List.mem_append.1 hb with hb | hb
        · exact i6 b hb
        · exact absurd (List.mem_singleton.1 hb).symm e
section
variable {bs ns : List Nat} {D : DS} {T : Nat}
/-- The bodies of bs that are there, cut in a row: files behind k of them. -/
def crashK (picks : List Int) (D : DS) (bs ns : List Nat) (k : Nat) : List DF × Nat := ((bs.take k).filter (thereB D ns)).foldl (keepStep picks) (D.all, 1)
def ledB (m : NM) (b : Nat) : Bool := m.any fun q => q.2 == b
def crashB (picks : List Int) (D : DS) (bs : List Nat) : List Nat := bs.filter (ledB (crashN D picks))
theorem crashK_succ (picks : List Int) (D : DS) (bs ns : List Nat) {k : Nat} (h : k < bs.length) :
    crashK picks D bs ns (k + 1) = if thereB D ns (bs.getD k 0) then keepStep picks (crashK picks D bs ns k) (bs.getD k 0) else crashK picks D bs ns k := by
  unfold crashK
  rw [take_app bs 0 h, List.filter_append, List.foldl_append]
  by_cases e : thereB D ns (bs.getD k 0) = true
  · rw [if_pos e, List.filter_cons_of_pos e]; rfl
  · rw [if_neg e, List.filter_cons_of_neg e]; rfl
theorem XI.nodup (h : XI D bs ns) : bs.Nodup := h.asc.imp fun h => by omega
theorem XI.crashK (h : XI D bs ns) (picks : List Int) (k : Nat) : (∀ b, ((crashK picks D bs ns k).1.getD b DF.nought).safe = (D.file b).safe) ∧ (crashK picks D bs ns k).1.length = D.all.length ∧ (∀ b, b ∉ bs.take k → (crashK picks D bs ns k).1.getD b DF.nought = D.file b) := by
  have hn : ((bs.take k).filter (thereB D ns)).Nodup := (h.nodup.sublist (List.take_sublist _ _)).filter _
  obtain ⟨i1, i2, i3, i4, i5, i6⟩ := keep_cut picks D.all 1 _ _ rfl hn
  exact ⟨i4, i2, fun b hb => (i5 b fun h9 => hb (List.mem_filter.1 h9).1).1⟩
theorem XI.cut_all (h : XI D bs ns) (hI : Inv D T) (picks : List Int) : ∀ b, thereB D ns b = true → (crashD D picks).file b = allSafe ((Go.Proofs.YtdiaejphgcoknaaGreatDoor.crashK picks D bs ns bs.length).1.getD b DF.nought) := by
  intro b hb
  have hs : (leftS D).foldl (cutStep picks) (D.all, 1) = (bs.filter (thereB D ns)).foldl (cutStep picks) (D.all, 1) := by
    refine cut_same picks ?_ (h.asc.sublist List.filter_sublist) fun x => ?_
    · have := List.pairwise_mergeSort (le := fun a b : Nat => decide (a ≤ b)) (fun a b c h1 h2 => by simp at *; omega) (fun a b => by simp; omega) (leftN D)
      exact this.imp fun h => by simpa using h
    · rw [h.left hI x, List.mem_filter]
      exact ⟨fun hx => ⟨h.there_mem hx, hx⟩, fun hx => hx.2⟩
  have hn : (bs.filter (thereB D ns)).Nodup := h.nodup.filter _
  obtain ⟨i1, i2, i3, i4, i5, i6⟩ := keep_cut picks D.all 1 _ _ rfl hn
  have hmem : b ∈ bs.filter (thereB D ns) := List.mem_filter.2 ⟨h.there_mem hb, hb⟩
  show (cutTo picks (leftS D) D.all 1).getD b DF.nought = _
  rw [cutTo_foldl, hs, i6 b hmem]
  unfold Go.Proofs.YtdiaejphgcoknaaGreatDoor.crashK
  rw [List.take_length]
theorem XI.led_there (h : XI D bs ns) (hI : Inv D T) (picks : List Int) {b : Nat} (hb : ledB (crashN D picks) b = true) : thereB D ns b = true := by
  unfold ledB at hb
  obtain ⟨q, hq, e⟩ := List.any_eq_true.1 hb
  obtain rfl : q.2 = b := by simpa using e
  have hS : Srt (crashN D picks) := Srt.acts _ h.srtS
  exact (h.left hI q.2).1 (crashN_left hI picks (nget_mem hS.keys hq))
theorem XI.crashD (h : XI D bs ns) (hI : Inv D T) (picks : List Int) : XI (crashD D picks) (crashB picks D bs) [] := by
  have hS : Srt (crashN D picks) := Srt.acts _ h.srtS
  have hv : ∀ q ∈ crashN D picks, q.2 ∈ crashB picks D bs := fun q hq => by
    have hl : ledB (crashN D picks) q.2 = true := List.any_eq_true.2 ⟨q, hq, by simp⟩
    exact List.mem_filter.2 ⟨h.there_mem (h.led_there hI picks hl), hl⟩
  exact ⟨hS, hS, h.asc.sublist List.filter_sublist, fun b hb => by
    show b < (cutTo picks (leftS D) D.all 1).length
    rw [length_cutTo]; exact h.lt b (List.mem_filter.1 hb).1, hv, hv, trivial⟩
theorem crashN_step (h : XI D bs ns) (hI : Inv D T) {k : Nat} (hk : k < D.steps.length) : doneV ((D.steps.take k).foldl actN D.safe) (D.steps.getD k ⟨0, [], [], 0⟩) (ns.getD k 0) = (D.steps.take (k + 1)).foldl actN D.safe := by
  obtain ⟨-, h0, h1⟩ := h.ann.at hk
  have hkind : (D.steps.getD k ⟨0, [], [], 0⟩).kind ≤ 2 := by
    have := hI.runs.at hk
    exact this.1
  rw [done_act hkind h0 h1, take_app D.steps ⟨0, [], [], 0⟩ hk, List.foldl_append]; rfl
end
end

/-! The document's disk in memory: a body turns, a body more, the directory is made safe, what a crash leaves. -/
section
open Go.RowKit Go.Extern.Stop Go.Stop Go.Extern

section
variable {w w2 : World} {x : Nat} {X : XLay} {D : DS} {bs ns : List Nat}
theorem getD_inj {bs : List Nat} (h : bs.Pairwise (· < ·)) {i j : Nat} (hi : i < bs.length) (hj : j < bs.length) (he : bs.getD i 0 = bs.getD j 0) : i = j := by
  rw [List.getD_eq_getElem?_getD, List.getD_eq_getElem?_getD, List.getElem?_eq_getElem hi, List.getElem?_eq_getElem hj] at he
  simp only [Option.getD_some] at he
  rcases Nat.lt_trichotomy i j with h1 | h1 | h1
  · have := List.pairwise_iff_getElem.1 h i j hi hj h1; omega
  · exact h1
  · have := List.pairwise_iff_getElem.1 h j i hj hi h1; omega
theorem flatR_set2 {g h : Nat → List Value} {m n i c : Nat} {u : Value} (hg : ∀ i, (g i).length = m) (hh : ∀ i, (h i).length = m) (hi : i < n) (hc : c < m) (hs : h i = (g i).set c u) (ho : ∀ j, j < n → j ≠ i → h j = g j) :
    ((List.range n).flatMap g).set (i * m + c) u = (List.range n).flatMap h := by
  have e : (List.range n).flatMap h = (List.range n).flatMap (fun j => if j < n then h j else g j) := flatR_congr fun j hj => by simp [hj]
  rw [e]
  refine flatR_set hg (fun j => ?_) hi hc ?_ fun j hj => ?_
  · split
    · exact hh j
    · exact hg j
  · simp [hi, hs]
  · by_cases h1 : j < n
    · simp [h1, ho j h1 hj]
    · simp [h1]
theorem mem_at {bs : List Nat} {k : Nat} (h : k < bs.length) : bs.getD k 0 ∈ bs := by
  rw [List.getD_eq_getElem?_getD, List.getElem?_eq_getElem h]; exact List.getElem_mem h
theorem xat_set (dv : List Value) (k j : Nat) (u : Value) : (dv.set k u).getD j .nilIface = if k = j ∧ j < dv.length then u else dv.getD j .nilIface := by
  rw [List.getD_eq_getElem?_getD, List.getElem?_set]
  by_cases h : k = j
  · subst h
    by_cases h2 : k < dv.length
    · simp [h2]
    · simp [h2, List.getD_eq_getElem?_getD, List.getElem?_eq_none (Nat.le_of_not_lt h2)]
  · simp [h, List.getD_eq_getElem?_getD]
/-- The bodies' row has turned, and it alone; bodies of D' with bytes at dv. -/
theorem XP.bodies {D' : DS} {dv : List Value} {g n cap : Nat} {c : Nat} {u : Value} (h : XP w x X D bs ns) (hb : Below w.heap.size w w2) (hv : X.vb = .slice (some ⟨g, 0, none⟩) n cap) (hdv : dv.length = bs.length)
    (hcs : (bodycells D bs X.dv).set c u = bodycells D' bs dv) (hdat : ∀ j, j < bs.length → w2.ownsRow 0 5 1 (dv.getD j .nilIface) (D'.file (bs.getD j 0)).data.length (bcells (D'.file (bs.getD j 0)).data))
    (hr : D'.room = D.room) (ha : D'.all.length = D.all.length) (hn : D'.names = D.names) (hs : D'.safe = D.safe) (hst : D'.steps = D.steps) (har : D'.armed = D.armed) (hd : D'.down = D.down) (hdn : D'.done = D.done) :
    XP (w2.setCell ⟨g, c, none⟩ u) x { X with dv := dv } D' bs ns := by
  obtain ⟨o1, o2, o3, o4, o5⟩ := h.others
  have h2 := h.ext hb
  have so := set_other w2 g c u
  have hgx : g ≠ x := fun e => o1 (by rw [hv, e]; rfl)
  have hbr := h2.bod
  have hown : X.vb.ownBlock = some g := by rw [hv]; rfl
  have hne : ∀ {T sz n : Nat} {v : Value} {cs : List Value}, w2.ownsRow 0 T sz v n cs → T ≠ 116 → ∀ k, v.ownBlock = some k → k ≠ g := fun hr hT k hk e => by
    have := rows_ne hbr hr (Ne.symm hT) k hk
    rw [hown, e] at this; exact this rfl
  have ex : xcells { X with dv := dv } D' = xcells X D := by unfold xcells; rw [hr, ha, har, hd, hdn]
  refine ⟨?_, ?_, hdv, fun j hj => row_of_block (hdat j hj) fun k hk => so k (hne (hdat j hj) (by decide) k hk), ?_, ?_, ?_⟩
  · rw [ex]; exact h2.blk.of_block (so x (Ne.symm hgx))
  · show World.ownsRow _ 0 _ 3 X.vb bs.length (bodycells D' bs dv)
    rw [← hcs]
    have hn : bs.length = n := by obtain ⟨ao, cp, e⟩ := rowShape hbr; rw [hv] at e; exact (Value.slice.inj e).2.1.symm
    rw [hv, hn]
    rw [hv, hn] at hbr
    exact (hbr.stored c u).1
  · rw [hn]; exact row_of_block h2.nam fun k hk => so k (hne h2.nam (by decide) k hk)
  · rw [hs]; exact row_of_block h2.sur fun k hk => so k (hne h2.sur (by decide) k hk)
  · rw [hst]; exact row_of_block h2.stp fun k hk => so k (hne h2.stp (by decide) k hk)
theorem file_set (D : DS) (j i : Nat) (f : DF) : ({ D with all := setF D.all j f } : DS).file i = if j = i ∧ i < D.all.length then f else D.file i := getD_setF D.all j i f
/-- A body's bytes lie elsewhere. -/
theorem XP.setData (h : XP w x X D bs ns) (hX : bs.Pairwise (· < ·)) (hlt : ∀ b ∈ bs, b < D.all.length) (hb : Below w.heap.size w w2) {k g n cap : Nat} (hk : k < bs.length) (hv : X.vb = .slice (some ⟨g, 0, none⟩) n cap) {u : Value} {d : Bs} (hu : w2.ownsRow 0 5 1 u d.length (bcells d)) :
    XP (w2.setCell ⟨g, k * 3 + 1, none⟩ u) x { X with dv := X.dv.set k u } { D with all := setF D.all (bs.getD k 0) ⟨d, (D.file (bs.getD k 0)).safe⟩ } bs ns := by
  have hbl := hlt _ (mem_at hk)
  refine h.bodies hb hv (by rw [List.length_set]; exact h.len) ?_ (fun j hj => ?_) rfl (length_setF _ _ _) rfl rfl rfl rfl rfl rfl
  · unfold bodycells
    refine flatR_set2 (m := 3) (c := 1) (fun _ => rfl) (fun _ => rfl) hk (by decide) ?_ fun j hj hne => ?_
    · unfold bodyc; rw [file_set, if_pos ⟨rfl, hbl⟩, xat_set, if_pos ⟨rfl, by rw [h.len]; exact hk⟩]; rfl
    · unfold bodyc; rw [file_set, if_neg (fun e => hne (getD_inj hX hj hk e.1.symm)), xat_set, if_neg (fun e => hne e.1.symm)]
  · rw [file_set, xat_set]
    by_cases e : k = j
    · subst e; rw [if_pos ⟨rfl, by rw [h.len]; exact hk⟩, if_pos ⟨rfl, hbl⟩]; exact hu
    · rw [if_neg (fun e2 => e e2.1), if_neg (fun e2 => e (getD_inj hX hk hj e2.1))]; exact (h.ext hb).dat j hj
/-- More of a body's bytes are safe. -/
theorem XP.setSafe (h : XP w x X D bs ns) (hX : bs.Pairwise (· < ·)) (hlt : ∀ b ∈ bs, b < D.all.length) (hb : Below w.heap.size w w2) {k g n cap : Nat} (hk : k < bs.length) (hv : X.vb = .slice (some ⟨g, 0, none⟩) n cap) (s : Nat) :
    XP (w2.setCell ⟨g, k * 3 + 2, none⟩ (.int .i64 (s : Int))) x X { D with all := setF D.all (bs.getD k 0) ⟨(D.file (bs.getD k 0)).data, s⟩ } bs ns := by
  have hbl := hlt _ (mem_at hk)
  refine h.bodies (dv := X.dv) hb hv h.len ?_ (fun j hj => ?_) rfl (length_setF _ _ _) rfl rfl rfl rfl rfl rfl
  · unfold bodycells
    refine flatR_set2 (m := 3) (c := 2) (fun _ => rfl) (fun _ => rfl) hk (by decide) ?_ fun j hj hne => ?_
    · unfold bodyc; rw [file_set, if_pos ⟨rfl, hbl⟩]; rfl
    · unfold bodyc; rw [file_set, if_neg (fun e => hne (getD_inj hX hj hk e.1.symm))]
  · have h2 := (h.ext hb).dat j hj
    rw [file_set]
    split
    · rename_i e; rw [← e.1] at h2; exact h2
    · exact h2
theorem xhas_dv {k : Nat} {u : Value} {N j : Nat} (h : ({ X with dv := X.dv.set k u } : XLay).has x j) (hu : ∀ k, u.ownBlock = some k → N ≤ k) : X.has x j ∨ N ≤ j := by
  rcases h with h | h | h | h | h | ⟨i, hi, h⟩
  · exact .inl (.inl h)
  · exact .inl (.inr (.inl h))
  · exact .inl (.inr (.inr (.inl h)))
  · exact .inl (.inr (.inr (.inr (.inl h))))
  · exact .inl (.inr (.inr (.inr (.inr (.inl h)))))
  · have hi' : i < X.dv.length := by simpa using hi
    have h' : ((X.dv.set k u).getD i .nilIface).ownBlock = some j := h
    rw [xat_set] at h'
    split at h'
    · exact .inr (hu j h')
    · exact .inl (.inr (.inr (.inr (.inr (.inr ⟨i, hi', h'⟩)))))
/-- A new body is written down. -/
def body1 (N : Nat) : List Value := [.int .i64 (N : Int), .slice none 0 0, .int .i64 0]
theorem body1_one (N : Nat) : ∀ u ∈ body1 N, u.oneCell' = true := by
  intro u hu; unfold body1 at hu; simp at hu; rcases hu with rfl | rfl | rfl <;> rfl
theorem infoBody : (Tryz.prog.info? 116).map (fun i => (i.zero, i.size, i.bytes)) = some (some (.agg #[.int .i64 0, .slice none 0 0, .int .i64 0]), 3, 40) := by kernel_rfl
theorem file_made (D : DS) (i : Nat) : ({ D with all := D.all ++ [DF.nought] } : DS).file i = D.file i := by
  show (D.all ++ [DF.nought]).getD i DF.nought = D.all.getD i DF.nought
  rw [List.getD_eq_getElem?_getD, List.getD_eq_getElem?_getD]
  rcases Nat.lt_trichotomy i D.all.length with h | h | h
  · rw [List.getElem?_append_left h]
  · subst h; simp
  · rw [List.getElem?_eq_none (by simp; omega), List.getElem?_eq_none (by omega)]
theorem file_last (D : DS) : D.file D.all.length = DF.nought := by unfold DS.file; simp
theorem bodycells_made (D : DS) (bs : List Nat) (dv : List Value) (hl : dv.length = bs.length) : bodycells { D with all := D.all ++ [DF.nought] } (bs ++ [D.all.length]) (dv ++ [.slice none 0 0]) = bodycells D bs dv ++ body1 D.all.length := by
  unfold bodycells
  rw [List.length_append, List.length_singleton, List.range_succ, List.flatMap_append]
  congr 1
  · exact flatR_congr fun j hj => by unfold bodyc; rw [getD_appL hj, getD_appL (by rw [hl]; exact hj), file_made]
  · rw [List.flatMap_cons, List.flatMap_nil, List.append_nil]
    unfold bodyc body1
    rw [getD_appE, show (dv ++ [Value.slice none 0 0]).getD bs.length .nilIface = .slice none 0 0 from by rw [← hl]; exact getD_appE, file_made, file_last]; rfl
theorem XP.newBody (h : XP w x X D bs ns) {v : Value} (hg : w.grownBy w2 X.vb.ownBlock) (hrow : w2.ownsRow 0 116 3 v (bs.length + 1) (bodycells D bs X.dv ++ body1 D.all.length)) :
    XP ((w2.setCell ⟨x, 1, none⟩ v).setCell ⟨x, 5, none⟩ (.int .i64 ((D.all.length : Int) + 1))) x { X with vb := v, dv := X.dv ++ [.slice none 0 0] } { D with all := D.all ++ [DF.nought] } (bs ++ [D.all.length]) ns := by
  obtain ⟨o1, o2, o3, o4, o5⟩ := h.others
  have hB : Blk w2 x (xcells X D) 81 := h.blk.grown hg fun e => o1 e.symm
  have so : ∀ k, k ≠ x → ((w2.setCell ⟨x, 1, none⟩ v).setCell ⟨x, 5, none⟩ (.int .i64 ((D.all.length : Int) + 1))).heap[k]? = w2.heap[k]? := fun k hk => by rw [set_other _ _ _ _ k hk, set_other _ _ _ _ k hk]
  have keep : ∀ {T sz n : Nat} {u : Value} {cs : List Value}, w.ownsRow 0 T sz u n cs → T ≠ 116 → u.ownBlock ≠ some x → ((w2.setCell ⟨x, 1, none⟩ v).setCell ⟨x, 5, none⟩ (.int .i64 ((D.all.length : Int) + 1))).ownsRow 0 T sz u n cs := fun hr hT hx => row_of_block (row_grown hr hg (rows_ne h.bod hr (Ne.symm hT))) fun k hk => so k fun e => hx (e ▸ hk)
  have ex : xcells { X with vb := v, dv := X.dv ++ [.slice none 0 0] } { D with all := D.all ++ [DF.nought] } = ((xcells X D).setIfInBounds 1 v).setIfInBounds 5 (.int .i64 ((D.all.length : Int) + 1)) := by simp [xcells]
  refine ⟨by rw [ex]; exact (hB.set 1 v).set 5 _, ?_, by simp [h.len], fun j hj => ?_, keep h.nam (by decide) o2, keep h.sur (by decide) o3, keep h.stp (by decide) o4⟩
  · rw [bodycells_made _ _ _ h.len, List.length_append, List.length_singleton]
    exact row_of_block hrow fun k hk => so k fun e => blk_row hB hrow (by decide) (e ▸ hk)
  · rw [file_made]
    show World.ownsRow _ 0 _ 1 ((X.dv ++ [Value.slice none 0 0]).getD j .nilIface) _ _
    by_cases hjl : j < bs.length
    · rw [getD_appL hjl, getD_appL (by rw [h.len]; exact hjl)]
      exact keep (h.dat j hjl) (by decide) (o5 j hjl)
    · obtain rfl : j = bs.length := by rw [List.length_append, List.length_singleton] at hj; omega
      rw [getD_appE, show (X.dv ++ [Value.slice none 0 0]).getD bs.length .nilIface = .slice none 0 0 from by rw [← h.len]; exact getD_appE, file_last]
      exact World.ownsRow_nil _ _ _ 1
theorem xhas_made {v : Value} {N k : Nat} (h : ({ X with vb := v, dv := X.dv ++ [Value.slice none 0 0] } : XLay).has x k) (hv : ∀ k, v.ownBlock = some k → X.vb.ownBlock = some k ∨ N ≤ k) : X.has x k ∨ N ≤ k := by
  rcases h with h | h | h | h | h | ⟨i, hi, h⟩
  · exact .inl (.inl h)
  · rcases hv k h with h | h
    · exact .inl (.inr (.inl h))
    · exact .inr h
  · exact .inl (.inr (.inr (.inl h)))
  · exact .inl (.inr (.inr (.inr (.inl h))))
  · exact .inl (.inr (.inr (.inr (.inr (.inl h)))))
  · have hi' : i < X.dv.length + 1 := by simpa using hi
    have h' : ((X.dv ++ [Value.slice none 0 0]).getD i .nilIface).ownBlock = some k := h
    by_cases hil : i < X.dv.length
    · rw [getD_appL hil] at h'
      exact .inl (.inr (.inr (.inr (.inr (.inr ⟨i, hil, h'⟩)))))
    · obtain rfl : i = X.dv.length := by omega
      rw [getD_appE] at h'; simp [Value.ownBlock] at h'
/-- The directory is made safe. -/
theorem XP.surely (h : XP w x X D bs ns) {v : Value} (hb : Below w.heap.size w w2) (hn : NRow w2 w.heap.size v D.names) : XP ((w2.setCell ⟨x, 3, none⟩ v).setCell ⟨x, 4, none⟩ (.slice none 0 0)) x { X with vu := v, vt := .slice none 0 0 } { D with safe := D.names, steps := [] } bs [] := by
  obtain ⟨o1, o2, o3, o4, o5⟩ := h.others
  have h2 := h.ext hb
  have so : ∀ k, k ≠ x → ((w2.setCell ⟨x, 3, none⟩ v).setCell ⟨x, 4, none⟩ (.slice none 0 0)).heap[k]? = w2.heap[k]? := fun k hk => by rw [set_other _ _ _ _ k hk, set_other _ _ _ _ k hk]
  have lx := h.blk.lt
  refine ⟨(h2.blk.set 3 v).set 4 _, row_of_block h2.bod fun k hk => so k fun e => o1 (e ▸ hk), h.len, fun j hj => row_of_block (h2.dat j hj) fun k hk => so k fun e => o5 j hj (e ▸ hk), row_of_block h2.nam fun k hk => so k fun e => o2 (e ▸ hk), ?_, World.ownsRow_nil _ _ _ 4⟩
  exact row_of_block (row_mono hn (Nat.zero_le _)) fun k hk => so k fun e => by have := (hn.lt k hk).1; omega
theorem xhas_surely {v : Value} {N k : Nat} (h : ({ X with vu := v, vt := Value.slice none 0 0 } : XLay).has x k) (hv : ∀ k, v.ownBlock = some k → N ≤ k) : X.has x k ∨ N ≤ k := by
  rcases h with h | h | h | h | h | h
  · exact .inl (.inl h)
  · exact .inl (.inr (.inl h))
  · exact .inl (.inr (.inr (.inl h)))
  · exact .inr (hv k h)
  · simp [Value.ownBlock] at h
  · exact .inl (.inr (.inr (.inr (.inr (.inr h)))))
end
end

/-! kinref5: Rename: contract. -/
section
open Go.RowKit Go.Extern.Stop Go.Stop Go.Extern

theorem goesE_up {D : DS} {x : Int} (hd : D.down = false) (h : x ≠ 0) : goesE D x = x ∧ goesD D x = D := by
  unfold goesE goesD
  rw [hd]
  simp [h]
theorem renD_not {D : DS} {a b : Bs} (h : readE D a ≠ 0) (hn : D.down = true ∨ namedB b = true) : renE D a b = readE D a ∧ renD D a b = D := by
  have h1 : goesE D (renE0 D a b) = readE D a ∧ goesD D (renE0 D a b) = D := by
    cases hd : D.down with
    | true =>
      unfold goesE goesD readE
      rw [hd]; simp
    | false =>
      have hb : namedB b = true := by
        rcases hn with hn | hn
        · rw [hd] at hn; cases hn
        · exact hn
      have e : renE0 D a b = thereE D a := by unfold renE0; rw [hb]; rfl
      rw [e]; exact goesE_read h
  refine ⟨h1.1, ?_⟩
  unfold renD renE
  rw [if_neg (by rw [h1.1]; exact h), h1.2]
theorem renD_six {D : DS} {a b : Bs} (hd : D.down = false) (h : namedB b = false ∨ namedB a = false) : renE D a b = 6 ∧ renD D a b = D := by
  have e : renE0 D a b = 6 := by
    unfold renE0 thereE
    rcases h with h | h
    · rw [h]; rfl
    · rw [h]; cases namedB b <;> rfl
  obtain ⟨h1, h2⟩ := goesE_up (x := 6) hd (by decide)
  have e1 : renE D a b = 6 := by unfold renE; rw [e]; exact h1
  refine ⟨e1, ?_⟩
  unfold renD
  rw [if_neg (by rw [e1]; decide), e]; exact h2
theorem renD_down {D : DS} {a b : Bs} (h : readE D a = 0) (hb : namedB b = true) (hd : downF D = true) : renE D a b = 10 ∧ renD D a b = fallD D := by
  have e : renE0 D a b = thereE D a := by unfold renE0; rw [hb]; rfl
  obtain ⟨h1, h2, -, -⟩ := goesE_ready h
  rw [hd, if_pos rfl] at h1
  have e1 : renE D a b = 10 := by unfold renE; rw [e]; exact h1
  refine ⟨e1, ?_⟩
  unfold renD
  rw [if_neg (by rw [e1]; decide), e]; exact h2
theorem renD_up {D : DS} {a b : Bs} (h : readE D a = 0) (hb : namedB b = true) (hd : downF D = false) : renE D a b = 0 ∧ renD D a b = stepXD D ⟨1, a, b, 0⟩ (fileN D.names a) := by
  have e : renE0 D a b = thereE D a := by unfold renE0; rw [hb]; rfl
  obtain ⟨h1, h2, -, -⟩ := goesE_ready h
  rw [hd, if_neg (by simp)] at h1
  have e1 : renE D a b = 0 := by unfold renE; rw [e]; exact h1
  refine ⟨e1, ?_⟩
  unfold renD
  rw [if_pos e1]; rfl
set_option maxRecDepth 100000 in
set_option maxHeartbeats 16000000 in
theorem xrename_any (x : Nat) (X : XLay) (D : DS) (bs ns : List Nat) (a b : Bs) (T : Nat) (w : World) (h : XP w x X D bs ns) (hI : Inv D T) (hT : T ≤ 100000) (hX : XI D bs ns) (ha : a.length ≤ maxLen) (hb : b.length ≤ maxLen) :
    Calls Tryz.prog 65 #[.pointer (some ⟨x, 0, none⟩), .string ⟨a.toArray⟩, .string ⟨b.toArray⟩] w (XPost x X (renE D a b) (renD D a b) bs (nsBy (renE D a b) ns (fileN D.names a)) w) := by
  have H := Lib.hid h
  have hnl := hI.nam
  have CA := Lib.hid (fun w' (hb : Below w.heap.size w w') => xasks_any x X D bs ns a w' (h.ext hb) (by omega) ha)
  obtain ⟨wb, hwb⟩ : ∃ wb, wb = w.alloc (.cells #[.int .i64 0, .slice none 0 0] 45) := ⟨_, rfl⟩
  have BQ := Lib.hid (show Blk wb w.heap.size #[.int .i64 0, .slice none 0 0] 45 from by rw [hwb]; exact Blk.new w _ _)
  have HBW := Lib.hid (show Below w.heap.size w wb from by rw [hwb]; go_grown)
  have lx := h.blk.lt
  have c7 : w.cell? ⟨x, 7, none⟩ = some (.bool D.down) := h.cell 7
  have six : renE D a b = 6 → nsBy (renE D a b) ns (fileN D.names a) = ns := fun h => by unfold nsBy; rw [h]; rfl
  cases hdn : D.down with
  | true =>
    have hr : readE D a ≠ 0 := by unfold readE; rw [hdn, if_pos rfl]; decide
    have hnn : D.down = true ∨ namedB b = true := .inl hdn
    have CGA := Lib.hid (fun w' => good_any a ha w')
    have CGB := Lib.hid (fun w' => good_any b hb w')
    rw [hdn] at c7
    clear hdn
    obtain ⟨e1, e2⟩ := renD_not hr hnn
    have e3 : nsBy (renE D a b) ns (fileN D.names a) = ns := by unfold nsBy; rw [if_neg (by rw [e1]; exact hr)]
    rw [e3, e1, e2]
    have qk : (readE D a == 0) = false := by simpa using hr
    clear h hI hX ha hnl e1 e2 e3 hr
    generalize readE D a = k at *
    unfold errX at CA
    go_enter Tryz.func65, Tryz.ntmps65
    go_wp2_with (first
      | (go_at_call 68; refine (CA.out _ (by go_grown)).mono ?_; rintro e w1 ⟨rfl, hb1⟩; rw [← hwb] at hb1; have B1 := Lib.hid (BQ.out.ext hb1); have HB1 := Lib.hid hb1; have E1 := Lib.hid (Blk.new w1 #[.int .i64 k, .slice none 0 0] 45); clear hb1)
      | (go_at_call 34; refine (ok_ne k qk _ _).mono ?_; rintro e w2 ⟨rfl, hb2⟩; have E2 := Lib.hid (E1.out.ext hb2); have HB2 := Lib.hid (show Below w1.heap.size w1 w2 from ext (by go_grown) hb2); have B2 := Lib.hid (B1.out.ext HB2.out); obtain ⟨x0, x1, x2, x3⟩ := B2.out.two; obtain ⟨y0, y1, y2, y3⟩ := E2.out.two; clear hb2))
    obtain ⟨r0, r1, r2, r3⟩ := (B2.out.set2 (.int .i64 k) (.slice none 0 0)).two
    refine bodyPost_ret (by simp [results, Tryz.results65, go_sem, r0, r1, r2, r3]; try rfl) rfl ?_
    have HW2 : Below w.heap.size w w2 := (ext HBW.out HB1.out).trans (HB2.out.mono (ext HBW.out HB1.out).size)
    have hbb := below_set (below_set HW2 (Nat.le_refl _) (o := 0) (.int .i64 k)) (Nat.le_refl _) (o := 1) (.slice none 0 0)
    exact ⟨rfl, X, H.out.ext hbb, fun j hj => .inl hj, Keep.of_below hbb⟩

  | false =>
    cases hga : namedB a with
    | false =>
      obtain ⟨e1, e2⟩ := renD_six (a := a) (b := b) hdn (.inr hga)
      have e3 := six e1
      have CGA := Lib.hid (fun w' => good_any a ha w')
      have CGB := Lib.hid (fun w' => good_any b hb w')
      rw [e1] at e3 ⊢
      rw [e2, e3]
      rw [hga] at CGA
      rw [hdn] at c7
      clear h hI hX ha hb hnl e1 e2 e3 hdn CA hga
      go_enter Tryz.func65, Tryz.ntmps65
      go_wp2_with fail
      refine (CGA.out _).mono ?_
      rintro e w' ⟨rfl, rfl⟩
      go_wp2_with (first
        | (go_at_call 22; refine (fail_any _ _).mono ?_; rintro e w1 ⟨rfl, hb1⟩; rw [← hwb] at hb1; have B1 := Lib.hid (BQ.out.ext hb1); have HB1 := Lib.hid (ext HBW.out hb1); obtain ⟨x0, x1, x2, x3⟩ := B1.out.two; clear hb1))
      obtain ⟨r0, r1, r2, r3⟩ := (B1.out.set2 (.int .i64 6) (.slice none 0 0)).two
      refine bodyPost_ret (by simp [results, Tryz.results65, go_sem, r0, r1, r2, r3]; try rfl) rfl ?_
      have hbb := below_set (below_set HB1.out (Nat.le_refl _) (o := 0) (.int .i64 6)) (Nat.le_refl _) (o := 1) (.slice none 0 0)
      exact ⟨rfl, X, H.out.ext hbb, fun j hj => .inl hj, Keep.of_below hbb⟩
    | true =>
      cases hnb : namedB b with
      | false =>
        obtain ⟨e1, e2⟩ := renD_six (a := a) (b := b) hdn (.inl hnb)
        have e3 := six e1
        have CGA := Lib.hid (fun w' => good_any a ha w')
        have CGB := Lib.hid (fun w' => good_any b hb w')
        rw [e1] at e3 ⊢
        rw [e2, e3]
        rw [hga] at CGA
        rw [hnb] at CGB
        rw [hdn] at c7
        clear h hI hX ha hb hnl e1 e2 e3 hdn CA hga hnb
        go_enter Tryz.func65, Tryz.ntmps65
        go_wp2_with fail
        refine (CGA.out _).mono ?_
        rintro e w' ⟨rfl, rfl⟩
        go_wp2_with fail
        refine (CGB.out _).mono ?_
        rintro e w' ⟨rfl, rfl⟩
        go_wp2_with (first
          | (go_at_call 22; refine (fail_any _ _).mono ?_; rintro e w1 ⟨rfl, hb1⟩; rw [← hwb] at hb1; have B1 := Lib.hid (BQ.out.ext hb1); have HB1 := Lib.hid (ext HBW.out hb1); obtain ⟨x0, x1, x2, x3⟩ := B1.out.two; clear hb1))
        obtain ⟨r0, r1, r2, r3⟩ := (B1.out.set2 (.int .i64 6) (.slice none 0 0)).two
        refine bodyPost_ret (by simp [results, Tryz.results65, go_sem, r0, r1, r2, r3]; try rfl) rfl ?_
        have hbb := below_set (below_set HB1.out (Nat.le_refl _) (o := 0) (.int .i64 6)) (Nat.le_refl _) (o := 1) (.slice none 0 0)
        exact ⟨rfl, X, H.out.ext hbb, fun j hj => .inl hj, Keep.of_below hbb⟩
      | true =>
        have hnn : D.down = true ∨ namedB b = true := .inr hnb
        have CGA := Lib.hid (fun w' => good_any a ha w')
        have CGB := Lib.hid (fun w' => good_any b hb w')
        rw [hga] at CGA
        rw [hnb] at CGB
        rw [hdn] at c7
        clear hdn hga
        by_cases hr : readE D a = 0
        · obtain ⟨K, D2, ns2, hK, hD2, hns2, CST⟩ : ∃ K D2 ns2, renE D a b = K ∧ renD D a b = D2 ∧ nsBy (renE D a b) ns (fileN D.names a) = ns2 ∧ ∀ w', Below w.heap.size w w' → Calls Tryz.prog 84 #[.pointer (some ⟨x, 0, none⟩), kstepV ⟨1, a, b, 0⟩ (fileN D.names a)] w' (XPost x X K D2 bs ns2 w') := by
            cases hd : downF D with
            | true =>
              obtain ⟨e1, e2⟩ := renD_down hr hnb hd
              exact ⟨10, fallD D, ns, e1, e2, by unfold nsBy; rw [e1]; rfl, fun w' hb => xstep_down x X D bs ns _ _ T w' (h.ext hb) hI hT hd⟩
            | false =>
              obtain ⟨e1, e2⟩ := renD_up hr hnb hd
              have hfl : fileN D.names a ≤ 1000000 := by have := hI.fileN_lt (goesE_ready hr).2.2.2; have := hI.cnt; omega
              exact ⟨0, _, ns ++ [fileN D.names a], e1, e2, by unfold nsBy; rw [e1]; rfl, fun w' hb => xstep_up x X D bs ns _ _ T w' (h.ext hb) hI hT hX (by show 1 ≤ 2; omega) hfl hd⟩
          rw [hns2, hK, hD2]
          obtain ⟨-, hg⟩ := thereE_zero (goesE_ready hr).2.2.2
          rw [hr] at CA
          generalize fileN D.names a = v at *
          obtain ⟨no', ncap, hvn⟩ := rowShape h.nam
          obtain ⟨n, hn⟩ : ∃ n, D.names.length = n := ⟨_, rfl⟩
          rw [hn] at hvn
          have c2 : w.cell? ⟨x, 2, none⟩ = some (.slice no' n ncap) := (h.cell 2).trans (congrArg some hvn)
          have HNR := Lib.hid (show NRow w 0 (.slice no' n ncap) D.names from hvn ▸ h.nam)
          have CFD := Lib.hid (fun w' (hb : Below w.heap.size w w') => find_any (.slice no' n ncap) D.names a 0 w' (HNR.out.ext hb) (by omega))
          obtain ⟨k, hkn, hfv, hat⟩ : ∃ k, k < n ∧ findV D.names a = (k : Int) ∧ D.names.getD k ([], 0) = (a, v) := by
            rcases findV_cases D.names a with ⟨h9, _⟩ | ⟨k, v', h1, h2, h3, h4⟩
            · rw [hg] at h9; cases h9
            · rw [hg] at h2; obtain rfl := Option.some.inj h2
              exact ⟨k, by omega, h3, h4⟩
          obtain ⟨g, rfl, -, hgl, hcap, d0, d1⟩ := HNR.out.cellAt hn hkn
          rw [hat] at d0 d1
          simp only at d0 d1
          rw [hfv] at CFD
          have i1 : (0 : Int) ≤ (k : Int) := by omega
          have i2 : (k : Int) < (n : Int) := by omega
          have HP : Hid (∀ wx, Below w.heap.size w wx → wx.cell? ⟨x, 2, none⟩ = some (.slice (some ⟨g, 0, none⟩) n ncap) ∧ wx.cell? ⟨g, k * 2 + 1, none⟩ = some (.int .i64 (v : Int))) := fun wx hb => ⟨(hb.cell (p := ⟨x, 2, none⟩) lx).trans c2, (hb.cell (p := ⟨g, k * 2 + 1, none⟩) hgl).trans d1⟩
          have CS := Lib.hid CST
          clear h hI hX ha hnl hr hK hD2 hns2 hvn hn hg hfv hat d0 CST c2 d1 hcap HNR
          unfold errX at CA
          unfold kstepV at CS
          go_enter Tryz.func65, Tryz.ntmps65
          go_wp2_with fail
          refine (CGA.out _).mono ?_
          rintro e w' ⟨rfl, rfl⟩
          go_wp2_with fail
          refine (CGB.out _).mono ?_
          rintro e w' ⟨rfl, rfl⟩
          go_wp2_with (first
            | (go_at_call 68; refine (CA.out _ (by go_grown)).mono ?_; rintro e w1 ⟨rfl, hb1⟩; rw [← hwb] at hb1; have B1 := Lib.hid (BQ.out.ext hb1); have HB1 := Lib.hid (ext HBW.out hb1); have E1 := Lib.hid (Blk.new w1 #[.int .i64 0, .slice none 0 0] 45); clear hb1)
            | (go_at_call 34; refine (ok_zero _ _).mono ?_; rintro e w2 ⟨rfl, hb2⟩; have HB2 := Lib.hid (show Below w1.heap.size w1 w2 from ext (by go_grown) hb2); have B2 := Lib.hid (B1.out.ext HB2.out); have HW2 : Hid (Below w.heap.size w w2) := Lib.hid (HB1.out.trans (HB2.out.mono HB1.out.size)); obtain ⟨x0, x1, x2, x3⟩ := B2.out.two; clear hb2))
          obtain ⟨z2, z3⟩ := HP.out w2 HW2.out
          clear x0 x1 x2 x3
          go_region_with (first
            | (go_at_call 83; refine (CFD.out _ (ext HW2.out (by go_grown))).mono ?_; rintro e w3 ⟨rfl, hb3⟩; have HB3 := Lib.hid (show Below w2.heap.size w2 w3 from ext (by go_grown) hb3); have HW3 : Hid (Below w.heap.size w w3) := Lib.hid (HW2.out.trans (HB3.out.mono HW2.out.size)); have B3 := Lib.hid (B2.out.ext HB3.out); obtain ⟨u2, u3⟩ := HP.out w3 HW3.out; clear hb3)
            | (go_at_call 84; refine (CS.out _ (ext HW3.out (by go_grown))).mono ?_; rintro e w4 ⟨he4, X4, hX4, hn4, hk4⟩; unfold errX at he4; subst he4; have HX4 := Lib.hid hX4; have HN4 := Lib.hid hn4; have HK4 := Lib.hid hk4; have B4 := Lib.hid (B3.out.of_block (hk4.block w.heap.size B3.out.lt (fun hh => absurd (H.out.lt hh) (Nat.lt_irrefl _)))); obtain ⟨x0, x1, x2, x3⟩ := B4.out.two; clear hX4 hn4 hk4))
          all_goals
            go_wp2
            obtain ⟨r0, r1, r2, r3⟩ := (B4.out.set2 (.int .i64 K) (.slice none 0 0)).two
            refine bodyPost_ret (by simp [results, Tryz.results65, go_sem, r0, r1, r2, r3]; try rfl) rfl ?_
            have hxlt := HX4.out.not_err B4.out (by omega)
            have K4 : Keep (X.has x) w w4 := (Keep.of_below HW3.out).trans (show Keep (X.has x) w3 w4 from ⟨HK4.out.os, HK4.out.tape, HK4.out.output, HK4.out.size, HK4.out.block⟩)
            refine ⟨rfl, X4, HX4.out.stays fun k hk => by rw [set_other _ _ _ _ k (hxlt k hk), set_other _ _ _ _ k (hxlt k hk)], fun j hj => ?_, Keep.set_new (Keep.set_new K4 (Nat.le_refl _) _) (Nat.le_refl _) _⟩
            rcases HN4.out j hj with h9 | h9
            · exact .inl h9
            · exact .inr (Nat.le_trans HW3.out.size h9)
        · obtain ⟨e1, e2⟩ := renD_not hr hnn
          have e3 : nsBy (renE D a b) ns (fileN D.names a) = ns := by unfold nsBy; rw [if_neg (by rw [e1]; exact hr)]
          rw [e3, e1, e2]
          have qk : (readE D a == 0) = false := by simpa using hr
          clear h hI hX ha hnl e1 e2 e3 hr
          generalize readE D a = k at *
          unfold errX at CA
          go_enter Tryz.func65, Tryz.ntmps65
          go_wp2_with fail
          refine (CGA.out _).mono ?_
          rintro e w' ⟨rfl, rfl⟩
          go_wp2_with fail
          refine (CGB.out _).mono ?_
          rintro e w' ⟨rfl, rfl⟩
          go_wp2_with (first
            | (go_at_call 68; refine (CA.out _ (by go_grown)).mono ?_; rintro e w1 ⟨rfl, hb1⟩; rw [← hwb] at hb1; have B1 := Lib.hid (BQ.out.ext hb1); have HB1 := Lib.hid hb1; have E1 := Lib.hid (Blk.new w1 #[.int .i64 k, .slice none 0 0] 45); clear hb1)
            | (go_at_call 34; refine (ok_ne k qk _ _).mono ?_; rintro e w2 ⟨rfl, hb2⟩; have E2 := Lib.hid (E1.out.ext hb2); have HB2 := Lib.hid (show Below w1.heap.size w1 w2 from ext (by go_grown) hb2); have B2 := Lib.hid (B1.out.ext HB2.out); obtain ⟨x0, x1, x2, x3⟩ := B2.out.two; obtain ⟨y0, y1, y2, y3⟩ := E2.out.two; clear hb2))
          obtain ⟨r0, r1, r2, r3⟩ := (B2.out.set2 (.int .i64 k) (.slice none 0 0)).two
          refine bodyPost_ret (by simp [results, Tryz.results65, go_sem, r0, r1, r2, r3]; try rfl) rfl ?_
          have HW2 : Below w.heap.size w w2 := (ext HBW.out HB1.out).trans (HB2.out.mono (ext HBW.out HB1.out).size)
          have hbb := below_set (below_set HW2 (Nat.le_refl _) (o := 0) (.int .i64 k)) (Nat.le_refl _) (o := 1) (.slice none 0 0)
          exact ⟨rfl, X, H.out.ext hbb, fun j hj => .inl hj, Keep.of_below hbb⟩
end

/-! kinref5: Arm: contract. -/
section
open Go.RowKit Go.Extern.Stop Go.Stop Go.Extern

theorem xarm_any (x : Nat) (X : XLay) (D : DS) (bs ns : List Nat) (n : Int) (w : World) (h : XP w x X D bs ns) :
    Calls Tryz.prog 46 #[.pointer (some ⟨x, 0, none⟩), .int .i64 n] w fun e w' => e = .returned (.tuple #[]) ∧ XP w' x X (armD D n) bs ns ∧ w.grownBy w' (some x) := by
  have H := Lib.hid h
  have c6 : w.cell? ⟨x, 6, none⟩ = some (.int .i64 D.armed) := h.cell 6
  have f6 := h.free 6
  have c7 : w.cell? ⟨x, 7, none⟩ = some (.bool D.down) := h.cell 7
  clear h
  cases hd : D.down with
  | true =>
    rw [hd] at c7
    have e : armD D n = D := by unfold armD; rw [if_pos hd]
    rw [e]
    clear hd e
    go_enter Tryz.func46, Tryz.ntmps46
    go_wp2
    go_end0
    exact ⟨rfl, H.out, ⟨rfl, rfl, rfl, Nat.le_refl _, fun _ _ _ => rfl⟩⟩
  | false =>
    rw [hd] at c7
    have e : armD D n = { D with armed := max n 0 } := by unfold armD; rw [if_neg (by rw [hd]; decide)]
    rw [e]
    clear hd e
    go_enter Tryz.func46, Tryz.ntmps46
    go_wp2
    go_end0
    have e : xcells X { D with armed := max n 0 } = (xcells X D).setIfInBounds 6 (.int .i64 (max n 0)) := by simp [xcells]
    refine ⟨rfl, H.out.scalars (by rw [e]; exact H.out.blk.set 6 _) (fun k hk => set_other _ _ _ _ k hk) rfl rfl rfl rfl, grown_set _ _ _ _⟩
end

/-! kinref5: New, Grow, SyncDir: contracts. -/
section
open Go.RowKit Go.Extern.Stop Go.Stop Go.Extern

set_option maxRecDepth 100000 in
theorem xnew_any (r : Int) (hr : 0 ≤ r ∧ r ≤ 16777216) (w : World) :
    Calls Tryz.prog 15 #[.int .i64 r] w fun e w' => e = .returned (.tuple #[.pointer (some ⟨w.heap.size + 1, 0, none⟩), errX 0]) ∧ XP w' (w.heap.size + 1) ⟨.slice none 0 0, .slice none 0 0, .slice none 0 0, .slice none 0 0, []⟩ (newD r) [] [] ∧ Below w.heap.size w w' := by
  obtain ⟨h1, h2⟩ := hr
  have BQ := Lib.hid (Blk.new w #[.int .i64 0, .slice none 0 0] 45)
  have BD := Lib.hid (Blk.new (w.alloc (.cells #[.int .i64 0, .slice none 0 0] 45)) (xcells ⟨.slice none 0 0, .slice none 0 0, .slice none 0 0, .slice none 0 0, []⟩ (newD r)) 81)
  have e1 : (w.alloc (.cells #[.int .i64 0, .slice none 0 0] 45)).heap.size = w.heap.size + 1 := by simp
  rw [e1] at BD
  clear e1
  go_enter Tryz.func15, Tryz.ntmps15
  go_wp2
  have B1 := BQ.out.ext (w' := (w.alloc (.cells #[.int .i64 0, .slice none 0 0] 45)).alloc (.cells (xcells ⟨.slice none 0 0, .slice none 0 0, .slice none 0 0, .slice none 0 0, []⟩ (newD r)) 81)) (by go_grown)
  obtain ⟨r0, r1, r2, r3⟩ := B1.two
  refine bodyPost_ret (by simp [results, Tryz.results15, go_sem, r0, r1, r2, r3]; try rfl) rfl ?_
  refine ⟨rfl, ⟨?_, World.ownsRow_nil _ _ _ 3, rfl, fun j hj => by simp at hj, World.ownsRow_nil _ _ _ 2, World.ownsRow_nil _ _ _ 2, World.ownsRow_nil _ _ _ 4⟩, ?_⟩
  · exact BD.out
  · go_grown
set_option maxRecDepth 100000 in
theorem xnew_not (r : Int) (hr : ¬ (0 ≤ r ∧ r ≤ 16777216)) (w : World) :
    Calls Tryz.prog 15 #[.int .i64 r] w fun e w' => e = .returned (.tuple #[.pointer none, errX 3]) ∧ Below w.heap.size w w' := by
  have BQ := Lib.hid (Blk.new w #[.int .i64 0, .slice none 0 0] 45)
  by_cases h1 : r < 0
  · clear hr
    go_enter Tryz.func15, Tryz.ntmps15
    go_wp2_with (go_at_call 22; refine (fail_any _ _).mono ?_; rintro e w1 ⟨rfl, hb1⟩; have B1 := Lib.hid (BQ.out.ext hb1); have HB := Lib.hid hb1; obtain ⟨x0, x1, x2, x3⟩ := B1.out.two; clear hb1)
    obtain ⟨r0, r1, r2, r3⟩ := (B1.out.set2 (.int .i64 3) (.slice none 0 0)).two
    refine bodyPost_ret (by simp [results, Tryz.results15, go_sem, r0, r1, r2, r3]; try rfl) rfl ?_
    exact ⟨rfl, below_set (below_set (ext (by go_grown) HB.out) (Nat.le_refl _) _) (Nat.le_refl _) _⟩
  · have h2 : r > 16777216 := by omega
    clear hr
    go_enter Tryz.func15, Tryz.ntmps15
    go_wp2_with (go_at_call 22; refine (fail_any _ _).mono ?_; rintro e w1 ⟨rfl, hb1⟩; have B1 := Lib.hid (BQ.out.ext hb1); have HB := Lib.hid hb1; obtain ⟨x0, x1, x2, x3⟩ := B1.out.two; clear hb1)
    obtain ⟨r0, r1, r2, r3⟩ := (B1.out.set2 (.int .i64 3) (.slice none 0 0)).two
    refine bodyPost_ret (by simp [results, Tryz.results15, go_sem, r0, r1, r2, r3]; try rfl) rfl ?_
    exact ⟨rfl, below_set (below_set (ext (by go_grown) HB.out) (Nat.le_refl _) _) (Nat.le_refl _) _⟩
/-- An operation that refuses, or leaves all as it is. -/
theorem XPost.none {x : Nat} {X : XLay} {D : DS} {bs ns : List Nat} {w w' : World} {k : Int} {e : Ending} (h : XP w x X D bs ns) (he : e = .returned (errX k)) (hb : Below w.heap.size w w') : XPost x X k D bs ns w e w' :=
  ⟨he, X, h.ext hb, fun _ hj => .inl hj, Keep.of_below hb⟩
set_option maxRecDepth 100000 in
theorem xgrow_any (x : Nat) (X : XLay) (D : DS) (bs ns : List Nat) (n : Int) (T : Nat) (w : World) (h : XP w x X D bs ns) (hI : Inv D T) :
    Calls Tryz.prog 49 #[.pointer (some ⟨x, 0, none⟩), .int .i64 n] w (XPost x X (growE D n) (growD D n) bs ns w) := by
  have H := Lib.hid h
  have BQ := Lib.hid (Blk.new w #[.int .i64 0, .slice none 0 0] 45)
  have c7 : w.cell? ⟨x, 7, none⟩ = some (.bool D.down) := h.cell 7
  have c0 : w.cell? ⟨x, 0, none⟩ = some (.int .i64 D.room) := h.cell 0
  have f0 := h.free 0
  have lx := h.blk.lt
  obtain ⟨hr1, hr2⟩ := hI.room
  cases hd : D.down with
  | true =>
    have e1 : growE D n = 10 := by unfold growE; rw [hd]; rfl
    have e2 : growD D n = D := by unfold growD; rw [if_neg (by rw [e1]; decide)]
    rw [e1, e2]
    rw [hd] at c7
    clear h hI hd e1 e2
    go_enter Tryz.func49, Tryz.ntmps49
    go_wp2_with (go_at_call 73; refine (xdown_any _).mono ?_; rintro e w1 ⟨rfl, hb1⟩; have B1 := Lib.hid (BQ.out.ext hb1); have HB := Lib.hid hb1; obtain ⟨x0, x1, x2, x3⟩ := B1.out.two; clear hb1)
    obtain ⟨r0, r1, r2, r3⟩ := (B1.out.set2 (.int .i64 10) (.slice none 0 0)).two
    refine bodyPost_ret (by simp [results, Tryz.results49, go_sem, r0, r1, r2, r3]; try rfl) rfl ?_
    exact XPost.none H.out rfl (below_set (below_set (ext (by go_grown) HB.out) (Nat.le_refl _) _) (Nat.le_refl _) _)
  | false =>
    rw [hd] at c7
    by_cases hn : n < 0 ∨ 16777216 - D.room < n
    · have e1 : growE D n = 3 := by unfold growE; rw [hd, if_neg (by simp), if_pos hn]
      have e2 : growD D n = D := by unfold growD; rw [if_neg (by rw [e1]; decide)]
      rw [e1, e2]
      generalize D.room = rm at *
      have q1 : IntKind.i64.wrap (16777216 - rm) = 16777216 - rm := IntWalk.i64_in _ (by omega)
      clear h hI hd e1 e2
      by_cases hn0 : n < 0
      · clear hn
        go_enter Tryz.func49, Tryz.ntmps49
        go_wp2_with (go_at_call 22; refine (fail_any _ _).mono ?_; rintro e w1 ⟨rfl, hb1⟩; have B1 := Lib.hid (BQ.out.ext hb1); have HB := Lib.hid hb1; obtain ⟨x0, x1, x2, x3⟩ := B1.out.two; clear hb1)
        obtain ⟨r0, r1, r2, r3⟩ := (B1.out.set2 (.int .i64 3) (.slice none 0 0)).two
        refine bodyPost_ret (by simp [results, Tryz.results49, go_sem, r0, r1, r2, r3]; try rfl) rfl ?_
        exact XPost.none H.out rfl (below_set (below_set (ext (by go_grown) HB.out) (Nat.le_refl _) _) (Nat.le_refl _) _)
      · have hn1 : n > 16777216 - rm := by omega
        clear hn
        go_enter Tryz.func49, Tryz.ntmps49
        go_wp2_with (go_at_call 22; refine (fail_any _ _).mono ?_; rintro e w1 ⟨rfl, hb1⟩; have B1 := Lib.hid (BQ.out.ext hb1); have HB := Lib.hid hb1; obtain ⟨x0, x1, x2, x3⟩ := B1.out.two; clear hb1)
        obtain ⟨r0, r1, r2, r3⟩ := (B1.out.set2 (.int .i64 3) (.slice none 0 0)).two
        refine bodyPost_ret (by simp [results, Tryz.results49, go_sem, r0, r1, r2, r3]; try rfl) rfl ?_
        exact XPost.none H.out rfl (below_set (below_set (ext (by go_grown) HB.out) (Nat.le_refl _) _) (Nat.le_refl _) _)
    · have e1 : growE D n = 0 := by unfold growE; rw [hd, if_neg (by simp), if_neg hn]
      have e2 : growD D n = { D with room := D.room + n } := by unfold growD; rw [if_pos e1]
      rw [e1, e2]
      have ex : xcells X { D with room := D.room + n } = (xcells X D).setIfInBounds 0 (.int .i64 (D.room + n)) := by simp [xcells]
      have HS : Hid (∀ (wx wy : World), Below w.heap.size w wx → (∀ k, k ≠ x → k ≠ w.heap.size → wy.heap[k]? = wx.heap[k]?) → wy.heap[x]? = (wx.setCell ⟨x, 0, none⟩ (.int .i64 (D.room + n))).heap[x]? → XP wy x X { D with room := D.room + n } bs ns) := fun wx wy hb ho hx => by
        have h2 := h.ext hb
        have h3 : XP (wx.setCell ⟨x, 0, none⟩ (.int .i64 (D.room + n))) x X { D with room := D.room + n } bs ns := h2.scalars (by rw [ex]; exact h2.blk.set 0 _) (fun k hk => set_other _ _ _ _ k hk) rfl rfl rfl rfl
        refine h3.stays fun k hk => ?_
        by_cases e : k = x
        · rw [e]; exact hx
        · rw [ho k e (by have := h.lt (show X.has x k from hk); omega), set_other _ _ _ _ k e]
      generalize D.room = rm at *
      have q1 : IntKind.i64.wrap (16777216 - rm) = 16777216 - rm := IntWalk.i64_in _ (by omega)
      have q2 : IntKind.i64.wrap (rm + n) = rm + n := IntWalk.i64_in _ (by omega)
      have n1 : ¬ n < 0 := by omega
      have n2 : ¬ n > 16777216 - rm := by omega
      have hxq : x ≠ w.heap.size := by omega
      clear h hI hd e1 e2 hn ex
      go_enter Tryz.func49, Tryz.ntmps49
      go_wp2
      have hsz : (w.setCell ⟨x, 0, none⟩ (.int .i64 (rm + n))).heap.size = w.heap.size := by simp
      have B1 := Blk.new (w.setCell ⟨x, 0, none⟩ (.int .i64 (rm + n))) #[.int .i64 0, .slice none 0 0] 45
      rw [hsz] at B1
      obtain ⟨r0, r1, r2, r3⟩ := B1.two
      refine bodyPost_ret (by simp [results, Tryz.results49, go_sem, r0, r1, r2, r3]; try rfl) rfl ?_
      refine ⟨rfl, X, HS.out w _ (Below.refl _ _) (fun k hk hk2 => ?_) ?_, fun _ hj => .inl hj, (XKeep.self (grown_set _ _ _ _)).trans (Keep.of_below (by go_grown))⟩
      · by_cases hlt : k < w.heap.size
        · rw [heap_alloc_old _ _ (by rw [hsz]; exact hlt), set_other _ _ _ _ k hk]
        · rw [Array.getElem?_eq_none (by simp; omega), Array.getElem?_eq_none (by omega)]
      · exact heap_alloc_old _ _ (by rw [hsz]; exact lx)
theorem sdir_cases (D : DS) : (D.down = true ∧ sdirE D = 10 ∧ sdirD D = D) ∨ (D.down = false ∧ downF D = true ∧ sdirE D = 10 ∧ sdirD D = fallD D) ∨ (D.down = false ∧ downF D = false ∧ sdirE D = 0 ∧ sdirD D = { fallD D with safe := D.names, steps := [] }) := by
  unfold sdirD sdirE goesE goesD
  cases hd : D.down with
  | true => exact .inl (by simp)
  | false =>
    cases hf : downF D with
    | true => exact .inr (.inl (by simp))
    | false => exact .inr (.inr (by simp))
set_option maxRecDepth 100000 in
set_option maxHeartbeats 1000000 in
theorem xsdir_any (x : Nat) (X : XLay) (D : DS) (bs ns : List Nat) (T : Nat) (w : World) (h : XP w x X D bs ns) (hI : Inv D T) (hT : T ≤ 100000) :
    Calls Tryz.prog 67 #[.pointer (some ⟨x, 0, none⟩)] w (XPost x X (sdirE D) (sdirD D) bs (nsS (sdirE D) ns) w) := by
  have H := Lib.hid h
  obtain ⟨d0, d1⟩ := hI.done
  have BQ := Lib.hid (Blk.new w #[.int .i64 0, .slice none 0 0] 45)
  have c7 : w.cell? ⟨x, 7, none⟩ = some (.bool D.down) := h.cell 7
  have lx := h.blk.lt
  have CF := Lib.hid (fun w' (hb : Below w.heap.size w w') => xfalls_any x X D bs ns w' (h.ext hb) d0 (by omega) hI.armed.2)
  have hnl := hI.nam
  have hxq : x ≠ w.heap.size := by omega
  have hqx : some w.heap.size ≠ some x := fun e => hxq (Option.some.inj e).symm
  rcases sdir_cases D with ⟨h1, h2, h3⟩ | ⟨h1, h4, h2, h3⟩ | ⟨h1, h4, h2, h3⟩
  · rw [h2, h3]
    have e3 : nsS 10 ns = ns := rfl
    rw [e3]
    rw [h1] at c7
    clear h hI h1 h2 h3 CF e3
    go_enter Tryz.func67, Tryz.ntmps67
    go_wp2_with (go_at_call 73; refine (xdown_any _).mono ?_; rintro e w1 ⟨rfl, hb1⟩; have B1 := Lib.hid (BQ.out.ext hb1); have HB := Lib.hid hb1; obtain ⟨x0, x1, x2, x3⟩ := B1.out.two; clear hb1)
    obtain ⟨r0, r1, r2, r3⟩ := (B1.out.set2 (.int .i64 10) (.slice none 0 0)).two
    refine bodyPost_ret (by simp [results, Tryz.results67, go_sem, r0, r1, r2, r3]; try rfl) rfl ?_
    exact XPost.none H.out rfl (below_set (below_set (ext (by go_grown) HB.out) (Nat.le_refl _) _) (Nat.le_refl _) _)
  · rw [h2, h3]
    have e3 : nsS 10 ns = ns := rfl
    rw [e3]
    rw [h1] at c7
    rw [h4] at CF
    clear h hI h1 h2 h3 h4 e3
    go_enter Tryz.func67, Tryz.ntmps67
    go_wp2_with (first
      | (go_at_call 85; refine (CF.out _ (by go_grown)).mono ?_; rintro e w1 ⟨rfl, hX1, hg1⟩; have HX1 := Lib.hid hX1; have HG1 := Lib.hid hg1; have B1 := Lib.hid (BQ.out.grown hg1 hqx); clear hX1 hg1)
      | (go_at_call 73; refine (xdown_any _).mono ?_; rintro e w2 ⟨rfl, hb2⟩; have B2 := Lib.hid (B1.out.ext hb2); have HB2 := Lib.hid hb2; obtain ⟨x0, x1, x2, x3⟩ := B2.out.two; clear hb2))
    obtain ⟨r0, r1, r2, r3⟩ := (B2.out.set2 (.int .i64 10) (.slice none 0 0)).two
    refine bodyPost_ret (by simp [results, Tryz.results67, go_sem, r0, r1, r2, r3]; try rfl) rfl ?_
    have hxlt := (HX1.out.ext HB2.out).not_err B2.out (Ne.symm hxq)
    refine ⟨rfl, X, (HX1.out.ext HB2.out).stays fun k hk => by rw [set_other _ _ _ _ k (hxlt k hk), set_other _ _ _ _ k (hxlt k hk)], fun j hj => .inl hj, Keep.set_new (Keep.set_new ?_ (Nat.le_refl _) _) (Nat.le_refl _) _⟩
    exact (Keep.of_below (by go_grown)).trans ((XKeep.self HG1.out).trans ((Keep.of_below HB2.out).mono fun k _ hk => hk))
  · rw [h2, h3]
    have e3 : nsS 0 ns = [] := rfl
    rw [e3]
    rw [h1] at c7
    rw [h4] at CF
    obtain ⟨no', ncap, hvn⟩ := rowShape h.nam
    obtain ⟨n, hn⟩ : ∃ n, D.names.length = n := ⟨_, rfl⟩
    rw [hn] at hvn hnl
    have HVN := Lib.hid hvn
    have HN := Lib.hid hn
    have HNL : Hid ((ncells D.names).length = n * 2) := by show _ = _; rw [length_ncells, hn]
    have HNR : Hid (∀ wx, XP wx x X (fallD D) bs ns → wx.ownsRow 0 124 2 (.slice no' n ncap) n (ncells D.names)) := fun wx hx => by
      have h9 := hx.nam
      unfold NRow at h9
      have e9 : (fallD D).names = D.names := rfl
      rw [e9, hvn, hn] at h9; exact h9
    have HNONE : Hid (no' = none → n = 0 ∧ ncap = 0) := fun e => by
      have h9 := h.nam
      unfold NRow at h9
      rw [hvn, hn] at h9
      rcases row_head h9 with ⟨e1, h0⟩ | ⟨g, cap, e1, _⟩
      · exact ⟨h0, (Value.slice.inj e1).2.2⟩
      · rw [e] at e1; cases (Value.slice.inj e1).1
    have HCELL : Hid (∀ wx : World, wx.ownsRow 0 124 2 (.slice no' n ncap) n (ncells D.names) → ∀ ad, no' = some ad → ∀ (j : Nat) (u : Value), (ncells D.names)[j]? = some u → wx.cell? (ad.add j) = some u) := fun wx hx ad e j u hj => by
      rcases row_head hx with ⟨e1, h0⟩ | ⟨g, cap, e1, _⟩
      · rw [(Value.slice.inj e1).1] at e; cases e
      · obtain ⟨e2, -, e3⟩ := Value.slice.inj e1
        rw [e2] at e hx
        obtain rfl := Option.some.inj e
        rw [Go.WideShapes.add_plain, Nat.zero_add]
        exact row_cellAt hx hj
    clear h hI h1 h2 h3 h4 e3 hvn hn
    go_enter Tryz.func67, Tryz.ntmps67
    go_wp2_with (first
      | (go_at_call 85; refine (CF.out _ (by go_grown)).mono ?_; rintro e w1 ⟨rfl, hX1, hg1⟩; have HX1 := Lib.hid hX1; have HG1 := Lib.hid hg1; have B1 := Lib.hid (BQ.out.grown hg1 hqx); have z2 : w1.cell? ⟨x, 2, none⟩ = some (.slice no' n ncap) := (hX1.cell 2).trans (congrArg some HVN.out); have lx1 := hX1.blk.lt; have HR := Lib.hid (HNR.out w1 hX1); clear hX1 hg1)
      | (at_builtin; refine wpList_appR 78 124 2 24 _ Tryz.underlying78 infoN rfl (by decide) rfl (.tmp 13) (.tmp 17) rfl w1.heap.size (.slice (some ⟨w1.heap.size, 0, none⟩) 0 0) 0 [] rfl (World.ownsRow_made w1 #[] 0 (Nat.le_refl _) (Nat.zero_le _) rfl) no' n ncap (ncells D.names) rfl HNL.out HNONE.out (HCELL.out _ (row_ext HR.out (by go_grown))) (ncell_one _) (by omega) (by decide) (by simp) ?_; intro ao2 cap2 w2 hown2 hg2; have HO2 := Lib.hid hown2; have HB2 : Hid (Below w1.heap.size w1 w2) := Lib.hid (((Below.refl _ w1).alloc (Nat.le_refl _) _).grown hg2 (by simp) (by intro k hk; simp [Value.ownBlock] at hk; omega)); have HX2 := Lib.hid (HX1.out.ext HB2.out); have B2 := Lib.hid (B1.out.ext HB2.out); have f3 := HX2.out.free 3; have f4 := HX2.out.free 4; obtain ⟨o3, s3⟩ : ∃ o3, w2.cell? ⟨x, 3, none⟩ = some o3 := ⟨_, HX2.out.cell 3⟩; obtain ⟨o4, s4⟩ : ∃ o4, w2.cell? ⟨x, 4, none⟩ = some o4 := ⟨_, HX2.out.cell 4⟩; obtain ⟨x0, x1, x2, x3⟩ := B2.out.two; clear hown2 hg2))
    have B3 := Lib.hid ((B2.out.of_block (set_other w2 x 3 (.slice ao2 n cap2) w.heap.size (Ne.symm hxq))).of_block (set_other _ x 4 (.slice none 0 0) w.heap.size (Ne.symm hxq)))
    obtain ⟨r0, r1, r2, r3⟩ := (B3.out.set2 (.int .i64 0) (.slice none 0 0)).two
    refine bodyPost_ret (by simp [results, Tryz.results67, go_sem, r0, r1, r2, r3]; try rfl) rfl ?_
    have hnr : NRow w2 w1.heap.size (.slice ao2 n cap2) D.names := by
      have h9 := HO2.out
      rw [Nat.zero_add, List.nil_append] at h9
      unfold NRow; rw [HN.out]; exact h9
    have hX4 := HX1.out.surely HB2.out hnr
    have hxlt := hX4.not_err (cs := #[.int .i64 0, .slice none 0 0]) (q := w.heap.size) B3.out (Ne.symm hxq)
    refine ⟨rfl, { X with vu := .slice ao2 n cap2, vt := .slice none 0 0 }, ?_, fun j hj => ?_, Keep.set_new (Keep.set_new ?_ (Nat.le_refl _) _) (Nat.le_refl _) _⟩
    · exact hX4.stays fun k hk => by rw [set_other _ _ _ _ k (hxlt k hk), set_other _ _ _ _ k (hxlt k hk)]
    · exact xhas_surely hj fun k hk => Nat.le_trans (show w.heap.size ≤ w1.heap.size from by have := HG1.out.size; simp at this; omega) (hnr.lt k hk).1
    · exact (Keep.of_below (w' := w.alloc (.cells #[.int .i64 0, .slice none 0 0] 45)) (by go_grown)).trans ((XKeep.self HG1.out).trans (((Keep.of_below HB2.out).mono fun k _ hk => hk).trans ((XKeep.self (grown_set _ _ _ _)).trans (XKeep.self (grown_set _ _ _ _)))))
end

/-! kinref5: Sync: contract. -/
section
open Go.RowKit Go.Extern.Stop Go.Stop Go.Extern

theorem syncD_not {D : DS} {a : Bs} (h : readE D a ≠ 0) : syncE D a = readE D a ∧ syncD D a = D := by
  obtain ⟨h1, h2⟩ := goesE_read h
  refine ⟨h1, ?_⟩
  unfold syncD syncE
  rw [if_neg (by rw [h1]; exact h), h2]
theorem syncD_down {D : DS} {a : Bs} (h : readE D a = 0) (hd : downF D = true) : syncE D a = 10 ∧ syncD D a = fallD D := by
  obtain ⟨h1, h2, -, -⟩ := goesE_ready h
  rw [hd, if_pos rfl] at h1
  refine ⟨h1, ?_⟩
  unfold syncD syncE
  rw [if_neg (by rw [h1]; decide), h2]
theorem syncD_up {D : DS} {a : Bs} (h : readE D a = 0) (hd : downF D = false) : syncE D a = 0 ∧ syncD D a = { fallD D with all := setF D.all (fileN D.names a) (syncF D a) } := by
  obtain ⟨h1, h2, -, -⟩ := goesE_ready h
  rw [hd, if_neg (by simp)] at h1
  refine ⟨h1, ?_⟩
  unfold syncD syncE
  rw [if_pos h1]
/-- A body's row is among the disk's own. -/
theorem XKeep.body {x g o : Nat} {X : XLay} {n cap : Nat} {w : World} (hv : X.vb = .slice (some ⟨g, 0, none⟩) n cap) (u : Value) : Keep (X.has x) w (w.setCell ⟨g, o, none⟩ u) :=
  Keep.grown (grown_set _ _ _ _) fun k hk => .inr (.inl (by rw [hv]; exact hk.symm ▸ rfl))
set_option maxRecDepth 100000 in
set_option maxHeartbeats 2000000 in
theorem xsync_any (x : Nat) (X : XLay) (D : DS) (bs ns : List Nat) (a : Bs) (T : Nat) (w : World) (h : XP w x X D bs ns) (hI : Inv D T) (hT : T ≤ 100000) (hX : XI D bs ns) (ha : a.length ≤ maxLen) :
    Calls Tryz.prog 64 #[.pointer (some ⟨x, 0, none⟩), .string ⟨a.toArray⟩] w (XPost x X (syncE D a) (syncD D a) bs ns w) := by
  have H := Lib.hid h
  obtain ⟨d0, d1⟩ := hI.done
  have hnl := hI.nam
  have CA := Lib.hid (fun w' (hb : Below w.heap.size w w') => xasks_any x X D bs ns a w' (h.ext hb) (by omega) ha)
  have CF := Lib.hid (fun w' (hb : Below w.heap.size w w') => xfalls_any x X D bs ns w' (h.ext hb) d0 (by omega) hI.armed.2)
  obtain ⟨wb, hwb⟩ : ∃ wb, wb = w.alloc (.cells #[.int .i64 0, .slice none 0 0] 45) := ⟨_, rfl⟩
  have BQ := Lib.hid (show Blk wb w.heap.size #[.int .i64 0, .slice none 0 0] 45 from by rw [hwb]; exact Blk.new w _ _)
  have HBW := Lib.hid (show Below w.heap.size w wb from by rw [hwb]; go_grown)
  have lx := h.blk.lt
  have hxq : x ≠ w.heap.size := by omega
  have hqx : some w.heap.size ≠ some x := fun e => hxq (Option.some.inj e).symm
  by_cases hr : readE D a = 0
  · rw [hr] at CA
    unfold errX at CA
    cases hd : downF D with
    | true =>
      obtain ⟨e1, e2⟩ := syncD_down hr hd
      rw [e1, e2]
      rw [hd] at CF
      clear h hI hX ha hnl hr e1 e2 hd
      go_enter Tryz.func64, Tryz.ntmps64
      go_wp2_with (first
        | (go_at_call 68; refine (CA.out _ (by go_grown)).mono ?_; rintro e w1 ⟨rfl, hb1⟩; rw [← hwb] at hb1; have B1 := Lib.hid (BQ.out.ext hb1); have HB1 := Lib.hid (ext HBW.out hb1); have E1 := Lib.hid (Blk.new w1 #[.int .i64 0, .slice none 0 0] 45); clear hb1)
        | (go_at_call 34; refine (ok_zero _ _).mono ?_; rintro e w2 ⟨rfl, hb2⟩; have HB2 := Lib.hid (show Below w1.heap.size w1 w2 from ext (by go_grown) hb2); have B2 := Lib.hid (B1.out.ext HB2.out); have HW2 : Hid (Below w.heap.size w w2) := Lib.hid (HB1.out.trans (HB2.out.mono HB1.out.size)); clear hb2)
        | (go_at_call 85; refine (CF.out _ HW2.out).mono ?_; rintro e w3 ⟨rfl, hX3, hg3⟩; have HX3 := Lib.hid hX3; have HG3 := Lib.hid hg3; have B3 := Lib.hid (B2.out.grown hg3 hqx); clear hX3 hg3)
        | (go_at_call 73; refine (xdown_any _).mono ?_; rintro e w4 ⟨rfl, hb4⟩; have B4 := Lib.hid (B3.out.ext hb4); have HB4 := Lib.hid hb4; obtain ⟨x0, x1, x2, x3⟩ := B4.out.two; clear hb4))
      obtain ⟨r0, r1, r2, r3⟩ := (B4.out.set2 (.int .i64 10) (.slice none 0 0)).two
      refine bodyPost_ret (by simp [results, Tryz.results64, go_sem, r0, r1, r2, r3]; try rfl) rfl ?_
      have hxlt := (HX3.out.ext HB4.out).not_err B4.out (Ne.symm hxq)
      refine ⟨rfl, X, (HX3.out.ext HB4.out).stays fun k hk => by rw [set_other _ _ _ _ k (hxlt k hk), set_other _ _ _ _ k (hxlt k hk)], fun j hj => .inl hj, Keep.set_new (Keep.set_new ?_ (Nat.le_refl _) _) (Nat.le_refl _) _⟩
      exact (Keep.of_below HW2.out).trans ((XKeep.self HG3.out).trans ((Keep.of_below HB4.out).mono fun k _ hk => hk))
    | false =>
      obtain ⟨e1, e2⟩ := syncD_up hr hd
      rw [e1, e2]
      rw [hd] at CF
      obtain ⟨-, hg⟩ := thereE_zero (goesE_ready hr).2.2.2
      have hv := hX.valN _ (mem_nget hg)
      obtain ⟨kb, hkb, hbv, hbne⟩ := bs_at hX.asc hv
      have hvlt := hX.lt _ hv
      simp only at hbv hbne hvlt hv
      have hcnt := hI.cnt
      have hbl := bs_len hX.asc hX.lt
      have CAT := Lib.hid (fun w' (hx : XP w' x X (fallD D) bs ns) => xat_any x X (fallD D) bs ns a (fileN D.names a) kb w' hx (show D.names.length ≤ 1000000 by omega) (by omega) hg (by omega) hkb hbv hbne)
      obtain ⟨bn, hbn⟩ : ∃ bn, bs.length = bn := ⟨_, rfl⟩
      have HBN := Lib.hid hbn
      have hkb2 : kb < bn := by rw [← hbn]; exact hkb
      have HKB := Lib.hid hkb
      have HBV := Lib.hid hbv
      have HX := Lib.hid hX
      obtain ⟨dl, hdl⟩ : ∃ dl, (D.file (fileN D.names a)).data.length = dl := ⟨_, rfl⟩
      have HDL := Lib.hid hdl
      have HEQ : Hid ({ fallD D with all := setF (fallD D).all (bs.getD kb 0) ⟨((fallD D).file (bs.getD kb 0)).data, dl⟩ } = { fallD D with all := setF D.all (fileN D.names a) (syncF D a) }) := by
        show _ = _
        rw [hbv, ← hdl]; rfl
      rw [← HEQ.out]
      have i1 : (0 : Int) ≤ (kb : Int) := by omega
      have i2 : (kb : Int) < (bn : Int) := by omega
      clear h hI hX ha hnl hr e1 e2 hd hg hv hkb hbv hbne hvlt hcnt hbl hbn hdl
      go_enter Tryz.func64, Tryz.ntmps64
      go_wp2_with (first
        | (go_at_call 68; refine (CA.out _ (by go_grown)).mono ?_; rintro e w1 ⟨rfl, hb1⟩; rw [← hwb] at hb1; have B1 := Lib.hid (BQ.out.ext hb1); have HB1 := Lib.hid (ext HBW.out hb1); have E1 := Lib.hid (Blk.new w1 #[.int .i64 0, .slice none 0 0] 45); have hz1 : w.heap.size < w1.heap.size := B1.out.lt; clear hb1)
        | (go_at_call 34; refine (ok_zero _ _).mono ?_; rintro e w2 ⟨rfl, hb2⟩; have E2 := Lib.hid (E1.out.ext hb2); have HB2 := Lib.hid (show Below w1.heap.size w1 w2 from ext (by go_grown) hb2); have B2 := Lib.hid (B1.out.ext HB2.out); have HW2 : Hid (Below w.heap.size w w2) := Lib.hid (HB1.out.trans (HB2.out.mono HB1.out.size)); clear hb2)
        | (go_at_call 85; refine (CF.out _ HW2.out).mono ?_; rintro e w3 ⟨rfl, hX3, hg3⟩; have HX3 := Lib.hid hX3; have HG3 := Lib.hid hg3; have B3 := Lib.hid (B2.out.grown hg3 hqx); have E3 := Lib.hid (E2.out.grown hg3 (fun e => by have := Option.some.inj e; omega)); clear hX3 hg3)
        | (go_at_call 69; refine (CAT.out _ HX3.out).mono ?_; rintro e w4 ⟨rfl, hb4⟩; have B4 := Lib.hid (B3.out.ext hb4); have E4 := Lib.hid (E3.out.ext hb4); have HX4 := Lib.hid (HX3.out.ext hb4); have HB4 := Lib.hid hb4; clear hb4))
      obtain ⟨g, cap, hvb, hgl, hgx, k0, k1, k2, kf⟩ := HX4.out.bodyAt HBN.out hkb2
      obtain ⟨dao, dcap, hdv⟩ := rowShape (HX4.out.dat kb HKB.out)
      rw [HBV.out] at hdv
      have hdv2 : X.at kb = .slice dao dl dcap := by rw [hdv]; exact congrArg (fun x => Value.slice _ x _) HDL.out
      rw [hdv2] at k1
      have c1 : w4.cell? ⟨x, 1, none⟩ = some (.slice (some ⟨g, 0, none⟩) bn cap) := (HX4.out.cell 1).trans (congrArg some hvb)
      have HVB := Lib.hid hvb
      have kf2 := kf (kb * 3 + 2)
      have hgq : g ≠ w.heap.size := fun e => (HX4.out.not_err B4.out (Ne.symm hxq)) g (.inr (.inl (by rw [hvb]; rfl))) e
      have hge : g ≠ w1.heap.size := fun e => (HX4.out.not_err E4.out (by omega)) g (.inr (.inl (by rw [hvb]; rfl))) e
      clear hdv hdv2 hvb kf k0
      go_region
      all_goals
        have HX5 := Lib.hid ((HX4.out.setSafe HX.out.asc HX.out.lt (Below.refl w4.heap.size w4) HKB.out HVB.out dl).stays (w' := (w4.setCell ⟨g, kb * 3 + 2, none⟩ (.int .i64 (dl : Int))).drew) (fun _ _ => rfl))
        have B5 := Lib.hid (B4.out.of_block (w' := (w4.setCell ⟨g, kb * 3 + 2, none⟩ (.int .i64 (dl : Int))).drew) (set_other w4 g (kb * 3 + 2) (.int .i64 (dl : Int)) _ (Ne.symm hgq)))
        have E5 := Lib.hid (E4.out.of_block (w' := (w4.setCell ⟨g, kb * 3 + 2, none⟩ (.int .i64 (dl : Int))).drew) (set_other w4 g (kb * 3 + 2) (.int .i64 (dl : Int)) _ (Ne.symm hge)))
        have K5 := Lib.hid ((XKeep.body (x := x) (X := X) (o := kb * 3 + 2) (w := w4) HVB.out (.int .i64 (dl : Int))).trans (c := (w4.setCell ⟨g, kb * 3 + 2, none⟩ (.int .i64 (dl : Int))).drew) ⟨rfl, rfl, rfl, Nat.le_refl _, fun _ _ _ => rfl⟩)
        obtain ⟨w5, hw5⟩ : ∃ w5, (w4.setCell ⟨g, kb * 3 + 2, none⟩ (.int .i64 (dl : Int))).drew = w5 := ⟨_, rfl⟩
        rw [hw5] at HX5 B5 E5 K5
        rw [hw5]
        clear hw5 c1 k1 k2 kf2
        obtain ⟨x0, x1, x2, x3⟩ := B5.out.two
        obtain ⟨y0, y1, y2, y3⟩ := E5.out.two
        go_wp2
        obtain ⟨r0, r1, r2, r3⟩ := (B5.out.set2 (.int .i64 0) (.slice none 0 0)).two
        refine bodyPost_ret (by simp [results, Tryz.results64, go_sem, r0, r1, r2, r3]; try rfl) rfl ?_
        have hxlt := HX5.out.not_err B5.out (Ne.symm hxq)
        refine ⟨rfl, X, HX5.out.stays fun k hk => by rw [set_other _ _ _ _ k (hxlt k hk), set_other _ _ _ _ k (hxlt k hk)], fun j hj => .inl hj, Keep.set_new (Keep.set_new ?_ (Nat.le_refl _) _) (Nat.le_refl _) _⟩
        exact (Keep.of_below HW2.out).trans ((XKeep.self HG3.out).trans (((Keep.of_below HB4.out).mono fun k _ hk => hk).trans ⟨K5.out.os, K5.out.tape, K5.out.output, K5.out.size, K5.out.block⟩))
  · obtain ⟨e1, e2⟩ := syncD_not hr
    rw [e1, e2]
    have qk : (readE D a == 0) = false := by simpa using hr
    clear h hI hX ha hnl e1 e2 hr CF
    generalize readE D a = k at *
    unfold errX at CA
    go_enter Tryz.func64, Tryz.ntmps64
    go_wp2_with (first
      | (go_at_call 68; refine (CA.out _ (by go_grown)).mono ?_; rintro e w1 ⟨rfl, hb1⟩; rw [← hwb] at hb1; have B1 := Lib.hid (BQ.out.ext hb1); have HB1 := Lib.hid hb1; have E1 := Lib.hid (Blk.new w1 #[.int .i64 k, .slice none 0 0] 45); clear hb1)
      | (go_at_call 34; refine (ok_ne k qk _ _).mono ?_; rintro e w2 ⟨rfl, hb2⟩; have E2 := Lib.hid (E1.out.ext hb2); have HB2 := Lib.hid (show Below w1.heap.size w1 w2 from ext (by go_grown) hb2); have B2 := Lib.hid (B1.out.ext HB2.out); obtain ⟨x0, x1, x2, x3⟩ := B2.out.two; obtain ⟨y0, y1, y2, y3⟩ := E2.out.two; clear hb2))
    obtain ⟨r0, r1, r2, r3⟩ := (B2.out.set2 (.int .i64 k) (.slice none 0 0)).two
    refine bodyPost_ret (by simp [results, Tryz.results64, go_sem, r0, r1, r2, r3]; try rfl) rfl ?_
    have HW2 : Below w.heap.size w w2 := (ext HBW.out HB1.out).trans (HB2.out.mono (ext HBW.out HB1.out).size)
    exact XPost.none H.out rfl (below_set (below_set HW2 (Nat.le_refl _) _) (Nat.le_refl _) _)
end

/-! kinref5: Create: contract. -/
section
open Go.RowKit Go.Extern.Stop Go.Stop Go.Extern

theorem create_cases (D : DS) (n : Bs) : (D.down = true ∧ goesE D (createE D n) = 10 ∧ createD D n = D) ∨ (D.down = false ∧ namedB n = false ∧ goesE D (createE D n) = 6 ∧ createD D n = D) ∨
    (D.down = false ∧ namedB n = true ∧ (∃ v, nget D.names n = some v) ∧ goesE D (createE D n) = 8 ∧ createD D n = D) ∨ (D.down = false ∧ namedB n = true ∧ nget D.names n = none ∧ 64 ≤ D.names.length ∧ goesE D (createE D n) = 5 ∧ createD D n = D) ∨
    (D.down = false ∧ namedB n = true ∧ nget D.names n = none ∧ D.names.length < 64 ∧ downF D = true ∧ goesE D (createE D n) = 10 ∧ createD D n = fallD D) ∨
    (D.down = false ∧ namedB n = true ∧ nget D.names n = none ∧ D.names.length < 64 ∧ downF D = false ∧ goesE D (createE D n) = 0 ∧ createD D n = { stepXD D ⟨0, n, [], D.all.length⟩ D.all.length with all := D.all ++ [DF.nought] }) := by
  unfold createD goesE goesD createE
  cases hd : D.down with
  | true => exact .inl (by simp)
  | false =>
    cases hb : namedB n with
    | false => exact .inr (.inl (by simp))
    | true =>
      cases hg : nget D.names n with
      | some v => exact .inr (.inr (.inl (by simp)))
      | none =>
        by_cases hl : 64 ≤ D.names.length
        · exact .inr (.inr (.inr (.inl (by simp [hl]))))
        · cases hf : downF D with
          | true => exact .inr (.inr (.inr (.inr (.inl (by simp [hl]; omega)))))
          | false => exact .inr (.inr (.inr (.inr (.inr (by simp [hl]; exact ⟨by omega, rfl⟩)))))
set_option maxRecDepth 100000 in
set_option maxHeartbeats 4000000 in
theorem xcreate_any (x : Nat) (X : XLay) (D : DS) (bs ns : List Nat) (a : Bs) (T : Nat) (w : World) (h : XP w x X D bs ns) (hI : Inv D T) (hT : T ≤ 100000) (hX : XI D bs ns) (ha : a.length ≤ maxLen) :
    Calls Tryz.prog 61 #[.pointer (some ⟨x, 0, none⟩), .string ⟨a.toArray⟩] w (XPost x X (goesE D (createE D a)) (createD D a) (bsBy (goesE D (createE D a)) bs D.all.length) (nsBy (goesE D (createE D a)) ns D.all.length) w) := by
  have H := Lib.hid h
  have hnl := hI.nam
  have hcnt := hI.cnt
  have hbl := bs_len hX.asc hX.lt
  obtain ⟨wb, hwb⟩ : ∃ wb, wb = w.alloc (.cells #[.int .i64 0, .slice none 0 0] 45) := ⟨_, rfl⟩
  have BQ := Lib.hid (show Blk wb w.heap.size #[.int .i64 0, .slice none 0 0] 45 from by rw [hwb]; exact Blk.new w _ _)
  have HBW := Lib.hid (show Below w.heap.size w wb from by rw [hwb]; go_grown)
  have lx := h.blk.lt
  have hxq : x ≠ w.heap.size := by omega
  have c7 : w.cell? ⟨x, 7, none⟩ = some (.bool D.down) := h.cell 7
  obtain ⟨no', ncap, hvn⟩ := rowShape h.nam
  obtain ⟨n, hn⟩ : ∃ n, D.names.length = n := ⟨_, rfl⟩
  rw [hn] at hvn
  have c2 : w.cell? ⟨x, 2, none⟩ = some (.slice no' n ncap) := (h.cell 2).trans (congrArg some hvn)
  have CG := Lib.hid (fun w' => good_any a ha w')
  have HNR := Lib.hid (show NRow w 0 (.slice no' n ncap) D.names from hvn ▸ h.nam)
  have CFD := Lib.hid (fun w' (hb : Below w.heap.size w w') => find_any (.slice no' n ncap) D.names a 0 w' (HNR.out.ext hb) (by omega))
  have hfv := findV_cases D.names a
  obtain ⟨N, hN⟩ : ∃ N, D.all.length = N := ⟨_, rfl⟩
  have c5 : w.cell? ⟨x, 5, none⟩ = some (.int .i64 (N : Int)) := (h.cell 5).trans (by rw [← hN]; rfl)
  rcases create_cases D a with ⟨h1, h2, h3⟩ | ⟨h1, h4, h2, h3⟩ | ⟨h1, h4, ⟨v, h5⟩, h2, h3⟩ | ⟨h1, h4, h5, h6, h2, h3⟩ | ⟨h1, h4, h5, h6, h7, h2, h3⟩ | ⟨h1, h4, h5, h6, h7, h2, h3⟩
  · rw [h2, h3]
    have e3 : bsBy 10 bs D.all.length = bs := rfl
    have e4 : nsBy 10 ns D.all.length = ns := rfl
    rw [e3, e4]
    rw [h1] at c7
    clear h hI hX h1 h2 h3 e3 e4 hfv hn hvn hN
    go_enter Tryz.func61, Tryz.ntmps61
    go_wp2_with (go_at_call 73; refine (xdown_any _).mono ?_; rintro e w1 ⟨rfl, hb1⟩; rw [← hwb] at hb1; have B1 := Lib.hid (BQ.out.ext hb1); have HB := Lib.hid hb1; obtain ⟨x0, x1, x2, x3⟩ := B1.out.two; clear hb1)
    obtain ⟨r0, r1, r2, r3⟩ := (B1.out.set2 (.int .i64 10) (.slice none 0 0)).two
    refine bodyPost_ret (by simp [results, Tryz.results61, go_sem, r0, r1, r2, r3]; try rfl) rfl ?_
    exact XPost.none H.out rfl (below_set (below_set (ext HBW.out HB.out) (Nat.le_refl _) _) (Nat.le_refl _) _)
  · rw [h2, h3]
    have e3 : bsBy 6 bs D.all.length = bs := rfl
    have e4 : nsBy 6 ns D.all.length = ns := rfl
    rw [e3, e4]
    rw [h1] at c7
    rw [h4] at CG
    clear h hI hX h1 h2 h3 h4 e3 e4 hfv hn hvn hN
    go_enter Tryz.func61, Tryz.ntmps61
    go_wp2_with (first | (go_at_call 82; refine (CG.out _).mono ?_; rintro e w' ⟨rfl, rfl⟩) | (go_at_call 22; refine (fail_any _ _).mono ?_; rintro e w1 ⟨rfl, hb1⟩; rw [← hwb] at hb1; have B1 := Lib.hid (BQ.out.ext hb1); have HB := Lib.hid hb1; obtain ⟨x0, x1, x2, x3⟩ := B1.out.two; clear hb1))
    obtain ⟨r0, r1, r2, r3⟩ := (B1.out.set2 (.int .i64 6) (.slice none 0 0)).two
    refine bodyPost_ret (by simp [results, Tryz.results61, go_sem, r0, r1, r2, r3]; try rfl) rfl ?_
    exact XPost.none H.out rfl (below_set (below_set (ext HBW.out HB.out) (Nat.le_refl _) _) (Nat.le_refl _) _)
  · rw [h2, h3]
    have e3 : bsBy 8 bs D.all.length = bs := rfl
    have e4 : nsBy 8 ns D.all.length = ns := rfl
    rw [e3, e4]
    rw [h1] at c7
    rw [h4] at CG
    obtain ⟨k, hk⟩ : ∃ k : Nat, findV D.names a = (k : Int) := by
      rcases hfv with ⟨h9, _⟩ | ⟨k, v', _, _, h9, _⟩
      · rw [h5] at h9; cases h9
      · exact ⟨k, h9⟩
    rw [hk] at CFD
    clear h hI hX h1 h2 h3 h4 h5 hk e3 e4 hfv hn hvn hN
    go_enter Tryz.func61, Tryz.ntmps61
    go_wp2_with (first
      | (go_at_call 82; refine (CG.out _).mono ?_; rintro e w' ⟨rfl, rfl⟩)
      | (go_at_call 83; refine (CFD.out _ (by go_grown)).mono ?_; rintro e w0 ⟨rfl, hb0⟩; rw [← hwb] at hb0; have HB0 := Lib.hid hb0; clear hb0)
      | (go_at_call 22; refine (fail_any _ _).mono ?_; rintro e w1 ⟨rfl, hb1⟩; have HB := Lib.hid (ext HB0.out hb1); have B1 := Lib.hid (BQ.out.ext HB.out); obtain ⟨x0, x1, x2, x3⟩ := B1.out.two; clear hb1))
    obtain ⟨r0, r1, r2, r3⟩ := (B1.out.set2 (.int .i64 8) (.slice none 0 0)).two
    refine bodyPost_ret (by simp [results, Tryz.results61, go_sem, r0, r1, r2, r3]; try rfl) rfl ?_
    exact XPost.none H.out rfl (below_set (below_set (ext HBW.out HB.out) (Nat.le_refl _) _) (Nat.le_refl _) _)
  · rw [h2, h3]
    have e3 : bsBy 5 bs D.all.length = bs := rfl
    have e4 : nsBy 5 ns D.all.length = ns := rfl
    rw [e3, e4]
    rw [h1] at c7
    rw [h4] at CG
    have hf : findV D.names a = -1 := by
      rcases hfv with ⟨_, h9⟩ | ⟨k, v, _, h9, _⟩
      · exact h9
      · rw [h5] at h9; cases h9
    rw [hf] at CFD
    have hn64 : 64 ≤ n := by omega
    clear h hI hX h1 h2 h3 h4 h5 hf e3 e4 hfv hn hvn hN h6
    have HP : Hid (∀ wx, Below w.heap.size w wx → wx.cell? ⟨x, 2, none⟩ = some (.slice no' n ncap)) := fun wx hb => (hb.cell (p := ⟨x, 2, none⟩) lx).trans c2
    go_enter Tryz.func61, Tryz.ntmps61
    go_wp2_with (first
      | (go_at_call 82; refine (CG.out _).mono ?_; rintro e w' ⟨rfl, rfl⟩)
      | (go_at_call 83; refine (CFD.out _ (by go_grown)).mono ?_; rintro e w0 ⟨rfl, hb0⟩; rw [← hwb] at hb0; have HB0 := Lib.hid hb0; have y2 := HP.out w0 (ext HBW.out hb0); clear hb0)
      | (go_at_call 22; refine (fail_any _ _).mono ?_; rintro e w1 ⟨rfl, hb1⟩; have HB := Lib.hid (ext HB0.out hb1); have B1 := Lib.hid (BQ.out.ext HB.out); obtain ⟨x0, x1, x2, x3⟩ := B1.out.two; clear hb1))
    obtain ⟨r0, r1, r2, r3⟩ := (B1.out.set2 (.int .i64 5) (.slice none 0 0)).two
    refine bodyPost_ret (by simp [results, Tryz.results61, go_sem, r0, r1, r2, r3]; try rfl) rfl ?_
    exact XPost.none H.out rfl (below_set (below_set (ext HBW.out HB.out) (Nat.le_refl _) _) (Nat.le_refl _) _)
  · rw [h2, h3]
    have e3 : bsBy 10 bs D.all.length = bs := rfl
    have e4 : nsBy 10 ns D.all.length = ns := rfl
    rw [e3, e4]
    rw [h1] at c7
    rw [h4] at CG
    have hf : findV D.names a = -1 := by
      rcases hfv with ⟨_, h9⟩ | ⟨k, v, _, h9, _⟩
      · exact h9
      · rw [h5] at h9; cases h9
    rw [hf] at CFD
    have hn64 : n < 64 := by omega
    have CS := Lib.hid (fun w' (hb : Below w.heap.size w w') => xstep_down x X D bs ns ⟨0, a, [], N⟩ N T w' (h.ext hb) hI hT h7)
    have HP : Hid (∀ wx, Below w.heap.size w wx → wx.cell? ⟨x, 2, none⟩ = some (.slice no' n ncap) ∧ wx.cell? ⟨x, 5, none⟩ = some (.int .i64 (N : Int))) := fun wx hb => ⟨(hb.cell (p := ⟨x, 2, none⟩) lx).trans c2, (hb.cell (p := ⟨x, 5, none⟩) lx).trans c5⟩
    unfold kstepV at CS
    clear h hI hX h1 h2 h3 h4 h5 hf e3 e4 hfv hn hvn hN h6 h7 c2 c5
    go_enter Tryz.func61, Tryz.ntmps61
    obtain ⟨c2, c5⟩ := HP.out w (Below.refl _ _)
    go_wp2_with (first
      | (go_at_call 82; refine (CG.out _).mono ?_; rintro e w' ⟨rfl, rfl⟩)
      | (go_at_call 83; refine (CFD.out _ (by go_grown)).mono ?_; rintro e w0 ⟨rfl, hb0⟩; rw [← hwb] at hb0; have HB0 := Lib.hid hb0; have HW0 : Hid (Below w.heap.size w w0) := Lib.hid (ext HBW.out hb0); have B0 := Lib.hid (BQ.out.ext hb0); obtain ⟨y2, y5⟩ := HP.out w0 HW0.out; clear hb0)
      | (go_at_call 84; refine (CS.out _ HW0.out).mono ?_; rintro e w4 ⟨he4, X4, hX4, hn4, hk4⟩; unfold errX at he4; subst he4; have HX4 := Lib.hid hX4; have HN4 := Lib.hid hn4; have HK4 := Lib.hid hk4; have B4 := Lib.hid (B0.out.of_block (hk4.block w.heap.size B0.out.lt (fun hh => absurd (H.out.lt hh) (Nat.lt_irrefl _)))); have E4 := Lib.hid (Blk.new w4 #[.int .i64 10, .slice none 0 0] 45); clear hX4 hn4 hk4)
      | (go_at_call 34; refine (ok_ne 10 (by decide) _ _).mono ?_; rintro e w5 ⟨rfl, hb5⟩; have E5 := Lib.hid (E4.out.ext hb5); have HB5 := Lib.hid (show Below w4.heap.size w4 w5 from ext (by go_grown) hb5); have B5 := Lib.hid (B4.out.ext HB5.out); obtain ⟨x0, x1, x2, x3⟩ := B5.out.two; obtain ⟨u0, u1, u2, u3⟩ := E5.out.two; clear hb5))
    obtain ⟨r0, r1, r2, r3⟩ := (B5.out.set2 (.int .i64 10) (.slice none 0 0)).two
    refine bodyPost_ret (by simp [results, Tryz.results61, go_sem, r0, r1, r2, r3]; try rfl) rfl ?_
    have hxlt := (HX4.out.ext HB5.out).not_err B5.out (Ne.symm hxq)
    refine ⟨rfl, X4, (HX4.out.ext HB5.out).stays fun k hk => by rw [set_other _ _ _ _ k (hxlt k hk), set_other _ _ _ _ k (hxlt k hk)], fun j hj => (HN4.out j hj).imp id (Nat.le_trans HW0.out.size), Keep.set_new (Keep.set_new ?_ (Nat.le_refl _) _) (Nat.le_refl _) _⟩
    exact (Keep.of_below HW0.out).trans ((show Keep (X.has x) w0 w4 from ⟨HK4.out.os, HK4.out.tape, HK4.out.output, HK4.out.size, HK4.out.block⟩).trans ((Keep.of_below HB5.out).mono fun k _ hk => hk))
  · rw [h2, h3]
    have e3 : bsBy 0 bs D.all.length = bs ++ [N] := by rw [hN]; rfl
    have e4 : nsBy 0 ns D.all.length = ns ++ [N] := by rw [hN]; rfl
    rw [e3, e4]
    rw [h1] at c7
    rw [h4] at CG
    have hf : findV D.names a = -1 := by
      rcases hfv with ⟨_, h9⟩ | ⟨k, v, _, h9, _⟩
      · exact h9
      · rw [h5] at h9; cases h9
    rw [hf] at CFD
    have hn64 : n < 64 := by omega
    have CS := Lib.hid (fun w' (hb : Below w.heap.size w w') => xstep_up x X D bs ns ⟨0, a, [], N⟩ N T w' (h.ext hb) hI hT hX (Nat.zero_le 2) (by omega) h7)
    have HP : Hid (∀ wx, Below w.heap.size w wx → wx.cell? ⟨x, 2, none⟩ = some (.slice no' n ncap) ∧ wx.cell? ⟨x, 5, none⟩ = some (.int .i64 (N : Int))) := fun wx hb => ⟨(hb.cell (p := ⟨x, 2, none⟩) lx).trans c2, (hb.cell (p := ⟨x, 5, none⟩) lx).trans c5⟩
    rw [hN]
    have hal : (stepXD D ⟨0, a, [], N⟩ N).all = D.all := rfl
    rw [← hal]
    obtain ⟨D4, hD4⟩ : ∃ D4, stepXD D ⟨0, a, [], N⟩ N = D4 := ⟨_, rfl⟩
    rw [hD4] at CS hal ⊢
    have HAL : Hid (D4.all.length = N) := Lib.hid (by rw [hal, hN])
    obtain ⟨bl, hbn⟩ : ∃ bl, bs.length = bl := ⟨_, rfl⟩
    have HBN := Lib.hid hbn
    have hbl2 : bl ≤ 1000000 := by omega
    have hN2 : N ≤ 1000000 := by omega
    have q1 : IntKind.i64.wrap ((N : Int) + 1) = (N : Int) + 1 := IntWalk.i64_in _ (by omega)
    unfold kstepV at CS
    clear h hI hX h1 h2 h3 h4 h5 hf e3 e4 hfv hn hvn hN h6 h7 c2 c5 hal hD4 hbn hcnt hbl hnl
    go_enter Tryz.func61, Tryz.ntmps61
    obtain ⟨c2, c5⟩ := HP.out w (Below.refl _ _)
    go_wp2_with (first
      | (go_at_call 82; refine (CG.out _).mono ?_; rintro e w' ⟨rfl, rfl⟩)
      | (go_at_call 83; refine (CFD.out _ (by go_grown)).mono ?_; rintro e w0 ⟨rfl, hb0⟩; rw [← hwb] at hb0; have HB0 := Lib.hid hb0; have HW0 : Hid (Below w.heap.size w w0) := Lib.hid (ext HBW.out hb0); have B0 := Lib.hid (BQ.out.ext hb0); obtain ⟨y2, y5⟩ := HP.out w0 HW0.out; clear hb0)
      | (go_at_call 84; refine (CS.out _ HW0.out).mono ?_; rintro e w4 ⟨he4, X4, hX4, hn4, hk4⟩; unfold errX at he4; subst he4; have HX4 := Lib.hid hX4; have HN4 := Lib.hid hn4; have HK4 := Lib.hid hk4; have B4 := Lib.hid (B0.out.of_block (hk4.block w.heap.size B0.out.lt (fun hh => absurd (H.out.lt hh) (Nat.lt_irrefl _)))); have E4 := Lib.hid (Blk.new w4 #[.int .i64 0, .slice none 0 0] 45); clear hX4 hn4 hk4)
      | (go_at_call 34; refine (ok_zero _ _).mono ?_; rintro e w5 ⟨rfl, hb5⟩; have E5 := Lib.hid (E4.out.ext hb5); have HB5 := Lib.hid (show Below w4.heap.size w4 w5 from ext (by go_grown) hb5); have B5 := Lib.hid (B4.out.ext HB5.out); have HX5 := Lib.hid (HX4.out.ext HB5.out); clear hb5))
    obtain ⟨vbo, vbc, hvb⟩ := rowShape HX5.out.bod
    rw [HBN.out] at hvb
    have HVB := Lib.hid hvb
    have s1 : w5.cell? ⟨x, 1, none⟩ = some (.slice vbo bl vbc) := (HX5.out.cell 1).trans (congrArg some hvb)
    have f1 := HX5.out.free 1
    have s5 : w5.cell? ⟨x, 5, none⟩ = some (.int .i64 (N : Int)) := (HX5.out.cell 5).trans (by rw [← HAL.out]; rfl)
    have f5 := HX5.out.free 5
    have lx5 := HX5.out.blk.lt
    have HBD := Lib.hid (show w5.ownsRow 0 116 3 (.slice vbo bl vbc) bl (bodycells D4 bs X4.dv) from by have h9 := HX5.out.bod; rw [hvb, HBN.out] at h9; exact h9)
    have hvx : some x ≠ (Value.slice vbo bl vbc).ownBlock := fun e => HX5.out.others.1 (by rw [hvb]; exact e.symm)
    have hvq : some w.heap.size ≠ (Value.slice vbo bl vbc).ownBlock := fun e => blk_row B5.out HBD.out (by decide) e.symm
    have hve : some w4.heap.size ≠ (Value.slice vbo bl vbc).ownBlock := fun e => blk_row E5.out HBD.out (by decide) e.symm
    have lx4 := HX4.out.blk.lt
    have hxe : x ≠ w4.heap.size := by omega
    clear hvb
    go_region_law ((refine step_row1L 77 116 3 40 _ Tryz.underlying77 infoBody rfl (by decide) (by rfl) _ _ (by rfl) w5 0 (.slice vbo bl vbc) bl (bodycells D4 bs X4.dv) (body1 N) (by rfl) HBD.out _ (by rfl) (heap_alloc_new _ _) (grown_of _) (by rfl) (body1_one _) (by omega) (by decide) (Nat.zero_le _) ?_; intro g6 cap6 w6 hown6 hg6 hat6; have HG6 := Lib.hid hg6; have HO6 := Lib.hid hown6; have HA6 := Lib.hid hat6; have z1 : w6.cell? ⟨x, 1, none⟩ = some (.slice vbo bl vbc) := hg6.cell s1 hvx; have zf : w6.frozen? ⟨x, 1, none⟩ = false := (World.frozen?_of_block (a := ⟨x, 1, none⟩) (hg6.block x lx5 hvx)).trans f1; have z5 : w6.cell? ⟨x, 5, none⟩ = some (.int .i64 (N : Int)) := hg6.cell s5 hvx; have zf5 : w6.frozen? ⟨x, 5, none⟩ = false := (World.frozen?_of_block (a := ⟨x, 5, none⟩) (hg6.block x lx5 hvx)).trans f5; clear hown6 hg6 hat6))
    all_goals
      have HX7 := Lib.hid (HX5.out.newBody (v := .slice (some ⟨g6, 0, none⟩) (bl + 1) cap6) (by rw [HVB.out]; exact HG6.out) (by rw [HBN.out, HAL.out]; exact HO6.out))
      rw [HAL.out] at HX7
      have B7 := Lib.hid (((B5.out.grown HG6.out hvq).of_block (set_other w6 x 1 (.slice (some ⟨g6, 0, none⟩) (bl + 1) cap6) w.heap.size (Ne.symm hxq))).of_block (set_other _ x 5 (.int .i64 ((N : Int) + 1)) w.heap.size (Ne.symm hxq)))
      have E7 := Lib.hid (((E5.out.grown HG6.out hve).of_block (set_other w6 x 1 (.slice (some ⟨g6, 0, none⟩) (bl + 1) cap6) w4.heap.size (Ne.symm hxe))).of_block (set_other _ x 5 (.int .i64 ((N : Int) + 1)) w4.heap.size (Ne.symm hxe)))
      have K6 : Hid (Keep (X4.has x) w5 ((w6.setCell ⟨x, 1, none⟩ (.slice (some ⟨g6, 0, none⟩) (bl + 1) cap6)).setCell ⟨x, 5, none⟩ (.int .i64 ((N : Int) + 1)))) := ((Keep.grown HG6.out fun k hk => .inr (.inl (by rw [HVB.out]; exact hk.symm ▸ rfl))).trans (XKeep.self (grown_set _ _ _ _))).trans (XKeep.self (grown_set _ _ _ _))
      obtain ⟨x0, x1, x2, x3⟩ := B7.out.two
      obtain ⟨u0, u1, u2, u3⟩ := E7.out.two
      go_wp2
      obtain ⟨r0, r1, r2, r3⟩ := (B7.out.set2 (.int .i64 0) (.slice none 0 0)).two
      refine bodyPost_ret (by simp [results, Tryz.results61, go_sem, r0, r1, r2, r3]; try rfl) rfl ?_
      have hxlt := HX7.out.not_err B7.out (Ne.symm hxq)
      have K5 : Keep (X.has x) w w5 := (Keep.of_below HW0.out).trans ((show Keep (X.has x) w0 w4 from ⟨HK4.out.os, HK4.out.tape, HK4.out.output, HK4.out.size, HK4.out.block⟩).trans ((Keep.of_below HB5.out).mono fun k _ hk => hk))
      refine ⟨rfl, ⟨.slice (some ⟨g6, 0, none⟩) (bl + 1) cap6, X4.vn, X4.vu, X4.vt, X4.dv ++ [.slice none 0 0]⟩, ?_, fun j hj => ?_, Keep.set_new (Keep.set_new ?_ (Nat.le_refl _) _) (Nat.le_refl _) _⟩
      · exact HX7.out.stays fun k hk => by rw [set_other _ _ _ _ k (hxlt k hk), set_other _ _ _ _ k (hxlt k hk)]
      · rcases xhas_made (X := X4) (N := w.heap.size) hj (fun k hk => by
          obtain rfl : g6 = k := Option.some.inj hk
          rcases HA6.out with h1 | h1
          · exact .inl (by rw [HVB.out]; exact h1)
          · exact .inr (Nat.le_trans K5.size h1)) with h1 | h1
        · exact (HN4.out j h1).imp id (Nat.le_trans HW0.out.size)
        · exact .inr h1
      · refine ⟨K6.out.os.trans K5.os, K6.out.tape.trans K5.tape, K6.out.output.trans K5.output, Nat.le_trans K5.size K6.out.size, fun k hk hnk => ?_⟩
        refine (K6.out.block k (Nat.lt_of_lt_of_le hk K5.size) fun h9 => ?_).trans (K5.block k hk hnk)
        rcases HN4.out k h9 with h9 | h9
        · exact hnk h9
        · have := HW0.out.size; omega
end
end Go.Proofs.YtdiaejphgcoknaaGreatDoor
