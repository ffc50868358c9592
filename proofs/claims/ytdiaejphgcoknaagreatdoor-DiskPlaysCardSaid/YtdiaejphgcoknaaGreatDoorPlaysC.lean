/- kinref.CopyBytes, kinref5.Append: contracts. kinref5.Append of bytes: contracts. -/
import Derived.Test.YtdiaejphgcoknaaGreatDoorPlaysB
set_option linter.unusedSimpArgs false
set_option linter.unusedVariables false
namespace Go.Proofs.YtdiaejphgcoknaaGreatDoor

/-! kinref.CopyBytes, kinref5.Append: contracts. -/
section
open Go.RowKit Go.Extern.Stop Go.Stop Go.Extern

set_option maxRecDepth 100000 in
theorem rcopy_any (v : Value) (b : Bs) (w : World) (hv : BytesV w v b) (hl : b.length ≤ 1000000000) :
    Calls Tryz.prog 62 #[v] w fun e w' => ∃ ao cap, e = .returned (.slice ao b.length cap) ∧ w'.ownsRow w.heap.size 5 1 (.slice ao b.length cap) b.length (bcells b) ∧ Below w.heap.size w w' := by
  have HV := Lib.hid (hv.ext ((Below.refl w.heap.size w).alloc (Nat.le_refl _) (.cells #[] 5)))
  have HNL : Hid (([] : Bs).length = 0) := Lib.hid rfl
  clear hv
  go_enter Tryz.func62, Tryz.ntmps62
  go_wp2_with (at_builtin; refine wpList_appB rfl (.tmp 3) (.tmp 4) rfl w.heap.size (.slice (some ⟨w.heap.size, 0, none⟩) 0 0) v ([] : Bs) b rfl (World.ownsRow_made w #[] 0 (Nat.le_refl _) (Nat.zero_le _) rfl) rfl HV.out (by simp; omega) (by simp) ?_; intro ao1 cap1 w1 hown1 hg1 hat1; have HO1 := Lib.hid hown1; have HG1 := Lib.hid hg1; clear hown1 hg1 hat1)
  go_returns
  have e : ([] : Bs).length + b.length = b.length := Nat.zero_add _
  have h9 := HO1.out
  rw [e, List.nil_append] at h9
  refine ⟨ao1, cap1, by first | rfl | (simp; done), h9, ?_⟩
  exact ((Below.refl _ w).alloc (Nat.le_refl _) _).grown HG1.out (by simp) (by intro k hk; simp [Value.ownBlock] at hk; omega)
theorem BytesV.farX {w w' : World} {v : Value} {b : Bs} (h : BytesV w v b) {x : Nat} {X : XLay} {D : DS} {bs ns : List Nat} (hx : XP w x X D bs ns) (hg : w.grownBy w' (some x)) : BytesV w' v b := by
  obtain ⟨ao, cap, rfl, h1, h2, h3, h4⟩ := h
  refine ⟨ao, cap, rfl, h1, h2, h3, fun j hj => ?_⟩
  obtain ⟨k, off, e, hc⟩ := h4 j hj
  have hkx : k ≠ x := by
    intro e2
    subst e2
    rw [hx.cell] at hc
    have hb : ∀ u ∈ (xcells X D).toList, ∀ z, u ≠ .int .u8 z := by
      intro u hu z e3
      subst e3
      obtain ⟨a1, c1, q1⟩ := rowShape hx.bod
      obtain ⟨a2, c2, q2⟩ := rowShape hx.nam
      obtain ⟨a3, c3, q3⟩ := rowShape hx.sur
      obtain ⟨a4, c4, q4⟩ := rowShape hx.stp
      unfold xcells at hu
      rw [q1, q2, q3, q4] at hu
      simp at hu
    exact hb _ (by rw [Array.mem_toList_iff]; exact Array.mem_of_getElem? hc) _ rfl
  exact ⟨k, off, e, (hg.cell hc (fun e9 => hkx (Option.some.inj e9)))⟩
theorem appE_not {D : DS} {a b : Bs} (h : readE D a ≠ 0) : appE D a b = readE D a ∧ appD D a b = D := by
  have h0 : appE0 D a b = readE D a := by
    unfold readE at h ⊢
    unfold appE0
    cases hd : D.down with
    | true => simp
    | false =>
      rw [hd] at h
      have h2 : thereE D a ≠ 0 := by simpa using h
      simp [h2]
  unfold appE appD
  rw [h0, if_pos h, if_pos h]; exact ⟨rfl, rfl⟩
theorem appE_full {D : DS} {a b : Bs} (h : readE D a = 0) (hb : b ≠ []) (hf : D.room - usedD D < b.length) : appE D a b = 9 ∧ appD D a b = D := by
  obtain ⟨-, -, hd, ht⟩ := goesE_ready h
  have h0 : appE0 D a b = 9 := by unfold appE0; rw [hd, ht]; simp [hb, hf]
  unfold appE appD
  rw [h0]; simp
theorem appE_room {D : DS} {a b : Bs} (h : readE D a = 0) (hf : ¬ (b ≠ [] ∧ D.room - usedD D < b.length)) : appE D a b = (if downF D then 10 else 0) ∧ appD D a b = { fallD D with all := setF D.all (fileN D.names a) (appF D a b) } := by
  obtain ⟨-, -, hd, ht⟩ := goesE_ready h
  have h0 : appE0 D a b = 0 := by unfold appE0; rw [hd, ht, if_neg hf]; simp
  unfold appE appD
  rw [h0]; simp
theorem xused_le {D : DS} {T : Nat} (hI : Inv D T) (hT : T ≤ 100000) : usedD D ≤ 100000 * 16777216 := by
  have h1 := sum_le (f := sizeN D) (l := keysN D.names) (M := 16777216) fun x _ => sizeN_le hI x
  have h2 : (keysN D.names).length ≤ 100000 := by unfold keysN; rw [List.length_map]; have := hI.nam; omega
  unfold usedD
  exact Nat.le_trans h1 (Nat.mul_le_mul_right _ h2)
theorem xapp_not (x : Nat) (X : XLay) (D : DS) (bs ns : List Nat) (a : Bs) (u : Value) (T : Nat) (w : World) (h : XP w x X D bs ns) (hI : Inv D T) (hT : T ≤ 100000) (ha : a.length ≤ maxLen) (hr : readE D a ≠ 0) :
    Calls Tryz.prog 63 #[.pointer (some ⟨x, 0, none⟩), .string ⟨a.toArray⟩, u] w (XPost x X (readE D a) D bs ns w) := by
  have H := Lib.hid h
  have hnl := hI.nam
  have CA := Lib.hid (fun w' (hb : Below w.heap.size w w') => xasks_any x X D bs ns a w' (h.ext hb) (by omega) ha)
  obtain ⟨wb, hwb⟩ : ∃ wb, wb = w.alloc (.cells #[.int .i64 0, .slice none 0 0] 45) := ⟨_, rfl⟩
  have BQ := Lib.hid (show Blk wb w.heap.size #[.int .i64 0, .slice none 0 0] 45 from by rw [hwb]; exact Blk.new w _ _)
  have HBW := Lib.hid (show Below w.heap.size w wb from by rw [hwb]; go_grown)
  have lx := h.blk.lt
  have qk : (readE D a == 0) = false := by simpa using hr
  clear h hI ha hnl hr
  generalize readE D a = k at *
  unfold errX at CA
  go_enter Tryz.func63, Tryz.ntmps63
  go_wp2_with (first
    | (go_at_call 68; refine (CA.out _ (by go_grown)).mono ?_; rintro e w1 ⟨rfl, hb1⟩; rw [← hwb] at hb1; have B1 := Lib.hid (BQ.out.ext hb1); have HB1 := Lib.hid hb1; have E1 := Lib.hid (Blk.new w1 #[.int .i64 k, .slice none 0 0] 45); clear hb1)
    | (go_at_call 34; refine (ok_ne k qk _ _).mono ?_; rintro e w2 ⟨rfl, hb2⟩; have E2 := Lib.hid (E1.out.ext hb2); have HB2 := Lib.hid (show Below w1.heap.size w1 w2 from ext (by go_grown) hb2); have B2 := Lib.hid (B1.out.ext HB2.out); obtain ⟨x0, x1, x2, x3⟩ := B2.out.two; obtain ⟨y0, y1, y2, y3⟩ := E2.out.two; clear hb2))
  obtain ⟨r0, r1, r2, r3⟩ := (B2.out.set2 (.int .i64 k) (.slice none 0 0)).two
  refine bodyPost_ret (by simp [results, Tryz.results63, go_sem, r0, r1, r2, r3]; try rfl) rfl ?_
  have HW2 : Below w.heap.size w w2 := (ext HBW.out HB1.out).trans (HB2.out.mono (ext HBW.out HB1.out).size)
  exact XPost.none H.out rfl (below_set (below_set HW2 (Nat.le_refl _) _) (Nat.le_refl _) _)
end

/-! kinref5.Append of bytes: contracts. -/
section
open Go.RowKit Go.Extern.Stop Go.Stop Go.Extern

set_option maxRecDepth 100000 in
set_option maxHeartbeats 4000000 in
theorem xapp_full_d (x : Nat) (X : XLay) (D : DS) (bs ns : List Nat) (a : Bs) (u : Value) (b : Bs) (T : Nat) (w : World) (h : XP w x X D bs ns) (hu : BytesV w u b) (hI : Inv D T) (hT : T ≤ 100000) (hX : XI D bs ns) (ha : a.length ≤ maxLen) (hr : readE D a = 0) (ad : Addr) (cap : Nat) (hn : u = .slice (some ad) b.length cap) (hb0 : b ≠ []) (hf : ¬ D.room - usedD D < b.length) (hfl : downF D = true) :
    Calls Tryz.prog 63 #[.pointer (some ⟨x, 0, none⟩), .string ⟨a.toArray⟩, u] w (XPost x X 10 { fallD D with all := setF D.all (fileN D.names a) ⟨(D.file (fileN D.names a)).data ++ b.take (b.length / 2), (D.file (fileN D.names a)).safe⟩ } bs ns w) := by
  have H := Lib.hid h
  obtain ⟨d0, d1⟩ := hI.done
  obtain ⟨rm0, rm1⟩ := hI.room
  have hnl := hI.nam
  have CA := Lib.hid (fun w' (hb : Below w.heap.size w w') => xasks_any x X D bs ns a w' (h.ext hb) (by omega) ha)
  rw [hr] at CA
  unfold errX at CA
  have CF := Lib.hid (fun w' (hb : Below w.heap.size w w') => xfalls_any x X D bs ns w' (h.ext hb) d0 (by omega) hI.armed.2)
  have CU := Lib.hid (fun w' (hb : Below w.heap.size w w') => xused_any x X D bs ns T w' (h.ext hb) hI hT hX)
  have hus := xused_le hI hT
  obtain ⟨wb, hwb⟩ : ∃ wb, wb = w.alloc (.cells #[.int .i64 0, .slice none 0 0] 45) := ⟨_, rfl⟩
  have BQ := Lib.hid (show Blk wb w.heap.size #[.int .i64 0, .slice none 0 0] 45 from by rw [hwb]; exact Blk.new w _ _)
  have HBW := Lib.hid (show Below w.heap.size w wb from by rw [hwb]; go_grown)
  have lx := h.blk.lt
  have hxq : x ≠ w.heap.size := by omega
  have hqx : some w.heap.size ≠ some x := fun e => hxq (Option.some.inj e).symm
  have HC0 : Hid (∀ wx, Below w.heap.size w wx → wx.cell? ⟨x, 0, none⟩ = some (.int .i64 D.room)) := fun wx hb => (h.ext hb).cell 0
  have HU := Lib.hid hu
  obtain ⟨bl, hl⟩ : ∃ bl, b.length = bl := ⟨_, rfl⟩
  have hbl := hu.len
  rw [hl] at hbl
  have hbp : 0 < bl := by rw [← hl]; exact List.length_pos_iff.2 hb0
  obtain ⟨us, hus2⟩ : ∃ us, usedD D = us := ⟨_, rfl⟩
  rw [hl] at hn hf
  rw [hus2] at hus hf CU
  have hcap : bl ≤ cap := by obtain ⟨_, _, e, h1, _⟩ := hu; rw [hn] at e; simp at e; omega
  subst hn
  obtain ⟨rm, hrm⟩ : ∃ rm, D.room = rm := ⟨_, rfl⟩
  rw [hrm] at rm0 rm1 HC0 hf
  have hcap2 : cap ≤ maxLen := by obtain ⟨_, _, e, _, h2, _⟩ := hu; simp at e; omega
  unfold maxLen at hcap2
  have q1 : (0 : Int) < (bl : Int) := by omega
  have q1' : (bl : Int) > (0 : Int) := by omega
  have q2 : IntKind.i64.wrap ((us : Int) + (bl : Int)) = (us : Int) + (bl : Int) := IntWalk.i64_in _ (by omega)
  have q3 : ¬ (us : Int) + (bl : Int) > rm := by omega
  have q3' : ¬ rm < (us : Int) + (bl : Int) := by omega
  obtain ⟨ys, hys⟩ : ∃ ys, b.take (b.length / 2) = ys := ⟨_, rfl⟩
  rw [hys]
  obtain ⟨-, hg⟩ := thereE_zero (goesE_ready hr).2.2.2
  have hv := hX.valN _ (mem_nget hg)
  obtain ⟨kb, hkb, hbv, hbne⟩ := bs_at hX.asc hv
  have hvlt := hX.lt _ hv
  simp only at hbv hbne hvlt hv
  have hcnt := hI.cnt
  have hbln := bs_len hX.asc hX.lt
  have CAT := Lib.hid (fun w' (hb : Below w.heap.size w w') => xat_any x X D bs ns a (fileN D.names a) kb w' (h.ext hb) (by omega) (by omega) hg (by omega) hkb hbv hbne)
  obtain ⟨bn, hbn⟩ : ∃ bn, bs.length = bn := ⟨_, rfl⟩
  have HBN := Lib.hid hbn
  have hkb2 : kb < bn := by rw [← hbn]; exact hkb
  have HKB := Lib.hid hkb
  have HBV := Lib.hid hbv
  have HX := Lib.hid hX
  obtain ⟨xs, hxs⟩ : ∃ xs, (D.file (fileN D.names a)).data = xs := ⟨_, rfl⟩
  have HXS := Lib.hid hxs
  have hdl := (hI.file (fileN D.names a)).2
  rw [hxs] at hdl
  obtain ⟨dl, hdl2⟩ : ∃ dl, xs.length = dl := ⟨_, rfl⟩
  have HDL := Lib.hid hdl2
  rw [hdl2] at hdl
  obtain ⟨D2, hD2⟩ : ∃ D2, { fallD D with all := setF D.all (fileN D.names a) ⟨(D.file (fileN D.names a)).data ++ ys, (D.file (fileN D.names a)).safe⟩ } = D2 := ⟨_, rfl⟩
  have HEQ : Hid ({ fallD D with all := setF (fallD D).all (bs.getD kb 0) ⟨xs ++ ys, ((fallD D).file (bs.getD kb 0)).safe⟩ } = D2) := by
    show _ = _
    rw [← hD2, hbv, hxs]; rfl
  rw [hD2]
  clear hD2
  have i1 : (0 : Int) ≤ (kb : Int) := by omega
  have i2 : (kb : Int) < (bn : Int) := by omega
  obtain ⟨hf2, hhf⟩ : ∃ hf2, bl / 2 = hf2 := ⟨_, rfl⟩
  have HUY : Hid (∀ w, BytesV w (.slice (some ad) bl cap) b → BytesV w (.slice (some ad) hf2 cap) ys) := fun w h => by
    have := h.cut (m := hf2) (by omega)
    rw [← hhf, ← hl, hys] at this
    rw [hhf.symm, ← hl]; exact this
  have hyl : ys.length = hf2 := by rw [← hys, List.length_take, hl, ← hhf]; omega
  have HYL := Lib.hid hyl
  have hb2 : xs.length + ys.length ≤ 1099511627776 := by rw [hyl, hdl2]; omega
  have p0 : (bl : Int) / 2 = (hf2 : Int) := by omega
  have p1 : Int.tdiv (bl : Int) 2 = (hf2 : Int) := by rw [Int.tdiv_eq_ediv_of_nonneg (by omega)]; omega
  have p2 : IntKind.i64.wrap (hf2 : Int) = (hf2 : Int) := IntWalk.i64_in _ (by omega)
  have p3 : (0 : Int) ≤ (hf2 : Int) := by omega
  have p4 : (hf2 : Int) ≤ (cap : Int) := by omega
  have p5 : hf2 ≤ cap := by omega
  have p6 : bl / 2 = hf2 := hhf
  clear hyl hhf
  rw [hfl] at CF
  clear h hu hI hX ha hnl hr hfl hg hv hkb hbv hbne hvlt hcnt hbln hbn hxs hdl2 hl hys hb0 hf hus2 hrm
  go_enter Tryz.func63, Tryz.ntmps63
  go_wp2_with (first
    | (go_at_call 68; refine (CA.out _ (by go_grown)).mono ?_; rintro e w1 ⟨rfl, hb1⟩; rw [← hwb] at hb1; have B1 := Lib.hid (BQ.out.ext hb1); have HB1 := Lib.hid (ext HBW.out hb1); have E1 := Lib.hid (Blk.new w1 #[.int .i64 0, .slice none 0 0] 45); have hz1 : w.heap.size < w1.heap.size := B1.out.lt; clear hb1)
    | (go_at_call 34; refine (ok_zero _ _).mono ?_; rintro e w2 ⟨rfl, hb2⟩; have E2 := Lib.hid (E1.out.ext hb2); have HB2 := Lib.hid (show Below w1.heap.size w1 w2 from ext (by go_grown) hb2); have B2 := Lib.hid (B1.out.ext HB2.out); have HW2 : Hid (Below w.heap.size w w2) := Lib.hid (HB1.out.trans (HB2.out.mono HB1.out.size)); have s0 := HC0.out w2 HW2.out; clear hb2))
  go_region_held3 (fun w' => w'.cell? ⟨x, 0, none⟩ = some (.int .i64 rm)) (first | with_reducible exact S5.out | go_keep)
    (first | (go_at_call 53; refine (CU.out _ (ext HW2.out (by go_grown))).mono ?_; rintro e w5 ⟨rfl, hb5⟩; have j5 : Hid (Below w2.heap.size w2 w5) := Lib.hid (ext (by go_grown) hb5); have S5 := Lib.hid (HC0.out w5 (HW2.out.trans (j5.out.mono HW2.out.size))); clear hb5))
  clear s0
  have HW5 : Hid (Below w.heap.size w w5) := Lib.hid (HW2.out.trans (j5.out.mono HW2.out.size))
  have B5 := Lib.hid (B2.out.ext j5.out)
  have E5 := Lib.hid (E2.out.ext j5.out)
  go_wp2_with (first
    | (go_at_call 69; refine (CAT.out _ HW5.out).mono ?_; rintro e w6 ⟨rfl, hb6⟩; have B6 := Lib.hid (B5.out.ext hb6); have E6 := Lib.hid (E5.out.ext hb6); have HW6 : Hid (Below w.heap.size w w6) := Lib.hid (ext HW5.out hb6); clear hb6)
    | (go_at_call 85; refine (CF.out _ HW6.out).mono ?_; rintro e w7 ⟨rfl, hX7, hg7⟩; have HX7 := Lib.hid hX7; have HG7 := Lib.hid hg7; have B7 := Lib.hid (B6.out.grown hg7 hqx); have E7 := Lib.hid (E6.out.grown hg7 (fun e => by have := Option.some.inj e; omega)); clear hX7 hg7))
  obtain ⟨g, gcap, hvb, hgl, hgx, k0, k1, k2, kf⟩ := HX7.out.bodyAt HBN.out hkb2
  obtain ⟨dao, dcap, hdv⟩ := rowShape (HX7.out.dat kb HKB.out)
  rw [HBV.out] at hdv
  have hdv2 : X.at kb = .slice dao dl dcap := by rw [hdv]; have e9 : ((fallD D).file (fileN D.names a)).data.length = dl := by rw [show (fallD D).file (fileN D.names a) = D.file (fileN D.names a) from rfl, HXS.out, HDL.out]
                                                 rw [e9]
  rw [hdv2] at k1
  have HOW := Lib.hid (show w7.ownsRow 0 5 1 (.slice dao dl dcap) xs.length (bcells xs) from by have h9 := HX7.out.dat kb HKB.out; rw [HBV.out, hdv2] at h9; have e : ((fallD D).file (fileN D.names a)).data = xs := HXS.out; rw [e] at h9; exact h9)
  have c1 : w7.cell? ⟨x, 1, none⟩ = some (.slice (some ⟨g, 0, none⟩) bn gcap) := (HX7.out.cell 1).trans (congrArg some hvb)
  have HVB := Lib.hid hvb
  have kf1 := kf (kb * 3 + 1)
  have hgq : g ≠ w.heap.size := fun e => (HX7.out.not_err B7.out (Ne.symm hxq)) g (.inr (.inl (by rw [hvb]; rfl))) e
  have hge : g ≠ w1.heap.size := fun e => (HX7.out.not_err E7.out (by omega)) g (.inr (.inl (by rw [hvb]; rfl))) e
  have lx7 := HX7.out.blk.lt
  have HP : Hid (∀ wx, Below w7.heap.size w7 wx → wx.cell? ⟨x, 1, none⟩ = some (.slice (some ⟨g, 0, none⟩) bn gcap) ∧ wx.cell? ⟨g, kb * 3 + 1, none⟩ = some (.slice dao dl dcap) ∧ wx.frozen? ⟨g, kb * 3 + 1, none⟩ = false) := fun wx hb => ⟨(hb.cell (p := ⟨x, 1, none⟩) lx7).trans c1, (hb.cell (p := ⟨g, kb * 3 + 1, none⟩) hgl).trans k1, (World.frozen?_of_block (a := ⟨g, kb * 3 + 1, none⟩) (hb.block g hgl)).trans kf1⟩
  have HUB := Lib.hid (show BytesV w7 (.slice (some ad) hf2 cap) ys from HUY.out _ ((HU.out.ext HW6.out).farX (H.out.ext HW6.out) HG7.out))
  have CC := Lib.hid (fun wx (hb : Below w7.heap.size w7 wx) => rcopy_any (.slice dao dl dcap) xs wx ((bytes_of_rowB HOW.out).ext hb) (by rw [HDL.out]; omega))
  rw [HDL.out] at CC
  clear hdv hdv2 hvb kf k0 k2 HU HUY
  go_region_law (first
    | (refine step_appB (by rfl) _ _ (by rfl) w7.heap.size (.slice co dl ccap) (.slice (some ad) hf2 cap) xs ys (by rfl) HO8.out (by rfl) HU8.out hb2 hs8 ?_; intro ao9 cap9 w9 hown9 hg9 hat9; have B89 : Below w7.heap.size w8 w9 := (Below.refl w7.heap.size w8).grown hg9 hs8 (fun k hk => (HO8.out.lt k hk).1); have HB9 := Lib.hid (HB8.out.trans B89); have HO9 := Lib.hid hown9; obtain ⟨z1, zk, zf⟩ := HP.out w9 HB9.out; clear hown9 hg9 hat9 B89)
    | (rw [if_pos (by rfl)]; go_simp; go_wp2_with (go_at_call 62; refine (CC.out _ (by go_grown)).mono ?_; rintro e w8 ⟨co, ccap, rfl, ho8, hb8⟩; have HB8 : Hid (Below w7.heap.size w7 w8) := Lib.hid (ext (by go_grown) hb8); have HO8 := Lib.hid (show w8.ownsRow w7.heap.size 5 1 (.slice co dl ccap) xs.length (bcells xs) from by rw [HDL.out]; exact row_mono ho8 (Nat.le_refl _)); have HU8 := Lib.hid (HUB.out.ext HB8.out); have hs8 := HB8.out.size; obtain ⟨z1, zk, zf⟩ := HP.out w8 HB8.out; clear ho8 hb8)))
  all_goals
    have hX10 := HX7.out.setData HX.out.asc HX.out.lt HB9.out HKB.out HVB.out (u := .slice ao9 (xs.length + ys.length) cap9) (d := xs ++ ys) (row_mono HO9.out (Nat.zero_le _))
    rw [HEQ.out] at hX10
    have HX10 := Lib.hid hX10
    have B10 := Lib.hid ((B7.out.ext HB9.out).of_block (set_other w9 g (kb * 3 + 1) (.slice ao9 (xs.length + ys.length) cap9) _ (Ne.symm hgq)))
    have E10 := Lib.hid ((E7.out.ext HB9.out).of_block (set_other w9 g (kb * 3 + 1) (.slice ao9 (xs.length + ys.length) cap9) _ (Ne.symm hge)))
    have K10 := Lib.hid (XKeep.body (x := x) (X := X) (o := kb * 3 + 1) (w := w9) HVB.out (.slice ao9 (xs.length + ys.length) cap9))
    have HO10 := Lib.hid (show w9.ownsRow w7.heap.size 5 1 (.slice ao9 (xs.length + ys.length) cap9) (xs ++ ys).length (bcells (xs ++ ys)) from HO9.out)
    obtain ⟨v10, hv10⟩ : ∃ v10, (Value.slice ao9 (xs.length + ys.length) cap9) = v10 := ⟨_, rfl⟩
    rw [hv10] at hX10 HX10 B10 E10 K10 HO10
    rw [hv10]
    obtain ⟨w10, hw10⟩ : ∃ w10, w9.setCell ⟨g, kb * 3 + 1, none⟩ v10 = w10 := ⟨_, rfl⟩
    rw [hw10] at HX10 B10 E10 K10
    rw [hw10]
    clear hX10 hw10 hv10 c1 k1 kf1 z1 zk zf HO9 HO8 HU8
    have K9 : Hid (Keep (X.has x) w w10) := (Keep.of_below HW6.out).trans ((XKeep.self HG7.out).trans (((Keep.of_below HB9.out).mono fun k _ hk => hk).trans ⟨K10.out.os, K10.out.tape, K10.out.output, K10.out.size, K10.out.block⟩))
    have HN10 : Hid (∀ j, ({ X with dv := X.dv.set kb v10 } : XLay).has x j → X.has x j ∨ w.heap.size ≤ j) := fun j hj => xhas_dv hj fun k hk => Nat.le_trans (Nat.le_trans HW6.out.size HG7.out.size) (HO10.out.lt k hk).1
    go_wp2_with (go_at_call 73; refine (xdown_any _).mono ?_; rintro e w11 ⟨rfl, hb11⟩; have B11 := Lib.hid (B10.out.ext hb11); have HB11 := Lib.hid hb11; obtain ⟨x0, x1, x2, x3⟩ := B11.out.two; clear hb11)
    obtain ⟨r0, r1, r2, r3⟩ := (B11.out.set2 (.int .i64 10) (.slice none 0 0)).two
    refine bodyPost_ret (by simp [results, Tryz.results63, go_sem, r0, r1, r2, r3]; try rfl) rfl ?_
    have hxlt := (HX10.out.ext HB11.out).not_err B11.out (Ne.symm hxq)
    exact ⟨rfl, _, (HX10.out.ext HB11.out).stays fun k hk => by rw [set_other _ _ _ _ k (hxlt k hk), set_other _ _ _ _ k (hxlt k hk)], HN10.out, Keep.set_new (Keep.set_new (K9.out.trans ((Keep.of_below HB11.out).mono fun k _ hk => hk)) (Nat.le_refl _) _) (Nat.le_refl _) _⟩
set_option maxRecDepth 100000 in
set_option maxHeartbeats 4000000 in
theorem xapp_full_u (x : Nat) (X : XLay) (D : DS) (bs ns : List Nat) (a : Bs) (u : Value) (b : Bs) (T : Nat) (w : World) (h : XP w x X D bs ns) (hu : BytesV w u b) (hI : Inv D T) (hT : T ≤ 100000) (hX : XI D bs ns) (ha : a.length ≤ maxLen) (hr : readE D a = 0) (ad : Addr) (cap : Nat) (hn : u = .slice (some ad) b.length cap) (hb0 : b ≠ []) (hf : ¬ D.room - usedD D < b.length) (hfl : downF D = false) :
    Calls Tryz.prog 63 #[.pointer (some ⟨x, 0, none⟩), .string ⟨a.toArray⟩, u] w (XPost x X 0 { fallD D with all := setF D.all (fileN D.names a) ⟨(D.file (fileN D.names a)).data ++ b, (D.file (fileN D.names a)).safe⟩ } bs ns w) := by
  have H := Lib.hid h
  obtain ⟨d0, d1⟩ := hI.done
  obtain ⟨rm0, rm1⟩ := hI.room
  have hnl := hI.nam
  have CA := Lib.hid (fun w' (hb : Below w.heap.size w w') => xasks_any x X D bs ns a w' (h.ext hb) (by omega) ha)
  rw [hr] at CA
  unfold errX at CA
  have CF := Lib.hid (fun w' (hb : Below w.heap.size w w') => xfalls_any x X D bs ns w' (h.ext hb) d0 (by omega) hI.armed.2)
  have CU := Lib.hid (fun w' (hb : Below w.heap.size w w') => xused_any x X D bs ns T w' (h.ext hb) hI hT hX)
  have hus := xused_le hI hT
  obtain ⟨wb, hwb⟩ : ∃ wb, wb = w.alloc (.cells #[.int .i64 0, .slice none 0 0] 45) := ⟨_, rfl⟩
  have BQ := Lib.hid (show Blk wb w.heap.size #[.int .i64 0, .slice none 0 0] 45 from by rw [hwb]; exact Blk.new w _ _)
  have HBW := Lib.hid (show Below w.heap.size w wb from by rw [hwb]; go_grown)
  have lx := h.blk.lt
  have hxq : x ≠ w.heap.size := by omega
  have hqx : some w.heap.size ≠ some x := fun e => hxq (Option.some.inj e).symm
  have HC0 : Hid (∀ wx, Below w.heap.size w wx → wx.cell? ⟨x, 0, none⟩ = some (.int .i64 D.room)) := fun wx hb => (h.ext hb).cell 0
  have HU := Lib.hid hu
  obtain ⟨bl, hl⟩ : ∃ bl, b.length = bl := ⟨_, rfl⟩
  have hbl := hu.len
  rw [hl] at hbl
  have hbp : 0 < bl := by rw [← hl]; exact List.length_pos_iff.2 hb0
  obtain ⟨us, hus2⟩ : ∃ us, usedD D = us := ⟨_, rfl⟩
  rw [hl] at hn hf
  rw [hus2] at hus hf CU
  have hcap : bl ≤ cap := by obtain ⟨_, _, e, h1, _⟩ := hu; rw [hn] at e; simp at e; omega
  subst hn
  obtain ⟨rm, hrm⟩ : ∃ rm, D.room = rm := ⟨_, rfl⟩
  rw [hrm] at rm0 rm1 HC0 hf
  have hcap2 : cap ≤ maxLen := by obtain ⟨_, _, e, _, h2, _⟩ := hu; simp at e; omega
  unfold maxLen at hcap2
  have q1 : (0 : Int) < (bl : Int) := by omega
  have q1' : (bl : Int) > (0 : Int) := by omega
  have q2 : IntKind.i64.wrap ((us : Int) + (bl : Int)) = (us : Int) + (bl : Int) := IntWalk.i64_in _ (by omega)
  have q3 : ¬ (us : Int) + (bl : Int) > rm := by omega
  have q3' : ¬ rm < (us : Int) + (bl : Int) := by omega
  obtain ⟨-, hg⟩ := thereE_zero (goesE_ready hr).2.2.2
  have hv := hX.valN _ (mem_nget hg)
  obtain ⟨kb, hkb, hbv, hbne⟩ := bs_at hX.asc hv
  have hvlt := hX.lt _ hv
  simp only at hbv hbne hvlt hv
  have hcnt := hI.cnt
  have hbln := bs_len hX.asc hX.lt
  have CAT := Lib.hid (fun w' (hb : Below w.heap.size w w') => xat_any x X D bs ns a (fileN D.names a) kb w' (h.ext hb) (by omega) (by omega) hg (by omega) hkb hbv hbne)
  obtain ⟨bn, hbn⟩ : ∃ bn, bs.length = bn := ⟨_, rfl⟩
  have HBN := Lib.hid hbn
  have hkb2 : kb < bn := by rw [← hbn]; exact hkb
  have HKB := Lib.hid hkb
  have HBV := Lib.hid hbv
  have HX := Lib.hid hX
  obtain ⟨xs, hxs⟩ : ∃ xs, (D.file (fileN D.names a)).data = xs := ⟨_, rfl⟩
  have HXS := Lib.hid hxs
  have hdl := (hI.file (fileN D.names a)).2
  rw [hxs] at hdl
  obtain ⟨dl, hdl2⟩ : ∃ dl, xs.length = dl := ⟨_, rfl⟩
  have HDL := Lib.hid hdl2
  rw [hdl2] at hdl
  obtain ⟨D2, hD2⟩ : ∃ D2, { fallD D with all := setF D.all (fileN D.names a) ⟨(D.file (fileN D.names a)).data ++ b, (D.file (fileN D.names a)).safe⟩ } = D2 := ⟨_, rfl⟩
  have HEQ : Hid ({ fallD D with all := setF (fallD D).all (bs.getD kb 0) ⟨xs ++ b, ((fallD D).file (bs.getD kb 0)).safe⟩ } = D2) := by
    show _ = _
    rw [← hD2, hbv, hxs]; rfl
  rw [hD2]
  clear hD2
  have i1 : (0 : Int) ≤ (kb : Int) := by omega
  have i2 : (kb : Int) < (bn : Int) := by omega
  have HUY : Hid (∀ w, BytesV w (.slice (some ad) bl cap) b → BytesV w (.slice (some ad) bl cap) b) := fun w h => h
  have HYL := Lib.hid hl
  have hb2 : xs.length + b.length ≤ 1099511627776 := by rw [hl, hdl2]; omega
  rw [hfl] at CF
  clear h hu hI hX ha hnl hr hfl hg hv hkb hbv hbne hvlt hcnt hbln hbn hxs hdl2 hl hb0 hf hus2 hrm
  go_enter Tryz.func63, Tryz.ntmps63
  go_wp2_with (first
    | (go_at_call 68; refine (CA.out _ (by go_grown)).mono ?_; rintro e w1 ⟨rfl, hb1⟩; rw [← hwb] at hb1; have B1 := Lib.hid (BQ.out.ext hb1); have HB1 := Lib.hid (ext HBW.out hb1); have E1 := Lib.hid (Blk.new w1 #[.int .i64 0, .slice none 0 0] 45); have hz1 : w.heap.size < w1.heap.size := B1.out.lt; clear hb1)
    | (go_at_call 34; refine (ok_zero _ _).mono ?_; rintro e w2 ⟨rfl, hb2⟩; have E2 := Lib.hid (E1.out.ext hb2); have HB2 := Lib.hid (show Below w1.heap.size w1 w2 from ext (by go_grown) hb2); have B2 := Lib.hid (B1.out.ext HB2.out); have HW2 : Hid (Below w.heap.size w w2) := Lib.hid (HB1.out.trans (HB2.out.mono HB1.out.size)); have s0 := HC0.out w2 HW2.out; clear hb2))
  go_region_held3 (fun w' => w'.cell? ⟨x, 0, none⟩ = some (.int .i64 rm)) (first | with_reducible exact S5.out | go_keep)
    (first | (go_at_call 53; refine (CU.out _ (ext HW2.out (by go_grown))).mono ?_; rintro e w5 ⟨rfl, hb5⟩; have j5 : Hid (Below w2.heap.size w2 w5) := Lib.hid (ext (by go_grown) hb5); have S5 := Lib.hid (HC0.out w5 (HW2.out.trans (j5.out.mono HW2.out.size))); clear hb5))
  clear s0
  have HW5 : Hid (Below w.heap.size w w5) := Lib.hid (HW2.out.trans (j5.out.mono HW2.out.size))
  have B5 := Lib.hid (B2.out.ext j5.out)
  have E5 := Lib.hid (E2.out.ext j5.out)
  go_wp2_with (first
    | (go_at_call 69; refine (CAT.out _ HW5.out).mono ?_; rintro e w6 ⟨rfl, hb6⟩; have B6 := Lib.hid (B5.out.ext hb6); have E6 := Lib.hid (E5.out.ext hb6); have HW6 : Hid (Below w.heap.size w w6) := Lib.hid (ext HW5.out hb6); clear hb6)
    | (go_at_call 85; refine (CF.out _ HW6.out).mono ?_; rintro e w7 ⟨rfl, hX7, hg7⟩; have HX7 := Lib.hid hX7; have HG7 := Lib.hid hg7; have B7 := Lib.hid (B6.out.grown hg7 hqx); have E7 := Lib.hid (E6.out.grown hg7 (fun e => by have := Option.some.inj e; omega)); clear hX7 hg7))
  obtain ⟨g, gcap, hvb, hgl, hgx, k0, k1, k2, kf⟩ := HX7.out.bodyAt HBN.out hkb2
  obtain ⟨dao, dcap, hdv⟩ := rowShape (HX7.out.dat kb HKB.out)
  rw [HBV.out] at hdv
  have hdv2 : X.at kb = .slice dao dl dcap := by rw [hdv]; have e9 : ((fallD D).file (fileN D.names a)).data.length = dl := by rw [show (fallD D).file (fileN D.names a) = D.file (fileN D.names a) from rfl, HXS.out, HDL.out]
                                                 rw [e9]
  rw [hdv2] at k1
  have HOW := Lib.hid (show w7.ownsRow 0 5 1 (.slice dao dl dcap) xs.length (bcells xs) from by have h9 := HX7.out.dat kb HKB.out; rw [HBV.out, hdv2] at h9; have e : ((fallD D).file (fileN D.names a)).data = xs := HXS.out; rw [e] at h9; exact h9)
  have c1 : w7.cell? ⟨x, 1, none⟩ = some (.slice (some ⟨g, 0, none⟩) bn gcap) := (HX7.out.cell 1).trans (congrArg some hvb)
  have HVB := Lib.hid hvb
  have kf1 := kf (kb * 3 + 1)
  have hgq : g ≠ w.heap.size := fun e => (HX7.out.not_err B7.out (Ne.symm hxq)) g (.inr (.inl (by rw [hvb]; rfl))) e
  have hge : g ≠ w1.heap.size := fun e => (HX7.out.not_err E7.out (by omega)) g (.inr (.inl (by rw [hvb]; rfl))) e
  have lx7 := HX7.out.blk.lt
  have HP : Hid (∀ wx, Below w7.heap.size w7 wx → wx.cell? ⟨x, 1, none⟩ = some (.slice (some ⟨g, 0, none⟩) bn gcap) ∧ wx.cell? ⟨g, kb * 3 + 1, none⟩ = some (.slice dao dl dcap) ∧ wx.frozen? ⟨g, kb * 3 + 1, none⟩ = false) := fun wx hb => ⟨(hb.cell (p := ⟨x, 1, none⟩) lx7).trans c1, (hb.cell (p := ⟨g, kb * 3 + 1, none⟩) hgl).trans k1, (World.frozen?_of_block (a := ⟨g, kb * 3 + 1, none⟩) (hb.block g hgl)).trans kf1⟩
  have HUB := Lib.hid (show BytesV w7 (.slice (some ad) bl cap) b from HUY.out _ ((HU.out.ext HW6.out).farX (H.out.ext HW6.out) HG7.out))
  have CC := Lib.hid (fun wx (hb : Below w7.heap.size w7 wx) => rcopy_any (.slice dao dl dcap) xs wx ((bytes_of_rowB HOW.out).ext hb) (by rw [HDL.out]; omega))
  rw [HDL.out] at CC
  clear hdv hdv2 hvb kf k0 k2 HU HUY
  go_region_law (first
    | (refine step_appB (by rfl) _ _ (by rfl) w7.heap.size (.slice co dl ccap) (.slice (some ad) bl cap) xs b (by rfl) HO8.out (by rfl) HU8.out hb2 hs8 ?_; intro ao9 cap9 w9 hown9 hg9 hat9; have B89 : Below w7.heap.size w8 w9 := (Below.refl w7.heap.size w8).grown hg9 hs8 (fun k hk => (HO8.out.lt k hk).1); have HB9 := Lib.hid (HB8.out.trans B89); have HO9 := Lib.hid hown9; obtain ⟨z1, zk, zf⟩ := HP.out w9 HB9.out; clear hown9 hg9 hat9 B89)
    | (rw [if_pos (by rfl)]; go_simp; go_wp2_with (go_at_call 62; refine (CC.out _ (by go_grown)).mono ?_; rintro e w8 ⟨co, ccap, rfl, ho8, hb8⟩; have HB8 : Hid (Below w7.heap.size w7 w8) := Lib.hid (ext (by go_grown) hb8); have HO8 := Lib.hid (show w8.ownsRow w7.heap.size 5 1 (.slice co dl ccap) xs.length (bcells xs) from by rw [HDL.out]; exact row_mono ho8 (Nat.le_refl _)); have HU8 := Lib.hid (HUB.out.ext HB8.out); have hs8 := HB8.out.size; obtain ⟨z1, zk, zf⟩ := HP.out w8 HB8.out; clear ho8 hb8)))
  all_goals
    have hX10 := HX7.out.setData HX.out.asc HX.out.lt HB9.out HKB.out HVB.out (u := .slice ao9 (xs.length + b.length) cap9) (d := xs ++ b) (row_mono HO9.out (Nat.zero_le _))
    rw [HEQ.out] at hX10
    have HX10 := Lib.hid hX10
    have B10 := Lib.hid ((B7.out.ext HB9.out).of_block (set_other w9 g (kb * 3 + 1) (.slice ao9 (xs.length + b.length) cap9) _ (Ne.symm hgq)))
    have E10 := Lib.hid ((E7.out.ext HB9.out).of_block (set_other w9 g (kb * 3 + 1) (.slice ao9 (xs.length + b.length) cap9) _ (Ne.symm hge)))
    have K10 := Lib.hid (XKeep.body (x := x) (X := X) (o := kb * 3 + 1) (w := w9) HVB.out (.slice ao9 (xs.length + b.length) cap9))
    have HO10 := Lib.hid (show w9.ownsRow w7.heap.size 5 1 (.slice ao9 (xs.length + b.length) cap9) (xs ++ b).length (bcells (xs ++ b)) from HO9.out)
    obtain ⟨v10, hv10⟩ : ∃ v10, (Value.slice ao9 (xs.length + b.length) cap9) = v10 := ⟨_, rfl⟩
    rw [hv10] at hX10 HX10 B10 E10 K10 HO10
    rw [hv10]
    obtain ⟨w10, hw10⟩ : ∃ w10, w9.setCell ⟨g, kb * 3 + 1, none⟩ v10 = w10 := ⟨_, rfl⟩
    rw [hw10] at HX10 B10 E10 K10
    rw [hw10]
    clear hX10 hw10 hv10 c1 k1 kf1 z1 zk zf HO9 HO8 HU8
    have K9 : Hid (Keep (X.has x) w w10) := (Keep.of_below HW6.out).trans ((XKeep.self HG7.out).trans (((Keep.of_below HB9.out).mono fun k _ hk => hk).trans ⟨K10.out.os, K10.out.tape, K10.out.output, K10.out.size, K10.out.block⟩))
    have HN10 : Hid (∀ j, ({ X with dv := X.dv.set kb v10 } : XLay).has x j → X.has x j ∨ w.heap.size ≤ j) := fun j hj => xhas_dv hj fun k hk => Nat.le_trans (Nat.le_trans HW6.out.size HG7.out.size) (HO10.out.lt k hk).1
    obtain ⟨x0, x1, x2, x3⟩ := B10.out.two
    obtain ⟨y0, y1, y2, y3⟩ := E10.out.two
    go_wp2
    obtain ⟨r0, r1, r2, r3⟩ := (B10.out.set2 (.int .i64 0) (.slice none 0 0)).two
    refine bodyPost_ret (by simp [results, Tryz.results63, go_sem, r0, r1, r2, r3]; try rfl) rfl ?_
    have hxlt := HX10.out.not_err B10.out (Ne.symm hxq)
    exact ⟨rfl, _, HX10.out.stays fun k hk => by rw [set_other _ _ _ _ k (hxlt k hk), set_other _ _ _ _ k (hxlt k hk)], HN10.out, Keep.set_new (Keep.set_new K9.out (Nat.le_refl _) _) (Nat.le_refl _) _⟩
end
end Go.Proofs.YtdiaejphgcoknaaGreatDoor
