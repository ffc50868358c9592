/- kinref5.Append: contract. kinref5: pick, there, Read: contracts. kinref5: List, Files: contracts. disk.Room, disk.Grow, kinref.Texts: contracts; the disk and the document's disk beside one another. kinref5: Read: contract. kinlaw5.writes: contracts, kind by kind. kinlaw5.writes of Append: contract. -/
import Derived.Test.YtdiaejphgcoknaaGreatDoorPlaysC
import Derived.Test.YtdiaejphgcoknaaGreatDoorPlaysD
set_option linter.unusedSimpArgs false
set_option linter.unusedVariables false
namespace Go.Proofs.YtdiaejphgcoknaaGreatDoor

/-! kinref5.Append: contract. -/
section
open Go.RowKit Go.Extern.Stop Go.Stop Go.Extern

set_option maxRecDepth 100000 in
set_option maxHeartbeats 4000000 in
theorem xapp_nine (x : Nat) (X : XLay) (D : DS) (bs ns : List Nat) (a : Bs) (u : Value) (b : Bs) (T : Nat) (w : World) (h : XP w x X D bs ns) (hu : BytesV w u b) (hI : Inv D T) (hT : T ≤ 100000) (hX : XI D bs ns) (ha : a.length ≤ maxLen) (hr : readE D a = 0) (ad : Addr) (cap : Nat) (hn : u = .slice (some ad) b.length cap) (hb0 : b ≠ []) (hf : D.room - usedD D < b.length) (hbb : b.length ≤ 1000000000) :
    Calls Tryz.prog 63 #[.pointer (some ⟨x, 0, none⟩), .string ⟨a.toArray⟩, u] w (XPost x X 9 D bs ns w) := by
  have H := Lib.hid h
  obtain ⟨d0, d1⟩ := hI.done
  obtain ⟨rm0, rm1⟩ := hI.room
  have hnl := hI.nam
  have CA := Lib.hid (fun w' (hb : Below w.heap.size w w') => xasks_any x X D bs ns a w' (h.ext hb) (by omega) ha)
  rw [hr] at CA
  unfold errX at CA
  have CF := Lib.hid (fun w' (hb : Below w.heap.size w w') => xfalls_any x X D bs ns w' (h.ext hb) d0 (by omega) hI.armed.2)
  have CU := Lib.hid (fun w' (hb : Below w.heap.size w w') => xused_any x X D bs ns T w' (h.ext hb) hI hT hX)
  have hus := xused_le hI hT
  obtain ⟨wb, hwb⟩ : ∃ wb, wb = w.alloc (.cells #[.int .i64 0, .slice none 0 0] 45) := ⟨_, rfl⟩
  have BQ := Lib.hid (show Blk wb w.heap.size #[.int .i64 0, .slice none 0 0] 45 from by rw [hwb]; exact Blk.new w _ _)
  have HBW := Lib.hid (show Below w.heap.size w wb from by rw [hwb]; go_grown)
  have lx := h.blk.lt
  have hxq : x ≠ w.heap.size := by omega
  have hqx : some w.heap.size ≠ some x := fun e => hxq (Option.some.inj e).symm
  have HC0 : Hid (∀ wx, Below w.heap.size w wx → wx.cell? ⟨x, 0, none⟩ = some (.int .i64 D.room)) := fun wx hb => (h.ext hb).cell 0
  have HU := Lib.hid hu
  obtain ⟨bl, hl⟩ : ∃ bl, b.length = bl := ⟨_, rfl⟩
  have hbl := hu.len
  rw [hl] at hbl
  rw [hl] at hbb
  have hbp : 0 < bl := by rw [← hl]; exact List.length_pos_iff.2 hb0
  obtain ⟨us, hus2⟩ : ∃ us, usedD D = us := ⟨_, rfl⟩
  rw [hl] at hn hf
  rw [hus2] at hus hf CU
  have hcap : bl ≤ cap := by obtain ⟨_, _, e, h1, _⟩ := hu; rw [hn] at e; simp at e; omega
  subst hn
  obtain ⟨rm, hrm⟩ : ∃ rm, D.room = rm := ⟨_, rfl⟩
  rw [hrm] at rm0 rm1 HC0 hf
  have hcap2 : cap ≤ maxLen := by obtain ⟨_, _, e, _, h2, _⟩ := hu; simp at e; omega
  unfold maxLen at hcap2
  have q1 : (0 : Int) < (bl : Int) := by omega
  have q1' : (bl : Int) > (0 : Int) := by omega
  have q2 : IntKind.i64.wrap ((us : Int) + (bl : Int)) = (us : Int) + (bl : Int) := IntWalk.i64_in _ (by omega)
  have q3 : (us : Int) + (bl : Int) > rm := by omega
  have q3' : rm < (us : Int) + (bl : Int) := by omega
  clear h hu hI hX ha hnl hr hl hb0 hf hus2 hrm CF
  go_enter Tryz.func63, Tryz.ntmps63
  go_wp2_with (first
    | (go_at_call 68; refine (CA.out _ (by go_grown)).mono ?_; rintro e w1 ⟨rfl, hb1⟩; rw [← hwb] at hb1; have B1 := Lib.hid (BQ.out.ext hb1); have HB1 := Lib.hid (ext HBW.out hb1); have E1 := Lib.hid (Blk.new w1 #[.int .i64 0, .slice none 0 0] 45); have hz1 : w.heap.size < w1.heap.size := B1.out.lt; clear hb1)
    | (go_at_call 34; refine (ok_zero _ _).mono ?_; rintro e w2 ⟨rfl, hb2⟩; have E2 := Lib.hid (E1.out.ext hb2); have HB2 := Lib.hid (show Below w1.heap.size w1 w2 from ext (by go_grown) hb2); have B2 := Lib.hid (B1.out.ext HB2.out); have HW2 : Hid (Below w.heap.size w w2) := Lib.hid (HB1.out.trans (HB2.out.mono HB1.out.size)); have s0 := HC0.out w2 HW2.out; clear hb2))
  go_region_held3 (fun w' => w'.cell? ⟨x, 0, none⟩ = some (.int .i64 rm)) (first | with_reducible exact S5.out | go_keep)
    (first | (go_at_call 53; refine (CU.out _ (ext HW2.out (by go_grown))).mono ?_; rintro e w5 ⟨rfl, hb5⟩; have j5 : Hid (Below w2.heap.size w2 w5) := Lib.hid (ext (by go_grown) hb5); have S5 := Lib.hid (HC0.out w5 (HW2.out.trans (j5.out.mono HW2.out.size))); clear hb5))
  clear s0
  have B5 := Lib.hid (B2.out.ext j5.out)
  go_wp2_with (go_at_call 22; refine (fail_any _ _).mono ?_; rintro e w6 ⟨rfl, hb6⟩; have B6 := Lib.hid (B5.out.ext hb6); have HB6 := Lib.hid hb6; obtain ⟨x0, x1, x2, x3⟩ := B6.out.two; clear hb6)
  obtain ⟨r0, r1, r2, r3⟩ := (B6.out.set2 (.int .i64 9) (.slice none 0 0)).two
  refine bodyPost_ret (by simp [results, Tryz.results63, go_sem, r0, r1, r2, r3]; try rfl) rfl ?_
  have HW6 : Below w.heap.size w w6 := (HW2.out.trans (j5.out.mono HW2.out.size)).trans (HB6.out.mono (Nat.le_trans HW2.out.size j5.out.size))
  exact XPost.none H.out rfl (below_set (below_set HW6 (Nat.le_refl _) _) (Nat.le_refl _) _)
theorem xappend_any (x : Nat) (X : XLay) (D : DS) (bs ns : List Nat) (a : Bs) (u : Value) (b : Bs) (T : Nat) (w : World) (h : XP w x X D bs ns) (hu : BytesV w u b) (hI : Inv D T) (hT : T ≤ 100000) (hX : XI D bs ns) (ha : a.length ≤ maxLen) (hbb : b.length ≤ 1000000000) :
    Calls Tryz.prog 63 #[.pointer (some ⟨x, 0, none⟩), .string ⟨a.toArray⟩, u] w (XPost x X (appE D a b) (appD D a b) bs ns w) := by
  by_cases hr : readE D a = 0
  · by_cases hf : b ≠ [] ∧ D.room - usedD D < b.length
    · obtain ⟨e1, e2⟩ := appE_full hr hf.1 hf.2
      rw [e1, e2]
      obtain ⟨ao, cap, hn⟩ := hu.shape
      cases ao with
      | none =>
        exfalso
        obtain ⟨_, _, e, h1, _, h2, _⟩ := hu
        rw [hn] at e
        obtain ⟨rfl, -, rfl⟩ := Value.slice.inj e
        have := h2 rfl
        exact hf.1 (List.length_eq_zero_iff.1 (by omega))
      | some ad => exact xapp_nine x X D bs ns a u b T w h hu hI hT hX ha hr ad cap hn hf.1 hf.2 hbb
    · obtain ⟨e1, e2⟩ := appE_room hr hf
      rw [e1, e2]
      unfold appF
      obtain ⟨ao, cap, hn⟩ := hu.shape
      by_cases hb0 : b = []
      · cases ao with
        | none =>
          have hn2 : u = .slice none 0 0 := by
            obtain ⟨_, _, e, h1, _, h2, _⟩ := hu
            rw [hn] at e
            obtain ⟨rfl, -, rfl⟩ := Value.slice.inj e
            rw [hn, h2 rfl, hb0]; rfl
          cases hd : downF D with
          | true => exact xapp_none_d x X D bs ns a u b T w h hu hI hT hX ha hr hn2 hb0 hd
          | false => exact xapp_none_u x X D bs ns a u b T w h hu hI hT hX ha hr hn2 hb0 hd
        | some ad =>
          have hn2 : u = .slice (some ad) 0 cap := by rw [hn, hb0]; rfl
          cases hd : downF D with
          | true => exact xapp_zero_d x X D bs ns a u b T w h hu hI hT hX ha hr ad cap hn2 hb0 hd
          | false => exact xapp_zero_u x X D bs ns a u b T w h hu hI hT hX ha hr ad cap hn2 hb0 hd
      · have hf2 : ¬ D.room - usedD D < b.length := fun h9 => hf ⟨hb0, h9⟩
        cases ao with
        | none =>
          exfalso
          obtain ⟨_, _, e, h1, _, h2, _⟩ := hu
          rw [hn] at e
          obtain ⟨rfl, -, rfl⟩ := Value.slice.inj e
          have := h2 rfl
          exact hb0 (List.length_eq_zero_iff.1 (by omega))
        | some ad =>
          cases hd : downF D with
          | true => exact xapp_full_d x X D bs ns a u b T w h hu hI hT hX ha hr ad cap hn hb0 hf2 hd
          | false => exact xapp_full_u x X D bs ns a u b T w h hu hI hT hX ha hr ad cap hn hb0 hf2 hd
  · obtain ⟨e1, e2⟩ := appE_not (b := b) hr
    rw [e1, e2]
    exact xapp_not x X D bs ns a u T w h hI hT ha hr
end

/-! kinref5: pick, there, Read: contracts. -/
section
open Go.RowKit Go.Extern.Stop Go.Stop Go.Extern

def pickM (picks : List Int) (k : Nat) : Int := if k < picks.length then max (picks.getD k 0) 0 else 0
theorem pickM_rem (picks : List Int) (k m : Nat) : Int.tmod (pickM picks k) ((m : Int) + 1) = (pickV picks k m : Int) := by
  unfold pickM pickV
  by_cases h : k < picks.length
  · by_cases h2 : 0 ≤ picks.getD k 0
    · rw [if_pos h, if_pos ⟨h, h2⟩]
      obtain ⟨n, hn⟩ : ∃ n : Nat, picks.getD k 0 = (n : Int) := ⟨(picks.getD k 0).toNat, by omega⟩
      rw [hn, show max (n : Int) 0 = (n : Int) from by omega, Int.toNat_natCast, show ((m : Int) + 1) = ((m + 1 : Nat) : Int) from by omega, ← Int.ofNat_tmod]
    · rw [if_pos h, if_neg (fun h9 => h2 h9.2), show max (picks.getD k 0) 0 = 0 from by omega]; simp
  · rw [if_neg h, if_neg (fun h9 => h h9.1)]; simp
theorem pickM_in {picks : List Int} (h : ∀ x ∈ picks, in64 x) (k : Nat) : 0 ≤ pickM picks k ∧ pickM picks k ≤ 9223372036854775807 := by
  unfold pickM
  split
  · have := getD_in64 h k; unfold in64 at this; omega
  · omega
set_option maxRecDepth 100000 in
theorem xpick_any (v : Value) (picks : List Int) (k : Nat) (w : World) (hv : Ints w v picks) (hk : k ≤ 1000000) :
    Calls Tryz.prog 70 #[v, .int .i64 (k : Int)] w fun e w' => e = .returned (.int .i64 (pickM picks k)) ∧ w = w' := by
  have hin := hv.in64
  have hlen := hv.len
  obtain ⟨ao, cap, rfl, h1, h2, -, -, h4⟩ := hv
  obtain ⟨n, hn⟩ : ∃ n, picks.length = n := ⟨_, rfl⟩
  unfold pickM
  rw [hn] at h1 h4 hlen ⊢
  by_cases hlt : k < n
  · rw [if_pos hlt]
    obtain ⟨b, off, rfl, c⟩ := h4 k hlt
    have i1 : (0 : Int) ≤ (k : Int) := by omega
    have i2 : (k : Int) < (n : Int) := by omega
    clear h4 hin hn
    generalize picks.getD k 0 = p at *
    by_cases hp : 0 ≤ p
    · rw [show max p 0 = p from by omega]
      have q1 : (if (0 : Int) > (p : Int) then (0 : Int) else (p : Int)) = (p : Int) := by rw [if_neg (by omega)]
      have q2 : max p 0 = p := by omega
      go_enter Tryz.func70, Tryz.ntmps70
      go_wp2
      go_returns
      exact ⟨by first | rfl | (simp; omega), rfl⟩
    · rw [show max p 0 = 0 from by omega]
      have q2 : max p 0 = 0 := by omega
      go_enter Tryz.func70, Tryz.ntmps70
      go_wp2
      go_returns
      exact ⟨by first | rfl | (simp; omega), rfl⟩
  · rw [if_neg hlt]
    clear h4 hin hn
    have i2 : ¬ (k : Int) < (n : Int) := by omega
    go_enter Tryz.func70, Tryz.ntmps70
    go_wp2
    go_returns
    exact ⟨rfl, rfl⟩
theorem there_safe {D : DS} {ns : List Nat} {no k : Nat} (hk : k < D.safe.length) (h : (D.safe.getD k ([], 0)).2 = no) : thereB D ns no = true := by
  unfold thereB
  rw [List.any_eq_true.2 ⟨D.safe.getD k ([], 0), by rw [List.getD_eq_getElem?_getD, List.getElem?_eq_getElem hk]; exact List.getElem_mem hk, by simpa using h⟩]; rfl
theorem there_step {D : DS} {ns : List Nat} {no k : Nat} (hk : k < ns.length) (h : ns.getD k 0 = no) : thereB D ns no = true := by
  unfold thereB
  rw [List.any_eq_true (l := ns) |>.2 ⟨ns.getD k 0, mem_at hk, by simpa using h⟩, Bool.or_true]
theorem there_not {D : DS} {ns : List Nat} {no : Nat} (h1 : ∀ j, j < D.safe.length → (D.safe.getD j ([], 0)).2 ≠ no) (h2 : ∀ j, j < ns.length → ns.getD j 0 ≠ no) : thereB D ns no = false := by
  unfold thereB
  rw [Bool.or_eq_false_iff, List.any_eq_false, List.any_eq_false]
  refine ⟨fun q hq => ?_, fun q hq => ?_⟩
  · obtain ⟨j, hj, rfl⟩ := List.mem_iff_getElem.1 hq
    have := h1 j hj
    rw [List.getD_eq_getElem?_getD, List.getElem?_eq_getElem hj] at this
    simpa using this
  · obtain ⟨j, hj, rfl⟩ := List.mem_iff_getElem.1 hq
    have := h2 j hj
    rw [List.getD_eq_getElem?_getD, List.getElem?_eq_getElem hj] at this
    simpa using this
theorem XP.stepAt {w : World} {x : Nat} {X : XLay} {D : DS} {bs ns : List Nat} (h : XP w x X D bs ns) {n : Nat} (hn : D.steps.length = n) {j : Nat} (hj : j < n) : ∃ g cap, X.vt = .slice (some ⟨g, 0, none⟩) n cap ∧ g < w.heap.size ∧ w.cell? ⟨g, j * 4, none⟩ = some (.int .i64 (((D.steps.getD j ⟨0, [], [], 0⟩).kind : Int) + 1)) ∧ w.cell? ⟨g, j * 4 + 1, none⟩ = some (.string ⟨(D.steps.getD j ⟨0, [], [], 0⟩).name.toArray⟩) ∧
    w.cell? ⟨g, j * 4 + 2, none⟩ = some (.string ⟨(D.steps.getD j ⟨0, [], [], 0⟩).to.toArray⟩) ∧ w.cell? ⟨g, j * 4 + 3, none⟩ = some (.int .i64 ((ns.getD j 0 : Nat) : Int)) := by
  subst hn
  rcases row_head h.stp with ⟨e, h0⟩ | ⟨g, cap, e, -, hlt, -, -, hf, -⟩
  · omega
  · have ha := h.stp
    rw [e] at ha
    exact ⟨g, cap, e, hlt, row_cellAt ha (flatR_at (g := kstepc D.steps ns) (m := 4) (c := 0) (fun _ => rfl) _ hj (by decide)), row_cellAt ha (flatR_at (g := kstepc D.steps ns) (m := 4) (c := 1) (fun _ => rfl) _ hj (by decide)), row_cellAt ha (flatR_at (g := kstepc D.steps ns) (m := 4) (c := 2) (fun _ => rfl) _ hj (by decide)), row_cellAt ha (flatR_at (g := kstepc D.steps ns) (m := 4) (c := 3) (fun _ => rfl) _ hj (by decide))⟩
set_option maxRecDepth 100000 in
set_option maxHeartbeats 1000000 in
theorem xthere_any (x : Nat) (X : XLay) (D : DS) (bs ns : List Nat) (no : Nat) (w : World) (h : XP w x X D bs ns) (hls : D.safe.length ≤ 1000000) (hlt : D.steps.length ≤ 1000000) (hns : ns.length = D.steps.length) :
    Calls Tryz.prog 71 #[.pointer (some ⟨x, 0, none⟩), .int .i64 (no : Int)] w fun e w' => e = .returned (.bool (thereB D ns no)) ∧ Below w.heap.size w w' := by
  have H := Lib.hid h
  obtain ⟨uo, ucap, hvu⟩ := rowShape h.sur
  obtain ⟨n, hn⟩ : ∃ n, D.safe.length = n := ⟨_, rfl⟩
  obtain ⟨m, hm⟩ : ∃ m, D.steps.length = m := ⟨_, rfl⟩
  rw [hn] at hvu hls
  rw [hm] at hlt hns
  have HN := Lib.hid hn
  have HM := Lib.hid hm
  have HNS := Lib.hid hns
  obtain ⟨to, tcap, hvt⟩ := rowShape h.stp
  rw [hm] at hvt
  have HNR := Lib.hid (show NRow w 0 (.slice uo n ucap) D.safe from hvu ▸ h.sur)
  have c3 : w.cell? ⟨x, 3, none⟩ = some (.slice uo n ucap) := (h.cell 3).trans (congrArg some hvu)
  have c4 : w.cell? ⟨x, 4, none⟩ = some (.slice to m tcap) := (h.cell 4).trans (congrArg some hvt)
  have HVT := Lib.hid hvt
  have lx := h.blk.lt
  have T1 := Lib.hid (fun k hk h => there_safe (D := D) (ns := ns) (no := no) (k := k) hk h)
  have T2 := Lib.hid (fun k hk h => there_step (D := D) (ns := ns) (no := no) (k := k) hk h)
  have T3 := Lib.hid (fun h1 h2 => there_not (D := D) (ns := ns) (no := no) h1 h2)
  clear h hn hm hns hvu hvt
  go_enter Tryz.func71, Tryz.ntmps71
  go_wp2
  go_loopw [5] (fun i wr => ∃ k : Nat, k ≤ n ∧ i = .int .i64 (k : Int) ∧ Below w.heap.size w wr ∧ ∀ j, j < k → (D.safe.getD j ([], 0)).2 ≠ no) (fun i _ => n - (intOf i).toNat)
  case atStart => exact ⟨0, Nat.zero_le _, rfl, Below.refl _ _, fun j hj => absurd hj (Nat.not_lt_zero j)⟩
  case round =>
    obtain ⟨k, hk, rfl, hb, hA⟩ := hrel
    have HA := Lib.hid hA
    clear hA
    have d3 : wr.cell? ⟨x, 3, none⟩ = some (.slice uo n ucap) := (hb.cell (p := ⟨x, 3, none⟩) lx).trans c3
    have d4 : wr.cell? ⟨x, 4, none⟩ = some (.slice to m tcap) := (hb.cell (p := ⟨x, 4, none⟩) lx).trans c4
    by_cases hlt : k < n
    · obtain ⟨g, rfl, -, hgl, hcap, e0, e1⟩ := (HNR.out.ext hb).cellAt HN.out hlt
      have HK := Lib.hid (T1.out k (by rw [HN.out]; exact hlt))
      have HSU : Hid ((D.safe.getD k ([], 0)).2 ≠ no → ∀ j, j < k + 1 → (D.safe.getD j ([], 0)).2 ≠ no) := fun h j hj => by
        by_cases e : j = k
        · rw [e]; exact h
        · exact HA.out j (by omega)
      generalize (D.safe.getD k ([], 0)).2 = a at *
      have i1 : (0 : Int) ≤ (k : Int) := by omega
      have i2 : (k : Int) < (n : Int) := by omega
      clear c3 c4
      by_cases hq : a = no
      · have HE := Lib.hid (HK.out hq)
        subst hq
        have q : ((a : Int) == (a : Int)) = true := by simp
        go_wp2
        go_returns
        exact ⟨by rw [HE.out]; rfl, hb⟩
      · have HS2 := Lib.hid (HSU.out hq)
        have q : ((a : Int) == (no : Int)) = false := by
          have : ¬ (a : Int) = (no : Int) := by omega
          simpa using this
        have q2 : ¬ (a : Int) = (no : Int) := by omega
        go_wp2
        go_roundw
        case rel => exact ⟨k + 1, by omega, by go_num, hb, HS2.out⟩
        case measure => simp [intOf]; omega
    · obtain rfl : k = n := by omega
      have lxr : x < wr.heap.size := Nat.lt_of_lt_of_le lx hb.size
      have HBR := Lib.hid hb
      obtain ⟨wo, rfl⟩ : ∃ wo : World, wo = wr := ⟨_, rfl⟩
      clear c3 c4 hb
      go_wp2
      go_loopw [6] (fun i wr => ∃ t : Nat, t ≤ m ∧ i = .int .i64 (t : Int) ∧ Below w.heap.size w wr ∧ Below wo.heap.size wo wr ∧ ∀ j, j < t → ns.getD j 0 ≠ no) (fun i _ => m - (intOf i).toNat)
      case atStart => exact ⟨0, Nat.zero_le _, rfl, HBR.out, Below.refl _ _, fun j hj => absurd hj (Nat.not_lt_zero j)⟩
      case round =>
        obtain ⟨t, ht, rfl, hb, hbo, hA2⟩ := hrel
        have HA2 := Lib.hid hA2
        clear hA2
        have f4 : wr.cell? ⟨x, 4, none⟩ = some (.slice to m tcap) := (hbo.cell (p := ⟨x, 4, none⟩) lxr).trans d4
        by_cases hlt : t < m
        · obtain ⟨g, tc2, hvt2, hgl, -, -, -, e3⟩ := (H.out.ext hb).stepAt HM.out hlt
          have e9 := hvt2.symm.trans HVT.out
          simp only [Value.slice.injEq, true_and] at e9
          obtain ⟨rfl, rfl⟩ := e9
          have HK := Lib.hid (T2.out t (by rw [HNS.out]; exact hlt))
          have HSU : Hid (ns.getD t 0 ≠ no → ∀ j, j < t + 1 → ns.getD j 0 ≠ no) := fun h j hj => by
            by_cases e : j = t
            · rw [e]; exact h
            · exact HA2.out j (by omega)
          generalize ns.getD t 0 = a at *
          have i1 : (0 : Int) ≤ (t : Int) := by omega
          have i2 : (t : Int) < (m : Int) := by omega
          clear d3 d4 hvt2
          by_cases hq : a = no
          · have HE := Lib.hid (HK.out hq)
            subst hq
            have q : ((a : Int) == (a : Int)) = true := by simp
            go_wp2
            go_returns
            exact ⟨by rw [HE.out]; rfl, hb⟩
          · have HS2 := Lib.hid (HSU.out hq)
            have q : ((a : Int) == (no : Int)) = false := by
              have : ¬ (a : Int) = (no : Int) := by omega
              simpa using this
            have q2 : ¬ (a : Int) = (no : Int) := by omega
            go_wp2
            go_roundw
            case rel => exact ⟨t + 1, by omega, by go_num, hb, hbo, HS2.out⟩
            case measure => simp [intOf]; omega
        · obtain rfl : t = m := by omega
          have HE : Hid (thereB D ns no = false) := T3.out (fun j hj => HA.out j (by rw [← HN.out]; exact hj)) (fun j hj => HA2.out j (by rw [← HNS.out]; exact hj))
          clear d3 d4
          go_wp2
          go_returns
          exact ⟨by rw [HE.out]; rfl, hb⟩
end

/-! kinref5: List, Files: contracts. -/
section
open Go.RowKit Go.Extern.Stop Go.Stop Go.Extern

theorem keysN_succ (m : NM) {k : Nat} (h : k < m.length) : keysN (m.take (k + 1)) = keysN (m.take k) ++ [(m.getD k ([], 0)).1] := by
  unfold keysN
  rw [take_app m ([], 0) h, List.map_append, List.map_cons, List.map_nil]
theorem listD_srt {D : DS} (h : Srt D.names) : listD D = keysN D.names := by
  unfold listD
  refine List.mergeSort_of_pairwise ?_
  unfold keysN
  refine List.pairwise_map.2 (h.imp fun h => ?_)
  rw [← less_before, Go.Proofs.bytesLess_eq] at h
  have h2 := of_decide_eq_true h
  exact decide_eq_true (List.le_of_lt h2)
def filesX (D : DS) : List FV := D.names.map fun q => ⟨q.1, (D.file q.2).data, (D.file q.2).safe⟩
theorem filesX_eq {D : DS} (h : Srt D.names) : filesX D = filesD D := by
  unfold filesX filesD
  rw [listD_srt h]
  unfold keysN
  rw [List.map_map]
  refine List.map_congr_left fun q hq => ?_
  show _ = fileV D q.1
  unfold fileV
  rw [nget_fileN (nget_mem h.keys hq)]
theorem filesX_succ (D : DS) {k : Nat} (h : k < D.names.length) : (filesX D).take (k + 1) = (filesX D).take k ++ [⟨(D.names.getD k ([], 0)).1, (D.file (D.names.getD k ([], 0)).2).data, (D.file (D.names.getD k ([], 0)).2).safe⟩] := by
  unfold filesX
  rw [← List.map_take, ← List.map_take, take_app D.names ([], 0) h, List.map_append, List.map_cons, List.map_nil]
theorem length_filesX (D : DS) : (filesX D).length = D.names.length := by unfold filesX; rw [List.length_map]
set_option maxRecDepth 100000 in
set_option maxHeartbeats 1000000 in
theorem xlist_any (x : Nat) (X : XLay) (D : DS) (bs ns : List Nat) (w : World) (h : XP w x X D bs ns) (hl : D.names.length ≤ 100000) (hS : Srt D.names) :
    Calls Tryz.prog 52 #[.pointer (some ⟨x, 0, none⟩)] w (ListPost D w) := by
  have HKE := Lib.hid (listD_srt hS)
  obtain ⟨no', ncap, hvn⟩ := rowShape h.nam
  obtain ⟨n, hn⟩ : ∃ n, D.names.length = n := ⟨_, rfl⟩
  rw [hn] at hvn hl
  have c2 : w.cell? ⟨x, 2, none⟩ = some (.slice no' n ncap) := (h.cell 2).trans (congrArg some hvn)
  have lx := h.blk.lt
  have HNR := Lib.hid (show NRow w 0 (.slice no' n ncap) D.names from hvn ▸ h.nam)
  have HN := Lib.hid hn
  have HTK := Lib.hid (show D.names.take n = D.names from by rw [← hn]; exact List.take_length)
  unfold ListPost
  rw [HKE.out, hn]
  clear h hn hvn hS
  go_enter Tryz.func52, Tryz.ntmps52
  go_wp2
  go_loopw [3, 4] (fun o i wr => ∃ k : Nat, k ≤ n ∧ i = .int .i64 (k : Int) ∧ wr.ownsRow w.heap.size 9 1 o k ((keysN (D.names.take k)).map Go.Proofs.encStr) ∧ Below w.heap.size w wr) (fun _ i _ => n - (intOf i).toNat)
  case atStart => exact ⟨0, Nat.zero_le _, rfl, by rw [List.take_zero]; exact World.ownsRow_nil _ _ _ 1, Below.refl _ _⟩
  case round =>
    obtain ⟨k, hk, rfl, ho, hb⟩ := hrel
    obtain ⟨oo, ocap, rfl⟩ := rowShape ho
    have HO := Lib.hid ho
    have HB := Lib.hid hb
    have d2 : wr.cell? ⟨x, 2, none⟩ = some (.slice no' n ncap) := (hb.cell (p := ⟨x, 2, none⟩) lx).trans c2
    clear ho c2
    by_cases hlt : k < n
    · obtain ⟨g, rfl, -, hgl, hcap, e0, e1⟩ := (HNR.out.ext hb).cellAt HN.out hlt
      have HSU := Lib.hid (keysN_succ D.names (k := k) (by rw [HN.out]; exact hlt))
      have i1 : (0 : Int) ≤ (k : Int) := by omega
      have i2 : (k : Int) < (n : Int) := by omega
      generalize D.names.getD k ([], 0) = p at *
      obtain ⟨a, v⟩ := p
      simp only at e0 HSU
      go_wp2_with (at_builtin; refine wpList_row1 74 9 1 16 _ Tryz.underlying74 infoS rfl (by decide) rfl _ _ rfl w.heap.size (.slice oo k ocap) k _ [Go.Proofs.encStr a] rfl HO.out rfl rfl rfl (by intro u hu; simp at hu; subst hu; rfl) (by omega) (by decide) HB.out.size ?_; intro v' w3 hown3 hb3 hg3 _; have HO3 := Lib.hid hown3; have HB3 := Lib.hid (HB.out.trans hb3); clear hown3 hb3 hg3)
      go_wp2
      go_roundw
      case rel => exact ⟨k + 1, by omega, by go_num, by rw [HSU.out, List.map_append]; exact HO3.out, HB3.out⟩
      case measure => simp [intOf]; omega
    · obtain rfl : k = n := by omega
      go_wp2
      go_returns
      exact ⟨_, rfl, by have h9 := HO.out; rw [HTK.out] at h9; exact h9, hb⟩
end

/-! disk.Room, disk.Grow, kinref.Texts: contracts; the disk and the document's disk beside one another. -/
section
open Go.RowKit Go.Extern.Stop Go.Stop Go.Extern

theorem room_any (p : Nat) (L : Lay) (D : DS) (w : World) (h : DP w p L D) :
    Calls Tryz.prog 54 #[.pointer (some ⟨p, 0, none⟩)] w fun e w' => e = .returned (.int .i64 D.room) ∧ w = w' := by
  have c0 : w.cell? ⟨p, 0, none⟩ = some (.int .i64 D.room) := h.cell 0
  clear h
  go_enter Tryz.func54, Tryz.ntmps54
  go_wp2
  go_ret
  exact ⟨rfl, rfl⟩
set_option maxRecDepth 100000 in
theorem grow_any (p : Nat) (L : Lay) (D : DS) (n : Int) (T : Nat) (w : World) (h : DP w p L D) (hI : Inv D T) :
    Calls Tryz.prog 48 #[.pointer (some ⟨p, 0, none⟩), .int .i64 n] w (OpPost p L (growE D n) (growD D n) w) := by
  have H := Lib.hid h
  have c6 : w.cell? ⟨p, 6, none⟩ = some (.bool D.down) := h.cell 6
  have c0 : w.cell? ⟨p, 0, none⟩ = some (.int .i64 D.room) := h.cell 0
  have f0 := h.free 0
  obtain ⟨hr1, hr2⟩ := hI.room
  cases hd : D.down with
  | true =>
    have e1 : growE D n = 10 := by unfold growE; rw [hd]; rfl
    have e2 : growD D n = D := by unfold growD; rw [if_neg (by rw [e1]; decide)]
    rw [e1, e2]
    rw [hd] at c6
    clear h hI hd e1 e2
    go_enter Tryz.func48, Tryz.ntmps48
    go_wp2
    go_returns
    exact ⟨by rw [errV_ne (k := 10) (by decide)]; rfl, L, H.out, fun _ hk => .inl hk, Keep.refl _ _⟩
  | false =>
    rw [hd] at c6
    by_cases hn : n < 0 ∨ 16777216 - D.room < n
    · have e1 : growE D n = 3 := by unfold growE; rw [hd, if_neg (by simp), if_pos hn]
      have e2 : growD D n = D := by unfold growD; rw [if_neg (by rw [e1]; decide)]
      rw [e1, e2]
      generalize D.room = rm at *
      have q1 : IntKind.i64.wrap (16777216 - rm) = 16777216 - rm := IntWalk.i64_in _ (by omega)
      clear h hI hd e1 e2
      by_cases hn0 : n < 0
      · clear hn
        go_enter Tryz.func48, Tryz.ntmps48
        go_wp2
        go_returns
        exact ⟨by rw [errV_ne (k := 3) (by decide)]; rfl, L, H.out, fun _ hk => .inl hk, Keep.refl _ _⟩
      · have hn1 : n > 16777216 - rm := by omega
        clear hn
        go_enter Tryz.func48, Tryz.ntmps48
        go_wp2
        go_returns
        exact ⟨by rw [errV_ne (k := 3) (by decide)]; rfl, L, H.out, fun _ hk => .inl hk, Keep.refl _ _⟩
    · have e1 : growE D n = 0 := by unfold growE; rw [hd, if_neg (by simp), if_neg hn]
      have e2 : growD D n = { D with room := D.room + n } := by unfold growD; rw [if_pos e1]
      rw [e1, e2]
      have e : dcells L { D with room := D.room + n } = (dcells L D).setIfInBounds 0 (.int .i64 (D.room + n)) := by simp [dcells]
      have HS := Lib.hid (h.scalars (D' := { D with room := D.room + n }) (w' := w.setCell ⟨p, 0, none⟩ (.int .i64 (D.room + n))) (by rw [e]; exact h.blk.set 0 _) (fun k hk => set_other _ _ _ _ k hk) rfl rfl rfl rfl)
      generalize D.room = rm at *
      have q1 : IntKind.i64.wrap (16777216 - rm) = 16777216 - rm := IntWalk.i64_in _ (by omega)
      have q2 : IntKind.i64.wrap (rm + n) = rm + n := IntWalk.i64_in _ (by omega)
      have n1 : ¬ n < 0 := by omega
      have n2 : ¬ n > 16777216 - rm := by omega
      clear h hI hd e1 e2 hn e
      go_enter Tryz.func48, Tryz.ntmps48
      go_wp2
      go_returns
      exact ⟨by rw [errV_zero]; rfl, L, HS.out, fun _ hk => .inl hk, Keep.self (grown_set _ _ _ _)⟩
set_option maxRecDepth 100000 in
set_option maxHeartbeats 1000000 in
theorem rtexts_same (v u : Value) (ss : List Bs) (B B2 : Nat) (w : World) (hv : w.ownsRow B 9 1 v ss.length (ss.map Go.Proofs.encStr)) (hu : w.ownsRow B2 9 1 u ss.length (ss.map Go.Proofs.encStr)) (hl : ss.length ≤ 1000000) :
    Calls Tryz.prog 51 #[v, u] w fun e w' => e = .returned (.bool true) ∧ Below w.heap.size w w' := by
  obtain ⟨n, hn⟩ : ∃ n, ss.length = n := ⟨_, rfl⟩
  have HN := Lib.hid hn
  rw [hn] at hv hu hl
  obtain ⟨ao, cap, rfl⟩ := rowShape hv
  obtain ⟨bo, bcap, rfl⟩ := rowShape hu
  have HV := Lib.hid hv
  have HU := Lib.hid hu
  have qn : ((n : Int) != (n : Int)) = false := by simp
  clear hv hu hn
  go_enter Tryz.func51, Tryz.ntmps51
  go_wp2
  go_loopw [5] (fun i wr => ∃ k : Nat, k ≤ n ∧ i = .int .i64 k ∧ Below w.heap.size w wr) (fun i _ => n - (intOf i).toNat)
  case atStart => exact ⟨0, Nat.zero_le _, rfl, Below.refl _ _⟩
  case round =>
    obtain ⟨k, hk, rfl, hb⟩ := hrel
    by_cases hlt : k < n
    · have hkl : k < ss.length := by rw [HN.out]; exact hlt
      have hat : (ss.map Go.Proofs.encStr)[k]? = some (.string ⟨(ss.getD k []).toArray⟩) := by simp [List.getElem?_eq_getElem hkl, List.getD_eq_getElem?_getD, Go.Proofs.encStr]
      obtain ⟨g, rfl, c⟩ : ∃ g, ao = some ⟨g, 0, none⟩ ∧ wr.cell? ⟨g, k, none⟩ = some (.string ⟨(ss.getD k []).toArray⟩) := by
        have h9 := row_ext HV.out hb
        rcases row_head h9 with ⟨_, h0⟩ | ⟨g, cap', e, -⟩
        · omega
        · obtain ⟨rfl, -, rfl⟩ := Value.slice.inj e
          exact ⟨g, rfl, row_cellAt h9 hat⟩
      obtain ⟨g2, rfl, c2⟩ : ∃ g, bo = some ⟨g, 0, none⟩ ∧ wr.cell? ⟨g, k, none⟩ = some (.string ⟨(ss.getD k []).toArray⟩) := by
        have h9 := row_ext HU.out hb
        rcases row_head h9 with ⟨_, h0⟩ | ⟨g, cap', e, -⟩
        · omega
        · obtain ⟨rfl, -, rfl⟩ := Value.slice.inj e
          exact ⟨g, rfl, row_cellAt h9 hat⟩
      generalize ss.getD k [] = s at *
      clear hat
      have i1 : (0 : Int) ≤ (k : Int) := by omega
      have i2 : (k : Int) < (n : Int) := by omega
      have q : (s != s) = false := by simp
      have q2 : (s == s) = true := by simp
      have SA := Lib.hid (show wr.drew.cell? ⟨g, k, none⟩ = some (.string ⟨s.toArray⟩) ∧ wr.drew.cell? ⟨g2, k, none⟩ = some (.string ⟨s.toArray⟩) from ⟨c, c2⟩)
      go_wp2
      go_region_held3 (fun w' => w'.cell? ⟨g, k, none⟩ = some (.string ⟨s.toArray⟩) ∧ w'.cell? ⟨g2, k, none⟩ = some (.string ⟨s.toArray⟩)) (first | with_reducible exact SA.out | go_keep) (fail)
      go_wp2
      go_roundw
      case rel => exact ⟨k + 1, by omega, by go_num, by first | exact hb | exact hb.drew | exact below_drewN' hb _⟩
      case measure => simp [intOf]; omega
    · go_wp2
      go_returns
      exact ⟨rfl, hb⟩

/-- Both disks in blocks made since W, none in common. -/
structure Beside (W : World) (p x : Nat) (L : Lay) (X : XLay) (D E : DS) (bs ns : List Nat) (w : World) : Prop where
  dp : DP w p L D
  xp : XP w x X E bs ns
  own : ∀ k, L.has p k → W.heap.size ≤ k
  xown : ∀ k, X.has x k → W.heap.size ≤ k
  apart : ∀ k, L.has p k → ¬ X.has x k
  below : Below W.heap.size W w
section
variable {W w w' : World} {p x : Nat} {L L' : Lay} {X X' : XLay} {D D' E E' : DS} {bs ns bs' ns' : List Nat}
theorem Beside.ext (h : Beside W p x L X D E bs ns w) (hb : Below w.heap.size w w') : Beside W p x L X D E bs ns w' :=
  ⟨h.dp.stays fun k hk => hb.block k (h.dp.lt hk), h.xp.ext hb, h.own, h.xown, h.apart, h.below.trans (hb.mono h.below.size)⟩
theorem Beside.stand (h : Beside W p x L X D E bs ns w) : Stand W p L D w := ⟨h.dp, h.own, h.below⟩
/-- What neither of them has. -/
def Off (p x : Nat) (L : Lay) (X : XLay) (k : Nat) : Prop := ¬ L.has p k ∧ ¬ X.has x k
theorem Beside.dop (h : Beside W p x L X D E bs ns w) (h1 : DP w' p L' D') (hn : ∀ k, L'.has p k → L.has p k ∨ w.heap.size ≤ k) (hk : Keep (L.has p) w w') : Beside W p x L' X D' E bs ns w' :=
  ⟨h1, h.xp.stays fun k hk2 => hk.block k (h.xp.lt hk2) fun h9 => h.apart k h9 hk2, fun k hk2 => (hn k hk2).elim (h.own k) (fun h9 => Nat.le_trans h.below.size h9), h.xown, fun k hk2 hx => by
    rcases hn k hk2 with h9 | h9
    · exact h.apart k h9 hx
    · have := h.xp.lt hx; omega, h.below.trans (hk.below h.own h.below.size)⟩
theorem Beside.xop (h : Beside W p x L X D E bs ns w) (h1 : XP w' x X' E' bs' ns') (hn : ∀ k, X'.has x k → X.has x k ∨ w.heap.size ≤ k) (hk : Keep (X.has x) w w') : Beside W p x L X' D E' bs' ns' w' :=
  ⟨h.dp.stays fun k hk2 => hk.block k (h.dp.lt hk2) fun h9 => h.apart k hk2 h9, h1, h.own, fun k hk2 => (hn k hk2).elim (h.xown k) (fun h9 => Nat.le_trans h.below.size h9), fun k hk2 hx => by
    rcases hn k hx with h9 | h9
    · exact h.apart k hk2 h9
    · have := h.dp.lt hk2; omega, h.below.trans (hk.below h.xown h.below.size)⟩
/-- What is not theirs stays where it is. -/
theorem Beside.dkeep {k : Nat} (hk : Keep (L.has p) w w') (hlt : k < w.heap.size) (ho : ¬ L.has p k) : w'.heap[k]? = w.heap[k]? := hk.block k hlt ho
theorem off_d {N : Nat} (hn : ∀ k, L'.has p k → L.has p k ∨ w.heap.size ≤ k) (hN : N < w.heap.size) (ho : Off p x L X N) : Off p x L' X N :=
  ⟨fun h => (hn N h).elim ho.1 (fun h9 => by omega), ho.2⟩
theorem off_x {N : Nat} (hn : ∀ k, X'.has x k → X.has x k ∨ w.heap.size ≤ k) (hN : N < w.heap.size) (ho : Off p x L X N) : Off p x L X' N :=
  ⟨ho.1, fun h => (hn N h).elim ho.2 (fun h9 => by omega)⟩
theorem Beside.new_off (h : Beside W p x L X D E bs ns w) {N : Nat} (hN : w.heap.size ≤ N) : Off p x L X N := ⟨fun h9 => by have := h.dp.lt h9; omega, fun h9 => by have := h.xp.lt h9; omega⟩
/-- A store into a block that is not theirs. -/
theorem Beside.set_off (h : Beside W p x L X D E bs ns w) {g o : Nat} {u : Value} (ho : Off p x L X g) (hg : W.heap.size ≤ g) : Beside W p x L X D E bs ns (w.setCell ⟨g, o, none⟩ u) :=
  ⟨h.dp.stays fun k hk => set_other _ _ _ _ k fun e => ho.1 (e ▸ hk), h.xp.stays fun k hk => set_other _ _ _ _ k fun e => ho.2 (e ▸ hk), h.own, h.xown, h.apart, below_set h.below hg _⟩
end
end

/-! kinref5: Read: contract. -/
section
open Go.RowKit Go.Extern.Stop Go.Stop Go.Extern

theorem readV_zero {D : DS} {a : Bs} (h : readE D a = 0) : readV D a = (D.file (fileN D.names a)).data := by unfold readV; rw [if_pos h]
theorem readV_not {D : DS} {a : Bs} (h : readE D a ≠ 0) : readV D a = [] := by unfold readV; rw [if_neg h]
set_option maxRecDepth 100000 in
set_option maxHeartbeats 4000000 in
theorem xread_any (x : Nat) (X : XLay) (D : DS) (bs ns : List Nat) (a : Bs) (T : Nat) (w : World) (h : XP w x X D bs ns) (hI : Inv D T) (hT : T ≤ 100000) (hX : XI D bs ns) (ha : a.length ≤ maxLen) :
    Calls Tryz.prog 45 #[.pointer (some ⟨x, 0, none⟩), .string ⟨a.toArray⟩] w fun e w' => ∃ ao cap, e = .returned (.tuple #[.slice ao (readV D a).length cap, errX (readE D a)]) ∧ w'.ownsRow w.heap.size 5 1 (.slice ao (readV D a).length cap) (readV D a).length (bcells (readV D a)) ∧ Below w.heap.size w w' := by
  have H := Lib.hid h
  have hnl := hI.nam
  have CA := Lib.hid (fun w' (hb : Below w.heap.size w w') => xasks_any x X D bs ns a w' (h.ext hb) (by omega) ha)
  obtain ⟨wb, hwb⟩ : ∃ wb, wb = w.alloc (.cells #[.int .i64 0, .slice none 0 0] 45) := ⟨_, rfl⟩
  have BQ := Lib.hid (show Blk wb w.heap.size #[.int .i64 0, .slice none 0 0] 45 from by rw [hwb]; exact Blk.new w _ _)
  have HBW := Lib.hid (show Below w.heap.size w wb from by rw [hwb]; go_grown)
  have lx := h.blk.lt
  by_cases hr : readE D a = 0
  · rw [readV_zero hr]
    rw [hr] at CA
    unfold errX at CA
    rw [hr]
    obtain ⟨-, hg⟩ := thereE_zero (goesE_ready hr).2.2.2
    have hv := hX.valN _ (mem_nget hg)
    obtain ⟨kb, hkb, hbv, hbne⟩ := bs_at hX.asc hv
    have hvlt := hX.lt _ hv
    simp only at hbv hbne hvlt hv
    have hcnt := hI.cnt
    have hbln := bs_len hX.asc hX.lt
    have CAT := Lib.hid (fun w' (hb : Below w.heap.size w w') => xat_any x X D bs ns a (fileN D.names a) kb w' (h.ext hb) (by omega) (by omega) hg (by omega) hkb hbv hbne)
    obtain ⟨bn, hbn⟩ : ∃ bn, bs.length = bn := ⟨_, rfl⟩
    have hkb2 : kb < bn := by rw [← hbn]; exact hkb
    obtain ⟨xs, hxs⟩ : ∃ xs, (D.file (fileN D.names a)).data = xs := ⟨_, rfl⟩
    have hdl := (hI.file (fileN D.names a)).2
    rw [hxs] at hdl ⊢
    obtain ⟨dl, hdl2⟩ : ∃ dl, xs.length = dl := ⟨_, rfl⟩
    have HDL := Lib.hid hdl2
    obtain ⟨g, gcap, hvb, hgl, hgx, k0, k1, k2, kf⟩ := h.bodyAt hbn hkb2
    obtain ⟨dao, dcap, hdv⟩ := rowShape (h.dat kb hkb)
    rw [hbv, hxs, hdl2] at hdv
    rw [hdv] at k1
    have HOW := Lib.hid (show w.ownsRow 0 5 1 (.slice dao dl dcap) xs.length (bcells xs) from by have h9 := h.dat kb hkb; rw [hbv, hxs, hdv] at h9; exact h9)
    have c1 : w.cell? ⟨x, 1, none⟩ = some (.slice (some ⟨g, 0, none⟩) bn gcap) := (h.cell 1).trans (congrArg some hvb)
    have CC := Lib.hid (fun wx (hb : Below w.heap.size w wx) => rcopy_any (.slice dao dl dcap) xs wx ((bytes_of_rowB HOW.out).ext hb) (by omega))
    rw [hdl2] at CC hdl ⊢
    have HP : Hid (∀ wx, Below w.heap.size w wx → wx.cell? ⟨x, 1, none⟩ = some (.slice (some ⟨g, 0, none⟩) bn gcap) ∧ wx.cell? ⟨g, kb * 3 + 1, none⟩ = some (.slice dao dl dcap)) := fun wx hb => ⟨(hb.cell (p := ⟨x, 1, none⟩) lx).trans c1, (hb.cell (p := ⟨g, kb * 3 + 1, none⟩) hgl).trans k1⟩
    have i1 : (0 : Int) ≤ (kb : Int) := by omega
    have i2 : (kb : Int) < (bn : Int) := by omega
    clear h hI hX ha hnl hr hg hv hkb hbv hbne hvlt hcnt hbln hbn hxs hdl2 hdv kf k0 k1 k2 c1 hvb hkb2
    go_enter Tryz.func45, Tryz.ntmps45
    go_wp2_with (first
      | (go_at_call 68; refine (CA.out _ (by go_grown)).mono ?_; rintro e w1 ⟨rfl, hb1⟩; rw [← hwb] at hb1; have B1 := Lib.hid (BQ.out.ext hb1); have HB1 := Lib.hid (ext HBW.out hb1); have E1 := Lib.hid (Blk.new w1 #[.int .i64 0, .slice none 0 0] 45); have hz1 : w.heap.size < w1.heap.size := B1.out.lt; clear hb1)
      | (go_at_call 34; refine (ok_zero _ _).mono ?_; rintro e w2 ⟨rfl, hb2⟩; have E2 := Lib.hid (E1.out.ext hb2); have HB2 := Lib.hid (show Below w1.heap.size w1 w2 from ext (by go_grown) hb2); have B2 := Lib.hid (B1.out.ext HB2.out); have HW2 : Hid (Below w.heap.size w w2) := Lib.hid (HB1.out.trans (HB2.out.mono HB1.out.size)); obtain ⟨s1, sk⟩ := HP.out w2 HW2.out; obtain ⟨x0, x1, x2, x3⟩ := B2.out.two; obtain ⟨y0, y1, y2, y3⟩ := E2.out.two; clear hb2))
    go_region_with (first
      | (go_at_call 69; refine (CAT.out _ (ext HW2.out (by go_grown))).mono ?_; rintro e w3 ⟨rfl, hb3⟩; have HB3 : Hid (Below w2.heap.size w2 w3) := Lib.hid (ext (by go_grown) hb3); have HW3 : Hid (Below w.heap.size w w3) := Lib.hid (HW2.out.trans (HB3.out.mono HW2.out.size)); have B3 := Lib.hid (B2.out.ext HB3.out); have E3 := Lib.hid (E2.out.ext HB3.out); obtain ⟨t1, tk⟩ := HP.out w3 HW3.out; obtain ⟨x0, x1, x2, x3⟩ := B3.out.two; obtain ⟨y0, y1, y2, y3⟩ := E3.out.two; clear hb3)
      | (go_at_call 62; refine (CC.out _ (ext HW3.out (by go_grown))).mono ?_; rintro e w4 ⟨co, ccap, rfl, ho4, hb4⟩; have HB4 : Hid (Below w3.heap.size w3 w4) := Lib.hid (ext (by go_grown) hb4); have HW4 : Hid (Below w.heap.size w w4) := Lib.hid (HW3.out.trans (HB4.out.mono HW3.out.size)); have B4 := Lib.hid (B3.out.ext HB4.out); have E4 := Lib.hid (E3.out.ext HB4.out); have HO4 := Lib.hid (show w4.ownsRow w3.heap.size 5 1 (.slice co dl ccap) dl (bcells xs) from row_mono ho4 (Nat.le_refl _)); obtain ⟨x0, x1, x2, x3⟩ := B4.out.two; obtain ⟨y0, y1, y2, y3⟩ := E4.out.two; clear ho4 hb4))
    all_goals
      go_wp2
      obtain ⟨r0, r1, r2, r3⟩ := (B4.out.set2 (.int .i64 0) (.slice none 0 0)).two
      refine bodyPost_ret (by simp [results, Tryz.results45, go_sem, r0, r1, r2, r3]; try rfl) rfl ?_
      refine ⟨co, ccap, rfl, ?_, below_set (below_set HW4.out (Nat.le_refl _) _) (Nat.le_refl _) _⟩
      have hne : ∀ k, (Value.slice co dl ccap).ownBlock = some k → k ≠ w.heap.size := fun k hk e => blk_row B4.out HO4.out (by decide) (by rw [hk, e])
      exact row_of_block (row_mono HO4.out HW3.out.size) fun k hk => by rw [set_other _ _ _ _ k (hne k hk), set_other _ _ _ _ k (hne k hk)]
  · rw [readV_not hr]
    have qk : (readE D a == 0) = false := by simpa using hr
    clear h hI hX ha hnl hr
    generalize readE D a = k at *
    unfold errX at CA
    go_enter Tryz.func45, Tryz.ntmps45
    go_wp2_with (first
      | (go_at_call 68; refine (CA.out _ (by go_grown)).mono ?_; rintro e w1 ⟨rfl, hb1⟩; rw [← hwb] at hb1; have B1 := Lib.hid (BQ.out.ext hb1); have HB1 := Lib.hid hb1; have E1 := Lib.hid (Blk.new w1 #[.int .i64 k, .slice none 0 0] 45); clear hb1)
      | (go_at_call 34; refine (ok_ne k qk _ _).mono ?_; rintro e w2 ⟨rfl, hb2⟩; have E2 := Lib.hid (E1.out.ext hb2); have HB2 := Lib.hid (show Below w1.heap.size w1 w2 from ext (by go_grown) hb2); have B2 := Lib.hid (B1.out.ext HB2.out); obtain ⟨x0, x1, x2, x3⟩ := B2.out.two; obtain ⟨y0, y1, y2, y3⟩ := E2.out.two; clear hb2))
    go_region
    all_goals
      go_wp2
      obtain ⟨r0, r1, r2, r3⟩ := (B2.out.set2 (.int .i64 k) (.slice none 0 0)).two
      refine bodyPost_ret (by simp [results, Tryz.results45, go_sem, r0, r1, r2, r3]; try rfl) rfl ?_
      have HW2 : Below w.heap.size w w2 := (ext HBW.out HB1.out).trans (HB2.out.mono (ext HBW.out HB1.out).size)
      exact ⟨none, 0, rfl, World.ownsRow_nil _ _ _ 1, by first | exact below_set (below_set HW2 (Nat.le_refl _) _) (Nat.le_refl _) _ | exact (below_set (below_set HW2 (Nat.le_refl _) _) (Nat.le_refl _) _).drew⟩
end

/-! kinlaw5.writes: contracts, kind by kind. -/
section
open Go.RowKit Go.Extern.Stop Go.Stop Go.Extern

/-- What an operation of both disks leaves. -/
def PlayPost (W : World) (p x : Nat) (D' : DS) (e : Ending) (w' : World) : Prop :=
  e = .returned (.bool true) ∧ ∃ L' X' bs' ns', Beside W p x L' X' D' D' bs' ns' w' ∧ XI D' bs' ns'
set_option maxRecDepth 100000 in
set_option maxHeartbeats 2000000 in
theorem wr_create (W : World) (p x : Nat) (L : Lay) (X : XLay) (D : DS) (bs ns : List Nat) (n : Int) (a t b : Bs) (pk : List Int) (vb vp : Value) (T : Nat) (w : World) (h : Beside W p x L X D D bs ns w) (hI : Inv D T) (hT : T ≤ 100000) (hX : XI D bs ns) (hg : TypeIs W) (ha : a.length ≤ maxLen) (ht : t.length ≤ maxLen) :
    Calls Tryz.prog 43 #[.pointer (some ⟨p, 0, none⟩), .pointer (some ⟨x, 0, none⟩), opV ⟨0, n, a, t, b, pk⟩ vb vp] w (PlayPost W p x (createD D a) ) := by
  have CD := Lib.hid (fun w' L' (hd : DP w' p L' D) => create_any p L' D a T w' hd hI hT ha)
  have CX := Lib.hid (fun w' X' (hx : XP w' x X' D bs ns) => xcreate_any x X' D bs ns a T w' hx hI hT hX ha)
  have HXI := Lib.hid (hX.createD hI a)
  have ho : Off p x L X w.heap.size := h.new_off (Nat.le_refl _)
  have TA : Hid (Beside W p x L X D D bs ns (w.alloc (.cells #[.int .i64 0, .int .i64 n, .string ⟨a.toArray⟩, .string ⟨t.toArray⟩, vb, vp] 34)).drew) := Lib.hid (h.ext ((Below.refl _ _).alloc (Nat.le_refl _) _).drew)
  have BO : Hid (Blk (w.alloc (.cells #[.int .i64 0, .int .i64 n, .string ⟨a.toArray⟩, .string ⟨t.toArray⟩, vb, vp] 34)).drew w.heap.size #[.int .i64 0, .int .i64 n, .string ⟨a.toArray⟩, .string ⟨t.toArray⟩, vb, vp] 34) := Lib.hid (Blk.new w _ _)
  have hlt : w.heap.size < (w.alloc (.cells #[.int .i64 0, .int .i64 n, .string ⟨a.toArray⟩, .string ⟨t.toArray⟩, vb, vp] 34)).drew.heap.size := BO.out.lt
  have SA : Hid ((w.alloc (.cells #[.int .i64 0, .int .i64 n, .string ⟨a.toArray⟩, .string ⟨t.toArray⟩, vb, vp] 34)).drew.cell? ⟨w.heap.size, 2, none⟩ = some (.string ⟨a.toArray⟩)) := BO.out.cell 2
  have CS := Lib.hid (fun k w' (hw : Below W.heap.size W w') => same_any k w' (hg.ext hw))
  have CS := Lib.hid (CS.out (goesE D (createE D a)))
  clear h hI hX hg ha ht
  unfold opV
  generalize goesE D (createE D a) = k at *
  generalize createD D a = D2 at *
  go_enter Tryz.func43, Tryz.ntmps43
  go_wp2
  go_region_held3 (fun w' => w'.cell? ⟨w.heap.size, 2, none⟩ = some (.string ⟨a.toArray⟩))
    (first | with_reducible exact SA.out | with_reducible exact SB.out | with_reducible exact SC.out | with_reducible exact SD.out)
    (first
      | (go_at_call 17; refine (CD.out _ _ TA.out.dp).mono ?_; rintro e w1 ⟨rfl, L1, h1, hn1, hk1⟩; have T1 := Lib.hid (TA.out.dop h1 hn1 hk1); have O1 := Lib.hid (off_d hn1 hlt ho); have B1 := Lib.hid (BO.out.of_block (hk1.block w.heap.size hlt ho.1)); have SB : Hid (w1.cell? ⟨w.heap.size, 2, none⟩ = some (.string ⟨a.toArray⟩)) := B1.out.cell 2; have hlt1 : w.heap.size < w1.heap.size := B1.out.lt; clear h1 hn1 hk1)
      | (go_at_call 61; refine (CX.out _ _ T1.out.xp).mono ?_; rintro e w2 ⟨he2, X2, h2, hn2, hk2⟩; unfold errX at he2; subst he2; have T2 := Lib.hid (T1.out.xop h2 hn2 hk2); have B2 := Lib.hid (B1.out.of_block (hk2.block w.heap.size hlt1 O1.out.2)); have SC : Hid (w2.cell? ⟨w.heap.size, 2, none⟩ = some (.string ⟨a.toArray⟩)) := B2.out.cell 2; clear h2 hn2 hk2)
      | (go_at_call 16; refine (CS.out _ T2.out.below).mono ?_; rintro e w3 ⟨rfl, hb3⟩; have T3 := Lib.hid (T2.out.ext hb3); have SD : Hid (w3.cell? ⟨w.heap.size, 2, none⟩ = some (.string ⟨a.toArray⟩)) := (B2.out.ext hb3).cell 2; clear hb3))
  go_wp2
  go_returns
  exact ⟨by first | rfl | (simp; done), L1, X2, _, _, T3.out, HXI.out⟩
set_option maxRecDepth 100000 in
set_option maxHeartbeats 2000000 in
theorem wr_sync (W : World) (p x : Nat) (L : Lay) (X : XLay) (D : DS) (bs ns : List Nat) (n : Int) (a t b : Bs) (pk : List Int) (vb vp : Value) (T : Nat) (w : World) (h : Beside W p x L X D D bs ns w) (hI : Inv D T) (hT : T ≤ 100000) (hX : XI D bs ns) (hg : TypeIs W) (ha : a.length ≤ maxLen) (ht : t.length ≤ maxLen) :
    Calls Tryz.prog 43 #[.pointer (some ⟨p, 0, none⟩), .pointer (some ⟨x, 0, none⟩), opV ⟨2, n, a, t, b, pk⟩ vb vp] w (PlayPost W p x (syncD D a) ) := by
  have CD := Lib.hid (fun w' L' (hd : DP w' p L' D) => sync_any p L' D a T w' hd hI hT ha)
  have CX := Lib.hid (fun w' X' (hx : XP w' x X' D bs ns) => xsync_any x X' D bs ns a T w' hx hI hT hX ha)
  have HXI := Lib.hid (hX.syncD a)
  have ho : Off p x L X w.heap.size := h.new_off (Nat.le_refl _)
  have TA : Hid (Beside W p x L X D D bs ns (w.alloc (.cells #[.int .i64 2, .int .i64 n, .string ⟨a.toArray⟩, .string ⟨t.toArray⟩, vb, vp] 34)).drew) := Lib.hid (h.ext ((Below.refl _ _).alloc (Nat.le_refl _) _).drew)
  have BO : Hid (Blk (w.alloc (.cells #[.int .i64 2, .int .i64 n, .string ⟨a.toArray⟩, .string ⟨t.toArray⟩, vb, vp] 34)).drew w.heap.size #[.int .i64 2, .int .i64 n, .string ⟨a.toArray⟩, .string ⟨t.toArray⟩, vb, vp] 34) := Lib.hid (Blk.new w _ _)
  have hlt : w.heap.size < (w.alloc (.cells #[.int .i64 2, .int .i64 n, .string ⟨a.toArray⟩, .string ⟨t.toArray⟩, vb, vp] 34)).drew.heap.size := BO.out.lt
  have SA : Hid ((w.alloc (.cells #[.int .i64 2, .int .i64 n, .string ⟨a.toArray⟩, .string ⟨t.toArray⟩, vb, vp] 34)).drew.cell? ⟨w.heap.size, 2, none⟩ = some (.string ⟨a.toArray⟩)) := BO.out.cell 2
  have CS := Lib.hid (fun k w' (hw : Below W.heap.size W w') => same_any k w' (hg.ext hw))
  have CS := Lib.hid (CS.out (syncE D a))
  clear h hI hX hg ha ht
  unfold opV
  generalize syncE D a = k at *
  generalize syncD D a = D2 at *
  go_enter Tryz.func43, Tryz.ntmps43
  go_wp2
  go_region_held3 (fun w' => w'.cell? ⟨w.heap.size, 2, none⟩ = some (.string ⟨a.toArray⟩))
    (first | with_reducible exact SA.out | with_reducible exact SB.out | with_reducible exact SC.out | with_reducible exact SD.out)
    (first
      | (go_at_call 23; refine (CD.out _ _ TA.out.dp).mono ?_; rintro e w1 ⟨rfl, L1, h1, hn1, hk1⟩; have T1 := Lib.hid (TA.out.dop h1 hn1 hk1); have O1 := Lib.hid (off_d hn1 hlt ho); have B1 := Lib.hid (BO.out.of_block (hk1.block w.heap.size hlt ho.1)); have SB : Hid (w1.cell? ⟨w.heap.size, 2, none⟩ = some (.string ⟨a.toArray⟩)) := B1.out.cell 2; have hlt1 : w.heap.size < w1.heap.size := B1.out.lt; clear h1 hn1 hk1)
      | (go_at_call 64; refine (CX.out _ _ T1.out.xp).mono ?_; rintro e w2 ⟨he2, X2, h2, hn2, hk2⟩; unfold errX at he2; subst he2; have T2 := Lib.hid (T1.out.xop h2 hn2 hk2); have B2 := Lib.hid (B1.out.of_block (hk2.block w.heap.size hlt1 O1.out.2)); have SC : Hid (w2.cell? ⟨w.heap.size, 2, none⟩ = some (.string ⟨a.toArray⟩)) := B2.out.cell 2; clear h2 hn2 hk2)
      | (go_at_call 16; refine (CS.out _ T2.out.below).mono ?_; rintro e w3 ⟨rfl, hb3⟩; have T3 := Lib.hid (T2.out.ext hb3); have SD : Hid (w3.cell? ⟨w.heap.size, 2, none⟩ = some (.string ⟨a.toArray⟩)) := (B2.out.ext hb3).cell 2; clear hb3))
  go_wp2
  go_returns
  exact ⟨by first | rfl | (simp; done), L1, X2, _, _, T3.out, HXI.out⟩
set_option maxRecDepth 100000 in
set_option maxHeartbeats 2000000 in
theorem wr_rename (W : World) (p x : Nat) (L : Lay) (X : XLay) (D : DS) (bs ns : List Nat) (n : Int) (a t b : Bs) (pk : List Int) (vb vp : Value) (T : Nat) (w : World) (h : Beside W p x L X D D bs ns w) (hI : Inv D T) (hT : T ≤ 100000) (hX : XI D bs ns) (hg : TypeIs W) (ha : a.length ≤ maxLen) (ht : t.length ≤ maxLen) :
    Calls Tryz.prog 43 #[.pointer (some ⟨p, 0, none⟩), .pointer (some ⟨x, 0, none⟩), opV ⟨3, n, a, t, b, pk⟩ vb vp] w (PlayPost W p x (renD D a t) ) := by
  have CD := Lib.hid (fun w' L' (hd : DP w' p L' D) => rename_any p L' D a t T w' hd hI hT ha ht)
  have CX := Lib.hid (fun w' X' (hx : XP w' x X' D bs ns) => xrename_any x X' D bs ns a t T w' hx hI hT hX ha ht)
  have HXI := Lib.hid (hX.renD hI a t)
  have ho : Off p x L X w.heap.size := h.new_off (Nat.le_refl _)
  have TA : Hid (Beside W p x L X D D bs ns (w.alloc (.cells #[.int .i64 3, .int .i64 n, .string ⟨a.toArray⟩, .string ⟨t.toArray⟩, vb, vp] 34)).drew) := Lib.hid (h.ext ((Below.refl _ _).alloc (Nat.le_refl _) _).drew)
  have BO : Hid (Blk (w.alloc (.cells #[.int .i64 3, .int .i64 n, .string ⟨a.toArray⟩, .string ⟨t.toArray⟩, vb, vp] 34)).drew w.heap.size #[.int .i64 3, .int .i64 n, .string ⟨a.toArray⟩, .string ⟨t.toArray⟩, vb, vp] 34) := Lib.hid (Blk.new w _ _)
  have hlt : w.heap.size < (w.alloc (.cells #[.int .i64 3, .int .i64 n, .string ⟨a.toArray⟩, .string ⟨t.toArray⟩, vb, vp] 34)).drew.heap.size := BO.out.lt
  have SA : Hid ((w.alloc (.cells #[.int .i64 3, .int .i64 n, .string ⟨a.toArray⟩, .string ⟨t.toArray⟩, vb, vp] 34)).drew.cell? ⟨w.heap.size, 2, none⟩ = some (.string ⟨a.toArray⟩) ∧ (w.alloc (.cells #[.int .i64 3, .int .i64 n, .string ⟨a.toArray⟩, .string ⟨t.toArray⟩, vb, vp] 34)).drew.cell? ⟨w.heap.size, 3, none⟩ = some (.string ⟨t.toArray⟩)) := ⟨BO.out.cell 2, BO.out.cell 3⟩
  have CS := Lib.hid (fun k w' (hw : Below W.heap.size W w') => same_any k w' (hg.ext hw))
  have CS := Lib.hid (CS.out (renE D a t))
  clear h hI hX hg ha ht
  unfold opV
  generalize renE D a t = k at *
  generalize renD D a t = D2 at *
  go_enter Tryz.func43, Tryz.ntmps43
  go_wp2
  go_region_held3 (fun w' => w'.cell? ⟨w.heap.size, 2, none⟩ = some (.string ⟨a.toArray⟩) ∧ w'.cell? ⟨w.heap.size, 3, none⟩ = some (.string ⟨t.toArray⟩))
    (first | with_reducible exact SA.out | with_reducible exact SB.out | with_reducible exact SC.out | with_reducible exact SD.out)
    (first
      | (go_at_call 24; refine (CD.out _ _ TA.out.dp).mono ?_; rintro e w1 ⟨rfl, L1, h1, hn1, hk1⟩; have T1 := Lib.hid (TA.out.dop h1 hn1 hk1); have O1 := Lib.hid (off_d hn1 hlt ho); have B1 := Lib.hid (BO.out.of_block (hk1.block w.heap.size hlt ho.1)); have SB : Hid (w1.cell? ⟨w.heap.size, 2, none⟩ = some (.string ⟨a.toArray⟩) ∧ w1.cell? ⟨w.heap.size, 3, none⟩ = some (.string ⟨t.toArray⟩)) := ⟨B1.out.cell 2, B1.out.cell 3⟩; have hlt1 : w.heap.size < w1.heap.size := B1.out.lt; clear h1 hn1 hk1)
      | (go_at_call 65; refine (CX.out _ _ T1.out.xp).mono ?_; rintro e w2 ⟨he2, X2, h2, hn2, hk2⟩; unfold errX at he2; subst he2; have T2 := Lib.hid (T1.out.xop h2 hn2 hk2); have B2 := Lib.hid (B1.out.of_block (hk2.block w.heap.size hlt1 O1.out.2)); have SC : Hid (w2.cell? ⟨w.heap.size, 2, none⟩ = some (.string ⟨a.toArray⟩) ∧ w2.cell? ⟨w.heap.size, 3, none⟩ = some (.string ⟨t.toArray⟩)) := ⟨B2.out.cell 2, B2.out.cell 3⟩; clear h2 hn2 hk2)
      | (go_at_call 16; refine (CS.out _ T2.out.below).mono ?_; rintro e w3 ⟨rfl, hb3⟩; have T3 := Lib.hid (T2.out.ext hb3); have SD : Hid (w3.cell? ⟨w.heap.size, 2, none⟩ = some (.string ⟨a.toArray⟩) ∧ w3.cell? ⟨w.heap.size, 3, none⟩ = some (.string ⟨t.toArray⟩)) := ⟨(B2.out.ext hb3).cell 2, (B2.out.ext hb3).cell 3⟩; clear hb3))
  go_wp2
  go_returns
  exact ⟨by first | rfl | (simp; done), L1, X2, _, _, T3.out, HXI.out⟩
set_option maxRecDepth 100000 in
set_option maxHeartbeats 2000000 in
theorem wr_remove (W : World) (p x : Nat) (L : Lay) (X : XLay) (D : DS) (bs ns : List Nat) (n : Int) (a t b : Bs) (pk : List Int) (vb vp : Value) (T : Nat) (w : World) (h : Beside W p x L X D D bs ns w) (hI : Inv D T) (hT : T ≤ 100000) (hX : XI D bs ns) (hg : TypeIs W) (ha : a.length ≤ maxLen) (ht : t.length ≤ maxLen) :
    Calls Tryz.prog 43 #[.pointer (some ⟨p, 0, none⟩), .pointer (some ⟨x, 0, none⟩), opV ⟨4, n, a, t, b, pk⟩ vb vp] w (PlayPost W p x (remD D a) ) := by
  have CD := Lib.hid (fun w' L' (hd : DP w' p L' D) => remove_any p L' D a T w' hd hI hT ha)
  have CX := Lib.hid (fun w' X' (hx : XP w' x X' D bs ns) => xremove_any x X' D bs ns a T w' hx hI hT hX ha)
  have HXI := Lib.hid (hX.remD hI a)
  have ho : Off p x L X w.heap.size := h.new_off (Nat.le_refl _)
  have TA : Hid (Beside W p x L X D D bs ns (w.alloc (.cells #[.int .i64 4, .int .i64 n, .string ⟨a.toArray⟩, .string ⟨t.toArray⟩, vb, vp] 34)).drew) := Lib.hid (h.ext ((Below.refl _ _).alloc (Nat.le_refl _) _).drew)
  have BO : Hid (Blk (w.alloc (.cells #[.int .i64 4, .int .i64 n, .string ⟨a.toArray⟩, .string ⟨t.toArray⟩, vb, vp] 34)).drew w.heap.size #[.int .i64 4, .int .i64 n, .string ⟨a.toArray⟩, .string ⟨t.toArray⟩, vb, vp] 34) := Lib.hid (Blk.new w _ _)
  have hlt : w.heap.size < (w.alloc (.cells #[.int .i64 4, .int .i64 n, .string ⟨a.toArray⟩, .string ⟨t.toArray⟩, vb, vp] 34)).drew.heap.size := BO.out.lt
  have SA : Hid ((w.alloc (.cells #[.int .i64 4, .int .i64 n, .string ⟨a.toArray⟩, .string ⟨t.toArray⟩, vb, vp] 34)).drew.cell? ⟨w.heap.size, 2, none⟩ = some (.string ⟨a.toArray⟩)) := BO.out.cell 2
  have CS := Lib.hid (fun k w' (hw : Below W.heap.size W w') => same_any k w' (hg.ext hw))
  have CS := Lib.hid (CS.out (remE D a))
  clear h hI hX hg ha ht
  unfold opV
  generalize remE D a = k at *
  generalize remD D a = D2 at *
  go_enter Tryz.func43, Tryz.ntmps43
  go_wp2
  go_region_held3 (fun w' => w'.cell? ⟨w.heap.size, 2, none⟩ = some (.string ⟨a.toArray⟩))
    (first | with_reducible exact SA.out | with_reducible exact SB.out | with_reducible exact SC.out | with_reducible exact SD.out)
    (first
      | (go_at_call 25; refine (CD.out _ _ TA.out.dp).mono ?_; rintro e w1 ⟨rfl, L1, h1, hn1, hk1⟩; have T1 := Lib.hid (TA.out.dop h1 hn1 hk1); have O1 := Lib.hid (off_d hn1 hlt ho); have B1 := Lib.hid (BO.out.of_block (hk1.block w.heap.size hlt ho.1)); have SB : Hid (w1.cell? ⟨w.heap.size, 2, none⟩ = some (.string ⟨a.toArray⟩)) := B1.out.cell 2; have hlt1 : w.heap.size < w1.heap.size := B1.out.lt; clear h1 hn1 hk1)
      | (go_at_call 66; refine (CX.out _ _ T1.out.xp).mono ?_; rintro e w2 ⟨he2, X2, h2, hn2, hk2⟩; unfold errX at he2; subst he2; have T2 := Lib.hid (T1.out.xop h2 hn2 hk2); have B2 := Lib.hid (B1.out.of_block (hk2.block w.heap.size hlt1 O1.out.2)); have SC : Hid (w2.cell? ⟨w.heap.size, 2, none⟩ = some (.string ⟨a.toArray⟩)) := B2.out.cell 2; clear h2 hn2 hk2)
      | (go_at_call 16; refine (CS.out _ T2.out.below).mono ?_; rintro e w3 ⟨rfl, hb3⟩; have T3 := Lib.hid (T2.out.ext hb3); have SD : Hid (w3.cell? ⟨w.heap.size, 2, none⟩ = some (.string ⟨a.toArray⟩)) := (B2.out.ext hb3).cell 2; clear hb3))
  go_wp2
  go_returns
  exact ⟨by first | rfl | (simp; done), L1, X2, _, _, T3.out, HXI.out⟩
set_option maxRecDepth 100000 in
set_option maxHeartbeats 2000000 in
theorem wr_sdir (W : World) (p x : Nat) (L : Lay) (X : XLay) (D : DS) (bs ns : List Nat) (n : Int) (a t b : Bs) (pk : List Int) (vb vp : Value) (T : Nat) (w : World) (h : Beside W p x L X D D bs ns w) (hI : Inv D T) (hT : T ≤ 100000) (hX : XI D bs ns) (hg : TypeIs W) (ha : a.length ≤ maxLen) (ht : t.length ≤ maxLen) :
    Calls Tryz.prog 43 #[.pointer (some ⟨p, 0, none⟩), .pointer (some ⟨x, 0, none⟩), opV ⟨5, n, a, t, b, pk⟩ vb vp] w (PlayPost W p x (sdirD D) ) := by
  have CD := Lib.hid (fun w' L' (hd : DP w' p L' D) => syncdir_any p L' D T w' hd hI hT)
  have CX := Lib.hid (fun w' X' (hx : XP w' x X' D bs ns) => xsdir_any x X' D bs ns T w' hx hI hT)
  have HXI := Lib.hid (hX.sdirD)
  have ho : Off p x L X w.heap.size := h.new_off (Nat.le_refl _)
  have TA : Hid (Beside W p x L X D D bs ns (w.alloc (.cells #[.int .i64 5, .int .i64 n, .string ⟨a.toArray⟩, .string ⟨t.toArray⟩, vb, vp] 34))) := Lib.hid (h.ext ((Below.refl _ _).alloc (Nat.le_refl _) _))
  have BO : Hid (Blk (w.alloc (.cells #[.int .i64 5, .int .i64 n, .string ⟨a.toArray⟩, .string ⟨t.toArray⟩, vb, vp] 34)) w.heap.size #[.int .i64 5, .int .i64 n, .string ⟨a.toArray⟩, .string ⟨t.toArray⟩, vb, vp] 34) := Lib.hid (Blk.new w _ _)
  have hlt : w.heap.size < (w.alloc (.cells #[.int .i64 5, .int .i64 n, .string ⟨a.toArray⟩, .string ⟨t.toArray⟩, vb, vp] 34)).heap.size := BO.out.lt
  have SA : Hid (True) := trivial
  have CS := Lib.hid (fun k w' (hw : Below W.heap.size W w') => same_any k w' (hg.ext hw))
  have CS := Lib.hid (CS.out (sdirE D))
  clear h hI hX hg ha ht
  unfold opV
  generalize sdirE D = k at *
  generalize sdirD D = D2 at *
  go_enter Tryz.func43, Tryz.ntmps43
  go_wp2_with (first
      | (go_at_call 26; refine (CD.out _ _ TA.out.dp).mono ?_; rintro e w1 ⟨rfl, L1, h1, hn1, hk1⟩; have T1 := Lib.hid (TA.out.dop h1 hn1 hk1); have O1 := Lib.hid (off_d hn1 hlt ho); have B1 := Lib.hid (BO.out.of_block (hk1.block w.heap.size hlt ho.1)); have SB : Hid (True) := trivial; have hlt1 : w.heap.size < w1.heap.size := B1.out.lt; clear h1 hn1 hk1)
      | (go_at_call 67; refine (CX.out _ _ T1.out.xp).mono ?_; rintro e w2 ⟨he2, X2, h2, hn2, hk2⟩; unfold errX at he2; subst he2; have T2 := Lib.hid (T1.out.xop h2 hn2 hk2); have B2 := Lib.hid (B1.out.of_block (hk2.block w.heap.size hlt1 O1.out.2)); have SC : Hid (True) := trivial; clear h2 hn2 hk2)
      | (go_at_call 16; refine (CS.out _ T2.out.below).mono ?_; rintro e w3 ⟨rfl, hb3⟩; have T3 := Lib.hid (T2.out.ext hb3); have SD : Hid (True) := trivial; clear hb3))
  go_returns
  exact ⟨by first | rfl | (simp; done), L1, X2, _, _, T3.out, HXI.out⟩
set_option maxRecDepth 100000 in
set_option maxHeartbeats 2000000 in
theorem does_grow (W : World) (p x : Nat) (L : Lay) (X : XLay) (D : DS) (bs ns : List Nat) (n : Int) (a t b : Bs) (pk : List Int) (vb vp : Value) (T : Nat) (w : World) (h : Beside W p x L X D D bs ns w) (hI : Inv D T) (hT : T ≤ 100000) (hX : XI D bs ns) (hg : TypeIs W) (ha : a.length ≤ maxLen) (ht : t.length ≤ maxLen) :
    Calls Tryz.prog 19 #[.pointer (some ⟨p, 0, none⟩), .pointer (some ⟨x, 0, none⟩), opV ⟨9, n, a, t, b, pk⟩ vb vp] w (PlayPost W p x (growD D n) ) := by
  have CD := Lib.hid (fun w' L' (hd : DP w' p L' D) => grow_any p L' D n T w' hd hI)
  have CX := Lib.hid (fun w' X' (hx : XP w' x X' D bs ns) => xgrow_any x X' D bs ns n T w' hx hI)
  have HXI := Lib.hid (hX.growD n)
  have ho : Off p x L X w.heap.size := h.new_off (Nat.le_refl _)
  have TA : Hid (Beside W p x L X D D bs ns (w.alloc (.cells #[.int .i64 9, .int .i64 n, .string ⟨a.toArray⟩, .string ⟨t.toArray⟩, vb, vp] 34)).drew) := Lib.hid (h.ext ((Below.refl _ _).alloc (Nat.le_refl _) _).drew)
  have BO : Hid (Blk (w.alloc (.cells #[.int .i64 9, .int .i64 n, .string ⟨a.toArray⟩, .string ⟨t.toArray⟩, vb, vp] 34)).drew w.heap.size #[.int .i64 9, .int .i64 n, .string ⟨a.toArray⟩, .string ⟨t.toArray⟩, vb, vp] 34) := Lib.hid (Blk.new w _ _)
  have hlt : w.heap.size < (w.alloc (.cells #[.int .i64 9, .int .i64 n, .string ⟨a.toArray⟩, .string ⟨t.toArray⟩, vb, vp] 34)).drew.heap.size := BO.out.lt
  have SA : Hid ((w.alloc (.cells #[.int .i64 9, .int .i64 n, .string ⟨a.toArray⟩, .string ⟨t.toArray⟩, vb, vp] 34)).drew.cell? ⟨w.heap.size, 1, none⟩ = some (.int .i64 n)) := BO.out.cell 1
  have CS := Lib.hid (fun k w' (hw : Below W.heap.size W w') => same_any k w' (hg.ext hw))
  have CS := Lib.hid (CS.out (growE D n))
  clear h hI hX hg ha ht
  unfold opV
  generalize growE D n = k at *
  generalize growD D n = D2 at *
  go_enter Tryz.func19, Tryz.ntmps19
  go_wp2
  go_region_held3 (fun w' => w'.cell? ⟨w.heap.size, 1, none⟩ = some (.int .i64 n))
    (first | with_reducible exact SA.out | with_reducible exact SB.out | with_reducible exact SC.out | with_reducible exact SD.out)
    (first
      | (go_at_call 48; refine (CD.out _ _ TA.out.dp).mono ?_; rintro e w1 ⟨rfl, L1, h1, hn1, hk1⟩; have T1 := Lib.hid (TA.out.dop h1 hn1 hk1); have O1 := Lib.hid (off_d hn1 hlt ho); have B1 := Lib.hid (BO.out.of_block (hk1.block w.heap.size hlt ho.1)); have SB : Hid (w1.cell? ⟨w.heap.size, 1, none⟩ = some (.int .i64 n)) := B1.out.cell 1; have hlt1 : w.heap.size < w1.heap.size := B1.out.lt; clear h1 hn1 hk1)
      | (go_at_call 49; refine (CX.out _ _ T1.out.xp).mono ?_; rintro e w2 ⟨he2, X2, h2, hn2, hk2⟩; unfold errX at he2; subst he2; have T2 := Lib.hid (T1.out.xop h2 hn2 hk2); have B2 := Lib.hid (B1.out.of_block (hk2.block w.heap.size hlt1 O1.out.2)); have SC : Hid (w2.cell? ⟨w.heap.size, 1, none⟩ = some (.int .i64 n)) := B2.out.cell 1; clear h2 hn2 hk2)
      | (go_at_call 16; refine (CS.out _ T2.out.below).mono ?_; rintro e w3 ⟨rfl, hb3⟩; have T3 := Lib.hid (T2.out.ext hb3); have SD : Hid (w3.cell? ⟨w.heap.size, 1, none⟩ = some (.int .i64 n)) := (B2.out.ext hb3).cell 1; clear hb3))
  go_wp2
  go_returns
  exact ⟨by first | rfl | (simp; done), L1, X2, _, _, T3.out, HXI.out⟩
end

/-! kinlaw5.writes of Append: contract. -/
section
open Go.RowKit Go.Extern.Stop Go.Stop Go.Extern

/-- A row of bytes of the call's own, whichever they are. -/
def U8Row (w : World) (B : Nat) (v : Value) (n : Nat) : Prop := ∃ cs : List Value, w.ownsRow B 5 1 v n cs ∧ ∀ u ∈ cs, ∃ z : Int, u = .int .u8 z
theorem U8Row.of {w : World} {B : Nat} {v : Value} {b : Bs} {n : Nat} (h : w.ownsRow B 5 1 v n (bcells b)) : U8Row w B v n := ⟨_, h, fun u hu => by
  unfold bcells at hu
  obtain ⟨x, -, rfl⟩ := List.mem_map.1 hu
  exact ⟨_, rfl⟩⟩
theorem U8Row.ext {w w' : World} {B : Nat} {v : Value} {n : Nat} (h : U8Row w B v n) (hb : Below w.heap.size w w') : U8Row w' B v n := by
  obtain ⟨cs, h1, h2⟩ := h; exact ⟨cs, row_ext h1 hb, h2⟩
theorem U8Row.set {w : World} {B : Nat} {v : Value} {n : Nat} (h : U8Row w B v n) (g k : Nat) {u : Value} (hu : ∃ z : Int, u = .int .u8 z) : U8Row (w.setCell ⟨g, k, none⟩ u) B v n := by
  obtain ⟨cs, h1, h2⟩ := h
  rcases row_head h1 with ⟨e, h0⟩ | ⟨g2, cap, e, -⟩
  · subst e; subst h0
    have hcs : cs = [] := List.length_eq_zero_iff.1 (by have := h1.1; omega)
    subst hcs
    exact ⟨[], World.ownsRow_nil _ _ _ 1, fun u hu => by simp at hu⟩
  · subst e
    by_cases hg : g2 = g
    · subst hg
      refine ⟨cs.set k u, (h1.stored k u).1, fun u' hu' => ?_⟩
      rcases List.mem_or_eq_of_mem_set hu' with h9 | h9
      · exact h2 u' h9
      · rw [h9]; exact hu
    · exact ⟨cs, row_of_block h1 fun k' hk' => set_other _ _ _ _ k' (by obtain rfl : g2 = k' := Option.some.inj hk'; exact hg), h2⟩
theorem U8Row.at {w : World} {B n cap : Nat} {ao : Option Addr} (h : U8Row w B (.slice ao n cap) n) {j : Nat} (hj : j < n) : ∃ g z, ao = some ⟨g, 0, none⟩ ∧ B ≤ g ∧ g < w.heap.size ∧ w.cell? ⟨g, j, none⟩ = some (.int .u8 z) ∧ w.frozen? ⟨g, j, none⟩ = false ∧ n ≤ cap := by
  obtain ⟨cs, h1, h2⟩ := h
  rcases row_head h1 with ⟨_, h0⟩ | ⟨g, cap', e, hB, hlt, hc, -, hf, -⟩
  · omega
  · obtain ⟨rfl, -, rfl⟩ := Value.slice.inj e
    have hl : j < cs.length := by have := h1.1; omega
    obtain ⟨z, hz⟩ := h2 cs[j] (List.getElem_mem hl)
    exact ⟨g, z, rfl, hB, hlt, row_cellAt h1 (by rw [List.getElem?_eq_getElem hl, hz]), hf j, hc⟩
theorem U8Row.lt {w : World} {B n : Nat} {v : Value} (h : U8Row w B v n) : ∀ k, v.ownBlock = some k → B ≤ k ∧ k < w.heap.size := by
  obtain ⟨cs, h1, -⟩ := h; exact h1.lt
set_option maxRecDepth 100000 in
set_option maxHeartbeats 4000000 in
theorem wr_append (W : World) (p x : Nat) (L : Lay) (X : XLay) (D : DS) (bs ns : List Nat) (n : Int) (a t b : Bs) (pk : List Int) (vb vp : Value) (T : Nat) (w : World) (h : Beside W p x L X D D bs ns w) (hI : Inv D T) (hT : T ≤ 100000) (hX : XI D bs ns) (hg : TypeIs W) (ha : a.length ≤ maxLen) (ht : t.length ≤ maxLen) (hu : BytesV W vb b) (hbb : b.length ≤ 1000000) :
    Calls Tryz.prog 43 #[.pointer (some ⟨p, 0, none⟩), .pointer (some ⟨x, 0, none⟩), opV ⟨1, n, a, t, b, pk⟩ vb vp] w (PlayPost W p x (appD D a b)) := by
  obtain ⟨wa, hwa⟩ : ∃ wa, wa = w.alloc (.cells #[.int .i64 1, .int .i64 n, .string ⟨a.toArray⟩, .string ⟨t.toArray⟩, vb, vp] 34) := ⟨_, rfl⟩
  have TA := Lib.hid (show Beside W p x L X D D bs ns wa from by rw [hwa]; exact h.ext ((Below.refl _ _).alloc (Nat.le_refl _) _))
  have BO := Lib.hid (show Blk wa w.heap.size #[.int .i64 1, .int .i64 n, .string ⟨a.toArray⟩, .string ⟨t.toArray⟩, vb, vp] 34 from by rw [hwa]; exact Blk.new w _ _)
  have ho : Off p x L X w.heap.size := h.new_off (Nat.le_refl _)
  obtain ⟨bl, hl⟩ : ∃ bl, b.length = bl := ⟨_, rfl⟩
  have HBL := Lib.hid hl
  obtain ⟨uo, ucap, hvb⟩ := hu.shape
  rw [hl] at hvb hbb
  subst hvb
  have HU := Lib.hid hu
  have CC := Lib.hid (fun wx (hw : Below W.heap.size W wx) => rcopy_any (.slice uo bl ucap) b wx (hu.ext hw) (by omega))
  rw [hl] at CC
  have CD := Lib.hid (fun w' L' u (hd : DP w' p L' D) (hu' : BytesV w' u b) => append_any p L' D a u b T w' hd hu' hI hT ha)
  have CX := Lib.hid (fun w' X' (hx : XP w' x X' D bs ns) (hw : Below W.heap.size W w') => xappend_any x X' D bs ns a (.slice uo bl ucap) b T w' hx (hu.ext hw) hI hT hX ha (by omega))
  have CB := Lib.hid (fun w' u (hu' : BytesV w' u b) (hw : Below W.heap.size W w') => rbytes_any u (.slice uo bl ucap) b b w' hu' (hu.ext hw))
  have HXI := Lib.hid (hX.appD a b)
  have CS := Lib.hid (fun k w' (hw : Below W.heap.size W w') => same_any k w' (hg.ext hw))
  have CS := Lib.hid (CS.out (appE D a b))
  have qe : (b == b) = true := by simp
  rw [qe] at CB
  clear h hI hX hg ha ht hu qe hl
  unfold opV
  generalize appE D a b = k at *
  generalize appD D a b = D2 at *
  have c2 : wa.cell? ⟨w.heap.size, 2, none⟩ = some (.string ⟨a.toArray⟩) := BO.out.cell 2
  have c4 : wa.cell? ⟨w.heap.size, 4, none⟩ = some (.slice uo bl ucap) := BO.out.cell 4
  have lN : w.heap.size < wa.heap.size := BO.out.lt
  go_enter Tryz.func43, Tryz.ntmps43
  go_wp2_with (first
    | (go_at_call 62; rw [← hwa]; refine (CC.out _ TA.out.below).mono ?_; rintro e w1 ⟨co, cc, rfl, ho1, hb1⟩; have T1 := Lib.hid (TA.out.ext hb1); have B1 := Lib.hid (BO.out.ext hb1); have R1 := Lib.hid (show w1.ownsRow wa.heap.size 5 1 (.slice co bl cc) b.length (bcells b) from by rw [HBL.out]; exact ho1); have d2 : w1.cell? ⟨w.heap.size, 2, none⟩ = some (.string ⟨a.toArray⟩) := B1.out.cell 2; have d4 : w1.cell? ⟨w.heap.size, 4, none⟩ = some (.slice uo bl ucap) := B1.out.cell 4; clear ho1 hb1)
    | (go_at_call 21; refine (CD.out _ _ _ T1.out.dp (bytes_of_rowB R1.out)).mono ?_; rintro e w2 ⟨rfl, L2, h2, hn2, hk2⟩; have hs1 : w.heap.size < w1.heap.size := B1.out.lt; have T2 := Lib.hid (T1.out.dop h2 hn2 hk2); have O2 := Lib.hid (off_d hn2 hs1 ho); have B2 := Lib.hid (B1.out.of_block (hk2.block w.heap.size hs1 ho.1)); have OR : Hid (∀ k, (Value.slice co bl cc).ownBlock = some k → Off p x L X k ∧ k < w1.heap.size ∧ wa.heap.size ≤ k) := (fun k hk => ⟨TA.out.new_off (R1.out.lt k hk).1, (R1.out.lt k hk).2, (R1.out.lt k hk).1⟩); have R2 := Lib.hid (row_of_block R1.out (fun k hk => hk2.block k (OR.out k hk).2.1 (OR.out k hk).1.1)); have OR2 : Hid (∀ k, (Value.slice co bl cc).ownBlock = some k → Off p x L2 X k ∧ W.heap.size ≤ k) := (fun k hk => ⟨off_d hn2 (OR.out k hk).2.1 (OR.out k hk).1, Nat.le_trans TA.out.below.size (OR.out k hk).2.2⟩); have d2' : w2.cell? ⟨w.heap.size, 2, none⟩ = some (.string ⟨a.toArray⟩) := B2.out.cell 2; have d4' : w2.cell? ⟨w.heap.size, 4, none⟩ = some (.slice uo bl ucap) := B2.out.cell 4; clear h2 hn2 hk2)
    | (go_at_call 33; refine (CB.out _ _ (bytes_of_rowB R2.out) T2.out.below).mono ?_; rintro e w' ⟨rfl, rfl⟩))
  have U2 := Lib.hid (show U8Row w2 wa.heap.size (.slice co bl cc) bl from U8Row.of (by have h9 := R2.out; rw [HBL.out] at h9; exact h9))
  go_loopw [10] (fun i wr => ∃ (j : Nat), j ≤ bl ∧ i = .int .i64 (j : Int) ∧ U8Row wr wa.heap.size (.slice co bl cc) bl ∧ Beside W p x L2 X D2 D bs ns wr ∧ Blk wr w.heap.size #[.int .i64 1, .int .i64 n, .string ⟨a.toArray⟩, .string ⟨t.toArray⟩, .slice uo bl ucap, vp] 34) (fun i _ => bl - (intOf i).toNat)
  case atStart => exact ⟨0, Nat.zero_le _, rfl, U2.out, T2.out, B2.out⟩
  case round =>
    obtain ⟨j, hj, rfl, hU, hTw, hB⟩ := hrel
    have HUU := Lib.hid hU
    have HTW := Lib.hid hTw
    have HB := Lib.hid hB
    clear hU hTw hB d2 d4 d2' d4' c2 c4
    by_cases hlt : j < bl
    · obtain ⟨g, z, rfl, hgB, hgl, e0, ef, hcap⟩ := HUU.out.at hlt
      have i1 : (0 : Int) ≤ (j : Int) := by omega
      have i2 : (j : Int) < (bl : Int) := by omega
      obtain ⟨hog, hgW⟩ := OR2.out g rfl
      go_wp2
      go_roundw
      case rel => exact ⟨j + 1, by omega, by go_num, HUU.out.set _ _ ⟨_, rfl⟩, HTW.out.set_off hog hgW, HB.out.of_block (set_other _ _ _ _ _ (by omega))⟩
      case measure => simp [intOf]; omega
    · obtain rfl : j = bl := by omega
      have d2 : wr.cell? ⟨w.heap.size, 2, none⟩ = some (.string ⟨a.toArray⟩) := HB.out.cell 2
      have d4 : wr.cell? ⟨w.heap.size, 4, none⟩ = some (.slice uo j ucap) := HB.out.cell 4
      go_wp2_with (first
        | (go_at_call 63; refine (CX.out _ _ HTW.out.xp HTW.out.below).mono ?_; rintro e w4 ⟨he4, X4, h4, hn4, hk4⟩; unfold errX at he4; subst he4; have T4 := Lib.hid (HTW.out.xop h4 hn4 hk4); clear h4 hn4 hk4)
        | (go_at_call 16; refine (CS.out _ T4.out.below).mono ?_; rintro e w5 ⟨rfl, hb5⟩; have T5 := Lib.hid (T4.out.ext hb5); clear hb5))
      go_returns
      exact ⟨by first | rfl | (simp; done), L2, X4, _, _, T5.out, HXI.out⟩
end
end Go.Proofs.YtdiaejphgcoknaaGreatDoor
