/- kinref16.fits, kinref16.Weights: contracts. -/
import Derived.Test.YtmdpfjjbehpnbaaDoorStatsH
import Derived.Test.YtmdpfjjbehpnbaaDoorStatsR
import Derived.Test.YtmdpfjjbehpnbaaDoorErrQ
import Derived.Test.YtmdpfjjbehpnbaaDoorFramesC
set_option linter.unusedSimpArgs false
set_option linter.unusedVariables false
namespace Go.Proofs.YtmdpfjjbehpnbaaDoor
open Go.RowKit Go.Extern.Stop Go.Stop Go.Extern
set_option maxHeartbeats 1000000 in
theorem rfits_any (v : Value) (gs : List (Int × Int)) (n : Nat) (w : World) (hv : Grps w v gs) (hn : (n : Int) ≤ 9223372036854775807) (r : Bool) (hr : r = true ↔ Tiles gs n) :
    Calls Tryd.prog 40 #[v, .int .i64 n] w fun e w' => e = .returned (.bool r) ∧ Below w.heap.size w w' := by
  have HV := Lib.hid hv
  have HI := Lib.hid (fun j => hv.in64 j)
  have HR := Lib.hid hr
  obtain ⟨L, hL⟩ : ∃ L, gs.length = L := ⟨_, rfl⟩
  have LG := Lib.hid hL
  have hl := hv.len
  rw [hL] at hl
  obtain ⟨ao, cap, rfl⟩ := hv.shapeN hL
  clear hv hr hL
  go_enter Tryd.func40, Tryd.ntmps40
  go_wp2
  go_loopw [5, 6] (fun at_ i wr => ∃ k : Nat, k ≤ L ∧ i = .int .i64 k ∧ at_ = .int .i64 (atT gs k) ∧ TileTo gs n k ∧ Below w.heap.size w wr) (fun _ i _ => L - (intOf i).toNat)
  case atStart => exact ⟨0, Nat.zero_le _, rfl, rfl, fun j h => by omega, Below.refl _ _⟩
  case round =>
    obtain ⟨k, hk, rfl, rfl, ht, hbr⟩ := hrel
    obtain ⟨t1, t2⟩ := ht.bd
    have s1 := hbr.size
    have HT := Lib.hid ht
    clear ht
    by_cases hlt : k < L
    · obtain ⟨b, off, rfl, lb, c0, c1⟩ := (HV.out.ext hbr).cellAt (j := k) (by rw [LG.out]; exact hlt)
      obtain ⟨i1, i2⟩ := HI.out k
      unfold in64 at i1 i2
      have HS := Lib.hid (atT_succ gs k)
      have HSN := Lib.hid (fun h1 h2 h3 => HT.out.snoc h1 h2 h3)
      have HNO : Hid (∀ (h : ¬ ((gs.getD k (0, 0)).1 = atT gs k ∧ 1 ≤ (gs.getD k (0, 0)).2 ∧ (gs.getD k (0, 0)).2 ≤ n - atT gs k)), r = false) := fun h => by
        cases hrr : r with
        | false => rfl
        | true => exact absurd ((HR.out.1 hrr).1 k (by rw [LG.out]; exact hlt)) h
      generalize (gs.getD k (0, 0)).1 = f at *
      generalize (gs.getD k (0, 0)).2 = c at *
      generalize atT gs k = a at *
      obtain ⟨i3, i4⟩ := i1
      obtain ⟨i5, i6⟩ := i2
      have q1 : IntKind.i64.wrap ((n : Int) - a) = (n : Int) - a := IntWalk.i64_in _ (by omega)
      by_cases h1 : f = a
      · have p1 : (f != a) = false := by simp; exact h1
        by_cases h2 : c < 1
        · have hrf := Lib.hid (HNO.out (by omega))
          clear h1
          go_wp2
          go_returns
          exact ⟨by rw [hrf.out]; rfl, by go_grown⟩
        · by_cases h3 : (n : Int) - a < c
          · have hrf := Lib.hid (HNO.out (by omega))
            clear h1
            go_wp2
            go_returns
            exact ⟨by rw [hrf.out]; rfl, by go_grown⟩
          · have HT2 := Lib.hid (HSN.out h1 (by omega) (by omega))
            have q2 : IntKind.i64.wrap (a + c) = a + c := IntWalk.i64_in _ (by omega)
            clear h1
            go_wp2
            go_roundw
            case rel => exact ⟨k + 1, by omega, by go_num, int_eq HS.out.symm, HT2.out, by go_grown⟩
            case measure => simp [intOf]; omega
      · have p1 : (f != a) = true := by simp; exact h1
        have hrf := Lib.hid (HNO.out (by omega))
        go_wp2
        go_returns
        exact ⟨by rw [hrf.out]; rfl, by go_grown⟩
    · obtain rfl : k = L := by omega
      have HE : Hid (r = true ↔ (atT gs k = n ∧ 1 ≤ n ∧ n ≤ 16)) := by
        have h := HR.out
        have ht := HT.out
        unfold Tiles at h
        rw [LG.out] at h
        exact ⟨fun q => (h.1 q).2, fun q => h.2 ⟨ht, q⟩⟩
      generalize atT gs k = a at *
      clear HR HT
      by_cases h1 : a = (n : Int)
      · have p1 : (a == (n : Int)) = true := by simp; exact h1
        by_cases h2 : 1 ≤ n
        · by_cases h3 : n ≤ 16
          · have hr := Lib.hid (HE.out.2 ⟨h1, h2, h3⟩)
            clear h1
            go_wp2
            go_returns
            exact ⟨by rw [hr.out]; first | rfl | (simp; omega), hbr⟩
          · have hr : Hid (r = false) := by cases e : r with | false => rfl | true => exact absurd (HE.out.1 e).2.2 h3
            clear h1
            go_wp2
            go_returns
            exact ⟨by rw [hr.out]; first | rfl | (simp; omega), hbr⟩
        · have hr : Hid (r = false) := by cases e : r with | false => rfl | true => exact absurd (HE.out.1 e).2.1 h2
          clear h1
          go_wp2
          go_returns
          exact ⟨by rw [hr.out]; first | rfl | (simp; omega), hbr⟩
      · have p1 : (a == (n : Int)) = false := by rw [beq_eq_false_iff_ne]; exact h1
        have hr : Hid (r = false) := by cases e : r with | false => rfl | true => exact absurd (HE.out.1 e).1 h1
        go_wp2
        go_returns
        exact ⟨by rw [hr.out]; first | rfl | (simp; omega), hbr⟩

/-- What kinref16.Weights answers where the groups lie in a row. -/
def RWPost (fs : List Fr) (gs : List (Int × Int)) (w : World) (e : Ending) (w' : World) : Prop :=
  ((∀ j, j < fs.length → wE fs gs j = 0) ∧ ∃ v', e = .returned (.tuple #[v', .agg #[.int .i64 0, .slice none 0 0]]) ∧ OwnInts w' w.heap.size v' (mapTo (wV fs gs) fs.length) ∧ Below w.heap.size w w') ∨
  (∃ i, i < fs.length ∧ (∀ j, j < i → wE fs gs j = 0) ∧ wE fs gs i ≠ 0 ∧ ∃ p, e = .returned (.tuple #[.slice none 0 0, .agg #[.int .i64 (wE fs gs i), p]]) ∧ PathV w' p #[115, 116, 97, 116, 115] i ∧ Below w.heap.size w w')
theorem PathV.set {w : World} {g cap : Nat} {s : Array UInt8} {i : Int} (h : PathV w (.slice (some ⟨g, 0, none⟩) 1 cap) s i) {b : Nat} (hb : g ≠ b) (x y : Value) : PathV ((w.setCell ⟨b, 0, none⟩ x).setCell ⟨b, 1, none⟩ y) (.slice (some ⟨g, 0, none⟩) 1 cap) s i := by
  obtain ⟨g', cap', e, hl, h0, h1⟩ := h
  obtain ⟨rfl, rfl⟩ : g = g' ∧ cap = cap' := by simpa using e
  exact ⟨g, cap, rfl, by simpa using hl, far2 hb h0, far2 hb h1⟩
theorem OwnInts.set2 {w : World} {b : Nat} {v : Value} {xs : List Int} (h : OwnInts w (b + 1) v xs) (x y : Value) : OwnInts ((w.setCell ⟨b, 0, none⟩ x).setCell ⟨b, 1, none⟩ y) (b + 1) v xs :=
  (h.setOther (by show b < b + 1; omega) x).setOther (by show b < b + 1; omega) y
theorem six_far2 {A : World} {b o0 o1 o2 p0 p1 p2 E : Nat} {x0 x1 x2 y0 y1 y2 : Value} (hne : b ≠ E)
    (h : A.cell? ⟨b, o0, none⟩ = some x0 ∧ A.cell? ⟨b, o1, none⟩ = some x1 ∧ A.cell? ⟨b, o2, none⟩ = some x2 ∧ A.cell? ⟨b, p0, none⟩ = some y0 ∧ A.cell? ⟨b, p1, none⟩ = some y1 ∧ A.cell? ⟨b, p2, none⟩ = some y2) (u v : Value) :
    ((A.setCell ⟨E, 0, none⟩ u).setCell ⟨E, 1, none⟩ v).cell? ⟨b, o0, none⟩ = some x0 ∧ ((A.setCell ⟨E, 0, none⟩ u).setCell ⟨E, 1, none⟩ v).cell? ⟨b, o1, none⟩ = some x1 ∧ ((A.setCell ⟨E, 0, none⟩ u).setCell ⟨E, 1, none⟩ v).cell? ⟨b, o2, none⟩ = some x2 ∧
    ((A.setCell ⟨E, 0, none⟩ u).setCell ⟨E, 1, none⟩ v).cell? ⟨b, p0, none⟩ = some y0 ∧ ((A.setCell ⟨E, 0, none⟩ u).setCell ⟨E, 1, none⟩ v).cell? ⟨b, p1, none⟩ = some y1 ∧ ((A.setCell ⟨E, 0, none⟩ u).setCell ⟨E, 1, none⟩ v).cell? ⟨b, p2, none⟩ = some y2 :=
  ⟨far2 hne h.1, far2 hne h.2.1, far2 hne h.2.2.1, far2 hne h.2.2.2.1, far2 hne h.2.2.2.2.1, far2 hne h.2.2.2.2.2⟩
theorem grown1 {w : World} (o : Obj) : Below w.heap.size w (w.alloc o) := by go_grown
set_option maxRecDepth 100000 in
theorem rweights_no (v u : Value) (fs : List Fr) (gs : List (Int × Int)) (w : World) (hv : Frames w v fs) (hu : Grps w u gs) (h : ¬ Tiles gs fs.length) :
    Calls Tryd.prog 17 #[v, u] w fun e w' => e = .returned (.tuple #[.slice none 0 0, .agg #[.int .i64 3, .slice none 0 0]]) ∧ Below w.heap.size w w' := by
  have C1 := Lib.hid (fun w h1 => rfits_any u gs fs.length w h1 (by have := hv.len; omega) false ⟨fun q => (by cases q), fun q => absurd q h⟩)
  have HU := Lib.hid hu
  obtain ⟨ao, cap, rfl⟩ := hv.shape
  obtain ⟨bo, bcap, rfl⟩ := hu.shape
  clear hv hu h
  generalize fs.length = n at *
  generalize gs.length = m at *
  go_enter Tryd.func17, Tryd.ntmps17
  go_wp2_with fail
  refine (C1.out _ (HU.out.ext (by go_grown))).mono ?_
  rintro e w1 ⟨rfl, hb1⟩
  have g1 : Below w.heap.size w w1 := ext (by go_grown) hb1
  have BR1 := Lib.hid ((Blk.new w #[.int .i64 0, .slice none 0 0] 35).ext hb1)
  go_wp2_with fail
  refine (fail_any _ _).mono ?_
  rintro e w2 ⟨rfl, hb2⟩
  have g2 := ext g1 hb2
  obtain ⟨r0, r1, r2, r3⟩ := (BR1.out.ext hb2).two
  go_wp2
  refine bodyPost_ret (by simp [results, Tryd.results17, go_sem, r0, r1, r2, r3]; try rfl) rfl ?_
  exact ⟨rfl, (g2.setCell (Nat.le_refl _) _).setCell (Nat.le_refl _) _⟩
set_option maxRecDepth 100000 in
set_option maxHeartbeats 16000000 in
theorem rweights_any (v u : Value) (fs : List Fr) (gs : List (Int × Int)) (w : World) (hv : Frames w v fs) (hu : Grps w u gs) (h : Tiles gs fs.length) :
    Calls Tryd.prog 17 #[v, u] w fun e w' => RWPost fs gs w e w' := by
  have c1 := fun w h1 => rfits_any u gs fs.length w h1 (by have := hv.len; omega) true ⟨fun _ => h, fun _ => rfl⟩
  have HU := Lib.hid hu
  have HV := Lib.hid hv
  have HT := Lib.hid h.1
  have HAL := Lib.hid h.2.1
  obtain ⟨-, -, n1, n16⟩ := h
  have HAM := Lib.hid (fun k (hk : k < gs.length) => atT_mono (b := gs.length) HT.out hk)
  obtain ⟨n, hn⟩ : ∃ n, fs.length = n := ⟨_, rfl⟩
  obtain ⟨L, hL⟩ : ∃ L, gs.length = L := ⟨_, rfl⟩
  rw [hn] at c1 n1 n16
  have C1 := Lib.hid c1
  have LN := Lib.hid hn
  have LG := Lib.hid hL
  obtain ⟨ao, cap, rfl⟩ := hv.shapeN hn
  obtain ⟨bo, bcap, rfl⟩ := hu.shapeN hL
  have hl := hu.len
  rw [hL] at hl
  clear hv hu hn hL c1
  go_enter Tryd.func17, Tryd.ntmps17
  go_wp2_with fail
  refine (C1.out _ (HU.out.ext (by go_grown))).mono ?_
  rintro e w1 ⟨rfl, hb1⟩
  have g1 : Below w.heap.size w w1 := ext (by go_grown) hb1
  have BR1 := Lib.hid ((Blk.new w #[.int .i64 0, .slice none 0 0] 35).ext hb1)
  clear hb1
  go_wp2
  go_loopw [6, 7] (fun o i wr => ∃ k f : Nat, k ≤ L ∧ i = .int .i64 k ∧ (f : Int) = atT gs k ∧ OwnInts wr (w.heap.size + 1) o (mapTo (wV fs gs) f) ∧ (∀ j, j < f → wE fs gs j = 0) ∧ Blk wr w.heap.size #[.int .i64 0, .slice none 0 0] 35 ∧ Below w.heap.size w wr) (fun _ i _ => L - (intOf i).toNat)
  case atStart => exact ⟨0, 0, Nat.zero_le _, rfl, rfl, OwnInts.nil _ _, fun j h => by omega, BR1.out, g1⟩
  case round =>
    clear BR1
    obtain ⟨k, f, hk, rfl, hf, hown, hno, hres, hbr⟩ := hrel
    have HO := Lib.hid hown
    have HN := Lib.hid hno
    have BR := Lib.hid hres
    have sr := hbr.size
    clear hown hno hres
    by_cases hlt : k < L
    · obtain ⟨bg, og, rfl, lg, c0, c1⟩ := HU.out.cellAt (j := k) (by rw [LG.out]; exact hlt)
      obtain ⟨b1, b2, b3⟩ := HT.out k (by rw [LG.out]; exact hlt)
      have b4 := HAM.out k (by rw [LG.out]; exact hlt)
      rw [HAL.out, LN.out] at b4
      rw [LN.out] at b3
      obtain ⟨c, hc⟩ : ∃ c : Nat, (gs.getD k (0, 0)).2 = c := ⟨(gs.getD k (0, 0)).2.toNat, by omega⟩
      have HBY : Hid (begB gs f = true) := beg_yes HT.out (by rw [LG.out]; exact hlt) hf
      have HBN : Hid (∀ i : Nat, f < i → i < f + c → begB gs i = false) := fun i h1 h2 => beg_no HT.out (k := k) (by rw [LG.out]; exact hlt) (by omega) (by omega)
      have HF2 : Hid (((f + c : Nat) : Int) = atT gs (k + 1)) := by show _ = _; rw [atT_succ, hc, ← hf]; omega
      rw [b1, ← hf] at c0
      rw [hc] at c1 b2 b3 b4
      have HGC : Hid (∀ wx, Below w.heap.size w wx → wx.cell? ⟨bg, og + k * 2, none⟩ = some (.int .i64 (f : Int)) ∧ wx.cell? ⟨bg, og + k * 2 + 1, none⟩ = some (.int .i64 (c : Int)) ∧ bg < wx.heap.size) := fun wx hx => ⟨(hx.cell (p := ⟨bg, _, none⟩) lg).trans c0, (hx.cell (p := ⟨bg, _, none⟩) lg).trans c1, Nat.lt_of_lt_of_le lg hx.size⟩
      have hfn : f + c ≤ n := by omega
      clear b1 b3 b4 hc hf c0 c1 lg
      obtain ⟨wo, rfl⟩ : ∃ wo : World, wo = wr := ⟨_, rfl⟩
      have qfc : IntKind.i64.wrap ((f : Int) + (c : Int)) = (f : Int) + (c : Int) := IntWalk.i64_in _ (by omega)
      obtain ⟨c0, c1, lg⟩ := HGC.out wo hbr
      go_wp2
      clear c0 c1 lg
      go_loopw [6, 8] (fun o z wr => ∃ i : Nat, f ≤ i ∧ i ≤ f + c ∧ z = .int .i64 i ∧ OwnInts wr (w.heap.size + 1) o (mapTo (wV fs gs) i) ∧ (∀ j, j < i → wE fs gs j = 0) ∧ Blk wr w.heap.size #[.int .i64 0, .slice none 0 0] 35 ∧ Below w.heap.size w wr) (fun _ z _ => (f + c) - (intOf z).toNat)
      case atStart => exact ⟨f, by omega, by omega, rfl, HO.out, HN.out, BR.out, hbr⟩
      case round =>
        clear HO BR HN hbr sr
        obtain ⟨i, hi1, hi2, rfl, hown, hno, hres, hbr⟩ := hrel
        have HO := Lib.hid hown
        have HN := Lib.hid hno
        have BR := Lib.hid hres
        have si := hbr.size
        clear hown hno hres
        obtain ⟨c0, c1, lg⟩ := HGC.out wr hbr
        by_cases hlt2 : i < f + c
        · have qd : decide ((i : Int) < (f : Int) + (c : Int)) = true := by simp; omega
          have hin : i < n := by omega
          go_wp2
          go_quiet (fail)
          rename_i nq
          have j2 : Below wr.heap.size wr (wr.drewN nq) := below_drewN' (Below.refl _ _) nq
          clear c0 c1 lg
          generalize hq2 : wr.drewN nq = w2 at *
          clear hq2
          have g2 : Below w.heap.size w w2 := ext hbr j2
          have HO2 := Lib.hid (HO.out.ext j2)
          have BR2 := Lib.hid (BR.out.ext j2)
          have s2 := g2.size
          clear HO BR j2 hbr si
          obtain ⟨b, off, po, pc, rfl, lb, x0, x1, x2, fv⟩ := (HV.out.ext g2).cellAt (j := i) (by rw [LN.out]; exact hin)
          have HFI := Lib.hid fv
          have CI := Lib.hid (fun x w h => rinner_any x (fs.getD i Fr.nought) w h)
          obtain ⟨z1, z2⟩ := innV_bd (fs.getD i Fr.nought)
          rcases Nat.eq_or_lt_of_le hi1 with hif | hif
          · have HBI : Hid (begB gs i = true) := by show _ = _; rw [← hif]; exact HBY.out
            have HEE : Hid (wE fs gs i = innE (fs.getD i Fr.nought)) := by show _ = _; unfold wE; rw [HBI.out]; rfl
            have HZ0 : Hid (wV fs gs i = 64 + innV (fs.getD i Fr.nought) * 2) := by show _ = _; unfold wV; rw [HBI.out]; rfl
            have qe : decide ((f : Int) < (i : Int)) = false := by simp; omega
            have qe2 : decide (f < i) = false := by simp; omega
            have hnif : ¬ f < i := by omega
            clear fv hif
            generalize fs.getD i Fr.nought = fi at *
            generalize innV fi = z0 at *
            generalize innE fi = ee at *
            have qz : IntKind.i64.wrap (2 * z0) = 2 * z0 := IntWalk.i64_in _ (by omega)
            go_wp2_with fail
            clear x0 x1 x2
            refine (CI.out _ _ HFI.out).mono ?_
            rintro e w5 ⟨rfl, hb5⟩
            obtain ⟨zz, hzz⟩ : ∃ zz, 2 * z0 = zz := ⟨_, rfl⟩
            have HZZ : Hid (wV fs gs i = 64 + zz) := by show _ = _; rw [HZ0.out, ← hzz, Int.mul_comm]
            have zb : 0 ≤ zz ∧ zz ≤ 522240 := by omega
            obtain ⟨zb1, zb2⟩ := zb
            have qz2 : IntKind.i64.wrap (2 * z0) = zz := by rw [qz, hzz]
            clear qz hzz
            obtain ⟨c0, c1, lg⟩ := HGC.out w5 (ext g2 hb5)
            have KB := Lib.hid (Blk.new w5 #[.int .i64 ee, .slice none 0 0] 35)
            have k6 : Below w2.heap.size w2 (w5.alloc (.cells #[.int .i64 ee, .slice none 0 0] 35)) := ext hb5 (grown1 _)
            go_wp2_with fail
            clear c0 c1 lg
            generalize hE : w5.heap.size = E at KB ⊢
            generalize hW : w5.alloc (.cells #[.int .i64 ee, .slice none 0 0] 35) = W6 at *
            clear hW hE
            have HO5 := Lib.hid (HO2.out.ext k6)
            have BR5 := Lib.hid (BR2.out.ext k6)
            have g6 : Below w.heap.size w W6 := ext g2 k6
            have s6 := g6.size
            have s7 : w.heap.size < W6.heap.size := BR5.out.lt
            obtain ⟨y0, y1, -, -⟩ := KB.out.two
            have y2 := KB.out.lt
            by_cases hee : ee = 0
            · have HN1 : Hid (∀ j, j < i + 1 → wE fs gs j = 0) := by
                intro j hj
                rcases Nat.lt_or_ge j i with h | h
                · exact HN.out j h
                · obtain rfl : j = i := by omega
                  rw [HEE.out]; exact hee
              subst hee
              have qa : IntKind.i64.wrap (64 + zz) = 64 + zz := IntWalk.i64_in _ (by omega)
              go_wp2_with fail
              refine (ok_zero _ _).mono ?_
              rintro e w7 ⟨rfl, hb7⟩
              have HO7 := Lib.hid (HO5.out.ext hb7)
              have BR7 := Lib.hid (BR5.out.ext hb7)
              have g7 := ext g6 hb7
              have s8 := g7.size
              have s9 : w.heap.size < w7.heap.size := BR7.out.lt
              clear y0 y1 HO5 BR5 KB hb7
              go_wp2_with (at_builtin; refine wpList_app1 rfl (.tmp 79) (.tmp 82) rfl (w.heap.size + 1) _ _ (64 + zz) rfl HO7.out rfl (by simp) (by unfold in64; omega) (by rw [length_mapTo]; omega) (by omega) ?_)
              intro v' w' hown' hb' hg'
              have BR9 := Lib.hid (BR7.out.below hb' (Nat.lt_succ_self _))
              have g9 := g7.trans (hb'.mono (Nat.le_succ _))
              go_wp2
              go_roundw
              case rel => exact ⟨i + 1, by omega, by omega, by go_num, by rw [mapTo_succ, HZZ.out]; exact hown', HN1.out, BR9.out, g9⟩
              case measure => simp [intOf]; omega
            · have q0 : (ee == 0) = false := by rw [beq_eq_false_iff_ne]; exact hee
              have HNZ := Lib.hid hee
              clear hee
              go_wp2_with fail
              refine (ok_ne ee q0 _ _).mono ?_
              rintro e w7 ⟨rfl, hb7⟩
              have BR7 := Lib.hid (BR5.out.ext hb7)
              have g7 := ext g6 hb7
              have z0 := (hb7.cell (p := ⟨E, 0, none⟩) KB.out.lt).trans y0
              have z1 := (hb7.cell (p := ⟨E, 1, none⟩) KB.out.lt).trans y1
              have s9 : w.heap.size < w7.heap.size := BR7.out.lt
              clear y0 y1 BR5 HO5
              go_wp2_with fail
              refine (rin_any _ _ ee q0 _).mono ?_
              rintro e w8 ⟨ga, rfl, hpv, lga, hb8⟩
              have BR8 := BR7.out.ext hb8
              obtain ⟨r0, r1, r2, r3⟩ := BR8.two
              have lr := BR8.lt
              have g8 := ext g7 hb8
              have HPV := Lib.hid hpv
              have nga : ga ≠ w.heap.size := by omega
              clear hpv lga s9 z0 z1 BR8 hb7 hb8
              go_wp2
              refine bodyPost_ret (by simp [results, Tryd.results17, go_sem, r0, r1, r2, r3, lr]; try rfl) rfl ?_
              exact .inr ⟨i, by rw [LN.out]; exact hin, HN.out, by rw [HEE.out]; exact HNZ.out, _, by rw [HEE.out], HPV.out.set nga _ _, (g8.setCell (Nat.le_refl _) _).setCell (Nat.le_refl _) _⟩
          · have HBI : Hid (begB gs i = false) := HBN.out i hif hlt2
            obtain ⟨p, hpi⟩ : ∃ p, i = p + 1 := ⟨i - 1, by omega⟩
            have hip : i - 1 = p := by omega
            have qi : IntKind.i64.wrap ((i : Int) - 1) = (p : Int) := by rw [IntWalk.i64_in _ (by omega)]; omega
            have hp1 : (0 : Int) ≤ (p : Int) := by omega
            have hp2 : (p : Int) < (n : Int) := by omega
            have hpn : p < n := by omega
            have qe : decide ((f : Int) < (i : Int)) = true := by simp; omega
            have CO := Lib.hid (fun x y w h1 h2 => router_any x y (fs.getD i Fr.nought) (fs.getD p Fr.nought) w h1 h2)
            have HEE : Hid (wE fs gs i = unlE (fs.getD i Fr.nought) (fs.getD p Fr.nought)) := by show _ = _; unfold wE frA; rw [HBI.out, hip]; rfl
            have HZZ : Hid (wV fs gs i = 64 + outV (fs.getD i Fr.nought) (fs.getD p Fr.nought)) := by show _ = _; unfold wV frA; rw [HBI.out, hip]; rfl
            obtain ⟨z4, z5⟩ := outV_bd (fs.getD i Fr.nought) (fs.getD p Fr.nought)
            obtain ⟨bq, offq, qo, qc, eq, lbq, r0, r1, r2, fvq⟩ := (HV.out.ext g2).cellAt (j := p) (by rw [LN.out]; exact hpn)
            obtain ⟨rfl, rfl⟩ : b = bq ∧ off = offq := by simpa using eq
            have HFP := Lib.hid fvq
            clear fv fvq eq lbq hpi hip
            generalize fs.getD i Fr.nought = fi at *
            generalize fs.getD p Fr.nought = fp at *
            generalize outV fi fp = zz at *
            generalize unlE fi fp = ee at *
            generalize innE fi = e1 at *
            generalize innV fi = z0 at *
            have qz : IntKind.i64.wrap (2 * z0) = 2 * z0 := IntWalk.i64_in _ (by omega)
            have S6 := Lib.hid (And.intro x0 (And.intro x1 (And.intro x2 (And.intro r0 (And.intro r1 r2)))))
            clear r0 r1 r2
            go_wp2_with fail
            clear x0 x1 x2
            refine (CI.out _ _ HFI.out).mono ?_
            rintro e w5 ⟨rfl, hb5⟩
            obtain ⟨c0, c1, lg⟩ := HGC.out w5 (ext g2 hb5)
            have S7 := Lib.hid (six_ext2 (grown1 (.cells #[.int .i64 e1, .slice none 0 0] 35)) (six_ext2 hb5 S6.out))
            have k7 : Below w2.heap.size w2 (w5.alloc (.cells #[.int .i64 e1, .slice none 0 0] 35)) := ext hb5 (grown1 _)
            have HF7 := Lib.hid (HFI.out.ext k7)
            have HP7 := Lib.hid (HFP.out.ext k7)
            have KB0 := Lib.hid (Blk.new w5 #[.int .i64 e1, .slice none 0 0] 35)
            have lE : w2.heap.size ≤ w5.heap.size := hb5.size
            go_wp2
            clear c0 c1 lg
            generalize hE : w5.heap.size = E at KB0 lE ⊢
            generalize hW : w5.alloc (.cells #[.int .i64 e1, .slice none 0 0] 35) = W7 at *
            clear hW hE hb5
            have hne : b ≠ E := by omega
            obtain ⟨x0, x1, x2, r0, r1, r2⟩ := S7.out
            have l7 := KB0.out.lt
            go_region_held3 (fun w' => w'.cell? ⟨b, off + i * 3, none⟩ = some (.int .i64 fi.W) ∧ w'.cell? ⟨b, off + i * 3 + 1, none⟩ = some (.int .i64 fi.H) ∧ w'.cell? ⟨b, off + i * 3 + 2, none⟩ = some (.slice po fi.pix.length pc) ∧ w'.cell? ⟨b, off + p * 3, none⟩ = some (.int .i64 fp.W) ∧ w'.cell? ⟨b, off + p * 3 + 1, none⟩ = some (.int .i64 fp.H) ∧ w'.cell? ⟨b, off + p * 3 + 2, none⟩ = some (.slice qo fp.pix.length qc))
              (first | with_reducible exact S65.out | with_reducible exact S68.out | with_reducible exact S7.out | with_reducible exact six_drew2 S7.out | go_keep)
              (first | (go_at_call 13; refine (CO.out _ _ _ ?_ ?_).mono ?_; exact HF7.out; exact HP7.out; rintro e w8 ⟨rfl, hb8⟩; have j8 : Below W7.heap.size W7 w8 := (by first | exact hb8 | exact below_undrew hb8); have S65 := Lib.hid (six_ext2 j8 S7.out); have S68 := Lib.hid (six_far2 hne S65.out (.int .i64 ee) (.slice none 0 0)); obtain ⟨e0, e2, e3, e4⟩ := (KB0.out.ext j8).two; have l8 := (KB0.out.ext j8).lt))
            have KB := Lib.hid ((KB0.out.ext j8).set2 (.int .i64 ee) (.slice none 0 0))
            have s68 := ext k7 j8
            have k6 : Below w2.heap.size w2 ((w8.setCell ⟨E, 0, none⟩ (.int .i64 ee)).setCell ⟨E, 1, none⟩ (.slice none 0 0)) := (s68.setCell lE _).setCell lE _
            clear x0 x1 x2 r0 r1 r2 S6 S7 S65 S68 hb8 e0 e2 e3 e4 l8 l7 HF7 HP7 HFI HFP CO CI KB0 k7 j8 s68
            generalize hW : (w8.setCell ⟨E, 0, none⟩ (.int .i64 ee)).setCell ⟨E, 1, none⟩ (.slice none 0 0) = W6 at *
            clear hW
            have HO5 := Lib.hid (HO2.out.ext k6)
            have BR5 := Lib.hid (BR2.out.ext k6)
            have g6 : Below w.heap.size w W6 := ext g2 k6
            have s6 := g6.size
            have s7 : w.heap.size < W6.heap.size := BR5.out.lt
            obtain ⟨y0, y1, -, -⟩ := KB.out.two
            have y2 := KB.out.lt
            by_cases hee : ee = 0
            · have HN1 : Hid (∀ j, j < i + 1 → wE fs gs j = 0) := by
                intro j hj
                rcases Nat.lt_or_ge j i with h | h
                · exact HN.out j h
                · obtain rfl : j = i := by omega
                  rw [HEE.out]; exact hee
              subst hee
              have qa : IntKind.i64.wrap (64 + zz) = 64 + zz := IntWalk.i64_in _ (by omega)
              go_wp2_with fail
              refine (ok_zero _ _).mono ?_
              rintro e w7 ⟨rfl, hb7⟩
              have HO7 := Lib.hid (HO5.out.ext hb7)
              have BR7 := Lib.hid (BR5.out.ext hb7)
              have g7 := ext g6 hb7
              have s8 := g7.size
              have s9 : w.heap.size < w7.heap.size := BR7.out.lt
              clear y0 y1 HO5 BR5 KB hb7
              go_wp2_with (at_builtin; refine wpList_app1 rfl (.tmp 79) (.tmp 82) rfl (w.heap.size + 1) _ _ (64 + zz) rfl HO7.out rfl (by simp) (by unfold in64; omega) (by rw [length_mapTo]; omega) (by omega) ?_)
              intro v' w' hown' hb' hg'
              have BR9 := Lib.hid (BR7.out.below hb' (Nat.lt_succ_self _))
              have g9 := g7.trans (hb'.mono (Nat.le_succ _))
              go_wp2
              go_roundw
              case rel => exact ⟨i + 1, by omega, by omega, by go_num, by rw [mapTo_succ, HZZ.out]; exact hown', HN1.out, BR9.out, g9⟩
              case measure => simp [intOf]; omega
            · have q0 : (ee == 0) = false := by rw [beq_eq_false_iff_ne]; exact hee
              have HNZ := Lib.hid hee
              clear hee
              go_wp2_with fail
              refine (ok_ne ee q0 _ _).mono ?_
              rintro e w7 ⟨rfl, hb7⟩
              have BR7 := Lib.hid (BR5.out.ext hb7)
              have g7 := ext g6 hb7
              have z0 := (hb7.cell (p := ⟨E, 0, none⟩) KB.out.lt).trans y0
              have z1 := (hb7.cell (p := ⟨E, 1, none⟩) KB.out.lt).trans y1
              have s9 : w.heap.size < w7.heap.size := BR7.out.lt
              clear y0 y1 BR5 HO5
              go_wp2_with fail
              refine (rin_any _ _ ee q0 _).mono ?_
              rintro e w8 ⟨ga, rfl, hpv, lga, hb8⟩
              have BR8 := BR7.out.ext hb8
              obtain ⟨r0, r1, r2, r3⟩ := BR8.two
              have lr := BR8.lt
              have g8 := ext g7 hb8
              have HPV := Lib.hid hpv
              have nga : ga ≠ w.heap.size := by omega
              clear hpv lga s9 z0 z1 BR8 hb7 hb8
              go_wp2
              refine bodyPost_ret (by simp [results, Tryd.results17, go_sem, r0, r1, r2, r3, lr]; try rfl) rfl ?_
              exact .inr ⟨i, by rw [LN.out]; exact hin, HN.out, by rw [HEE.out]; exact HNZ.out, _, by rw [HEE.out], HPV.out.set nga _ _, (g8.setCell (Nat.le_refl _) _).setCell (Nat.le_refl _) _⟩
        · obtain rfl : i = f + c := by omega
          have qd : decide (((f + c : Nat) : Int) < (f : Int) + (c : Int)) = false := by simp
          have qd2 : decide ((f : Int) + (c : Int) < (f : Int) + (c : Int)) = false := by simp
          go_wp2
          go_quiet (fail)
          go_wp2
          go_roundw
          case rel => exact ⟨k + 1, f + c, by omega, by go_num, HF2.out, HO.out.ext (by first | exact below_drewN' (Below.refl _ _) _ | exact (Below.refl _ _).drew | exact Below.refl _ _), HN.out, BR.out.ext (by first | exact below_drewN' (Below.refl _ _) _ | exact (Below.refl _ _).drew | exact Below.refl _ _), by first | exact below_drewN' hbr _ | exact hbr.drew | exact hbr⟩
          case measure => simp [intOf]; omega
    · have ek : k = L := by omega
      have hfn : f = n := by
        have h1 := HAL.out
        rw [LG.out, LN.out, ← ek] at h1
        omega
      have HZ : Hid (∀ j, j < fs.length → wE fs gs j = 0) := fun j hj => HN.out j (by rw [LN.out] at hj; omega)
      have HO2 := Lib.hid (show OwnInts wr (w.heap.size + 1) _ (mapTo (wV fs gs) fs.length) from by rw [LN.out, ← hfn]; exact HO.out)
      obtain ⟨r0, r1, r2, r3⟩ := BR.out.two
      have lr := BR.out.lt
      clear ek hf hfn HO HN
      go_wp2
      refine bodyPost_ret (by simp [results, Tryd.results17, go_sem, r0, r1, r2, r3, lr]; try rfl) rfl ?_
      exact .inl ⟨HZ.out, _, rfl, (HO2.out.set2 _ _).mono (Nat.le_succ _), (hbr.setCell (Nat.le_refl _) _).setCell (Nat.le_refl _) _⟩
end Go.Proofs.YtmdpfjjbehpnbaaDoor
