/- stats.Weights: its contract. -/
import Derived.Test.YtmdpfjjbehpnbaaDoorStatsG
set_option linter.unusedSimpArgs false
set_option linter.unusedVariables false
namespace Go.Proofs.YtmdpfjjbehpnbaaDoor
open Go.RowKit Go.Extern.Stop Go.Stop Go.Extern

/-- An error wrapped once: a block of the call's own holds the place and the code. -/
def faultS (s : Array UInt8) (i : Int) (k : Int) : Array Value := #[.string ⟨s⟩, .int .i64 i, .iface 32 (.int .i64 k)]
set_option maxRecDepth 100000 in
theorem pin_any (s : Array UInt8) (i k : Int) (w : World) :
    Calls Tryd.prog 39 #[.string ⟨s⟩, .int .i64 i, .iface 32 (.int .i64 k)] w fun e w' => ∃ b, e = .returned (.iface 84 (.pointer (some ⟨b, 0, none⟩))) ∧ Blk w' b (faultS s i k) 87 ∧ w.heap.size ≤ b ∧ Below w.heap.size w w' := by
  go_enter Tryd.func39, Tryd.ntmps39
  go_wp2
  go_returns
  exact ⟨_, rfl, Blk.new _ _ _, Nat.le_refl _, by go_grown⟩
theorem pin_code (s : Array UInt8) (i k : Int) (hk : k ≠ 0) (w : World) :
    Calls Tryd.prog 39 #[.string ⟨s⟩, .int .i64 i, errV k] w fun e w' => ∃ b, e = .returned (.iface 84 (.pointer (some ⟨b, 0, none⟩))) ∧ Blk w' b (faultS s i k) 87 ∧ w.heap.size ≤ b ∧ Below w.heap.size w w' := by
  rw [errV_ne hk]; exact pin_any s i k w
theorem six_ext2 {A w5 : World} (hb : Below A.heap.size A w5) {b c o0 o1 o2 p0 p1 p2 : Nat} {x0 x1 x2 y0 y1 y2 : Value}
    (h : A.cell? ⟨b, o0, none⟩ = some x0 ∧ A.cell? ⟨b, o1, none⟩ = some x1 ∧ A.cell? ⟨b, o2, none⟩ = some x2 ∧ A.cell? ⟨c, p0, none⟩ = some y0 ∧ A.cell? ⟨c, p1, none⟩ = some y1 ∧ A.cell? ⟨c, p2, none⟩ = some y2) :
    w5.cell? ⟨b, o0, none⟩ = some x0 ∧ w5.cell? ⟨b, o1, none⟩ = some x1 ∧ w5.cell? ⟨b, o2, none⟩ = some x2 ∧ w5.cell? ⟨c, p0, none⟩ = some y0 ∧ w5.cell? ⟨c, p1, none⟩ = some y1 ∧ w5.cell? ⟨c, p2, none⟩ = some y2 := by
  have k : ∀ {p : Addr} {x : Value}, A.cell? p = some x → w5.cell? p = some x := fun {p x} hp => (hb.cell (World.block_lt_of_cell? A p hp)).trans hp
  exact ⟨k h.1, k h.2.1, k h.2.2.1, k h.2.2.2.1, k h.2.2.2.2.1, k h.2.2.2.2.2⟩
theorem six_drew2 {A : World} {b c o0 o1 o2 p0 p1 p2 : Nat} {x0 x1 x2 y0 y1 y2 : Value}
    (h : A.cell? ⟨b, o0, none⟩ = some x0 ∧ A.cell? ⟨b, o1, none⟩ = some x1 ∧ A.cell? ⟨b, o2, none⟩ = some x2 ∧ A.cell? ⟨c, p0, none⟩ = some y0 ∧ A.cell? ⟨c, p1, none⟩ = some y1 ∧ A.cell? ⟨c, p2, none⟩ = some y2) :
    A.drew.cell? ⟨b, o0, none⟩ = some x0 ∧ A.drew.cell? ⟨b, o1, none⟩ = some x1 ∧ A.drew.cell? ⟨b, o2, none⟩ = some x2 ∧ A.drew.cell? ⟨c, p0, none⟩ = some y0 ∧ A.drew.cell? ⟨c, p1, none⟩ = some y1 ∧ A.drew.cell? ⟨c, p2, none⟩ = some y2 := h
theorem Blk.cells2 {w : World} {b : Nat} {x y : Value} {T : Nat} (h : Blk w b #[x, y] T) : w.cell? ⟨b, 0, none⟩ = some x ∧ w.cell? ⟨b, 1, none⟩ = some y := ⟨h.cell 0, h.cell 1⟩
theorem wV_bd (fs : List Fr) (gs : List (Int × Int)) (i : Nat) : 64 ≤ wV fs gs i ∧ wV fs gs i ≤ 522304 := by
  have h1 := innV_bd (frA fs i)
  have h2 := outV_bd (frA fs i) (frA fs (i - 1))
  unfold wV; split <;> omega
/-- What stats.Weights answers where the groups lie in a row. -/
def WPost (fs : List Fr) (gs : List (Int × Int)) (w : World) (e : Ending) (w' : World) : Prop :=
  ((∀ j, j < fs.length → wE fs gs j = 0) ∧ ∃ v', e = .returned (.tuple #[v', .nilIface]) ∧ OwnInts w' w.heap.size v' (mapTo (wV fs gs) fs.length) ∧ Below w.heap.size w w') ∨
  (∃ i, i < fs.length ∧ (∀ j, j < i → wE fs gs j = 0) ∧ wE fs gs i ≠ 0 ∧ ∃ b, e = .returned (.tuple #[.slice none 0 0, .iface 84 (.pointer (some ⟨b, 0, none⟩))]) ∧ Blk w' b (faultS #[115, 116, 97, 116, 115] i (wE fs gs i)) 87 ∧ w.heap.size ≤ b ∧ Below w.heap.size w w')
set_option maxRecDepth 100000 in
theorem pweights_no (v u : Value) (fs : List Fr) (gs : List (Int × Int)) (w : World) (hv : Frames w v fs) (hu : Grps w u gs) (h : ¬ Tiles gs fs.length) :
    Calls Tryd.prog 16 #[v, u] w fun e w' => e = .returned (.tuple #[.slice none 0 0, .iface 32 (.int .i64 3)]) ∧ Below w.heap.size w w' := by
  have C1 := Lib.hid (fun w h1 => prow_any u gs fs.length w h1 (by have := hv.len; omega) false ⟨fun q => (by cases q), fun q => absurd q h⟩)
  have HU := Lib.hid hu
  obtain ⟨ao, cap, rfl⟩ := hv.shape
  obtain ⟨bo, bcap, rfl⟩ := hu.shape
  clear hv hu h
  generalize fs.length = n at *
  generalize gs.length = m at *
  go_enter Tryd.func16, Tryd.ntmps16
  go_wp2_with fail
  refine (C1.out _ (HU.out.ext (by go_grown))).mono ?_
  rintro e w1 ⟨rfl, hb1⟩
  have g1 : Below w.heap.size w w1 := ext (by go_grown) hb1
  go_wp2
  go_returns
  exact ⟨rfl, g1⟩
set_option maxRecDepth 100000 in
set_option maxHeartbeats 16000000 in
theorem pweights_any (v u : Value) (fs : List Fr) (gs : List (Int × Int)) (w : World) (hv : Frames w v fs) (hu : Grps w u gs) (h : Tiles gs fs.length) :
    Calls Tryd.prog 16 #[v, u] w fun e w' => WPost fs gs w e w' := by
  have c1 := fun w h1 => prow_any u gs fs.length w h1 (by have := hv.len; omega) true ⟨fun _ => h, fun _ => rfl⟩
  have HU := Lib.hid hu
  have HV := Lib.hid hv
  have HT := Lib.hid h.1
  have HAL := Lib.hid h.2.1
  obtain ⟨-, -, n1, n16⟩ := h
  have HAM := Lib.hid (fun k (hk : k < gs.length) => atT_mono (b := gs.length) HT.out hk)
  obtain ⟨n, hn⟩ : ∃ n, fs.length = n := ⟨_, rfl⟩
  obtain ⟨L, hL⟩ : ∃ L, gs.length = L := ⟨_, rfl⟩
  rw [hn] at c1 n1 n16
  have C1 := Lib.hid c1
  have LN := Lib.hid hn
  have LG := Lib.hid hL
  obtain ⟨ao, cap, rfl⟩ := hv.shapeN hn
  obtain ⟨bo, bcap, rfl⟩ := hu.shapeN hL
  have hl := hu.len
  rw [hL] at hl
  clear hv hu hn hL c1
  go_enter Tryd.func16, Tryd.ntmps16
  go_wp2_with fail
  refine (C1.out _ (HU.out.ext (by go_grown))).mono ?_
  rintro e w1 ⟨rfl, hb1⟩
  have g1 : Below w.heap.size w w1 := ext (by go_grown) hb1
  go_wp2
  go_loopw [6, 20] (fun o i wr => ∃ k f : Nat, k ≤ L ∧ i = .int .i64 k ∧ (f : Int) = atT gs k ∧ OwnInts wr w.heap.size o (mapTo (wV fs gs) f) ∧ (∀ j, j < f → wE fs gs j = 0) ∧ Below w.heap.size w wr) (fun _ i _ => L - (intOf i).toNat)
  case atStart => exact ⟨0, 0, Nat.zero_le _, rfl, rfl, OwnInts.nil _ _, fun j h => by omega, g1⟩
  case round =>
    obtain ⟨k, f, hk, rfl, hf, hown, hno, hbr⟩ := hrel
    have HO := Lib.hid hown
    have HN := Lib.hid hno
    have sr := hbr.size
    clear hown hno
    by_cases hlt : k < L
    · obtain ⟨bg, og, rfl, lg, c0, c1⟩ := (HU.out.ext hbr).cellAt (j := k) (by rw [LG.out]; exact hlt)
      obtain ⟨b1, b2, b3⟩ := HT.out k (by rw [LG.out]; exact hlt)
      have b4 := HAM.out k (by rw [LG.out]; exact hlt)
      rw [HAL.out, LN.out] at b4
      rw [LN.out] at b3
      obtain ⟨c, hc⟩ : ∃ c : Nat, (gs.getD k (0, 0)).2 = c := ⟨(gs.getD k (0, 0)).2.toNat, by omega⟩
      have HBY : Hid (begB gs f = true) := beg_yes HT.out (by rw [LG.out]; exact hlt) hf
      have HBN : Hid (∀ i : Nat, f < i → i < f + c → begB gs i = false) := fun i h1 h2 => beg_no HT.out (k := k) (by rw [LG.out]; exact hlt) (by omega) (by omega)
      have HF2 : Hid (((f + c : Nat) : Int) = atT gs (k + 1)) := by show _ = _; rw [atT_succ, hc, ← hf]; omega
      rw [b1, ← hf] at c0
      rw [hc] at c1 b2 b3 b4
      have hfn : f + c ≤ n := by omega
      clear b1 b3 b4 hc hf
      obtain ⟨wo, rfl⟩ : ∃ wo : World, wo = wr := ⟨_, rfl⟩
      have jA : Below wo.heap.size wo (wo.alloc (.cells #[.int .i64 f, .int .i64 c] 52)) := by go_grown
      have gA : Below w.heap.size w (wo.alloc (.cells #[.int .i64 f, .int .i64 c] 52)) := hbr.trans (jA.mono hbr.size)
      have HOA := Lib.hid (HO.out.ext jA)
      have BXA := Lib.hid (Blk.new wo #[.int .i64 f, .int .i64 c] 52)
      have qfc : IntKind.i64.wrap ((f : Int) + (c : Int)) = (f : Int) + (c : Int) := IntWalk.i64_in _ (by omega)
      clear HO hbr
      go_wp2
      go_loopw [6, 9] (fun o z wr => ∃ i : Nat, f ≤ i ∧ i ≤ f + c ∧ z = .int .i64 i ∧ OwnInts wr w.heap.size o (mapTo (wV fs gs) i) ∧ (∀ j, j < i → wE fs gs j = 0) ∧ Below w.heap.size w wr ∧ Blk wr wo.heap.size #[.int .i64 f, .int .i64 c] 52) (fun _ z _ => (f + c) - (intOf z).toNat)
      case atStart => exact ⟨f, by omega, by omega, rfl, HOA.out, HN.out, gA, BXA.out⟩
      case round =>
        clear HOA BXA HN
        obtain ⟨i, hi1, hi2, rfl, hown, hno, hbr, hbx⟩ := hrel
        have HO := Lib.hid hown
        have HN := Lib.hid hno
        have BX := Lib.hid hbx
        have lx := hbx.lt
        obtain ⟨x0, x1⟩ := hbx.cells2
        have si := hbr.size
        clear hown hno hbx c0 c1
        by_cases hlt2 : i < f + c
        · have qd : decide ((i : Int) < (f : Int) + (c : Int)) = true := by simp; omega
          have hin : i < n := by omega
          obtain ⟨b, off, po, pc, rfl, lb, s0, s1, s2, fv⟩ := (HV.out.ext hbr).cellAt (j := i) (by rw [LN.out]; exact hin)
          have HFI := Lib.hid fv
          rcases Nat.eq_or_lt_of_le hi1 with hif | hif
          · have HBI : Hid (begB gs i = true) := by show _ = _; rw [← hif]; exact HBY.out
            have CI := Lib.hid (fun x w h => pinner_any x (fs.getD i Fr.nought) w h)
            have HEE : Hid (wE fs gs i = innE (fs.getD i Fr.nought)) := by show _ = _; unfold wE; rw [HBI.out]; rfl
            have HZ0 : Hid (wV fs gs i = 64 + innV (fs.getD i Fr.nought) * 2) := by show _ = _; unfold wV; rw [HBI.out]; rfl
            obtain ⟨z1, z2⟩ := innV_bd (fs.getD i Fr.nought)
            have qe : ((i : Int) == (f : Int)) = true := by simp; omega
            clear fv hif
            generalize hFF : fs.getD i Fr.nought = fi at *
            clear hFF
            generalize innV fi = z0 at *
            generalize innE fi = ee at *
            have qz : IntKind.i64.wrap (z0 * 2) = z0 * 2 := IntWalk.i64_in _ (by omega)
            go_wp2_with fail
            clear s0 s1 s2 x0 x1
            refine (CI.out _ _ (HFI.out.ext (by go_grown))).mono ?_
            rintro e w5 ⟨rfl, hb5⟩
            have j5 : Below wr.heap.size wr w5 := ext (by go_grown) hb5
            obtain ⟨zz, hzz⟩ : ∃ zz, z0 * 2 = zz := ⟨_, rfl⟩
            have HZZ : Hid (wV fs gs i = 64 + zz) := by show _ = _; rw [HZ0.out, hzz]
            have zb : 0 ≤ zz ∧ zz ≤ 522240 := by omega
            obtain ⟨zb1, zb2⟩ := zb
            rw [hzz] at qz
            have qz2 : IntKind.i64.wrap (z0 * 2) = zz := by rw [hzz]; exact qz
            clear qz hzz
            have g5 : Below w.heap.size w w5 := hbr.trans (j5.mono hbr.size)
            have s5 := g5.size
            have HO5 := Lib.hid (HO.out.ext j5)
            have BX5 := Lib.hid (BX.out.ext j5)
            clear HO BX
            by_cases hee : ee = 0
            · have HN1 : Hid (∀ j, j < i + 1 → wE fs gs j = 0) := by
                intro j hj
                rcases Nat.lt_or_ge j i with h | h
                · exact HN.out j h
                · obtain rfl : j = i := by omega
                  rw [HEE.out]; exact hee
              subst hee
              have qa : IntKind.i64.wrap (64 + zz) = 64 + zz := IntWalk.i64_in _ (by omega)
              go_wp2_with (at_builtin; refine wpList_app1 rfl (.tmp 67) (.tmp 70) rfl w.heap.size _ _ (64 + zz) rfl HO5.out rfl (by simp) (by unfold in64; omega) (by rw [length_mapTo]; omega) (by omega) ?_)
              intro v' w' hown' hb' hg'
              have BX6 := Lib.hid (BX5.out.grown hg' (blk_ne BX5.out HO5.out.1 (by decide)))
              have g6 := g5.trans hb'
              go_wp2
              go_roundw
              case rel => exact ⟨i + 1, by omega, by omega, by go_num, by rw [mapTo_succ, HZZ.out]; exact hown', HN1.out, g6, BX6.out⟩
              case measure => simp [intOf]; omega
            · have q0 : (ee == 0) = false := by rw [beq_eq_false_iff_ne]; exact hee
              have HNZ := Lib.hid hee
              clear hee
              go_wp2_with fail
              refine (pin_code _ _ ee HNZ.out _).mono ?_
              rintro e w6 ⟨bb, rfl, hblk, hbb, hb6⟩
              have g6 : Below w.heap.size w w6 := ext g5 hb6
              go_wp2
              go_returns
              exact .inr ⟨i, by rw [LN.out]; exact hin, HN.out, by rw [HEE.out]; exact HNZ.out, bb, rfl, by rw [HEE.out]; exact hblk, by omega, g6⟩
          · have HBI : Hid (begB gs i = false) := HBN.out i hif hlt2
            obtain ⟨p, hpi⟩ : ∃ p, i = p + 1 := ⟨i - 1, by omega⟩
            have hip : i - 1 = p := by omega
            have qi : IntKind.i64.wrap ((i : Int) - 1) = (p : Int) := by rw [IntWalk.i64_in _ (by omega)]; omega
            have hp1 : (0 : Int) ≤ (p : Int) := by omega
            have hp2 : (p : Int) < (n : Int) := by omega
            have hpn : p < n := by omega
            have qe : ((i : Int) == (f : Int)) = false := by rw [beq_eq_false_iff_ne]; omega
            have CO := Lib.hid (fun x y w h1 h2 => pouter_any x y (fs.getD i Fr.nought) (fs.getD p Fr.nought) w h1 h2)
            have HEE : Hid (wE fs gs i = unlE (fs.getD i Fr.nought) (fs.getD p Fr.nought)) := by show _ = _; unfold wE frA; rw [HBI.out, hip]; rfl
            have HZZ : Hid (wV fs gs i = 64 + outV (fs.getD i Fr.nought) (fs.getD p Fr.nought)) := by show _ = _; unfold wV frA; rw [HBI.out, hip]; rfl
            obtain ⟨z1, z2⟩ := outV_bd (fs.getD i Fr.nought) (fs.getD p Fr.nought)
            have z3 := (innV_bd (fs.getD i Fr.nought)).2
            obtain ⟨bq, offq, qo, qc, eq, lbq, r0, r1, r2, fvq⟩ := (HV.out.ext hbr).cellAt (j := p) (by rw [LN.out]; exact hpn)
            obtain ⟨rfl, rfl⟩ : b = bq ∧ off = offq := by simpa using eq
            have HFP := Lib.hid fvq
            clear fv fvq eq lbq hpi hip
            generalize fs.getD i Fr.nought = fi at *
            generalize fs.getD p Fr.nought = fp at *
            generalize outV fi fp = zz at *
            generalize unlE fi fp = ee at *
            generalize innV fi = zi at *
            have S6 := Lib.hid (And.intro s0 (And.intro s1 (And.intro s2 (And.intro r0 (And.intro r1 r2)))))
            go_wp2
            clear x0 x1
            go_region_held3 (fun w' => w'.cell? ⟨b, off + i * 3, none⟩ = some (.int .i64 fi.W) ∧ w'.cell? ⟨b, off + i * 3 + 1, none⟩ = some (.int .i64 fi.H) ∧ w'.cell? ⟨b, off + i * 3 + 2, none⟩ = some (.slice po fi.pix.length pc) ∧ w'.cell? ⟨b, off + p * 3, none⟩ = some (.int .i64 fp.W) ∧ w'.cell? ⟨b, off + p * 3 + 1, none⟩ = some (.int .i64 fp.H) ∧ w'.cell? ⟨b, off + p * 3 + 2, none⟩ = some (.slice qo fp.pix.length qc))
              (first | with_reducible exact S65.out | with_reducible exact S6.out | with_reducible exact six_drew2 S6.out | go_keep)
              (first | (go_at_call 12; refine (CO.out _ _ _ ?_ ?_).mono ?_; exact HFI.out; exact HFP.out; rintro e w5 ⟨rfl, hb5⟩; have S65 := Lib.hid (six_ext2 hb5 S6.out)))
            have j5 : Below wr.heap.size wr w5 := by first | exact hb5 | exact below_undrew hb5
            clear s0 s1 s2 r0 r1 r2 S6 hb5
            have g5 : Below w.heap.size w w5 := hbr.trans (j5.mono hbr.size)
            have s5 := g5.size
            have HO5 := Lib.hid (HO.out.ext j5)
            have BX5 := Lib.hid (BX.out.ext j5)
            clear HO BX
            by_cases hee : ee = 0
            · have HN1 : Hid (∀ j, j < i + 1 → wE fs gs j = 0) := by
                intro j hj
                rcases Nat.lt_or_ge j i with h | h
                · exact HN.out j h
                · obtain rfl : j = i := by omega
                  rw [HEE.out]; exact hee
              subst hee
              have qa : IntKind.i64.wrap (64 + zz) = 64 + zz := IntWalk.i64_in _ (by omega)
              go_wp2_with (at_builtin; refine wpList_app1 rfl (.tmp 67) (.tmp 70) rfl w.heap.size _ _ (64 + zz) rfl HO5.out rfl (by simp) (by unfold in64; omega) (by rw [length_mapTo]; omega) (by omega) ?_)
              intro v' w' hown' hb' hg'
              have BX6 := Lib.hid (BX5.out.grown hg' (blk_ne BX5.out HO5.out.1 (by decide)))
              have g6 := g5.trans hb'
              go_wp2
              go_roundw
              case rel => exact ⟨i + 1, by omega, by omega, by go_num, by rw [mapTo_succ, HZZ.out]; exact hown', HN1.out, g6, BX6.out⟩
              case measure => simp [intOf]; omega
            · have q0 : (ee == 0) = false := by rw [beq_eq_false_iff_ne]; exact hee
              have HNZ := Lib.hid hee
              clear hee
              go_wp2_with fail
              refine (pin_code _ _ ee HNZ.out _).mono ?_
              rintro e w6 ⟨bb, rfl, hblk, hbb, hb6⟩
              have g6 : Below w.heap.size w w6 := ext g5 hb6
              go_wp2
              go_returns
              exact .inr ⟨i, by rw [LN.out]; exact hin, HN.out, by rw [HEE.out]; exact HNZ.out, bb, rfl, by rw [HEE.out]; exact hblk, by omega, g6⟩
        · obtain rfl : i = f + c := by omega
          have qd : decide (((f + c : Nat) : Int) < (f : Int) + (c : Int)) = false := by simp
          have qd2 : decide ((f : Int) + (c : Int) < (f : Int) + (c : Int)) = false := by simp
          go_wp2
          go_roundw
          case rel => exact ⟨k + 1, f + c, by omega, by go_num, HF2.out, HO.out, HN.out, hbr⟩
          case measure => simp [intOf]; omega
    · have ek : k = L := by omega
      have hfn : f = n := by
        have h1 := HAL.out
        rw [LG.out, LN.out, ← ek] at h1
        omega
      have HZ : Hid (∀ j, j < fs.length → wE fs gs j = 0) := fun j hj => HN.out j (by rw [LN.out] at hj; omega)
      have HO2 := Lib.hid (show OwnInts wr w.heap.size _ (mapTo (wV fs gs) fs.length) from by rw [LN.out, ← hfn]; exact HO.out)
      clear ek hf hfn HO HN
      go_wp2
      go_returns
      exact .inl ⟨HZ.out, _, rfl, HO2.out, hbr⟩
end Go.Proofs.YtmdpfjjbehpnbaaDoor
