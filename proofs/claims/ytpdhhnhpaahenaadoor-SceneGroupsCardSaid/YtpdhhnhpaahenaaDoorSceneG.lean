/- scene.Groups: its contract. -/
import Derived.Test.YtpdhhnhpaahenaaDoorSceneV
import Derived.Deep.DeepCutAuto
set_option linter.unusedSimpArgs false
set_option linter.unusedVariables false
namespace Go.Proofs.YtpdhhnhpaahenaaDoor
open Go.RowKit Go.Extern.Stop Go.Stop Go.Extern

theorem pin_code (s : Array UInt8) (i k : Int) (hk : k ≠ 0) (w : World) :
    Calls Tryd.prog 27 #[.string ⟨s⟩, .int .i64 i, errV k] w fun e w' => ∃ b, e = .returned (.iface 69 (.pointer (some ⟨b, 0, none⟩))) ∧ Blk w' b (faultC s i k) 72 ∧ w.heap.size ≤ b ∧ Below w.heap.size w w' := by
  rw [errV_ne hk]; exact pin_any s i k w
theorem six_ext {A w5 : World} (hb : Below A.heap.size A w5) {b o0 o1 o2 N : Nat} {x0 x1 x2 y0 y1 y2 : Value}
    (h : A.cell? ⟨b, o0, none⟩ = some x0 ∧ A.cell? ⟨b, o1, none⟩ = some x1 ∧ A.cell? ⟨b, o2, none⟩ = some x2 ∧ A.cell? ⟨N, 0, none⟩ = some y0 ∧ A.cell? ⟨N, 1, none⟩ = some y1 ∧ A.cell? ⟨N, 2, none⟩ = some y2) :
    w5.cell? ⟨b, o0, none⟩ = some x0 ∧ w5.cell? ⟨b, o1, none⟩ = some x1 ∧ w5.cell? ⟨b, o2, none⟩ = some x2 ∧ w5.cell? ⟨N, 0, none⟩ = some y0 ∧ w5.cell? ⟨N, 1, none⟩ = some y1 ∧ w5.cell? ⟨N, 2, none⟩ = some y2 := by
  have k : ∀ {p : Addr} {x : Value}, A.cell? p = some x → w5.cell? p = some x := fun {p x} hp => (hb.cell (World.block_lt_of_cell? A p hp)).trans hp
  exact ⟨k h.1, k h.2.1, k h.2.2.1, k h.2.2.2.1, k h.2.2.2.2.1, k h.2.2.2.2.2⟩
theorem six_drew {A : World} {b o0 o1 o2 N : Nat} {x0 x1 x2 y0 y1 y2 : Value}
    (h : A.cell? ⟨b, o0, none⟩ = some x0 ∧ A.cell? ⟨b, o1, none⟩ = some x1 ∧ A.cell? ⟨b, o2, none⟩ = some x2 ∧ A.cell? ⟨N, 0, none⟩ = some y0 ∧ A.cell? ⟨N, 1, none⟩ = some y1 ∧ A.cell? ⟨N, 2, none⟩ = some y2) :
    A.drew.cell? ⟨b, o0, none⟩ = some x0 ∧ A.drew.cell? ⟨b, o1, none⟩ = some x1 ∧ A.drew.cell? ⟨b, o2, none⟩ = some x2 ∧ A.drew.cell? ⟨N, 0, none⟩ = some y0 ∧ A.drew.cell? ⟨N, 1, none⟩ = some y1 ∧ A.drew.cell? ⟨N, 2, none⟩ = some y2 := h
/-- What scene.Groups answers where cut and gop and the number of frames may be. -/
def GrpPost (fs : List Fr) (cut gop : Int) (w : World) (e : Ending) (w' : World) : Prop :=
  ((∀ j, j < fs.length → ueA fs j = 0) ∧ ∃ v', e = .returned (.tuple #[v', .nilIface]) ∧ OwnG w' w.heap.size v' (grpTo fs cut gop fs.length) ∧ Below w.heap.size w w') ∨
  (∃ i, i < fs.length ∧ (∀ j, j < i → ueA fs j = 0) ∧ ueA fs i ≠ 0 ∧ ∃ b, e = .returned (.tuple #[.slice none 0 0, .iface 69 (.pointer (some ⟨b, 0, none⟩))]) ∧ Blk w' b (faultC #[115, 99, 101, 110, 101] i (ueA fs i)) 72 ∧ w.heap.size ≤ b ∧ Below w.heap.size w w')
set_option maxRecDepth 100000 in
theorem pgrp_r0 (v : Value) (fs : List Fr) (cut gop : Int) (w : World) (hv : Frames w v fs) (h0 : cut < 0) :
    Calls Tryd.prog 14 #[v, .int .i64 cut, .int .i64 gop] w fun e w' => e = .returned (.tuple #[.slice none 0 0, .iface 32 (.int .i64 3)]) ∧ Below w.heap.size w w' := by
  have hl := hv.len
  obtain ⟨ao, cap, rfl⟩ := hv.shape
  clear hv
  generalize fs.length = n at *
  go_enter Tryd.func14, Tryd.ntmps14
  go_wp2
  go_returns
  exact ⟨rfl, by first | exact Below.refl _ _ | go_grown⟩
set_option maxRecDepth 100000 in
theorem pgrp_r1 (v : Value) (fs : List Fr) (cut gop : Int) (w : World) (hv : Frames w v fs) (h0 : 0 ≤ cut) (h1 : 16320 < cut) :
    Calls Tryd.prog 14 #[v, .int .i64 cut, .int .i64 gop] w fun e w' => e = .returned (.tuple #[.slice none 0 0, .iface 32 (.int .i64 3)]) ∧ Below w.heap.size w w' := by
  have hl := hv.len
  obtain ⟨ao, cap, rfl⟩ := hv.shape
  clear hv
  generalize fs.length = n at *
  go_enter Tryd.func14, Tryd.ntmps14
  go_wp2
  go_returns
  exact ⟨rfl, by first | exact Below.refl _ _ | go_grown⟩
set_option maxRecDepth 100000 in
theorem pgrp_r2 (v : Value) (fs : List Fr) (cut gop : Int) (w : World) (hv : Frames w v fs) (h0 : 0 ≤ cut) (h1 : cut ≤ 16320) (h2 : gop < 1) :
    Calls Tryd.prog 14 #[v, .int .i64 cut, .int .i64 gop] w fun e w' => e = .returned (.tuple #[.slice none 0 0, .iface 32 (.int .i64 3)]) ∧ Below w.heap.size w w' := by
  have hl := hv.len
  obtain ⟨ao, cap, rfl⟩ := hv.shape
  clear hv
  generalize fs.length = n at *
  go_enter Tryd.func14, Tryd.ntmps14
  go_wp2
  go_returns
  exact ⟨rfl, by first | exact Below.refl _ _ | go_grown⟩
set_option maxRecDepth 100000 in
theorem pgrp_r3 (v : Value) (fs : List Fr) (cut gop : Int) (w : World) (hv : Frames w v fs) (h0 : 0 ≤ cut) (h1 : cut ≤ 16320) (h2 : 1 ≤ gop) (h3 : 16 < gop) :
    Calls Tryd.prog 14 #[v, .int .i64 cut, .int .i64 gop] w fun e w' => e = .returned (.tuple #[.slice none 0 0, .iface 32 (.int .i64 3)]) ∧ Below w.heap.size w w' := by
  have hl := hv.len
  obtain ⟨ao, cap, rfl⟩ := hv.shape
  clear hv
  generalize fs.length = n at *
  go_enter Tryd.func14, Tryd.ntmps14
  go_wp2
  go_returns
  exact ⟨rfl, by first | exact Below.refl _ _ | go_grown⟩
set_option maxRecDepth 100000 in
theorem pgrp_f0 (v : Value) (fs : List Fr) (cut gop : Int) (w : World) (hv : Frames w v fs) (h0 : 0 ≤ cut) (h1 : cut ≤ 16320) (h2 : 1 ≤ gop) (h3 : gop ≤ 16) (h4 : fs.length = 0) :
    Calls Tryd.prog 14 #[v, .int .i64 cut, .int .i64 gop] w fun e w' => e = .returned (.tuple #[.slice none 0 0, .iface 32 (.int .i64 2)]) ∧ Below w.heap.size w w' := by
  have hl := hv.len
  obtain ⟨ao, cap, rfl⟩ := hv.shape
  clear hv
  generalize fs.length = n at *
  go_enter Tryd.func14, Tryd.ntmps14
  go_wp2
  go_returns
  exact ⟨rfl, by first | exact Below.refl _ _ | go_grown⟩
set_option maxRecDepth 100000 in
theorem pgrp_f1 (v : Value) (fs : List Fr) (cut gop : Int) (w : World) (hv : Frames w v fs) (h0 : 0 ≤ cut) (h1 : cut ≤ 16320) (h2 : 1 ≤ gop) (h3 : gop ≤ 16) (h4 : 16 < fs.length) :
    Calls Tryd.prog 14 #[v, .int .i64 cut, .int .i64 gop] w fun e w' => e = .returned (.tuple #[.slice none 0 0, .iface 32 (.int .i64 2)]) ∧ Below w.heap.size w w' := by
  have hl := hv.len
  obtain ⟨ao, cap, rfl⟩ := hv.shape
  clear hv
  generalize fs.length = n at *
  go_enter Tryd.func14, Tryd.ntmps14
  go_wp2
  go_returns
  exact ⟨rfl, by first | exact Below.refl _ _ | go_grown⟩
theorem argE_three {cut gop : Int} {n : Nat} (h : ¬ (0 ≤ cut ∧ cut ≤ 16320 ∧ 1 ≤ gop ∧ gop ≤ 16)) : argE cut gop n = 3 := by unfold argE; rw [if_neg h]
theorem argE_two {cut gop : Int} {n : Nat} (h : 0 ≤ cut ∧ cut ≤ 16320 ∧ 1 ≤ gop ∧ gop ≤ 16) (h2 : n = 0 ∨ 16 < n) : argE cut gop n = 2 := by unfold argE; rw [if_pos h, if_pos h2]
theorem argE_zero {cut gop : Int} {n : Nat} (h : argE cut gop n = 0) : (0 ≤ cut ∧ cut ≤ 16320 ∧ 1 ≤ gop ∧ gop ≤ 16) ∧ 1 ≤ n ∧ n ≤ 16 := by
  unfold argE at h
  split at h
  · rename_i h1
    split at h
    · omega
    · exact ⟨h1, by omega, by omega⟩
  · omega
theorem pgrp_arg (v : Value) (fs : List Fr) (cut gop : Int) (w : World) (hv : Frames w v fs) (he : argE cut gop fs.length ≠ 0) :
    Calls Tryd.prog 14 #[v, .int .i64 cut, .int .i64 gop] w fun e w' => e = .returned (.tuple #[.slice none 0 0, errV (argE cut gop fs.length)]) ∧ Below w.heap.size w w' := by
  by_cases h : 0 ≤ cut ∧ cut ≤ 16320 ∧ 1 ≤ gop ∧ gop ≤ 16
  · have h2 : fs.length = 0 ∨ 16 < fs.length := by
      unfold argE at he; rw [if_pos h] at he
      by_cases h2 : fs.length = 0 ∨ 16 < fs.length
      · exact h2
      · rw [if_neg h2] at he; exact absurd rfl he
    rw [argE_two h h2, errV_ne (by decide)]
    obtain ⟨a1, a2, a3, a4⟩ := h
    rcases h2 with h2 | h2
    · exact pgrp_f0 v fs cut gop w hv a1 a2 a3 a4 h2
    · exact pgrp_f1 v fs cut gop w hv a1 a2 a3 a4 h2
  · rw [argE_three h, errV_ne (by decide)]
    by_cases a1 : cut < 0
    · exact pgrp_r0 v fs cut gop w hv a1
    by_cases a2 : 16320 < cut
    · exact pgrp_r1 v fs cut gop w hv (by omega) a2
    by_cases a3 : gop < 1
    · exact pgrp_r2 v fs cut gop w hv (by omega) (by omega) a3
    exact pgrp_r3 v fs cut gop w hv (by omega) (by omega) (by omega) (by omega)

theorem stepG_nil {cut gop : Int} {g : List (Int × Int)} {i : Nat} {u : Int} (h : g.length = 0) : stepG cut gop g i u = g ++ [((i : Int), 1)] := by
  unfold stepG joins; rw [h]; rfl
theorem stepG_add {cut gop : Int} {g : List (Int × Int)} {i : Nat} {u : Int} (h : cut < u ∨ gop ≤ (lastG g).2) : stepG cut gop g i u = g ++ [((i : Int), 1)] := by
  unfold stepG
  rw [if_neg]
  unfold joins
  simp only [Bool.and_eq_true, decide_eq_true_eq]
  omega
theorem stepG_join {cut gop : Int} {g : List (Int × Int)} {i m : Nat} {u : Int} (hm : g.length = m + 1) (h1 : u ≤ cut) (h2 : (g.getD m (0, 0)).2 < gop) : stepG cut gop g i u = g.set m ((g.getD m (0, 0)).1, (g.getD m (0, 0)).2 + 1) := by
  have e : lastG g = g.getD m (0, 0) := by unfold lastG; rw [hm]; rfl
  have hj : joins cut gop g u = true := by unfold joins; rw [e, hm]; simp only [Bool.and_eq_true, decide_eq_true_eq]; omega
  unfold stepG
  rw [if_pos hj, e, hm]; rfl

set_option maxRecDepth 100000 in
set_option maxHeartbeats 16000000 in
theorem pgrp_go (v : Value) (fs : List Fr) (cut gop : Int) (w : World) (hv : Frames w v fs) (h0 : 0 ≤ cut) (h1 : cut ≤ 16320) (h2 : 1 ≤ gop) (h3 : gop ≤ 16) (n : Nat) (hn : fs.length = n) (h4 : 1 ≤ n) (h5 : n ≤ 16) :
    Calls Tryd.prog 14 #[v, .int .i64 cut, .int .i64 gop] w fun e w' => GrpPost fs cut gop w e w' := by
  have HV := Lib.hid hv
  have HI := Lib.hid (ginv fs (cut := cut) h2)
  obtain ⟨ao, cap, rfl⟩ := hv.shapeN hn
  have LN := Lib.hid hn
  have qn : ((n : Int) == 0) = false := by rw [beq_eq_false_iff_ne]; omega
  clear hv hn
  go_enter Tryd.func14, Tryd.ntmps14
  go_wp2
  go_loopw [8, 42] (fun g i wr => ∃ k : Nat, k ≤ n ∧ i = .int .i64 k ∧ (∀ j, j < k → ueA fs j = 0) ∧ OwnG wr w.heap.size g (grpTo fs cut gop k) ∧ Below w.heap.size w wr) (fun _ i _ => n - (intOf i).toNat)
  case atStart => exact ⟨0, Nat.zero_le _, rfl, fun j h => by omega, OwnG.nil _ _, Below.refl _ _⟩
  case round =>
    obtain ⟨k, hk, rfl, hno, hown, hb⟩ := hrel
    have HN := Lib.hid hno
    have HO := Lib.hid hown
    clear hno hown
    by_cases hlt : k < n
    · rcases Nat.eq_zero_or_pos k with hk0 | hk0
      · have HK0 := Lib.hid hk0
        have hkp : k - 1 = 0 := by omega
        have qk : IntKind.i64.wrap ((k : Int) - 1) = -1 := by rw [hk0]; rfl
        clear hk0
        obtain ⟨b, off, po, pc, rfl, lb, c0, c1, c2, fv⟩ := (HV.out.ext hb).cellAt (j := k) (by rw [LN.out]; omega)
        obtain ⟨bp, offp, pp, ppc, ep, lbp, x0, x1, x2, fvp⟩ := (HV.out.ext hb).cellAt (j := 0) (by rw [LN.out]; omega)
        obtain ⟨rfl, rfl⟩ : b = bp ∧ off = offp := by simpa using ep
        simp only [Nat.zero_mul, Nat.add_zero] at x0 x1 x2
        have HFK := Lib.hid fv
        have HFP := Lib.hid fvp
        have CU := Lib.hid (fun v u w h1 h2 => punl_any v u (fs.getD (0) Fr.nought) (fs.getD (k) Fr.nought) w h1 h2)
        have HEU : Hid (ueA fs (k) = unlE (fs.getD (0) Fr.nought) (fs.getD (k) Fr.nought)) := by show _ = _; unfold ueA frA; rw [hkp]
        have HES : Hid (grpTo fs cut gop (k + 1) = stepG cut gop (grpTo fs cut gop (k)) (k) (unlV (fs.getD (0) Fr.nought) (fs.getD (k) Fr.nought))) := by show _ = _; rw [grpTo_succ]; unfold uvA frA; rw [hkp]
        have HGI := Lib.hid (HI.out (k))
        have hpn : 0 < n := by omega
        clear hkp
        obtain ⟨u1, u2⟩ := unlV_bd (fs.getD (0) Fr.nought) (fs.getD (k) Fr.nought)
        clear fv fvp ep
        generalize hAA : fs.getD (k) Fr.nought = fk at *
        generalize hBB : fs.getD (0) Fr.nought = fp at *
        clear hAA hBB
        generalize unlV fp fk = u at *
        generalize unlE fp fk = ee at *
        have BX := Lib.hid (Blk.new wr #[.int .i64 fk.W, .int .i64 fk.H, .slice po fk.pix.length pc] 24)
        have jA : Below wr.heap.size wr (wr.alloc (.cells #[.int .i64 fk.W, .int .i64 fk.H, .slice po fk.pix.length pc] 24)) := by go_grown
        have gA := hb.trans (jA.mono hb.size)
        have S6 := Lib.hid (show (wr.alloc (.cells #[.int .i64 fk.W, .int .i64 fk.H, .slice po fk.pix.length pc] 24)).cell? ⟨b, off, none⟩ = some (.int .i64 fp.W) ∧ (wr.alloc (.cells #[.int .i64 fk.W, .int .i64 fk.H, .slice po fk.pix.length pc] 24)).cell? ⟨b, off + 1, none⟩ = some (.int .i64 fp.H) ∧ (wr.alloc (.cells #[.int .i64 fk.W, .int .i64 fk.H, .slice po fk.pix.length pc] 24)).cell? ⟨b, off + 2, none⟩ = some (.slice pp fp.pix.length ppc) ∧ (wr.alloc (.cells #[.int .i64 fk.W, .int .i64 fk.H, .slice po fk.pix.length pc] 24)).cell? ⟨wr.heap.size, 0, none⟩ = some (.int .i64 fk.W) ∧ (wr.alloc (.cells #[.int .i64 fk.W, .int .i64 fk.H, .slice po fk.pix.length pc] 24)).cell? ⟨wr.heap.size, 1, none⟩ = some (.int .i64 fk.H) ∧ (wr.alloc (.cells #[.int .i64 fk.W, .int .i64 fk.H, .slice po fk.pix.length pc] 24)).cell? ⟨wr.heap.size, 2, none⟩ = some (.slice po fk.pix.length pc) from ⟨(jA.cell (p := ⟨b, _, none⟩) lb).trans x0, (jA.cell (p := ⟨b, _, none⟩) lb).trans x1, (jA.cell (p := ⟨b, _, none⟩) lb).trans x2, BX.out.cell 0, BX.out.cell 1, BX.out.cell 2⟩)
        have HOA := Lib.hid (HO.out.ext jA)
        have HFKA := Lib.hid (HFK.out.ext jA)
        have HFPA := Lib.hid (HFP.out.ext jA)
        have sA := jA.size
        have sB := hb.size
        clear x0 x1 x2
        go_wp2
        obtain ⟨x0, x1, x2, d0, d1, d2⟩ := S6.out
        go_region_held3 (fun w' => w'.cell? ⟨b, off, none⟩ = some (.int .i64 fp.W) ∧ w'.cell? ⟨b, off + 1, none⟩ = some (.int .i64 fp.H) ∧ w'.cell? ⟨b, off + 2, none⟩ = some (.slice pp fp.pix.length ppc) ∧ w'.cell? ⟨wr.heap.size, 0, none⟩ = some (.int .i64 fk.W) ∧ w'.cell? ⟨wr.heap.size, 1, none⟩ = some (.int .i64 fk.H) ∧ w'.cell? ⟨wr.heap.size, 2, none⟩ = some (.slice po fk.pix.length pc))
          (first | with_reducible exact S65.out | with_reducible exact S6.out | with_reducible exact six_drew S6.out | go_keep)
          (first | (go_at_call 10; refine (CU.out _ _ _ ?_ ?_).mono ?_; exact HFPA.out; exact HFKA.out; rintro e w5 ⟨rfl, hb5⟩; have S65 := Lib.hid (six_ext hb5 S6.out)))
        have j5 : Below (wr.alloc (.cells #[.int .i64 fk.W, .int .i64 fk.H, .slice po fk.pix.length pc] 24)).heap.size (wr.alloc (.cells #[.int .i64 fk.W, .int .i64 fk.H, .slice po fk.pix.length pc] 24)) w5 := by first | exact hb5 | exact below_undrew hb5
        have g5 : Below w.heap.size w w5 := gA.trans (j5.mono (Nat.le_trans sB sA))
        have s5 := j5.size
        have HO5 := Lib.hid (HOA.out.ext j5)
        clear c0 c1 c2 x0 x1 x2 d0 d1 d2 S6 HOA HFKA HFPA HFK HFP BX CU HO hb5
        have u3 : -9223372036854775808 ≤ u := by omega
        by_cases hee : ee = 0
        · have HN1 : Hid (∀ j, j < k + 1 → ueA fs j = 0) := by
            intro j hj
            rcases Nat.lt_or_ge j k with h | h
            · exact HN.out j h
            · obtain rfl : j = k := by omega
              rw [HEU.out]; exact hee
          subst hee
          have HL0 : Hid ((grpTo fs cut gop k).length = 0) := by have h1 := HGI.out.le; have h2 := HK0.out; show _ = 0; omega
          obtain ⟨vo, vc, rfl⟩ := HO5.out.shapeN HL0.out
          go_wp2_with (at_builtin; refine wpList_row1 41 50 2 16 _ undG infoG rfl (by decide) rfl (.tmp 90) (.tmp 93) rfl w.heap.size _ _ _ [.int .i64 (k : Int), .int .i64 1] rfl HO5.out.1 rfl (by simp) rfl (by intro u hu; simp at hu; rcases hu with rfl | rfl <;> rfl) (by have := HGI.out.le; omega) (by decide) (by omega) ?_)
          intro v' w' hown' hb' _ _
          go_wp2
          go_roundw
          case rel => exact ⟨k + 1, by omega, by go_num, HN1.out, by rw [HES.out, stepG_nil HL0.out]; exact OwnG.app hown' HO5.out.2 (by unfold in64; omega) (by unfold in64; omega), g5.trans hb'⟩
          case measure => simp [intOf]; omega
        · have q0 : (ee == 0) = false := by rw [beq_eq_false_iff_ne]; exact hee
          have HEE := Lib.hid hee
          clear hee
          go_wp2_with fail
          refine (pin_code _ _ ee HEE.out _).mono ?_
          rintro e w6 ⟨bb, rfl, hblk, hbb, hb6⟩
          have g6 : Below w.heap.size w w6 := ext g5 hb6
          go_wp2
          go_returns
          exact .inr ⟨k, by rw [LN.out]; exact hlt, HN.out, by rw [HEU.out]; exact HEE.out, bb, rfl, by rw [HEU.out]; exact hblk, by omega, g6⟩
      · obtain ⟨p, hp⟩ : ∃ p, k = p + 1 := ⟨k - 1, by omega⟩
        have hkp : k - 1 = p := by omega
        have qk : IntKind.i64.wrap ((k : Int) - 1) = p := by rw [IntWalk.i64_in _ (by omega)]; omega
        clear hp
        have hp0 : ¬ (p : Int) < 0 := by omega
        have hp1 : (0 : Int) ≤ (p : Int) := by omega
        have hp4 : (if (0 : Int) > (p : Int) then (0 : Int) else (p : Int)) = (p : Int) := if_neg (by omega)
        have hp2 : (p : Int) < (n : Int) := by omega
        obtain ⟨b, off, po, pc, rfl, lb, c0, c1, c2, fv⟩ := (HV.out.ext hb).cellAt (j := k) (by rw [LN.out]; omega)
        obtain ⟨bp, offp, pp, ppc, ep, lbp, x0, x1, x2, fvp⟩ := (HV.out.ext hb).cellAt (j := p) (by rw [LN.out]; omega)
        obtain ⟨rfl, rfl⟩ : b = bp ∧ off = offp := by simpa using ep
        have HFK := Lib.hid fv
        have HFP := Lib.hid fvp
        have CU := Lib.hid (fun v u w h1 h2 => punl_any v u (fs.getD (p) Fr.nought) (fs.getD (k) Fr.nought) w h1 h2)
        have HEU : Hid (ueA fs (k) = unlE (fs.getD (p) Fr.nought) (fs.getD (k) Fr.nought)) := by show _ = _; unfold ueA frA; rw [hkp]
        have HES : Hid (grpTo fs cut gop (k + 1) = stepG cut gop (grpTo fs cut gop (k)) (k) (unlV (fs.getD (p) Fr.nought) (fs.getD (k) Fr.nought))) := by show _ = _; rw [grpTo_succ]; unfold uvA frA; rw [hkp]
        have HGI := Lib.hid (HI.out (k))
        have hpn : p < n := by omega
        clear hkp
        obtain ⟨u1, u2⟩ := unlV_bd (fs.getD (p) Fr.nought) (fs.getD (k) Fr.nought)
        clear fv fvp ep
        generalize hAA : fs.getD (k) Fr.nought = fk at *
        generalize hBB : fs.getD (p) Fr.nought = fp at *
        clear hAA hBB
        generalize unlV fp fk = u at *
        generalize unlE fp fk = ee at *
        have BX := Lib.hid (Blk.new wr #[.int .i64 fk.W, .int .i64 fk.H, .slice po fk.pix.length pc] 24)
        have jA : Below wr.heap.size wr (wr.alloc (.cells #[.int .i64 fk.W, .int .i64 fk.H, .slice po fk.pix.length pc] 24)) := by go_grown
        have gA := hb.trans (jA.mono hb.size)
        have S6 := Lib.hid (show (wr.alloc (.cells #[.int .i64 fk.W, .int .i64 fk.H, .slice po fk.pix.length pc] 24)).cell? ⟨b, off + p * 3, none⟩ = some (.int .i64 fp.W) ∧ (wr.alloc (.cells #[.int .i64 fk.W, .int .i64 fk.H, .slice po fk.pix.length pc] 24)).cell? ⟨b, off + p * 3 + 1, none⟩ = some (.int .i64 fp.H) ∧ (wr.alloc (.cells #[.int .i64 fk.W, .int .i64 fk.H, .slice po fk.pix.length pc] 24)).cell? ⟨b, off + p * 3 + 2, none⟩ = some (.slice pp fp.pix.length ppc) ∧ (wr.alloc (.cells #[.int .i64 fk.W, .int .i64 fk.H, .slice po fk.pix.length pc] 24)).cell? ⟨wr.heap.size, 0, none⟩ = some (.int .i64 fk.W) ∧ (wr.alloc (.cells #[.int .i64 fk.W, .int .i64 fk.H, .slice po fk.pix.length pc] 24)).cell? ⟨wr.heap.size, 1, none⟩ = some (.int .i64 fk.H) ∧ (wr.alloc (.cells #[.int .i64 fk.W, .int .i64 fk.H, .slice po fk.pix.length pc] 24)).cell? ⟨wr.heap.size, 2, none⟩ = some (.slice po fk.pix.length pc) from ⟨(jA.cell (p := ⟨b, _, none⟩) lb).trans x0, (jA.cell (p := ⟨b, _, none⟩) lb).trans x1, (jA.cell (p := ⟨b, _, none⟩) lb).trans x2, BX.out.cell 0, BX.out.cell 1, BX.out.cell 2⟩)
        have HOA := Lib.hid (HO.out.ext jA)
        have HFKA := Lib.hid (HFK.out.ext jA)
        have HFPA := Lib.hid (HFP.out.ext jA)
        have sA := jA.size
        have sB := hb.size
        clear x0 x1 x2
        go_wp2
        obtain ⟨x0, x1, x2, d0, d1, d2⟩ := S6.out
        go_region_held3 (fun w' => w'.cell? ⟨b, off + p * 3, none⟩ = some (.int .i64 fp.W) ∧ w'.cell? ⟨b, off + p * 3 + 1, none⟩ = some (.int .i64 fp.H) ∧ w'.cell? ⟨b, off + p * 3 + 2, none⟩ = some (.slice pp fp.pix.length ppc) ∧ w'.cell? ⟨wr.heap.size, 0, none⟩ = some (.int .i64 fk.W) ∧ w'.cell? ⟨wr.heap.size, 1, none⟩ = some (.int .i64 fk.H) ∧ w'.cell? ⟨wr.heap.size, 2, none⟩ = some (.slice po fk.pix.length pc))
          (first | with_reducible exact S65.out | with_reducible exact S6.out | with_reducible exact six_drew S6.out | go_keep)
          (first | (go_at_call 10; refine (CU.out _ _ _ ?_ ?_).mono ?_; exact HFPA.out; exact HFKA.out; rintro e w5 ⟨rfl, hb5⟩; have S65 := Lib.hid (six_ext hb5 S6.out)))
        have j5 : Below (wr.alloc (.cells #[.int .i64 fk.W, .int .i64 fk.H, .slice po fk.pix.length pc] 24)).heap.size (wr.alloc (.cells #[.int .i64 fk.W, .int .i64 fk.H, .slice po fk.pix.length pc] 24)) w5 := by first | exact hb5 | exact below_undrew hb5
        have g5 : Below w.heap.size w w5 := gA.trans (j5.mono (Nat.le_trans sB sA))
        have s5 := j5.size
        have HO5 := Lib.hid (HOA.out.ext j5)
        clear c0 c1 c2 x0 x1 x2 d0 d1 d2 S6 HOA HFKA HFPA HFK HFP BX CU HO hb5
        have u3 : -9223372036854775808 ≤ u := by omega
        by_cases hee : ee = 0
        · have HN1 : Hid (∀ j, j < k + 1 → ueA fs j = 0) := by
            intro j hj
            rcases Nat.lt_or_ge j k with h | h
            · exact HN.out j h
            · obtain rfl : j = k := by omega
              rw [HEU.out]; exact hee
          subst hee
          obtain ⟨m, hm⟩ : ∃ m, (grpTo fs cut gop k).length = m + 1 := ⟨(grpTo fs cut gop k).length - 1, by have := HGI.out.pos (by omega); omega⟩
          have HM := Lib.hid hm
          have hm16 : m < 16 := by have := HGI.out.le; omega
          obtain ⟨g, gc, rfl, hg1, hg2, y0, y1, hfz⟩ := HO5.out.atN hm
          obtain ⟨cb1, cb2⟩ := HGI.out.cnt m (by omega)
          have f1 := hfz (m * 2 + 1)
          clear hm hfz y0
          have qm : IntKind.i64.wrap (((m + 1 : Nat) : Int) - 1) = m := by rw [IntWalk.i64_in _ (by omega)]; omega
          have HSJ := Lib.hid (fun hu hc => stepG_join (cut := cut) (gop := gop) (g := grpTo fs cut gop k) (i := k) (u := u) HM.out hu hc)
          have HSA := Lib.hid (fun h => stepG_add (cut := cut) (gop := gop) (g := grpTo fs cut gop k) (i := k) (u := u) h)
          have HLG : Hid (lastG (grpTo fs cut gop k) = (grpTo fs cut gop k).getD m (0, 0)) := by show _ = _; unfold lastG; rw [HM.out]; rfl
          generalize hc : ((grpTo fs cut gop k).getD m (0, 0)).2 = c at *
          have HC := Lib.hid hc
          clear hc
          by_cases hu : u ≤ cut
          · by_cases hcg : c < gop
            · have qc : IntKind.i64.wrap (c + 1) = c + 1 := IntWalk.i64_in _ (by omega)
              go_wp2
              go_roundw
              case rel => exact ⟨k + 1, by omega, by go_num, HN1.out, by rw [HES.out, HSJ.out hu hcg]; exact HO5.out.setN HM.out (c + 1) (by unfold in64; omega), g5.setCell hg1 _⟩
              case measure => simp [intOf]; omega
            · have HX := Lib.hid (HSA.out (.inr (by rw [HLG.out, HC.out]; omega)))
              go_wp2_with (at_builtin; refine wpList_row1 41 50 2 16 _ undG infoG rfl (by decide) rfl (.tmp 90) (.tmp 93) rfl w.heap.size _ _ _ [.int .i64 (k : Int), .int .i64 1] rfl HO5.out.1 rfl (by simp) rfl (by intro u hu; simp at hu; rcases hu with rfl | rfl <;> rfl) (by have := HGI.out.le; omega) (by decide) (by omega) ?_)
              intro v' w' hown' hb' _ _
              go_wp2
              go_roundw
              case rel => exact ⟨k + 1, by omega, by go_num, HN1.out, by rw [HES.out, HX.out]; exact OwnG.app hown' HO5.out.2 (by unfold in64; omega) (by unfold in64; omega), g5.trans hb'⟩
              case measure => simp [intOf]; omega
          · have HX := Lib.hid (HSA.out (.inl (by omega)))
            go_wp2_with (at_builtin; refine wpList_row1 41 50 2 16 _ undG infoG rfl (by decide) rfl (.tmp 90) (.tmp 93) rfl w.heap.size _ _ _ [.int .i64 (k : Int), .int .i64 1] rfl HO5.out.1 rfl (by simp) rfl (by intro u hu; simp at hu; rcases hu with rfl | rfl <;> rfl) (by have := HGI.out.le; omega) (by decide) (by omega) ?_)
            intro v' w' hown' hb' _ _
            go_wp2
            go_roundw
            case rel => exact ⟨k + 1, by omega, by go_num, HN1.out, by rw [HES.out, HX.out]; exact OwnG.app hown' HO5.out.2 (by unfold in64; omega) (by unfold in64; omega), g5.trans hb'⟩
            case measure => simp [intOf]; omega
        · have q0 : (ee == 0) = false := by rw [beq_eq_false_iff_ne]; exact hee
          have HEE := Lib.hid hee
          clear hee
          go_wp2_with fail
          refine (pin_code _ _ ee HEE.out _).mono ?_
          rintro e w6 ⟨bb, rfl, hblk, hbb, hb6⟩
          have g6 : Below w.heap.size w w6 := ext g5 hb6
          go_wp2
          go_returns
          exact .inr ⟨k, by rw [LN.out]; exact hlt, HN.out, by rw [HEU.out]; exact HEE.out, bb, rfl, by rw [HEU.out]; exact hblk, by omega, g6⟩
    · have ek : k = n := by omega
      have HE : Hid (grpTo fs cut gop fs.length = grpTo fs cut gop k) := by show _ = _; rw [LN.out, ek]
      have HZ : Hid (∀ j, j < fs.length → ueA fs j = 0) := fun j hj => HN.out j (by rw [LN.out] at hj; omega)
      clear ek
      go_wp2
      go_returns
      exact .inl ⟨HZ.out, _, rfl, by rw [HE.out]; exact HO.out, hb⟩
theorem pgrp_any (v : Value) (fs : List Fr) (cut gop : Int) (w : World) (hv : Frames w v fs) (h : argE cut gop fs.length = 0) :
    Calls Tryd.prog 14 #[v, .int .i64 cut, .int .i64 gop] w fun e w' => GrpPost fs cut gop w e w' := by
  obtain ⟨⟨a1, a2, a3, a4⟩, a5, a6⟩ := argE_zero h
  exact pgrp_go v fs cut gop w hv a1 a2 a3 a4 _ rfl a5 a6
end Go.Proofs.YtpdhhnhpaahenaaDoor
