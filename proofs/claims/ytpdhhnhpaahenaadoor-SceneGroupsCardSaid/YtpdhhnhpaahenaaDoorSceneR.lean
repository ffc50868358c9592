/- kinref16.Groups: its contract. -/
import Derived.Test.YtpdhhnhpaahenaaDoorSceneG
import Derived.Test.YtpdhhnhpaahenaaDoorErrQ
import Derived.Test.YtpdhhnhpaahenaaDoorFramesC
set_option linter.unusedSimpArgs false
set_option linter.unusedVariables false
namespace Go.Proofs.YtpdhhnhpaahenaaDoor
open Go.RowKit Go.Extern.Stop Go.Stop Go.Extern

/-- What kinref16.Groups answers where cut and gop and the number of frames may be. -/
def RGrpPost (fs : List Fr) (cut gop : Int) (w : World) (e : Ending) (w' : World) : Prop :=
  ((∀ j, j < fs.length → ueA fs j = 0) ∧ ∃ v', e = .returned (.tuple #[v', .agg #[.int .i64 0, .slice none 0 0]]) ∧ OwnG w' w.heap.size v' (grpTo fs cut gop fs.length) ∧ Below w.heap.size w w') ∨
  (∃ i, i < fs.length ∧ (∀ j, j < i → ueA fs j = 0) ∧ ueA fs i ≠ 0 ∧ ∃ p, e = .returned (.tuple #[.slice none 0 0, .agg #[.int .i64 (ueA fs i), p]]) ∧ PathV w' p #[115, 99, 101, 110, 101] i ∧ Below w.heap.size w w')
set_option maxRecDepth 100000 in
theorem rgrp_r0 (v : Value) (fs : List Fr) (cut gop : Int) (w : World) (hv : Frames w v fs) (h0 : cut < 0) :
    Calls Tryd.prog 15 #[v, .int .i64 cut, .int .i64 gop] w fun e w' => e = .returned (.tuple #[.slice none 0 0, .agg #[.int .i64 3, .slice none 0 0]]) ∧ Below w.heap.size w w' := by
  have hl := hv.len
  obtain ⟨ao, cap, rfl⟩ := hv.shape
  clear hv
  generalize fs.length = n at *
  go_enter Tryd.func15, Tryd.ntmps15
  go_wp2_with (go_at_call 20; refine (fail_any _ _).mono ?_; rintro e w1 ⟨rfl, hb1⟩; have BR := (Blk.new w #[.int .i64 0, .slice none 0 0] 35).ext hb1; obtain ⟨r0, r1, r2, r3⟩ := BR.two; have lr := BR.lt; clear BR; have j1 : Below w.heap.size w w1 := ext (by go_grown) hb1)
  refine bodyPost_ret (by simp [results, Tryd.results15, go_sem, r0, r1, r2, r3]; try rfl) rfl ?_
  exact ⟨rfl, by first | exact (j1.setCell (Nat.le_refl _) _).setCell (Nat.le_refl _) _⟩
set_option maxRecDepth 100000 in
theorem rgrp_r1 (v : Value) (fs : List Fr) (cut gop : Int) (w : World) (hv : Frames w v fs) (h0 : 0 ≤ cut) (h1 : 16320 < cut) :
    Calls Tryd.prog 15 #[v, .int .i64 cut, .int .i64 gop] w fun e w' => e = .returned (.tuple #[.slice none 0 0, .agg #[.int .i64 3, .slice none 0 0]]) ∧ Below w.heap.size w w' := by
  have hl := hv.len
  obtain ⟨ao, cap, rfl⟩ := hv.shape
  clear hv
  generalize fs.length = n at *
  go_enter Tryd.func15, Tryd.ntmps15
  go_wp2_with (go_at_call 20; refine (fail_any _ _).mono ?_; rintro e w1 ⟨rfl, hb1⟩; have BR := (Blk.new w #[.int .i64 0, .slice none 0 0] 35).ext hb1; obtain ⟨r0, r1, r2, r3⟩ := BR.two; have lr := BR.lt; clear BR; have j1 : Below w.heap.size w w1 := ext (by go_grown) hb1)
  refine bodyPost_ret (by simp [results, Tryd.results15, go_sem, r0, r1, r2, r3]; try rfl) rfl ?_
  exact ⟨rfl, by first | exact (j1.setCell (Nat.le_refl _) _).setCell (Nat.le_refl _) _⟩
set_option maxRecDepth 100000 in
theorem rgrp_r2 (v : Value) (fs : List Fr) (cut gop : Int) (w : World) (hv : Frames w v fs) (h0 : 0 ≤ cut) (h1 : cut ≤ 16320) (h2 : gop < 1) :
    Calls Tryd.prog 15 #[v, .int .i64 cut, .int .i64 gop] w fun e w' => e = .returned (.tuple #[.slice none 0 0, .agg #[.int .i64 3, .slice none 0 0]]) ∧ Below w.heap.size w w' := by
  have hl := hv.len
  obtain ⟨ao, cap, rfl⟩ := hv.shape
  clear hv
  generalize fs.length = n at *
  go_enter Tryd.func15, Tryd.ntmps15
  go_wp2_with (go_at_call 20; refine (fail_any _ _).mono ?_; rintro e w1 ⟨rfl, hb1⟩; have BR := (Blk.new w #[.int .i64 0, .slice none 0 0] 35).ext hb1; obtain ⟨r0, r1, r2, r3⟩ := BR.two; have lr := BR.lt; clear BR; have j1 : Below w.heap.size w w1 := ext (by go_grown) hb1)
  refine bodyPost_ret (by simp [results, Tryd.results15, go_sem, r0, r1, r2, r3]; try rfl) rfl ?_
  exact ⟨rfl, by first | exact (j1.setCell (Nat.le_refl _) _).setCell (Nat.le_refl _) _⟩
set_option maxRecDepth 100000 in
theorem rgrp_r3 (v : Value) (fs : List Fr) (cut gop : Int) (w : World) (hv : Frames w v fs) (h0 : 0 ≤ cut) (h1 : cut ≤ 16320) (h2 : 1 ≤ gop) (h3 : 16 < gop) :
    Calls Tryd.prog 15 #[v, .int .i64 cut, .int .i64 gop] w fun e w' => e = .returned (.tuple #[.slice none 0 0, .agg #[.int .i64 3, .slice none 0 0]]) ∧ Below w.heap.size w w' := by
  have hl := hv.len
  obtain ⟨ao, cap, rfl⟩ := hv.shape
  clear hv
  generalize fs.length = n at *
  go_enter Tryd.func15, Tryd.ntmps15
  go_wp2_with (go_at_call 20; refine (fail_any _ _).mono ?_; rintro e w1 ⟨rfl, hb1⟩; have BR := (Blk.new w #[.int .i64 0, .slice none 0 0] 35).ext hb1; obtain ⟨r0, r1, r2, r3⟩ := BR.two; have lr := BR.lt; clear BR; have j1 : Below w.heap.size w w1 := ext (by go_grown) hb1)
  refine bodyPost_ret (by simp [results, Tryd.results15, go_sem, r0, r1, r2, r3]; try rfl) rfl ?_
  exact ⟨rfl, by first | exact (j1.setCell (Nat.le_refl _) _).setCell (Nat.le_refl _) _⟩
set_option maxRecDepth 100000 in
theorem rgrp_f0 (v : Value) (fs : List Fr) (cut gop : Int) (w : World) (hv : Frames w v fs) (h0 : 0 ≤ cut) (h1 : cut ≤ 16320) (h2 : 1 ≤ gop) (h3 : gop ≤ 16) (h4 : fs.length = 0) :
    Calls Tryd.prog 15 #[v, .int .i64 cut, .int .i64 gop] w fun e w' => e = .returned (.tuple #[.slice none 0 0, .agg #[.int .i64 2, .slice none 0 0]]) ∧ Below w.heap.size w w' := by
  have hl := hv.len
  obtain ⟨ao, cap, rfl⟩ := hv.shape
  clear hv
  generalize fs.length = n at *
  go_enter Tryd.func15, Tryd.ntmps15
  go_wp2_with (go_at_call 20; refine (fail_any _ _).mono ?_; rintro e w1 ⟨rfl, hb1⟩; have BR := (Blk.new w #[.int .i64 0, .slice none 0 0] 35).ext hb1; obtain ⟨r0, r1, r2, r3⟩ := BR.two; have lr := BR.lt; clear BR; have j1 : Below w.heap.size w w1 := ext (by go_grown) hb1)
  refine bodyPost_ret (by simp [results, Tryd.results15, go_sem, r0, r1, r2, r3]; try rfl) rfl ?_
  exact ⟨rfl, by first | exact (j1.setCell (Nat.le_refl _) _).setCell (Nat.le_refl _) _⟩
set_option maxRecDepth 100000 in
theorem rgrp_f1 (v : Value) (fs : List Fr) (cut gop : Int) (w : World) (hv : Frames w v fs) (h0 : 0 ≤ cut) (h1 : cut ≤ 16320) (h2 : 1 ≤ gop) (h3 : gop ≤ 16) (h4 : 16 < fs.length) :
    Calls Tryd.prog 15 #[v, .int .i64 cut, .int .i64 gop] w fun e w' => e = .returned (.tuple #[.slice none 0 0, .agg #[.int .i64 2, .slice none 0 0]]) ∧ Below w.heap.size w w' := by
  have hl := hv.len
  obtain ⟨ao, cap, rfl⟩ := hv.shape
  clear hv
  generalize fs.length = n at *
  go_enter Tryd.func15, Tryd.ntmps15
  go_wp2_with (go_at_call 20; refine (fail_any _ _).mono ?_; rintro e w1 ⟨rfl, hb1⟩; have BR := (Blk.new w #[.int .i64 0, .slice none 0 0] 35).ext hb1; obtain ⟨r0, r1, r2, r3⟩ := BR.two; have lr := BR.lt; clear BR; have j1 : Below w.heap.size w w1 := ext (by go_grown) hb1)
  refine bodyPost_ret (by simp [results, Tryd.results15, go_sem, r0, r1, r2, r3]; try rfl) rfl ?_
  exact ⟨rfl, by first | exact (j1.setCell (Nat.le_refl _) _).setCell (Nat.le_refl _) _⟩
theorem rgrp_arg (v : Value) (fs : List Fr) (cut gop : Int) (w : World) (hv : Frames w v fs) (he : argE cut gop fs.length ≠ 0) :
    Calls Tryd.prog 15 #[v, .int .i64 cut, .int .i64 gop] w fun e w' => e = .returned (.tuple #[.slice none 0 0, .agg #[.int .i64 (argE cut gop fs.length), .slice none 0 0]]) ∧ Below w.heap.size w w' := by
  by_cases h : 0 ≤ cut ∧ cut ≤ 16320 ∧ 1 ≤ gop ∧ gop ≤ 16
  · have h2 : fs.length = 0 ∨ 16 < fs.length := by
      unfold argE at he; rw [if_pos h] at he
      by_cases h2 : fs.length = 0 ∨ 16 < fs.length
      · exact h2
      · rw [if_neg h2] at he; exact absurd rfl he
    rw [argE_two h h2]
    obtain ⟨a1, a2, a3, a4⟩ := h
    rcases h2 with h2 | h2
    · exact rgrp_f0 v fs cut gop w hv a1 a2 a3 a4 h2
    · exact rgrp_f1 v fs cut gop w hv a1 a2 a3 a4 h2
  · rw [argE_three h]
    by_cases a1 : cut < 0
    · exact rgrp_r0 v fs cut gop w hv a1
    by_cases a2 : 16320 < cut
    · exact rgrp_r1 v fs cut gop w hv (by omega) a2
    by_cases a3 : gop < 1
    · exact rgrp_r2 v fs cut gop w hv (by omega) (by omega) a3
    exact rgrp_r3 v fs cut gop w hv (by omega) (by omega) (by omega) (by omega)

theorem six2_far {A : World} {b o0 o1 o2 p0 p1 p2 E : Nat} {x0 x1 x2 y0 y1 y2 : Value} (hne : b ≠ E)
    (h : A.cell? ⟨b, o0, none⟩ = some x0 ∧ A.cell? ⟨b, o1, none⟩ = some x1 ∧ A.cell? ⟨b, o2, none⟩ = some x2 ∧ A.cell? ⟨b, p0, none⟩ = some y0 ∧ A.cell? ⟨b, p1, none⟩ = some y1 ∧ A.cell? ⟨b, p2, none⟩ = some y2) (u v : Value) :
    ((A.setCell ⟨E, 0, none⟩ u).setCell ⟨E, 1, none⟩ v).cell? ⟨b, o0, none⟩ = some x0 ∧ ((A.setCell ⟨E, 0, none⟩ u).setCell ⟨E, 1, none⟩ v).cell? ⟨b, o1, none⟩ = some x1 ∧ ((A.setCell ⟨E, 0, none⟩ u).setCell ⟨E, 1, none⟩ v).cell? ⟨b, o2, none⟩ = some x2 ∧
    ((A.setCell ⟨E, 0, none⟩ u).setCell ⟨E, 1, none⟩ v).cell? ⟨b, p0, none⟩ = some y0 ∧ ((A.setCell ⟨E, 0, none⟩ u).setCell ⟨E, 1, none⟩ v).cell? ⟨b, p1, none⟩ = some y1 ∧ ((A.setCell ⟨E, 0, none⟩ u).setCell ⟨E, 1, none⟩ v).cell? ⟨b, p2, none⟩ = some y2 :=
  ⟨far2 hne h.1, far2 hne h.2.1, far2 hne h.2.2.1, far2 hne h.2.2.2.1, far2 hne h.2.2.2.2.1, far2 hne h.2.2.2.2.2⟩
theorem grown1 {w : World} (o : Obj) : Below w.heap.size w (w.alloc o) := by go_grown
theorem OwnG.set2 {w : World} {b : Nat} {v : Value} {gs : List (Int × Int)} (h : OwnG w (b + 1) v gs) (x y : Value) : OwnG ((w.setCell ⟨b, 0, none⟩ x).setCell ⟨b, 1, none⟩ y) (b + 1) v gs :=
  ⟨ownsRow_setCell_below (ownsRow_setCell_below h.1 (by show b < b + 1; omega) x) (by show b < b + 1; omega) y, h.2⟩
theorem PathV.set {w : World} {g cap : Nat} {s : Array UInt8} {i : Int} (h : PathV w (.slice (some ⟨g, 0, none⟩) 1 cap) s i) {b : Nat} (hb : g ≠ b) (x y : Value) : PathV ((w.setCell ⟨b, 0, none⟩ x).setCell ⟨b, 1, none⟩ y) (.slice (some ⟨g, 0, none⟩) 1 cap) s i := by
  obtain ⟨g', cap', e, hl, h0, h1⟩ := h
  obtain ⟨rfl, rfl⟩ : g = g' ∧ cap = cap' := by simpa using e
  exact ⟨g, cap, rfl, by simpa using hl, far2 hb h0, far2 hb h1⟩
set_option maxRecDepth 100000 in
set_option maxHeartbeats 16000000 in
theorem rgrp_go (v : Value) (fs : List Fr) (cut gop : Int) (w : World) (hv : Frames w v fs) (h0 : 0 ≤ cut) (h1 : cut ≤ 16320) (h2 : 1 ≤ gop) (h3 : gop ≤ 16) (n : Nat) (hn : fs.length = n) (h4 : 1 ≤ n) (h5 : n ≤ 16) :
    Calls Tryd.prog 15 #[v, .int .i64 cut, .int .i64 gop] w fun e w' => RGrpPost fs cut gop w e w' := by
  have HV := Lib.hid hv
  have HI := Lib.hid (ginv fs (cut := cut) h2)
  obtain ⟨ao, cap, rfl⟩ := hv.shapeN hn
  have LN := Lib.hid hn
  have qn : ((n : Int) == 0) = false := by rw [beq_eq_false_iff_ne]; omega
  clear hv hn
  go_enter Tryd.func15, Tryd.ntmps15
  go_wp2
  go_loopw [8, 9] (fun g i wr => ∃ k : Nat, k ≤ n ∧ i = .int .i64 k ∧ (∀ j, j < k → ueA fs j = 0) ∧ OwnG wr (w.heap.size + 1) g (grpTo fs cut gop k) ∧ Blk wr w.heap.size #[.int .i64 0, .slice none 0 0] 35 ∧ Below w.heap.size w wr) (fun _ i _ => n - (intOf i).toNat)
  case atStart => exact ⟨0, Nat.zero_le _, rfl, fun j h => by omega, OwnG.nil _ _, Blk.new _ _ _, by go_grown⟩
  case round =>
    obtain ⟨k, hk, rfl, hno, hown, hres, hb⟩ := hrel
    have HN := Lib.hid hno
    have HO := Lib.hid hown
    have BR := Lib.hid hres
    clear hno hown hres
    by_cases hlt : k < n
    · rcases Nat.eq_zero_or_pos k with hk0 | hk0
      · have HK0 := Lib.hid hk0
        have hkp : k - 1 = 0 := by omega
        have qk : IntKind.i64.wrap ((k : Int) - 1) = -1 := by rw [hk0]; rfl
        clear hk0
        obtain ⟨b, off, po, pc, rfl, lb, c0, c1, c2, fv⟩ := (HV.out.ext hb).cellAt (j := k) (by rw [LN.out]; omega)
        obtain ⟨bp, offp, pp, ppc, ep, lbp, x0, x1, x2, fvp⟩ := (HV.out.ext hb).cellAt (j := 0) (by rw [LN.out]; omega)
        obtain ⟨rfl, rfl⟩ : b = bp ∧ off = offp := by simpa using ep
        simp only [Nat.zero_mul, Nat.add_zero] at x0 x1 x2
        have HFK := Lib.hid fv
        have HFP := Lib.hid fvp
        have CU := Lib.hid (fun v u w h1 h2 => runl_any v u (fs.getD (0) Fr.nought) (fs.getD (k) Fr.nought) w h1 h2)
        have HEU : Hid (ueA fs (k) = unlE (fs.getD (0) Fr.nought) (fs.getD (k) Fr.nought)) := by show _ = _; unfold ueA frA; rw [hkp]
        have HES : Hid (grpTo fs cut gop (k + 1) = stepG cut gop (grpTo fs cut gop (k)) (k) (unlV (fs.getD (0) Fr.nought) (fs.getD (k) Fr.nought))) := by show _ = _; rw [grpTo_succ]; unfold uvA frA; rw [hkp]
        have HGI := Lib.hid (HI.out (k))
        have hpn : 0 < n := by omega
        clear hkp
        obtain ⟨u1, u2⟩ := unlV_bd (fs.getD (0) Fr.nought) (fs.getD (k) Fr.nought)
        clear fv fvp ep
        generalize hAA : fs.getD (k) Fr.nought = fk at *
        generalize hBB : fs.getD (0) Fr.nought = fp at *
        clear hAA hBB
        generalize unlV fp fk = u at *
        generalize unlE fp fk = ee at *
        have S6 := Lib.hid (show wr.cell? ⟨b, off, none⟩ = some (.int .i64 fp.W) ∧ wr.cell? ⟨b, off + 1, none⟩ = some (.int .i64 fp.H) ∧ wr.cell? ⟨b, off + 2, none⟩ = some (.slice pp fp.pix.length ppc) ∧ wr.cell? ⟨b, off + k * 3, none⟩ = some (.int .i64 fk.W) ∧ wr.cell? ⟨b, off + k * 3 + 1, none⟩ = some (.int .i64 fk.H) ∧ wr.cell? ⟨b, off + k * 3 + 2, none⟩ = some (.slice po fk.pix.length pc) from ⟨x0, x1, x2, c0, c1, c2⟩)
        have sB := hb.size
        have hne : b ≠ wr.heap.size := Nat.ne_of_lt lb
        have SA := Lib.hid (six2_ext (grown1 (.cells #[.int .i64 0, .slice none 0 0] 35)) S6.out)
        go_wp2
        go_region_held3 (fun w' => w'.cell? ⟨b, off, none⟩ = some (.int .i64 fp.W) ∧ w'.cell? ⟨b, off + 1, none⟩ = some (.int .i64 fp.H) ∧ w'.cell? ⟨b, off + 2, none⟩ = some (.slice pp fp.pix.length ppc) ∧ w'.cell? ⟨b, off + k * 3, none⟩ = some (.int .i64 fk.W) ∧ w'.cell? ⟨b, off + k * 3 + 1, none⟩ = some (.int .i64 fk.H) ∧ w'.cell? ⟨b, off + k * 3 + 2, none⟩ = some (.slice po fk.pix.length pc))
          (first | with_reducible exact S65.out | with_reducible exact S66.out | with_reducible exact S67.out | with_reducible exact S68.out | with_reducible exact S6.out | with_reducible exact SA.out | go_keep)
          (first | (go_at_call 11; refine (CU.out _ _ _ ?_ ?_).mono ?_; exact HFP.out.ext (by go_grown); exact HFK.out.ext (by go_grown); rintro e w5 ⟨rfl, hb5⟩; have j5 : Below wr.heap.size wr w5 := (ext (by go_grown) hb5); have S65 := Lib.hid (six2_ext j5 S6.out); (try (have eb : Below (wr.alloc (.cells #[.int .i64 0, .slice none 0 0] 35)).heap.size (wr.alloc (.cells #[.int .i64 0, .slice none 0 0] 35)) w5 := (by first | exact hb5 | exact below_undrew hb5); obtain ⟨e0, e1, e2, e3⟩ := ((Blk.new wr #[.int .i64 0, .slice none 0 0] 35).ext eb).two)); have S68 := Lib.hid (six2_far hne S65.out (.int .i64 ee) (.slice none 0 0)); have S66 := Lib.hid (six2_ext (grown1 (.cells #[.int .i64 0, .slice none 0 0] 35)) S65.out); have S67 := Lib.hid (six2_ext (grown1 (.cells #[.int .i64 ee, .slice none 0 0] 35)) S65.out)))
        all_goals (first
          | (have eb2 := eb
             have KB := Lib.hid (((Blk.new wr #[.int .i64 0, .slice none 0 0] 35).ext eb2).set2 (.int .i64 ee) (.slice none 0 0))
             have k6 : Below wr.heap.size wr ((w5.setCell ⟨wr.heap.size, 0, none⟩ (.int .i64 ee)).setCell ⟨wr.heap.size, 1, none⟩ (.slice none 0 0)) := (j5.setCell (Nat.le_refl _) _).setCell (Nat.le_refl _) _
             clear e0 e1 e2 e3 eb eb2
             generalize hW : (w5.setCell ⟨wr.heap.size, 0, none⟩ (.int .i64 ee)).setCell ⟨wr.heap.size, 1, none⟩ (.slice none 0 0) = W6 at KB k6 ⊢
             generalize hE : wr.heap.size = E at KB ⊢
             have lE : wr.heap.size ≤ E := Nat.le_of_eq hE)
          | (have KB := Lib.hid (Blk.new w5 #[.int .i64 ee, .slice none 0 0] 35)
             have k6 : Below wr.heap.size wr (w5.alloc (.cells #[.int .i64 ee, .slice none 0 0] 35)) := ext j5 (grown1 _)
             generalize hW : w5.alloc (.cells #[.int .i64 ee, .slice none 0 0] 35) = W6 at KB k6 ⊢
             generalize hE : w5.heap.size = E at KB ⊢
             have lE : wr.heap.size ≤ E := hE ▸ j5.size))
        all_goals clear hW hE
        all_goals
          have HO5 := Lib.hid (HO.out.ext k6)
          have BR5 := Lib.hid (BR.out.ext k6)
          have g6 : Below w.heap.size w W6 := ext hb k6
          have s5 := g6.size
          have s7 : w.heap.size < W6.heap.size := BR5.out.lt
          have s4 : w.heap.size < E := Nat.lt_of_lt_of_le BR.out.lt lE
          have u3 : -9223372036854775808 ≤ u := by omega
          clear c0 c1 c2 x0 x1 x2 S6 S65 S66 S67 S68 SA HFK HFP CU HO hb5 BR j5 k6
          obtain ⟨y0, y1, -, -⟩ := KB.out.two
          by_cases hee : ee = 0
          · have HN1 : Hid (∀ j, j < k + 1 → ueA fs j = 0) := by
              intro j hj
              rcases Nat.lt_or_ge j k with h | h
              · exact HN.out j h
              · obtain rfl : j = k := by omega
                rw [HEU.out]; exact hee
            subst hee
            go_wp2_with fail
            refine (ok_zero _ _).mono ?_
            rintro e w7 ⟨rfl, hb7⟩
            have HO7 := Lib.hid (HO5.out.ext hb7)
            have BR7 := Lib.hid (BR5.out.ext hb7)
            have g7 := ext g6 hb7
            have s8 := g7.size
            have s9 : w.heap.size < w7.heap.size := BR7.out.lt
            clear y0 y1 HO5 BR5 KB hb7
            have HL0 : Hid ((grpTo fs cut gop k).length = 0) := by have h1 := HGI.out.le; have h2 := HK0.out; show _ = 0; omega
            obtain ⟨vo, vc, rfl⟩ := HO7.out.shapeN HL0.out
            go_wp2_with (at_builtin; refine wpList_row1 41 50 2 16 _ undG infoG rfl (by decide) rfl (.tmp 82) (.tmp 85) rfl (w.heap.size + 1) _ _ _ [.int .i64 (k : Int), .int .i64 1] rfl HO7.out.1 rfl (by simp) rfl (by intro u hu; simp at hu; rcases hu with rfl | rfl <;> rfl) (by have := HGI.out.le; omega) (by decide) (by omega) ?_)
            intro v' w' hown' hb' _ _
            have BR9 := Lib.hid (BR7.out.below hb' (Nat.lt_succ_self _))
            have g9 := g7.trans (hb'.mono (Nat.le_succ _))
            go_wp2
            go_roundw
            case rel => exact ⟨k + 1, by omega, by go_num, HN1.out, by rw [HES.out, stepG_nil HL0.out]; exact OwnG.app hown' HO7.out.2 (by unfold in64; omega) (by unfold in64; omega), BR9.out, g9⟩
            case measure => simp [intOf]; omega
          · have q0 : (ee == 0) = false := by rw [beq_eq_false_iff_ne]; exact hee
            have HEE := Lib.hid hee
            clear hee
            go_wp2_with fail
            refine (ok_ne ee q0 _ _).mono ?_
            rintro e w7 ⟨rfl, hb7⟩
            have BR7 := Lib.hid (BR5.out.ext hb7)
            have g7 := ext g6 hb7
            have z0 := (hb7.cell (p := ⟨E, 0, none⟩) KB.out.lt).trans y0
            have z1 := (hb7.cell (p := ⟨E, 1, none⟩) KB.out.lt).trans y1
            clear y0 y1 BR5 HO5
            go_wp2_with fail
            refine (rin_any _ _ ee q0 _).mono ?_
            rintro e w8 ⟨ga, rfl, hpv, lga, hb8⟩
            have BR8 := BR7.out.ext hb8
            obtain ⟨r0, r1, r2, r3⟩ := BR8.two
            have lr := BR8.lt
            have g8 := ext g7 hb8
            have HPV := Lib.hid hpv
            have s9 : w.heap.size < w7.heap.size := BR7.out.lt
            have nga : ga ≠ w.heap.size := by omega
            clear s9
            clear hpv lga
            clear z0 z1 BR8 hb7 hb8
            go_wp2
            refine bodyPost_ret (by simp [results, Tryd.results15, go_sem, r0, r1, r2, r3, lr]; try rfl) rfl ?_
            exact .inr ⟨k, by rw [LN.out]; exact hlt, HN.out, by rw [HEU.out]; exact HEE.out, _, by rw [HEU.out], HPV.out.set nga _ _, (g8.setCell (Nat.le_refl _) _).setCell (Nat.le_refl _) _⟩
      · obtain ⟨p, hp⟩ : ∃ p, k = p + 1 := ⟨k - 1, by omega⟩
        have hkp : k - 1 = p := by omega
        have qk : IntKind.i64.wrap ((k : Int) - 1) = p := by rw [IntWalk.i64_in _ (by omega)]; omega
        clear hp
        have hp0 : ¬ (p : Int) < 0 := by omega
        have hp1 : (0 : Int) ≤ (p : Int) := by omega
        have hp4 : (if (0 : Int) > (p : Int) then (0 : Int) else (p : Int)) = (p : Int) := if_neg (by omega)
        have hp2 : (p : Int) < (n : Int) := by omega
        obtain ⟨b, off, po, pc, rfl, lb, c0, c1, c2, fv⟩ := (HV.out.ext hb).cellAt (j := k) (by rw [LN.out]; omega)
        obtain ⟨bp, offp, pp, ppc, ep, lbp, x0, x1, x2, fvp⟩ := (HV.out.ext hb).cellAt (j := p) (by rw [LN.out]; omega)
        obtain ⟨rfl, rfl⟩ : b = bp ∧ off = offp := by simpa using ep
        have HFK := Lib.hid fv
        have HFP := Lib.hid fvp
        have CU := Lib.hid (fun v u w h1 h2 => runl_any v u (fs.getD (p) Fr.nought) (fs.getD (k) Fr.nought) w h1 h2)
        have HEU : Hid (ueA fs (k) = unlE (fs.getD (p) Fr.nought) (fs.getD (k) Fr.nought)) := by show _ = _; unfold ueA frA; rw [hkp]
        have HES : Hid (grpTo fs cut gop (k + 1) = stepG cut gop (grpTo fs cut gop (k)) (k) (unlV (fs.getD (p) Fr.nought) (fs.getD (k) Fr.nought))) := by show _ = _; rw [grpTo_succ]; unfold uvA frA; rw [hkp]
        have HGI := Lib.hid (HI.out (k))
        have hpn : p < n := by omega
        clear hkp
        obtain ⟨u1, u2⟩ := unlV_bd (fs.getD (p) Fr.nought) (fs.getD (k) Fr.nought)
        clear fv fvp ep
        generalize hAA : fs.getD (k) Fr.nought = fk at *
        generalize hBB : fs.getD (p) Fr.nought = fp at *
        clear hAA hBB
        generalize unlV fp fk = u at *
        generalize unlE fp fk = ee at *
        have S6 := Lib.hid (show wr.cell? ⟨b, off + p * 3, none⟩ = some (.int .i64 fp.W) ∧ wr.cell? ⟨b, off + p * 3 + 1, none⟩ = some (.int .i64 fp.H) ∧ wr.cell? ⟨b, off + p * 3 + 2, none⟩ = some (.slice pp fp.pix.length ppc) ∧ wr.cell? ⟨b, off + k * 3, none⟩ = some (.int .i64 fk.W) ∧ wr.cell? ⟨b, off + k * 3 + 1, none⟩ = some (.int .i64 fk.H) ∧ wr.cell? ⟨b, off + k * 3 + 2, none⟩ = some (.slice po fk.pix.length pc) from ⟨x0, x1, x2, c0, c1, c2⟩)
        have sB := hb.size
        have hne : b ≠ wr.heap.size := Nat.ne_of_lt lb
        have SA := Lib.hid (six2_ext (grown1 (.cells #[.int .i64 0, .slice none 0 0] 35)) S6.out)
        go_wp2
        go_region_held3 (fun w' => w'.cell? ⟨b, off + p * 3, none⟩ = some (.int .i64 fp.W) ∧ w'.cell? ⟨b, off + p * 3 + 1, none⟩ = some (.int .i64 fp.H) ∧ w'.cell? ⟨b, off + p * 3 + 2, none⟩ = some (.slice pp fp.pix.length ppc) ∧ w'.cell? ⟨b, off + k * 3, none⟩ = some (.int .i64 fk.W) ∧ w'.cell? ⟨b, off + k * 3 + 1, none⟩ = some (.int .i64 fk.H) ∧ w'.cell? ⟨b, off + k * 3 + 2, none⟩ = some (.slice po fk.pix.length pc))
          (first | with_reducible exact S65.out | with_reducible exact S66.out | with_reducible exact S67.out | with_reducible exact S68.out | with_reducible exact S6.out | with_reducible exact SA.out | go_keep)
          (first | (go_at_call 11; refine (CU.out _ _ _ ?_ ?_).mono ?_; exact HFP.out.ext (by go_grown); exact HFK.out.ext (by go_grown); rintro e w5 ⟨rfl, hb5⟩; have j5 : Below wr.heap.size wr w5 := (ext (by go_grown) hb5); have S65 := Lib.hid (six2_ext j5 S6.out); (try (have eb : Below (wr.alloc (.cells #[.int .i64 0, .slice none 0 0] 35)).heap.size (wr.alloc (.cells #[.int .i64 0, .slice none 0 0] 35)) w5 := (by first | exact hb5 | exact below_undrew hb5); obtain ⟨e0, e1, e2, e3⟩ := ((Blk.new wr #[.int .i64 0, .slice none 0 0] 35).ext eb).two)); have S68 := Lib.hid (six2_far hne S65.out (.int .i64 ee) (.slice none 0 0)); have S66 := Lib.hid (six2_ext (grown1 (.cells #[.int .i64 0, .slice none 0 0] 35)) S65.out); have S67 := Lib.hid (six2_ext (grown1 (.cells #[.int .i64 ee, .slice none 0 0] 35)) S65.out)))
        all_goals (first
          | (have eb2 := eb
             have KB := Lib.hid (((Blk.new wr #[.int .i64 0, .slice none 0 0] 35).ext eb2).set2 (.int .i64 ee) (.slice none 0 0))
             have k6 : Below wr.heap.size wr ((w5.setCell ⟨wr.heap.size, 0, none⟩ (.int .i64 ee)).setCell ⟨wr.heap.size, 1, none⟩ (.slice none 0 0)) := (j5.setCell (Nat.le_refl _) _).setCell (Nat.le_refl _) _
             clear e0 e1 e2 e3 eb eb2
             generalize hW : (w5.setCell ⟨wr.heap.size, 0, none⟩ (.int .i64 ee)).setCell ⟨wr.heap.size, 1, none⟩ (.slice none 0 0) = W6 at KB k6 ⊢
             generalize hE : wr.heap.size = E at KB ⊢
             have lE : wr.heap.size ≤ E := Nat.le_of_eq hE)
          | (have KB := Lib.hid (Blk.new w5 #[.int .i64 ee, .slice none 0 0] 35)
             have k6 : Below wr.heap.size wr (w5.alloc (.cells #[.int .i64 ee, .slice none 0 0] 35)) := ext j5 (grown1 _)
             generalize hW : w5.alloc (.cells #[.int .i64 ee, .slice none 0 0] 35) = W6 at KB k6 ⊢
             generalize hE : w5.heap.size = E at KB ⊢
             have lE : wr.heap.size ≤ E := hE ▸ j5.size))
        all_goals clear hW hE
        all_goals
          have HO5 := Lib.hid (HO.out.ext k6)
          have BR5 := Lib.hid (BR.out.ext k6)
          have g6 : Below w.heap.size w W6 := ext hb k6
          have s5 := g6.size
          have s7 : w.heap.size < W6.heap.size := BR5.out.lt
          have s4 : w.heap.size < E := Nat.lt_of_lt_of_le BR.out.lt lE
          have u3 : -9223372036854775808 ≤ u := by omega
          clear c0 c1 c2 x0 x1 x2 S6 S65 S66 S67 S68 SA HFK HFP CU HO hb5 BR j5 k6
          obtain ⟨y0, y1, -, -⟩ := KB.out.two
          by_cases hee : ee = 0
          · have HN1 : Hid (∀ j, j < k + 1 → ueA fs j = 0) := by
              intro j hj
              rcases Nat.lt_or_ge j k with h | h
              · exact HN.out j h
              · obtain rfl : j = k := by omega
                rw [HEU.out]; exact hee
            subst hee
            go_wp2_with fail
            refine (ok_zero _ _).mono ?_
            rintro e w7 ⟨rfl, hb7⟩
            have HO7 := Lib.hid (HO5.out.ext hb7)
            have BR7 := Lib.hid (BR5.out.ext hb7)
            have g7 := ext g6 hb7
            have s8 := g7.size
            have s9 : w.heap.size < w7.heap.size := BR7.out.lt
            clear y0 y1 HO5 BR5 KB hb7
            obtain ⟨m, hm⟩ : ∃ m, (grpTo fs cut gop k).length = m + 1 := ⟨(grpTo fs cut gop k).length - 1, by have := HGI.out.pos (by omega); omega⟩
            have HM := Lib.hid hm
            have hm16 : m < 16 := by have := HGI.out.le; omega
            obtain ⟨g, gc, rfl, hg1, hg2, y0, y1, hfz⟩ := HO7.out.atN hm
            obtain ⟨cb1, cb2⟩ := HGI.out.cnt m (by omega)
            have f1 := hfz (m * 2 + 1)
            clear hm hfz y0
            have qm : IntKind.i64.wrap (((m + 1 : Nat) : Int) - 1) = m := by rw [IntWalk.i64_in _ (by omega)]; omega
            have HSJ := Lib.hid (fun hu hc => stepG_join (cut := cut) (gop := gop) (g := grpTo fs cut gop k) (i := k) (u := u) HM.out hu hc)
            have HSA := Lib.hid (fun h => stepG_add (cut := cut) (gop := gop) (g := grpTo fs cut gop k) (i := k) (u := u) h)
            have HLG : Hid (lastG (grpTo fs cut gop k) = (grpTo fs cut gop k).getD m (0, 0)) := by show _ = _; unfold lastG; rw [HM.out]; rfl
            generalize hc : ((grpTo fs cut gop k).getD m (0, 0)).2 = c at *
            have HC := Lib.hid hc
            clear hc
            by_cases hu : u ≤ cut
            · by_cases hcg : c < gop
              · have qc : IntKind.i64.wrap (c + 1) = c + 1 := IntWalk.i64_in _ (by omega)
                have qe : (c == gop) = false := by rw [beq_eq_false_iff_ne]; omega
                have hgn : w.heap.size ≠ g := by omega
                go_wp2
                go_roundw
                case rel => exact ⟨k + 1, by omega, by go_num, HN1.out, by rw [HES.out, HSJ.out hu hcg]; exact HO7.out.setN HM.out (c + 1) (by unfold in64; omega), BR7.out.setOther _ _ hgn, g7.setCell (by show w.heap.size ≤ g; omega) _⟩
                case measure => simp [intOf]; omega
              · have HX := Lib.hid (HSA.out (.inr (by rw [HLG.out, HC.out]; omega)))
                have qe : (c == gop) = true := by rw [beq_iff_eq]; omega
                go_wp2_with (at_builtin; refine wpList_row1 41 50 2 16 _ undG infoG rfl (by decide) rfl (.tmp 82) (.tmp 85) rfl (w.heap.size + 1) _ _ _ [.int .i64 (k : Int), .int .i64 1] rfl HO7.out.1 rfl (by simp) rfl (by intro u hu; simp at hu; rcases hu with rfl | rfl <;> rfl) (by have := HGI.out.le; omega) (by decide) (by omega) ?_)
                intro v' w' hown' hb' _ _
                have BR9 := Lib.hid (BR7.out.below hb' (Nat.lt_succ_self _))
                have g9 := g7.trans (hb'.mono (Nat.le_succ _))
                go_wp2
                go_roundw
                case rel => exact ⟨k + 1, by omega, by go_num, HN1.out, by rw [HES.out, HX.out]; exact OwnG.app hown' HO7.out.2 (by unfold in64; omega) (by unfold in64; omega), BR9.out, g9⟩
                case measure => simp [intOf]; omega
            · have HX := Lib.hid (HSA.out (.inl (by omega)))
              go_wp2_with (at_builtin; refine wpList_row1 41 50 2 16 _ undG infoG rfl (by decide) rfl (.tmp 82) (.tmp 85) rfl (w.heap.size + 1) _ _ _ [.int .i64 (k : Int), .int .i64 1] rfl HO7.out.1 rfl (by simp) rfl (by intro u hu; simp at hu; rcases hu with rfl | rfl <;> rfl) (by have := HGI.out.le; omega) (by decide) (by omega) ?_)
              intro v' w' hown' hb' _ _
              have BR9 := Lib.hid (BR7.out.below hb' (Nat.lt_succ_self _))
              have g9 := g7.trans (hb'.mono (Nat.le_succ _))
              go_wp2
              go_roundw
              case rel => exact ⟨k + 1, by omega, by go_num, HN1.out, by rw [HES.out, HX.out]; exact OwnG.app hown' HO7.out.2 (by unfold in64; omega) (by unfold in64; omega), BR9.out, g9⟩
              case measure => simp [intOf]; omega
          · have q0 : (ee == 0) = false := by rw [beq_eq_false_iff_ne]; exact hee
            have HEE := Lib.hid hee
            clear hee
            go_wp2_with fail
            refine (ok_ne ee q0 _ _).mono ?_
            rintro e w7 ⟨rfl, hb7⟩
            have BR7 := Lib.hid (BR5.out.ext hb7)
            have g7 := ext g6 hb7
            have z0 := (hb7.cell (p := ⟨E, 0, none⟩) KB.out.lt).trans y0
            have z1 := (hb7.cell (p := ⟨E, 1, none⟩) KB.out.lt).trans y1
            clear y0 y1 BR5 HO5
            go_wp2_with fail
            refine (rin_any _ _ ee q0 _).mono ?_
            rintro e w8 ⟨ga, rfl, hpv, lga, hb8⟩
            have BR8 := BR7.out.ext hb8
            obtain ⟨r0, r1, r2, r3⟩ := BR8.two
            have lr := BR8.lt
            have g8 := ext g7 hb8
            have HPV := Lib.hid hpv
            have s9 : w.heap.size < w7.heap.size := BR7.out.lt
            have nga : ga ≠ w.heap.size := by omega
            clear s9
            clear hpv lga
            clear z0 z1 BR8 hb7 hb8
            go_wp2
            refine bodyPost_ret (by simp [results, Tryd.results15, go_sem, r0, r1, r2, r3, lr]; try rfl) rfl ?_
            exact .inr ⟨k, by rw [LN.out]; exact hlt, HN.out, by rw [HEU.out]; exact HEE.out, _, by rw [HEU.out], HPV.out.set nga _ _, (g8.setCell (Nat.le_refl _) _).setCell (Nat.le_refl _) _⟩
    · have ek : k = n := by omega
      have HE : Hid (grpTo fs cut gop fs.length = grpTo fs cut gop k) := by show _ = _; rw [LN.out, ek]
      have HZ : Hid (∀ j, j < fs.length → ueA fs j = 0) := fun j hj => HN.out j (by rw [LN.out] at hj; omega)
      clear ek
      obtain ⟨r0, r1, r2, r3⟩ := BR.out.two
      have lr := BR.out.lt
      go_wp2
      refine bodyPost_ret (by simp [results, Tryd.results15, go_sem, r0, r1, r2, r3, lr]; try rfl) rfl ?_
      exact .inl ⟨HZ.out, _, rfl, by rw [HE.out]; exact ((HO.out.set2 _ _).mono (Nat.le_succ _)), (hb.setCell (Nat.le_refl _) _).setCell (Nat.le_refl _) _⟩
theorem rgrp_any (v : Value) (fs : List Fr) (cut gop : Int) (w : World) (hv : Frames w v fs) (h : argE cut gop fs.length = 0) :
    Calls Tryd.prog 15 #[v, .int .i64 cut, .int .i64 gop] w fun e w' => RGrpPost fs cut gop w e w' := by
  obtain ⟨⟨a1, a2, a3, a4⟩, a5, a6⟩ := argE_zero h
  exact rgrp_go v fs cut gop w hv a1 a2 a3 a4 _ rfl a5 a6
end Go.Proofs.YtpdhhnhpaahenaaDoor
