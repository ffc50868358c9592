/- fault.Of, fault.Path, kinref.In, kinsame.Err at an error that came through one place: contracts. -/
import Derived.Test.YtmdpfjjbehpnbaaDoorErrP
import Derived.Test.YtmdpfjjbehpnbaaDoorRow1
set_option linter.unusedSimpArgs false
set_option linter.unusedVariables false
namespace Go.Proofs.YtmdpfjjbehpnbaaDoor
open Go.RowKit Go.Extern.Stop Go.Stop Go.Extern

theorem of_fault (b : Nat) (s : Array UInt8) (i k : Int) (w : World) (hg : TypeIs w) (hF : Blk w b (fltC s i k) 87) : Calls Tryd.prog 35 #[.iface 84 (.pointer (some ⟨b, 0, none⟩))] w fun e w' => e = .returned (.int .i64 k) ∧ Below w.heap.size w w' := by
  have hg1 : TypeIs (w.alloc (.cells #[.int .i64 0] 32)) := hg.ext (by go_grown)
  have h2 : (w.alloc (.cells #[.int .i64 0] 32)).cell? ⟨b, 2, none⟩ = some (.iface 32 (.int .i64 k)) := (hF.ext (by go_grown)).cell 2
  have HG := Lib.hid hg1
  have HF := Lib.hid h2
  clear hg hg1 h2 hF
  go_enter Tryd.func35, Tryd.ntmps35
  go_wp2_with (go_at_call 52; refine (as_pcode b k _ (.int .i64 0) _ HG.out (by simp) (by simp) HF.out).mono ?_; rintro e w' ⟨rfl, rfl⟩)
  go_returns
  exact ⟨rfl, by go_grown⟩
theorem info68 : (Tryd.prog.info? 68).map (fun i => (i.zero, i.size, i.bytes)) = some (some (.agg #[.string ⟨#[]⟩, .int .i64 0]), 2, 24) := by kernel_rfl
theorem info69 : (Tryd.prog.info? 69).map (fun i => (i.zero, i.size, i.bytes)) = some (some (.agg #[.string ⟨#[]⟩, .int .i64 0]), 2, 24) := by kernel_rfl

set_option maxHeartbeats 1000000 in
theorem path_fault (b : Nat) (s : Array UInt8) (i k : Int) (w : World) (hg : TypeIs w) (hF : Blk w b (fltC s i k) 87) : Calls Tryd.prog 36 #[.iface 84 (.pointer (some ⟨b, 0, none⟩))] w fun e w' => ∃ g cap, e = .returned (.slice (some ⟨g, 0, none⟩) 1 cap) ∧ w'.cell? ⟨g, 0, none⟩ = some (.string ⟨s⟩) ∧ w'.cell? ⟨g, 1, none⟩ = some (.int .i64 i) ∧ g < w'.heap.size ∧ Below w.heap.size w w' := by
  have hg1 : TypeIs (w.alloc (.cells #[.pointer none] 84)) := hg.ext (by go_grown)
  have HG := Lib.hid hg
  have HG1 := Lib.hid hg1
  have HF := Lib.hid hF
  have lb := hF.lt
  clear hg hg1 hF
  go_enter Tryd.func36, Tryd.ntmps36
  go_wp2
  refine wp_loop_rounds 2 ?_
  rw [rounds_succ]
  go_wp2_with fail
  refine (as_pfault b _ (.pointer none) _ HG1.out (by simp) (by simp)).mono ?_
  rintro e w1 ⟨rfl, hw1⟩
  have j1 : Below w.heap.size w w1 := by subst hw1; go_grown
  have k1 : w1.cell? ⟨w.heap.size, 0, none⟩ = some (.pointer (some ⟨b, 0, none⟩)) := by subst hw1; exact ((((((Blk.new w _ _).alloc _).alloc _).alloc _).alloc _).set 0 _).cell 0
  have s1 := j1.size
  have lz : w.heap.size < w1.heap.size := by subst hw1; simp; omega
  clear hw1
  have F1 := Lib.hid (HF.out.ext j1)
  have f0 : w1.cell? ⟨b, 0, none⟩ = some (.string ⟨s⟩) := F1.out.cell 0
  have f1 : w1.cell? ⟨b, 1, none⟩ = some (.int .i64 i) := F1.out.cell 1
  go_wp2
  go_region_held3 (fun w' => w'.cell? ⟨w.heap.size, 0, none⟩ = some (.pointer (some ⟨b, 0, none⟩)) ∧ w'.cell? ⟨b, 0, none⟩ = some (.string ⟨s⟩) ∧ w'.cell? ⟨b, 1, none⟩ = some (.int .i64 i)) (first | go_keep | exact ⟨q0, q1, q2⟩)
    ((refine step_row1 65 68 2 24 _ Tryd.underlying65 info68 rfl (by decide) (by rfl) _ _ (by rfl) w1 w1.heap.size _ 0 [] [.string ⟨s⟩, .int .i64 i] (by rfl) (World.ownsRow_nil _ _ _ 2) _ (by rfl) (heap_alloc_new _ _) (grown_of _) (by rfl) (by intro u hu; simp at hu; rcases hu with rfl | rfl <;> rfl) (by omega) (by decide) (Nat.le_refl _) ?_; intro g cap w2 hown2 hb2 hg2 hlt2; have q0 := (hb2.cell (p := ⟨w.heap.size, 0, none⟩) lz).trans k1; have q1 := (hb2.cell (p := ⟨b, 0, none⟩) (Nat.lt_of_lt_of_le lb s1)).trans f0; have q2 := (hb2.cell (p := ⟨b, 1, none⟩) (Nat.lt_of_lt_of_le lb s1)).trans f1))
  have g2 : Below w.heap.size w w2 := ext j1 hb2
  have F2 := Lib.hid (F1.out.ext hb2)
  have e0 : w2.cell? ⟨b, 2, none⟩ = some (.iface 32 (.int .i64 k)) := F2.out.cell 2
  have c0 : w2.cell? ⟨g, 0, none⟩ = some (.string ⟨s⟩) := row_cellAt hown2 (by rfl)
  have c1 : w2.cell? ⟨g, 1, none⟩ = some (.int .i64 i) := row_cellAt hown2 (by rfl)
  have C := Lib.hid (And.intro c0 c1)
  clear c0 c1 q1 q2 hown2 f0 f1 k1
  go_wp2
  rw [rounds_succ]
  go_wp2_with fail
  refine (as_nofault k _ _ (HG.out.ext g2)).mono ?_
  rintro e w3 ⟨rfl, hw3⟩
  have j3 : Below w2.heap.size w2 w3 := by subst hw3; go_grown
  clear hw3
  have g3 : Below w.heap.size w w3 := ext g2 j3
  go_wp2
  go_returns
  exact ⟨g, cap, rfl, (j3.cell (p := ⟨g, 0, none⟩) hlt2).trans C.out.1, (j3.cell (p := ⟨g, 1, none⟩) hlt2).trans C.out.2, Nat.lt_of_lt_of_le hlt2 j3.size, g3⟩

/-- The path of one step, as the references have it. -/
def PathV (w : World) (v : Value) (s : Array UInt8) (i : Int) : Prop := ∃ g cap, v = .slice (some ⟨g, 0, none⟩) 1 cap ∧ g < w.heap.size ∧ w.cell? ⟨g, 0, none⟩ = some (.string ⟨s⟩) ∧ w.cell? ⟨g, 1, none⟩ = some (.int .i64 i)
theorem PathV.ext {w w' : World} {v : Value} {s : Array UInt8} {i : Int} (h : PathV w v s i) (hb : Below w.heap.size w w') : PathV w' v s i := by
  obtain ⟨g, cap, e, hl, h0, h1⟩ := h
  exact ⟨g, cap, e, Nat.lt_of_lt_of_le hl hb.size, (hb.cell (p := ⟨g, 0, none⟩) hl).trans h0, (hb.cell (p := ⟨g, 1, none⟩) hl).trans h1⟩

set_option maxHeartbeats 1000000 in
theorem rin_any (s : Array UInt8) (i k : Int) (hk : (k == 0) = false) (w : World) : Calls Tryd.prog 41 #[.string ⟨s⟩, .int .i64 i, .agg #[.int .i64 k, .slice none 0 0]] w fun e w' => ∃ g, e = .returned (.agg #[.int .i64 k, .slice (some ⟨g, 0, none⟩) 1 1]) ∧ PathV w' (.slice (some ⟨g, 0, none⟩) 1 1) s i ∧ w.heap.size ≤ g ∧ Below w.heap.size w w' := by
  go_enter Tryd.func41, Tryd.ntmps41
  go_wp2_with fail
  refine (ok_ne k hk _ _).mono ?_
  rintro e w1 ⟨rfl, hb1⟩
  have j1 : Below w.heap.size w w1 := ext (by go_grown) hb1
  have BX := Lib.hid (((Blk.new w #[.int .i64 k, .slice none 0 0] 35).alloc (.cells #[.int .i64 0, .slice none 0 0] 35)).ext hb1)
  have BR := Lib.hid ((Blk.new (w.alloc (.cells #[.int .i64 k, .slice none 0 0] 35)) #[.int .i64 0, .slice none 0 0] 35).ext hb1)
  simp only [World.size_alloc] at BR
  have lx := BX.out.lt
  have lr := BR.out.lt
  obtain ⟨x0, x1, -, -⟩ := BX.out.two
  obtain ⟨r0, r1, r2, r3⟩ := BR.out.two
  clear hb1
  go_wp2
  refine bodyPost_ret (by simp [results, Tryd.results41, go_sem, r0, r1, r2, r3, lx, lr, x0, x1]; try rfl) rfl ?_
  generalize hz : (w1.setCell ⟨w.heap.size + 1, 0, none⟩ (.int .i64 k)).setCell ⟨w.heap.size + 1, 1, none⟩ (.slice (some ⟨w1.heap.size, 0, none⟩) 1 1) = wz
  have hs : wz.heap.size = w1.heap.size := by rw [← hz]; simp
  have jz : Below w.heap.size w wz := by rw [← hz]; exact (j1.setCell (by show w.heap.size ≤ w.heap.size + 1; omega) _).setCell (by show w.heap.size ≤ w.heap.size + 1; omega) _
  rw [← hs]
  have hB := (Blk.new wz #[.string ⟨s⟩, .int .i64 i] 69).alloc (.cells #[.int .i64 k, .slice (some ⟨wz.heap.size, 0, none⟩) 1 1] 35)
  exact ⟨_, rfl, ⟨_, _, rfl, hB.lt, hB.cell 0, hB.cell 1⟩, jz.size, ext jz (by go_grown)⟩

set_option maxHeartbeats 4000000 in
theorem same_fault (b : Nat) (s : Array UInt8) (i k : Int) (hk : (k == 0) = false) (p : Value) (w : World) (hg : TypeIs w) (hF : Blk w b (fltC s i k) 87) (hP : PathV w p s i) :
    Calls Tryd.prog 14 #[.iface 84 (.pointer (some ⟨b, 0, none⟩)), .agg #[.int .i64 k, p]] w fun e w' => e = .returned (.bool true) ∧ Below w.heap.size w w' := by
  have hq := Lib.hid hg
  have HF := Lib.hid hF
  have HP := Lib.hid hP
  obtain ⟨g, cap, rfl, lg, -, -⟩ := hP
  clear hg hF
  go_enter Tryd.func14, Tryd.ntmps14
  go_wp2
  go_region_with (first | (go_at_call 33; refine (ok_ne _ hk _ _).mono ?_; rintro e w1 ⟨rfl, hb1⟩; obtain ⟨hc1, hf1⟩ := bcell hb1; have hz1 : w.heap.size < w1.heap.size := (by have h1 := hb1.size; first | omega | (simp at h1; omega))) | (go_at_call 35; refine (of_fault b s i k _ ?_ ?_).mono ?_; exact hq.out.ext (by first | (exact ext (by go_grown) hb1) | go_grown); exact HF.out.ext (by first | (exact ext (by go_grown) hb1) | go_grown); rintro e w2 ⟨rfl, hb2⟩; obtain ⟨hc2, hf2⟩ := bcell hb2; have hz2 : w.heap.size < w2.heap.size := (by have h2 := hb2.size; first | omega | (simp at h2; omega))))
  all_goals
    go_wp2_with fail
    refine (path_fault b s i k _ (hq.out.ext ?bel) (HF.out.ext ?bel)).mono ?_
    case bel => first | exact ext (ext (by go_grown) hb1) hb2 | exact ext (ext (by go_grown) hb2) hb1
    rintro e w3 ⟨g3, cap3, rfl, y0, y1, l3, hb3⟩
    have j3 : Below w.heap.size w w3 := by first | exact ext (ext (ext (by go_grown) hb1) hb2) hb3 | exact ext (ext (ext (by go_grown) hb2) hb1) hb3
    obtain ⟨g4, cap4, e4, l4, z0, z1⟩ := HP.out.ext j3
    obtain ⟨rfl, rfl⟩ : g = g4 ∧ cap = cap4 := by simpa using e4
    clear e4
    have BX : Blk w3 w.heap.size #[.int .i64 k, .slice (some ⟨g, 0, none⟩) 1 cap] 35 := (Blk.new w #[.int .i64 k, .slice (some ⟨g, 0, none⟩) 1 cap] 35).ext (by first | exact ext (ext (ext (by go_grown) hb1) hb2) hb3 | exact ext (ext (ext (by go_grown) hb2) hb1) hb3)
    obtain ⟨x0, x1, -, -⟩ := BX.two
    have BXl := BX.lt
    clear BX hb1 hb2 hb3 hc1 hf1 hc2 hf2
    go_wp2
    refine wp_loop_rounds 2 ?_
    rw [rounds_succ]
    go_wp2
    go_quiet (fail)
    go_wp2
    rw [rounds_succ]
    go_wp2
    go_returns
    exact ⟨rfl, by first | exact j3 | exact j3.drew | exact below_drewN' j3 _⟩
end Go.Proofs.YtmdpfjjbehpnbaaDoor
