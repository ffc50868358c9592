/- disk: SyncDir, Arm, Down, Steps, Sync: contracts. -/
import Derived.Test.YtdiaejphgcoknaaGreatDoorDiskF
import Derived.Laws.Cover1
set_option linter.unusedSimpArgs false
set_option linter.unusedVariables false
namespace Go.Proofs.YtdiaejphgcoknaaGreatDoor
open Go.RowKit Go.Extern.Stop Go.Stop Go.Extern

section
variable {w w2 : World} {p : Nat} {L : Lay} {D : DS}
/-- Steps are struck. -/
theorem DP.struck (h : DP w p L D) : DP (w.setCell ⟨p, 4, none⟩ (.slice none 0 0)) p { L with vs := .slice none 0 0 } { D with steps := [] } := by
  obtain ⟨o1, o2, o3, o4, o5⟩ := h.others
  have so := set_other w p 4 (.slice none 0 0)
  refine ⟨h.blk.set 4 _, ?_, h.len, ?_, h.apart, h.nam.ext (so _ o3), h.saf.ext (so _ o4), h.ne, World.ownsRow_nil _ _ _ 4⟩
  · exact row_of_block h.all fun k hk => so k fun e => o1 (e ▸ hk)
  · exact fun j hj => row_of_block (h.dat j hj) fun k hk => so k fun e => o5 j hj (e ▸ hk)
theorem has_struck {k : Nat} (h : ({ L with vs := .slice none 0 0 } : Lay).has p k) : L.has p k := by
  rcases has_vs (N := k + 1) h (fun k hk => by simp [Value.ownBlock] at hk) with h | h
  · exact h
  · omega
theorem has_bs {b N k : Nat} (h : ({ L with bs := b } : Lay).has p k) (hb : N ≤ b) : L.has p k ∨ N ≤ k := by
  rcases h with h | h | h | h | h | h
  · exact .inl (.inl h)
  · exact .inl (.inr (.inl h))
  · exact .inl (.inr (.inr (.inl h)))
  · exact .inl (.inr (.inr (.inr (.inl h))))
  · exact .inr (by rw [h]; exact hb)
  · exact .inl (.inr (.inr (.inr (.inr (.inr h)))))
/-- A file's head. -/
theorem DP.head (h : DP w p L D) {j : Nat} (hj : j < D.all.length) : ∃ g cap, L.va = .slice (some ⟨g, 0, none⟩) D.all.length cap ∧ g < w.heap.size ∧ g ≠ p ∧ w.cell? ⟨g, j * 2, none⟩ = some (L.at j) ∧ w.cell? ⟨g, j * 2 + 1, none⟩ = some (.int .i64 ((D.file j).safe : Int)) ∧ (∀ k, w.frozen? ⟨g, k, none⟩ = false) := by
  rcases row_head h.all with ⟨e, h0⟩ | ⟨g, cap, e, -, hlt, h1, h2, hf, -⟩
  · omega
  · have ha := h.all
    rw [e] at ha
    refine ⟨g, cap, e, hlt, fun e2 => h.others.1 (by rw [e, e2]; rfl), ?_, ?_, hf⟩
    · exact row_cellAt ha (flatR_at (m := 2) (c := 0) (fun _ => rfl) _ hj (by decide))
    · exact row_cellAt ha (flatR_at (m := 2) (c := 1) (fun _ => rfl) _ hj (by decide))
/-- How many of a file's bytes are safe is written anew. -/
theorem DP.safeSet (h : DP w p L D) {j g cap n : Nat} (hj : j < D.all.length) (hg : L.va = .slice (some ⟨g, 0, none⟩) n cap) (s : Nat) :
    DP (w.setCell ⟨g, j * 2 + 1, none⟩ (.int .i64 (s : Int))) p L { D with all := setF D.all j ⟨(D.file j).data, s⟩ } := by
  obtain ⟨o1, o2, o3, o4, o5⟩ := h.others
  have so := set_other w g (j * 2 + 1) (.int .i64 (s : Int))
  have hown : L.va.ownBlock = some g := by rw [hg]; rfl
  obtain rfl : n = D.all.length := by
    obtain ⟨g', cap', e, _⟩ := h.head hj
    rw [hg] at e; simp at e; exact e.2.1
  have ha := h.all
  rw [hg] at ha
  have hs := (ha.stored (j * 2 + 1) (.int .i64 (s : Int))).1
  have hset : (filecells D.all L.fv).set (j * 2 + 1) (.int .i64 (s : Int)) = filecells (setF D.all j ⟨(D.file j).data, s⟩) L.fv := by
    unfold filecells
    rw [length_setF]
    refine flatR_set (m := 2) (fun _ => rfl) (fun _ => rfl) hj (by decide) ?_ ?_
    · unfold filec; rw [getD_setF, if_pos ⟨rfl, hj⟩]; rfl
    · intro i hi; unfold filec; rw [getD_setF, if_neg (fun e => hi e.1.symm)]
  have hf : ∀ i, ((setF D.all j ⟨(D.file j).data, s⟩).getD i DF.nought).data = (D.file i).data := by
    intro i
    rw [getD_setF]
    split
    · rename_i e; rw [e.1]
    · rfl
  refine ⟨h.blk.of_block (so _ fun e => o1 (by rw [hown, e])), ?_, by rw [length_setF]; exact h.len, ?_, by rw [length_setF]; exact h.apart, ?_, ?_, h.ne, ?_⟩
  · show World.ownsRow _ 0 _ 2 L.va (setF D.all j _).length _
    rw [length_setF, hg, ← hset]; exact hs
  · intro i hi
    rw [length_setF] at hi
    show World.ownsRow _ 0 _ 1 (L.at i) ((setF D.all j ⟨(D.file j).data, s⟩).getD i DF.nought).data.length (bcells ((setF D.all j ⟨(D.file j).data, s⟩).getD i DF.nought).data)
    rw [hf i]
    exact row_of_block (h.dat i hi) fun k hk => so k fun e => rows_ne h.all (h.dat i hi) (by decide) k hk (by rw [hown, e])
  · exact h.nam.ext (so _ fun e => map_row h.nam h.all (by rw [hown, e]))
  · exact h.saf.ext (so _ fun e => map_row h.saf h.all (by rw [hown, e]))
  · exact row_of_block h.stp fun k hk => so k fun e => rows_ne h.all h.stp (by decide) k hk (by rw [hown, e])
end
set_option maxRecDepth 100000 in
theorem syncdir_any (p : Nat) (L : Lay) (D : DS) (T : Nat) (w : World) (h : DP w p L D) (hI : Inv D T) (hT : T ≤ 100000) :
    Calls Tryz.prog 26 #[.pointer (some ⟨p, 0, none⟩)] w fun e w' => OpPost p L (sdirE D) (sdirD D) w e w' := by
  have CG := Lib.hid (hI.goes hT p L 0 w h)
  have e1 : sdirE D = goesE D 0 := rfl
  by_cases hg0 : goesE D 0 = 0
  · obtain ⟨-, -, -, hgd⟩ := goesE_zero hg0
    have e2 : sdirD D = { fallD D with safe := D.names, steps := [] } := by unfold sdirD; rw [if_pos (by rw [e1]; exact hg0)]
    rw [hg0, hgd] at CG
    rw [e1, e2, hg0]
    clear h hI hT hg0 hgd e1 e2
    go_enter Tryz.func26, Tryz.ntmps26
    go_wp2_with (first | (go_at_call 38; refine CG.out.mono ?_; rintro e w1 ⟨rfl, hD1, hg1⟩; have c2 : w1.cell? ⟨p, 2, none⟩ = some (.map (some L.bn)) := hD1.cell 2; have HD1 := Lib.hid hD1; have HG1 := Lib.hid hg1; clear hD1 hg1) | (go_at_call 30; refine (clone_any L.bn D.names _ HD1.out.nam).mono ?_; rintro e w2 ⟨rfl, hn2, hg2⟩; have D2 := Lib.hid (HD1.out.safed hg2 hn2 (Nat.le_refl _)); have D3 := Lib.hid D2.out.struck; have HG2 := Lib.hid hg2; have B2 := Lib.hid (HD1.out.blk.grown hg2 (by simp)); have z3 : w2.cell? ⟨p, 3, none⟩ = some (.map (some L.bs)) := B2.out.cell 3; have y3 := B2.out.free 3; have z4 : w2.cell? ⟨p, 4, none⟩ = some L.vs := B2.out.cell 4; have y4 := B2.out.free 4; clear hn2 hg2))
    go_returns
    refine ⟨by rw [errV_zero]; rfl, _, D3.out, fun k hk => ?_, ?_⟩
    · exact has_bs (has_struck hk) HG1.out.size
    · refine (Keep.self HG1.out).trans ((Keep.grown HG2.out (by simp)).trans ((Keep.self (grown_set _ _ _ _)).trans (Keep.self (grown_set _ _ _ _))))
  · have e2 : sdirD D = goesD D 0 := by unfold sdirD; rw [if_neg (by rw [e1]; exact hg0)]
    rw [e1, e2]
    have q := err_ne hg0
    clear h hI hT hg0 e1 e2
    go_enter Tryz.func26, Tryz.ntmps26
    go_wp2_with (go_at_call 38; refine CG.out.mono ?_; rintro e w1 ⟨rfl, hD1, hg1⟩)
    go_returns
    exact ⟨rfl, L, hD1, fun k hk => .inl hk, Keep.self hg1⟩

theorem arm_any (p : Nat) (L : Lay) (D : DS) (n : Int) (w : World) (h : DP w p L D) :
    Calls Tryz.prog 27 #[.pointer (some ⟨p, 0, none⟩), .int .i64 n] w fun e w' => e = .returned (.tuple #[]) ∧ DP w' p L (armD D n) ∧ w.grownBy w' (some p) := by
  have H := Lib.hid h
  have c5 : w.cell? ⟨p, 5, none⟩ = some (.int .i64 D.armed) := h.cell 5
  have f5 := h.free 5
  have c6 : w.cell? ⟨p, 6, none⟩ = some (.bool D.down) := h.cell 6
  clear h
  cases hd : D.down with
  | true =>
    rw [hd] at c6
    have e : armD D n = D := by unfold armD; rw [if_pos hd]
    rw [e]
    clear hd e
    go_enter Tryz.func27, Tryz.ntmps27
    go_wp2
    go_end0
    exact ⟨rfl, H.out, ⟨rfl, rfl, rfl, Nat.le_refl _, fun _ _ _ => rfl⟩⟩
  | false =>
    rw [hd] at c6
    have e : armD D n = { D with armed := max n 0 } := by unfold armD; rw [if_neg (by rw [hd]; decide)]
    rw [e]
    obtain ⟨m, hm⟩ : ∃ m, (if (0 : Int) > n then (0 : Int) else n) = m := ⟨_, rfl⟩
    have em : Hid (max n 0 = m) := by show max n 0 = m; rw [← hm]; split <;> omega
    clear hd e
    go_enter Tryz.func27, Tryz.ntmps27
    go_wp2
    go_end0
    have e : dcells L { D with armed := max n 0 } = (dcells L D).setIfInBounds 5 (.int .i64 m) := by simp [dcells, em.out]
    refine ⟨rfl, H.out.scalars (by rw [e]; exact H.out.blk.set 5 _) (fun k hk => set_other _ _ _ _ k hk) rfl rfl rfl rfl, grown_set _ _ _ _⟩
theorem down_any (p : Nat) (L : Lay) (D : DS) (w : World) (h : DP w p L D) :
    Calls Tryz.prog 11 #[.pointer (some ⟨p, 0, none⟩)] w fun e w' => e = .returned (.bool D.down) ∧ w = w' := by
  have c6 : w.cell? ⟨p, 6, none⟩ = some (.bool D.down) := h.cell 6
  clear h
  go_enter Tryz.func11, Tryz.ntmps11
  go_wp2
  go_ret
  exact ⟨rfl, rfl⟩
theorem steps_any (p : Nat) (L : Lay) (D : DS) (w : World) (h : DP w p L D) :
    Calls Tryz.prog 13 #[.pointer (some ⟨p, 0, none⟩)] w fun e w' => e = .returned (.int .i64 D.done) ∧ w = w' := by
  have c7 : w.cell? ⟨p, 7, none⟩ = some (.int .i64 D.done) := h.cell 7
  clear h
  go_enter Tryz.func13, Tryz.ntmps13
  go_wp2
  go_ret
  exact ⟨rfl, rfl⟩
end Go.Proofs.YtdiaejphgcoknaaGreatDoor
