/- disk: named, fall, goes, there: contracts. -/
import Derived.Test.YtdiaejphgcoknaaGreatDoorDiskR
import Derived.Test.YtdiaejphgcoknaaGreatDoorStep
set_option linter.unusedSimpArgs false
set_option linter.unusedVariables false
namespace Go.Proofs.YtdiaejphgcoknaaGreatDoor
open Go.RowKit Go.Extern.Stop Go.Stop Go.Extern

theorem DP.others {w : World} {p : Nat} {L : Lay} {D : DS} (h : DP w p L D) : L.va.ownBlock ≠ some p ∧ L.vs.ownBlock ≠ some p ∧ L.bn ≠ p ∧ L.bs ≠ p ∧ ∀ j, j < D.all.length → (L.at j).ownBlock ≠ some p :=
  ⟨blk_row h.blk h.all (by decide), blk_row h.blk h.stp (by decide), map_blk h.nam h.blk, map_blk h.saf h.blk, fun j hj => blk_row h.blk (h.dat j hj) (by decide)⟩
/-- The struct's own block alone has turned. -/
theorem DP.scalars {w w' : World} {p : Nat} {L : Lay} {D D' : DS} (h : DP w p L D) (hB : Blk w' p (dcells L D') 62) (ho : ∀ k, k ≠ p → w'.heap[k]? = w.heap[k]?)
    (ha : D'.all = D.all) (hn : D'.names = D.names) (hs : D'.safe = D.safe) (hst : D'.steps = D.steps) : DP w' p L D' := by
  obtain ⟨o1, o2, o3, o4, o5⟩ := h.others
  have hf : D'.file = D.file := by funext j; unfold DS.file; rw [ha]
  refine ⟨hB, ?_, by rw [ha]; exact h.len, ?_, by rw [ha]; exact h.apart, ?_, ?_, h.ne, ?_⟩
  · rw [ha]; exact row_of_block h.all fun k hk => ho k fun e => o1 (e ▸ hk)
  · rw [ha, hf]
    exact fun j hj => row_of_block (h.dat j hj) fun k hk => ho k fun e => o5 j hj (e ▸ hk)
  · rw [hn]; exact h.nam.ext (ho _ o3)
  · rw [hs]; exact h.saf.ext (ho _ o4)
  · rw [hst]; exact row_of_block h.stp fun k hk => ho k fun e => o2 (e ▸ hk)
theorem set_other (w : World) (p o : Nat) (u : Value) : ∀ k, k ≠ p → (w.setCell ⟨p, o, none⟩ u).heap[k]? = w.heap[k]? := fun k hk => Below.heap_setCell w _ u k hk
theorem grown_set (w : World) (p o : Nat) (u : Value) : w.grownBy (w.setCell ⟨p, o, none⟩ u) (some p) :=
  ⟨rfl, rfl, rfl, by simp, fun k _ hne => set_other w p o u k fun e => hne (by rw [e])⟩
/-- The cells of a disk's struct. -/
theorem DP.cell {w : World} {p : Nat} {L : Lay} {D : DS} (h : DP w p L D) (o : Nat) : w.cell? ⟨p, o, none⟩ = (dcells L D)[o]? := Blk.cell h.blk o
theorem DP.free {w : World} {p : Nat} {L : Lay} {D : DS} (h : DP w p L D) (o : Nat) : w.frozen? ⟨p, o, none⟩ = false := Blk.free h.blk o

theorem named_any (s : Bs) (hs : s.length ≤ maxLen) (w : World) : Calls Tryz.prog 37 #[.string ⟨s.toArray⟩] w fun e w' => e = .returned (.bool (namedB s)) ∧ w = w' := by
  unfold maxLen at hs
  cases s with
  | nil =>
    go_enter Tryz.func37, Tryz.ntmps37
    go_wp2
    go_ret
    exact ⟨rfl, rfl⟩
  | cons x t =>
    have hl : (x :: t).length ≤ 9223372036854775807 := hs
    obtain ⟨l, hl2⟩ : ∃ l, l = x :: t := ⟨_, rfl⟩
    have hne : ¬ l = [] := by rw [hl2]; simp
    have he : l.isEmpty = false := by rw [hl2]; rfl
    have he2 : (!l.isEmpty) = true := by rw [he]; rfl
    have HE := Lib.hid he
    rw [← hl2] at hl ⊢
    clear hs hl2
    go_enter Tryz.func37, Tryz.ntmps37
    go_wp2
    go_ret
    exact ⟨by unfold namedB; rw [HE.out]; first | rfl | (simp; done) | (simp; omega), rfl⟩

set_option maxRecDepth 100000 in
theorem fall_any (p : Nat) (L : Lay) (D : DS) (w : World) (h : DP w p L D) (hd0 : 0 ≤ D.done) (hd1 : D.done ≤ 1000000000) (ha : D.armed ≤ 9223372036854775807) :
    Calls Tryz.prog 56 #[.pointer (some ⟨p, 0, none⟩)] w fun e w' => e = .returned (.bool (downF D)) ∧ DP w' p L (fallD D) ∧ w.grownBy w' (some p) := by
  have H := Lib.hid h
  have c5 : w.cell? ⟨p, 5, none⟩ = some (.int .i64 D.armed) := h.cell 5
  have c6 : w.cell? ⟨p, 6, none⟩ = some (.bool D.down) := h.cell 6
  have c7 : w.cell? ⟨p, 7, none⟩ = some (.int .i64 D.done) := h.cell 7
  have f5 := h.free 5
  have f6 := h.free 6
  have f7 := h.free 7
  have q7 : IntKind.i64.wrap (D.done + 1) = D.done + 1 := IntWalk.i64_in _ (by omega)
  clear h
  by_cases hp : 0 < D.armed
  · have q5 : IntKind.i64.wrap (D.armed - 1) = D.armed - 1 := IntWalk.i64_in _ (by omega)
    go_enter Tryz.func56, Tryz.ntmps56
    go_wp2
    go_returns
    refine ⟨by unfold downF; rw [if_pos hp]; rfl, ?_, ?_⟩
    · have e : dcells L (fallD D) = (((dcells L D).setIfInBounds 7 (.int .i64 (D.done + 1))).setIfInBounds 5 (.int .i64 (D.armed - 1))).setIfInBounds 6 (.bool (D.armed - 1 == 0)) := by simp [dcells, fallD, armedF, downF, hp]
      refine H.out.scalars (by rw [e]; exact (((H.out.blk.set 7 _).set 5 _).set 6 _)) ?_ rfl rfl rfl rfl
      intro k hk
      rw [set_other _ _ _ _ k hk, set_other _ _ _ _ k hk, set_other _ _ _ _ k hk]
    · exact ((grown_set _ _ _ _).trans (grown_set _ _ _ _)).trans (grown_set _ _ _ _)
  · go_enter Tryz.func56, Tryz.ntmps56
    go_wp2
    go_returns
    have hp2 : ¬ 0 < D.armed := by omega
    refine ⟨by unfold downF; rw [if_neg hp2]; rfl, ?_, ?_⟩
    · have e : dcells L (fallD D) = (dcells L D).setIfInBounds 7 (.int .i64 (D.done + 1)) := by simp [dcells, fallD, armedF, downF, hp2]
      refine H.out.scalars (by rw [e]; exact H.out.blk.set 7 _) ?_ rfl rfl rfl rfl
      intro k hk
      exact set_other _ _ _ _ k hk
    · exact grown_set _ _ _ _

theorem err_ne {k : Int} (h : k ≠ 0) : (k == 0) = false := by simpa using h
set_option maxRecDepth 100000 in
theorem goes_any (p : Nat) (L : Lay) (D : DS) (x : Int) (w : World) (h : DP w p L D) (hd0 : 0 ≤ D.done) (hd1 : D.done ≤ 1000000000) (ha : D.armed ≤ 9223372036854775807) :
    Calls Tryz.prog 38 #[.pointer (some ⟨p, 0, none⟩), errV x] w fun e w' => e = .returned (errV (goesE D x)) ∧ DP w' p L (goesD D x) ∧ w.grownBy w' (some p) := by
  have H := Lib.hid h
  have c6 : w.cell? ⟨p, 6, none⟩ = some (.bool D.down) := h.cell 6
  have CF := Lib.hid (fall_any p L D w h hd0 hd1 ha)
  clear h
  cases hdn : D.down with
  | true =>
    have h1 : goesE D x = 10 := by unfold goesE; rw [if_pos hdn]
    have h2 : goesD D x = D := by unfold goesD; rw [if_pos hdn]
    rw [h1, h2]
    rw [hdn] at c6
    clear h1 h2 hdn
    go_enter Tryz.func38, Tryz.ntmps38
    go_wp2
    go_returns
    exact ⟨by rw [errV_ne (k := 10) (by decide)]; rfl, H.out, ⟨rfl, rfl, rfl, Nat.le_refl _, fun _ _ _ => rfl⟩⟩
  | false =>
    by_cases hx : x = 0
    · have h1 : goesE D x = if downF D then 10 else 0 := by unfold goesE; rw [hdn, hx]; simp
      have h2 : goesD D x = fallD D := by unfold goesD; rw [hdn, hx]; simp
      rw [h1, h2]
      subst hx
      clear h1 h2
      cases hf : downF D with
      | true =>
        rw [hf] at CF
        rw [if_pos rfl]
        rw [hdn] at c6
        clear hdn hf
        go_enter Tryz.func38, Tryz.ntmps38
        go_wp2_with (go_at_call 56; refine CF.out.mono ?_; rintro e w1 ⟨rfl, hD1, hg1⟩)
        go_returns
        exact ⟨by rw [errV_ne (k := 10) (by decide)]; rfl, hD1, hg1⟩
      | false =>
        rw [hf] at CF
        rw [if_neg (by decide)]
        rw [hdn] at c6
        clear hdn hf
        go_enter Tryz.func38, Tryz.ntmps38
        go_wp2_with (go_at_call 56; refine CF.out.mono ?_; rintro e w1 ⟨rfl, hD1, hg1⟩)
        go_returns
        exact ⟨by rw [errV_zero]; rfl, hD1, hg1⟩
    · have h1 : goesE D x = x := by unfold goesE; rw [hdn]; simp [hx]
      have h2 : goesD D x = D := by unfold goesD; rw [hdn]; simp [hx]
      rw [h1, h2]
      rw [hdn] at c6
      have q := err_ne hx
      have HX := Lib.hid hx
      clear h1 h2 hdn hx
      go_enter Tryz.func38, Tryz.ntmps38
      go_wp2
      go_returns
      exact ⟨rfl, H.out, ⟨rfl, rfl, rfl, Nat.le_refl _, fun _ _ _ => rfl⟩⟩

set_option maxRecDepth 100000 in
theorem there_any (p : Nat) (L : Lay) (D : DS) (s : Bs) (hs : s.length ≤ maxLen) (w : World) (h : DP w p L D) :
    Calls Tryz.prog 55 #[.pointer (some ⟨p, 0, none⟩), .string ⟨s.toArray⟩] w fun e w' => e = .returned (errV (thereE D s)) ∧ w = w' := by
  have c2 : w.cell? ⟨p, 2, none⟩ = some (.map (some L.bn)) := h.cell 2
  have CN := Lib.hid (named_any s hs w)
  have hk := h.nam.look hs
  clear h
  cases hn : namedB s with
  | false =>
    rw [hn] at CN
    have h1 : thereE D s = 6 := by unfold thereE; rw [hn]; rfl
    rw [h1]
    clear h1 hn
    go_enter Tryz.func55, Tryz.ntmps55
    go_wp2_with (go_at_call 37; refine CN.out.mono ?_; rintro e w' ⟨rfl, rfl⟩)
    go_returns
    exact ⟨by rw [errV_ne (k := 6) (by decide)]; rfl, rfl⟩
  | true =>
    rw [hn] at CN
    have h1 : thereE D s = if (nget D.names s).isSome then 0 else 7 := by unfold thereE; rw [hn]; rfl
    rw [h1]
    clear h1 hn
    cases hg : (nget D.names s).isSome with
    | true =>
      rw [hg] at hk
      rw [if_pos rfl]
      generalize ((nget D.names s).getD 0) = no at *
      clear hg
      go_enter Tryz.func55, Tryz.ntmps55
      go_wp2_with (go_at_call 37; refine CN.out.mono ?_; rintro e w' ⟨rfl, rfl⟩)
      go_returns
      exact ⟨by rw [errV_zero]; rfl, rfl⟩
    | false =>
      rw [hg] at hk
      rw [if_neg (by decide)]
      generalize ((nget D.names s).getD 0) = no at *
      clear hg
      go_enter Tryz.func55, Tryz.ntmps55
      go_wp2_with (go_at_call 37; refine CN.out.mono ?_; rintro e w' ⟨rfl, rfl⟩)
      go_returns
      exact ⟨by rw [errV_ne (k := 7) (by decide)]; rfl, rfl⟩
end Go.Proofs.YtdiaejphgcoknaaGreatDoor
