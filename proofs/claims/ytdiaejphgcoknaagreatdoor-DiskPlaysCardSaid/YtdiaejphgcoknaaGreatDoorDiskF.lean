/- disk: Rename, Remove, SyncDir, Arm, Down, Steps; maps.Clone: contracts. -/
import Derived.Test.YtdiaejphgcoknaaGreatDoorDiskE
import Derived.Shelf.SlMaps.Clone
set_option linter.unusedSimpArgs false
set_option linter.unusedVariables false
namespace Go.Proofs.YtdiaejphgcoknaaGreatDoor
open Go.RowKit Go.Extern.Stop Go.Stop Go.Extern

theorem Inv.does {D : DS} {T : Nat} (hI : Inv D T) (hT : T ≤ 100000) (p : Nat) (L : Lay) (s : Stp) (hs : s.fit) (hk : s.kind ≤ 2) (w : World) (h : DP w p L (fallD D)) :
    Calls Tryz.prog 39 #[.pointer (some ⟨p, 0, none⟩), stepV s] w fun e w' => DoesPost p L (fallD D) s w e w' :=
  does_any p L (fallD D) s w h hs hk (by have := hI.nam; show D.names.length ≤ _; omega) (by have := hI.stp; show D.steps.length ≤ _; omega) (hI.vals64 hT)
theorem Inv.goes {D : DS} {T : Nat} (hI : Inv D T) (hT : T ≤ 100000) (p : Nat) (L : Lay) (x : Int) (w : World) (h : DP w p L D) :
    Calls Tryz.prog 38 #[.pointer (some ⟨p, 0, none⟩), errV x] w fun e w' => e = .returned (errV (goesE D x)) ∧ DP w' p L (goesD D x) ∧ w.grownBy w' (some p) := by
  obtain ⟨d0, d1⟩ := hI.done
  exact goes_any p L D x w h d0 (by omega) hI.armed.2
theorem DoesPost.op {p : Nat} {L : Lay} {D : DS} {s : Stp} {w w1 w' : World} {e : Ending} (hg : w.grownBy w1 (some p)) (h : DoesPost p L D s w1 e w') : ∃ L', DP w' p L' (doesD D s) ∧ (∀ k, L'.has p k → L.has p k ∨ w.heap.size ≤ k) ∧ Keep (L.has p) w w' := by
  obtain ⟨-, v, h1, h2, h3⟩ := h
  have hz := hg.size
  refine ⟨_, h1, fun k hk => has_vs hk fun k hk => ?_, (Keep.self hg).trans h3⟩
  rcases h2 k hk with h | h
  · exact .inl h
  · exact .inr (by omega)

set_option maxRecDepth 100000 in
theorem rename_any (p : Nat) (L : Lay) (D : DS) (a b : Bs) (T : Nat) (w : World) (h : DP w p L D) (hI : Inv D T) (hT : T ≤ 100000) (ha : a.length ≤ maxLen) (hb : b.length ≤ maxLen) :
    Calls Tryz.prog 24 #[.pointer (some ⟨p, 0, none⟩), .string ⟨a.toArray⟩, .string ⟨b.toArray⟩] w fun e w' => OpPost p L (renE D a b) (renD D a b) w e w' := by
  have CT := Lib.hid (there_any p L D a ha w h)
  have CN := Lib.hid (named_any b hb w)
  have CD := Lib.hid (fun (w : World) (h : DP w p L (fallD D)) => hI.does hT p L ⟨1, a, b, 0⟩ ⟨ha, hb, Nat.zero_le _⟩ (by show 1 ≤ 2; omega) w h)
  cases hnb : namedB b with
  | false =>
    have hx : renE0 D a b = 6 := by unfold renE0; rw [hnb]; rfl
    have h6 : goesE D 6 ≠ 0 := by intro e; have := (goesE_zero e).2.1; omega
    have e1 : renE D a b = goesE D 6 := by unfold renE; rw [hx]
    have e2 : renD D a b = goesD D 6 := by unfold renD; rw [e1, if_neg h6, hx]
    rw [e1, e2]
    have CG := Lib.hid (hI.goes hT p L 6 w h)
    rw [hnb] at CN
    have q := err_ne h6
    generalize thereE D a = th at *
    clear h hI hT ha hb hnb hx h6 e1 e2
    go_enter Tryz.func24, Tryz.ntmps24
    go_wp2_with (first | (go_at_call 55; refine CT.out.mono ?_; rintro e w' ⟨rfl, rfl⟩) | (go_at_call 37; refine CN.out.mono ?_; rintro e w' ⟨rfl, rfl⟩) | (go_at_call 38; refine CG.out.mono ?_; rintro e w1 ⟨rfl, hD1, hg1⟩))
    go_returns
    exact ⟨rfl, L, hD1, fun k hk => .inl hk, Keep.self hg1⟩
  | true =>
    have hx : renE0 D a b = thereE D a := by unfold renE0; rw [hnb]; rfl
    have e1 : renE D a b = goesE D (thereE D a) := by unfold renE; rw [hx]
    have CG := Lib.hid (hI.goes hT p L (thereE D a) w h)
    rw [hnb] at CN
    by_cases hg0 : goesE D (thereE D a) = 0
    · obtain ⟨-, -, -, hgd⟩ := goesE_zero hg0
      have e2 : renD D a b = doesD (fallD D) ⟨1, a, b, 0⟩ := by unfold renD; rw [if_pos (by rw [e1]; exact hg0)]
      rw [hg0, hgd] at CG
      rw [e1, e2, hg0]
      generalize thereE D a = th at *
      clear h hI hT ha hb hnb hx hg0 hgd e1 e2
      go_enter Tryz.func24, Tryz.ntmps24
      go_wp2_with (first | (go_at_call 55; refine CT.out.mono ?_; rintro e w' ⟨rfl, rfl⟩) | (go_at_call 37; refine CN.out.mono ?_; rintro e w' ⟨rfl, rfl⟩) | (go_at_call 38; refine CG.out.mono ?_; rintro e w1 ⟨rfl, hD1, hg1⟩; have HD1 := Lib.hid hD1; have HG1 := Lib.hid hg1; clear hD1 hg1) | (go_at_call 39; refine (CD.out _ HD1.out).mono ?_; rintro e w3 hp3; obtain ⟨rfl, hp3'⟩ := id hp3; have HP3 := Lib.hid hp3; clear hp3 hp3'))
      go_returns
      exact ⟨by rw [errV_zero]; rfl, HP3.out.op HG1.out⟩
    · have e2 : renD D a b = goesD D (thereE D a) := by unfold renD; rw [if_neg (by rw [e1]; exact hg0), hx]
      rw [e1, e2]
      generalize thereE D a = th at *
      have q := err_ne hg0
      clear h hI hT ha hb hnb hx hg0 e1 e2
      go_enter Tryz.func24, Tryz.ntmps24
      go_wp2_with (first | (go_at_call 55; refine CT.out.mono ?_; rintro e w' ⟨rfl, rfl⟩) | (go_at_call 37; refine CN.out.mono ?_; rintro e w' ⟨rfl, rfl⟩) | (go_at_call 38; refine CG.out.mono ?_; rintro e w1 ⟨rfl, hD1, hg1⟩))
      go_returns
      exact ⟨rfl, L, hD1, fun k hk => .inl hk, Keep.self hg1⟩

set_option maxRecDepth 100000 in
theorem remove_any (p : Nat) (L : Lay) (D : DS) (a : Bs) (T : Nat) (w : World) (h : DP w p L D) (hI : Inv D T) (hT : T ≤ 100000) (ha : a.length ≤ maxLen) :
    Calls Tryz.prog 25 #[.pointer (some ⟨p, 0, none⟩), .string ⟨a.toArray⟩] w fun e w' => OpPost p L (remE D a) (remD D a) w e w' := by
  have CT := Lib.hid (there_any p L D a ha w h)
  have CD := Lib.hid (fun (w : World) (h : DP w p L (fallD D)) => hI.does hT p L ⟨2, a, [], 0⟩ ⟨ha, by simp, Nat.zero_le _⟩ (Nat.le_refl 2) w h)
  have CG := Lib.hid (hI.goes hT p L (thereE D a) w h)
  have e1 : remE D a = goesE D (thereE D a) := rfl
  by_cases hg0 : goesE D (thereE D a) = 0
  · obtain ⟨-, -, -, hgd⟩ := goesE_zero hg0
    have e2 : remD D a = doesD (fallD D) ⟨2, a, [], 0⟩ := by unfold remD; rw [if_pos (by rw [e1]; exact hg0)]
    rw [hg0, hgd] at CG
    rw [e1, e2, hg0]
    generalize thereE D a = th at *
    clear h hI hT ha hg0 hgd e1 e2
    go_enter Tryz.func25, Tryz.ntmps25
    go_wp2_with (first | (go_at_call 55; refine CT.out.mono ?_; rintro e w' ⟨rfl, rfl⟩) | (go_at_call 38; refine CG.out.mono ?_; rintro e w1 ⟨rfl, hD1, hg1⟩; have HD1 := Lib.hid hD1; have HG1 := Lib.hid hg1; clear hD1 hg1) | (go_at_call 39; refine (CD.out _ HD1.out).mono ?_; rintro e w3 hp3; obtain ⟨rfl, hp3'⟩ := id hp3; have HP3 := Lib.hid hp3; clear hp3 hp3'))
    go_returns
    exact ⟨by rw [errV_zero]; rfl, HP3.out.op HG1.out⟩
  · have e2 : remD D a = goesD D (thereE D a) := by unfold remD; rw [if_neg (by rw [e1]; exact hg0)]
    rw [e1, e2]
    generalize thereE D a = th at *
    have q := err_ne hg0
    clear h hI hT ha hg0 e1 e2
    go_enter Tryz.func25, Tryz.ntmps25
    go_wp2_with (first | (go_at_call 55; refine CT.out.mono ?_; rintro e w' ⟨rfl, rfl⟩) | (go_at_call 38; refine CG.out.mono ?_; rintro e w1 ⟨rfl, hD1, hg1⟩))
    go_returns
    exact ⟨rfl, L, hD1, fun k hk => .inl hk, Keep.self hg1⟩

set_option maxHeartbeats 1000000 in
theorem clone_any (b : Nat) (m : NM) (w : World) (h : NamesAt w b m) :
    Calls Tryz.prog 30 #[.map (some b)] w fun e w' => e = .returned (.map (some w.heap.size)) ∧ NamesAt w' w.heap.size m ∧ w.grownBy w' none := by
  obtain ⟨es, clock, hb, F, hs, hD⟩ := h
  have FH := Lib.hid (And.intro F (And.intro hs hD))
  clear F hs hD
  have hq := run_eql_map_nil_sl (P := Tryz.prog) w 58 _ _ (some b) Tryz.underlying58
  have hx := @run_callFunc_extern Tryz.prog 57 _ Extern.MapsClone.clone Tryz.func57 (by kernel_rfl) (by kernel_rfl) (by kernel_rfl) (by kernel_rfl)
  have hc := run_maps_clone_sl (P := Tryz.prog) w 58 hb
  have ht := fun v w => run_typeAssert_map_sl (P := Tryz.prog) w 58 20 _ _ v Tryz.underlying58
  go_enter Tryz.func30, Tryz.ntmps30
  go_wp2
  go_ret
  exact ⟨rfl, ⟨es, clock, (MapKept.heap_alloc w _).1, FH.out⟩, World.grownBy_alloc w _ none⟩
end Go.Proofs.YtdiaejphgcoknaaGreatDoor
