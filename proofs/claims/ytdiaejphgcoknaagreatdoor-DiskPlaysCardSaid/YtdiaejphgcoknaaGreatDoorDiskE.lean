/- disk: Create: contract. -/
import Derived.Test.YtdiaejphgcoknaaGreatDoorDiskD
import Derived.Test.YtdiaejphgcoknaaGreatDoorDiskI
set_option linter.unusedSimpArgs false
set_option linter.unusedVariables false
namespace Go.Proofs.YtdiaejphgcoknaaGreatDoor
open Go.RowKit Go.Extern.Stop Go.Stop Go.Extern

/-- What an operation leaves: an error's code x, the disk D'. -/
def OpPost (p : Nat) (L : Lay) (x : Int) (D' : DS) (w : World) (e : Ending) (w' : World) : Prop :=
  e = .returned (errV x) ∧ ∃ L', DP w' p L' D' ∧ (∀ k, L'.has p k → L.has p k ∨ w.heap.size ≤ k) ∧ Keep (L.has p) w w'
theorem Keep.self {p : Nat} {L : Lay} {w w' : World} (h : w.grownBy w' (some p)) : Keep (L.has p) w w' := Keep.grown h fun k hk => .inl (Option.some.inj hk).symm
theorem Keep.step {p : Nat} {L L1 : Lay} {w w1 w' : World} (hk : Keep (L.has p) w w1) (hL : ∀ k, L1.has p k → L.has p k ∨ w.heap.size ≤ k) (h3 : Keep (L1.has p) w1 w') : Keep (L.has p) w w' := by
  have hs := hk.size
  refine ⟨h3.os.trans hk.os, h3.tape.trans hk.tape, h3.output.trans hk.output, Nat.le_trans hk.size h3.size, fun k hlt hn => ?_⟩
  rw [← hk.block k hlt hn]
  refine h3.block k (by omega) fun h => ?_
  rcases hL k h with h | h
  · exact hn h
  · omega
theorem has_vs {p : Nat} {L : Lay} {v : Value} {N k : Nat} (h : ({ L with vs := v } : Lay).has p k) (hv : ∀ k, v.ownBlock = some k → L.vs.ownBlock = some k ∨ N ≤ k) : L.has p k ∨ N ≤ k := by
  rcases h with h | h | h | h | h | h
  · exact .inl (.inl h)
  · exact .inl (.inr (.inl h))
  · rcases hv k h with h | h
    · exact .inl (.inr (.inr (.inl h)))
    · exact .inr h
  · exact .inl (.inr (.inr (.inr (.inl h))))
  · exact .inl (.inr (.inr (.inr (.inr (.inl h)))))
  · exact .inl (.inr (.inr (.inr (.inr (.inr h)))))
theorem has_made {p : Nat} {L : Lay} {v : Value} {N k : Nat} (h : ({ L with va := v, fv := L.fv ++ [Value.slice none 0 0] } : Lay).has p k) (hv : ∀ k, v.ownBlock = some k → L.va.ownBlock = some k ∨ N ≤ k) : L.has p k ∨ N ≤ k := by
  rcases h with h | h | h | h | h | ⟨j, hj, h⟩
  · exact .inl (.inl h)
  · rcases hv k h with h | h
    · exact .inl (.inr (.inl h))
    · exact .inr h
  · exact .inl (.inr (.inr (.inl h)))
  · exact .inl (.inr (.inr (.inr (.inl h))))
  · exact .inl (.inr (.inr (.inr (.inr (.inl h)))))
  · simp only [List.length_append, List.length_singleton] at hj
    unfold Lay.at at h
    rcases Nat.lt_or_ge j L.fv.length with h1 | h1
    · simp only [getD_appL h1] at h
      exact .inl (.inr (.inr (.inr (.inr (.inr ⟨j, h1, h⟩)))))
    · obtain rfl : j = L.fv.length := by omega
      simp only [getD_appE] at h
      simp [Value.ownBlock] at h
/-- One turning behind the other. -/
theorem OpPost.after {p : Nat} {L : Lay} {x : Int} {D' : DS} {w w1 w' : World} {e : Ending} (hk : Keep (L.has p) w w1) {L1 : Lay} (hL : ∀ k, L1.has p k → L.has p k ∨ w.heap.size ≤ k) (h : OpPost p L1 x D' w1 e w') : OpPost p L x D' w e w' := by
  obtain ⟨he, L', h1, h2, h3⟩ := h
  have hs := hk.size
  refine ⟨he, L', h1, fun k hk' => ?_, ?_⟩
  · rcases h2 k hk' with h | h
    · exact hL k h
    · exact .inr (by omega)
  · refine ⟨h3.os.trans hk.os, h3.tape.trans hk.tape, h3.output.trans hk.output, Nat.le_trans hk.size h3.size, fun k hlt hn => ?_⟩
    rw [← hk.block k hlt hn]
    refine h3.block k (by omega) fun h => ?_
    rcases hL k h with h | h
    · exact hn h
    · omega
theorem DiskAt.op {p : Nat} {L : Lay} {x : Int} {D' : DS} {w w' : World} {e : Ending} {F : Nat → Prop} (hF : ∀ k, L.has p k → F k) (h : OpPost p L x D' w e w') : e = .returned (errV x) ∧ DiskAt w' (Grow F w w') p D' ∧ Keep F w w' := by
  obtain ⟨he, L', h1, h2, h3⟩ := h
  refine ⟨he, ⟨L', h1, fun k hk => ?_⟩, h3.mono fun k _ h => hF k h⟩
  rcases h2 k hk with h | h
  · exact .inl (hF k h)
  · exact .inr ⟨h, h1.lt hk⟩
theorem goesE_zero {D : DS} {x : Int} (h : goesE D x = 0) : D.down = false ∧ x = 0 ∧ downF D = false ∧ goesD D x = fallD D := by
  unfold goesE at h
  cases h1 : D.down with
  | true => rw [h1] at h; simp at h
  | false =>
    rw [h1] at h
    by_cases h2 : x = 0
    · rw [h2] at h ⊢
      cases h3 : downF D with
      | true => rw [h3] at h; simp at h
      | false => exact ⟨rfl, rfl, rfl, by unfold goesD; rw [h1]; simp⟩
    · simp [h2] at h

theorem rowShape {w : World} {B T sz n : Nat} {v : Value} {cs : List Value} (h : w.ownsRow B T sz v n cs) : ∃ ao cap, v = .slice ao n cap := by
  rcases row_head h with ⟨e, h0⟩ | ⟨g, cap, e, _⟩
  · exact ⟨none, 0, by rw [e, h0]⟩
  · exact ⟨_, cap, e⟩
set_option maxRecDepth 100000 in
set_option maxHeartbeats 1000000 in
theorem create_any (p : Nat) (L : Lay) (D : DS) (n : Bs) (T : Nat) (w : World) (h : DP w p L D) (hI : Inv D T) (hT : T ≤ 100000) (hn : n.length ≤ maxLen) :
    Calls Tryz.prog 17 #[.pointer (some ⟨p, 0, none⟩), .string ⟨n.toArray⟩] w fun e w' => OpPost p L (goesE D (createE D n)) (createD D n) w e w' := by
  have CN := Lib.hid (named_any n hn w)
  have HLK := h.nam.look hn
  have HCT := h.nam.count
  have c2 : w.cell? ⟨p, 2, none⟩ = some (.map (some L.bn)) := h.cell 2
  obtain ⟨d0, d1⟩ := hI.done
  have ha := hI.armed.2
  have CG := Lib.hid (fun x => goes_any p L D x w h d0 (by omega) ha)
  have hnl := hI.nam
  have H := Lib.hid h
  have HI := Lib.hid hI
  have HT := Lib.hid hT
  have HN := Lib.hid hn
  generalize hx : createE D n = x
  have HX := Lib.hid hx
  have HNG : Hid (goesE D x ≠ 0 → createD D n = goesD D x) := fun hg => by unfold createD; rw [← hx] at hg; rw [if_neg hg, hx]
  have HYG : Hid (goesE D x = 0 → createD D n = doesD { fallD D with all := D.all ++ [DF.nought] } ⟨0, n, [], D.all.length⟩) := fun hg => by
    unfold createD
    rw [if_pos (by rw [hx]; exact hg), hx, (goesE_zero hg).2.2.2]
  clear h hI d0 d1 ha hn
  cases hnb : namedB n with
  | false =>
    have hx6 : x = 6 := by rw [← hx]; unfold createE; rw [hnb]; rfl
    have CG6 := Lib.hid (CG.out 6)
    have h6 : goesE D 6 ≠ 0 := by intro e; have := (goesE_zero e).2.1; omega
    rw [HNG.out (by rw [hx6]; exact h6), hx6]
    rw [hnb] at CN
    generalize ((nget D.names n).getD 0) = no at *
    generalize (nget D.names n).isSome = th at *
    have q := err_ne h6
    clear hx hx6 hnb h6 HNG HYG HX
    go_enter Tryz.func17, Tryz.ntmps17
    go_wp2_with (first | (go_at_call 37; refine CN.out.mono ?_; rintro e w' ⟨rfl, rfl⟩) | (go_at_call 38; refine CG6.out.mono ?_; rintro e w1 ⟨rfl, hD1, hg1⟩))
    go_returns
    exact ⟨rfl, L, hD1, fun k hk => .inl hk, Keep.self hg1⟩
  | true =>
    rw [hnb] at CN
    cases hth : (nget D.names n).isSome with
    | true =>
      rw [hth] at HLK
      have hxx : x = 8 := by rw [← hx]; unfold createE; rw [hnb, hth]; rfl
      clear hnb hth
      have CGX := Lib.hid (CG.out 8)
      have hgx : goesE D 8 ≠ 0 := by intro e; have := (goesE_zero e).2.1; omega
      rw [HNG.out (by rw [hxx]; exact hgx), hxx]
      generalize ((nget D.names n).getD 0) = no at *
      have q := err_ne hgx
      clear hx hxx hgx HNG HYG HX
      go_enter Tryz.func17, Tryz.ntmps17
      go_wp2_with (first | (go_at_call 37; refine CN.out.mono ?_; rintro e w' ⟨rfl, rfl⟩) | (go_at_call 38; refine CGX.out.mono ?_; rintro e w1 ⟨rfl, hD1, hg1⟩))
      go_returns
      exact ⟨rfl, L, hD1, fun k hk => .inl hk, Keep.self hg1⟩
    | false =>
      rw [hth] at HLK
      by_cases h64 : 64 ≤ D.names.length
      · have hxx : x = 5 := by rw [← hx]; unfold createE; rw [hnb, hth]; simp [h64]
        have q64 : decide ((64 : Int) ≤ (D.names.length : Int)) = true := by simp; omega
        clear hnb hth
        have CGX := Lib.hid (CG.out 5)
        have hgx : goesE D 5 ≠ 0 := by intro e; have := (goesE_zero e).2.1; omega
        rw [HNG.out (by rw [hxx]; exact hgx), hxx]
        generalize ((nget D.names n).getD 0) = no at *
        have q := err_ne hgx
        clear hx hxx hgx HNG HYG HX
        go_enter Tryz.func17, Tryz.ntmps17
        go_wp2_with (first | (go_at_call 37; refine CN.out.mono ?_; rintro e w' ⟨rfl, rfl⟩) | (go_at_call 38; refine CGX.out.mono ?_; rintro e w1 ⟨rfl, hD1, hg1⟩))
        go_returns
        exact ⟨rfl, L, hD1, fun k hk => .inl hk, Keep.self hg1⟩
      · have hxx : x = 0 := by rw [← hx]; unfold createE; rw [hnb, hth]; simp [h64]
        have q64 : decide ((64 : Int) ≤ (D.names.length : Int)) = false := by simp; omega
        have CGX := Lib.hid (CG.out 0)
        by_cases hg0 : goesE D 0 = 0
        · obtain ⟨-, -, -, hgd⟩ := goesE_zero hg0
          rw [HYG.out (by rw [hxx]; exact hg0), hxx]
          rw [hg0, hgd] at CGX
          have HG0 := Lib.hid hg0
          have HAL := Lib.hid (show D.all.length ≤ 1000000 from by have := HI.out.cnt; have := HT.out; omega)
          have CD := Lib.hid (fun (w : World) (L : Lay) (h : DP w p L { fallD D with all := D.all ++ [DF.nought] }) => does_any p L { fallD D with all := D.all ++ [DF.nought] } ⟨0, n, [], D.all.length⟩ w h ⟨HN.out, by simp, by have := HI.out.cnt; have := HT.out; show D.all.length ≤ _; omega⟩ (Nat.zero_le _) (by have := HI.out.nam; have := HT.out; show D.names.length ≤ _; omega) (by have := HI.out.stp; have := HT.out; show D.steps.length ≤ _; omega) (HI.out.vals64 HT.out))
          generalize ((nget D.names n).getD 0) = no at *
          clear hx hxx hnb hth hg0 hgd HNG HYG HX CG HI HT
          go_enter Tryz.func17, Tryz.ntmps17
          go_wp2_with (first | (go_at_call 37; refine CN.out.mono ?_; rintro e w' ⟨rfl, rfl⟩) | (go_at_call 38; refine CGX.out.mono ?_; rintro e w1 ⟨rfl, hD1, hg1⟩; obtain ⟨ao, cap, hsh⟩ := rowShape hD1.all; have x1 : w1.cell? ⟨p, 1, none⟩ = some (.slice ao D.all.length cap) := (hD1.cell 1).trans (congrArg some hsh); have f1 := hD1.free 1; have HALL := Lib.hid (show w1.ownsRow 0 68 2 (.slice ao D.all.length cap) D.all.length (filecells D.all L.fv) from hsh ▸ hD1.all); have HD1 := Lib.hid hD1; have HSH := Lib.hid hsh; have G1 := Lib.hid hg1; have lp1 := hD1.blk.lt; clear hsh hD1 hg1) | (at_builtin; refine wpList_row1 59 68 2 32 _ Tryz.underlying59 infoFile rfl (by decide) rfl (.tmp 49) (.tmp 51) rfl 0 _ _ _ [.slice none 0 0, .int .i64 0] rfl HALL.out rfl (by simp) rfl (by intro u hu; simp at hu; rcases hu with rfl | rfl <;> rfl) HAL.out (by decide) (Nat.zero_le _) ?_; intro v2 w2 hown2 _ hg2 hat2; obtain ⟨a2, c2', hv2⟩ := rowShape hown2; subst hv2; have HG2 := Lib.hid (show w1.grownBy w2 L.va.ownBlock from HSH.out ▸ hg2); have D2 := Lib.hid (DP.made HD1.out HG2.out hown2); have z1 : w2.cell? ⟨p, 1, none⟩ = some (.slice ao D.all.length cap) := HG2.out.cell x1 (fun e => HD1.out.others.1 e.symm); have zf : w2.frozen? ⟨p, 1, none⟩ = false := (World.frozen?_of_block (a := ⟨p, 1, none⟩) (HG2.out.block p lp1 (fun e => HD1.out.others.1 e.symm))).trans f1; have HAT := Lib.hid (show (Value.slice ao D.all.length cap).ownBlock = (Value.slice a2 (D.all.length + 1) c2').ownBlock ∨ (Value.slice a2 (D.all.length + 1) c2').ownBlock = some (w1.heap.size + 1) from hat2); clear hown2 hg2 hat2 x1 f1) | (go_at_call 39; refine (CD.out _ _ D2.out).mono ?_; rintro e w3 ⟨rfl, v3, hD3, hv3, hk3⟩))
          go_returns
          refine ⟨by rw [HG0.out]; rfl, _, hD3, fun k hk => ?_, ?_⟩
          · have e := HAT.out
            have z := G1.out.size
            have z2 := HG2.out.size
            rcases has_vs (L := { L with va := Value.slice a2 (D.all.length + 1) c2', fv := L.fv ++ [Value.slice none 0 0] }) (N := w.heap.size) hk (fun k hk => by
              rcases hv3 k hk with h | h
              · exact .inl h
              · exact .inr (by simp at h; omega)) with h | h
            · refine has_made h fun k hk => ?_
              rcases e with e | e
              · exact .inl ((congrArg Value.ownBlock HSH.out).trans (e.trans hk))
              · rw [e] at hk; exact .inr (by have := Option.some.inj hk; omega)
            · exact .inr h
          · have e := HAT.out
            have z := G1.out.size
            refine (Keep.self G1.out).trans ?_
            refine Keep.step ((Keep.grown HG2.out fun k hk => .inr (.inl hk)).trans (Keep.self (grown_set _ _ _ _))) (fun k hk => has_made hk fun k hk => ?_) hk3
            rcases e with e | e
            · exact .inl ((congrArg Value.ownBlock HSH.out).trans (e.trans hk))
            · rw [e] at hk; exact .inr (by have := Option.some.inj hk; omega)
        · rw [HNG.out (by rw [hxx]; exact hg0), hxx]
          generalize ((nget D.names n).getD 0) = no at *
          have q := err_ne hg0
          clear hx hxx hg0 hnb hth HNG HYG HX
          go_enter Tryz.func17, Tryz.ntmps17
          go_wp2_with (first | (go_at_call 37; refine CN.out.mono ?_; rintro e w' ⟨rfl, rfl⟩) | (go_at_call 38; refine CGX.out.mono ?_; rintro e w1 ⟨rfl, hD1, hg1⟩))
          go_returns
          exact ⟨rfl, L, hD1, fun k hk => .inl hk, Keep.self hg1⟩
end Go.Proofs.YtdiaejphgcoknaaGreatDoor
