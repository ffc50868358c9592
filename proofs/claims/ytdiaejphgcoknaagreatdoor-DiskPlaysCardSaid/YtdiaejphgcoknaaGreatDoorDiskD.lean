/- disk: does, Create: contracts. -/
import Derived.Test.YtdiaejphgcoknaaGreatDoorDiskC
import Derived.Deep.RegionLaw
set_option linter.unusedSimpArgs false
set_option linter.unusedVariables false
namespace Go.Proofs.YtdiaejphgcoknaaGreatDoor
open Go.RowKit Go.Extern.Stop Go.Stop Go.Extern

/-- append of one struct as a step of a region that draws; where the new row lies. -/
theorem step_row1L {ops : Array Oper} {o : Oper} {a : Act} {w : World} {K : Act → World → Prop} {Q : Exit → Act → World → Prop} {E : Prop}
    (S T sz bytes : Nat) (z : Value) (hu : Tryz.prog.underlying S = some (.slice T)) (hi : (Tryz.prog.info? T).map (fun i => (i.zero, i.size, i.bytes)) = some (some z, sz, bytes)) (hz : z.cells.size = sz) (hsz : 0 < sz)
    (hgd : o.guard = none) (s x : Operand) (ho : o.op = .call { callee := .builtin .append, args := #[s, x], argTypes := #[S, S] })
    (W0 : World) (B : Nat) (v : Value) (n : Nat) (cs news : List Value) (hs : a.eval s = v) (hown : W0.ownsRow B T sz v n cs) (N : Nat) (hx : a.eval x = .slice (some ⟨N, 0, none⟩) 1 1)
    (hN : w.heap[N]? = some (.cells news.toArray T (0, 0))) (hW : Below W0.heap.size W0 w) (hl : news.length = sz) (h1 : ∀ u ∈ news, u.oneCell' = true) (hlen : n ≤ 1000000) (hby : bytes ≤ 1000000) (hB : B ≤ W0.heap.size)
    (hK : ∀ g cap w', w'.ownsRow B T sz (.slice (some ⟨g, 0, none⟩) (n + 1) cap) (n + 1) (cs ++ news) → W0.grownBy w' v.ownBlock → (v.ownBlock = some g ∨ W0.heap.size ≤ g) → K (a.put o.dst (.slice (some ⟨g, 0, none⟩) (n + 1) cap)) w') :
    if Region.wanted o (yielded ops a.tmps) = true then Oper.wp Tryz.prog o a w K Q else E := by
  obtain ⟨i0, hi0, hz0, hz1, hz2⟩ := info_parts hi
  have hmul : (n + 1) * bytes ≤ 140737488355328 := Nat.le_trans (Nat.mul_le_mul (show n + 1 ≤ 1000001 by omega) hby) (by decide)
  refine step_append_lies w hgd s x S ho B T i0 z sz bytes hu hi0 hz0 hz1 hz2 hz hsz v n cs hs (row_ext hown hW) ⟨N, 0, none⟩ 1 1 news hx (by omega) ?_ h1 (by omega) (by unfold maxLen; omega) hmul (Nat.le_trans hB hW.size) w.heap.size rfl ?_
  · intro j u hj
    rw [Go.WideShapes.add_plain, Nat.zero_add, cell_of_row _ N j news.toArray T (0, 0) hN]
    simpa using hj
  · intro g cap w' hown' hgrow hat hlt
    have hg2 : W0.grownBy w' v.ownBlock := ⟨hgrow.os.trans hW.os, hgrow.tape.trans hW.tape, hgrow.output.trans hW.output, Nat.le_trans hW.size hgrow.size, fun k hk hne => (hgrow.block k (Nat.lt_of_lt_of_le hk hW.size) hne).trans (hW.block k hk)⟩
    refine hK g cap w' hown' hg2 ?_
    rcases hat with h2 | h2
    · exact .inl h2
    · exact .inr (by rw [h2]; exact hW.size)
theorem infoStep : (Tryz.prog.info? 73).map (fun i => (i.zero, i.size, i.bytes)) = some (some (.agg #[.int .i64 0, .string ⟨#[]⟩, .string ⟨#[]⟩, .int .i64 0]), 4, 48) := by kernel_rfl
theorem infoFile : (Tryz.prog.info? 68).map (fun i => (i.zero, i.size, i.bytes)) = some (some (.agg #[.slice none 0 0, .int .i64 0]), 2, 32) := by kernel_rfl
theorem stepc1_one (s : Stp) : ∀ u ∈ stepc1 s, u.oneCell' = true := by
  intro u hu; unfold stepc1 at hu; simp at hu; rcases hu with rfl | rfl | rfl | rfl <;> rfl
/-- What disk.does leaves. -/
def DoesPost (p : Nat) (L : Lay) (D : DS) (s : Stp) (w : World) (e : Ending) (w' : World) : Prop :=
  e = .returned (.tuple #[]) ∧ ∃ v, DP w' p { L with vs := v } (doesD D s) ∧ (∀ k, v.ownBlock = some k → L.vs.ownBlock = some k ∨ w.heap.size ≤ k) ∧ Keep (L.has p) w w'
set_option maxRecDepth 100000 in
set_option maxHeartbeats 1000000 in
theorem does_any (p : Nat) (L : Lay) (D : DS) (s : Stp) (w : World) (h : DP w p L D) (hs : s.fit) (hk : s.kind ≤ 2) (hm : D.names.length ≤ 1000000) (hst : D.steps.length ≤ 1000000) (hv : ∀ q ∈ D.names, q.2 ≤ 9223372036854775807) :
    Calls Tryz.prog 39 #[.pointer (some ⟨p, 0, none⟩), stepV s] w fun e w' => DoesPost p L D s w e w' := by
  have BQ := Lib.hid (Blk.new w (stepc1 s).toArray 73)
  have H1 := Lib.hid (h.stays (w' := w.alloc (.cells (stepc1 s).toArray 73)) fun k hk => heap_alloc_old w _ (h.lt hk))
  have CA := Lib.hid (fun w h => act_any D.names L.bn s w h hs hk hm hv)
  have H := Lib.hid h
  have lp := h.blk.lt
  have c2 : w.cell? ⟨p, 2, none⟩ = some (.map (some L.bn)) := h.cell 2
  have c22 : (w.alloc (.cells (stepc1 s).toArray 73)).cell? ⟨p, 2, none⟩ = some (.map (some L.bn)) := H1.out.cell 2
  have HS := Lib.hid hst
  obtain ⟨kd, nm, to, fl⟩ := s
  unfold stepV
  clear h hs hk hm hv hst
  go_enter Tryz.func39, Tryz.ntmps39
  have hbq : w.heap.size ≠ L.bn := by have := H.out.nam.lt; omega
  have q0 : (w.alloc (.cells (stepc1 ⟨kd, nm, to, fl⟩).toArray 73)).cell? ⟨w.heap.size, 0, none⟩ = some (.int .i64 (kd : Int)) := BQ.out.cell 0
  have q1 : (w.alloc (.cells (stepc1 ⟨kd, nm, to, fl⟩).toArray 73)).cell? ⟨w.heap.size, 1, none⟩ = some (.string ⟨nm.toArray⟩) := BQ.out.cell 1
  have q2 : (w.alloc (.cells (stepc1 ⟨kd, nm, to, fl⟩).toArray 73)).cell? ⟨w.heap.size, 2, none⟩ = some (.string ⟨to.toArray⟩) := BQ.out.cell 2
  have q3 : (w.alloc (.cells (stepc1 ⟨kd, nm, to, fl⟩).toArray 73)).cell? ⟨w.heap.size, 3, none⟩ = some (.int .i64 (fl : Int)) := BQ.out.cell 3
  have SA := Lib.hid (And.intro c22 (And.intro q0 (And.intro q1 (And.intro q2 q3))))
  go_wp2
  go_region_held3 (fun w' => w'.cell? ⟨p, 2, none⟩ = some (.map (some L.bn)) ∧ w'.cell? ⟨w.heap.size, 0, none⟩ = some (.int .i64 (kd : Int)) ∧ w'.cell? ⟨w.heap.size, 1, none⟩ = some (.string ⟨nm.toArray⟩) ∧ w'.cell? ⟨w.heap.size, 2, none⟩ = some (.string ⟨to.toArray⟩) ∧ w'.cell? ⟨w.heap.size, 3, none⟩ = some (.int .i64 (fl : Int)))
    (first | with_reducible exact SB.out | with_reducible exact SA.out | go_keep)
    (first | (go_at_call 42; refine (CA.out _ ?_).mono ?_; exact H1.out.nam; rintro e w1 ⟨rfl, hn1, hg1⟩; have gA : (w.alloc (.cells (stepc1 ⟨kd, nm, to, fl⟩).toArray 73)).grownBy w1 (some L.bn) := (by first | exact hg1 | exact ⟨hg1.os, hg1.tape, hg1.output, hg1.size, hg1.block⟩); have D1 := Lib.hid (DP.named H1.out gA hn1); have BQ1 := Lib.hid (BQ.out.grown gA (by intro e; simp only [Option.some.injEq] at e; exact hbq e)); have SB := Lib.hid (show w1.cell? ⟨p, 2, none⟩ = some (.map (some L.bn)) ∧ w1.cell? ⟨w.heap.size, 0, none⟩ = some (.int .i64 (kd : Int)) ∧ w1.cell? ⟨w.heap.size, 1, none⟩ = some (.string ⟨nm.toArray⟩) ∧ w1.cell? ⟨w.heap.size, 2, none⟩ = some (.string ⟨to.toArray⟩) ∧ w1.cell? ⟨w.heap.size, 3, none⟩ = some (.int .i64 (fl : Int)) from ⟨D1.out.cell 2, BQ1.out.cell 0, BQ1.out.cell 1, BQ1.out.cell 2, BQ1.out.cell 3⟩)))
  have gW : w.grownBy w1 (some L.bn) := grown_under gA
  clear c2 c22 q0 q1 q2 q3 SA SB hn1 hg1 CA
  have lz := gA.size
  simp only [World.size_alloc] at lz
  have s4 : w1.cell? ⟨p, 4, none⟩ = some L.vs := D1.out.cell 4
  have f4 := D1.out.free 4
  have b0 : w1.cell? ⟨w.heap.size, 0, none⟩ = some (.int .i64 (kd : Int)) := BQ1.out.cell 0
  have b1 : w1.cell? ⟨w.heap.size, 1, none⟩ = some (.string ⟨nm.toArray⟩) := BQ1.out.cell 1
  have b2 : w1.cell? ⟨w.heap.size, 2, none⟩ = some (.string ⟨to.toArray⟩) := BQ1.out.cell 2
  have b3 : w1.cell? ⟨w.heap.size, 3, none⟩ = some (.int .i64 (fl : Int)) := BQ1.out.cell 3
  have lp1 := D1.out.blk.lt
  have lq1 := BQ1.out.lt
  go_wp2
  go_region_law ((refine step_row1L 60 73 4 48 _ Tryz.underlying60 infoStep rfl (by decide) (by rfl) _ _ (by rfl) w1 0 L.vs D.steps.length (stepcells D.steps) (stepc1 ⟨kd, nm, to, fl⟩) (by rfl) D1.out.stp _ (by rfl) (heap_alloc_new _ _) (grown_of _) (by rfl) (stepc1_one _) HS.out (by decide) (Nat.zero_le _) ?_; intro g cap w2 hown2 hg2 hat2; have D2 := Lib.hid (DP.steps D1.out hg2 hown2); have z4 : w2.cell? ⟨p, 4, none⟩ = some L.vs := hg2.cell s4 (fun e => D1.out.others.2.1 e.symm); have zf : w2.frozen? ⟨p, 4, none⟩ = false := (World.frozen?_of_block (a := ⟨p, 4, none⟩) (hg2.block p lp1 (fun e => D1.out.others.2.1 e.symm))).trans f4))
  all_goals
    go_end0
    refine ⟨rfl, _, D2.out, fun k hk => ?_, ?_⟩
    · obtain rfl : g = k := by simpa [Value.ownBlock] using hk
      rcases hat2 with h1 | h1
      · exact .inl h1
      · exact .inr (by omega)
    · refine (Keep.grown gW fun k hk => ?_).trans ((Keep.grown hg2 fun k hk => ?_).trans (Keep.grown (grown_set _ _ _ _) fun k hk => ?_))
      · exact .inr (.inr (.inr (.inl (Option.some.inj hk).symm)))
      · exact .inr (.inr (.inl hk))
      · exact .inl (Option.some.inj hk).symm
end Go.Proofs.YtdiaejphgcoknaaGreatDoor
