/- append of one struct as a step of a region that draws its order. -/
import Derived.Test.YtdiaejphgcoknaaGreatDoorOwn
import Derived.Lib.Hide
set_option linter.unusedSimpArgs false
set_option linter.unusedVariables false
namespace Go.Proofs.YtdiaejphgcoknaaGreatDoor
open Go.RowKit
theorem step_row1 {ops : Array Oper} {o : Oper} {a : Act} {w : World} {K : Act → World → Prop} {Q : Exit → Act → World → Prop} {E : Prop}
    (S T sz bytes : Nat) (z : Value) (hu : Tryz.prog.underlying S = some (.slice T)) (hi : (Tryz.prog.info? T).map (fun i => (i.zero, i.size, i.bytes)) = some (some z, sz, bytes)) (hz : z.cells.size = sz) (hsz : 0 < sz)
    (hgd : o.guard = none) (s x : Operand) (ho : o.op = .call { callee := .builtin .append, args := #[s, x], argTypes := #[S, S] })
    (W0 : World) (B : Nat) (v : Value) (n : Nat) (cs news : List Value) (hs : a.eval s = v) (hown : W0.ownsRow B T sz v n cs) (N : Nat) (hx : a.eval x = .slice (some ⟨N, 0, none⟩) 1 1)
    (hN : w.heap[N]? = some (.cells news.toArray T (0, 0))) (hW : Below W0.heap.size W0 w) (hl : news.length = sz) (h1 : ∀ u ∈ news, u.oneCell' = true) (hlen : n ≤ 1000000) (hby : bytes ≤ 1000000) (hB : B ≤ W0.heap.size)
    (hK : ∀ g cap w', w'.ownsRow B T sz (.slice (some ⟨g, 0, none⟩) (n + 1) cap) (n + 1) (cs ++ news) → Below B W0 w' → W0.grownBy w' v.ownBlock → g < w'.heap.size → K (a.put o.dst (.slice (some ⟨g, 0, none⟩) (n + 1) cap)) w') :
    if Region.wanted o (yielded ops a.tmps) = true then Oper.wp Tryz.prog o a w K Q else E := by
  obtain ⟨i0, hi0, hz0, hz1, hz2⟩ := info_parts hi
  have hmul : (n + 1) * bytes ≤ 140737488355328 := Nat.le_trans (Nat.mul_le_mul (show n + 1 ≤ 1000001 by omega) hby) (by decide)
  refine step_append_lies w hgd s x S ho B T i0 z sz bytes hu hi0 hz0 hz1 hz2 hz hsz v n cs hs (row_ext hown hW) ⟨N, 0, none⟩ 1 1 news hx (by omega) ?_ h1 (by omega) (by unfold maxLen; omega) hmul (Nat.le_trans hB hW.size) w.heap.size rfl ?_
  · intro j u hj
    rw [Go.WideShapes.add_plain, Nat.zero_add, cell_of_row _ N j news.toArray T (0, 0) hN]
    simpa using hj
  · intro g cap w' hown' hgrow hat hlt
    have hg2 : W0.grownBy w' v.ownBlock := ⟨hgrow.os.trans hW.os, hgrow.tape.trans hW.tape, hgrow.output.trans hW.output, Nat.le_trans hW.size hgrow.size, fun k hk hne => (hgrow.block k (Nat.lt_of_lt_of_le hk hW.size) hne).trans (hW.block k hk)⟩
    exact hK g cap w' hown' ((Below.refl B W0).grown hg2 hB fun k hk => (hown.lt k hk).1) hg2 hlt
theorem row_typesR {w : World} {B B' T T' sz sz' n n' : Nat} {v u : Value} {cs cs' : List Value} (h : w.ownsRow B T sz v n cs) (h' : w.ownsRow B' T' sz' u n' cs') (hT : T ≠ T') : u.ownBlock = none ∨ u.ownBlock ≠ v.ownBlock := by
  rcases h'.2 with ⟨rfl, _⟩ | ⟨g', cap', cur', rfl, _, hg', _⟩
  · exact .inl rfl
  · right
    rcases h.2 with ⟨rfl, _⟩ | ⟨g, cap, cur, rfl, _, hg, _⟩
    · simp [Value.ownBlock]
    · intro e
      simp only [Value.ownBlock, Option.some.injEq] at e
      rw [e, hg] at hg'
      simp only [Option.some.injEq, Obj.cells.injEq] at hg'
      exact hT hg'.2.1
end Go.Proofs.YtdiaejphgcoknaaGreatDoor
