/- Rows of structs that a call has made itself: what stands, what is appended. -/
import Derived.Test.YtdiaejphgcoknaaGreatDoorStep
import Derived.Test.YtdiaejphgcoknaaGreatDoorApp
set_option linter.unusedSimpArgs false
set_option linter.unusedVariables false
namespace Go.Proofs.YtdiaejphgcoknaaGreatDoor
open Go.RowKit

theorem row_ext {w w' : World} {B T sz n : Nat} {v : Value} {cs : List Value} (h : w.ownsRow B T sz v n cs) (hb : Below w.heap.size w w') : w'.ownsRow B T sz v n cs := by
  obtain ⟨hl, h | ⟨g, cap, cur, rfl, hB, hg, hrest⟩⟩ := h
  · exact ⟨hl, .inl h⟩
  · exact ⟨hl, .inr ⟨g, cap, cur, rfl, hB, by rw [hb.block g (Array.getElem?_eq_some_iff.1 hg).1]; exact hg, hrest⟩⟩
theorem row_mono {w : World} {B B' T sz n : Nat} {v : Value} {cs : List Value} (h : w.ownsRow B T sz v n cs) (hb : B' ≤ B) : w.ownsRow B' T sz v n cs := by
  obtain ⟨hl, h | ⟨g, cap, cur, rfl, hB, hrest⟩⟩ := h
  · exact ⟨hl, .inl h⟩
  · exact ⟨hl, .inr ⟨g, cap, cur, rfl, Nat.le_trans hb hB, hrest⟩⟩
theorem row_cellAt {w : World} {B T sz n g cap : Nat} {cs : List Value} (h : w.ownsRow B T sz (.slice (some ⟨g, 0, none⟩) n cap) n cs) {j : Nat} {u : Value} (hj : cs[j]? = some u) : w.cell? ⟨g, j, none⟩ = some u := by
  have := h.cells (g := g) rfl j u hj
  rwa [Go.WideShapes.add_plain, Nat.zero_add] at this
theorem row_head {w : World} {B T sz n : Nat} {v : Value} {cs : List Value} (h : w.ownsRow B T sz v n cs) : (v = .slice none 0 0 ∧ n = 0) ∨ ∃ g cap, v = .slice (some ⟨g, 0, none⟩) n cap ∧ B ≤ g ∧ g < w.heap.size ∧ n ≤ cap ∧ cap ≤ maxLen ∧ (∀ j, w.frozen? ⟨g, j, none⟩ = false) ∧ ∃ cur, w.heap[g]? = some (.cells cur T (0, 0)) := by
  rcases h.2 with h | ⟨g, cap, cur, rfl, hB, hg, h1, h2, _⟩
  · exact .inl h
  · refine .inr ⟨g, cap, rfl, hB, (Array.getElem?_eq_some_iff.1 hg).1, h1, h2, fun j => ?_, cur, hg⟩
    simp [World.frozen?, hg]
section
variable {ops : Array Oper} {rest : List Oper} {o : Oper} {a : Act} {Q : Exit → Act → World → Prop}
/-- 'v = append(v, x)' of a struct of sz cells. -/
theorem wpList_row1 {W : World} (S T sz bytes : Nat) (z : Value) (hu : Tryz.prog.underlying S = some (.slice T)) (hi : (Tryz.prog.info? T).map (fun i => (i.zero, i.size, i.bytes)) = some (some z, sz, bytes)) (hz : z.cells.size = sz) (hsz : 0 < sz)
    (hgd : o.guard = none) (s x : Operand) (ho : o.op = .call { callee := .builtin .append, args := #[s, x], argTypes := #[S, S] })
    (B : Nat) (v : Value) (n : Nat) (cs news : List Value) (hs : a.eval s = v) (hown : W.ownsRow B T sz v n cs) {N : Nat} (hx : a.eval x = .slice (some ⟨N, 0, none⟩) 1 1) (hN : N = W.heap.size)
    (hl : news.length = sz) (h1 : ∀ u ∈ news, u.oneCell' = true) (hlen : n ≤ 1000000) (hby : bytes ≤ 1000000) (hB : B ≤ W.heap.size)
    (h : ∀ v' w', w'.ownsRow B T sz v' (n + 1) (cs ++ news) → Below B W w' → W.grownBy w' v.ownBlock → (v.ownBlock = v'.ownBlock ∨ v'.ownBlock = some (W.heap.size + 1)) → wpList Tryz.prog ops Q rest (a.put o.dst v') w') : wpList Tryz.prog ops Q (o :: rest) a (W.alloc (.cells news.toArray T)) := by
  subst hN
  obtain ⟨i0, hi0, hz0, hz1, hz2⟩ := info_parts hi
  have hmul : (n + 1) * bytes ≤ 140737488355328 := Nat.le_trans (Nat.mul_le_mul (show n + 1 ≤ 1000001 by omega) hby) (by decide)
  refine wpList_append_lies _ hgd s x S ho B T i0 z sz bytes hu hi0 hz0 hz1 hz2 hz hsz v n cs hs (hown.alloc _) ⟨W.heap.size, 0, none⟩ 1 1 news hx (by omega) ?_ h1 (by omega) (by unfold maxLen; omega) hmul (by simp; omega) (W.heap.size + 1) (by simp) ?_
  · intro j u hj
    rw [Go.WideShapes.add_plain, Nat.zero_add, cell_of_row _ W.heap.size j news.toArray T (0, 0) (heap_alloc_new W _)]
    simpa using hj
  · intro g cap w' hown' hgrow hat _
    have hg2 : W.grownBy w' v.ownBlock := ⟨hgrow.os, hgrow.tape, hgrow.output, by have := hgrow.size; simp at this; omega, fun k hk hne => (hgrow.block k (by simp; omega) hne).trans (heap_alloc_old W _ hk)⟩
    refine h _ w' hown' ((Below.refl B W).grown hg2 hB fun k hk => (hown.lt k hk).1) hg2 ?_
    rcases hat with h1 | h1
    · left; rw [h1]; rfl
    · right; rw [h1]; rfl
/-- behind a draw -/
theorem wpList_row1d {W : World} (S T sz bytes : Nat) (z : Value) (hu : Tryz.prog.underlying S = some (.slice T)) (hi : (Tryz.prog.info? T).map (fun i => (i.zero, i.size, i.bytes)) = some (some z, sz, bytes)) (hz : z.cells.size = sz) (hsz : 0 < sz)
    (hgd : o.guard = none) (s x : Operand) (ho : o.op = .call { callee := .builtin .append, args := #[s, x], argTypes := #[S, S] })
    (B : Nat) (v : Value) (n : Nat) (cs news : List Value) (hs : a.eval s = v) (hown : W.ownsRow B T sz v n cs) {N : Nat} (hx : a.eval x = .slice (some ⟨N, 0, none⟩) 1 1) (hN : N = W.heap.size)
    (hl : news.length = sz) (h1 : ∀ u ∈ news, u.oneCell' = true) (hlen : n ≤ 1000000) (hby : bytes ≤ 1000000) (hB : B ≤ W.heap.size)
    (h : ∀ v' w', w'.ownsRow B T sz v' (n + 1) (cs ++ news) → Below B W w' → W.grownBy w' v.ownBlock → (v.ownBlock = v'.ownBlock ∨ v'.ownBlock = some (W.heap.size + 1)) → wpList Tryz.prog ops Q rest (a.put o.dst v') w') : wpList Tryz.prog ops Q (o :: rest) a (W.alloc (.cells news.toArray T)).drew :=
  wpList_row1 (W := W.drew) S T sz bytes z hu hi hz hsz hgd s x ho B v n cs news hs hown hx hN hl h1 hlen hby hB fun v' w' h1 h2 h3 h4 => h v' w' h1 (below_undrew h2) ⟨h3.os, h3.tape, h3.output, h3.size, h3.block⟩ h4
end
end Go.Proofs.YtdiaejphgcoknaaGreatDoor
