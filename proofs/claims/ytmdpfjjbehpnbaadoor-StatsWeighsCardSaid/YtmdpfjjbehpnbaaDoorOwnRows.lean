/- A list of lists of ints that a call has made itself: each row in a block of its own. -/
import Derived.Test.YtmdpfjjbehpnbaaDoorOwn
set_option linter.unusedSimpArgs false
set_option linter.unusedVariables false
namespace Go.Proofs.YtmdpfjjbehpnbaaDoor
open Go.RowKit

def OwnRows (w : World) (B : Nat) (v : Value) (ls : List (List Int)) : Prop :=
  ∃ ps : List Value, w.ownsRow B 22 1 v ls.length ps ∧ ps.length = ls.length ∧ ∀ j, j < ls.length → OwnInts w B (ps.getD j .nilIface) (ls.getD j [])
theorem OwnRows.nil (w : World) (B : Nat) : OwnRows w B (.slice none 0 0) [] := ⟨[], World.ownsRow_nil w B _ 1, rfl, fun j h => by simp at h⟩
theorem OwnRows.ext {w w' : World} {B : Nat} {v : Value} {ls : List (List Int)} (h : OwnRows w B v ls) (hb : Below w.heap.size w w') : OwnRows w' B v ls := by
  obtain ⟨ps, h1, h2, h3⟩ := h
  exact ⟨ps, row_ext h1 hb, h2, fun j hj => (h3 j hj).ext hb⟩
theorem OwnRows.mono {w : World} {B B' : Nat} {v : Value} {ls : List (List Int)} (h : OwnRows w B v ls) (hB : B' ≤ B) : OwnRows w B' v ls := by
  obtain ⟨ps, h1, h2, h3⟩ := h
  exact ⟨ps, row_mono h1 hB, h2, fun j hj => (h3 j hj).mono hB⟩
theorem OwnRows.shapeN {w : World} {B : Nat} {v : Value} {ls : List (List Int)} (h : OwnRows w B v ls) {n : Nat} (hn : ls.length = n) : ∃ ao cap, v = .slice ao n cap := by
  obtain ⟨ps, h1, h2, h3⟩ := h
  rcases row_head h1 with ⟨rfl, h0⟩ | ⟨g, cap, rfl, _⟩
  · exact ⟨none, 0, by rw [← hn, h0]⟩
  · exact ⟨_, cap, by rw [hn]⟩
/-- Row j. -/
theorem OwnRows.at {w : World} {B : Nat} {ao : Option Addr} {n cap : Nat} {ls : List (List Int)} (h : OwnRows w B (.slice ao n cap) ls) {j : Nat} (hj : j < ls.length) :
    ∃ g p, ao = some ⟨g, 0, none⟩ ∧ g < w.heap.size ∧ w.cell? ⟨g, j, none⟩ = some p ∧ OwnInts w B p (ls.getD j []) := by
  obtain ⟨ps, h1, h2, h3⟩ := h
  rcases row_head h1 with ⟨he, h0⟩ | ⟨g, cap', he, _, hlt, _, _, _, _⟩
  · omega
  · cases he
    have hp : ps[j]? = some (ps.getD j .nilIface) := by
      rw [List.getD_eq_getElem?_getD, List.getElem?_eq_getElem (by omega)]; rfl
    exact ⟨g, _, rfl, hlt, row_cellAt h1 hp, h3 j hj⟩
theorem row_types {w : World} {B B' T T' sz sz' n n' : Nat} {v u : Value} {cs cs' : List Value} (h : w.ownsRow B T sz v n cs) (h' : w.ownsRow B' T' sz' u n' cs') (hT : T ≠ T') : u.ownBlock = none ∨ u.ownBlock ≠ v.ownBlock := by
  rcases h'.2 with ⟨rfl, _⟩ | ⟨g', cap', cur', rfl, _, hg', _⟩
  · exact .inl rfl
  · right
    rcases h.2 with ⟨rfl, _⟩ | ⟨g, cap, cur, rfl, _, hg, _⟩
    · simp [Value.ownBlock]
    · intro e
      simp only [Value.ownBlock, Option.some.injEq] at e
      rw [e, hg] at hg'
      simp only [Option.some.injEq, Obj.cells.injEq] at hg'
      exact hT hg'.2.1
theorem info22 : (Tryd.prog.info? 22).map (fun i => (i.zero, i.size, i.bytes)) = some (some (.slice none 0 0), 1, 24) := by kernel_rfl
section
variable {ops : Array Oper} {rest : List Oper} {o : Oper} {a : Act} {Q : Exit → Act → World → Prop}
/-- 'v = append(v, p)' of a row. -/
theorem wpList_appRow {W : World} (hgd : o.guard = none) (s x : Operand) (ho : o.op = .call { callee := .builtin .append, args := #[s, x], argTypes := #[58, 58] })
    (B : Nat) (v p : Value) (ls : List (List Int)) (l : List Int) (hs : a.eval s = v) (hown : OwnRows W B v ls) (hp : OwnInts W B p l) {N : Nat} (hx : a.eval x = .slice (some ⟨N, 0, none⟩) 1 1) (hN : N = W.heap.size)
    (hlen : ls.length ≤ 1000000) (hB : B ≤ W.heap.size)
    (h : ∀ v' w', OwnRows w' B v' (ls ++ [l]) → Below B W w' → wpList Tryd.prog ops Q rest (a.put o.dst v') w') : wpList Tryd.prog ops Q (o :: rest) a (W.alloc (.cells #[p] 22)) := by
  obtain ⟨ps, h1, h2, h3⟩ := hown
  refine wpList_row1 58 22 1 24 _ Tryd.underlying58 info22 rfl (by decide) hgd s x ho B v ls.length ps [p] hs h1 hx hN rfl ?_ hlen (by decide) hB ?_
  · intro u hu
    simp at hu; subst hu
    obtain ⟨ao, cap, rfl⟩ := hp.shape
    rfl
  · intro v' w' hown' hb hg _
    refine h v' w' ⟨ps ++ [p], by simpa using hown', by simp [h2], fun j hj => ?_⟩ hb
    have keep : ∀ {q : Value} {m : List Int}, OwnInts W B q m → OwnInts w' B q m := fun {q m} hq => hq.kept2 hg (row_types h1 hq.1 (by decide))
    rcases Nat.lt_or_ge j ls.length with hjl | hjl
    · rw [List.getD_eq_getElem?_getD, List.getElem?_append_left (by omega), ← List.getD_eq_getElem?_getD, List.getD_eq_getElem?_getD (l := ls ++ [l]), List.getElem?_append_left hjl, ← List.getD_eq_getElem?_getD]
      exact keep (h3 j hjl)
    · have : j = ls.length := by simp at hj; omega
      subst this
      rw [show (ls ++ [l]).getD ls.length [] = l from by simp, show (ps ++ [p]).getD ls.length .nilIface = p from by rw [← h2]; simp]
      exact keep hp
end
end Go.Proofs.YtmdpfjjbehpnbaaDoor
