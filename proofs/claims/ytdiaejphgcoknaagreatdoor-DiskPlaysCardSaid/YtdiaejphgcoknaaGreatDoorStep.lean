/- append as one step of a region that draws its order; small facts on worlds. -/
import Derived.Test.YtdiaejphgcoknaaGreatDoorInts
import Derived.RegionTactic
import Derived.BigRegion
import Derived.BigQuiet
import Derived.Deep.QuietTactic
import Derived.Deep.RegionWith
import Derived.Deep.RegionHeld3
import Derived.IntWalk
set_option linter.unusedSimpArgs false
set_option linter.unusedVariables false
namespace Go.Proofs.YtdiaejphgcoknaaGreatDoor
open Go.RowKit

theorem Ints.shape {w : World} {v : Value} {xs : List Int} (h : Ints w v xs) : ∃ ao cap, v = .slice ao xs.length cap := by
  obtain ⟨ao, cap, e, _⟩ := h; exact ⟨ao, cap, e⟩
section
variable {ops : Array Oper} {rest : List Oper} {o : Oper} {a : Act} {Q : Exit → Act → World → Prop}
theorem below_undrew {B : Nat} {W w' : World} (h : Below B W.drew w') : Below B W w' := ⟨h.os, h.tape, h.output, h.size, h.block⟩
/-- 'v = append(v, y)' behind a draw. -/
theorem wpList_app1d {W : World} (hgd : o.guard = none) (s x : Operand) (ho : o.op = .call { callee := .builtin .append, args := #[s, x], argTypes := #[32, 32] })
    (B : Nat) (v : Value) (xs : List Int) (y : Int) (hs : a.eval s = v) (hown : OwnInts W B v xs) {N : Nat} (hx : a.eval x = .slice (some ⟨N, 0, none⟩) 1 1) (hN : N = W.heap.size) (hy : Proofs.YtdiaejphgcoknaaGreatDoor.in64 y)
    (hlen : xs.length ≤ 1099511627776) (hB : B ≤ W.heap.size)
    (h : ∀ v' w', OwnInts w' B v' (xs ++ [y]) → Below B W w' → W.grownBy w' v.ownBlock → wpList Tryz.prog ops Q rest (a.put o.dst v') w') : wpList Tryz.prog ops Q (o :: rest) a (W.alloc (.cells #[.int .i64 y] 3)).drew :=
  wpList_app1 (W := W.drew) hgd s x ho B v xs y hs hown.drew hx hN hy hlen hB fun v' w' h1 h2 h3 => h v' w' h1 (below_undrew h2) ⟨h3.os, h3.tape, h3.output, h3.size, h3.block⟩
end
/-- 'append(v, y)' as one step of a region that draws its order. -/
theorem step_app1 {ops : Array Oper} {o : Oper} {a : Act} {w : World} {K : Act → World → Prop} {Q : Exit → Act → World → Prop} {E : Prop}
    (hg : o.guard = none) (s x : Operand) (ho : o.op = Op.call { callee := Callee.builtin Builtin.append, args := #[s, x], argTypes := #[32, 32] })
    (W0 : World) (B : Nat) (v : Value) (xs : List Int) (y : Int) (hs : a.eval s = v) (hown : OwnInts W0 B v xs) (hx : a.eval x = .slice (some ⟨W0.heap.size, 0, none⟩) 1 1)
    (hN : w.heap[W0.heap.size]? = some (.cells #[.int .i64 y] 3 (0, 0))) (hW : Below W0.heap.size W0 w) (hy : in64 y) (hlen : xs.length ≤ 1099511627776) (hB : B ≤ W0.heap.size)
    (hK : ∀ v' w', OwnInts w' B v' (xs ++ [y]) → Below B W0 w' → W0.grownBy w' v.ownBlock → K (a.put o.dst v') w') :
    if Region.wanted o (yielded ops a.tmps) = true then Oper.wp Tryz.prog o a w K Q else E := by
  have hw : Region.wanted o (yielded ops a.tmps) = true := by simp [Region.wanted, hg]
  rw [if_pos hw]
  obtain ⟨i0, hi, hz0, hz1, hz2⟩ := info_parts info3
  refine wp_append_own _ s x 32 ho B 3 i0 (.int .i64 0) 1 8 Tryz.underlying32 hi hz0 hz1 hz2 rfl (by decide) v xs.length (xs.map (Value.int .i64)) hs (hown.ext hW).1 ⟨W0.heap.size, 0, none⟩ 1 1 [.int .i64 y] hx rfl ?_ ?_ (by unfold maxLen; omega) (by omega) (Nat.le_trans hB hW.size) ?_
  · intro j u hj
    match j, hj with
    | 0, hj =>
      simp at hj
      subst hj
      have := cell_of_row w W0.heap.size 0 #[.int .i64 y] 3 (0, 0) hN
      simpa [Addr.add] using this
  · intro u hu; simp at hu; subst hu; rfl
  · intro v' w' hown' hgrow _
    have hg2 : W0.grownBy w' v.ownBlock := ⟨hgrow.os.trans hW.os, hgrow.tape.trans hW.tape, hgrow.output.trans hW.output, Nat.le_trans hW.size hgrow.size, fun k hk hne => (hgrow.block k (Nat.lt_of_lt_of_le hk hW.size) hne).trans (hW.block k hk)⟩
    refine hK v' w' ⟨by simpa using hown', ?_⟩ ?_ hg2
    · intro z hz
      rcases List.mem_append.1 hz with hz | hz
      · exact hown.2 z hz
      · simp at hz; rw [hz]; exact hy
    · exact (Below.refl B W0).grown hg2 hB fun k hk => (hown.1.lt k hk).1
theorem grown_of {W0 : World} (o : Obj) : Below W0.heap.size W0 (W0.drew.alloc o) := ((Below.refl _ _).drew).alloc (Nat.le_refl _) _
theorem far2 {W : World} {b c o : Nat} {x y u : Value} (h : c ≠ b) (hu : W.cell? ⟨c, o, none⟩ = some u) : ((W.setCell ⟨b, 0, none⟩ x).setCell ⟨b, 1, none⟩ y).cell? ⟨c, o, none⟩ = some u := by
  rw [World.cell?_of_block (w := W.setCell ⟨b, 0, none⟩ x) (Below.heap_setCell _ _ _ _ h), World.cell?_of_block (w := W) (Below.heap_setCell _ _ _ _ h)]
  exact hu
theorem below_undrewR {B : Nat} {W w' : World} (h : Below B W w') : Below B W w'.drew := h.drew
theorem Ints.at1 {w : World} {b off n cap : Nat} {xs : List Int} (h : Ints w (.slice (some ⟨b, off, none⟩) n cap) xs) {j : Nat} (hj : j < xs.length) : b < w.heap.size := by
  obtain ⟨ao, cap', e, _, _, _, _, h4⟩ := h
  simp only [Value.slice.injEq] at e
  obtain ⟨rfl, -, -⟩ := e
  obtain ⟨b', off', e2, hc⟩ := h4 j hj
  simp only [Option.some.injEq, Addr.mk.injEq] at e2
  obtain ⟨rfl, -, -⟩ := e2
  exact World.block_lt_of_cell? w _ hc
/-- An own list stands while a block that is none of its own is written. -/
theorem OwnInts.far {w w' : World} {B B' : Nat} {v : Value} {xs : List Int} (h : OwnInts w B v xs) (hb : Below w.heap.size w w') (hB : B' ≤ B) : OwnInts w' B' v xs := (h.ext hb).mono hB

theorem below_drewN' {B : Nat} {a w : World} (h : Below B a w) (n : Nat) : Below B a (w.drewN n) := ⟨h.os, h.tape, h.output, h.size, h.block⟩
theorem int_eq {a b : Int} (h : a = b) : Value.int .i64 a = .int .i64 b := by rw [h]
/-- Two numbers of two lists, laid for a round. -/
theorem pair_at {w wr : World} {ao bo : Option Addr} {n m cap cap2 : Nat} {a b : List Int} (hv : Ints w (.slice ao n cap) a) (hu : Ints w (.slice bo m cap2) b) (hb : Below w.heap.size w wr) {k : Nat} (h1 : k < a.length) (h2 : k < b.length) :
    ∃ b1 o1 b2 o2, ao = some ⟨b1, o1, none⟩ ∧ bo = some ⟨b2, o2, none⟩ ∧ wr.cell? ⟨b1, o1 + k, none⟩ = some (.int .i64 (a.getD k 0)) ∧ wr.cell? ⟨b2, o2 + k, none⟩ = some (.int .i64 (b.getD k 0)) := by
  obtain ⟨ao', cap', e, _, _, _, _, h4⟩ := hv.ext hb
  obtain ⟨bo', cap2', e2, _, _, _, _, g4⟩ := hu.ext hb
  simp only [Value.slice.injEq] at e e2
  obtain ⟨rfl, -, rfl⟩ := e
  obtain ⟨rfl, -, rfl⟩ := e2
  obtain ⟨b1, o1, rfl, c1⟩ := h4 k h1
  obtain ⟨b2, o2, rfl, c2⟩ := g4 k h2
  exact ⟨b1, o1, b2, o2, rfl, rfl, c1, c2⟩
end Go.Proofs.YtdiaejphgcoknaaGreatDoor
