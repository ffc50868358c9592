/- append with where the new list lies; two lists of the call's own side by side. -/
import Derived.Test.YtdiaejphgcoknaaGreatDoorInts
import Derived.Deep.AppendLies
import Derived.Lib.Hide
set_option linter.unusedSimpArgs false
set_option linter.unusedVariables false
namespace Go.Proofs.YtdiaejphgcoknaaGreatDoor
open Go.RowKit

theorem OwnInts.kept2 {w w' : World} {B : Nat} {v : Value} {xs : List Int} {row : Option Nat} (h : OwnInts w B v xs) (hg : w.grownBy w' row) (hne : v.ownBlock = none ∨ v.ownBlock ≠ row) : OwnInts w' B v xs := ⟨h.1.kept hg hne, h.2⟩
/-- 'append(v, y)', and where the new one lies. -/
theorem wpList_app1M {ops : Array Oper} {rest : List Oper} {o : Oper} {a : Act} {Q : Exit → Act → World → Prop} {W : World} (hgd : o.guard = none) (s x : Operand) (ho : o.op = .call { callee := .builtin .append, args := #[s, x], argTypes := #[32, 32] })
    (B : Nat) (v : Value) (xs : List Int) (y : Int) (hs : a.eval s = v) (hown : OwnInts W B v xs) {N : Nat} (hx : a.eval x = .slice (some ⟨N, 0, none⟩) 1 1) (hN : N = W.heap.size) (hy : Proofs.YtdiaejphgcoknaaGreatDoor.in64 y)
    (hlen : xs.length ≤ 1099511627776) (hB : B ≤ W.heap.size)
    (h : ∀ v' w', OwnInts w' B v' (xs ++ [y]) → Below B W w' → W.grownBy w' v.ownBlock → (v.ownBlock = v'.ownBlock ∨ v'.ownBlock = some (W.heap.size + 1)) → wpList Tryz.prog ops Q rest (a.put o.dst v') w') : wpList Tryz.prog ops Q (o :: rest) a (W.alloc (.cells #[.int .i64 y] 3)) := by
  subst hN
  obtain ⟨i0, hi, hz0, hz1, hz2⟩ := info_parts info3
  refine wpList_append_lies _ hgd s x 32 ho B 3 i0 (.int .i64 0) 1 8 Tryz.underlying32 hi hz0 hz1 hz2 rfl (by decide) v xs.length (xs.map (Value.int .i64)) hs (hown.1.alloc _) ⟨W.heap.size, 0, none⟩ 1 1 [.int .i64 y] hx rfl ?_ ?_ (by omega) (by unfold maxLen; omega) (by omega) (by simp; omega) (W.heap.size + 1) (by simp) ?_
  · intro j u hj
    match j, hj with
    | 0, hj => simp at hj; subst hj; simp [Addr.add]
  · intro u hu; simp at hu; subst hu; rfl
  · intro g cap w' hown' hgrow hat _
    have hg2 : W.grownBy w' v.ownBlock := ⟨hgrow.os, hgrow.tape, hgrow.output, by have := hgrow.size; simp at this; omega, fun k hk hne => (hgrow.block k (by simp; omega) hne).trans (heap_alloc_old W _ hk)⟩
    refine h _ w' ⟨by simpa using hown', ?_⟩ ((Below.refl B W).grown hg2 hB fun k hk => (hown.1.lt k hk).1) hg2 ?_
    · intro z hz
      rcases List.mem_append.1 hz with hz | hz
      · exact hown.2 z hz
      · simp at hz; rw [hz]; exact hy
    · rcases hat with h1 | h1
      · left; rw [h1]; rfl
      · right; rw [h1]; rfl

/-- 'make([]int, 0, n)'. -/
theorem wpList_make0 {ops : Array Oper} {rest : List Oper} {o : Oper} {a : Act} {Q : Exit → Act → World → Prop} {W : World} (hgd : o.guard = none) (l c : Operand) (ho : o.op = .makeSlice 32 l c)
    (n : Nat) {C : Int} (hl : a.eval l = .int .i64 0) (hc : a.eval c = .int .i64 C) (hC : C = (n : Int)) (hn : n ≤ 1099511627776)
    (h : ∀ w', OwnInts w' W.heap.size (.slice (some ⟨W.heap.size, 0, none⟩) 0 n) [] → Below W.heap.size W w' → wpList Tryz.prog ops Q rest (a.put o.dst (.slice (some ⟨W.heap.size, 0, none⟩) 0 n)) w') :
    wpList Tryz.prog ops Q (o :: rest) a W := by
  obtain ⟨i0, hi, hz0, hz1, hz2⟩ := info_parts info3
  refine wpList_make_own _ hgd l c 32 ho W.heap.size 3 i0 (.int .i64 0) 1 Tryz.underlying32 hi hz0 hz1 .i64 .i64 C n hl hc hC (by rw [hz2]; omega) (by unfold maxLen; omega) (Nat.le_refl _) ?_
  intro w' hown hgrow
  exact h w' ⟨by simpa using hown, by simp⟩ ((Below.refl _ _).grown hgrow (Nat.le_refl _) (by simp))
/-- Two lists of the call's own, in blocks of their own. -/
structure Two (w : World) (B : Nat) (v : Value) (xs : List Int) (u : Value) (ys : List Int) : Prop where
  one : OwnInts w B v xs
  two : OwnInts w B u ys
  vu : v.ownBlock = none ∨ v.ownBlock ≠ u.ownBlock
  uv : u.ownBlock = none ∨ u.ownBlock ≠ v.ownBlock
theorem Two.ext {w w' : World} {B : Nat} {v u : Value} {xs ys : List Int} (h : Two w B v xs u ys) (hb : Below w.heap.size w w') : Two w' B v xs u ys := ⟨h.one.ext hb, h.two.ext hb, h.vu, h.uv⟩
theorem Two.nil (w : World) (B : Nat) : Two w B (.slice none 0 0) [] (.slice none 0 0) [] := ⟨OwnInts.nil _ _, OwnInts.nil _ _, .inl rfl, .inl rfl⟩
theorem Two.swap {w : World} {B : Nat} {v u : Value} {xs ys : List Int} (h : Two w B v xs u ys) : Two w B u ys v xs := ⟨h.two, h.one, h.uv, h.vu⟩
theorem Two.app {w w' : World} {B : Nat} {v u v' : Value} {xs ys zs : List Int} (h : Two w B v xs u ys) (hown : OwnInts w' B v' zs) (hg : w.grownBy w' v.ownBlock) (hv : v.ownBlock = v'.ownBlock ∨ v'.ownBlock = some (w.heap.size + 1)) :
    Two w' B v' zs u ys := by
  have hlt : ∀ g, u.ownBlock = some g → g < w.heap.size := fun g hg => (h.two.1.lt g hg).2
  refine ⟨hown, h.two.kept2 hg h.uv, ?_, ?_⟩
  · rcases hv with e | e
    · rw [← e]; exact h.vu
    · right; rw [e]; intro e2; have := hlt _ e2.symm; omega
  · rcases hv with e | e
    · rw [← e]; exact h.uv
    · cases hu : u.ownBlock with
      | none => exact .inl rfl
      | some g => right; rw [e]; intro e2; have := hlt g hu; simp at e2; omega
end Go.Proofs.YtdiaejphgcoknaaGreatDoor
