/- Slices of slices of ints: read, and four of the call's own that grow one by one. -/
import Derived.Test.YtceobpoibiffhaaDoorFrames
import Derived.Test.YtceobpoibiffhaaDoorStep
import Derived.Test.YtceobpoibiffhaaDoorBlockP
import Derived.Deep.AppendLies
set_option linter.unusedSimpArgs false
set_option linter.unusedVariables false
namespace Go.Proofs.YtceobpoibiffhaaDoor
open Go.RowKit Go.ChangeShapes Go.WideShapes Go.Deep

/-- The slice v reads as the lists ls. -/
def Rows (w : World) (v : Value) (ls : List (List Int)) : Prop :=
  ∃ (ao : Option Addr) (cap : Nat), v = .slice ao ls.length cap ∧ ls.length ≤ cap ∧ cap ≤ maxLen ∧ (ao = none → cap = 0) ∧
    ∀ j, j < ls.length → ∃ b off p, ao = some ⟨b, off, none⟩ ∧ w.cell? ⟨b, off + j, none⟩ = some p ∧ Ints w p (ls.getD j [])
theorem Rows.nil (w : World) : Rows w (.slice none 0 0) [] := ⟨none, 0, rfl, by simp, by simp [maxLen], fun _ => rfl, fun j hj => by simp at hj⟩
theorem Rows.ext {w w' : World} {v : Value} {ls : List (List Int)} (h : Rows w v ls) (hb : Below w.heap.size w w') : Rows w' v ls := by
  obtain ⟨ao, cap, rfl, h1, h2, h3, h4⟩ := h
  refine ⟨ao, cap, rfl, h1, h2, h3, fun j hj => ?_⟩
  obtain ⟨b, off, p, e, c0, hp⟩ := h4 j hj
  have hlt : b < w.heap.size := World.block_lt_of_cell? w _ c0
  exact ⟨b, off, p, e, by rw [hb.cell (p := ⟨b, _, none⟩) hlt]; exact c0, hp.ext hb⟩
theorem Rows.shape {w : World} {v : Value} {ls : List (List Int)} (h : Rows w v ls) : ∃ ao cap, v = .slice ao ls.length cap := by
  obtain ⟨ao, cap, e, _⟩ := h; exact ⟨ao, cap, e⟩
theorem Rows.len {w : World} {v : Value} {ls : List (List Int)} (h : Rows w v ls) : ls.length ≤ 9223372036854775807 := by
  obtain ⟨ao, cap, rfl, h1, h2, _⟩ := h
  unfold maxLen at h2; omega
theorem Rows.at1 {w : World} {ao : Option Addr} {n cap : Nat} {ls : List (List Int)} (h : Rows w (.slice ao n cap) ls) {j : Nat} (hj : j < ls.length) :
    ∃ b off p, ao = some ⟨b, off, none⟩ ∧ w.cell? ⟨b, off + j, none⟩ = some p ∧ Ints w p (ls.getD j []) := by
  obtain ⟨ao', cap', e, _, _, _, h4⟩ := h
  simp only [Value.slice.injEq] at e
  obtain ⟨rfl, -, rfl⟩ := e
  exact h4 j hj
set_option maxRecDepth 100000 in
theorem rows_of_trod {Hd : Type} {enc : TypeId × Value → Hd} {W : World} {base : Nat} {v : Value} {d : DataW Hd} {p : List MemPlace} (hv : Value.okWide Tryd.prog W .any base 45 v)
    (h : DataW.Trod enc Tryd.prog W 0 (fun _ => true) true 45 v d p) : ∃ ls, Rows W v ls := by
  obtain ⟨a0, len, cap, rfl⟩ := okWide_slice Tryd.underlying45 hv
  obtain ⟨fuel, hf⟩ := h
  rcases open_slice Tryd.underlying45 hf with ⟨hcs, _⟩ | ⟨a, len', cap', m, n, D, Pl, hcs, _, hl, hm, hmm, _, hi⟩
  · simp [Value.cells] at hcs
    obtain ⟨rfl, rfl, rfl⟩ := hcs
    exact ⟨[], Rows.nil W⟩
  · simp [Value.cells] at hcs
    obtain ⟨rfl, rfl, rfl⟩ := hcs
    have hmc : m = cap := by simpa using hmm
    have hC : Tryd.prog.cellsOf 22 = 1 := by kernel_rfl
    have hsp : 0 < len → a.spot = none := by
      intro h0
      obtain ⟨cs', hc, _⟩ := hi 0 (by omega)
      rw [hC] at hc
      obtain ⟨_, hcl, hat⟩ := World.cells?_some hc
      have := World.cell?_spot ((hat 0 (by omega)).trans (List.getElem?_eq_getElem (by omega)))
      simpa [Addr.add] using this
    have key : ∀ i, i < len → ∃ xs : List Int, ∃ b off p, a = ⟨b, off, none⟩ ∧ W.cell? ⟨b, off + i, none⟩ = some p ∧ Ints W p xs := by
      intro i hil
      obtain ⟨cs', hc, ht⟩ := hi i (by omega)
      rw [hC] at hc
      obtain ⟨_, hcl, hat⟩ := World.cells?_some hc
      obtain ⟨v0, rfl⟩ : ∃ v0, cs' = [v0] := by
        match cs', hcl with
        | [x], _ => exact ⟨x, rfl⟩
      have c0 := hat 0 (by omega)
      rw [Nat.mul_one] at c0
      obtain ⟨b, off, spot⟩ := a
      have c1 : W.cell? ((⟨b, off, spot⟩ : Addr).add i) = some v0 := by simpa [Addr.add] using c0
      have hspot : spot = none := hsp (by omega)
      subst hspot
      rw [Go.WideShapes.add_plain] at c1
      obtain ⟨xs, hx⟩ := ints_of_cell ht
      exact ⟨xs, b, off, v0, rfl, c1, hx⟩
    refine ⟨(List.range len).map fun i => if h : i < len then Classical.choose (key i h) else [], some a, cap, by simp, by simp; omega, hm, fun h => (by cases h), fun j hj => ?_⟩
    have hj' : j < len := by simpa using hj
    obtain ⟨b, off, p, e, c0, hx⟩ := Classical.choose_spec (key j hj')
    have eg : ((List.range len).map fun i => if h : i < len then Classical.choose (key i h) else []).getD j [] = Classical.choose (key j hj') := by
      simp [List.getD, hj']
    rw [eg]
    exact ⟨b, off, p, by rw [e], c0, hx⟩

/-! ### four lists of the call's own -/
structure Quads (w : World) (L : Nat) (p : Nat → Value) (b : List Int) (B i : Nat) : Prop where
  blk : Blk w L #[p 0, p 1, p 2, p 3] 22
  own : ∀ q, q < 4 → OwnInts w B (p q) (quarterTo b q i)
  ne : ∀ q r, q < 4 → r < 4 → q ≠ r → (p q).ownBlock = none ∨ (p q).ownBlock ≠ (p r).ownBlock
theorem OwnInts.kept {w w' : World} {B : Nat} {v : Value} {xs : List Int} {row : Option Nat} (h : OwnInts w B v xs) (hg : w.grownBy w' row) (hne : v.ownBlock = none ∨ v.ownBlock ≠ row) : OwnInts w' B v xs := ⟨h.1.kept hg hne, h.2⟩
theorem Quads.cell {w : World} {L : Nat} {p : Nat → Value} {b : List Int} {B i : Nat} (h : Quads w L p b B i) {k : Nat} (hk : k < 4) : w.cell? ⟨L, k, none⟩ = some (p k) ∧ w.frozen? ⟨L, k, none⟩ = false := by
  refine ⟨?_, h.blk.free k⟩
  rw [h.blk.cell k]
  match k, hk with
  | 0, _ => rfl
  | 1, _ => rfl
  | 2, _ => rfl
  | 3, _ => rfl
theorem Quads.step {w w' : World} {L : Nat} {p : Nat → Value} {b : List Int} {B i k : Nat} {v' : Value} (h : Quads w L p b B i) (hL : L < B) (hB : B ≤ w.heap.size) (hk : kq i = k) (hk4 : k < 4)
    (hown' : OwnInts w' B v' (quarterTo b k i ++ [b.getD i 0])) (hg : w.grownBy w' (p k).ownBlock) (hv : (p k).ownBlock = v'.ownBlock ∨ v'.ownBlock = some (w.heap.size + 1)) :
    Quads (w'.setCell ⟨L, k, none⟩ v') L (fun q => if q = k then v' else p q) b B (i + 1) := by
  refine ⟨?_, fun q hq => ?_, fun q r hq hr hqr => ?_⟩
  · have h1 := (h.blk.grown hg ((h.own k hk4).ownNe (.inl hL))).set k v'
    match k, hk4 with
    | 0, _ => exact h1
    | 1, _ => exact h1
    | 2, _ => exact h1
    | 3, _ => exact h1
  · by_cases e : q = k
    · subst e
      simp only [if_pos]
      rw [quarterTo_yes hk]
      exact hown'.setOther hL _
    · simp only [if_neg e]
      rw [quarterTo_no (by omega)]
      exact ((h.own q hq).kept hg (h.ne q k hq hk4 e)).setOther hL _
  · have hlt : ∀ q, q < 4 → ∀ g, (p q).ownBlock = some g → g < w.heap.size := fun q hq g hg => ((h.own q hq).1.lt g hg).2
    by_cases e : q = k
    · have er : ¬ r = k := by omega
      simp only [if_pos e, if_neg er]
      rcases hv with hv | hv
      · rw [← hv]; exact h.ne k r hk4 hr (by omega)
      · right; rw [hv]; intro e2; have := hlt r hr _ e2.symm; omega
    · simp only [if_neg e]
      by_cases er : r = k
      · simp only [if_pos er]
        rcases hv with hv | hv
        · rw [← hv]; exact h.ne q k hq hk4 e
        · right; rw [hv]; intro e2; have := hlt q hq _ e2; omega
      · simp only [if_neg er]
        exact h.ne q r hq hr hqr
theorem Quads.setOther {w : World} {L : Nat} {p : Nat → Value} {b : List Int} {B i : Nat} (h : Quads w L p b B i) {a : Addr} (h1 : L ≠ a.block) (h2 : a.block < B) (u : Value) : Quads (w.setCell a u) L p b B i :=
  ⟨h.blk.setOther a u h1, fun q hq => (h.own q hq).setOther h2 u, h.ne⟩
theorem Quads.start (w : World) (b : List Int) : Quads (w.alloc (.cells #[.slice none 0 0, .slice none 0 0, .slice none 0 0, .slice none 0 0] 22)) w.heap.size (fun _ => .slice none 0 0) b (w.heap.size + 1) 0 :=
  ⟨Blk.new _ _ _, fun _ _ => OwnInts.nil _ _, fun _ _ _ _ _ => .inl rfl⟩
theorem Quads.rows {w : World} {L : Nat} {p : Nat → Value} {b : List Int} {B : Nat} (h : Quads w L p b B 64) : Rows w (.slice (some ⟨L, 0, none⟩) 4 4) [quarterL b 0, quarterL b 1, quarterL b 2, quarterL b 3] := by
  refine ⟨some ⟨L, 0, none⟩, 4, rfl, by simp, by simp [maxLen], fun h => (by cases h), fun j hj => ?_⟩
  have hj4 : j < 4 := by simpa using hj
  refine ⟨L, 0, p j, rfl, by rw [Nat.zero_add]; exact (h.cell hj4).1, ?_⟩
  have := (h.own j hj4).ints
  rw [quarterTo_all b hj4] at this
  match j, hj4 with
  | 0, _ => exact this
  | 1, _ => exact this
  | 2, _ => exact this
  | 3, _ => exact this
/-- 'append(v, y)', and where the new one lies. -/
theorem wpList_app1L {ops : Array Oper} {rest : List Oper} {o : Oper} {a : Act} {Q : Exit → Act → World → Prop} {W : World} (hgd : o.guard = none) (s x : Operand) (ho : o.op = .call { callee := .builtin .append, args := #[s, x], argTypes := #[22, 22] })
    (B : Nat) (v : Value) (xs : List Int) (y : Int) (hs : a.eval s = v) (hown : OwnInts W B v xs) {N : Nat} (hx : a.eval x = .slice (some ⟨N, 0, none⟩) 1 1) (hN : N = W.heap.size) (hy : Proofs.YtceobpoibiffhaaDoor.in64 y)
    (hlen : xs.length ≤ 1099511627776) (hB : B ≤ W.heap.size)
    (h : ∀ v' w', OwnInts w' B v' (xs ++ [y]) → W.grownBy w' v.ownBlock → (v.ownBlock = v'.ownBlock ∨ v'.ownBlock = some (W.heap.size + 1)) → wpList Tryd.prog ops Q rest (a.put o.dst v') w') : wpList Tryd.prog ops Q (o :: rest) a (W.alloc (.cells #[.int .i64 y] 3)) := by
  subst hN
  obtain ⟨i0, hi, hz0, hz1, hz2⟩ := info_parts info3
  refine wpList_append_lies _ hgd s x 22 ho B 3 i0 (.int .i64 0) 1 8 Tryd.underlying22 hi hz0 hz1 hz2 rfl (by decide) v xs.length (xs.map (Value.int .i64)) hs (hown.1.alloc _) ⟨W.heap.size, 0, none⟩ 1 1 [.int .i64 y] hx rfl ?_ ?_ (by omega) (by unfold maxLen; omega) (by omega) (by simp; omega) (W.heap.size + 1) (by simp) ?_
  · intro j u hj
    match j, hj with
    | 0, hj => simp at hj; subst hj; simp [Addr.add]
  · intro u hu; simp at hu; subst hu; rfl
  · intro g cap w' hown' hgrow hat _
    have hg2 : W.grownBy w' v.ownBlock := ⟨hgrow.os, hgrow.tape, hgrow.output, by have := hgrow.size; simp at this; omega, fun k hk hne => (hgrow.block k (by simp; omega) hne).trans (heap_alloc_old W _ hk)⟩
    refine h _ w' ⟨by simpa using hown', ?_⟩ hg2 ?_
    · intro z hz
      rcases List.mem_append.1 hz with hz | hz
      · exact hown.2 z hz
      · simp at hz; rw [hz]; exact hy
    · rcases hat with h1 | h1
      · left; rw [h1]; rfl
      · right; rw [h1]; rfl
theorem grown_sz {W0 : World} (o : Obj) : (W0.drew.alloc o).heap.size = W0.heap.size + 1 := by simp
/-- 'append(v, y)' as one step of a region that draws its order, and where the new one lies. -/
theorem step_app1L {ops : Array Oper} {o : Oper} {a : Act} {w : World} {K : Act → World → Prop} {Q : Exit → Act → World → Prop} {E : Prop}
    (hg : o.guard = none) (s x : Operand) (ho : o.op = Op.call { callee := Callee.builtin Builtin.append, args := #[s, x], argTypes := #[22, 22] })
    (W0 : World) (B : Nat) (v : Value) (xs : List Int) (y : Int) (hs : a.eval s = v) (hown : OwnInts W0 B v xs) (hx : a.eval x = .slice (some ⟨W0.heap.size, 0, none⟩) 1 1)
    (hN : w.heap[W0.heap.size]? = some (.cells #[.int .i64 y] 3 (0, 0))) (hW : Below W0.heap.size W0 w) (hsz : w.heap.size = W0.heap.size + 1) (hy : in64 y) (hlen : xs.length ≤ 1099511627776) (hB : B ≤ W0.heap.size)
    (hK : ∀ va ln vc w', OwnInts w' B (.slice va ln vc) (xs ++ [y]) → W0.grownBy w' v.ownBlock → (v.ownBlock = (Value.slice va ln vc).ownBlock ∨ (Value.slice va ln vc).ownBlock = some (W0.heap.size + 1)) → K (a.put o.dst (.slice va ln vc)) w') :
    if Region.wanted o (yielded ops a.tmps) = true then Oper.wp Tryd.prog o a w K Q else E := by
  have hw : Region.wanted o (yielded ops a.tmps) = true := by simp [Region.wanted, hg]
  rw [if_pos hw]
  obtain ⟨i0, hi, hz0, hz1, hz2⟩ := info_parts info3
  refine wp_append_lies _ s x 22 ho B 3 i0 (.int .i64 0) 1 8 Tryd.underlying22 hi hz0 hz1 hz2 rfl (by decide) v xs.length (xs.map (Value.int .i64)) hs (hown.ext hW).1 ⟨W0.heap.size, 0, none⟩ 1 1 [.int .i64 y] hx rfl ?_ ?_ (by omega) (by unfold maxLen; omega) (by omega) (Nat.le_trans hB hW.size) (W0.heap.size + 1) hsz ?_
  · intro j u hj
    match j, hj with
    | 0, hj =>
      simp at hj
      subst hj
      have := cell_of_row w W0.heap.size 0 #[.int .i64 y] 3 (0, 0) hN
      simpa [Addr.add] using this
  · intro u hu; simp at hu; subst hu; rfl
  · intro g cap w' hown' hgrow hat _
    have hg2 : W0.grownBy w' v.ownBlock := ⟨hgrow.os.trans hW.os, hgrow.tape.trans hW.tape, hgrow.output.trans hW.output, Nat.le_trans hW.size hgrow.size, fun k hk hne => (hgrow.block k (Nat.lt_of_lt_of_le hk hW.size) hne).trans (hW.block k hk)⟩
    refine hK _ _ _ w' ⟨by simpa using hown', ?_⟩ hg2 ?_
    · intro z hz
      rcases List.mem_append.1 hz with hz | hz
      · exact hown.2 z hz
      · simp at hz; rw [hz]; exact hy
    · rcases hat with h1 | h1
      · left; rw [h1]; rfl
      · right; rw [h1]; rfl
end Go.Proofs.YtceobpoibiffhaaDoor
