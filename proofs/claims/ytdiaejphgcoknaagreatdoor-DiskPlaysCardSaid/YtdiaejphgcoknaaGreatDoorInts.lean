/- Slices of ints as lists: 'Ints' (a slice that reads as a list), 'OwnInts' (one that lies in memory of the call's own). -/
import Derived.Test.YtdiaejphgcoknaaGreatDoorProg
import Derived.WalkKit
import Derived.ProofKit
import Derived.OpenShut
import Derived.Handy
import Derived.Lib.Hide
import Derived.Laws.AppendOwnNone
set_option linter.unusedSimpArgs false
set_option linter.unusedVariables false
namespace Go.Proofs.YtdiaejphgcoknaaGreatDoor
open Go.RowKit Go.ChangeShapes Go.WideShapes

def in64 (x : Int) : Prop := -9223372036854775808 ≤ x ∧ x ≤ 9223372036854775807

/-- The slice v reads as the list xs. -/
def Ints (w : World) (v : Value) (xs : List Int) : Prop :=
  ∃ (ao : Option Addr) (cap : Nat), v = .slice ao xs.length cap ∧ xs.length ≤ cap ∧ cap ≤ maxLen ∧ (∀ x ∈ xs, in64 x) ∧ (ao = none → cap = 0) ∧
    ∀ j, j < xs.length → ∃ b off, ao = some ⟨b, off, none⟩ ∧ w.cell? ⟨b, off + j, none⟩ = some (.int .i64 (xs.getD j 0))

theorem Ints.below {B : Nat} {w w' : World} {v : Value} {xs : List Int} (h : Ints w v xs) (hb : Below B w w') (hB : w.heap.size ≤ B) : Ints w' v xs := by
  obtain ⟨ao, cap, rfl, h1, h2, h3, h5, h4⟩ := h
  refine ⟨ao, cap, rfl, h1, h2, h3, h5, fun j hj => ?_⟩
  obtain ⟨b, off, e, hc⟩ := h4 j hj
  have hlt := World.block_lt_of_cell? w _ hc
  exact ⟨b, off, e, by rw [hb.cell (p := ⟨b, off + j, none⟩) (by simp at hlt ⊢; omega)]; exact hc⟩
theorem Ints.ext {w w' : World} {v : Value} {xs : List Int} (h : Ints w v xs) (hb : Below w.heap.size w w') : Ints w' v xs := h.below hb (Nat.le_refl _)
theorem Ints.len {w : World} {v : Value} {xs : List Int} (h : Ints w v xs) : xs.length ≤ 9223372036854775807 := by
  obtain ⟨ao, cap, rfl, h1, h2, _⟩ := h
  unfold maxLen at h2; omega
theorem Ints.in64 {w : World} {v : Value} {xs : List Int} (h : Ints w v xs) : ∀ x ∈ xs, in64 x := by
  obtain ⟨ao, cap, rfl, h1, h2, h3, _⟩ := h; exact h3
theorem Ints.nil (w : World) : Ints w (.slice none 0 0) [] := ⟨none, 0, rfl, by simp, by simp [maxLen], by simp, fun _ => rfl, fun j hj => by simp at hj⟩
theorem getD_in64 {xs : List Int} (h : ∀ x ∈ xs, in64 x) (j : Nat) : in64 (xs.getD j 0) := by
  by_cases hj : j < xs.length
  · rw [List.getD_eq_getElem?_getD, List.getElem?_eq_getElem hj]; exact h _ (List.getElem_mem hj)
  · rw [List.getD_eq_getElem?_getD, List.getElem?_eq_none (by omega)]; simp [Proofs.YtdiaejphgcoknaaGreatDoor.in64]

set_option maxRecDepth 100000 in
/-- An argument that is a slice of ints reads as a list. -/
theorem ints_of_trod {H : Type} {enc : TypeId × Value → H} {W : World} {base : Nat} {v : Value} {d : DataW H} {p : List MemPlace} (hv : Value.okWide Tryz.prog W .any base 32 v)
    (h : DataW.Trod enc Tryz.prog W 0 (fun _ => true) true 32 v d p) : ∃ xs, Ints W v xs := by
  obtain ⟨a0, len, cap, rfl⟩ := okWide_slice Tryz.underlying32 hv
  obtain ⟨fuel, hf⟩ := h
  rcases open_ints Tryz.underlying32 Tryz.underlying3 (by kernel_rfl) hf with ⟨hcs, _⟩ | ⟨a, len', cap', zs, hcs, _, hl, hm, hz, _, hcell, hwz⟩
  · simp [Value.cells] at hcs
    obtain ⟨rfl, rfl, rfl⟩ := hcs
    exact ⟨[], Ints.nil W⟩
  · simp [Value.cells] at hcs
    obtain ⟨rfl, rfl, rfl⟩ := hcs
    have hzl : zs.length = cap := by simpa using hz
    refine ⟨zs.take len, some a, cap, by simp; omega, by simp; omega, hm, fun x hx => bounds_i64 (hwz x (List.mem_of_mem_take hx)), fun h => (by cases h), fun j hj => ?_⟩
    have hj' : j < len := by simp at hj; omega
    obtain ⟨b, off, rfl, hc⟩ := ints_at hcell (by omega)
    refine ⟨b, off, rfl, ?_⟩
    rw [hc j (by omega)]
    simp [List.getD, hj']

/-- The slice v is made by the call itself (its block is number B or later, not frozen) and holds just xs. -/
def OwnInts (w : World) (B : Nat) (v : Value) (xs : List Int) : Prop :=
  w.ownsRow B 3 1 v xs.length (xs.map (Value.int .i64)) ∧ ∀ x ∈ xs, in64 x

theorem OwnInts.ints {w : World} {B : Nat} {v : Value} {xs : List Int} (h : OwnInts w B v xs) : Ints w v xs := by
  obtain ⟨hown, hin⟩ := h
  have h0 := hown
  obtain ⟨hl, h | ⟨g, cap, cur, rfl, hb, hg, hn, hm, hs, ht⟩⟩ := hown
  · obtain ⟨rfl, h2⟩ := h
    have : xs = [] := List.length_eq_zero_iff.1 h2
    subst this
    exact Ints.nil w
  · refine ⟨some ⟨g, 0, none⟩, cap, rfl, hn, hm, hin, fun h => (by cases h), fun j hj => ⟨g, 0, rfl, ?_⟩⟩
    have := h0.cellAt j (by omega)
    rw [show (0 : Nat) + j = j from by omega, this]
    simp [List.getD, hj]
theorem OwnInts.nil (w : World) (B : Nat) : OwnInts w B (.slice none 0 0) [] := ⟨World.ownsRow_nil w B _ 1, by simp⟩
theorem OwnInts.ext {w w' : World} {B : Nat} {v : Value} {xs : List Int} (h : OwnInts w B v xs) (hb : Below w.heap.size w w') : OwnInts w' B v xs := by
  obtain ⟨hown, hin⟩ := h
  refine ⟨?_, hin⟩
  obtain ⟨hl, h | ⟨g, cap, cur, rfl, hB, hg, hrest⟩⟩ := hown
  · exact ⟨hl, .inl h⟩
  · exact ⟨hl, .inr ⟨g, cap, cur, rfl, hB, by rw [hb.block g (Array.getElem?_eq_some_iff.1 hg).1]; exact hg, hrest⟩⟩
theorem OwnInts.mono {w : World} {B B' : Nat} {v : Value} {xs : List Int} (h : OwnInts w B v xs) (hB : B' ≤ B) : OwnInts w B' v xs := by
  obtain ⟨⟨hl, h | ⟨g, cap, cur, rfl, hb, hrest⟩⟩, hin⟩ := h
  · exact ⟨⟨hl, .inl h⟩, hin⟩
  · exact ⟨⟨hl, .inr ⟨g, cap, cur, rfl, by omega, hrest⟩⟩, hin⟩
theorem info3 : (Tryz.prog.info? 3).map (fun i => (i.zero, i.size, i.bytes)) = some (some (.int .i64 0), 1, 8) := by kernel_rfl

theorem OwnInts.drew {w : World} {B : Nat} {v : Value} {xs : List Int} (h : OwnInts w B v xs) : OwnInts w.drew B v xs := h
theorem OwnInts.alloc {w : World} {B : Nat} {v : Value} {xs : List Int} (h : OwnInts w B v xs) (o : Obj) : OwnInts (w.alloc o) B v xs := ⟨h.1.alloc o, h.2⟩
theorem OwnInts.in64 {w : World} {B : Nat} {v : Value} {xs : List Int} (h : OwnInts w B v xs) : ∀ x ∈ xs, in64 x := h.2

/-- What is owned and not empty lies at the head of a block of the call's own. -/
theorem OwnInts.open {w : World} {B : Nat} {v : Value} {xs : List Int} (h : OwnInts w B v xs) (hp : 0 < xs.length) :
    ∃ g cap, v = .slice (some ⟨g, 0, none⟩) xs.length cap ∧ B ≤ g ∧ g < w.heap.size ∧ (∀ j, j < xs.length → w.cell? ⟨g, j, none⟩ = some (.int .i64 (xs.getD j 0))) ∧ (∀ j, w.frozen? ⟨g, j, none⟩ = false) := by
  obtain ⟨hown, hin⟩ := h
  have h0 := hown
  obtain ⟨hl, h | ⟨g, cap, cur, rfl, hb, hg, hn, hm, hs, ht⟩⟩ := hown
  · omega
  · refine ⟨g, cap, rfl, hb, (Array.getElem?_eq_some_iff.1 hg).1, fun j hj => ?_, fun j => h0.frozenAt j⟩
    rw [h0.cellAt j (by omega)]
    simp [List.getD, hj]
theorem OwnInts.shape {w : World} {B : Nat} {v : Value} {xs : List Int} (h : OwnInts w B v xs) : ∃ ao cap, v = .slice ao xs.length cap := by
  obtain ⟨ao, cap, e, _⟩ := h.ints; exact ⟨ao, cap, e⟩
/-- A store into it. -/
theorem OwnInts.set {w : World} {B g cap : Nat} {xs : List Int} (h : OwnInts w B (.slice (some ⟨g, 0, none⟩) xs.length cap) xs) (k : Nat) (x : Int) (hx : Proofs.YtdiaejphgcoknaaGreatDoor.in64 x) :
    OwnInts (w.setCell ⟨g, k, none⟩ (.int .i64 x)) B (.slice (some ⟨g, 0, none⟩) xs.length cap) (xs.set k x) := by
  constructor
  · have := (h.1.stored k (.int .i64 x)).1
    simpa [List.map_set] using this
  · intro y hy
    rcases List.mem_or_eq_of_mem_set hy with h' | h'
    · exact h.2 y h'
    · rw [h']; exact hx

section
variable {ops : Array Oper} {rest : List Oper} {o : Oper} {a : Act} {Q : Exit → Act → World → Prop}

/-- 'v = append(v, y)'. -/
theorem wpList_app1 {W : World} (hgd : o.guard = none) (s x : Operand) (ho : o.op = .call { callee := .builtin .append, args := #[s, x], argTypes := #[32, 32] })
    (B : Nat) (v : Value) (xs : List Int) (y : Int) (hs : a.eval s = v) (hown : OwnInts W B v xs) {N : Nat} (hx : a.eval x = .slice (some ⟨N, 0, none⟩) 1 1) (hN : N = W.heap.size) (hy : Proofs.YtdiaejphgcoknaaGreatDoor.in64 y)
    (hlen : xs.length ≤ 1099511627776) (hB : B ≤ W.heap.size)
    (h : ∀ v' w', OwnInts w' B v' (xs ++ [y]) → Below B W w' → W.grownBy w' v.ownBlock → wpList Tryz.prog ops Q rest (a.put o.dst v') w') : wpList Tryz.prog ops Q (o :: rest) a (W.alloc (.cells #[.int .i64 y] 3)) := by
  subst hN
  obtain ⟨i0, hi, hz0, hz1, hz2⟩ := info_parts info3
  refine wpList_append_own _ hgd s x 32 ho B 3 i0 (.int .i64 0) 1 8 Tryz.underlying32 hi hz0 hz1 hz2 rfl (by decide) v xs.length (xs.map (Value.int .i64)) hs (hown.1.alloc _) ⟨W.heap.size, 0, none⟩ 1 1 [.int .i64 y] hx rfl ?_ ?_ (by unfold maxLen; omega) (by omega) (by simp; omega) ?_
  · intro j u hj
    match j, hj with
    | 0, hj => simp at hj; subst hj; simp [Addr.add]
  · intro u hu; simp at hu; subst hu; rfl
  · intro v' w' hown' hgrow _
    have hg2 : W.grownBy w' v.ownBlock := ⟨hgrow.os, hgrow.tape, hgrow.output, by have := hgrow.size; simp at this; omega, fun k hk hne => (hgrow.block k (by simp; omega) hne).trans (heap_alloc_old W _ hk)⟩
    refine h v' w' ⟨by simpa using hown', ?_⟩ ?_ hg2
    · intro z hz
      rcases List.mem_append.1 hz with hz | hz
      · exact hown.2 z hz
      · simp at hz; rw [hz]; exact hy
    · exact (Below.refl B W).grown hg2 hB fun k hk => (hown.1.lt k hk).1

/-- 'v = append(v, u...)'. -/
theorem wpList_appl {W : World} (hgd : o.guard = none) (s x : Operand) (ho : o.op = .call { callee := .builtin .append, args := #[s, x], argTypes := #[32, 32] })
    (B : Nat) (v u : Value) (xs ys : List Int) (hs : a.eval s = v) (hown : OwnInts W B v xs) (hx : a.eval x = u) (hu : Ints W u ys)
    (hlen : xs.length + ys.length ≤ 1099511627776) (hB : B ≤ W.heap.size)
    (h : ∀ v' w', OwnInts w' B v' (xs ++ ys) → Below B W w' → W.grownBy w' v.ownBlock → wpList Tryz.prog ops Q rest (a.put o.dst v') w') : wpList Tryz.prog ops Q (o :: rest) a W := by
  obtain ⟨i0, hi, hz0, hz1, hz2⟩ := info_parts info3
  obtain ⟨ao, cap, rfl, h1, h2, h3, h5, h4⟩ := hu
  have hin : ∀ z ∈ xs ++ ys, Proofs.YtdiaejphgcoknaaGreatDoor.in64 z := by
    intro z hz
    rcases List.mem_append.1 hz with hz | hz
    · exact hown.2 z hz
    · exact h3 z hz
  have hcell : ∀ ad, ao = some ad → ∀ (j : Nat) (u : Value), (ys.map (Value.int .i64))[j]? = some u → W.cell? (ad.add j) = some u := by
    intro ad had j u hj
    have hj' : j < ys.length := by
      rcases Nat.lt_or_ge j ys.length with h | h
      · exact h
      · rw [List.getElem?_eq_none (by simp; omega)] at hj; cases hj
    obtain ⟨b, off, e, hc⟩ := h4 j hj'
    rw [had] at e
    obtain rfl := Option.some.inj e
    rw [Go.WideShapes.add_plain, hc]
    simp [hj'] at hj
    simp [List.getD, hj', hj]
  cases ao with
  | none =>
    have hl : ys.length = 0 := by
      rcases Nat.eq_zero_or_pos ys.length with h | h
      · exact h
      · obtain ⟨_, _, e, _⟩ := h4 0 h; cases e
    have hy : ys = [] := List.length_eq_zero_iff.1 hl
    subst hy
    obtain rfl := h5 rfl
    refine wpList_append_own_none hgd s x 32 ho B 3 i0 1 Tryz.underlying32 hi v xs.length _ hs hown.1 hx ?_
    exact h v W (by simpa using hown) (Below.refl _ _) ⟨rfl, rfl, rfl, Nat.le_refl _, fun _ _ _ => rfl⟩
  | some ad =>
    refine wpList_append_own _ hgd s x 32 ho B 3 i0 (.int .i64 0) 1 8 Tryz.underlying32 hi hz0 hz1 hz2 rfl (by decide) v xs.length (xs.map (Value.int .i64)) hs hown.1 ad ys.length cap (ys.map (Value.int .i64)) hx (by simp) (hcell ad rfl) (ints_oneCell _ _) (by unfold maxLen; omega) (by omega) hB ?_
    intro v' w' hown' hgrow _
    refine h v' w' ⟨by simpa using hown', hin⟩ ?_ hgrow
    exact (Below.refl B W).grown hgrow hB fun k hk => (hown.1.lt k hk).1
end

/-- Block b holds just these cells, none of them frozen. -/
def Blk (w : World) (b : Nat) (cs : Array Value) (T : Nat) : Prop := w.heap[b]? = some (.cells cs T (0, 0))
theorem Blk.new (w : World) (cs : Array Value) (T : Nat) : Blk (w.alloc (.cells cs T)) w.heap.size cs T := heap_alloc_new w _
theorem Blk.lt {w : World} {b : Nat} {cs : Array Value} {T : Nat} (h : Blk w b cs T) : b < w.heap.size := (Array.getElem?_eq_some_iff.1 h).1
theorem Blk.ext {w w' : World} {b : Nat} {cs : Array Value} {T : Nat} (h : Blk w b cs T) (hb : Below w.heap.size w w') : Blk w' b cs T := (hb.block b h.lt).trans h
theorem Blk.below {B : Nat} {w w' : World} {b : Nat} {cs : Array Value} {T : Nat} (h : Blk w b cs T) (hb : Below B w w') (hB : b < B) : Blk w' b cs T := (hb.block b hB).trans h
theorem Blk.alloc {w : World} {b : Nat} {cs : Array Value} {T : Nat} (h : Blk w b cs T) (o : Obj) : Blk (w.alloc o) b cs T := (heap_alloc_old w _ h.lt).trans h
theorem Blk.drew {w : World} {b : Nat} {cs : Array Value} {T : Nat} (h : Blk w b cs T) : Blk w.drew b cs T := h
theorem Blk.grown {w w' : World} {row : Option Nat} {b : Nat} {cs : Array Value} {T : Nat} (h : Blk w b cs T) (hg : w.grownBy w' row) (hne : some b ≠ row) : Blk w' b cs T := (hg.block b h.lt hne).trans h
theorem Blk.setOther {w : World} {b : Nat} {cs : Array Value} {T : Nat} (h : Blk w b cs T) (a : Addr) (u : Value) (hne : b ≠ a.block) : Blk (w.setCell a u) b cs T := (Below.heap_setCell w a u b hne).trans h
theorem Blk.set {w : World} {b : Nat} {cs : Array Value} {T : Nat} (h : Blk w b cs T) (o : Nat) (u : Value) : Blk (w.setCell ⟨b, o, none⟩ u) b (cs.setIfInBounds o u) T := heap_setCell_same w b o cs T u h
theorem Blk.cell {w : World} {b : Nat} {cs : Array Value} {T : Nat} (h : Blk w b cs T) (o : Nat) : w.cell? ⟨b, o, none⟩ = cs[o]? := cell_of_row w b o cs T (0, 0) h
theorem Blk.free {w : World} {b : Nat} {cs : Array Value} {T : Nat} (h : Blk w b cs T) (o : Nat) : w.frozen? ⟨b, o, none⟩ = false := by
  unfold Blk at h
  simp [World.frozen?, h]
theorem OwnInts.setOther {w : World} {B : Nat} {v : Value} {xs : List Int} (h : OwnInts w B v xs) {a : Addr} (ha : a.block < B) (u : Value) : OwnInts (w.setCell a u) B v xs := ⟨ownsRow_setCell_below h.1 ha u, h.2⟩
theorem OwnInts.ownNe {w : World} {B : Nat} {v : Value} {xs : List Int} (h : OwnInts w B v xs) {b : Nat} (hb : b < B ∨ w.heap.size ≤ b) : some b ≠ v.ownBlock := by
  intro e
  have := h.1.lt b e.symm
  omega

theorem OwnInts.at {w : World} {B g n cap : Nat} {xs : List Int} (h : OwnInts w B (.slice (some ⟨g, 0, none⟩) n cap) xs) :
    n = xs.length ∧ B ≤ g ∧ g < w.heap.size ∧ (∀ j, j < xs.length → w.cell? ⟨g, j, none⟩ = some (.int .i64 (xs.getD j 0))) ∧ (∀ j, w.frozen? ⟨g, j, none⟩ = false) := by
  have hn : n = xs.length := by
    rcases h.1.2 with ⟨h', _⟩ | ⟨g', cap', cur, h', _⟩
    · cases h'
    · cases h'; rfl
  subst hn
  have h0 := h.1
  rcases h.1.2 with ⟨h', _⟩ | ⟨g', cap', cur, h', hb, hg, _⟩
  · cases h'
  · cases h'
    refine ⟨rfl, hb, (Array.getElem?_eq_some_iff.1 hg).1, fun j hj => ?_, fun j => h0.frozenAt j⟩
    rw [h0.cellAt j (by omega)]
    simp [List.getD, hj]
theorem OwnInts.set' {w : World} {B g n cap : Nat} {xs : List Int} (h : OwnInts w B (.slice (some ⟨g, 0, none⟩) n cap) xs) (k : Nat) (x : Int) (hx : Proofs.YtdiaejphgcoknaaGreatDoor.in64 x) :
    OwnInts (w.setCell ⟨g, k, none⟩ (.int .i64 x)) B (.slice (some ⟨g, 0, none⟩) n cap) (xs.set k x) := by
  obtain rfl := h.at.1
  exact h.set k x hx
/-- The value of a slice that is owned and not empty is known by its head. -/
theorem OwnInts.head {w : World} {B : Nat} {v : Value} {xs : List Int} (h : OwnInts w B v xs) (hp : 0 < xs.length) : ∃ g cap, v = .slice (some ⟨g, 0, none⟩) xs.length cap ∧ B ≤ g ∧ g < w.heap.size := by
  obtain ⟨g, cap, e, h1, h2, _⟩ := h.open hp
  exact ⟨g, cap, e, h1, h2⟩
theorem i64_and_nat (a b : Nat) (ha : a < 9223372036854775808) (hb : b < 9223372036854775808) : bits .and .i64 (a : Int) (b : Int) = ((a &&& b : Nat) : Int) := by
  have hx : a &&& b < 2 ^ 63 := Nat.and_lt_two_pow _ (by omega)
  have h1 : (BitVec.ofInt 64 (a : Int)).toNat = a := by
    rw [BitVec.ofInt_natCast, BitVec.toNat_ofNat]; exact Nat.mod_eq_of_lt (by omega)
  have h2 : (BitVec.ofInt 64 (b : Int)).toNat = b := by
    rw [BitVec.ofInt_natCast, BitVec.toNat_ofNat]; exact Nat.mod_eq_of_lt (by omega)
  show IntKind.i64.wrap ((BitVec.ofInt 64 (a : Int) &&& BitVec.ofInt 64 (b : Int)).toNat : Int) = _
  rw [BitVec.toNat_and, h1, h2, IntKind.wrap_i64]
  omega
theorem i64_or_nat (a b : Nat) (ha : a < 9223372036854775808) (hb : b < 9223372036854775808) : bits .or .i64 (a : Int) (b : Int) = ((a ||| b : Nat) : Int) := by
  have hx : a ||| b < 2 ^ 63 := Nat.or_lt_two_pow (by omega) (by omega)
  have h1 : (BitVec.ofInt 64 (a : Int)).toNat = a := by
    rw [BitVec.ofInt_natCast, BitVec.toNat_ofNat]; exact Nat.mod_eq_of_lt (by omega)
  have h2 : (BitVec.ofInt 64 (b : Int)).toNat = b := by
    rw [BitVec.ofInt_natCast, BitVec.toNat_ofNat]; exact Nat.mod_eq_of_lt (by omega)
  show IntKind.i64.wrap ((BitVec.ofInt 64 (a : Int) ||| BitVec.ofInt 64 (b : Int)).toNat : Int) = _
  rw [BitVec.toNat_or, h1, h2, IntKind.wrap_i64]
  omega

/-- 'make([]int, n)'. -/
theorem wpList_make {ops : Array Oper} {rest : List Oper} {o : Oper} {a : Act} {Q : Exit → Act → World → Prop} {W : World} (hgd : o.guard = none) (l c : Operand) (ho : o.op = .makeSlice 32 l c)
    (n : Nat) {L C : Int} (hl : a.eval l = .int .i64 L) (hc : a.eval c = .int .i64 C) (hL : L = (n : Int)) (hC : C = (n : Int)) (hn : n ≤ 1099511627776)
    (h : ∀ w', OwnInts w' W.heap.size (.slice (some ⟨W.heap.size, 0, none⟩) n n) (List.replicate n 0) → Below W.heap.size W w' → W.heap.size < w'.heap.size → wpList Tryz.prog ops Q rest (a.put o.dst (.slice (some ⟨W.heap.size, 0, none⟩) n n)) w') :
    wpList Tryz.prog ops Q (o :: rest) a W := by
  obtain ⟨i0, hi, hz0, hz1, hz2⟩ := info_parts info3
  refine wpList_make_full _ hgd l c 32 ho W.heap.size 3 i0 (.int .i64 0) 1 Tryz.underlying32 hi hz0 hz1 .i64 .i64 L C n hl hc hL hC (by rw [hz2]; omega) (by unfold maxLen; omega) (Nat.le_refl _) ?_
  intro w' hown hgrow
  have hb : Below W.heap.size W w' := (Below.refl _ _).grown hgrow (Nat.le_refl _) (by simp)
  have hlt : W.heap.size < w'.heap.size := (hown.lt W.heap.size rfl).2
  refine h w' ⟨?_, by simp [Proofs.YtdiaejphgcoknaaGreatDoor.in64]⟩ hb hlt
  have e : (madeCells (Value.int .i64 0).cells (n * 1)).toList = (List.replicate n (0 : Int)).map (Value.int .i64) := by
    show (madeCells #[Value.int .i64 0] (n * 1)).toList = _
    rw [toList_madeCells_one, Nat.mul_one, List.map_replicate]
  rw [e] at hown
  simpa using hown
/-- Two cells of a block of the call's own, for the walk. -/
theorem Blk.two {w : World} {b : Nat} {x y : Value} {T : Nat} (h : Blk w b #[x, y] T) : w.cell? ⟨b, 0, none⟩ = some x ∧ w.cell? ⟨b, 1, none⟩ = some y ∧ w.frozen? ⟨b, 0, none⟩ = false ∧ w.frozen? ⟨b, 1, none⟩ = false :=
  ⟨h.cell 0, h.cell 1, h.free 0, h.free 1⟩
theorem Blk.set2 {w : World} {b : Nat} {x y : Value} {T : Nat} (h : Blk w b #[x, y] T) (x' y' : Value) : Blk ((w.setCell ⟨b, 0, none⟩ x').setCell ⟨b, 1, none⟩ y') b #[x', y'] T := (h.set 0 x').set 1 y'
end Go.Proofs.YtdiaejphgcoknaaGreatDoor
