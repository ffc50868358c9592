/- disk.files: what a crash may leave, sorted: contract. -/
import Derived.Test.YtdiaejphgcoknaaGreatDoorDiskQ
set_option linter.unusedSimpArgs false
set_option linter.unusedVariables false
namespace Go.Proofs.YtdiaejphgcoknaaGreatDoor
open Go.RowKit Go.Extern.Stop Go.Stop Go.Extern Go.Maps Go.Sort

def natI (n : Nat) : Value := .int .i64 (n : Int)
theorem holds_of_blockI {w : World} {g : Nat} {cur : Array Value} {e : TypeId} {zs : List Int} (hb : w.heap[g]? = some (.cells cur e (0, 0))) (ht : cur.toList.take zs.length = zs.map (Value.int .i64)) : Holds (Value.int .i64) w g 0 zs.toArray := by
  intro j hj
  have hj' : j < zs.length := by simpa using hj
  refine ⟨?_, by simp [World.frozen?, hb]⟩
  have h1 : (cur.toList.take zs.length)[j]? = (zs.map (Value.int .i64))[j]? := by rw [ht]
  rw [List.getElem?_take_of_lt hj'] at h1
  simp only [World.cell?, hb, Nat.zero_add]
  simp only [Option.isSome_none, Bool.false_eq_true, if_false]
  rw [← Array.getElem?_toList, h1]
  simp [hj']
theorem heap_sortedI {w : World} {g n : Nat} {os : Array Obj} {cur : Array Value} {e : TypeId} {fr : Nat × Nat} (d : Array Int) (hb : w.heap[g]? = some (.cells cur e fr)) :
    (grow (putRow (Value.int .i64) (Sort.ahead w n) g 0 d) os).heap[g]? = some (.cells (putCells (Value.int .i64) 0 d cur) e fr) := by
  have hg : g < w.heap.size := (Array.getElem?_eq_some_iff.1 hb).1
  rw [heap_grow_old _ _ (by simpa using hg)]
  simp [putRow, mapBlock, Sort.ahead, Array.getElem?_modify, hb, onCells]
theorem grownBy_sortedI {w : World} {g n : Nat} {os : Array Obj} (d : Array Int) : w.grownBy (grow (putRow (Value.int .i64) (Sort.ahead w n) g 0 d) os) (some g) := by
  refine ⟨rfl, rfl, rfl, by simp, fun k hk hne => ?_⟩
  rw [heap_grow_old _ _ (by simpa using hk)]
  have : g ≠ k := fun e => hne (by rw [e])
  simp [putRow, mapBlock, Sort.ahead, Array.getElem?_modify, this]
theorem take_putCellsI (cur : Array Value) (ts : List Int) (h : ts.length ≤ cur.size) : (putCells (Value.int .i64) 0 ts.toArray cur).toList.take ts.length = ts.map (Value.int .i64) := by
  apply List.ext_getElem?
  intro j
  by_cases hj : j < ts.length
  · rw [List.getElem?_take_of_lt hj, Array.getElem?_toList]
    simp [putCells, hj, show j < cur.size by omega]
  · rw [List.getElem?_take_eq_none (by omega), List.getElem?_eq_none (by simp; omega)]
theorem ownsRow_sortedI {w : World} {base g cap n : Nat} {e : TypeId} {os : Array Obj} {cur : Array Value} {ss ts : List Int} (hl : ts.length = ss.length) (hbase : base ≤ g) (hb : w.heap[g]? = some (.cells cur e (0, 0)))
    (h1 : ss.length ≤ cap) (h2 : cap ≤ maxLen) (h3 : cur.size = cap * 1) :
    (grow (putRow (Value.int .i64) (Sort.ahead w n) g 0 ts.toArray) os).ownsRow base e 1 (.slice (some ⟨g, 0, none⟩) ss.length cap) ss.length (ts.map (Value.int .i64)) :=
  ⟨by simp [hl], .inr ⟨g, cap, _, rfl, hbase, heap_sortedI _ hb, h1, h2, by simp [putCells, h3], by rw [Nat.mul_one, ← hl]; exact take_putCellsI cur ts (by omega)⟩⟩
theorem sortI_of_perm {l l' : List Int} (h : l.Perm l') : (l.mergeSort fun x y => decide (x ≤ y)) = l'.mergeSort fun x y => decide (x ≤ y) := by
  have tr : ∀ a b c : Int, decide (a ≤ b) = true → decide (b ≤ c) = true → decide (a ≤ c) = true := fun a b c h1 h2 => by simp only [decide_eq_true_eq] at *; omega
  have to : ∀ a b : Int, (decide (a ≤ b) || decide (b ≤ a)) = true := fun a b => by simp only [Bool.or_eq_true, decide_eq_true_eq]; omega
  refine List.Perm.eq_of_pairwise (le := fun a b => decide (a ≤ b) = true) (fun a b _ _ h1 h2 => ?_) (List.pairwise_mergeSort tr to l) (List.pairwise_mergeSort tr to l') (((List.mergeSort_perm l _).trans h).trans (List.mergeSort_perm l' _).symm)
  simp only [decide_eq_true_eq] at h1 h2
  omega
theorem sort_ofNat (l : List Nat) : ((l.map fun n : Nat => (n : Int)).mergeSort fun x y => decide (x ≤ y)) = (l.mergeSort fun a b => decide (a ≤ b)).map fun n : Nat => (n : Int) := by
  rw [List.map_mergeSort]
  intro a _ b _
  simp
/-- Numbers that were created, of the first k steps. -/
def madeN (l : List Stp) (k : Nat) : List Nat := ((l.take k).filter fun s => s.kind == 0).map fun s => s.file
theorem madeN_succ (l : List Stp) {k : Nat} (h : k < l.length) : madeN l (k + 1) = if (l.getD k ⟨0, [], [], 0⟩).kind = 0 then madeN l k ++ [(l.getD k ⟨0, [], [], 0⟩).file] else madeN l k := by
  unfold madeN
  rw [take_app l ⟨0, [], [], 0⟩ h, List.filter_append, List.map_append]
  generalize l.getD k ⟨0, [], [], 0⟩ = s
  by_cases hk : s.kind = 0
  · rw [if_pos hk, List.filter_cons_of_pos (by simp [hk]), List.filter_nil, List.map_cons, List.map_nil]
  · rw [if_neg hk, List.filter_cons_of_neg (by simp [hk]), List.filter_nil, List.map_nil, List.append_nil]
theorem madeN_le (l : List Stp) (k : Nat) : (madeN l k).length ≤ k := by
  unfold madeN
  rw [List.length_map]
  exact Nat.le_trans (List.length_filter_le _ _) (by rw [List.length_take]; omega)
end Go.Proofs.YtdiaejphgcoknaaGreatDoor
