/- disk: Files: what it tells; the contract. -/
import Derived.Test.YtdiaejphgcoknaaGreatDoorDiskL
import Derived.Test.YtdiaejphgcoknaaGreatDoorRow1
set_option linter.unusedSimpArgs false
set_option linter.unusedVariables false
namespace Go.Proofs.YtdiaejphgcoknaaGreatDoor
open Go.RowKit Go.Extern.Stop Go.Stop Go.Extern Go.Maps Go.Sort

structure FV where
  name : Bs
  data : Bs
  safe : Nat
def FV.nought : FV := ⟨[], [], 0⟩
def gcell (fs : List FV) (ps : List Value) (j : Nat) : List Value := [.string ⟨(fs.getD j FV.nought).name.toArray⟩, ps.getD j .nilIface, .int .i64 ((fs.getD j FV.nought).safe : Int)]
def gcells (fs : List FV) (ps : List Value) : List Value := (List.range fs.length).flatMap (gcell fs ps)
theorem gcells_app (fs : List FV) (ps : List Value) (f : FV) (v : Value) (hl : ps.length = fs.length) : gcells (fs ++ [f]) (ps ++ [v]) = gcells fs ps ++ [.string ⟨f.name.toArray⟩, v, .int .i64 (f.safe : Int)] := by
  unfold gcells
  rw [List.length_append, List.length_singleton, List.range_succ, List.flatMap_append]
  congr 1
  · refine flatR_congr fun j hj => ?_
    unfold gcell
    rw [getD_appL hj, getD_appL (by rw [hl]; exact hj)]
  · rw [List.flatMap_cons, List.flatMap_nil, List.append_nil]
    unfold gcell
    rw [getD_appE, ← hl, getD_appE]
/-- Files in a row of the call's own, their bytes too. -/
def OwnFs (w : World) (B : Nat) (v : Value) (fs : List FV) : Prop :=
  ∃ ps : List Value, w.ownsRow B 57 3 v fs.length (gcells fs ps) ∧ ps.length = fs.length ∧ ∀ j, j < fs.length → w.ownsRow B 5 1 (ps.getD j .nilIface) (fs.getD j FV.nought).data.length (bcells (fs.getD j FV.nought).data)
theorem OwnFs.nil (w : World) (B : Nat) : OwnFs w B (.slice none 0 0) [] := ⟨[], World.ownsRow_nil w B _ 3, rfl, fun j h => by simp at h⟩
theorem OwnFs.ext {w w' : World} {B : Nat} {v : Value} {fs : List FV} (h : OwnFs w B v fs) (hb : Below w.heap.size w w') : OwnFs w' B v fs := by
  obtain ⟨ps, h1, h2, h3⟩ := h
  exact ⟨ps, row_ext h1 hb, h2, fun j hj => row_ext (h3 j hj) hb⟩
theorem OwnFs.shapeN {w : World} {B : Nat} {v : Value} {fs : List FV} (h : OwnFs w B v fs) {n : Nat} (hn : fs.length = n) : ∃ ao cap, v = .slice ao n cap := by
  obtain ⟨ps, h1, h2, h3⟩ := h
  obtain ⟨ao, cap, e⟩ := rowShape h1
  exact ⟨ao, cap, by rw [e, hn]⟩
theorem OwnFs.mono {w : World} {B B' : Nat} {v : Value} {fs : List FV} (h : OwnFs w B v fs) (hB : B' ≤ B) : OwnFs w B' v fs := by
  obtain ⟨ps, h1, h2, h3⟩ := h
  exact ⟨ps, row_mono h1 hB, h2, fun j hj => row_mono (h3 j hj) hB⟩
/-- What a disk's turning leaves alone. -/
theorem OwnFs.far {w w' : World} {B : Nat} {v : Value} {fs : List FV} {F : Nat → Prop} (h : OwnFs w B v fs) (hk : Keep F w w') (hF : ∀ k, B ≤ k → k < w.heap.size → ¬ F k) : OwnFs w' B v fs := by
  obtain ⟨ps, h1, h2, h3⟩ := h
  exact ⟨ps, row_of_block h1 fun k e => hk.block k (h1.lt k e).2 (hF k (h1.lt k e).1 (h1.lt k e).2), h2, fun j hj => row_of_block (h3 j hj) fun k e => hk.block k ((h3 j hj).lt k e).2 (hF k ((h3 j hj).lt k e).1 ((h3 j hj).lt k e).2)⟩
theorem OwnFs.cellAt {w : World} {B : Nat} {ao : Option Addr} {n cap : Nat} {fs : List FV} (h : OwnFs w B (.slice ao n cap) fs) {j : Nat} (hj : j < fs.length) :
    ∃ g v, ao = some ⟨g, 0, none⟩ ∧ g < w.heap.size ∧ w.cell? ⟨g, j * 3, none⟩ = some (.string ⟨(fs.getD j FV.nought).name.toArray⟩) ∧ w.cell? ⟨g, j * 3 + 1, none⟩ = some v ∧ w.cell? ⟨g, j * 3 + 2, none⟩ = some (.int .i64 ((fs.getD j FV.nought).safe : Int)) ∧ w.ownsRow B 5 1 v (fs.getD j FV.nought).data.length (bcells (fs.getD j FV.nought).data) := by
  obtain ⟨ps, h1, h2, h3⟩ := h
  rcases row_head h1 with ⟨_, h0⟩ | ⟨g, cap', e, -, hlt, -⟩
  · omega
  · obtain ⟨rfl, rfl, rfl⟩ := Value.slice.inj e
    refine ⟨g, ps.getD j .nilIface, rfl, hlt, ?_, ?_, ?_, h3 j hj⟩
    · exact row_cellAt h1 (flatR_at (m := 3) (c := 0) (fun _ => rfl) _ hj (by decide))
    · exact row_cellAt h1 (flatR_at (m := 3) (c := 1) (fun _ => rfl) _ hj (by decide))
    · exact row_cellAt h1 (flatR_at (m := 3) (c := 2) (fun _ => rfl) _ hj (by decide))
theorem infoG : (Tryz.prog.info? 57).map (fun i => (i.zero, i.size, i.bytes)) = some (some (.agg #[.string ⟨#[]⟩, .slice none 0 0, .int .i64 0]), 3, 48) := by kernel_rfl
theorem OwnFs.app {w w' : World} {B : Nat} {v v' p : Value} {fs : List FV} {ps : List Value} {f : FV} (h1 : w.ownsRow B 57 3 v fs.length (gcells fs ps)) (h2 : ps.length = fs.length)
    (h3 : ∀ j, j < fs.length → w.ownsRow B 5 1 (ps.getD j .nilIface) (fs.getD j FV.nought).data.length (bcells (fs.getD j FV.nought).data))
    (hp : w.ownsRow B 5 1 p f.data.length (bcells f.data)) (hg : w.grownBy w' v.ownBlock) (hrow : w'.ownsRow B 57 3 v' (fs.length + 1) (gcells fs ps ++ [.string ⟨f.name.toArray⟩, p, .int .i64 (f.safe : Int)])) : OwnFs w' B v' (fs ++ [f]) := by
  refine ⟨ps ++ [p], by rw [gcells_app fs ps f p h2, List.length_append, List.length_singleton]; exact hrow, by simp [h2], fun j hj => ?_⟩
  have keep : ∀ {q : Value} {n : Nat} {cs : List Value}, w.ownsRow B 5 1 q n cs → w'.ownsRow B 5 1 q n cs := fun {q n cs} hq => row_grown hq hg (rows_ne h1 hq (by decide))
  rcases Nat.lt_or_ge j fs.length with hjl | hjl
  · rw [getD_appL (by omega), getD_appL hjl]
    exact keep (h3 j hjl)
  · obtain rfl : j = fs.length := by simp at hj; omega
    rw [getD_appE, show (ps ++ [p]).getD fs.length .nilIface = p from by rw [← h2]; exact getD_appE]
    exact keep hp
/-- A disk's files, as it tells them. -/
def fileV (D : DS) (x : Bs) : FV := ⟨x, (D.file (fileN D.names x)).data, (D.file (fileN D.names x)).safe⟩
def filesD (D : DS) : List FV := (listD D).map (fileV D)
theorem length_filesD (D : DS) : (filesD D).length = D.names.length := by rw [filesD, List.length_map, length_listD]
theorem mem_keysN {m : NM} {x : Bs} (h : x ∈ keysN m) : ∃ v, nget m x = some v ∧ (x, v) ∈ m := by
  obtain ⟨q, hq, rfl⟩ := List.mem_map.1 h
  cases e : nget m q.1 with
  | some v => exact ⟨v, rfl, mem_nget e⟩
  | none =>
    unfold nget at e
    rw [Option.map_eq_none_iff, List.find?_eq_none] at e
    exact absurd (e q hq) (by simp)
theorem listD_file {D : DS} {T : Nat} (hI : Inv D T) {j : Nat} (hj : j < D.names.length) : fileN D.names ((listD D).getD j []) < D.all.length ∧ (listD D).getD j [] ∈ keysN D.names := by
  have hj' : j < (listD D).length := by rw [length_listD]; exact hj
  have hm : (listD D).getD j [] ∈ listD D := by rw [List.getD_eq_getElem?_getD, List.getElem?_eq_getElem hj']; exact List.getElem_mem hj'
  have hm2 : (listD D).getD j [] ∈ keysN D.names := List.mem_mergeSort.1 hm
  obtain ⟨v, h1, h2⟩ := mem_keysN hm2
  refine ⟨?_, hm2⟩
  unfold fileN
  rw [h1]
  exact hI.vals _ h2
theorem take_app {α : Type} (l : List α) (d : α) {k : Nat} (h : k < l.length) : l.take (k + 1) = l.take k ++ [l.getD k d] := by
  rw [List.take_succ_eq_append_getElem h, List.getD_eq_getElem?_getD, List.getElem?_eq_getElem h]; rfl
theorem filesD_at (D : DS) {k : Nat} (h : k < D.names.length) : (filesD D).getD k FV.nought = fileV D ((listD D).getD k []) := by
  have h' : k < (listD D).length := by rw [length_listD]; exact h
  unfold filesD
  rw [List.getD_eq_getElem?_getD, List.getElem?_map, List.getElem?_eq_getElem h', List.getD_eq_getElem?_getD, List.getElem?_eq_getElem h']; rfl
def FilesPost (D : DS) (w : World) (e : Ending) (w' : World) : Prop := ∃ v, e = .returned v ∧ OwnFs w' w.heap.size v (filesD D) ∧ Below w.heap.size w w'
end Go.Proofs.YtdiaejphgcoknaaGreatDoor
