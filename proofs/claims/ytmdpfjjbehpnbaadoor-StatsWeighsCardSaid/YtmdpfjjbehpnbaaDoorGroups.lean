/- Groups of frames as lists of pairs: read ('Grps'), and of the call's own ('OwnG'). -/
import Derived.Test.YtmdpfjjbehpnbaaDoorOwn
import Derived.Test.YtmdpfjjbehpnbaaDoorFrames
set_option linter.unusedSimpArgs false
set_option linter.unusedVariables false
namespace Go.Proofs.YtmdpfjjbehpnbaaDoor
open Go.RowKit

def gcells (gs : List (Int × Int)) : List Value := gs.flatMap fun p => [.int .i64 p.1, .int .i64 p.2]
theorem length_gcells (gs : List (Int × Int)) : (gcells gs).length = gs.length * 2 := by
  induction gs with
  | nil => rfl
  | cons p t ih => simp only [gcells, List.flatMap_cons, List.length_append, List.length_cons, List.length_nil] at *; omega
theorem gcells_app (gs hs : List (Int × Int)) : gcells (gs ++ hs) = gcells gs ++ gcells hs := by simp [gcells]
theorem gcells_at : ∀ (gs : List (Int × Int)) {j : Nat}, j < gs.length → (gcells gs)[j * 2]? = some (.int .i64 (gs.getD j (0, 0)).1) ∧ (gcells gs)[j * 2 + 1]? = some (.int .i64 (gs.getD j (0, 0)).2)
  | [], j, h => by simp at h
  | p :: t, 0, h => by simp [gcells]
  | p :: t, j + 1, h => by
    have ih := gcells_at t (j := j) (by simp at h; omega)
    have e : gcells (p :: t) = .int .i64 p.1 :: .int .i64 p.2 :: gcells t := rfl
    rw [e, show (j + 1) * 2 = j * 2 + 1 + 1 from by omega]
    simpa using ih
theorem gcells_set : ∀ (gs : List (Int × Int)) {j : Nat} (c : Int), j < gs.length → (gcells gs).set (j * 2 + 1) (.int .i64 c) = gcells (gs.set j ((gs.getD j (0, 0)).1, c))
  | [], j, c, h => by simp at h
  | p :: t, 0, c, h => by simp [gcells]
  | p :: t, j + 1, c, h => by
    have ih := gcells_set t (j := j) c (by simp at h; omega)
    have e : gcells (p :: t) = .int .i64 p.1 :: .int .i64 p.2 :: gcells t := rfl
    rw [e, show (j + 1) * 2 + 1 = (j * 2 + 1) + 1 + 1 from by omega, List.set_cons_succ, List.set_cons_succ, ih]
    simp [gcells]
/-- The slice v reads as the groups gs. -/
def Grps (w : World) (v : Value) (gs : List (Int × Int)) : Prop :=
  ∃ (ao : Option Addr) (cap : Nat), v = .slice ao gs.length cap ∧ gs.length ≤ cap ∧ cap ≤ maxLen ∧ (ao = none → cap = 0) ∧ (∀ p ∈ gs, in64 p.1 ∧ in64 p.2) ∧
    ∀ j, j < gs.length → ∃ b off, ao = some ⟨b, off, none⟩ ∧ b < w.heap.size ∧ w.cell? ⟨b, off + j * 2, none⟩ = some (.int .i64 (gs.getD j (0, 0)).1) ∧ w.cell? ⟨b, off + j * 2 + 1, none⟩ = some (.int .i64 (gs.getD j (0, 0)).2)
theorem Grps.nil (w : World) : Grps w (.slice none 0 0) [] := ⟨none, 0, rfl, by simp, by simp [maxLen], fun _ => rfl, by simp, fun j hj => by simp at hj⟩
theorem Grps.ext {w w' : World} {v : Value} {gs : List (Int × Int)} (h : Grps w v gs) (hb : Below w.heap.size w w') : Grps w' v gs := by
  obtain ⟨ao, cap, rfl, h1, h2, h3, h5, h4⟩ := h
  refine ⟨ao, cap, rfl, h1, h2, h3, h5, fun j hj => ?_⟩
  obtain ⟨b, off, e, hlt, c0, c1⟩ := h4 j hj
  exact ⟨b, off, e, Nat.lt_of_lt_of_le hlt hb.size, by rw [hb.cell (p := ⟨b, _, none⟩) hlt]; exact c0, by rw [hb.cell (p := ⟨b, _, none⟩) hlt]; exact c1⟩
theorem Grps.shape {w : World} {v : Value} {gs : List (Int × Int)} (h : Grps w v gs) : ∃ ao cap, v = .slice ao gs.length cap := by
  obtain ⟨ao, cap, e, _⟩ := h; exact ⟨ao, cap, e⟩
theorem Grps.len {w : World} {v : Value} {gs : List (Int × Int)} (h : Grps w v gs) : gs.length ≤ 9223372036854775807 := by
  obtain ⟨ao, cap, _, h1, h2, _⟩ := h; unfold maxLen at h2; omega
theorem Grps.in64 {w : World} {v : Value} {gs : List (Int × Int)} (h : Grps w v gs) (j : Nat) : Proofs.YtmdpfjjbehpnbaaDoor.in64 (gs.getD j (0, 0)).1 ∧ Proofs.YtmdpfjjbehpnbaaDoor.in64 (gs.getD j (0, 0)).2 := by
  obtain ⟨ao, cap, _, h1, h2, _, h5, _⟩ := h
  by_cases hj : j < gs.length
  · rw [List.getD_eq_getElem?_getD, List.getElem?_eq_getElem hj]; exact h5 _ (List.getElem_mem hj)
  · rw [List.getD_eq_getElem?_getD, List.getElem?_eq_none (by omega)]; simp [Proofs.YtmdpfjjbehpnbaaDoor.in64]
theorem Grps.cellAt {w : World} {ao : Option Addr} {n cap : Nat} {gs : List (Int × Int)} (h : Grps w (.slice ao n cap) gs) {j : Nat} (hj : j < gs.length) :
    ∃ b off, ao = some ⟨b, off, none⟩ ∧ b < w.heap.size ∧ w.cell? ⟨b, off + j * 2, none⟩ = some (.int .i64 (gs.getD j (0, 0)).1) ∧ w.cell? ⟨b, off + j * 2 + 1, none⟩ = some (.int .i64 (gs.getD j (0, 0)).2) := by
  obtain ⟨ao', cap', e, _, _, _, _, h4⟩ := h
  cases e; exact h4 j hj
/-- Groups in a row of the call's own. -/
def OwnG (w : World) (B : Nat) (v : Value) (gs : List (Int × Int)) : Prop := w.ownsRow B 52 2 v gs.length (gcells gs) ∧ ∀ p ∈ gs, in64 p.1 ∧ in64 p.2
theorem OwnG.nil (w : World) (B : Nat) : OwnG w B (.slice none 0 0) [] := ⟨World.ownsRow_nil w B _ 2, by simp⟩
theorem OwnG.ext {w w' : World} {B : Nat} {v : Value} {gs : List (Int × Int)} (h : OwnG w B v gs) (hb : Below w.heap.size w w') : OwnG w' B v gs := ⟨row_ext h.1 hb, h.2⟩
theorem OwnG.mono {w : World} {B B' : Nat} {v : Value} {gs : List (Int × Int)} (h : OwnG w B v gs) (hB : B' ≤ B) : OwnG w B' v gs := ⟨row_mono h.1 hB, h.2⟩
theorem OwnG.grps {w : World} {B : Nat} {v : Value} {gs : List (Int × Int)} (h : OwnG w B v gs) : Grps w v gs := by
  obtain ⟨h, hin⟩ := h
  rcases row_head h with ⟨rfl, h0⟩ | ⟨g, cap, rfl, -, hlt, h1, h2, -⟩
  · obtain rfl := List.length_eq_zero_iff.1 h0
    exact Grps.nil w
  · refine ⟨_, cap, rfl, h1, h2, fun h => (by cases h), hin, fun j hj => ⟨g, 0, rfl, hlt, ?_, ?_⟩⟩
    · rw [Nat.zero_add]; exact row_cellAt h (gcells_at gs hj).1
    · rw [Nat.zero_add]; exact row_cellAt h (gcells_at gs hj).2
/-- One that is not empty: its head, its cells. -/
theorem OwnG.at {w : World} {B : Nat} {v : Value} {gs : List (Int × Int)} (h : OwnG w B v gs) (hp : 0 < gs.length) :
    ∃ g cap, v = .slice (some ⟨g, 0, none⟩) gs.length cap ∧ B ≤ g ∧ g < w.heap.size ∧ (∀ j, j < gs.length → w.cell? ⟨g, j * 2, none⟩ = some (.int .i64 (gs.getD j (0, 0)).1) ∧ w.cell? ⟨g, j * 2 + 1, none⟩ = some (.int .i64 (gs.getD j (0, 0)).2)) ∧ (∀ j, w.frozen? ⟨g, j, none⟩ = false) := by
  obtain ⟨h, hin⟩ := h
  rcases row_head h with ⟨rfl, h0⟩ | ⟨g, cap, rfl, hB, hlt, h1, h2, hf, -⟩
  · omega
  · exact ⟨g, cap, rfl, hB, hlt, fun j hj => ⟨row_cellAt h (gcells_at gs hj).1, row_cellAt h (gcells_at gs hj).2⟩, hf⟩
theorem OwnG.atN {w : World} {B m : Nat} {v : Value} {gs : List (Int × Int)} (h : OwnG w B v gs) (hn : gs.length = m + 1) :
    ∃ g cap, v = .slice (some ⟨g, 0, none⟩) (m + 1) cap ∧ B ≤ g ∧ g < w.heap.size ∧ w.cell? ⟨g, m * 2, none⟩ = some (.int .i64 (gs.getD m (0, 0)).1) ∧ w.cell? ⟨g, m * 2 + 1, none⟩ = some (.int .i64 (gs.getD m (0, 0)).2) ∧ (∀ j, w.frozen? ⟨g, j, none⟩ = false) := by
  obtain ⟨g, cap, e, h1, h2, h3, h4⟩ := h.at (by omega)
  exact ⟨g, cap, by rw [e, hn], h1, h2, (h3 m (by omega)).1, (h3 m (by omega)).2, h4⟩
theorem OwnG.set {w : World} {B g cap : Nat} {gs : List (Int × Int)} (h : OwnG w B (.slice (some ⟨g, 0, none⟩) gs.length cap) gs) {j : Nat} (hj : j < gs.length) (c : Int) (hc : in64 c) :
    OwnG (w.setCell ⟨g, j * 2 + 1, none⟩ (.int .i64 c)) B (.slice (some ⟨g, 0, none⟩) gs.length cap) (gs.set j ((gs.getD j (0, 0)).1, c)) := by
  have h0 := h.1
  have := (h.1.stored (j * 2 + 1) (.int .i64 c)).1
  rw [gcells_set gs c hj] at this
  refine ⟨by rw [List.length_set]; exact this, fun p hp => ?_⟩
  rcases List.mem_or_eq_of_mem_set hp with h' | h'
  · exact h.2 p h'
  · rw [h']; exact ⟨by rw [List.getD_eq_getElem?_getD, List.getElem?_eq_getElem hj]; exact (h.2 _ (List.getElem_mem hj)).1, hc⟩
theorem OwnG.setN {w : World} {B g cap m : Nat} {gs : List (Int × Int)} (h : OwnG w B (.slice (some ⟨g, 0, none⟩) (m + 1) cap) gs) (hn : gs.length = m + 1) (c : Int) (hc : in64 c) :
    OwnG (w.setCell ⟨g, m * 2 + 1, none⟩ (.int .i64 c)) B (.slice (some ⟨g, 0, none⟩) (m + 1) cap) (gs.set m ((gs.getD m (0, 0)).1, c)) := by
  rw [← hn] at h ⊢
  exact h.set (by omega) c hc
theorem OwnG.app {w' : World} {B : Nat} {v' : Value} {gs : List (Int × Int)} {x y : Int} (h : w'.ownsRow B 52 2 v' (gs.length + 1) (gcells gs ++ [.int .i64 x, .int .i64 y])) (hin : ∀ p ∈ gs, in64 p.1 ∧ in64 p.2) (hx : in64 x) (hy : in64 y) :
    OwnG w' B v' (gs ++ [(x, y)]) := by
  refine ⟨by rw [gcells_app, List.length_append]; exact h, fun p hp => ?_⟩
  rcases List.mem_append.1 hp with h' | h'
  · exact hin p h'
  · simp at h'; rw [h']; exact ⟨hx, hy⟩
theorem infoG : (Tryd.prog.info? 52).map (fun i => (i.zero, i.size, i.bytes)) = some (some (.agg #[.int .i64 0, .int .i64 0]), 2, 16) := by kernel_rfl
theorem undG : Tryd.prog.underlying 42 = some (.slice 52) := Tryd.underlying42
/-! frames, one by one -/
theorem Frames.len {w : World} {v : Value} {fs : List Fr} (h : Frames w v fs) : fs.length ≤ 9223372036854775807 := by
  obtain ⟨ao, cap, _, h1, h2, _⟩ := h; unfold maxLen at h2; omega
theorem Frames.shape {w : World} {v : Value} {fs : List Fr} (h : Frames w v fs) : ∃ ao cap, v = .slice ao fs.length cap := by
  obtain ⟨ao, cap, e, _⟩ := h; exact ⟨ao, cap, e⟩
theorem Frames.shapeN {w : World} {v : Value} {fs : List Fr} (h : Frames w v fs) {n : Nat} (hn : fs.length = n) : ∃ ao cap, v = .slice ao n cap := by
  obtain ⟨ao, cap, e, _⟩ := h; exact ⟨ao, cap, by rw [e, hn]⟩
theorem Grps.shapeN {w : World} {v : Value} {gs : List (Int × Int)} (h : Grps w v gs) {n : Nat} (hn : gs.length = n) : ∃ ao cap, v = .slice ao n cap := by
  obtain ⟨ao, cap, e, _⟩ := h; exact ⟨ao, cap, by rw [e, hn]⟩
theorem OwnG.shapeN {w : World} {B : Nat} {v : Value} {gs : List (Int × Int)} (h : OwnG w B v gs) {n : Nat} (hn : gs.length = n) : ∃ ao cap, v = .slice ao n cap := h.grps.shapeN hn
theorem Frames.cellAt {w : World} {ao : Option Addr} {n cap : Nat} {fs : List Fr} (h : Frames w (.slice ao n cap) fs) {j : Nat} (hj : j < fs.length) :
    ∃ b off po pc, ao = some ⟨b, off, none⟩ ∧ b < w.heap.size ∧ w.cell? ⟨b, off + j * 3, none⟩ = some (.int .i64 (fs.getD j Fr.nought).W) ∧ w.cell? ⟨b, off + j * 3 + 1, none⟩ = some (.int .i64 (fs.getD j Fr.nought).H) ∧
      w.cell? ⟨b, off + j * 3 + 2, none⟩ = some (.slice po (fs.getD j Fr.nought).pix.length pc) ∧ FrameV w (.agg #[.int .i64 (fs.getD j Fr.nought).W, .int .i64 (fs.getD j Fr.nought).H, .slice po (fs.getD j Fr.nought).pix.length pc]) (fs.getD j Fr.nought).W (fs.getD j Fr.nought).H (fs.getD j Fr.nought).pix := by
  obtain ⟨ao', cap', e, _, _, _, h4⟩ := h
  cases e
  obtain ⟨b, off, p, e, c0, c1, c2, i0, i1, hp⟩ := h4 j hj
  obtain ⟨po, pc, rfl⟩ := hp.shape
  exact ⟨b, off, po, pc, e, World.block_lt_of_cell? w _ c0, c0, c1, c2, ⟨_, rfl, i0, i1, hp⟩⟩
end Go.Proofs.YtmdpfjjbehpnbaaDoor
