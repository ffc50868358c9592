/- Crash: plain, and what it writes. -/
import Derived.Test.YtdiaejphgcoknaaGreatDoorDiskK
set_option linter.unusedSimpArgs false
set_option linter.unusedVariables false
namespace Go.Proofs.YtdiaejphgcoknaaGreatDoor
open Go.RowKit

def cutStep (picks : List Int) (s : List DF × Nat) (n : Nat) : List DF × Nat := (setF s.1 n (cutF picks s.2 (s.1.getD n DF.nought)), cutI s.2 (s.1.getD n DF.nought))
theorem cutTo_foldl (picks : List Int) : ∀ (r : List Nat) (l : List DF) (i : Nat), cutTo picks r l i = (r.foldl (cutStep picks) (l, i)).1
  | [], _, _ => rfl
  | n :: r, l, i => by unfold cutTo; rw [cutTo_foldl picks r]; rfl
/-- Files and count behind the first k cuts. -/
def cutK (picks : List Int) (D : DS) (k : Nat) : List DF × Nat := ((leftS D).take k).foldl (cutStep picks) (D.all, 1)
theorem cutK_succ (picks : List Int) (D : DS) {k : Nat} (h : k < (leftS D).length) : cutK picks D (k + 1) = cutStep picks (cutK picks D k) ((leftS D).getD k 0) := by
  unfold cutK
  rw [take_app _ 0 h, List.foldl_append]; rfl
theorem cutK_all (picks : List Int) (D : DS) : (cutK picks D (leftS D).length).1 = cutTo picks (leftS D) D.all 1 := by
  unfold cutK
  rw [List.take_length, cutTo_foldl]
theorem cutK_len (picks : List Int) (D : DS) (k : Nat) : (cutK picks D k).1.length = D.all.length := by
  unfold cutK
  rw [← cutTo_foldl, length_cutTo]
theorem cutI_le (i : Nat) (f : DF) : cutI i f ≤ i + 1 := by unfold cutI; split <;> omega
theorem cutK_le (picks : List Int) (D : DS) : ∀ k, (cutK picks D k).2 ≤ k + 1
  | 0 => by simp [cutK]
  | k + 1 => by
    by_cases h : k < (leftS D).length
    · rw [cutK_succ picks D h]
      have := cutK_le picks D k
      have h2 := cutI_le (cutK picks D k).2 ((cutK picks D k).1.getD ((leftS D).getD k 0) DF.nought)
      show cutI _ _ ≤ _
      omega
    · have := cutK_le picks D k
      have e : cutK picks D (k + 1) = cutK picks D k := by unfold cutK; rw [List.take_of_length_le (by omega), List.take_of_length_le (by omega)]
      rw [e]; omega
section
variable {w w2 w3 : World} {p : Nat} {L : Lay} {D : DS}
theorem DP.safeNamed (h : DP w p L D) {m : NM} (hg : w.grownBy w2 (some L.bs)) (hn : NamesAt w2 L.bs m) : DP w2 p L { D with safe := m } := by
  obtain ⟨o1, o2, o3, o4, o5⟩ := h.others
  refine ⟨h.blk.grown hg fun e => o4 (Option.some.inj e).symm, ?_, h.len, ?_, h.apart, ?_, hn, h.ne, ?_⟩
  · exact row_grown h.all hg fun k hk e => map_row h.saf h.all (by rw [hk, Option.some.inj e])
  · exact fun j hj => row_grown (h.dat j hj) hg fun k hk e => map_row h.saf (h.dat j hj) (by rw [hk, Option.some.inj e])
  · exact h.nam.kept hg fun e => h.ne (Option.some.inj e)
  · exact row_grown h.stp hg fun k hk e => map_row h.saf h.stp (by rw [hk, Option.some.inj e])
theorem row_cut {T : Nat} {ao : Option Addr} {n m cap : Nat} {cs : List Value} (h : w.ownsRow 0 T 1 (.slice ao n cap) n cs) (hm : m ≤ n) : w.ownsRow 0 T 1 (.slice ao m cap) m (cs.take m) := by
  obtain ⟨hl, h | ⟨g, c, cur, e, hB, hg, h1, h2, h3, h4⟩⟩ := h
  · obtain ⟨rfl, rfl, rfl⟩ := Value.slice.inj h.1
    obtain rfl : m = 0 := by omega
    simp
    exact World.ownsRow_nil _ _ _ _
  · obtain ⟨rfl, -, rfl⟩ := Value.slice.inj e
    refine ⟨by rw [List.length_take]; omega, .inr ⟨g, cap, cur, rfl, hB, hg, by omega, h2, h3, ?_⟩⟩
    rw [← h4, List.take_take]
    congr 1; omega
/-- A file's bytes are cut. -/
theorem DP.cut (h : DP w p L D) {j g cap n : Nat} (hj : j < D.all.length) (hg : L.va = .slice (some ⟨g, 0, none⟩) n cap) {ao : Option Addr} {len dcap m : Nat} (hat : L.at j = .slice ao len dcap) (hlen : (D.file j).data.length = len) (hm : m ≤ len) :
    DP (w.setCell ⟨g, j * 2, none⟩ (.slice ao m dcap)) p { L with fv := L.fv.set j (.slice ao m dcap) } { D with all := setF D.all j ⟨(D.file j).data.take m, (D.file j).safe⟩ } := by
  refine h.dataSet hj hg (w2 := w) ⟨rfl, rfl, rfl, Nat.le_refl _, fun _ _ _ => rfl⟩ ?_ (.inl ?_)
  · have h1 := h.dat j hj
    rw [hat, hlen] at h1
    have h2 := row_cut h1 hm
    have e : (List.take m (D.file j).data).length = m := by rw [List.length_take, hlen]; omega
    rw [e]
    simpa [bcells, List.map_take] using h2
  · rw [hat]; cases ao <;> rfl
/-- Behind a crash. -/
theorem DP.crashed (h : DP w p L D) {c : Nat} (hB : Blk w3 p (dcells ⟨L.va, .slice none 0 0, L.bs, c, L.fv⟩ ⟨D.room, D.all, D.safe, D.safe, [], 0, false, 0⟩) 62)
    (hk : ∀ k, k ≠ p → k < w.heap.size → w3.heap[k]? = w.heap[k]?) (hc : NamesAt w3 c D.safe) (hcl : w.heap.size ≤ c) : DP w3 p ⟨L.va, .slice none 0 0, L.bs, c, L.fv⟩ ⟨D.room, D.all, D.safe, D.safe, [], 0, false, 0⟩ := by
  obtain ⟨o1, o2, o3, o4, o5⟩ := h.others
  refine ⟨hB, ?_, h.len, ?_, h.apart, h.saf.ext (hk _ o4 h.saf.lt), hc, ?_, World.ownsRow_nil _ _ _ 4⟩
  · exact row_of_block h.all fun k e => hk k (fun e2 => o1 (e2 ▸ e)) (row_lt h.all e)
  · exact fun j hj => row_of_block (h.dat j hj) fun k e => hk k (fun e2 => o5 j hj (e2 ▸ e)) (row_lt (h.dat j hj) e)
  · have := h.saf.lt; show L.bs ≠ c; omega
end
/-- A step's names, the first k of a run. -/
theorem Runs.take {N : Nat} : ∀ {l : List Stp} {m : NM}, Runs N m l → ∀ k, Runs N m (l.take k)
  | [], m, h, k => by rw [List.take_nil]; exact h
  | s :: r, m, h, 0 => h.start
  | s :: r, m, h, k + 1 => by
    obtain ⟨h1, h2, h3, h4, h5, h6, h7, h8⟩ := h
    exact ⟨h1, h2, h3, h4, h5, h6, h7, Runs.take h8 k⟩
theorem Runs.at {N : Nat} : ∀ {l : List Stp} {m : NM}, Runs N m l → ∀ {k : Nat}, k < l.length →
    (l.getD k ⟨0, [], [], 0⟩).kind ≤ 2 ∧ (l.getD k ⟨0, [], [], 0⟩).name.length ≤ 24 ∧ (l.getD k ⟨0, [], [], 0⟩).to.length ≤ 24 ∧ (l.getD k ⟨0, [], [], 0⟩).file ≤ N ∧ ∀ q ∈ (l.take k).foldl actN m, q.2 < N
  | [], _, _, _, hk => by simp at hk
  | s :: r, m, h, 0, _ => ⟨h.2.1, h.2.2.1, h.2.2.2.1, h.2.2.2.2.1, h.1⟩
  | s :: r, m, h, k + 1, hk => by
    obtain ⟨h1, h2, h3, h4, h5, h6, h7, h8⟩ := h
    exact Runs.at h8 (k := k) (by simpa using hk)
theorem length_actN (m : NM) (s : Stp) : (actN m s).length ≤ m.length + 1 := by
  unfold actN
  split
  · exact length_nput _ _ _
  · split
    · have := length_nput (ndel m s.name) s.to (fileN m s.name); have := length_ndel m s.name; omega
    · have := length_ndel m s.name; omega
theorem length_acts : ∀ (l : List Stp) (m : NM), (l.foldl actN m).length ≤ m.length + l.length
  | [], _ => by simp
  | s :: r, m => by
    have := length_acts r (actN m s); have := length_actN m s
    simp only [List.foldl_cons, List.length_cons]; omega
end Go.Proofs.YtdiaejphgcoknaaGreatDoor
