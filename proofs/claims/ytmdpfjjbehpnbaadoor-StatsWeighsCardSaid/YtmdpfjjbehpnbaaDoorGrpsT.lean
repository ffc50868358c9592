/- A slice of groups as an argument. -/
import Derived.Test.YtmdpfjjbehpnbaaDoorGroups
set_option linter.unusedSimpArgs false
set_option linter.unusedVariables false
namespace Go.Proofs.YtmdpfjjbehpnbaaDoor
open Go.RowKit Go.ChangeShapes Go.WideShapes Go.Deep
set_option maxRecDepth 100000 in
theorem grps_of_trod {Hd : Type} {enc : TypeId × Value → Hd} {W : World} {base : Nat} {v : Value} {d : DataW Hd} {p : List MemPlace} (hv : Value.okWide Tryd.prog W .any base 42 v)
    (h : DataW.Trod enc Tryd.prog W 0 (fun _ => true) true 42 v d p) : ∃ gs, Grps W v gs := by
  obtain ⟨a0, len, cap, rfl⟩ := okWide_slice Tryd.underlying42 hv
  obtain ⟨fuel, hf⟩ := h
  rcases open_slice_fields Tryd.underlying42 Tryd.underlying52 (by kernel_rfl) (by kernel_rfl) hf with ⟨hcs, _⟩ | ⟨a, len', cap', m, D, Pl, hcs, _, hl, hm, hmm, _, hi⟩
  · simp [Value.cells] at hcs
    obtain ⟨rfl, rfl, rfl⟩ := hcs
    exact ⟨[], Grps.nil W⟩
  · simp [Value.cells] at hcs
    obtain ⟨rfl, rfl, rfl⟩ := hcs
    have hmc : m = cap := by simpa using hmm
    have key : ∀ i, i < len → ∃ f : Int × Int, ∃ b off, a = ⟨b, off, none⟩ ∧ W.cell? ⟨b, off + i * 2, none⟩ = some (.int .i64 f.1) ∧ W.cell? ⟨b, off + i * 2 + 1, none⟩ = some (.int .i64 f.2) ∧ in64 f.1 ∧ in64 f.2 := by
      intro i hil
      obtain ⟨ys, n, _, _, _, hfs⟩ := hi i (by omega)
      obtain ⟨v0, y0, c0, _, t0⟩ := hfs 0 _ rfl
      obtain ⟨v1, y1, c1, _, t1⟩ := hfs 1 _ rfl
      obtain ⟨x0, rfl, b0⟩ := int_of_cell t0
      obtain ⟨x1, rfl, b1⟩ := int_of_cell t1
      obtain ⟨_, _, _, _, _, hfs0⟩ := hi 0 (by omega)
      obtain ⟨_, _, c00, _, _⟩ := hfs0 0 _ rfl
      obtain ⟨b, off, spot⟩ := a
      have hspot : spot = none := by simpa [Addr.add] using World.cell?_spot c00
      subst hspot
      rw [Go.WideShapes.add_plain] at c0 c1
      exact ⟨⟨x0, x1⟩, b, off, rfl, c0, c1, b0, b1⟩
    refine ⟨(List.range len).map fun i => if h : i < len then Classical.choose (key i h) else (0, 0), some a, cap, by simp, by simp; omega, hm, fun h => (by cases h), ?_, fun j hj => ?_⟩
    · intro q hq
      obtain ⟨i, hi, rfl⟩ := List.mem_map.1 hq
      have hil : i < len := by simpa using hi
      obtain ⟨b, off, e, c0, c1, b0, b1⟩ := Classical.choose_spec (key i hil)
      rw [dif_pos hil]; exact ⟨b0, b1⟩
    have hj' : j < len := by simpa using hj
    obtain ⟨b, off, e, c0, c1, b0, b1⟩ := Classical.choose_spec (key j hj')
    have eg : ((List.range len).map fun i => if h : i < len then Classical.choose (key i h) else (0, 0)).getD j (0, 0) = Classical.choose (key j hj') := by
      simp [List.getD, hj']
    rw [eg]
    exact ⟨b, off, by rw [e], World.block_lt_of_cell? W _ c0, c0, c1⟩
end Go.Proofs.YtmdpfjjbehpnbaaDoor
