/- A string, bytes as arguments. -/
import Derived.Test.YtdiaejphgcoknaaDoorDiskAb
import Derived.ChangeMaps5
set_option linter.unusedSimpArgs false
set_option linter.unusedVariables false
namespace Go.Proofs.YtdiaejphgcoknaaDoor
open Go.RowKit Go.ChangeShapes Go.WideShapes Go.Deep Go.ChangeMaps

set_option maxRecDepth 100000 in
theorem string_of_trod {Hd : Type} {enc : TypeId × Value → Hd} {W : World} {base : Nat} {v : Value} {d : DataW Hd} {p : List MemPlace} (hv : Value.okWide Tryd.prog W .any base 9 v)
    (h : DataW.Trod enc Tryd.prog W 0 (fun _ => true) true 9 v d p) : ∃ s : Bs, v = .string ⟨s.toArray⟩ ∧ s.length ≤ maxLen := by
  obtain ⟨s, hs1, _, _, hs⟩ := open_string Tryd.underlying9 hv h
  refine ⟨s.data.toList, hs1.trans (congrArg Value.string (by cases s; simp)), ?_⟩
  rw [Array.length_toList]; exact hs
set_option maxRecDepth 100000 in
theorem bytes_of_trod {Hd : Type} {enc : TypeId × Value → Hd} {W : World} {base : Nat} {v : Value} {d : DataW Hd} {p : List MemPlace} (hv : Value.okWide Tryd.prog W .any base 34 v)
    (h : DataW.Trod enc Tryd.prog W 0 (fun _ => true) true 34 v d p) : ∃ b, BytesV W v b := by
  obtain ⟨a0, len, cap, rfl⟩ := okWide_slice Tryd.underlying34 hv
  obtain ⟨fuel, hf⟩ := h
  exact bytes_of_cell (v := .slice a0 len cap) hf
end Go.Proofs.YtdiaejphgcoknaaDoor
