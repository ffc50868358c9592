/- Vectors as arguments: a struct of two numbers. -/
import Derived.Test.YtjmkcbagedflkaaDoorFrames
set_option linter.unusedSimpArgs false
set_option linter.unusedVariables false
namespace Go.Proofs.YtjmkcbagedflkaaDoor
open Go.RowKit Go.ChangeShapes Go.WideShapes Go.Deep

set_option maxRecDepth 100000 in
theorem vec_of_trod {Hd : Type} {enc : TypeId × Value → Hd} {W : World} {base : Nat} {v : Value} {d : DataW Hd} {p : List MemPlace} (hv : Value.okWide Tryd.prog W .any base 26 v)
    (h : DataW.Trod enc Tryd.prog W 0 (fun _ => true) true 26 v d p) : ∃ x y, v = .agg #[.int .i64 x, .int .i64 y] ∧ in64 x ∧ in64 y := by
  obtain ⟨v0, v1, y0, y1, n, rfl, _, _, h0, h1⟩ := Joins.open_agg2 Tryd.underlying26 (by kernel_rfl) (by kernel_rfl) hv h
  obtain ⟨a, rfl, ha⟩ := int_of_cell h0
  obtain ⟨b, rfl, hb⟩ := int_of_cell h1
  exact ⟨a, b, rfl, ha, hb⟩
end Go.Proofs.YtjmkcbagedflkaaDoor
