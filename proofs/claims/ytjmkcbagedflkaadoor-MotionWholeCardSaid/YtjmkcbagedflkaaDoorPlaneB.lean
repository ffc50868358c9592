/- plane.both, size, Peak, Sum; kinref6.both, Peak, Sum: contracts. -/
import Derived.Test.YtjmkcbagedflkaaDoorPlaneA
import Derived.Laws.Cover1
set_option linter.unusedSimpArgs false
set_option linter.unusedVariables false
namespace Go.Proofs.YtjmkcbagedflkaaDoor
open Go.RowKit

theorem fbothE_zero {W H : Int} {a : List Int} {W2 H2 : Int} {b : List Int} (h : fbothE W H a W2 H2 b = 0) : May W H a ∧ May W2 H2 b ∧ W = W2 ∧ H = H2 := by
  unfold fbothE at h
  split at h
  · rename_i e
    rw [Bool.and_eq_true] at e
    split at h
    · rename_i e2; exact ⟨mayB_iff.1 e.1, mayB_iff.1 e.2, e2.1, e2.2⟩
    · omega
  · omega
theorem fbothE_ok {W H : Int} {a b : List Int} (h1 : May W H a) (h2 : May W H b) : fbothE W H a W H b = 0 := by
  unfold fbothE; rw [mayB_iff.2 h1, mayB_iff.2 h2]; simp
theorem fbothE_comm (W H : Int) (a : List Int) (W2 H2 : Int) (b : List Int) : fbothE W H a W2 H2 b = fbothE W2 H2 b W H a := by
  unfold fbothE
  rw [Bool.and_comm]
  by_cases h : W = W2 ∧ H = H2
  · obtain ⟨rfl, rfl⟩ := h; rfl
  · have h' : ¬ (W2 = W ∧ H2 = H) := fun q => h ⟨q.1.symm, q.2.symm⟩
    simp only [if_neg h, if_neg h']
def sizeV (v : Int) : Int := max v (-v)



end Go.Proofs.YtjmkcbagedflkaaDoor
