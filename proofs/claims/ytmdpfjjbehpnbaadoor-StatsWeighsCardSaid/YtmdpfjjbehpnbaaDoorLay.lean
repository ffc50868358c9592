/- plane.Lay: its contract. -/
import Derived.Test.YtmdpfjjbehpnbaaDoorSplice
import Derived.Test.YtmdpfjjbehpnbaaDoorPlaneE
import Derived.Deep.RegionLaw
set_option linter.unusedSimpArgs false
set_option linter.unusedVariables false
namespace Go.Proofs.YtmdpfjjbehpnbaaDoor
open Go.RowKit

theorem info13 : (Tryd.prog.info? 3).map (·.size) = some 1 := by kernel_rfl
theorem OwnInts.cap {w : World} {B g n cap : Nat} {xs : List Int} (h : OwnInts w B (.slice (some ⟨g, 0, none⟩) n cap) xs) : n ≤ cap := by
  obtain ⟨hl, h' | ⟨g', cap', cur, e, hb, hg, hn, hm, hs, ht⟩⟩ := h.1
  · cases h'.1
  · have := h.at.1
    simp only [Value.slice.injEq] at e
    omega
theorem Ints.cap {w : World} {ao : Option Addr} {n cap : Nat} {xs : List Int} (h : Ints w (.slice ao n cap) xs) : n ≤ cap := by
  obtain ⟨ao', cap', e, h1, _⟩ := h
  simp only [Value.slice.injEq] at e
  obtain ⟨-, rfl, rfl⟩ := e
  exact h1
theorem Ints.cellJ {w : World} {b off n cap : Nat} {xs : List Int} (h : Ints w (.slice (some ⟨b, off, none⟩) n cap) xs) {j : Nat} (hj : j < xs.length) : w.cell? ⟨b, off + j, none⟩ = some (.int .i64 (xs.getD j 0)) := by
  obtain ⟨b', o', e, c, _⟩ := h.cellN hj
  simp only [Option.some.injEq, Addr.mk.injEq, and_true] at e
  obtain ⟨rfl, rfl⟩ := e
  exact c
theorem wrap_mul {a b : Int} {m : Nat} (h : a * b = m) (hm : m ≤ 9223372036854775807) : IntKind.i64.wrap (a * b) = m := by rw [h]; exact IntWalk.i64_in _ (by omega)
end Go.Proofs.YtmdpfjjbehpnbaaDoor
