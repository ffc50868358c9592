/- plane.at, At, In; kinref6.at, At, Lies: contracts. -/
import Derived.Test.YtpdhhnhpaahenaaDoorPlaneW
set_option linter.unusedSimpArgs false
set_option linter.unusedVariables false
namespace Go.Proofs.YtpdhhnhpaahenaaDoor
open Go.RowKit

theorem FrameV.cells {w : World} {v : Value} {W H : Int} {pix : List Int} (h : FrameV w v W H pix) : ∃ ao cap, v = .agg #[.int .i64 W, .int .i64 H, .slice ao pix.length cap] ∧ Ints w (.slice ao pix.length cap) pix := by
  obtain ⟨p, rfl, _, _, hp⟩ := h
  obtain ⟨ao, cap, rfl⟩ := hp.shape
  exact ⟨ao, cap, rfl, hp⟩
theorem Ints.cellN {w : World} {ao : Option Addr} {n cap : Nat} {xs : List Int} (h : Ints w (.slice ao n cap) xs) {j : Nat} (hj : j < xs.length) : ∃ b off, ao = some ⟨b, off, none⟩ ∧ w.cell? ⟨b, off + j, none⟩ = some (.int .i64 (xs.getD j 0)) ∧ b < w.heap.size := by
  obtain ⟨ao', cap', e, _, _, _, _, h4⟩ := h
  simp only [Value.slice.injEq] at e
  obtain ⟨rfl, -, rfl⟩ := e
  obtain ⟨b, off, rfl, hc⟩ := h4 j hj
  exact ⟨b, off, rfl, hc, World.block_lt_of_cell? w _ hc⟩







end Go.Proofs.YtpdhhnhpaahenaaDoor
