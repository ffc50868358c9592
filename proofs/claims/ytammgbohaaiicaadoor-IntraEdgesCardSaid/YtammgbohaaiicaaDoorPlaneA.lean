/- plane.at, At, In; kinref6.at, At, Lies: contracts. -/
import Derived.Test.YtammgbohaaiicaaDoorPlaneW
set_option linter.unusedSimpArgs false
set_option linter.unusedVariables false
namespace Go.Proofs.YtammgbohaaiicaaDoor
open Go.RowKit

theorem FrameV.cells {w : World} {v : Value} {W H : Int} {pix : List Int} (h : FrameV w v W H pix) : ∃ ao cap, v = .agg #[.int .i64 W, .int .i64 H, .slice ao pix.length cap] ∧ Ints w (.slice ao pix.length cap) pix := by
  obtain ⟨p, rfl, _, _, hp⟩ := h
  obtain ⟨ao, cap, rfl⟩ := hp.shape
  exact ⟨ao, cap, rfl, hp⟩
theorem Ints.cellN {w : World} {ao : Option Addr} {n cap : Nat} {xs : List Int} (h : Ints w (.slice ao n cap) xs) {j : Nat} (hj : j < xs.length) : ∃ b off, ao = some ⟨b, off, none⟩ ∧ w.cell? ⟨b, off + j, none⟩ = some (.int .i64 (xs.getD j 0)) ∧ b < w.heap.size := by
  obtain ⟨ao', cap', e, _, _, _, _, h4⟩ := h
  simp only [Value.slice.injEq] at e
  obtain ⟨rfl, -, rfl⟩ := e
  obtain ⟨b, off, rfl, hc⟩ := h4 j hj
  exact ⟨b, off, rfl, hc, World.block_lt_of_cell? w _ hc⟩





theorem pin_any (v : Value) (W H : Int) (pix : List Int) (x y n : Int) (w : World) (hv : FrameV w v W H pix) (hW : 8 ≤ W ∧ W ≤ 32) (hH : 8 ≤ H ∧ H ≤ 32) (hn : 0 ≤ n ∧ n ≤ 8) :
    Calls Tryd.prog 33 #[v, .int .i64 x, .int .i64 y, .int .i64 n] w fun e w' => e = .returned (.bool (inB W H x y n)) ∧ Below w.heap.size w w' := by
  obtain ⟨ao, cap, rfl, hp⟩ := hv.cells
  obtain ⟨hW1, hW2⟩ := hW
  obtain ⟨hH1, hH2⟩ := hH
  obtain ⟨hn1, hn2⟩ := hn
  clear hp hv
  by_cases h1 : 0 ≤ x
  · by_cases h2 : 0 ≤ y
    · by_cases h3 : x ≤ W - n
      · by_cases h4 : y ≤ H - n
        · rw [show inB W H x y n = true from by simp [inB, h1, h2, h3, h4]]
          go_enter Tryd.func33, Tryd.ntmps33
          go_wp2
          go_returns
          exact ⟨rfl, by go_grown⟩
        · rw [show inB W H x y n = false from by simp [inB, h4]]
          go_enter Tryd.func33, Tryd.ntmps33
          go_wp2
          go_returns
          exact ⟨rfl, by go_grown⟩
      · rw [show inB W H x y n = false from by simp [inB, h3]]
        go_enter Tryd.func33, Tryd.ntmps33
        go_wp2
        go_returns
        exact ⟨rfl, by go_grown⟩
    · rw [show inB W H x y n = false from by simp [inB, h2]]
      go_enter Tryd.func33, Tryd.ntmps33
      go_wp2
      go_returns
      exact ⟨rfl, by go_grown⟩
  · rw [show inB W H x y n = false from by simp [inB, h1]]
    go_enter Tryd.func33, Tryd.ntmps33
    go_wp2
    go_returns
    exact ⟨rfl, by go_grown⟩

theorem lies_any (v : Value) (W H : Int) (pix : List Int) (x y n : Int) (w : World) (hv : FrameV w v W H pix) (hW : 8 ≤ W ∧ W ≤ 32) (hH : 8 ≤ H ∧ H ≤ 32) (hn : 0 ≤ n ∧ n ≤ 8) :
    Calls Tryd.prog 35 #[v, .int .i64 x, .int .i64 y, .int .i64 n] w fun e w' => e = .returned (.bool (inB W H x y n)) ∧ Below w.heap.size w w' := by
  obtain ⟨ao, cap, rfl, hp⟩ := hv.cells
  obtain ⟨hW1, hW2⟩ := hW
  obtain ⟨hH1, hH2⟩ := hH
  obtain ⟨hn1, hn2⟩ := hn
  clear hp hv
  by_cases h1 : 0 ≤ x
  · by_cases h2 : 0 ≤ y
    · by_cases h3 : x ≤ W - n
      · by_cases h4 : y ≤ H - n
        · rw [show inB W H x y n = true from by simp [inB, h1, h2, h3, h4]]
          go_enter Tryd.func35, Tryd.ntmps35
          go_wp2
          go_returns
          exact ⟨rfl, by go_grown⟩
        · rw [show inB W H x y n = false from by simp [inB, h4]]
          go_enter Tryd.func35, Tryd.ntmps35
          go_wp2
          go_returns
          exact ⟨rfl, by go_grown⟩
      · rw [show inB W H x y n = false from by simp [inB, h3]]
        go_enter Tryd.func35, Tryd.ntmps35
        go_wp2
        go_returns
        exact ⟨rfl, by go_grown⟩
    · rw [show inB W H x y n = false from by simp [inB, h2]]
      go_enter Tryd.func35, Tryd.ntmps35
      go_wp2
      go_returns
      exact ⟨rfl, by go_grown⟩
  · rw [show inB W H x y n = false from by simp [inB, h1]]
    go_enter Tryd.func35, Tryd.ntmps35
    go_wp2
    go_returns
    exact ⟨rfl, by go_grown⟩

end Go.Proofs.YtammgbohaaiicaaDoor
