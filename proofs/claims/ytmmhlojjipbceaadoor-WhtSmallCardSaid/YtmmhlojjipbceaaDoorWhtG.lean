/- kinref8.side, down, Forward, Inverse: contracts. -/
import Derived.Test.YtmmhlojjipbceaaDoorWhtT
import Derived.Test.YtmmhlojjipbceaaDoorWhtF
set_option linter.unusedSimpArgs false
set_option linter.unusedVariables false
namespace Go.Proofs.YtmmhlojjipbceaaDoor
open Go.RowKit
open T

def sideV (k : Nat) : Nat := if k = 16 then 4 else if k = 64 then 8 else 0
theorem rside (k : Nat) (w : World) (hk : k ≤ 9223372036854775807) : Calls Tryd.prog 24 #[.int .i64 k] w fun e w' => e = .returned (.int .i64 (sideV k)) ∧ w = w' := by
  by_cases h1 : k = 16
  · subst h1
    go_enter Tryd.func24, Tryd.ntmps24
    go_wp2
    go_returns
    exact ⟨rfl, rfl⟩
  · by_cases h2 : k = 64
    · subst h2
      go_enter Tryd.func24, Tryd.ntmps24
      go_wp2
      go_returns
      exact ⟨rfl, rfl⟩
    · have e : sideV k = 0 := by simp [sideV, h1, h2]
      rw [e]
      have b1 : ((k : Int) == 16) = false := by simp; omega
      have b2 : ((k : Int) == 64) = false := by simp; omega
      clear e h1 h2
      go_enter Tryd.func24, Tryd.ntmps24
      go_wp2
      go_returns
      exact ⟨rfl, rfl⟩

theorem rdown16 (a : Int) (w : World) (h1 : -4294967296 ≤ a) (h2 : a ≤ 4294967296) : Calls Tryd.prog 27 #[.int .i64 a, .int .i64 16] w fun e w' => e = .returned (.int .i64 (a / 16)) ∧ w = w' := by
  by_cases h0 : 0 ≤ a
  · have e1 : a / 16 * 16 ≤ a := by omega
    go_enter Tryd.func27, Tryd.ntmps27
    go_wp2
    go_returns
    exact ⟨rfl, rfl⟩
  · obtain ⟨q, hq⟩ : ∃ q, a.tdiv 16 = q := ⟨_, rfl⟩
    have hq1 : q * 16 ≥ a ∧ q * 16 < a + 16 := by
      have h : a.tdiv 16 = -((-a) / 16) := by
        rw [← Int.tdiv_eq_ediv_of_nonneg (by omega), Int.neg_tdiv, Int.neg_neg]
      rw [hq] at h
      omega
    obtain ⟨hq1, hq2⟩ := hq1
    by_cases h5 : a < q * 16
    · have e : Hid (a / 16 = q - 1) := by show _ = _; omega
      go_enter Tryd.func27, Tryd.ntmps27
      go_wp2
      go_returns
      exact ⟨by rw [e.out]; rfl, rfl⟩
    · have e : Hid (a / 16 = q) := by show _ = _; omega
      go_enter Tryd.func27, Tryd.ntmps27
      go_wp2
      go_returns
      exact ⟨by rw [e.out]; rfl, rfl⟩

theorem rdown64 (a : Int) (w : World) (h1 : -4294967296 ≤ a) (h2 : a ≤ 4294967296) : Calls Tryd.prog 27 #[.int .i64 a, .int .i64 64] w fun e w' => e = .returned (.int .i64 (a / 64)) ∧ w = w' := by
  by_cases h0 : 0 ≤ a
  · have e1 : a / 64 * 64 ≤ a := by omega
    go_enter Tryd.func27, Tryd.ntmps27
    go_wp2
    go_returns
    exact ⟨rfl, rfl⟩
  · obtain ⟨q, hq⟩ : ∃ q, a.tdiv 64 = q := ⟨_, rfl⟩
    have hq1 : q * 64 ≥ a ∧ q * 64 < a + 64 := by
      have h : a.tdiv 64 = -((-a) / 64) := by
        rw [← Int.tdiv_eq_ediv_of_nonneg (by omega), Int.neg_tdiv, Int.neg_neg]
      rw [hq] at h
      omega
    obtain ⟨hq1, hq2⟩ := hq1
    by_cases h5 : a < q * 64
    · have e : Hid (a / 64 = q - 1) := by show _ = _; omega
      go_enter Tryd.func27, Tryd.ntmps27
      go_wp2
      go_returns
      exact ⟨by rw [e.out]; rfl, rfl⟩
    · have e : Hid (a / 64 = q) := by show _ = _; omega
      go_enter Tryd.func27, Tryd.ntmps27
      go_wp2
      go_returns
      exact ⟨by rw [e.out]; rfl, rfl⟩
end Go.Proofs.YtmmhlojjipbceaaDoor
