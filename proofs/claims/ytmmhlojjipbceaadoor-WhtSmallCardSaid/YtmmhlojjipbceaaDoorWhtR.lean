/- kinref8's Sign, side, down: contracts. -/
import Derived.Test.YtmmhlojjipbceaaDoorWhtW
import Derived.Deep.RegionWith
set_option linter.unusedSimpArgs false
set_option linter.unusedVariables false
namespace Go.Proofs.YtmmhlojjipbceaaDoor
open Go.RowKit
open T

def sgnTo (u x : Nat) : Nat → Int
  | 0 => 1
  | k + 1 => if (u / 2 ^ k) % 2 = 1 ∧ (x / 2 ^ k) % 2 = 1 then -sgnTo u x k else sgnTo u x k
theorem sgnTo3 (u x : Nat) : sgnTo u x 3 = sgn u x := by
  simp [sgnTo, sgn, Nat.shiftRight_eq_div_pow]
theorem sgnTo_bd (u x k : Nat) : -1 ≤ sgnTo u x k ∧ sgnTo u x k ≤ 1 := by
  induction k with
  | zero => simp [sgnTo]
  | succ k ih => unfold sgnTo; split <;> omega
theorem i64_and1 (n : Nat) (h : n < 9223372036854775808) : bits .and .i64 (n : Int) 1 = ((n % 2 : Nat) : Int) := by
  have := i64_and_nat n 1 h (by omega)
  rw [Nat.and_one_is_mod] at this
  exact this
/-- The test of the bit k of both. -/
theorem and_bit (u k : Nat) (hu : u < 8) (c : Nat) (h : (u / 2 ^ k) % 2 = c) : bits .and .i64 ((u / 2 ^ k : Nat) : Int) 1 = (c : Int) := by
  rw [i64_and1 _ (by have := Nat.div_le_self u (2 ^ k); omega), h]

set_option maxRecDepth 100000 in
theorem rsign (u x : Nat) (w : World) (hu : u < 8) (hx : x < 8) :
    Calls Tryd.prog 18 #[.int .i64 u, .int .i64 x] w fun e w' => e = .returned (.int .i64 (sgn u x)) ∧ w = w' := by
  rw [← sgnTo3]
  go_enter Tryd.func18, Tryd.ntmps18
  go_wp2
  go_loop [5, 6] (fun s i => ∃ k : Nat, k ≤ 3 ∧ i = .int .i64 k ∧ s = .int .i64 (sgnTo u x k)) (fun _ i => 3 - (intOf i).toNat)
  case atStart => exact ⟨0, by omega, rfl, rfl⟩
  case round =>
    obtain ⟨k, hk, rfl, rfl⟩ := hrel
    have hb := sgnTo_bd u x k
    have hs : Hid (sgnTo u x (k + 1) = if (u / 2 ^ k) % 2 = 1 ∧ (x / 2 ^ k) % 2 = 1 then -sgnTo u x k else sgnTo u x k) := rfl
    by_cases h3 : k = 3
    · subst h3
      clear hs hb
      generalize hS : sgnTo u x 3 = s
      have HS := Lib.hid hS
      clear hS
      go_wp2
      go_returns
      exact ⟨by rw [HS.out]; rfl, rfl⟩
    · have hp : ∃ a b : Nat, (u / 2 ^ k) % 2 = a ∧ (x / 2 ^ k) % 2 = b ∧ (a = 0 ∨ a = 1) ∧ (b = 0 ∨ b = 1) := ⟨_, _, rfl, rfl, by omega, by omega⟩
      obtain ⟨a, b, ha, hb', hab⟩ := hp
      have e1 := and_bit u k hu a ha
      have e2 := and_bit x k hx b hb'
      have Hs : Hid (sgnTo u x (k + 1) = if a = 1 ∧ b = 1 then -sgnTo u x k else sgnTo u x k) := by show _ = _; rw [hs.out, ha, hb']
      clear hs ha hb'
      obtain ⟨hb1, hb2⟩ := hb
      generalize hS : sgnTo u x k = s at *
      have HS := Lib.hid hS
      clear hS
      have hk3 : k = 0 ∨ k = 1 ∨ k = 2 := by omega
      clear h3
      rcases hk3 with rfl | rfl | rfl
      · simp only [Nat.pow_zero, Nat.div_one, Nat.pow_one, Nat.reducePow, Int.natCast_ediv] at e1 e2
        have f1 : bits .and .i64 (u : Int) 1 = (a : Int) := e1
        have f2 : bits .and .i64 (x : Int) 1 = (b : Int) := e2
        clear e1 e2
        obtain ⟨rfl | rfl, rfl | rfl⟩ := hab
        all_goals
          go_wp2
          go_round
          case rel => exact ⟨1, by omega, rfl, by rw [Hs.out]; rfl⟩
          case measure => simp [intOf]
      · simp only [Nat.pow_zero, Nat.div_one, Nat.pow_one, Nat.reducePow, Int.natCast_ediv] at e1 e2
        have f1 : bits .and .i64 ((u : Int) / 2) 1 = (a : Int) := e1
        have f2 : bits .and .i64 ((x : Int) / 2) 1 = (b : Int) := e2
        clear e1 e2
        obtain ⟨rfl | rfl, rfl | rfl⟩ := hab
        all_goals
          go_wp2
          go_round
          case rel => exact ⟨2, by omega, rfl, by rw [Hs.out]; rfl⟩
          case measure => simp [intOf]
      · simp only [Nat.pow_zero, Nat.div_one, Nat.pow_one, Nat.reducePow, Int.natCast_ediv] at e1 e2
        have f1 : bits .and .i64 ((u : Int) / 4) 1 = (a : Int) := e1
        have f2 : bits .and .i64 ((x : Int) / 4) 1 = (b : Int) := e2
        clear e1 e2
        obtain ⟨rfl | rfl, rfl | rfl⟩ := hab
        all_goals
          go_wp2
          go_round
          case rel => exact ⟨3, by omega, rfl, by rw [Hs.out]; rfl⟩
          case measure => simp [intOf]
end Go.Proofs.YtmmhlojjipbceaaDoor
