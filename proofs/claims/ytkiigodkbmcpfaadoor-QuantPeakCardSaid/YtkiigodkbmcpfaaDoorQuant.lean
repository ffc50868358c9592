/- quant and kinref9 in plain Lean: steps, bounds, levels, values, with their error codes. -/
set_option linter.unusedSimpArgs false
set_option linter.unusedVariables false
namespace Go.Proofs.YtkiigodkbmcpfaaDoor.Q

def stepL : List Int := [1, 2, 4, 6, 8, 12, 16, 24, 32, 48, 64, 96, 128, 192, 256, 384]
def inQ (qp : Int) : Bool := decide (0 ≤ qp ∧ qp ≤ 15)
def stepV (qp : Int) : Int := if inQ qp then stepL.getD qp.toNat 0 else 0
def stepE (qp : Int) : Int := if inQ qp then 0 else 3
def boundV (qp : Int) : Int := stepV qp / 2
def inC (c : Int) : Bool := decide (-16777216 ≤ c ∧ c ≤ 16777216)
def levelV (c qp : Int) : Int := if inQ qp && inC c then (if c < 0 then -((stepV qp / 2 - c) / stepV qp) else (c + stepV qp / 2) / stepV qp) else 0
def levelE (c qp : Int) : Int := if inQ qp && inC c then 0 else 3
def inL (l : Int) : Bool := decide (-16320 ≤ l ∧ l ≤ 16320)
def valueV (l qp : Int) : Int := if inQ qp && inL l then l * stepV qp else 0
def valueE (l qp : Int) : Int := if inQ qp && inL l then 0 else 3

theorem inQ_cases {qp : Int} (h : inQ qp = true) : qp = 0 ∨ qp = 1 ∨ qp = 2 ∨ qp = 3 ∨ qp = 4 ∨ qp = 5 ∨ qp = 6 ∨ qp = 7 ∨ qp = 8 ∨ qp = 9 ∨ qp = 10 ∨ qp = 11 ∨ qp = 12 ∨ qp = 13 ∨ qp = 14 ∨ qp = 15 := by
  simp only [inQ, decide_eq_true_eq] at h; omega
theorem stepV_out {qp : Int} (h : inQ qp = false) : stepV qp = 0 := by simp [stepV, h]
theorem stepV_bd {qp : Int} (h : inQ qp = true) : 1 ≤ stepV qp ∧ stepV qp ≤ 384 := by
  rcases inQ_cases h with h | h | h | h | h | h | h | h | h | h | h | h | h | h | h | h <;> subst h <;> decide
theorem stepV_le (qp : Int) : 0 ≤ stepV qp ∧ stepV qp ≤ 384 := by
  cases h : inQ qp with
  | false => rw [stepV_out h]; decide
  | true => have := stepV_bd h; omega
/-- Half a step. -/
theorem half_bd (qp : Int) : 0 ≤ stepV qp / 2 ∧ stepV qp / 2 ≤ 192 := by have := stepV_le qp; omega
end Go.Proofs.YtkiigodkbmcpfaaDoor.Q
