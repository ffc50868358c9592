/- E(QP) through the transform, in plain Lean. -/
import Derived.Test.YtkiigodkbmcpfaaDoorWhtM
import Derived.Test.YtkiigodkbmcpfaaDoorQuantL
import Derived.Test.YtkiigodkbmcpfaaDoorNum
set_option linter.unusedSimpArgs false
set_option linter.unusedVariables false
namespace Go.Proofs.YtkiigodkbmcpfaaDoor
open Go.RowKit
open T Q
theorem stepV_zero : stepV 0 = 1 := by decide
theorem level_small {c qp : Int} (hq : inQ qp = true) (h1 : -16320 ≤ c) (h2 : c ≤ 16320) : inL (levelV c qp) = true := by
  have hc : inC c = true := inC_iff.2 (by omega)
  have h := level_shrinks (a := 0) (b := qp) (by decide) hq hc (by simp [inQ] at hq; omega)
  have h0 := level_zero hc
  rw [stepV_zero, Int.mul_one] at h0
  rw [h0] at h
  refine inL_iff.2 ?_
  omega
theorem all_iff {f : Int → Bool} {l : List Int} : l.all f = true ↔ ∀ x ∈ l, f x = true := List.all_eq_true
structure Peak (b c l v d : List Int) (qp : Int) : Prop where
  fe : chkE b 65536 = 0
  fv : fwdV b = c
  cl : c.length = b.length
  le : levelsE c qp = 0
  lv : levelsV c qp = l
  ll : l.length = b.length
  lw : withinB l (-16320) 16320 = true
  ve : valuesE l qp = 0
  vv : valuesV l qp = v
  vl : v.length = b.length
  ie : chkE v 16777216 = 0
  iv : invV v = d
  dl : d.length = b.length
  near : ∀ j, j < b.length → d.getD j 0 - b.getD j 0 ≤ boundV qp ∧ b.getD j 0 - d.getD j 0 ≤ boundV qp
theorem peak {b : List Int} {qp : Int} (hl : b.length = 16 ∨ b.length = 64) (hw : withinB b (-255) 255 = true) (hq : inQ qp = true) : ∃ c l v d, Peak b c l v d qp := by
  have hb : Bd 255 b := fun j => by have := within_get hw (by omega) (by omega) j; omega
  have he : chkE b 65536 = 0 := chkE_ok hl (hb.mono (by omega))
  have hct := bd_turn hl hb
  have hcb : Bd 16320 (turnL b) := hct.mono (by rcases hl with e | e <;> rw [e] <;> decide)
  have hcl : (turnL b).length = b.length := length_turnL b
  have hC : ∀ x ∈ turnL b, -16320 ≤ x ∧ x ≤ 16320 := all_of_bd hcb
  have hCa : (turnL b).all inC = true := all_iff.2 fun x hx => inC_iff.2 (by have := hC x hx; omega)
  have hL : ∀ y ∈ (turnL b).map (fun x => levelV x qp), inL y = true := fun y hy => by
    obtain ⟨x, hx, rfl⟩ := List.mem_map.1 hy
    have := hC x hx
    exact level_small hq this.1 this.2
  have hLa : ((turnL b).map fun x => levelV x qp).all inL = true := all_iff.2 hL
  have hb2 := half_bd qp
  have key : ∀ j, j < b.length → ((((turnL b).map fun x => levelV x qp).map fun x => valueV x qp).getD j 0) - (turnL b).getD j 0 ≤ boundV qp ∧ (turnL b).getD j 0 - ((((turnL b).map fun x => levelV x qp).map fun x => valueV x qp).getD j 0) ≤ boundV qp := by
    intro j hj
    have hj' : j < (turnL b).length := by omega
    have e1 : (turnL b).getD j 0 = (turnL b)[j] := by simp [List.getD, hj']
    have e2 : ((((turnL b).map fun x => levelV x qp).map fun x => valueV x qp).getD j 0) = valueV (levelV (turnL b)[j] qp) qp := by simp [List.getD, hj']
    rw [e1, e2]
    have hm := hC _ (List.getElem_mem hj')
    have hin := level_small hq hm.1 hm.2
    have hn := level_near (c := (turnL b)[j]) hq (inC_iff.2 (by omega))
    have ev : valueV (levelV (turnL b)[j] qp) qp = levelV (turnL b)[j] qp * stepV qp := by unfold valueV; rw [hq, hin]; rfl
    rw [ev]; exact hn
  have hvb : Bd 16777216 (((turnL b).map fun x => levelV x qp).map fun x => valueV x qp) := by
    intro j
    by_cases hj : j < b.length
    · have h1 := key j hj
      have h2 := hcb j
      unfold boundV at h1
      omega
    · rw [getD_out (by simp; omega)]; omega
  have hve : chkE (((turnL b).map fun x => levelV x qp).map fun x => valueV x qp) 16777216 = 0 := chkE_ok (by simp [hcl]; exact hl) hvb
  have hvl : (((turnL b).map fun x => levelV x qp).map fun x => valueV x qp).length = b.length := by simp [hcl]
  refine ⟨turnL b, (turnL b).map fun x => levelV x qp, ((turnL b).map fun x => levelV x qp).map fun x => valueV x qp, invV (((turnL b).map fun x => levelV x qp).map fun x => valueV x qp), he, ?_, hcl, ?_, ?_, by simp [hcl], ?_, ?_, ?_, hvl, hve, rfl, ?_, ?_⟩
  · unfold fwdV; rw [if_pos he]
  · unfold levelsE; rw [hq, hCa]; rfl
  · unfold levelsV; rw [hq, hCa]; rfl
  · rw [within_iff]
    intro i hi
    have := hL _ (getD_mem hi)
    exact inL_iff.1 this
  · unfold valuesE; rw [hq, hLa]; rfl
  · unfold valuesV; rw [hq, hLa]; rfl
  · rw [length_invV hve, hvl]
  · intro j hj
    have hcd : (((turnL b).map fun x => levelV x qp).map fun x => valueV x qp) = cmb 1 1 (turnL b) (cmb 1 (-1) (((turnL b).map fun x => levelV x qp).map fun x => valueV x qp) (turnL b)) := by
      have l1 : (cmb 1 (-1) (((turnL b).map fun x => levelV x qp).map fun x => valueV x qp) (turnL b)).length = b.length := length_cmb hvl hcl
      refine ext_getD (by rw [hvl, length_cmb hcl l1]) fun i hi => ?_
      rw [getD_cmb (by rw [hcl, l1]), getD_cmb (by rw [hvl, hcl])]; omega
    have hby : Bd (boundV qp) (cmb 1 (-1) (((turnL b).map fun x => levelV x qp).map fun x => valueV x qp) (turnL b)) := by
      intro i
      by_cases hi : i < b.length
      · rw [getD_cmb (by rw [hvl, hcl])]
        have := key i hi
        omega
      · rw [getD_out (by rw [length_cmb hvl hcl]; omega)]
        unfold boundV; omega
    have hs := small hcd (by rw [length_cmb hvl hcl, hcl]) hby (chk_turn he) hve j (by rw [hcl]; exact hj)
    rw [back he] at hs
    omega
end Go.Proofs.YtkiigodkbmcpfaaDoor
