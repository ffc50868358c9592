/- disk.pick: contract. -/
import Derived.Test.YtdiaejphgcoknaaGreatDoorDiskO
set_option linter.unusedSimpArgs false
set_option linter.unusedVariables false
namespace Go.Proofs.YtdiaejphgcoknaaGreatDoor
open Go.RowKit

set_option maxRecDepth 100000 in
theorem pick_any (v : Value) (picks : List Int) (i most : Nat) (w : World) (hv : Ints w v picks) (hi : i ≤ 1000000000) (hm : most ≤ 1000000000) :
    Calls Tryz.prog 40 #[v, .int .i64 (i : Int), .int .i64 (most : Int)] w fun e w' => e = .returned (.int .i64 ((pickV picks i most : Nat) : Int)) ∧ w' = w := by
  have HV := Lib.hid hv
  obtain ⟨ao, cap, rfl, h1, h2, h3, h5, h4⟩ := hv
  obtain ⟨n, hn⟩ : ∃ n, picks.length = n := ⟨_, rfl⟩
  have HN := Lib.hid hn
  have hlen : n ≤ 9223372036854775807 := by rw [← hn]; exact HV.out.len
  by_cases hlt : i < n
  · obtain ⟨b, off, rfl, c0⟩ := h4 i (by rw [hn]; exact hlt)
    clear h5
    have hin := getD_in64 h3 i
    have e : pickV picks i most = if 0 ≤ picks.getD i 0 then (picks.getD i 0).toNat % (most + 1) else 0 := by
      unfold pickV; rw [hn]
      by_cases h : 0 ≤ picks.getD i 0
      · rw [if_pos ⟨hlt, h⟩, if_pos h]
      · rw [if_neg (fun h2 => h h2.2), if_neg h]
    rw [e, hn]
    generalize picks.getD i 0 = x at *
    have j1 : decide ((i : Int) ≥ (n : Int)) = false := by simp; omega
    have j2 : (0 : Int) ≤ (i : Int) := by omega
    have j3 : (i : Int) < (n : Int) := by omega
    unfold in64 at hin
    by_cases hx : 0 ≤ x
    · rw [if_pos hx]
      obtain ⟨m, rfl⟩ : ∃ m : Nat, x = (m : Int) := ⟨x.toNat, by omega⟩
      rw [Int.toNat_natCast]
      have k1 : decide ((m : Int) < 0) = false := decide_eq_false (by omega)
      obtain ⟨M, hM⟩ : ∃ M, most + 1 = M := ⟨_, rfl⟩
      have q1 : IntKind.i64.wrap ((most : Int) + 1) = (M : Int) := by rw [IntWalk.i64_in _ (by omega)]; omega
      rw [hM]
      have q2 : ¬ (M : Int) = 0 := by omega
      have q3 : Int.tmod (m : Int) (M : Int) = ((m % M : Nat) : Int) := by rw [← Int.ofNat_tmod]
      have hr : m % M < M := Nat.mod_lt _ (by omega)
      generalize m % M = r at *
      have q4 : IntKind.i64.wrap (r : Int) = (r : Int) := IntWalk.i64_in _ (by omega)
      clear HV h1 h2 h3 h4 e hin hr hM
      go_enter Tryz.func40, Tryz.ntmps40
      go_wp2
      all_goals go_returns
      all_goals exact ⟨rfl, rfl⟩
    · rw [if_neg hx]
      have k1 : decide (x < 0) = true := by simp; omega
      clear HV h1 h2 h3 h4 e hin
      go_enter Tryz.func40, Tryz.ntmps40
      go_wp2
      all_goals go_returns
      all_goals exact ⟨rfl, rfl⟩
  · have e : pickV picks i most = 0 := by unfold pickV; rw [if_neg]; rw [hn]; omega
    rw [e, hn]
    clear HV h1 h2 h3 h5 h4 e
    have i1 : ((i : Int) ≥ (n : Int)) = True := by simp; omega
    go_enter Tryz.func40, Tryz.ntmps40
    go_wp2
    all_goals go_returns
    all_goals exact ⟨rfl, rfl⟩
end Go.Proofs.YtdiaejphgcoknaaGreatDoor
