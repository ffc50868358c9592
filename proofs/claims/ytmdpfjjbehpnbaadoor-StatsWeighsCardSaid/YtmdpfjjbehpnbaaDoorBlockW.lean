/- block.Sub, Add, Sad and kinref7's: contracts. -/
import Derived.Test.YtmdpfjjbehpnbaaDoorBoth
import Derived.BigQuiet
import Derived.Deep.QuietTactic
import Derived.StillTailTactics
import Derived.IntWalk
set_option linter.unusedSimpArgs false
set_option linter.unusedVariables false
namespace Go.Proofs.YtmdpfjjbehpnbaaDoor
open Go.RowKit

theorem sad_step {x y s : Int} {f : Nat → Int} {k : Nat} (hs : sumOf k f = s) (hf : f k = absD x y) (h : ¬ x - y < y - x) : s + (x - y) = sumOf (k + 1) f := by
  rw [sumOf_succ, hs, hf]; unfold absD; omega
theorem sad_step2 {x y s : Int} {f : Nat → Int} {k : Nat} (hs : sumOf k f = s) (hf : f k = absD x y) (h : x - y < y - x) : s + (y - x) = sumOf (k + 1) f := by
  rw [sumOf_succ, hs, hf]; unfold absD; omega
theorem sad_sum_bd {a b : List Int} (ha : withinB a (-1048576) 1048576 = true) (hb : withinB b (-1048576) 1048576 = true) (k : Nat) : 0 ≤ sumOf k (fun i => absD (a.getD i 0) (b.getD i 0)) ∧ sumOf k (fun i => absD (a.getD i 0) (b.getD i 0)) ≤ k * 2097152 := by
  have := sumOf_bd (n := k) (f := fun i => absD (a.getD i 0) (b.getD i 0)) (lo := 0) (hi := 2097152) fun i _ => by
    have h1 := within_get ha (by omega) (by omega) i
    have h2 := within_get hb (by omega) (by omega) i
    unfold absD; omega
  omega



set_option maxHeartbeats 2000000 in
theorem psad_any (v u : Value) (a b : List Int) (w : World) (hv : Ints w v a) (hu : Ints w u b) (hl : a.length ≤ 5000) :
    Calls Tryd.prog 31 #[v, u] w fun e w' => e = .returned (.tuple #[.int .i64 (okI (bothE a b) (sadV a b)), errV (bothE a b)]) ∧ Below w.heap.size w w' := by
  have hc := both_any v u a b w hv hu
  have HV := Lib.hid hv
  have HU := Lib.hid hu
  obtain ⟨ao, cap, rfl⟩ := hv.shape
  obtain ⟨bo, cap2, rfl⟩ := hu.shape
  have HC := Lib.hid hc
  clear hc hv hu
  by_cases hz : bothE a b = 0
  · obtain ⟨hab, ha, hb⟩ := bothE_zero hz
    rw [okI_zero hz]
    rw [hz] at HC ⊢
    have Hab := Lib.hid hab
    have hab2 : a.length ≤ b.length := by omega
    have A1 := Lib.hid ha
    have B1 := Lib.hid hb
    clear hab ha hb hz
    go_enter Tryd.func31, Tryd.ntmps31
    go_wp2_with fail
    refine HC.out.mono ?_
    rintro e w1 ⟨rfl, rfl⟩
    go_wp2
    go_loopw [7, 18] (fun n i wr => ∃ k : Nat, k ≤ a.length ∧ i = .int .i64 k ∧ n = .int .i64 (sumOf k (fun i => absD (a.getD i 0) (b.getD i 0))) ∧ Below w.heap.size w wr) (fun _ i _ => a.length - (intOf i).toNat)
    case atStart => exact ⟨0, Nat.zero_le _, rfl, rfl, Below.refl _ _⟩
    case round =>
      obtain ⟨k, hk, rfl, rfl, hb⟩ := hrel
      have hs1 := sad_sum_bd A1.out B1.out k
      have hs0 := Lib.hid (show (fun i => absD (a.getD i 0) (b.getD i 0)) k = absD (a.getD k 0) (b.getD k 0) from rfl)
      generalize hs : sumOf k (fun i => absD (a.getD i 0) (b.getD i 0)) = s at *
      have Hs := Lib.hid hs
      obtain ⟨hs1, hs2⟩ := hs1
      clear hs
      by_cases hlt : k < a.length
      · obtain ⟨b1, o1, b2, o2, rfl, rfl, c1, c2⟩ := pair_at HV.out HU.out hb hlt (by omega)
        have x1 := within_get A1.out (by omega) (by omega) k
        have y1 := within_get B1.out (by omega) (by omega) k
        have hltb : k < b.length := by omega
        generalize hx : a.getD k 0 = x at c1 x1 hs0
        generalize hy : b.getD k 0 = y at c2 y1 hs0
        obtain ⟨x1, x2⟩ := x1
        obtain ⟨y1, y2⟩ := y1
        have Hx := Lib.hid hx
        have Hy := Lib.hid hy
        clear hx hy
        by_cases hm : x - y < y - x
        · have HE := Lib.hid (sad_step2 Hs.out hs0.out hm)
          clear hs0 Hs
          go_wp2
          go_quiet (fail)
          go_wp2
          go_roundw
          case rel => exact ⟨k + 1, by omega, by go_num, int_eq HE.out, by first | exact hb | exact hb.drew | exact below_drewN' hb _⟩
          case measure => simp [intOf]; omega
        · have HE := Lib.hid (sad_step Hs.out hs0.out hm)
          clear hs0 Hs
          go_wp2
          go_quiet (fail)
          go_wp2
          go_roundw
          case rel => exact ⟨k + 1, by omega, by go_num, int_eq HE.out, by first | exact hb | exact hb.drew | exact below_drewN' hb _⟩
          case measure => simp [intOf]; omega
      · have e : k = a.length := by omega
        rw [e] at Hs
        clear e
        go_wp2
        go_returns
        exact ⟨by rw [← Hs.out]; rfl, hb⟩
  · rw [okI_ne hz]
    have hk : (bothE a b == 0) = false := by simpa using hz
    clear hz
    generalize bothE a b = z at *
    go_enter Tryd.func31, Tryd.ntmps31
    go_wp2_with fail
    refine HC.out.mono ?_
    rintro e w1 ⟨rfl, rfl⟩
    go_wp2
    go_returns
    exact ⟨rfl, Below.refl _ _⟩


end Go.Proofs.YtmdpfjjbehpnbaaDoor
