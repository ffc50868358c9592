/- block.both and kinref7.two: contracts. -/
import Derived.Test.YtmdpfjjbehpnbaaDoorBlockP
import Derived.Test.YtmdpfjjbehpnbaaDoorErrs
import Derived.Test.YtmdpfjjbehpnbaaDoorStep
set_option linter.unusedSimpArgs false
set_option linter.unusedVariables false
namespace Go.Proofs.YtmdpfjjbehpnbaaDoor
open Go.RowKit

theorem wide_any (x : Int) (w : World) : Calls Tryd.prog 58 #[.int .i64 x] w fun e w' => e = .returned (.bool (outB (-1048576) 1048576 x)) ∧ w = w' := by
  by_cases h : x < -1048576
  · have e : outB (-1048576) 1048576 x = true := by simp [outB, h]
    rw [e]
    clear e
    go_enter Tryd.func58, Tryd.ntmps58
    go_wp2
    go_returns
    exact ⟨rfl, rfl⟩
  · by_cases h2 : 1048576 < x
    · have e : outB (-1048576) 1048576 x = true := by simp [outB, h2]
      rw [e]
      clear e
      go_enter Tryd.func58, Tryd.ntmps58
      go_wp2
      go_returns
      exact ⟨rfl, rfl⟩
    · have e : outB (-1048576) 1048576 x = false := by simp [outB, h, h2]
      rw [e]
      clear e
      go_enter Tryd.func58, Tryd.ntmps58
      go_wp2
      go_returns
      exact ⟨rfl, rfl⟩
theorem both_any (v u : Value) (a b : List Int) (w : World) (hv : Ints w v a) (hu : Ints w u b) :
    Calls Tryd.prog 49 #[v, u] w fun e w' => e = .returned (errV (bothE a b)) ∧ w = w' := by
  have la := hv.len
  have lb := hu.len
  have ca := contains_any 58 Tryd.f58 Tryd.func58 (by kernel_rfl) (by kernel_rfl) #[] (outB (-1048576) 1048576) v a w hv (fun x _ => wide_any x w)
  have cb := contains_any 58 Tryd.f58 Tryd.func58 (by kernel_rfl) (by kernel_rfl) #[] (outB (-1048576) 1048576) u b w hu (fun x _ => wide_any x w)
  rw [any_out] at ca cb
  obtain ⟨ao, cap, rfl⟩ := hv.shape
  obtain ⟨bo, cap2, rfl⟩ := hu.shape
  have CA := Lib.hid ca
  have CB := Lib.hid cb
  clear ca cb hv hu
  by_cases hl : a.length = b.length
  · have hl1 : ((a.length : Int) != (b.length : Int)) = false := by simp [hl]
    have e : bothE a b = if withinB a (-1048576) 1048576 && withinB b (-1048576) 1048576 then 0 else 3 := by unfold bothE; rw [if_pos hl]
    rw [e]
    clear e hl
    generalize withinB a (-1048576) 1048576 = p at *
    generalize withinB b (-1048576) 1048576 = q at *
    generalize a.length = n at *
    generalize b.length = m at *
    cases p with
    | false =>
      go_enter Tryd.func49, Tryd.ntmps49
      go_wp2_with fail
      refine CA.out.mono ?_
      rintro e w1 ⟨rfl, rfl⟩
      go_wp2
      go_returns
      exact ⟨rfl, rfl⟩
    | true =>
      cases q with
      | false =>
        go_enter Tryd.func49, Tryd.ntmps49
        go_wp2_with fail
        refine CA.out.mono ?_
        rintro e w1 ⟨rfl, rfl⟩
        go_wp2_with fail
        refine CB.out.mono ?_
        rintro e w1 ⟨rfl, rfl⟩
        go_wp2
        go_returns
        exact ⟨rfl, rfl⟩
      | true =>
        go_enter Tryd.func49, Tryd.ntmps49
        go_wp2_with fail
        refine CA.out.mono ?_
        rintro e w1 ⟨rfl, rfl⟩
        go_wp2_with fail
        refine CB.out.mono ?_
        rintro e w1 ⟨rfl, rfl⟩
        go_wp2
        go_returns
        exact ⟨rfl, rfl⟩
  · have hl1 : ((a.length : Int) != (b.length : Int)) = true := by simp; omega
    rw [bothE_fit hl]
    clear hl
    go_enter Tryd.func49, Tryd.ntmps49
    go_wp2
    go_returns
    exact ⟨rfl, rfl⟩
theorem two_any (v u : Value) (a b : List Int) (w : World) (hv : Ints w v a) (hu : Ints w u b) :
    Calls Tryd.prog 51 #[v, u] w fun e w' => e = .returned (.agg #[.int .i64 (bothE a b), .slice none 0 0]) ∧ Below w.heap.size w w' := by
  have la := hv.len
  have lb := hu.len
  have ca := fun w hv => within_any v a (-1048576) 1048576 w hv
  have cb := fun w hu => within_any u b (-1048576) 1048576 w hu
  have HV := Lib.hid hv
  have HU := Lib.hid hu
  obtain ⟨ao, cap, rfl⟩ := hv.shape
  obtain ⟨bo, cap2, rfl⟩ := hu.shape
  have CA := Lib.hid ca
  have CB := Lib.hid cb
  clear ca cb hv hu
  by_cases hl : a.length = b.length
  · have hl1 : ((a.length : Int) != (b.length : Int)) = false := by simp [hl]
    have e : bothE a b = if withinB a (-1048576) 1048576 && withinB b (-1048576) 1048576 then 0 else 3 := by unfold bothE; rw [if_pos hl]
    rw [e]
    clear e hl
    generalize withinB a (-1048576) 1048576 = p at *
    generalize withinB b (-1048576) 1048576 = q at *
    cases p with
    | false =>
      go_enter Tryd.func51, Tryd.ntmps51
      go_wp2_with fail
      refine (CA.out _ (HV.out.ext (by go_grown))).mono ?_
      rintro e w1 ⟨rfl, rfl⟩
      go_wp2_with fail
      refine (fail_any _ _).mono ?_
      rintro e w1 ⟨rfl, hb1⟩
      have g1 : Below w.heap.size w w1 := ext (by go_grown) hb1
      obtain ⟨r0, r1, r2, r3⟩ := ((Blk.new w #[.int .i64 0, .slice none 0 0] 35).ext hb1).two
      go_wp2
      refine bodyPost_ret (by simp [results, Tryd.results51, go_sem, r0, r1, r2, r3]; try rfl) rfl ?_
      exact ⟨rfl, by go_grown⟩
    | true =>
      cases q with
      | false =>
        go_enter Tryd.func51, Tryd.ntmps51
        go_wp2_with fail
        refine (CA.out _ (HV.out.ext (by go_grown))).mono ?_
        rintro e w1 ⟨rfl, rfl⟩
        go_wp2_with fail
        refine (CB.out _ (HU.out.ext (by go_grown))).mono ?_
        rintro e w1 ⟨rfl, rfl⟩
        go_wp2_with fail
        refine (fail_any _ _).mono ?_
        rintro e w1 ⟨rfl, hb1⟩
        have g1 : Below w.heap.size w w1 := ext (by go_grown) hb1
        obtain ⟨r0, r1, r2, r3⟩ := ((Blk.new w #[.int .i64 0, .slice none 0 0] 35).ext hb1).two
        go_wp2
        refine bodyPost_ret (by simp [results, Tryd.results51, go_sem, r0, r1, r2, r3]; try rfl) rfl ?_
        exact ⟨rfl, by go_grown⟩
      | true =>
        go_enter Tryd.func51, Tryd.ntmps51
        go_wp2_with fail
        refine (CA.out _ (HV.out.ext (by go_grown))).mono ?_
        rintro e w1 ⟨rfl, rfl⟩
        go_wp2_with fail
        refine (CB.out _ (HU.out.ext (by go_grown))).mono ?_
        rintro e w1 ⟨rfl, rfl⟩
        go_wp2
        go_returns
        exact ⟨rfl, by go_grown⟩
  · have hl1 : ((a.length : Int) != (b.length : Int)) = true := by simp; omega
    rw [bothE_fit hl]
    clear hl
    go_enter Tryd.func51, Tryd.ntmps51
    go_wp2_with fail
    refine (fail_any _ _).mono ?_
    rintro e w1 ⟨rfl, hb1⟩
    have g1 : Below w.heap.size w w1 := ext (by go_grown) hb1
    obtain ⟨r0, r1, r2, r3⟩ := ((Blk.new w #[.int .i64 0, .slice none 0 0] 35).ext hb1).two
    go_wp2
    refine bodyPost_ret (by simp [results, Tryd.results51, go_sem, r0, r1, r2, r3]; try rfl) rfl ?_
    exact ⟨rfl, by go_grown⟩
end Go.Proofs.YtmdpfjjbehpnbaaDoor
