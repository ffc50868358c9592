/- block.Sub, Add, Sad and kinref7's: contracts. -/
import Derived.Test.YtceobpoibiffhaaDoorBoth
import Derived.BigQuiet
import Derived.Deep.QuietTactic
import Derived.StillTailTactics
import Derived.IntWalk
set_option linter.unusedSimpArgs false
set_option linter.unusedVariables false
namespace Go.Proofs.YtceobpoibiffhaaDoor
open Go.RowKit

theorem sad_step {x y s : Int} {f : Nat → Int} {k : Nat} (hs : sumOf k f = s) (hf : f k = absD x y) (h : ¬ x - y < y - x) : s + (x - y) = sumOf (k + 1) f := by
  rw [sumOf_succ, hs, hf]; unfold absD; omega
theorem sad_step2 {x y s : Int} {f : Nat → Int} {k : Nat} (hs : sumOf k f = s) (hf : f k = absD x y) (h : x - y < y - x) : s + (y - x) = sumOf (k + 1) f := by
  rw [sumOf_succ, hs, hf]; unfold absD; omega
theorem sad_sum_bd {a b : List Int} (ha : withinB a (-1048576) 1048576 = true) (hb : withinB b (-1048576) 1048576 = true) (k : Nat) : 0 ≤ sumOf k (fun i => absD (a.getD i 0) (b.getD i 0)) ∧ sumOf k (fun i => absD (a.getD i 0) (b.getD i 0)) ≤ k * 2097152 := by
  have := sumOf_bd (n := k) (f := fun i => absD (a.getD i 0) (b.getD i 0)) (lo := 0) (hi := 2097152) fun i _ => by
    have h1 := within_get ha (by omega) (by omega) i
    have h2 := within_get hb (by omega) (by omega) i
    unfold absD; omega
  omega

set_option maxHeartbeats 2000000 in
theorem psub_any (v u : Value) (a b : List Int) (w : World) (hv : Ints w v a) (hu : Ints w u b) (hl : a.length ≤ 5000) :
    Calls Tryd.prog 11 #[v, u] w fun e w' => ∃ v', e = .returned (.tuple #[v', errV (bothE a b)]) ∧ OwnInts w' w.heap.size v' (okL (bothE a b) (subV a b)) ∧ Below w.heap.size w w' := by
  have hc := both_any v u a b w hv hu
  have HV := Lib.hid hv
  have HU := Lib.hid hu
  obtain ⟨ao, cap, rfl⟩ := hv.shape
  obtain ⟨bo, cap2, rfl⟩ := hu.shape
  have HC := Lib.hid hc
  clear hc hv hu
  by_cases hz : bothE a b = 0
  · obtain ⟨hab, ha, hb⟩ := bothE_zero hz
    rw [okL_zero hz]
    rw [hz] at HC ⊢
    have Hab := Lib.hid hab
    have hab2 : a.length ≤ b.length := by omega
    have A1 := Lib.hid ha
    have B1 := Lib.hid hb
    clear hab ha hb hz
    go_enter Tryd.func11, Tryd.ntmps11
    go_wp2_with fail
    refine HC.out.mono ?_
    rintro e w1 ⟨rfl, rfl⟩
    go_wp2
    go_loopw [7, 18] (fun o i wr => ∃ k : Nat, k ≤ a.length ∧ i = .int .i64 k ∧ OwnInts wr w.heap.size o (mapTo (fun i => a.getD i 0 - b.getD i 0) k) ∧ Below w.heap.size w wr) (fun _ i _ => a.length - (intOf i).toNat)
    case atStart => exact ⟨0, Nat.zero_le _, rfl, OwnInts.nil _ _, Below.refl _ _⟩
    case round =>
      obtain ⟨k, hk, rfl, hown, hb⟩ := hrel
      have Hown := Lib.hid hown
      clear hown
      by_cases hlt : k < a.length
      · obtain ⟨b1, o1, b2, o2, rfl, rfl, c1, c2⟩ := pair_at HV.out HU.out hb hlt (by omega)
        have x1 := within_get A1.out (by omega) (by omega) k
        have y1 := within_get B1.out (by omega) (by omega) k
        have hltb : k < b.length := by omega
        generalize hx : a.getD k 0 = x at c1 x1
        generalize hy : b.getD k 0 = y at c2 y1
        obtain ⟨x1, x2⟩ := x1
        obtain ⟨y1, y2⟩ := y1
        have Hx := Lib.hid hx
        have Hy := Lib.hid hy
        clear hx hy
        have hs2 := hb.size
        go_wp2_with (at_builtin; refine wpList_app1 rfl (.tmp 23) (.tmp 30) rfl w.heap.size _ _ (x - y) rfl Hown.out rfl (by simp) (by unfold in64; omega) (by rw [length_mapTo]; omega) (by omega) ?_)
        intro v' w' hown' hb' _
        have Hown' := Lib.hid hown'
        clear hown' Hown c1 c2
        go_wp2
        go_roundw
        case rel => exact ⟨k + 1, by omega, by go_num, by rw [mapTo_succ, Hx.out, Hy.out]; exact Hown'.out, hb.trans hb'⟩
        case measure => simp [intOf]; omega
      · have e : k = a.length := by omega
        rw [e] at Hown
        clear e
        go_wp2
        go_returns
        exact ⟨_, rfl, Hown.out, hb⟩
  · rw [okL_ne hz]
    have hk : (bothE a b == 0) = false := by simpa using hz
    clear hz
    generalize bothE a b = z at *
    go_enter Tryd.func11, Tryd.ntmps11
    go_wp2_with fail
    refine HC.out.mono ?_
    rintro e w1 ⟨rfl, rfl⟩
    go_wp2
    go_returns
    exact ⟨_, rfl, OwnInts.nil _ _, Below.refl _ _⟩

set_option maxHeartbeats 2000000 in
theorem padd_any (v u : Value) (a b : List Int) (w : World) (hv : Ints w v a) (hu : Ints w u b) (hl : a.length ≤ 5000) :
    Calls Tryd.prog 13 #[v, u] w fun e w' => ∃ v', e = .returned (.tuple #[v', errV (bothE a b)]) ∧ OwnInts w' w.heap.size v' (okL (bothE a b) (addV a b)) ∧ Below w.heap.size w w' := by
  have hc := both_any v u a b w hv hu
  have HV := Lib.hid hv
  have HU := Lib.hid hu
  obtain ⟨ao, cap, rfl⟩ := hv.shape
  obtain ⟨bo, cap2, rfl⟩ := hu.shape
  have HC := Lib.hid hc
  clear hc hv hu
  by_cases hz : bothE a b = 0
  · obtain ⟨hab, ha, hb⟩ := bothE_zero hz
    rw [okL_zero hz]
    rw [hz] at HC ⊢
    have Hab := Lib.hid hab
    have hab2 : a.length ≤ b.length := by omega
    have A1 := Lib.hid ha
    have B1 := Lib.hid hb
    clear hab ha hb hz
    go_enter Tryd.func13, Tryd.ntmps13
    go_wp2_with fail
    refine HC.out.mono ?_
    rintro e w1 ⟨rfl, rfl⟩
    go_wp2
    go_loopw [7, 18] (fun o i wr => ∃ k : Nat, k ≤ a.length ∧ i = .int .i64 k ∧ OwnInts wr w.heap.size o (mapTo (fun i => clipV (a.getD i 0 + b.getD i 0)) k) ∧ Below w.heap.size w wr) (fun _ i _ => a.length - (intOf i).toNat)
    case atStart => exact ⟨0, Nat.zero_le _, rfl, OwnInts.nil _ _, Below.refl _ _⟩
    case round =>
      obtain ⟨k, hk, rfl, hown, hb⟩ := hrel
      have Hown := Lib.hid hown
      clear hown
      by_cases hlt : k < a.length
      · obtain ⟨b1, o1, b2, o2, rfl, rfl, c1, c2⟩ := pair_at HV.out HU.out hb hlt (by omega)
        have x1 := within_get A1.out (by omega) (by omega) k
        have y1 := within_get B1.out (by omega) (by omega) k
        have hltb : k < b.length := by omega
        generalize hx : a.getD k 0 = x at c1 x1
        generalize hy : b.getD k 0 = y at c2 y1
        obtain ⟨x1, x2⟩ := x1
        obtain ⟨y1, y2⟩ := y1
        have Hx := Lib.hid hx
        have Hy := Lib.hid hy
        clear hx hy
        have hbd := clipV_bd (x + y)
        obtain ⟨z, hz⟩ : ∃ z, z = clipV (x + y) := ⟨_, rfl⟩
        rw [← hz] at hbd
        obtain ⟨z1, z2⟩ := hbd
        have HZ := Lib.hid hz
        have hcl := fun w => pclip_any (x + y) w
        rw [← hz] at hcl
        have HCL := Lib.hid hcl
        clear hcl hz
        have hs2 := hb.size
        go_wp2_with fail
        refine (HCL.out _).mono ?_
        rintro e w1 ⟨rfl, rfl⟩
        go_wp2_with (at_builtin; refine wpList_app1 rfl (.tmp 23) (.tmp 31) rfl w.heap.size _ _ (z) rfl Hown.out rfl (by simp) (by unfold in64; omega) (by rw [length_mapTo]; omega) (by omega) ?_)
        intro v' w' hown' hb' _
        have Hown' := Lib.hid hown'
        clear hown' Hown c1 c2
        go_wp2
        go_roundw
        case rel => exact ⟨k + 1, by omega, by go_num, by rw [mapTo_succ, Hx.out, Hy.out, ← HZ.out]; exact Hown'.out, hb.trans hb'⟩
        case measure => simp [intOf]; omega
      · have e : k = a.length := by omega
        rw [e] at Hown
        clear e
        go_wp2
        go_returns
        exact ⟨_, rfl, Hown.out, hb⟩
  · rw [okL_ne hz]
    have hk : (bothE a b == 0) = false := by simpa using hz
    clear hz
    generalize bothE a b = z at *
    go_enter Tryd.func13, Tryd.ntmps13
    go_wp2_with fail
    refine HC.out.mono ?_
    rintro e w1 ⟨rfl, rfl⟩
    go_wp2
    go_returns
    exact ⟨_, rfl, OwnInts.nil _ _, Below.refl _ _⟩

set_option maxHeartbeats 2000000 in
theorem psad_any (v u : Value) (a b : List Int) (w : World) (hv : Ints w v a) (hu : Ints w u b) (hl : a.length ≤ 5000) :
    Calls Tryd.prog 15 #[v, u] w fun e w' => e = .returned (.tuple #[.int .i64 (okI (bothE a b) (sadV a b)), errV (bothE a b)]) ∧ Below w.heap.size w w' := by
  have hc := both_any v u a b w hv hu
  have HV := Lib.hid hv
  have HU := Lib.hid hu
  obtain ⟨ao, cap, rfl⟩ := hv.shape
  obtain ⟨bo, cap2, rfl⟩ := hu.shape
  have HC := Lib.hid hc
  clear hc hv hu
  by_cases hz : bothE a b = 0
  · obtain ⟨hab, ha, hb⟩ := bothE_zero hz
    rw [okI_zero hz]
    rw [hz] at HC ⊢
    have Hab := Lib.hid hab
    have hab2 : a.length ≤ b.length := by omega
    have A1 := Lib.hid ha
    have B1 := Lib.hid hb
    clear hab ha hb hz
    go_enter Tryd.func15, Tryd.ntmps15
    go_wp2_with fail
    refine HC.out.mono ?_
    rintro e w1 ⟨rfl, rfl⟩
    go_wp2
    go_loopw [7, 18] (fun n i wr => ∃ k : Nat, k ≤ a.length ∧ i = .int .i64 k ∧ n = .int .i64 (sumOf k (fun i => absD (a.getD i 0) (b.getD i 0))) ∧ Below w.heap.size w wr) (fun _ i _ => a.length - (intOf i).toNat)
    case atStart => exact ⟨0, Nat.zero_le _, rfl, rfl, Below.refl _ _⟩
    case round =>
      obtain ⟨k, hk, rfl, rfl, hb⟩ := hrel
      have hs1 := sad_sum_bd A1.out B1.out k
      have hs0 := Lib.hid (show (fun i => absD (a.getD i 0) (b.getD i 0)) k = absD (a.getD k 0) (b.getD k 0) from rfl)
      generalize hs : sumOf k (fun i => absD (a.getD i 0) (b.getD i 0)) = s at *
      have Hs := Lib.hid hs
      obtain ⟨hs1, hs2⟩ := hs1
      clear hs
      by_cases hlt : k < a.length
      · obtain ⟨b1, o1, b2, o2, rfl, rfl, c1, c2⟩ := pair_at HV.out HU.out hb hlt (by omega)
        have x1 := within_get A1.out (by omega) (by omega) k
        have y1 := within_get B1.out (by omega) (by omega) k
        have hltb : k < b.length := by omega
        generalize hx : a.getD k 0 = x at c1 x1 hs0
        generalize hy : b.getD k 0 = y at c2 y1 hs0
        obtain ⟨x1, x2⟩ := x1
        obtain ⟨y1, y2⟩ := y1
        have Hx := Lib.hid hx
        have Hy := Lib.hid hy
        clear hx hy
        by_cases hm : x - y < y - x
        · have HE := Lib.hid (sad_step2 Hs.out hs0.out hm)
          clear hs0 Hs
          go_wp2
          go_quiet (fail)
          go_wp2
          go_roundw
          case rel => exact ⟨k + 1, by omega, by go_num, int_eq HE.out, by first | exact hb | exact hb.drew | exact below_drewN' hb _⟩
          case measure => simp [intOf]; omega
        · have HE := Lib.hid (sad_step Hs.out hs0.out hm)
          clear hs0 Hs
          go_wp2
          go_quiet (fail)
          go_wp2
          go_roundw
          case rel => exact ⟨k + 1, by omega, by go_num, int_eq HE.out, by first | exact hb | exact hb.drew | exact below_drewN' hb _⟩
          case measure => simp [intOf]; omega
      · have e : k = a.length := by omega
        rw [e] at Hs
        clear e
        go_wp2
        go_returns
        exact ⟨by rw [← Hs.out]; rfl, hb⟩
  · rw [okI_ne hz]
    have hk : (bothE a b == 0) = false := by simpa using hz
    clear hz
    generalize bothE a b = z at *
    go_enter Tryd.func15, Tryd.ntmps15
    go_wp2_with fail
    refine HC.out.mono ?_
    rintro e w1 ⟨rfl, rfl⟩
    go_wp2
    go_returns
    exact ⟨rfl, Below.refl _ _⟩

theorem zero1 (x : Int) (w : World) : Calls Tryd.prog 40 #[.int .i64 x] w fun e w' => e = .returned (.bool (outB 0 0 x)) ∧ w = w' := by
  by_cases h : x = 0
  · have e : outB 0 0 x = false := by subst h; rfl
    rw [e]
    subst h
    clear e
    go_enter Tryd.func40, Tryd.ntmps40
    go_wp2
    go_returns
    exact ⟨rfl, rfl⟩
  · have e : outB 0 0 x = true := by simp [outB]; omega
    have h1 : (x != 0) = true := by simpa using h
    rw [e]
    clear e h
    go_enter Tryd.func40, Tryd.ntmps40
    go_wp2
    go_returns
    exact ⟨rfl, rfl⟩
theorem pzero_any (v : Value) (a : List Int) (w : World) (hv : Ints w v a) :
    Calls Tryd.prog 26 #[v] w fun e w' => e = .returned (.bool (withinB a 0 0)) ∧ w = w' := by
  have ca := contains_any 40 Tryd.f40 Tryd.func40 (by kernel_rfl) (by kernel_rfl) #[] (outB 0 0) v a w hv (fun x _ => zero1 x w)
  rw [any_out] at ca
  have CA := Lib.hid ca
  clear ca hv
  cases h : withinB a 0 0 with
  | true =>
    rw [h] at CA
    clear h
    go_enter Tryd.func26, Tryd.ntmps26
    go_wp2_with fail
    refine CA.out.mono ?_
    rintro e w1 ⟨rfl, rfl⟩
    go_wp2
    go_returns
    exact ⟨rfl, rfl⟩
  | false =>
    rw [h] at CA
    clear h
    go_enter Tryd.func26, Tryd.ntmps26
    go_wp2_with fail
    refine CA.out.mono ?_
    rintro e w1 ⟨rfl, rfl⟩
    go_wp2
    go_returns
    exact ⟨rfl, rfl⟩
theorem rzero_any (v : Value) (a : List Int) (w : World) (hv : Ints w v a) :
    Calls Tryd.prog 27 #[v] w fun e w' => e = .returned (.bool (withinB a 0 0)) ∧ w = w' := by
  have CA := Lib.hid (within_any v a 0 0 w hv)
  clear hv
  go_enter Tryd.func27, Tryd.ntmps27
  go_wp2_with fail
  refine CA.out.mono ?_
  rintro e w1 ⟨rfl, rfl⟩
  go_wp2
  go_returns
  exact ⟨rfl, rfl⟩

end Go.Proofs.YtceobpoibiffhaaDoor
