/- plane and kinref6: sides, samples, which frame may be, one sample: contracts. -/
import Derived.Test.YtmdpfjjbehpnbaaDoorPlaneP
import Derived.Test.YtmdpfjjbehpnbaaDoorFrames
import Derived.Test.YtmdpfjjbehpnbaaDoorStep
import Derived.Test.YtmdpfjjbehpnbaaDoorErrs
set_option linter.unusedSimpArgs false
set_option linter.unusedVariables false
namespace Go.Proofs.YtmdpfjjbehpnbaaDoor
open Go.RowKit


theorem pside (n : Int) (w : World) : Calls Tryd.prog 44 #[.int .i64 n] w fun e w' => e = .returned (.bool (sideB n)) ∧ w = w' := by
  by_cases h1 : 8 ≤ n
  · by_cases h2 : n ≤ 32
    · by_cases h3 : n % 8 = 0
      · have e : sideB n = true := by simp [sideB, h1, h2, h3]
        have h4 : (n % 8 == 0) = true := by simpa using h3
        rw [e]
        clear e h3
        go_enter Tryd.func44, Tryd.ntmps44
        go_wp2
        go_returns
        exact ⟨rfl, rfl⟩
      · have e : sideB n = false := by simp [sideB, h3]
        have h4 : (n % 8 == 0) = false := by simpa using h3
        rw [e]
        clear e h3
        go_enter Tryd.func44, Tryd.ntmps44
        go_wp2
        go_returns
        exact ⟨rfl, rfl⟩
    · have e : sideB n = false := by simp [sideB, h2]
      rw [e]
      clear e
      go_enter Tryd.func44, Tryd.ntmps44
      go_wp2
      go_returns
      exact ⟨rfl, rfl⟩
  · have e : sideB n = false := by simp [sideB, h1]
    rw [e]
    clear e
    go_enter Tryd.func44, Tryd.ntmps44
    go_wp2
    go_returns
    exact ⟨rfl, rfl⟩

theorem rside6 (n : Int) (w : World) : Calls Tryd.prog 47 #[.int .i64 n] w fun e w' => e = .returned (.bool (sideB n)) ∧ w = w' := by
  by_cases h1 : 8 ≤ n
  · by_cases h2 : n ≤ 32
    · by_cases h3 : n % 8 = 0
      · have e : sideB n = true := by simp [sideB, h1, h2, h3]
        have h4 : (n % 8 == 0) = true := by simpa using h3
        rw [e]
        clear e h3
        go_enter Tryd.func47, Tryd.ntmps47
        go_wp2
        go_returns
        exact ⟨rfl, rfl⟩
      · have e : sideB n = false := by simp [sideB, h3]
        have h4 : (n % 8 == 0) = false := by simpa using h3
        rw [e]
        clear e h3
        go_enter Tryd.func47, Tryd.ntmps47
        go_wp2
        go_returns
        exact ⟨rfl, rfl⟩
    · have e : sideB n = false := by simp [sideB, h2]
      rw [e]
      clear e
      go_enter Tryd.func47, Tryd.ntmps47
      go_wp2
      go_returns
      exact ⟨rfl, rfl⟩
  · have e : sideB n = false := by simp [sideB, h1]
    rw [e]
    clear e
    go_enter Tryd.func47, Tryd.ntmps47
    go_wp2
    go_returns
    exact ⟨rfl, rfl⟩

def sampB (v : Int) : Bool := decide (0 ≤ v) && decide (v ≤ 255)
theorem psample (v : Int) (w : World) : Calls Tryd.prog 56 #[.int .i64 v] w fun e w' => e = .returned (.bool (sampB v)) ∧ w = w' := by
  by_cases h1 : 0 ≤ v
  · by_cases h2 : v ≤ 255
    · rw [show sampB v = true from by simp [sampB, h1, h2]]
      go_enter Tryd.func56, Tryd.ntmps56
      go_wp2
      go_returns
      exact ⟨rfl, rfl⟩
    · rw [show sampB v = false from by simp [sampB, h2]]
      go_enter Tryd.func56, Tryd.ntmps56
      go_wp2
      go_returns
      exact ⟨rfl, rfl⟩
  · rw [show sampB v = false from by simp [sampB, h1]]
    go_enter Tryd.func56, Tryd.ntmps56
    go_wp2
    go_returns
    exact ⟨rfl, rfl⟩
theorem psamples1 (v : Int) (w : World) : Calls Tryd.prog 55 #[.int .i64 v] w fun e w' => e = .returned (.bool (outB 0 255 v)) ∧ w = w' := by
  have e : outB 0 255 v = !sampB v := by
    unfold outB sampB
    by_cases h1 : 0 ≤ v <;> by_cases h2 : v ≤ 255 <;> simp [h1, h2] <;> omega
  have c := psample v
  have C := Lib.hid c
  rw [e]
  clear e c
  generalize sampB v = b at *
  go_enter Tryd.func55, Tryd.ntmps55
  go_wp2_with fail
  refine (C.out _).mono ?_
  rintro e w1 ⟨rfl, rfl⟩
  go_wp2
  go_returns
  exact ⟨rfl, rfl⟩
theorem psamples_any (v : Value) (l : List Int) (w : World) (hv : Ints w v l) :
    Calls Tryd.prog 45 #[v] w fun e w' => e = .returned (.bool (withinB l 0 255)) ∧ w = w' := by
  have ca := contains_any 55 Tryd.f55 Tryd.func55 (by kernel_rfl) (by kernel_rfl) #[] (outB 0 255) v l w hv (fun x _ => psamples1 x w)
  rw [any_out] at ca
  have CA := Lib.hid ca
  clear ca hv
  generalize withinB l 0 255 = b at *
  cases b <;>
  · go_enter Tryd.func45, Tryd.ntmps45
    go_wp2_with fail
    refine CA.out.mono ?_
    rintro e w1 ⟨rfl, rfl⟩
    go_wp2
    go_returns
    exact ⟨rfl, rfl⟩

set_option maxHeartbeats 1000000 in
theorem pmay_any (v : Value) (W H : Int) (pix : List Int) (w : World) (hv : FrameV w v W H pix) :
    Calls Tryd.prog 25 #[v] w fun e w' => e = .returned (.bool (mayB W H pix)) ∧ Below w.heap.size w w' := by
  obtain ⟨p, rfl, hW, hH, hp⟩ := hv
  have hl := hp.len
  have cw := fun w => pside W w
  have ch := fun w => pside H w
  have HP := Lib.hid hp
  have cs := fun w hp => psamples_any p pix w hp
  obtain ⟨po, cap, rfl⟩ := hp.shape
  have CS := Lib.hid cs
  clear hp cs hW hH
  cases hw : sideB W with
  | false =>
    rw [hw] at cw
    have e : mayB W H pix = false := by simp [mayB, hw]
    rw [e]
    have CW := Lib.hid cw
    clear cw hw e
    go_enter Tryd.func25, Tryd.ntmps25
    go_wp2_with fail
    refine (CW.out _).mono ?_
    rintro e w1 ⟨rfl, rfl⟩
    go_wp2
    go_returns
    exact ⟨rfl, by go_grown⟩
  | true =>
    rw [hw] at cw
    have CW := Lib.hid cw
    cases hh : sideB H with
    | false =>
      rw [hh] at ch
      have e : mayB W H pix = false := by simp [mayB, hh]
      rw [e]
      have CH := Lib.hid ch
      clear cw ch hw hh e
      go_enter Tryd.func25, Tryd.ntmps25
      go_wp2_with fail
      refine (CW.out _).mono ?_
      rintro e w1 ⟨rfl, rfl⟩
      go_wp2_with fail
      refine (CH.out _).mono ?_
      rintro e w1 ⟨rfl, rfl⟩
      go_wp2
      go_returns
      exact ⟨rfl, by go_grown⟩
    | true =>
      rw [hh] at ch
      have CH := Lib.hid ch
      have hb : 0 ≤ W * H ∧ W * H ≤ 1024 := by
        rcases sideB_bd hw with rfl | rfl | rfl | rfl <;> rcases sideB_bd hh with rfl | rfl | rfl | rfl <;> decide
      have e : mayB W H pix = (decide ((pix.length : Int) = W * H) && withinB pix 0 255) := by simp [mayB, hw, hh]
      rw [e]
      have qm : IntKind.i64.wrap (W * H) = W * H := IntWalk.i64_in _ (by omega)
      clear cw ch hw hh e
      by_cases hn : (pix.length : Int) = W * H
      · have hn1 : ((pix.length : Int) == W * H) = true := by simpa using hn
        rw [decide_eq_true hn, Bool.true_and]
        clear hn
        generalize withinB pix 0 255 = b at *
        go_enter Tryd.func25, Tryd.ntmps25
        go_wp2_with fail
        refine (CW.out _).mono ?_
        rintro e w1 ⟨rfl, rfl⟩
        go_wp2_with fail
        refine (CH.out _).mono ?_
        rintro e w1 ⟨rfl, rfl⟩
        go_wp2_with fail
        refine (CS.out _ (HP.out.ext (by go_grown))).mono ?_
        rintro e w1 ⟨rfl, rfl⟩
        go_wp2
        go_returns
        exact ⟨rfl, by go_grown⟩
      · have hn1 : ((pix.length : Int) == W * H) = false := by simpa using hn
        rw [decide_eq_false hn, Bool.false_and]
        clear hn
        go_enter Tryd.func25, Tryd.ntmps25
        go_wp2_with fail
        refine (CW.out _).mono ?_
        rintro e w1 ⟨rfl, rfl⟩
        go_wp2_with fail
        refine (CH.out _).mono ?_
        rintro e w1 ⟨rfl, rfl⟩
        go_wp2
        go_returns
        exact ⟨rfl, by go_grown⟩

set_option maxHeartbeats 1000000 in
theorem rmay_any (v : Value) (W H : Int) (pix : List Int) (w : World) (hv : FrameV w v W H pix) :
    Calls Tryd.prog 28 #[v] w fun e w' => e = .returned (.bool (mayB W H pix)) ∧ Below w.heap.size w w' := by
  obtain ⟨p, rfl, hW, hH, hp⟩ := hv
  have hl := hp.len
  have cw := fun w => rside6 W w
  have ch := fun w => rside6 H w
  have HP := Lib.hid hp
  have cs := fun w hp => within_any p pix 0 255 w hp
  obtain ⟨po, cap, rfl⟩ := hp.shape
  have CS := Lib.hid cs
  clear hp cs hW hH
  cases hw : sideB W with
  | false =>
    rw [hw] at cw
    have e : mayB W H pix = false := by simp [mayB, hw]
    rw [e]
    have CW := Lib.hid cw
    clear cw hw e
    go_enter Tryd.func28, Tryd.ntmps28
    go_wp2_with fail
    refine (CW.out _).mono ?_
    rintro e w1 ⟨rfl, rfl⟩
    go_wp2
    go_returns
    exact ⟨rfl, by go_grown⟩
  | true =>
    rw [hw] at cw
    have CW := Lib.hid cw
    cases hh : sideB H with
    | false =>
      rw [hh] at ch
      have e : mayB W H pix = false := by simp [mayB, hh]
      rw [e]
      have CH := Lib.hid ch
      clear cw ch hw hh e
      go_enter Tryd.func28, Tryd.ntmps28
      go_wp2_with fail
      refine (CW.out _).mono ?_
      rintro e w1 ⟨rfl, rfl⟩
      go_wp2_with fail
      refine (CH.out _).mono ?_
      rintro e w1 ⟨rfl, rfl⟩
      go_wp2
      go_returns
      exact ⟨rfl, by go_grown⟩
    | true =>
      rw [hh] at ch
      have CH := Lib.hid ch
      have hb : 0 ≤ W * H ∧ W * H ≤ 1024 := by
        rcases sideB_bd hw with rfl | rfl | rfl | rfl <;> rcases sideB_bd hh with rfl | rfl | rfl | rfl <;> decide
      have e : mayB W H pix = (decide ((pix.length : Int) = W * H) && withinB pix 0 255) := by simp [mayB, hw, hh]
      rw [e]
      have qm : IntKind.i64.wrap (W * H) = W * H := IntWalk.i64_in _ (by omega)
      clear cw ch hw hh e
      by_cases hn : (pix.length : Int) = W * H
      · have hn1 : ((pix.length : Int) == W * H) = true := by simpa using hn
        rw [decide_eq_true hn, Bool.true_and]
        clear hn
        generalize withinB pix 0 255 = b at *
        go_enter Tryd.func28, Tryd.ntmps28
        go_wp2_with fail
        refine (CW.out _).mono ?_
        rintro e w1 ⟨rfl, rfl⟩
        go_wp2_with fail
        refine (CH.out _).mono ?_
        rintro e w1 ⟨rfl, rfl⟩
        go_wp2_with fail
        refine (CS.out _ (HP.out.ext (by go_grown))).mono ?_
        rintro e w1 ⟨rfl, rfl⟩
        go_wp2
        go_returns
        exact ⟨rfl, by go_grown⟩
      · have hn1 : ((pix.length : Int) == W * H) = false := by simpa using hn
        rw [decide_eq_false hn, Bool.false_and]
        clear hn
        go_enter Tryd.func28, Tryd.ntmps28
        go_wp2_with fail
        refine (CW.out _).mono ?_
        rintro e w1 ⟨rfl, rfl⟩
        go_wp2_with fail
        refine (CH.out _).mono ?_
        rintro e w1 ⟨rfl, rfl⟩
        go_wp2
        go_returns
        exact ⟨rfl, by go_grown⟩

end Go.Proofs.YtmdpfjjbehpnbaaDoor
