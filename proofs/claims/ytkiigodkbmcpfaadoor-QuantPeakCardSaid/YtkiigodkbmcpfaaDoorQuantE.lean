/- The walks of kinlaw9.QuantRises and QuantFixed. -/
import Derived.Test.YtkiigodkbmcpfaaDoorQuantD
set_option linter.unusedSimpArgs false
set_option linter.unusedVariables false
namespace Go.Proofs.YtkiigodkbmcpfaaDoor
open Go.RowKit Go.Extern.Stop Go.Stop Go.Extern
open Q

theorem pstep_ok {qp : Int} (w : World) (h : inQ qp = true) : Calls Tryd.prog 10 #[.int .i64 qp] w fun e w' => e = .returned (.tuple #[.int .i64 (stepV qp), .nilIface]) ∧ Below w.heap.size w w' := pstep_yes qp w h

set_option maxHeartbeats 1000000 in
theorem rises_out1 (c d qp o : Int) (w : World) (hg : TypeIs w) (h : (inQ qp && inC c) = false) : Calls Tryd.prog 5 #[.int .i64 c, .int .i64 d, .int .i64 qp, .int .i64 o] w fun e w' => e = .returned (.bool true) ∧ Below w.heap.size w w' := by
  have hg := Lib.hid hg
  have H := Lib.hid h
  clear h
  go_enter Tryd.func5, Tryd.ntmps5
  go_wp2_with fail
  refine (first_any _ hg.out).mono ?_
  rintro e w1 ⟨rfl, hb1⟩
  go_wp2_with fail
  refine (plevel_err _ H.out).mono ?_
  rintro e w2 ⟨rfl, hb2⟩
  go_wp2_with fail
  refine (plevel_any _ _ _).mono ?_
  rintro e w3 ⟨rfl, hb3⟩
  have g3 : Below w.heap.size w w3 := ext (ext hb1 hb2) hb3
  go_wp2_with fail
  refine (first_any _ (hg.out.ext g3)).mono ?_
  rintro e w4 ⟨rfl, hb4⟩
  go_wp2
  all_goals go_returns
  all_goals exact ⟨by first | rfl | (simp; done) | (simp; omega), ext g3 hb4⟩
set_option maxHeartbeats 1000000 in
theorem rises_out2 (c d qp o : Int) (w : World) (hg : TypeIs w) (h : (inQ qp && inC c) = true) (h' : (inQ qp && inC d) = false) : Calls Tryd.prog 5 #[.int .i64 c, .int .i64 d, .int .i64 qp, .int .i64 o] w fun e w' => e = .returned (.bool true) ∧ Below w.heap.size w w' := by
  have hg := Lib.hid hg
  have H := Lib.hid h
  have H' := Lib.hid h'
  clear h h'
  go_enter Tryd.func5, Tryd.ntmps5
  go_wp2_with fail
  refine (first_any _ hg.out).mono ?_
  rintro e w1 ⟨rfl, hb1⟩
  go_wp2_with fail
  refine (plevel_ok _ H.out).mono ?_
  rintro e w2 ⟨rfl, hb2⟩
  go_wp2_with fail
  refine (plevel_err _ H'.out).mono ?_
  rintro e w3 ⟨rfl, hb3⟩
  have g3 : Below w.heap.size w w3 := ext (ext hb1 hb2) hb3
  go_wp2_with fail
  refine (first_any _ (hg.out.ext g3)).mono ?_
  rintro e w4 ⟨rfl, hb4⟩
  go_wp2
  all_goals go_returns
  all_goals exact ⟨by first | rfl | (simp; done) | (simp; omega), ext g3 hb4⟩
set_option maxHeartbeats 8000000 in
/-- Both levels stand. -/
theorem rises_in (c d qp o : Int) (w : World) (hg : TypeIs w) (hq : inQ qp = true) (hc : inC c = true) (hd : inC d = true) : Calls Tryd.prog 5 #[.int .i64 c, .int .i64 d, .int .i64 qp, .int .i64 o] w fun e w' => e = .returned (.bool true) ∧ Below w.heap.size w w' := by
  have hg := Lib.hid hg
  have hL := Lib.hid (show ∀ w, Calls Tryd.prog 14 #[.int .i64 c, .int .i64 qp] w fun e w' => e = .returned (.tuple #[.int .i64 (levelV c qp), .nilIface]) ∧ Below w.heap.size w w' from fun w => plevel_ok w (by rw [hq, hc]; rfl))
  have hM := Lib.hid (show ∀ w, Calls Tryd.prog 14 #[.int .i64 d, .int .i64 qp] w fun e w' => e = .returned (.tuple #[.int .i64 (levelV d qp), .nilIface]) ∧ Below w.heap.size w w' from fun w => plevel_ok w (by rw [hq, hd]; rfl))
  have hN := Lib.hid (show ∀ w, Calls Tryd.prog 14 #[.int .i64 (-c), .int .i64 qp] w fun e w' => e = .returned (.tuple #[.int .i64 (-levelV c qp), .nilIface]) ∧ Below w.heap.size w w' from fun w => by
    have := plevel_ok (c := -c) (qp := qp) w (by rw [hq, show inC (-c) = true from by rw [inC_iff] at *; omega]; rfl)
    rw [level_neg hq hc] at this; exact this)
  have hm : c ≤ d → levelV c qp ≤ levelV d qp := level_mono hq hc hd
  have b1 := level_bd c qp
  have b2 := level_bd d qp
  have b3 := inC_iff.1 hc
  cases ho : inQ o with
  | false =>
    have hO := Lib.hid (show ∀ w, Calls Tryd.prog 14 #[.int .i64 c, .int .i64 o] w fun e w' => e = .returned (.tuple #[.int .i64 0, .iface 27 (.int .i64 3)]) ∧ Below w.heap.size w w' from fun w => plevel_err w (by rw [ho]; rfl))
    have hn : ¬ (0 ≤ o ∧ o ≤ 15) := by simpa [inQ] using ho
    clear hq hc hd ho
    generalize levelV c qp = k at *
    generalize levelV d qp = m at *
    obtain ⟨b1, b1'⟩ := b1
    obtain ⟨b2, b2'⟩ := b2
    obtain ⟨b3, b3'⟩ := b3
    by_cases h1 : o < 0
    all_goals
      have h2 : o < 0 ∨ 15 < o := by omega
      clear hn
      by_cases hcd : c ≤ d
    all_goals
      have hkm : c ≤ d → k ≤ m := hm
      clear hm
      try (have hkm := hkm hcd)
      go_enter Tryd.func5, Tryd.ntmps5
      go_wp2_with fail
      refine (first_any _ hg.out).mono ?_
      rintro e w1 ⟨rfl, hb1⟩
      go_wp2_with fail
      refine (hL.out _).mono ?_
      rintro e w2 ⟨rfl, hb2⟩
      go_wp2_with fail
      refine (hM.out _).mono ?_
      rintro e w3 ⟨rfl, hb3⟩
      go_wp2_with fail
      refine (hN.out _).mono ?_
      rintro e w4 ⟨rfl, hb4⟩
      go_wp2_with fail
      refine (hO.out _).mono ?_
      rintro e w5 ⟨rfl, hb5⟩
      have g5 : Below w.heap.size w w5 := ext (ext (ext (ext hb1 hb2) hb3) hb4) hb5
      go_wp2_with fail
      refine (first_any _ (hg.out.ext g5)).mono ?_
      rintro e w6 ⟨rfl, hb6⟩
      go_wp2
      all_goals go_returns
      all_goals exact ⟨by first | rfl | (simp; done) | (simp; omega), ext g5 hb6⟩
  | true =>
    have hO := Lib.hid (show ∀ w, Calls Tryd.prog 14 #[.int .i64 c, .int .i64 o] w fun e w' => e = .returned (.tuple #[.int .i64 (levelV c o), .nilIface]) ∧ Below w.heap.size w w' from fun w => plevel_ok w (by rw [ho, hc]; rfl))
    have hS := Lib.hid (show ∀ w, Calls Tryd.prog 10 #[.int .i64 qp] w fun e w' => e = .returned (.tuple #[.int .i64 (stepV qp), .nilIface]) ∧ Below w.heap.size w w' from fun w => pstep_ok w hq)
    have hT := Lib.hid (show ∀ w, Calls Tryd.prog 10 #[.int .i64 o] w fun e w' => e = .returned (.tuple #[.int .i64 (stepV o), .nilIface]) ∧ Below w.heap.size w w' from fun w => pstep_ok w ho)
    have hst : qp < o → stepV qp < stepV o := step_rises hq ho
    have hsh : qp ≤ o → max (levelV c o) (-levelV c o) ≤ max (levelV c qp) (-levelV c qp) := level_shrinks hq ho hc
    have b4 := level_bd c o
    clear hq hc hd ho
    generalize levelV c qp = k at *
    generalize levelV d qp = m at *
    generalize levelV c o = n at *
    generalize stepV qp = s at *
    generalize stepV o = t at *
    obtain ⟨b1, b1'⟩ := b1
    obtain ⟨b2, b2'⟩ := b2
    obtain ⟨b3, b3'⟩ := b3
    obtain ⟨b4, b4'⟩ := b4
    rcases Int.lt_trichotomy qp o with hqo | hqo | hqo
    · have hst := hst hqo
      have hsh := hsh (by omega)
      by_cases hcd : c ≤ d
      all_goals
        have hkm : c ≤ d → k ≤ m := hm
        clear hm
        try (have hkm := hkm hcd)
        go_enter Tryd.func5, Tryd.ntmps5
        go_wp2_with fail
        refine (first_any _ hg.out).mono ?_
        rintro e w1 ⟨rfl, hb1⟩
        go_wp2_with fail
        refine (hL.out _).mono ?_
        rintro e w2 ⟨rfl, hb2⟩
        go_wp2_with fail
        refine (hM.out _).mono ?_
        rintro e w3 ⟨rfl, hb3⟩
        go_wp2_with fail
        refine (hN.out _).mono ?_
        rintro e w4 ⟨rfl, hb4⟩
        go_wp2_with fail
        refine (hO.out _).mono ?_
        rintro e w5 ⟨rfl, hb5⟩
        go_wp2_with fail
        refine (hS.out _).mono ?_
        rintro e w6 ⟨rfl, hb6⟩
        go_wp2_with fail
        refine (hT.out _).mono ?_
        rintro e w7 ⟨rfl, hb7⟩
        have g7 : Below w.heap.size w w7 := ext (ext (ext (ext (ext (ext hb1 hb2) hb3) hb4) hb5) hb6) hb7
        go_wp2_with fail
        refine (first_any _ (hg.out.ext g7)).mono ?_
        rintro e w8 ⟨rfl, hb8⟩
        go_wp2
        all_goals go_returns
        all_goals exact ⟨by first | rfl | (simp; done) | (simp; omega), ext g7 hb8⟩
    · subst hqo
      have hsh := hsh (by omega)
      clear hst
      by_cases hcd : c ≤ d
      all_goals
        have hkm : c ≤ d → k ≤ m := hm
        clear hm
        try (have hkm := hkm hcd)
        go_enter Tryd.func5, Tryd.ntmps5
        go_wp2_with fail
        refine (first_any _ hg.out).mono ?_
        rintro e w1 ⟨rfl, hb1⟩
        go_wp2_with fail
        refine (hL.out _).mono ?_
        rintro e w2 ⟨rfl, hb2⟩
        go_wp2_with fail
        refine (hM.out _).mono ?_
        rintro e w3 ⟨rfl, hb3⟩
        go_wp2_with fail
        refine (hN.out _).mono ?_
        rintro e w4 ⟨rfl, hb4⟩
        go_wp2_with fail
        refine (hO.out _).mono ?_
        rintro e w5 ⟨rfl, hb5⟩
        go_wp2_with fail
        refine (hS.out _).mono ?_
        rintro e w6 ⟨rfl, hb6⟩
        go_wp2_with fail
        refine (hT.out _).mono ?_
        rintro e w7 ⟨rfl, hb7⟩
        have g7 : Below w.heap.size w w7 := ext (ext (ext (ext (ext (ext hb1 hb2) hb3) hb4) hb5) hb6) hb7
        go_wp2_with fail
        refine (first_any _ (hg.out.ext g7)).mono ?_
        rintro e w8 ⟨rfl, hb8⟩
        go_wp2
        all_goals go_returns
        all_goals exact ⟨by first | rfl | (simp; done) | (simp; omega), ext g7 hb8⟩
    · clear hst hsh
      by_cases hcd : c ≤ d
      all_goals
        have hkm : c ≤ d → k ≤ m := hm
        clear hm
        try (have hkm := hkm hcd)
        go_enter Tryd.func5, Tryd.ntmps5
        go_wp2_with fail
        refine (first_any _ hg.out).mono ?_
        rintro e w1 ⟨rfl, hb1⟩
        go_wp2_with fail
        refine (hL.out _).mono ?_
        rintro e w2 ⟨rfl, hb2⟩
        go_wp2_with fail
        refine (hM.out _).mono ?_
        rintro e w3 ⟨rfl, hb3⟩
        go_wp2_with fail
        refine (hN.out _).mono ?_
        rintro e w4 ⟨rfl, hb4⟩
        go_wp2_with fail
        refine (hO.out _).mono ?_
        rintro e w5 ⟨rfl, hb5⟩
        go_wp2_with fail
        refine (hS.out _).mono ?_
        rintro e w6 ⟨rfl, hb6⟩
        go_wp2_with fail
        refine (hT.out _).mono ?_
        rintro e w7 ⟨rfl, hb7⟩
        have g7 : Below w.heap.size w w7 := ext (ext (ext (ext (ext (ext hb1 hb2) hb3) hb4) hb5) hb6) hb7
        go_wp2_with fail
        refine (first_any _ (hg.out.ext g7)).mono ?_
        rintro e w8 ⟨rfl, hb8⟩
        go_wp2
        all_goals go_returns
        all_goals exact ⟨by first | rfl | (simp; done) | (simp; omega), ext g7 hb8⟩
theorem rises_walk (c d qp o : Int) (w : World) (hg : TypeIs w) : Calls Tryd.prog 5 #[.int .i64 c, .int .i64 d, .int .i64 qp, .int .i64 o] w fun e w' => e = .returned (.bool true) ∧ Below w.heap.size w w' := by
  cases h : inQ qp && inC c with
  | false => exact rises_out1 c d qp o w hg h
  | true =>
    cases h' : inQ qp && inC d with
    | false => exact rises_out2 c d qp o w hg h h'
    | true =>
      simp at h h'
      exact rises_in c d qp o w hg h.1 h.2 h'.2

/-! ### QuantFixed -/
set_option maxHeartbeats 1000000 in
theorem fixed_out1 (l m qp : Int) (w : World) (hg : TypeIs w) (h : (inQ qp && inL l) = false) : Calls Tryd.prog 6 #[.int .i64 l, .int .i64 m, .int .i64 qp] w fun e w' => e = .returned (.bool true) ∧ Below w.heap.size w w' := by
  have hg := Lib.hid hg
  have H := Lib.hid h
  clear h
  have b := value_bd m qp
  obtain ⟨b1, b2⟩ := b
  go_enter Tryd.func6, Tryd.ntmps6
  go_wp2_with fail
  refine (first_any _ hg.out).mono ?_
  rintro e w1 ⟨rfl, hb1⟩
  go_wp2_with fail
  refine (pvalue_err _ H.out).mono ?_
  rintro e w2 ⟨rfl, hb2⟩
  go_wp2_with fail
  refine (pvalue_any _ _ _).mono ?_
  rintro e w3 ⟨rfl, hb3⟩
  have g3 : Below w.heap.size w w3 := ext (ext hb1 hb2) hb3
  go_wp2_with fail
  refine (first_any _ (hg.out.ext g3)).mono ?_
  rintro e w4 ⟨rfl, hb4⟩
  go_wp2
  all_goals go_returns
  all_goals exact ⟨by first | rfl | (simp; done) | (simp; omega), ext g3 hb4⟩
set_option maxHeartbeats 1000000 in
theorem fixed_out2 (l m qp : Int) (w : World) (hg : TypeIs w) (h : (inQ qp && inL l) = true) (h' : (inQ qp && inL m) = false) : Calls Tryd.prog 6 #[.int .i64 l, .int .i64 m, .int .i64 qp] w fun e w' => e = .returned (.bool true) ∧ Below w.heap.size w w' := by
  have hg := Lib.hid hg
  have H := Lib.hid h
  have H' := Lib.hid h'
  clear h h'
  have b := value_bd l qp
  obtain ⟨b1, b2⟩ := b
  go_enter Tryd.func6, Tryd.ntmps6
  go_wp2_with fail
  refine (first_any _ hg.out).mono ?_
  rintro e w1 ⟨rfl, hb1⟩
  go_wp2_with fail
  refine (pvalue_yes _ H.out).mono ?_
  rintro e w2 ⟨rfl, hb2⟩
  go_wp2_with fail
  refine (pvalue_err _ H'.out).mono ?_
  rintro e w3 ⟨rfl, hb3⟩
  have g3 : Below w.heap.size w w3 := ext (ext hb1 hb2) hb3
  go_wp2_with fail
  refine (first_any _ (hg.out.ext g3)).mono ?_
  rintro e w4 ⟨rfl, hb4⟩
  go_wp2
  all_goals go_returns
  all_goals exact ⟨by first | rfl | (simp; done) | (simp; omega), ext g3 hb4⟩
set_option maxHeartbeats 1000000 in
theorem fixed_in (l m qp : Int) (w : World) (hg : TypeIs w) (hq : inQ qp = true) (hl : inL l = true) (hm : inL m = true) : Calls Tryd.prog 6 #[.int .i64 l, .int .i64 m, .int .i64 qp] w fun e w' => e = .returned (.bool true) ∧ Below w.heap.size w w' := by
  have hg := Lib.hid hg
  have hv := level_value hq hl
  have hlt := value_lt hq hl hm
  have hL := Lib.hid (show ∀ w, Calls Tryd.prog 16 #[.int .i64 l, .int .i64 qp] w fun e w' => e = .returned (.tuple #[.int .i64 (valueV l qp), .nilIface]) ∧ Below w.heap.size w w' from fun w => pvalue_yes w (by rw [hq, hl]; rfl))
  have hM := Lib.hid (show ∀ w, Calls Tryd.prog 16 #[.int .i64 m, .int .i64 qp] w fun e w' => e = .returned (.tuple #[.int .i64 (valueV m qp), .nilIface]) ∧ Below w.heap.size w w' from fun w => pvalue_yes w (by rw [hq, hm]; rfl))
  have hK := Lib.hid (show ∀ w, Calls Tryd.prog 14 #[.int .i64 (valueV l qp), .int .i64 qp] w fun e w' => e = .returned (.tuple #[.int .i64 l, .nilIface]) ∧ Below w.heap.size w w' from fun w => by
    have := plevel_ok (c := valueV l qp) (qp := qp) w (by rw [hq, hv.1]; rfl)
    rw [hv.2] at this; exact this)
  have b1 := value_bd l qp
  have b2 := value_bd m qp
  clear hv hq hl hm
  generalize valueV l qp = v at *
  generalize valueV m qp = x at *
  by_cases h : l < m
  · have h2 := hlt.1 h
    clear hlt
    go_enter Tryd.func6, Tryd.ntmps6
    go_wp2_with fail
    refine (first_any _ hg.out).mono ?_
    rintro e w1 ⟨rfl, hb1⟩
    go_wp2_with fail
    refine (hL.out _).mono ?_
    rintro e w2 ⟨rfl, hb2⟩
    go_wp2_with fail
    refine (hM.out _).mono ?_
    rintro e w3 ⟨rfl, hb3⟩
    go_wp2_with fail
    refine (hK.out _).mono ?_
    rintro e w4 ⟨rfl, hb4⟩
    have g4 : Below w.heap.size w w4 := ext (ext (ext hb1 hb2) hb3) hb4
    go_wp2_with fail
    refine (first_any _ (hg.out.ext g4)).mono ?_
    rintro e w5 ⟨rfl, hb5⟩
    go_wp2
    all_goals go_returns
    all_goals exact ⟨by first | rfl | (simp; done) | (simp; omega), ext g4 hb5⟩
  · have h2 : ¬ v < x := fun h' => h (hlt.2 h')
    clear hlt
    go_enter Tryd.func6, Tryd.ntmps6
    go_wp2_with fail
    refine (first_any _ hg.out).mono ?_
    rintro e w1 ⟨rfl, hb1⟩
    go_wp2_with fail
    refine (hL.out _).mono ?_
    rintro e w2 ⟨rfl, hb2⟩
    go_wp2_with fail
    refine (hM.out _).mono ?_
    rintro e w3 ⟨rfl, hb3⟩
    go_wp2_with fail
    refine (hK.out _).mono ?_
    rintro e w4 ⟨rfl, hb4⟩
    have g4 : Below w.heap.size w w4 := ext (ext (ext hb1 hb2) hb3) hb4
    go_wp2_with fail
    refine (first_any _ (hg.out.ext g4)).mono ?_
    rintro e w5 ⟨rfl, hb5⟩
    go_wp2
    all_goals go_returns
    all_goals exact ⟨by first | rfl | (simp; done) | (simp; omega), ext g4 hb5⟩
theorem fixed_walk (l m qp : Int) (w : World) (hg : TypeIs w) : Calls Tryd.prog 6 #[.int .i64 l, .int .i64 m, .int .i64 qp] w fun e w' => e = .returned (.bool true) ∧ Below w.heap.size w w' := by
  cases h : inQ qp && inL l with
  | false => exact fixed_out1 l m qp w hg h
  | true =>
    cases h' : inQ qp && inL m with
    | false => exact fixed_out2 l m qp w hg h h'
    | true =>
      simp at h h'
      exact fixed_in l m qp w hg h.1 h.2 h'.2
end Go.Proofs.YtkiigodkbmcpfaaDoor
