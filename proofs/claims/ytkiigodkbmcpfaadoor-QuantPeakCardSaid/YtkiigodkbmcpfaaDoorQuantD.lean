/- The walks of kinlaw9.QuantBound, QuantRises and QuantFixed. -/
import Derived.Test.YtkiigodkbmcpfaaDoorQuantC
import Derived.Test.YtkiigodkbmcpfaaDoorQuantM
set_option linter.unusedSimpArgs false
set_option linter.unusedVariables false
namespace Go.Proofs.YtkiigodkbmcpfaaDoor
open Go.RowKit Go.Extern.Stop Go.Stop Go.Extern
open Q

theorem plevel_err {c qp : Int} (w : World) (h : (inQ qp && inC c) = false) : Calls Tryd.prog 14 #[.int .i64 c, .int .i64 qp] w fun e w' => e = .returned (.tuple #[.int .i64 0, .iface 27 (.int .i64 3)]) ∧ Below w.heap.size w w' :=
  (plevel_any c qp w).mono fun e w' ⟨he, hb⟩ => ⟨by rw [he]; simp [levelV, levelE, h, errV], hb⟩
theorem plevel_ok {c qp : Int} (w : World) (h : (inQ qp && inC c) = true) : Calls Tryd.prog 14 #[.int .i64 c, .int .i64 qp] w fun e w' => e = .returned (.tuple #[.int .i64 (levelV c qp), .nilIface]) ∧ Below w.heap.size w w' :=
  (plevel_any c qp w).mono fun e w' ⟨he, hb⟩ => ⟨by rw [he]; simp only [levelE, h, if_true]; rfl, hb⟩
theorem pbound_ok {qp : Int} (w : World) (h : inQ qp = true) : Calls Tryd.prog 12 #[.int .i64 qp] w fun e w' => e = .returned (.tuple #[.int .i64 (boundV qp), .nilIface]) ∧ Below w.heap.size w w' :=
  (pbound_any qp w).mono fun e w' ⟨he, hb⟩ => ⟨by rw [he]; simp only [stepE, h, if_true]; rfl, hb⟩
theorem pvalue_err {l qp : Int} (w : World) (h : (inQ qp && inL l) = false) : Calls Tryd.prog 16 #[.int .i64 l, .int .i64 qp] w fun e w' => e = .returned (.tuple #[.int .i64 0, .iface 27 (.int .i64 3)]) ∧ Below w.heap.size w w' :=
  (pvalue_any l qp w).mono fun e w' ⟨he, hb⟩ => ⟨by rw [he]; simp [valueV, valueE, h, errV], hb⟩
theorem pvalue_yes {l qp : Int} (w : World) (h : (inQ qp && inL l) = true) : Calls Tryd.prog 16 #[.int .i64 l, .int .i64 qp] w fun e w' => e = .returned (.tuple #[.int .i64 (valueV l qp), .nilIface]) ∧ Below w.heap.size w w' :=
  (pvalue_any l qp w).mono fun e w' ⟨he, hb⟩ => ⟨by rw [he]; simp only [valueE, h, if_true]; rfl, hb⟩

set_option maxHeartbeats 1000000 in
theorem bound_out (c qp : Int) (w : World) (hg : TypeIs w) (h : (inQ qp && inC c) = false) : Calls Tryd.prog 4 #[.int .i64 c, .int .i64 qp] w fun e w' => e = .returned (.bool true) ∧ Below w.heap.size w w' := by
  have hg := Lib.hid hg
  have H := Lib.hid h
  clear h
  go_enter Tryd.func4, Tryd.ntmps4
  go_wp2_with fail
  refine (first_any _ hg.out).mono ?_
  rintro e w1 ⟨rfl, hb1⟩
  go_wp2_with fail
  refine (plevel_err _ H.out).mono ?_
  rintro e w2 ⟨rfl, hb2⟩
  go_wp2_with fail
  refine (pbound_any _ _).mono ?_
  rintro e w3 ⟨rfl, hb3⟩
  have g3 : Below w.heap.size w w3 := ext (ext hb1 hb2) hb3
  go_wp2_with fail
  refine (first_any _ (hg.out.ext g3)).mono ?_
  rintro e w4 ⟨rfl, hb4⟩
  go_wp2
  all_goals go_returns
  all_goals exact ⟨by first | rfl | (simp; done) | (simp; omega), ext g3 hb4⟩
set_option maxHeartbeats 1000000 in
theorem bound_far (c qp : Int) (w : World) (hg : TypeIs w) (hq : inQ qp = true) (hc : inC c = true) (hl : inL (levelV c qp) = false) : Calls Tryd.prog 4 #[.int .i64 c, .int .i64 qp] w fun e w' => e = .returned (.bool true) ∧ Below w.heap.size w w' := by
  have hg := Lib.hid hg
  have hn : ¬ (-16320 ≤ levelV c qp ∧ levelV c qp ≤ 16320) := by simpa [inL] using hl
  have hv := level_bd c qp
  generalize hk : levelV c qp = k at *
  have hL := Lib.hid (show ∀ w, Calls Tryd.prog 14 #[.int .i64 c, .int .i64 qp] w fun e w' => e = .returned (.tuple #[.int .i64 k, .nilIface]) ∧ Below w.heap.size w w' from fun w => by have := plevel_ok (c := c) (qp := qp) w (by rw [hq, hc]; rfl); rw [hk] at this; exact this)
  have hV := Lib.hid (show ∀ w, Calls Tryd.prog 16 #[.int .i64 k, .int .i64 qp] w fun e w' => e = .returned (.tuple #[.int .i64 0, .iface 27 (.int .i64 3)]) ∧ Below w.heap.size w w' from fun w => pvalue_err w (by rw [hq, hl]; rfl))
  have hB := Lib.hid (show ∀ w, Calls Tryd.prog 12 #[.int .i64 qp] w fun e w' => e = .returned (.tuple #[.int .i64 (boundV qp), .nilIface]) ∧ Below w.heap.size w w' from fun w => pbound_ok w hq)
  clear hk hq hc hl
  by_cases h1 : 16320 < k
  all_goals
    have h2 : 16320 < k ∨ k < -16320 := by omega
    clear hn
    go_enter Tryd.func4, Tryd.ntmps4
    go_wp2_with fail
    refine (first_any _ hg.out).mono ?_
    rintro e w1 ⟨rfl, hb1⟩
    go_wp2_with fail
    refine (hL.out _).mono ?_
    rintro e w2 ⟨rfl, hb2⟩
    go_wp2_with fail
    refine (hB.out _).mono ?_
    rintro e w3 ⟨rfl, hb3⟩
    go_wp2_with fail
    refine (hV.out _).mono ?_
    rintro e w4 ⟨rfl, hb4⟩
    have g4 : Below w.heap.size w w4 := ext (ext (ext hb1 hb2) hb3) hb4
    go_wp2_with fail
    refine (first_any _ (hg.out.ext g4)).mono ?_
    rintro e w5 ⟨rfl, hb5⟩
    go_wp2
    all_goals go_returns
    all_goals exact ⟨by first | rfl | (simp; done) | (simp; omega), ext g4 hb5⟩
set_option maxHeartbeats 1000000 in
theorem bound_near (c qp : Int) (w : World) (hg : TypeIs w) (hq : inQ qp = true) (hc : inC c = true) (hl : inL (levelV c qp) = true) : Calls Tryd.prog 4 #[.int .i64 c, .int .i64 qp] w fun e w' => e = .returned (.bool true) ∧ Below w.heap.size w w' := by
  have hg := Lib.hid hg
  have hn := level_near hq hc
  have hc1 := inC_iff.1 hc
  have hv := value_bd (levelV c qp) qp
  have ev : valueV (levelV c qp) qp = levelV c qp * stepV qp := by simp [valueV, hq, hl]
  rw [← ev] at hn
  have hz : ¬ 0 < qp → valueV (levelV c qp) qp = c := by
    intro h0
    have : qp = 0 := by have : 0 ≤ qp ∧ qp ≤ 15 := by simpa [inQ] using hq
                        omega
    subst this
    rw [ev]; exact level_zero hc
  have hL := Lib.hid (show ∀ w, Calls Tryd.prog 14 #[.int .i64 c, .int .i64 qp] w fun e w' => e = .returned (.tuple #[.int .i64 (levelV c qp), .nilIface]) ∧ Below w.heap.size w w' from fun w => plevel_ok w (by rw [hq, hc]; rfl))
  have hV := Lib.hid (show ∀ w, Calls Tryd.prog 16 #[.int .i64 (levelV c qp), .int .i64 qp] w fun e w' => e = .returned (.tuple #[.int .i64 (valueV (levelV c qp) qp), .nilIface]) ∧ Below w.heap.size w w' from fun w => pvalue_yes w (by rw [hq, hl]; rfl))
  have hB := Lib.hid (show ∀ w, Calls Tryd.prog 12 #[.int .i64 qp] w fun e w' => e = .returned (.tuple #[.int .i64 (boundV qp), .nilIface]) ∧ Below w.heap.size w w' from fun w => pbound_ok w hq)
  clear hq hc hl ev
  generalize valueV (levelV c qp) qp = v at *
  generalize levelV c qp = k at *
  generalize boundV qp = b at *
  obtain ⟨hn1, hn2⟩ := hn
  obtain ⟨hv1, hv2⟩ := hv
  obtain ⟨hc1, hc2⟩ := hc1
  by_cases h0 : 0 < qp
  · clear hz
    go_enter Tryd.func4, Tryd.ntmps4
    go_wp2_with fail
    refine (first_any _ hg.out).mono ?_
    rintro e w1 ⟨rfl, hb1⟩
    go_wp2_with fail
    refine (hL.out _).mono ?_
    rintro e w2 ⟨rfl, hb2⟩
    go_wp2_with fail
    refine (hB.out _).mono ?_
    rintro e w3 ⟨rfl, hb3⟩
    go_wp2_with fail
    refine (hV.out _).mono ?_
    rintro e w4 ⟨rfl, hb4⟩
    have g4 : Below w.heap.size w w4 := ext (ext (ext hb1 hb2) hb3) hb4
    go_wp2_with fail
    refine (first_any _ (hg.out.ext g4)).mono ?_
    rintro e w5 ⟨rfl, hb5⟩
    go_wp2
    all_goals go_returns
    all_goals exact ⟨by first | rfl | (simp; done) | (simp; omega), ext g4 hb5⟩
  · obtain rfl := hz h0
    clear hz
    go_enter Tryd.func4, Tryd.ntmps4
    go_wp2_with fail
    refine (first_any _ hg.out).mono ?_
    rintro e w1 ⟨rfl, hb1⟩
    go_wp2_with fail
    refine (hL.out _).mono ?_
    rintro e w2 ⟨rfl, hb2⟩
    go_wp2_with fail
    refine (hB.out _).mono ?_
    rintro e w3 ⟨rfl, hb3⟩
    go_wp2_with fail
    refine (hV.out _).mono ?_
    rintro e w4 ⟨rfl, hb4⟩
    have g4 : Below w.heap.size w w4 := ext (ext (ext hb1 hb2) hb3) hb4
    go_wp2_with fail
    refine (first_any _ (hg.out.ext g4)).mono ?_
    rintro e w5 ⟨rfl, hb5⟩
    go_wp2
    all_goals go_returns
    all_goals exact ⟨by first | rfl | (simp; done) | (simp; omega), ext g4 hb5⟩
theorem bound_walk (c qp : Int) (w : World) (hg : TypeIs w) : Calls Tryd.prog 4 #[.int .i64 c, .int .i64 qp] w fun e w' => e = .returned (.bool true) ∧ Below w.heap.size w w' := by
  cases h : inQ qp && inC c with
  | false => exact bound_out c qp w hg h
  | true =>
    simp at h
    cases hl : inL (levelV c qp) with
    | false => exact bound_far c qp w hg h.1 h.2 hl
    | true => exact bound_near c qp w hg h.1 h.2 hl
end Go.Proofs.YtkiigodkbmcpfaaDoor
