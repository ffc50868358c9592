/- kinsame.Err on errors without a path: says whether the codes are the same. -/
import Derived.Test.YtdiaejphgcoknaaGreatDoorErrs
set_option linter.unusedSimpArgs false
set_option linter.unusedVariables false
namespace Go.Proofs.YtdiaejphgcoknaaGreatDoor
open Go.RowKit Go.Extern.Stop Go.Stop Go.Extern

set_option maxHeartbeats 1000000 in
theorem same_nn (w : World) : Calls Tryz.prog 16 #[.nilIface, .agg #[.int .i64 0, .slice none 0 0]] w fun e w' => e = .returned (.bool true) ∧ Below w.heap.size w w' := by
  go_enter Tryz.func16, Tryz.ntmps16
  go_wp2
  go_region_with (first | (go_at_call 34; refine (ok_zero _ _).mono ?_; rintro e w1 ⟨rfl, hb1⟩; obtain ⟨hc1, hf1⟩ := bcell hb1; have hz1 : w.heap.size < w1.heap.size := (by have h1 := hb1.size; first | omega | (simp at h1; omega))) | (go_at_call 35; refine (of_nil _).mono ?_; rintro e w2 ⟨rfl, hb2⟩; obtain ⟨hc2, hf2⟩ := bcell hb2; have hz2 : w.heap.size < w2.heap.size := (by have h2 := hb2.size; first | omega | (simp at h2; omega))))
  all_goals go_wp2_with (go_at_call 36; refine (path_nil _).mono ?_; rintro e w3 ⟨rfl, hb3⟩; obtain ⟨hc3, hf3⟩ := bcell hb3; have hz3 : w.heap.size < w3.heap.size := (by have h3 := hb3.size; have h2 := hb2.size; omega))
  all_goals (refine wp_loop_rounds 1 ?_; rw [rounds_succ]; go_wp2; go_returns)
  all_goals exact ⟨rfl, by first | exact ext (ext (ext (by go_grown) hb1) hb2) hb3 | exact ext (ext (ext (by go_grown) hb2) hb1) hb3⟩
set_option maxHeartbeats 1000000 in
theorem same_cc (k : Int) (hk : (k == 0) = false) (w : World) (hg : TypeIs w) : Calls Tryz.prog 16 #[.iface 42 (.int .i64 k), .agg #[.int .i64 k, .slice none 0 0]] w fun e w' => e = .returned (.bool true) ∧ Below w.heap.size w w' := by
  have hq := Lib.hid hg
  clear hg
  go_enter Tryz.func16, Tryz.ntmps16
  go_wp2
  go_region_with (first | (go_at_call 34; refine (ok_ne _ hk _ _).mono ?_; rintro e w1 ⟨rfl, hb1⟩; obtain ⟨hc1, hf1⟩ := bcell hb1; have hz1 : w.heap.size < w1.heap.size := (by have h1 := hb1.size; first | omega | (simp at h1; omega))) | (go_at_call 35; refine (of_code _ _ ?_).mono ?_; exact hq.out.ext (by first | (exact ext (by go_grown) hb1) | go_grown); rintro e w2 ⟨rfl, hb2⟩; obtain ⟨hc2, hf2⟩ := bcell hb2; have hz2 : w.heap.size < w2.heap.size := (by have h2 := hb2.size; first | omega | (simp at h2; omega))))
  all_goals go_wp2_with (go_at_call 36; refine (path_code _ _ ?_).mono ?_; exact hq.out.ext (by exact ext (ext (by go_grown) hb1) hb2); rintro e w3 ⟨rfl, hb3⟩; obtain ⟨hc3, hf3⟩ := bcell hb3; have hz3 : w.heap.size < w3.heap.size := (by have h3 := hb3.size; have h2 := hb2.size; omega))
  all_goals (refine wp_loop_rounds 1 ?_; rw [rounds_succ]; go_wp2; go_returns)
  all_goals exact ⟨rfl, by first | exact ext (ext (ext (by go_grown) hb1) hb2) hb3 | exact ext (ext (ext (by go_grown) hb2) hb1) hb3⟩
theorem same_any (k : Int) (w : World) (hg : TypeIs w) : Calls Tryz.prog 16 #[errV k, .agg #[.int .i64 k, .slice none 0 0]] w fun e w' => e = .returned (.bool true) ∧ Below w.heap.size w w' := by
  by_cases h : k = 0
  · subst h; exact same_nn w
  · rw [errV_ne h]; exact same_cc k (by simpa using h) w hg
end Go.Proofs.YtdiaejphgcoknaaGreatDoor
