/- fault.Of, fault.Path, kinref.Fail, (kinref.Err).OK, kinsame.Err: contracts for errors without a path. -/
import Derived.Test.YtdiaejphgcoknaaGreatDoorErr
import Derived.Lib.Hide
set_option linter.unusedSimpArgs false
set_option linter.unusedVariables false
namespace Go.Proofs.YtdiaejphgcoknaaGreatDoor
open Go.RowKit Go.Extern.Stop Go.Stop Go.Extern

/-- Behind a contract: what lies below is as it was, as two rules for the walk. -/
theorem bcell {W w1 : World} (hb : Below W.heap.size W w1) : (∀ b o, b < W.heap.size → w1.cell? ⟨b, o, none⟩ = W.cell? ⟨b, o, none⟩) ∧ (∀ b o, b < W.heap.size → w1.frozen? ⟨b, o, none⟩ = W.frozen? ⟨b, o, none⟩) :=
  ⟨fun b o h => hb.cell (p := ⟨b, o, none⟩) h, fun b o h => hb.frozen (p := ⟨b, o, none⟩) h⟩

theorem bcellN {n : Nat} {W w1 : World} (hb : Below W.heap.size W w1) (h : n ≤ W.heap.size) : (∀ b o, b < n → w1.cell? ⟨b, o, none⟩ = W.cell? ⟨b, o, none⟩) ∧ (∀ b o, b < n → w1.frozen? ⟨b, o, none⟩ = W.frozen? ⟨b, o, none⟩) :=
  ⟨fun b o hb' => hb.cell (p := ⟨b, o, none⟩) (Nat.lt_of_lt_of_le hb' h), fun b o hb' => hb.frozen (p := ⟨b, o, none⟩) (Nat.lt_of_lt_of_le hb' h)⟩
/-- One call behind the other. -/
theorem ext {w w1 w2 : World} (h : Below w.heap.size w w1) (h2 : Below w1.heap.size w1 w2) : Below w.heap.size w w2 := h.trans (h2.mono h.size)

/-- An error that is nil (code 0) or a code. -/
def errV (k : Int) : Value := if k = 0 then .nilIface else .iface 42 (.int .i64 k)
theorem errV_zero : errV 0 = .nilIface := rfl
theorem errV_ne {k : Int} (h : k ≠ 0) : errV k = .iface 42 (.int .i64 k) := by simp [errV, h]

theorem errV_underlying : Tryz.prog.underlying 26 = some (.interface (Tryz.prog.methodsAt 26)) := by kernel_rfl
@[go_sem] theorem errV_neq (k : Int) (w : World) : (binOp .neq 26 (errV k) .nilIface).run Tryz.prog w = .ok (.bool (!(k == 0))) w := by
  by_cases h : k = 0
  · subst h; rw [errV_zero]; exact run_neq_nil_nil w _ errV_underlying
  · rw [errV_ne h, run_neq_held_nil w _ _ _ errV_underlying, show (k == 0) = false from by simpa using h]; rfl
@[go_sem] theorem errV_eql (k : Int) (w : World) : (binOp .eql 26 (errV k) .nilIface).run Tryz.prog w = .ok (.bool (k == 0)) w := by
  by_cases h : k = 0
  · subst h; rw [errV_zero]; exact run_eql_nil_nil w _ errV_underlying
  · rw [errV_ne h, run_eql_held_nil w _ _ _ errV_underlying, show (k == 0) = false from by simpa using h]

@[go_sem] theorem errV_guard (op : BinOp) (t : TypeId) (x : Operand) (k : Int) (w : World) : (eqGuard op t x (.const .nilIface) (errV k) .nilIface).run Tryz.prog w = .ok () w := by
  by_cases h : k = 0
  · subst h; rw [errV_zero]; cases op <;> simp [eqGuard]
  · rw [errV_ne h]; cases op <;> simp [eqGuard]

theorem TypeIs.below {B : Nat} {w w' : World} (h : TypeIs w) (hb : Below B w w') (hB : 0 < B) : TypeIs w' := by
  unfold TypeIs at *; rw [hb.cell (by simpa using hB)]; exact h
theorem TypeIs.lt {w : World} (h : TypeIs w) : 0 < w.heap.size := by
  unfold TypeIs at h
  rcases Nat.lt_or_ge 0 w.heap.size with h' | h'
  · exact h'
  · simp [World.cell?, Array.getElem?_eq_none h'] at h
theorem TypeIs.ext {w w' : World} (h : TypeIs w) (hb : Below w.heap.size w w') : TypeIs w' := h.below hb h.lt

theorem of_nil (w : World) : Calls Tryz.prog 35 #[.nilIface] w fun e w' => e = .returned (.int .i64 0) ∧ Below w.heap.size w w' := by
  go_enter Tryz.func35, Tryz.ntmps35
  go_wp2
  go_returns
  exact ⟨rfl, by go_grown⟩
theorem of_code (k : Int) (w : World) (hg : TypeIs w) : Calls Tryz.prog 35 #[.iface 42 (.int .i64 k)] w fun e w' => e = .returned (.int .i64 k) ∧ Below w.heap.size w w' := by
  have hg1 : TypeIs (w.alloc (.cells #[.int .i64 0] 42)) := hg.ext (by go_grown)
  go_enter Tryz.func35, Tryz.ntmps35
  go_wp2_with (go_at_call 59; refine (as_code _ _ (.int .i64 0) _ hg1 (by simp) (by simp)).mono ?_; rintro e w' ⟨rfl, rfl⟩)
  go_returns
  exact ⟨rfl, by go_grown⟩
theorem of_any (k : Int) (w : World) (hg : TypeIs w) : Calls Tryz.prog 35 #[errV k] w fun e w' => e = .returned (.int .i64 k) ∧ Below w.heap.size w w' := by
  by_cases h : k = 0
  · subst h; exact of_nil w
  · rw [errV_ne h]; exact of_code k w hg

theorem path_nil (w : World) : Calls Tryz.prog 36 #[.nilIface] w fun e w' => e = .returned (.slice none 0 0) ∧ Below w.heap.size w w' := by
  go_enter Tryz.func36, Tryz.ntmps36
  go_wp2
  refine wp_loop_rounds 1 ?_
  rw [rounds_succ]
  go_wp2_with (go_at_call 59; refine (as_nil _ _).mono ?_; rintro e w' ⟨rfl, rfl⟩)
  go_returns
  exact ⟨rfl, by go_grown⟩
theorem path_code (k : Int) (w : World) (hg : TypeIs w) : Calls Tryz.prog 36 #[.iface 42 (.int .i64 k)] w fun e w' => e = .returned (.slice none 0 0) ∧ Below w.heap.size w w' := by
  have hg1 : TypeIs (w.alloc (.cells #[.pointer none] 107)) := hg.ext (by go_grown)
  go_enter Tryz.func36, Tryz.ntmps36
  go_wp2
  refine wp_loop_rounds 1 ?_
  rw [rounds_succ]
  go_wp2_with (go_at_call 59; refine (as_nofault _ _ _ hg1).mono ?_; rintro e w' ⟨rfl, rfl⟩)
  go_returns
  exact ⟨rfl, by go_grown⟩
theorem path_any (k : Int) (w : World) (hg : TypeIs w) : Calls Tryz.prog 36 #[errV k] w fun e w' => e = .returned (.slice none 0 0) ∧ Below w.heap.size w w' := by
  by_cases h : k = 0
  · subst h; exact path_nil w
  · rw [errV_ne h]; exact path_code k w hg

theorem fail_any (k : Int) (w : World) : Calls Tryz.prog 22 #[.int .i64 k] w fun e w' => e = .returned (.agg #[.int .i64 k, .slice none 0 0]) ∧ Below w.heap.size w w' := by
  go_enter Tryz.func22, Tryz.ntmps22
  go_wp2
  go_returns
  exact ⟨rfl, by go_grown⟩
theorem ok_any (k : Int) (p : Value) (w : World) : Calls Tryz.prog 34 #[.agg #[.int .i64 k, p]] w fun e w' => e = .returned (.bool (k == 0)) ∧ Below w.heap.size w w' := by
  go_enter Tryz.func34, Tryz.ntmps34
  go_wp2
  go_returns
  exact ⟨rfl, by go_grown⟩
theorem ok_zero (p : Value) (w : World) : Calls Tryz.prog 34 #[.agg #[.int .i64 0, p]] w fun e w' => e = .returned (.bool true) ∧ Below w.heap.size w w' := ok_any 0 p w
theorem ok_ne (k : Int) (hk : (k == 0) = false) (p : Value) (w : World) : Calls Tryz.prog 34 #[.agg #[.int .i64 k, p]] w fun e w' => e = .returned (.bool false) ∧ Below w.heap.size w w' :=
  (ok_any k p w).mono fun e w' ⟨he, hb⟩ => ⟨by rw [he, hk], hb⟩
end Go.Proofs.YtdiaejphgcoknaaGreatDoor
