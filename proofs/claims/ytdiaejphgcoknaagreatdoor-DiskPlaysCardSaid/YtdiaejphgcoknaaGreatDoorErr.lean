/- errors.As at an api.Code, fault.Of, fault.Path, kinsame.Err: contracts for errors without a path. -/
import Derived.Test.YtdiaejphgcoknaaGreatDoorAs
import Derived.BigQuiet
import Derived.Deep.QuietTactic
import Derived.Deep.RegionWith
import Derived.Handy
set_option linter.unusedSimpArgs false
set_option linter.unusedVariables false
namespace Go.Proofs.YtdiaejphgcoknaaGreatDoor
open Go.RowKit Go.Extern.Stop Go.Stop Go.Extern

theorem R.lacksAs (k : Int) (w : World) : (Instr.typeAssert (.iface 42 (.int .i64 k)) 26 164 true).run Tryz.prog w = .ok (.tuple #[.nilIface, .bool false]) w :=
  run_typeAssert_lacksB Tryz.underlying164 (by kernel_rfl) (by kernel_rfl) _ _ w
theorem R.lacksUnwrap (k : Int) (w : World) : (Instr.typeAssert (.iface 42 (.int .i64 k)) 26 167 true).run Tryz.prog w = .ok (.tuple #[.nilIface, .bool false]) w :=
  run_typeAssert_lacksB Tryz.underlying167 (by kernel_rfl) (by kernel_rfl) _ _ w
theorem R.lacksUnwraps (k : Int) (w : World) : (Instr.typeAssert (.iface 42 (.int .i64 k)) 26 168 true).run Tryz.prog w = .ok (.tuple #[.nilIface, .bool false]) w :=
  run_typeAssert_lacksB Tryz.underlying168 (by kernel_rfl) (by kernel_rfl) _ _ w

set_option maxHeartbeats 4000000 in
theorem as_code (k : Int) (t : Addr) (old : Value) (w : World) (hg : TypeIs w) (ht0 : w.cell? t = some old) (hf0 : w.frozen? t = false) :
    Calls Tryz.prog 59 #[.iface 42 (.int .i64 k), .iface 106 (.pointer (some t))] w fun ev w' => ev = .returned (.bool true) ∧ ((((w.alloc (.cells #[.pointer (some t)] 106)).alloc (.cells #[.pointer (some ⟨1, 106, none⟩), .pointer (some ⟨w.heap.size, 0, none⟩), .int .u64 150] 132)).alloc (.cells #[.pointer (some ⟨1, 106, none⟩), .pointer (some ⟨w.heap.size, 0, none⟩), .int .u64 150] 132)).alloc (.cells #[.int .i64 k] 42)).setCell t (.int .i64 k) = w' := by
  have h6 := @run_callFunc_extern Tryz.prog 77 _ (fun args => ReflectliteValue.unpack (args.getD 0 (.tuple #[]))) Tryz.func77 (by kernel_rfl) (by kernel_rfl) (by kernel_rfl) (by kernel_rfl)
  have h7 := @run_callFunc_extern Tryz.prog 78 _ (ReflectliteValue.methodAny (ReflectliteValue.valueError "reflectlite.Value.Type" 0) (fun t _ _ _ => ReflectliteType.toType t)) Tryz.func78 (by kernel_rfl) (by kernel_rfl) (by kernel_rfl) (by kernel_rfl)
  have h8 := @run_callFunc_extern Tryz.prog 79 _ (ReflectliteValue.method (ReflectliteValue.valueError "reflectlite.Value.IsNil" 0) ReflectliteValue.isNil) Tryz.func79 (by kernel_rfl) (by kernel_rfl) (by kernel_rfl) (by kernel_rfl)
  have h27 := @run_callFunc_extern Tryz.prog 137 _ (ReflectliteType.abiMethod fun t => do pure (.int .u8 (← Rtype.kind t))) Tryz.func137 (by kernel_rfl) (by kernel_rfl) (by kernel_rfl) (by kernel_rfl)
  have h37 := @run_callFunc_extern Tryz.prog 149 _ (ReflectliteType.method ReflectliteType.elem) Tryz.func149 (by kernel_rfl) (by kernel_rfl) (by kernel_rfl) (by kernel_rfl)
  have h38 := @run_callFunc_extern Tryz.prog 150 _ (ReflectliteType.relation "Implements" ReflectliteType.implements_) Tryz.func150 (by kernel_rfl) (by kernel_rfl) (by kernel_rfl) (by kernel_rfl)
  have h10 := @run_callFunc_extern Tryz.prog 99 _ ReflectliteType.typeOf Tryz.func99 (by kernel_rfl) (by kernel_rfl) (by kernel_rfl) (by kernel_rfl)
  have h35 := @run_callFunc_extern Tryz.prog 147 _ (ReflectliteType.relation "AssignableTo" ReflectliteType.assignableTo) Tryz.func147 (by kernel_rfl) (by kernel_rfl) (by kernel_rfl) (by kernel_rfl)
  have h11 := @run_callFunc_extern Tryz.prog 100 _ (ReflectliteValue.method (ReflectliteValue.valueError "reflectlite.Value.Elem" 0) ReflectliteValue.elem) Tryz.func100 (by kernel_rfl) (by kernel_rfl) (by kernel_rfl) (by kernel_rfl)
  have h12 := @run_callFunc_extern Tryz.prog 101 _ ReflectliteValue.set Tryz.func101 (by kernel_rfl) (by kernel_rfl) (by kernel_rfl) (by kernel_rfl)
  have tO := C.typeOf
  have mA := R.methodAssignableTo
  have a25 := C.assignable
  have v25 := C.valueOfC
  have f6 := C.valueOf
  have f7 := C.type
  have mK := R.methodKind
  have mE := R.methodElem
  have mI := R.methodImplements
  have k27 := C.kindP
  have k25 := C.kind
  have e27 := C.elem
  have i25 := C.implements
  have n8 := C.isNil ⟨w.heap.size, 0, none⟩ t ((w.alloc (.cells #[.pointer (some t)] 106)).alloc (.cells #[.pointer (some ⟨1, 106, none⟩), .pointer (some ⟨w.heap.size, 0, none⟩), .int .u64 150] 132)) (by simp)
  have hg : w.cell? ⟨0, 0, none⟩ = some (.iface 159 (.agg #[.pointer (some ⟨1, 26, none⟩)])) := hg
  have hlt : 0 < w.heap.size := by
    rcases Nat.lt_or_ge 0 w.heap.size with h | h
    · exact h
    · simp [World.cell?, Array.getElem?_eq_none h] at hg
  have hg2 : ((w.alloc (.cells #[.pointer (some t)] 106)).alloc (.cells #[.pointer (some ⟨1, 106, none⟩), .pointer (some ⟨w.heap.size, 0, none⟩), .int .u64 150] 132)).cell? ⟨0, 0, none⟩ = some (.iface 159 (.agg #[.pointer (some ⟨1, 26, none⟩)])) := by
    rw [World.cell?_alloc_lt _ _ ⟨0, 0, none⟩ (Nat.lt_of_lt_of_le hlt (by simp)), World.cell?_alloc_lt _ _ ⟨0, 0, none⟩ hlt]; exact hg
  have htl : t.block < w.heap.size := by
    rcases Nat.lt_or_ge t.block w.heap.size with h | h
    · exact h
    · simp [World.cell?, Array.getElem?_eq_none h] at ht0
  have el := C.elemV ⟨w.heap.size, 0, none⟩ t (((w.alloc (.cells #[.pointer (some t)] 106)).alloc (.cells #[.pointer (some ⟨1, 106, none⟩), .pointer (some ⟨w.heap.size, 0, none⟩), .int .u64 150] 132)).alloc (.cells #[.pointer (some ⟨1, 106, none⟩), .pointer (some ⟨w.heap.size, 0, none⟩), .int .u64 150] 132)) (by rw [World.cell?_alloc_lt _ _ ⟨w.heap.size, 0, none⟩ (by simp; omega)]; simp)
  have st := C.set t ⟨w.heap.size + 1 + 1 + 1, 0, none⟩ k old ((((w.alloc (.cells #[.pointer (some t)] 106)).alloc (.cells #[.pointer (some ⟨1, 106, none⟩), .pointer (some ⟨w.heap.size, 0, none⟩), .int .u64 150] 132)).alloc (.cells #[.pointer (some ⟨1, 106, none⟩), .pointer (some ⟨w.heap.size, 0, none⟩), .int .u64 150] 132)).alloc (.cells #[.int .i64 k] 42))
    (by rw [World.cell?_alloc_at _ _ _ _ (by simp)]; rfl)
    (by rw [World.cell?_alloc_lt _ _ t (by simp; omega), World.cell?_alloc_lt _ _ t (by simp; omega), World.cell?_alloc_lt _ _ t (by simp; omega), World.cell?_alloc_lt _ _ t htl]; exact ht0)
    (by rw [World.frozen?_alloc_old _ _ t (by simp; omega), World.frozen?_alloc_old _ _ t (by simp; omega), World.frozen?_alloc_old _ _ t (by simp; omega), World.frozen?_alloc_old _ _ t (Nat.ne_of_lt htl)]; exact hf0)
  go_enter Tryz.func59, Tryz.ntmps59
  go_wp2
  refine wp_loop_rounds 1 ?_
  rw [rounds_succ]
  go_wp2
  go_ret
  exact ⟨rfl, rfl⟩

set_option maxHeartbeats 4000000 in
theorem as_nofault (k : Int) (t : Addr) (w : World) (hg : TypeIs w) :
    Calls Tryz.prog 59 #[.iface 42 (.int .i64 k), .iface 108 (.pointer (some t))] w fun ev w' => ev = .returned (.bool false) ∧ (((w.alloc (.cells #[.pointer (some t)] 108)).alloc (.cells #[.pointer (some ⟨1, 108, none⟩), .pointer (some ⟨w.heap.size, 0, none⟩), .int .u64 150] 132)).alloc (.cells #[.pointer (some ⟨1, 108, none⟩), .pointer (some ⟨w.heap.size, 0, none⟩), .int .u64 150] 132)) = w' := by
  have h6 := @run_callFunc_extern Tryz.prog 77 _ (fun args => ReflectliteValue.unpack (args.getD 0 (.tuple #[]))) Tryz.func77 (by kernel_rfl) (by kernel_rfl) (by kernel_rfl) (by kernel_rfl)
  have h7 := @run_callFunc_extern Tryz.prog 78 _ (ReflectliteValue.methodAny (ReflectliteValue.valueError "reflectlite.Value.Type" 0) (fun t _ _ _ => ReflectliteType.toType t)) Tryz.func78 (by kernel_rfl) (by kernel_rfl) (by kernel_rfl) (by kernel_rfl)
  have h8 := @run_callFunc_extern Tryz.prog 79 _ (ReflectliteValue.method (ReflectliteValue.valueError "reflectlite.Value.IsNil" 0) ReflectliteValue.isNil) Tryz.func79 (by kernel_rfl) (by kernel_rfl) (by kernel_rfl) (by kernel_rfl)
  have h27 := @run_callFunc_extern Tryz.prog 137 _ (ReflectliteType.abiMethod fun t => do pure (.int .u8 (← Rtype.kind t))) Tryz.func137 (by kernel_rfl) (by kernel_rfl) (by kernel_rfl) (by kernel_rfl)
  have h37 := @run_callFunc_extern Tryz.prog 149 _ (ReflectliteType.method ReflectliteType.elem) Tryz.func149 (by kernel_rfl) (by kernel_rfl) (by kernel_rfl) (by kernel_rfl)
  have h38 := @run_callFunc_extern Tryz.prog 150 _ (ReflectliteType.relation "Implements" ReflectliteType.implements_) Tryz.func150 (by kernel_rfl) (by kernel_rfl) (by kernel_rfl) (by kernel_rfl)
  have h10 := @run_callFunc_extern Tryz.prog 99 _ ReflectliteType.typeOf Tryz.func99 (by kernel_rfl) (by kernel_rfl) (by kernel_rfl) (by kernel_rfl)
  have h35 := @run_callFunc_extern Tryz.prog 147 _ (ReflectliteType.relation "AssignableTo" ReflectliteType.assignableTo) Tryz.func147 (by kernel_rfl) (by kernel_rfl) (by kernel_rfl) (by kernel_rfl)
  have tO := C.typeOf
  have mA := R.methodAssignableTo
  have a25 := F.assignableC
  have f6 := F.valueOf
  have f7 := F.type
  have mK := R.methodKind
  have mE := R.methodElem
  have mI := R.methodImplements
  have k27 := F.kindP
  have k25 := F.kind
  have e27 := F.elem
  have i25 := F.implements
  have l1 := R.lacksAs
  have l2 := R.lacksUnwrap
  have l3 := R.lacksUnwraps
  have n8 := F.isNil ⟨w.heap.size, 0, none⟩ t ((w.alloc (.cells #[.pointer (some t)] 108)).alloc (.cells #[.pointer (some ⟨1, 108, none⟩), .pointer (some ⟨w.heap.size, 0, none⟩), .int .u64 150] 132)) (by simp)
  have hg : w.cell? ⟨0, 0, none⟩ = some (.iface 159 (.agg #[.pointer (some ⟨1, 26, none⟩)])) := hg
  have hlt : 0 < w.heap.size := by
    rcases Nat.lt_or_ge 0 w.heap.size with h | h
    · exact h
    · simp [World.cell?, Array.getElem?_eq_none h] at hg
  have hg2 : ((w.alloc (.cells #[.pointer (some t)] 108)).alloc (.cells #[.pointer (some ⟨1, 108, none⟩), .pointer (some ⟨w.heap.size, 0, none⟩), .int .u64 150] 132)).cell? ⟨0, 0, none⟩ = some (.iface 159 (.agg #[.pointer (some ⟨1, 26, none⟩)])) := by
    rw [World.cell?_alloc_lt _ _ ⟨0, 0, none⟩ (Nat.lt_of_lt_of_le hlt (by simp)), World.cell?_alloc_lt _ _ ⟨0, 0, none⟩ hlt]; exact hg
  go_enter Tryz.func59, Tryz.ntmps59
  go_wp2
  refine wp_loop_rounds 1 ?_
  rw [rounds_succ]
  go_wp2
  go_ret
  exact ⟨rfl, rfl⟩
end Go.Proofs.YtdiaejphgcoknaaGreatDoor
