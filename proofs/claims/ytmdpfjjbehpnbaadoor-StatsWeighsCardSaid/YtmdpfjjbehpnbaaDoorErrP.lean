/- errors.As at an error that came through one place (a pointer to a fault over a code), fault.Of, fault.Path, kinref.In, kinsame.Err there: contracts. -/
import Derived.Test.YtmdpfjjbehpnbaaDoorSame
import Derived.Test.YtmdpfjjbehpnbaaDoorOwn
set_option linter.unusedSimpArgs false
set_option linter.unusedVariables false
namespace Go.Proofs.YtmdpfjjbehpnbaaDoor
open Go.RowKit Go.Extern.Stop Go.Stop Go.Extern

/-- A fault's cells: where, the place, the code that came. -/
def fltC (s : Array UInt8) (i : Int) (k : Int) : Array Value := #[.string ⟨s⟩, .int .i64 i, .iface 32 (.int .i64 k)]
theorem P.lacksAs (v : Value) (w : World) : (Instr.typeAssert (.iface 84 v) 29 109 true).run Tryd.prog w = .ok (.tuple #[.nilIface, .bool false]) w :=
  run_typeAssert_lacksB Tryd.underlying109 (by kernel_rfl) (by kernel_rfl) _ _ w
theorem P.hasUnwrap (v : Value) (w : World) : (Instr.typeAssert (.iface 84 v) 29 112 true).run Tryd.prog w = .ok (.tuple #[.iface 84 v, .bool true]) w :=
  run_typeAssert_hasB Tryd.underlying112 (by kernel_rfl) _ _ w
theorem P.typeOf (v : Value) (w : World) : (ReflectliteType.typeOf #[.iface 84 v]).run Tryd.prog w = .ok (.iface 104 (.agg #[.pointer (some ⟨1, 84, none⟩)])) w := by kernel_rfl
theorem P.assignableC (w : World) : (ReflectliteType.relation "AssignableTo" ReflectliteType.assignableTo #[.agg #[.pointer (some ⟨1, 84, none⟩)], .iface 104 (.agg #[.pointer (some ⟨1, 32, none⟩)])]).run Tryd.prog w = .ok (.bool false) w := by kernel_rfl
theorem P.assignableF (w : World) : (ReflectliteType.relation "AssignableTo" ReflectliteType.assignableTo #[.agg #[.pointer (some ⟨1, 84, none⟩)], .iface 104 (.agg #[.pointer (some ⟨1, 84, none⟩)])]).run Tryd.prog w = .ok (.bool true) w := by kernel_rfl
theorem P.unwrap (v : Value) (w : World) : (Go.method 247 84 v "Unwrap").run Tryd.prog w = .ok (86, v) w := by kernel_rfl
theorem P.valueOf (p : Addr) (w : World) : (ReflectliteValue.unpack (.iface 84 (.pointer (some p)))).run Tryd.prog w
    = .ok (.agg #[.pointer (some ⟨1, 84, none⟩), .pointer (some ⟨w.heap.size, 0, none⟩), .int .u64 150]) (w.alloc (.cells #[.pointer (some p)] 84)) := by kernel_rfl
theorem P.elemOf (w : World) : (Rtype.elem? 85).run Tryd.prog w = .ok (some 84) w := by kernel_rfl
theorem P.mk (p : Addr) (w : World) : (ReflectliteValue.mk 84 p ReflectliteValue.flagAddr).run Tryd.prog w = .ok (.agg #[.pointer (some ⟨1, 84, none⟩), .pointer (some p), .int .u64 406]) w := by kernel_rfl
theorem P.elemV (a p : Addr) (W : World) (ha : W.cell? a = some (.pointer (some p))) :
    (ReflectliteValue.method (ReflectliteValue.valueError "reflectlite.Value.Elem" 0) ReflectliteValue.elem #[.agg #[.pointer (some ⟨1, 85, none⟩), .pointer (some a), .int .u64 150]]).run Tryd.prog W
      = .ok (.agg #[.pointer (some ⟨1, 84, none⟩), .pointer (some p), .int .u64 406]) W := by
  rw [rlm]
  simp only [Sem.run_bind, F.parts, Result.andThen]
  simp [ReflectliteValue.elem, loadVar, isAgg, underlying, Tryd.underlying85, ha, Result.andThen, P.elemOf, P.mk]
theorem P.partsA (a : Addr) (w : World) : (ReflectliteValue.parts (.agg #[.pointer (some ⟨1, 84, none⟩), .pointer (some a), .int .u64 406])).run Tryd.prog w = .ok (some (84, a, 406)) w := by kernel_rfl
theorem P.partsB (a : Addr) (w : World) : (ReflectliteValue.parts (.agg #[.pointer (some ⟨1, 84, none⟩), .pointer (some a), .int .u64 150])).run Tryd.prog w = .ok (some (84, a, 150)) w := by kernel_rfl
theorem P.direct (w : World) : (Rtype.directlyAssignable 84 84).run Tryd.prog w = .ok true w := by kernel_rfl
theorem P.set (ta b q : Addr) (old : Value) (W : World) (hb : W.cell? b = some (.pointer (some q))) (ht : W.cell? ta = some old) (hf : W.frozen? ta = false) :
    (ReflectliteValue.set #[.agg #[.pointer (some ⟨1, 84, none⟩), .pointer (some ta), .int .u64 406], .agg #[.pointer (some ⟨1, 84, none⟩), .pointer (some b), .int .u64 150]]).run Tryd.prog W
      = .ok (.tuple #[]) (W.setCell ta (.pointer (some q))) := by
  rw [rls]
  simp only [Sem.run_bind, P.partsA, P.partsB, Result.andThen]
  simp [ReflectliteValue.flagAddr, loadVar, isAgg, underlying, Tryd.underlying84, hb, Result.andThen, P.direct, storeVar, Value.cells, storeCells, Addr.add]
  rw [run_store Tryd.prog W ta _ _ (by rfl)]
  simp [ht, hf]

theorem unwrap_any (b : Nat) (k : Int) (w : World) (h : w.cell? ⟨b, 2, none⟩ = some (.iface 32 (.int .i64 k))) :
    Calls Tryd.prog 86 #[.pointer (some ⟨b, 0, none⟩)] w fun e w' => e = .returned (.iface 32 (.int .i64 k)) ∧ w = w' := by
  go_enter Tryd.func86, Tryd.ntmps86
  go_wp2
  go_ret
  exact ⟨rfl, rfl⟩

set_option maxHeartbeats 8000000 in
theorem as_pcode (b : Nat) (k : Int) (t : Addr) (old : Value) (w : World) (hg : TypeIs w) (ht0 : w.cell? t = some old) (hf0 : w.frozen? t = false) (hc0 : w.cell? ⟨b, 2, none⟩ = some (.iface 32 (.int .i64 k))) :
    Calls Tryd.prog 52 #[.iface 84 (.pointer (some ⟨b, 0, none⟩)), .iface 83 (.pointer (some t))] w fun ev w' => ev = .returned (.bool true) ∧ ((((w.alloc (.cells #[.pointer (some t)] 83)).alloc (.cells #[.pointer (some ⟨1, 83, none⟩), .pointer (some ⟨w.heap.size, 0, none⟩), .int .u64 150] 93)).alloc (.cells #[.pointer (some ⟨1, 83, none⟩), .pointer (some ⟨w.heap.size, 0, none⟩), .int .u64 150] 93)).alloc (.cells #[.int .i64 k] 32)).setCell t (.int .i64 k) = w' := by
  have h6 := @run_callFunc_extern Tryd.prog 59 _ (fun args => ReflectliteValue.unpack (args.getD 0 (.tuple #[]))) Tryd.func59 (by kernel_rfl) (by kernel_rfl) (by kernel_rfl) (by kernel_rfl)
  have h7 := @run_callFunc_extern Tryd.prog 60 _ (ReflectliteValue.methodAny (ReflectliteValue.valueError "reflectlite.Value.Type" 0) (fun t _ _ _ => ReflectliteType.toType t)) Tryd.func60 (by kernel_rfl) (by kernel_rfl) (by kernel_rfl) (by kernel_rfl)
  have h8 := @run_callFunc_extern Tryd.prog 61 _ (ReflectliteValue.method (ReflectliteValue.valueError "reflectlite.Value.IsNil" 0) ReflectliteValue.isNil) Tryd.func61 (by kernel_rfl) (by kernel_rfl) (by kernel_rfl) (by kernel_rfl)
  have h27 := @run_callFunc_extern Tryd.prog 81 _ (ReflectliteType.abiMethod fun t => do pure (.int .u8 (← Rtype.kind t))) Tryd.func81 (by kernel_rfl) (by kernel_rfl) (by kernel_rfl) (by kernel_rfl)
  have h37 := @run_callFunc_extern Tryd.prog 93 _ (ReflectliteType.method ReflectliteType.elem) Tryd.func93 (by kernel_rfl) (by kernel_rfl) (by kernel_rfl) (by kernel_rfl)
  have h38 := @run_callFunc_extern Tryd.prog 94 _ (ReflectliteType.relation "Implements" ReflectliteType.implements_) Tryd.func94 (by kernel_rfl) (by kernel_rfl) (by kernel_rfl) (by kernel_rfl)
  have h10 := @run_callFunc_extern Tryd.prog 64 _ ReflectliteType.typeOf Tryd.func64 (by kernel_rfl) (by kernel_rfl) (by kernel_rfl) (by kernel_rfl)
  have h35 := @run_callFunc_extern Tryd.prog 91 _ (ReflectliteType.relation "AssignableTo" ReflectliteType.assignableTo) Tryd.func91 (by kernel_rfl) (by kernel_rfl) (by kernel_rfl) (by kernel_rfl)
  have h11 := @run_callFunc_extern Tryd.prog 65 _ (ReflectliteValue.method (ReflectliteValue.valueError "reflectlite.Value.Elem" 0) ReflectliteValue.elem) Tryd.func65 (by kernel_rfl) (by kernel_rfl) (by kernel_rfl) (by kernel_rfl)
  have h12 := @run_callFunc_extern Tryd.prog 66 _ ReflectliteValue.set Tryd.func66 (by kernel_rfl) (by kernel_rfl) (by kernel_rfl) (by kernel_rfl)
  have tO := C.typeOf
  have tP := P.typeOf
  have mA := R.methodAssignableTo
  have mU := P.unwrap
  have a25 := C.assignable
  have aP := P.assignableC
  have v25 := C.valueOfC
  have f6 := C.valueOf
  have f7 := C.type
  have mK := R.methodKind
  have mE := R.methodElem
  have mI := R.methodImplements
  have k27 := C.kindP
  have k25 := C.kind
  have e27 := C.elem
  have i25 := C.implements
  have l1 := P.lacksAs
  have l2 := P.hasUnwrap
  have n8 := C.isNil ⟨w.heap.size, 0, none⟩ t ((w.alloc (.cells #[.pointer (some t)] 83)).alloc (.cells #[.pointer (some ⟨1, 83, none⟩), .pointer (some ⟨w.heap.size, 0, none⟩), .int .u64 150] 93)) (by simp)
  have hg : w.cell? ⟨0, 0, none⟩ = some (.iface 104 (.agg #[.pointer (some ⟨1, 29, none⟩)])) := hg
  have hlt : 0 < w.heap.size := by
    rcases Nat.lt_or_ge 0 w.heap.size with h | h
    · exact h
    · simp [World.cell?, Array.getElem?_eq_none h] at hg
  have hg2 : ((w.alloc (.cells #[.pointer (some t)] 83)).alloc (.cells #[.pointer (some ⟨1, 83, none⟩), .pointer (some ⟨w.heap.size, 0, none⟩), .int .u64 150] 93)).cell? ⟨0, 0, none⟩ = some (.iface 104 (.agg #[.pointer (some ⟨1, 29, none⟩)])) := by
    rw [World.cell?_alloc_lt _ _ ⟨0, 0, none⟩ (Nat.lt_of_lt_of_le hlt (by simp)), World.cell?_alloc_lt _ _ ⟨0, 0, none⟩ hlt]; exact hg
  have htl : t.block < w.heap.size := by
    rcases Nat.lt_or_ge t.block w.heap.size with h | h
    · exact h
    · simp [World.cell?, Array.getElem?_eq_none h] at ht0
  have hbl : b < w.heap.size := World.block_lt_of_cell? w _ hc0
  have hc1 : (((w.alloc (.cells #[.pointer (some t)] 83)).alloc (.cells #[.pointer (some ⟨1, 83, none⟩), .pointer (some ⟨w.heap.size, 0, none⟩), .int .u64 150] 93)).alloc (.cells #[.pointer (some ⟨1, 83, none⟩), .pointer (some ⟨w.heap.size, 0, none⟩), .int .u64 150] 93)).cell? ⟨b, 2, none⟩ = some (.iface 32 (.int .i64 k)) := by
    rw [World.cell?_alloc_lt _ _ ⟨b, 2, none⟩ (Nat.lt_of_lt_of_le hbl (by simp; omega)), World.cell?_alloc_lt _ _ ⟨b, 2, none⟩ (Nat.lt_of_lt_of_le hbl (by simp)), World.cell?_alloc_lt _ _ ⟨b, 2, none⟩ hbl]; exact hc0
  have el := C.elemV ⟨w.heap.size, 0, none⟩ t (((w.alloc (.cells #[.pointer (some t)] 83)).alloc (.cells #[.pointer (some ⟨1, 83, none⟩), .pointer (some ⟨w.heap.size, 0, none⟩), .int .u64 150] 93)).alloc (.cells #[.pointer (some ⟨1, 83, none⟩), .pointer (some ⟨w.heap.size, 0, none⟩), .int .u64 150] 93)) (by rw [World.cell?_alloc_lt _ _ ⟨w.heap.size, 0, none⟩ (by simp; omega)]; simp)
  have st := C.set t ⟨w.heap.size + 1 + 1 + 1, 0, none⟩ k old ((((w.alloc (.cells #[.pointer (some t)] 83)).alloc (.cells #[.pointer (some ⟨1, 83, none⟩), .pointer (some ⟨w.heap.size, 0, none⟩), .int .u64 150] 93)).alloc (.cells #[.pointer (some ⟨1, 83, none⟩), .pointer (some ⟨w.heap.size, 0, none⟩), .int .u64 150] 93)).alloc (.cells #[.int .i64 k] 32))
    (by rw [World.cell?_alloc_at _ _ _ _ (by simp)]; rfl)
    (by rw [World.cell?_alloc_lt _ _ t (by simp; omega), World.cell?_alloc_lt _ _ t (by simp; omega), World.cell?_alloc_lt _ _ t (by simp; omega), World.cell?_alloc_lt _ _ t htl]; exact ht0)
    (by rw [World.frozen?_alloc_old _ _ t (by simp; omega), World.frozen?_alloc_old _ _ t (by simp; omega), World.frozen?_alloc_old _ _ t (by simp; omega), World.frozen?_alloc_old _ _ t (Nat.ne_of_lt htl)]; exact hf0)
  go_enter Tryd.func52, Tryd.ntmps52
  go_wp2
  refine wp_loop_rounds 2 ?_
  rw [rounds_succ]
  go_wp2_with (go_at_call 86; refine (unwrap_any b k _ hc1).mono ?_; rintro e w' ⟨rfl, rfl⟩)
  rw [rounds_succ]
  go_wp2
  go_ret
  exact ⟨rfl, rfl⟩

set_option maxHeartbeats 8000000 in
theorem as_pfault (b : Nat) (t : Addr) (old : Value) (w : World) (hg : TypeIs w) (ht0 : w.cell? t = some old) (hf0 : w.frozen? t = false) :
    Calls Tryd.prog 52 #[.iface 84 (.pointer (some ⟨b, 0, none⟩)), .iface 85 (.pointer (some t))] w fun ev w' => ev = .returned (.bool true) ∧ ((((w.alloc (.cells #[.pointer (some t)] 85)).alloc (.cells #[.pointer (some ⟨1, 85, none⟩), .pointer (some ⟨w.heap.size, 0, none⟩), .int .u64 150] 93)).alloc (.cells #[.pointer (some ⟨1, 85, none⟩), .pointer (some ⟨w.heap.size, 0, none⟩), .int .u64 150] 93)).alloc (.cells #[.pointer (some ⟨b, 0, none⟩)] 84)).setCell t (.pointer (some ⟨b, 0, none⟩)) = w' := by
  have h6 := @run_callFunc_extern Tryd.prog 59 _ (fun args => ReflectliteValue.unpack (args.getD 0 (.tuple #[]))) Tryd.func59 (by kernel_rfl) (by kernel_rfl) (by kernel_rfl) (by kernel_rfl)
  have h7 := @run_callFunc_extern Tryd.prog 60 _ (ReflectliteValue.methodAny (ReflectliteValue.valueError "reflectlite.Value.Type" 0) (fun t _ _ _ => ReflectliteType.toType t)) Tryd.func60 (by kernel_rfl) (by kernel_rfl) (by kernel_rfl) (by kernel_rfl)
  have h8 := @run_callFunc_extern Tryd.prog 61 _ (ReflectliteValue.method (ReflectliteValue.valueError "reflectlite.Value.IsNil" 0) ReflectliteValue.isNil) Tryd.func61 (by kernel_rfl) (by kernel_rfl) (by kernel_rfl) (by kernel_rfl)
  have h27 := @run_callFunc_extern Tryd.prog 81 _ (ReflectliteType.abiMethod fun t => do pure (.int .u8 (← Rtype.kind t))) Tryd.func81 (by kernel_rfl) (by kernel_rfl) (by kernel_rfl) (by kernel_rfl)
  have h37 := @run_callFunc_extern Tryd.prog 93 _ (ReflectliteType.method ReflectliteType.elem) Tryd.func93 (by kernel_rfl) (by kernel_rfl) (by kernel_rfl) (by kernel_rfl)
  have h38 := @run_callFunc_extern Tryd.prog 94 _ (ReflectliteType.relation "Implements" ReflectliteType.implements_) Tryd.func94 (by kernel_rfl) (by kernel_rfl) (by kernel_rfl) (by kernel_rfl)
  have h10 := @run_callFunc_extern Tryd.prog 64 _ ReflectliteType.typeOf Tryd.func64 (by kernel_rfl) (by kernel_rfl) (by kernel_rfl) (by kernel_rfl)
  have h35 := @run_callFunc_extern Tryd.prog 91 _ (ReflectliteType.relation "AssignableTo" ReflectliteType.assignableTo) Tryd.func91 (by kernel_rfl) (by kernel_rfl) (by kernel_rfl) (by kernel_rfl)
  have h11 := @run_callFunc_extern Tryd.prog 65 _ (ReflectliteValue.method (ReflectliteValue.valueError "reflectlite.Value.Elem" 0) ReflectliteValue.elem) Tryd.func65 (by kernel_rfl) (by kernel_rfl) (by kernel_rfl) (by kernel_rfl)
  have h12 := @run_callFunc_extern Tryd.prog 66 _ ReflectliteValue.set Tryd.func66 (by kernel_rfl) (by kernel_rfl) (by kernel_rfl) (by kernel_rfl)
  have tP := P.typeOf
  have mA := R.methodAssignableTo
  have aP := P.assignableF
  have vP := P.valueOf
  have f6 := F.valueOf
  have f7 := F.type
  have mK := R.methodKind
  have mE := R.methodElem
  have mI := R.methodImplements
  have k27 := F.kindP
  have k25 := F.kind
  have e27 := F.elem
  have i25 := F.implements
  have n8 := F.isNil ⟨w.heap.size, 0, none⟩ t ((w.alloc (.cells #[.pointer (some t)] 85)).alloc (.cells #[.pointer (some ⟨1, 85, none⟩), .pointer (some ⟨w.heap.size, 0, none⟩), .int .u64 150] 93)) (by simp)
  have hg : w.cell? ⟨0, 0, none⟩ = some (.iface 104 (.agg #[.pointer (some ⟨1, 29, none⟩)])) := hg
  have hlt : 0 < w.heap.size := by
    rcases Nat.lt_or_ge 0 w.heap.size with h | h
    · exact h
    · simp [World.cell?, Array.getElem?_eq_none h] at hg
  have hg2 : ((w.alloc (.cells #[.pointer (some t)] 85)).alloc (.cells #[.pointer (some ⟨1, 85, none⟩), .pointer (some ⟨w.heap.size, 0, none⟩), .int .u64 150] 93)).cell? ⟨0, 0, none⟩ = some (.iface 104 (.agg #[.pointer (some ⟨1, 29, none⟩)])) := by
    rw [World.cell?_alloc_lt _ _ ⟨0, 0, none⟩ (Nat.lt_of_lt_of_le hlt (by simp)), World.cell?_alloc_lt _ _ ⟨0, 0, none⟩ hlt]; exact hg
  have htl : t.block < w.heap.size := by
    rcases Nat.lt_or_ge t.block w.heap.size with h | h
    · exact h
    · simp [World.cell?, Array.getElem?_eq_none h] at ht0
  have el := P.elemV ⟨w.heap.size, 0, none⟩ t (((w.alloc (.cells #[.pointer (some t)] 85)).alloc (.cells #[.pointer (some ⟨1, 85, none⟩), .pointer (some ⟨w.heap.size, 0, none⟩), .int .u64 150] 93)).alloc (.cells #[.pointer (some ⟨1, 85, none⟩), .pointer (some ⟨w.heap.size, 0, none⟩), .int .u64 150] 93)) (by rw [World.cell?_alloc_lt _ _ ⟨w.heap.size, 0, none⟩ (by simp; omega)]; simp)
  have st := P.set t ⟨w.heap.size + 1 + 1 + 1, 0, none⟩ ⟨b, 0, none⟩ old ((((w.alloc (.cells #[.pointer (some t)] 85)).alloc (.cells #[.pointer (some ⟨1, 85, none⟩), .pointer (some ⟨w.heap.size, 0, none⟩), .int .u64 150] 93)).alloc (.cells #[.pointer (some ⟨1, 85, none⟩), .pointer (some ⟨w.heap.size, 0, none⟩), .int .u64 150] 93)).alloc (.cells #[.pointer (some ⟨b, 0, none⟩)] 84))
    (by rw [World.cell?_alloc_at _ _ _ _ (by simp)]; rfl)
    (by rw [World.cell?_alloc_lt _ _ t (by simp; omega), World.cell?_alloc_lt _ _ t (by simp; omega), World.cell?_alloc_lt _ _ t (by simp; omega), World.cell?_alloc_lt _ _ t htl]; exact ht0)
    (by rw [World.frozen?_alloc_old _ _ t (by simp; omega), World.frozen?_alloc_old _ _ t (by simp; omega), World.frozen?_alloc_old _ _ t (by simp; omega), World.frozen?_alloc_old _ _ t (Nat.ne_of_lt htl)]; exact hf0)
  go_enter Tryd.func52, Tryd.ntmps52
  go_wp2
  refine wp_loop_rounds 1 ?_
  rw [rounds_succ]
  go_wp2
  go_ret
  exact ⟨rfl, rfl⟩
end Go.Proofs.YtmdpfjjbehpnbaaDoor
