/- kinref.Bytes, kinref.Files (the same ones), kinlaw5.Few: contracts. -/
import Derived.Test.YtdiaejphgcoknaaGreatDoorDiskAb
import Derived.Test.YtdiaejphgcoknaaGreatDoorDiskN
import Derived.Laws.BytesArg
set_option linter.unusedSimpArgs false
set_option linter.unusedVariables false
namespace Go.Proofs.YtdiaejphgcoknaaGreatDoor
open Go.RowKit

theorem strOf_bytes (b : Bs) : strOfNums (b.map fun x => (x.toNat : Int)) = ⟨b.toArray⟩ := by
  unfold strOfNums
  rw [List.map_map]
  congr 1
  congr 1
  conv => rhs; rw [← List.map_id b]
  refine List.map_congr_left fun x _ => ?_
  simp
theorem convert_zero (w : World) (p : Option Addr) (c : Nat) : (convert 31 9 (.slice p 0 c)).run Tryz.prog w = .ok (.string ByteArray.empty) w := by
  rw [run_convert_bytes_string w 31 9 5 _ 0 c Tryz.underlying31 Tryz.underlying5 Tryz.underlying9]
  cases p <;> simp [Conv.bytesToString, loadCells]
  all_goals rfl
theorem BytesV.str {w : World} {v : Value} {b : Bs} (h : BytesV w v b) : (convert 31 9 v).run Tryz.prog w = .ok (.string ⟨b.toArray⟩) w := by
  obtain ⟨ao, cap, rfl, h1, h2, h3, h4⟩ := h
  cases ao with
  | none =>
    have : b = [] := by
      have := h3 rfl
      exact List.length_eq_zero_iff.1 (by omega)
    subst this
    exact run_convert_bytes_nil w 31 5 Tryz.underlying31 Tryz.underlying5 _ _ 9 Tryz.underlying9
  | some ad =>
    rcases Nat.eq_zero_or_pos b.length with h0 | h0
    · have : b = [] := List.length_eq_zero_iff.1 h0
      subst this
      exact convert_zero w (some ad) cap
    · obtain ⟨k, off, e, _⟩ := h4 0 h0
      obtain rfl := Option.some.inj e
      rw [← strOf_bytes b]
      refine run_convert_bytes_arg w 31 5 Tryz.underlying31 Tryz.underlying5 k off b.length cap (b.map fun x => (x.toNat : Int)) (by simp) (fun i hi => ?_) 9 Tryz.underlying9
      obtain ⟨k', off', e', hc⟩ := h4 i hi
      obtain ⟨rfl, rfl, -⟩ := Addr.mk.inj (Option.some.inj e')
      rw [hc]
      simp [List.getD, hi]

set_option maxRecDepth 100000 in
theorem rbytes_any (v u : Value) (a b : Bs) (w : World) (hv : BytesV w v a) (hu : BytesV w u b) :
    Calls Tryz.prog 33 #[v, u] w fun e w' => e = .returned (.bool (a == b)) ∧ w = w' := by
  have q1 := hv.str
  have q2 := hu.str
  clear hv hu
  by_cases h : a = b
  · subst h
    have e : (a == a) = true := by simp
    rw [e]
    clear e
    go_enter Tryz.func33, Tryz.ntmps33
    go_wp2
    go_returns
    exact ⟨by simp, rfl⟩
  · have e : (a == b) = false := by simpa using h
    rw [e]
    have H2 : Hid (¬ a = b) := h
    clear e h
    go_enter Tryz.func33, Tryz.ntmps33
    go_wp2
    go_returns
    exact ⟨by simp; exact H2.out, rfl⟩
theorem bytes_of_rowB {w : World} {B : Nat} {v : Value} {b : Bs} (h : w.ownsRow B 5 1 v b.length (bcells b)) : BytesV w v b := bytes_of_row (row_mono h (Nat.zero_le _))
set_option maxRecDepth 100000 in
set_option maxHeartbeats 1000000 in
theorem rfiles_same (v u : Value) (fs : List FV) (B B2 : Nat) (w : World) (hv : OwnFs w B v fs) (hu : OwnFs w B2 u fs) (hl : fs.length ≤ 1000000) :
    Calls Tryz.prog 12 #[v, u] w fun e w' => e = .returned (.bool true) ∧ Below w.heap.size w w' := by
  have HV := Lib.hid hv
  have HU := Lib.hid hu
  obtain ⟨n, hnn⟩ : ∃ n, fs.length = n := ⟨_, rfl⟩
  obtain ⟨ao, cap, rfl⟩ := hv.shapeN hnn
  obtain ⟨bo, bcap, rfl⟩ := hu.shapeN hnn
  have LN := Lib.hid hnn
  rw [hnn] at hl
  have qn : ((n : Int) != (n : Int)) = false := by simp
  clear hv hu hnn
  go_enter Tryz.func12, Tryz.ntmps12
  go_wp2
  go_loopw [5] (fun i wr => ∃ k : Nat, k ≤ n ∧ i = .int .i64 k ∧ Below w.heap.size w wr) (fun i _ => n - (intOf i).toNat)
  case atStart => exact ⟨0, Nat.zero_le _, rfl, Below.refl _ _⟩
  case round =>
    obtain ⟨k, hk, rfl, hb⟩ := hrel
    by_cases hlt : k < n
    · obtain ⟨b, po, rfl, lb, c0, c1, c2, fv⟩ := (HV.out.ext hb).cellAt (j := k) (by rw [LN.out]; exact hlt)
      obtain ⟨b2, po2, rfl, lb2, d0, d1, d2, fu⟩ := (HU.out.ext hb).cellAt (j := k) (by rw [LN.out]; exact hlt)
      have HFV := Lib.hid (bytes_of_rowB fv)
      have HFU := Lib.hid (bytes_of_rowB fu)
      clear fv fu
      generalize fs.getD k FV.nought = f at *
      obtain ⟨nm, dt, sf⟩ := f
      simp only at c0 c1 c2 d0 d1 d2 HFV HFU
      have CB := Lib.hid (fun (wx : World) (hx : Below wr.heap.size wr wx) => rbytes_any po po2 dt dt wx (HFV.out.ext hx) (HFU.out.ext hx))
      have qd : (dt == dt) = true := by simp
      rw [qd] at CB
      have qs : ((sf : Int) != (sf : Int)) = false := by simp
      have S6 := Lib.hid (show wr.cell? ⟨b, k * 3, none⟩ = some (.string ⟨nm.toArray⟩) ∧ wr.cell? ⟨b, k * 3 + 1, none⟩ = some po ∧ wr.cell? ⟨b, k * 3 + 2, none⟩ = some (.int .i64 (sf : Int)) ∧ wr.cell? ⟨b2, k * 3, none⟩ = some (.string ⟨nm.toArray⟩) ∧ wr.cell? ⟨b2, k * 3 + 1, none⟩ = some po2 ∧ wr.cell? ⟨b2, k * 3 + 2, none⟩ = some (.int .i64 (sf : Int)) from ⟨c0, c1, c2, d0, d1, d2⟩)
      go_wp2
      go_region_held3 (fun w' => w'.cell? ⟨b, k * 3, none⟩ = some (.string ⟨nm.toArray⟩) ∧ w'.cell? ⟨b, k * 3 + 1, none⟩ = some po ∧ w'.cell? ⟨b, k * 3 + 2, none⟩ = some (.int .i64 (sf : Int)) ∧ w'.cell? ⟨b2, k * 3, none⟩ = some (.string ⟨nm.toArray⟩) ∧ w'.cell? ⟨b2, k * 3 + 1, none⟩ = some po2 ∧ w'.cell? ⟨b2, k * 3 + 2, none⟩ = some (.int .i64 (sf : Int)))
        (first | with_reducible exact S6.out | go_keep)
        (first | (go_at_call 33; refine (CB.out _ (by go_grown)).mono ?_; rintro e w5 ⟨rfl, rfl⟩))
      clear c0 c1 c2 d0 d1 d2
      go_wp2
      go_roundw
      case rel => exact ⟨k + 1, by omega, by go_num, by first | exact hb | exact hb.drew | exact below_drewN' hb _⟩
      case measure => simp [intOf]; omega
    · go_wp2
      go_returns
      exact ⟨rfl, hb⟩
end Go.Proofs.YtdiaejphgcoknaaGreatDoor
