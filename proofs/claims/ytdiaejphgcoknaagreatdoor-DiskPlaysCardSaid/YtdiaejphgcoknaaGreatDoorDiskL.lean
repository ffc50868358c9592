/- disk: List: contract. -/
import Derived.Test.YtdiaejphgcoknaaGreatDoorDiskW
import Derived.Test.YtdiaejphgcoknaaGreatDoorSort
import Derived.Test.YtdiaejphgcoknaaGreatDoorOwn
set_option linter.unusedSimpArgs false
set_option linter.unusedVariables false
namespace Go.Proofs.YtdiaejphgcoknaaGreatDoor
open Go.RowKit Go.Extern.Stop Go.Stop Go.Extern Go.Maps Go.Sort

/-- The names, sorted. -/
def listD (D : DS) : List Bs := (keysN D.names).mergeSort fun x y => decide (x ≤ y)
theorem length_listD (D : DS) : (listD D).length = D.names.length := by simp [listD, keysN]
theorem infoS : (Tryz.prog.info? 9).map (fun i => (i.zero, i.size, i.bytes)) = some (some (.string ⟨#[]⟩), 1, 16) := by kernel_rfl
theorem keysN_le {D : DS} {w : World} {p : Nat} {L : Lay} (h : DP w p L D) : ∀ x ∈ keysN D.names, x.length ≤ maxLen := by
  intro x hx
  exact strKeys_le (show w.ownsMap Tryz.prog 9 (plainElem Tryz.prog 3) L.bn D.names.length (toD D.names) from h.nam) Tryz.underlying9 x (by rw [strKeys_toD]; exact hx)
def ListPost (D : DS) (w : World) (e : Ending) (w' : World) : Prop := ∃ v, e = .returned v ∧ w'.ownsRow w.heap.size 9 1 v D.names.length ((listD D).map encStr) ∧ Below w.heap.size w w'
set_option maxRecDepth 100000 in
set_option maxHeartbeats 1000000 in
theorem list_any (p : Nat) (L : Lay) (D : DS) (T : Nat) (w : World) (h : DP w p L D) (hI : Inv D T) (hT : T ≤ 100000) :
    Calls Tryz.prog 32 #[.pointer (some ⟨p, 0, none⟩)] w (ListPost D w) := by
  have H := Lib.hid h
  have HNM := Lib.hid (show w.ownsMap Tryz.prog 9 (plainElem Tryz.prog 3) L.bn D.names.length (toD D.names) from h.nam)
  have hbl := h.nam.lt
  have hnl : D.names.length ≤ 100000 := by have := hI.nam; omega
  have c2 : w.cell? ⟨p, 2, none⟩ = some (.map (some L.bn)) := h.cell 2
  clear h hI hT
  go_enter Tryz.func32, Tryz.ntmps32
  go_wp2_with (at_range; refine wpList_range_own _ rfl _ 58 rfl 9 3 strK Tryz.underlying58 _ L.bn _ _ rfl HNM.out ?_; intro w0 hrg0 hg0 hs0)
  go_frame
  have HR0 := Lib.hid hrg0
  have hb0 : Below w.heap.size w w0 := ⟨hg0.os, hg0.tape, hg0.output, hg0.size, fun k hk => hg0.block k hk (by simp)⟩
  clear hrg0 hg0 hs0
  go_loopw [3] (fun s wr => ∃ (left : Lit → Bool) (cnt : Nat) (ks : List Bs), wr.ranges Tryz.prog 9 (plainElem Tryz.prog 3) L.bn w.heap.size D.names.length (toD D.names) left cnt ∧ ks.length + cnt ≤ D.names.length ∧ Collected (toD D.names) left ks ∧ wr.ownsRow w.heap.size 9 1 s ks.length (ks.map encStr) ∧ Below w.heap.size w wr)
    (fun _ wr => wr.rangeLeft L.bn w.heap.size)
  case atStart => exact ⟨_, _, [], HR0.out, by simp [toD_size], Collected.start _, World.ownsRow_nil _ _ _ _, hb0⟩
  case round =>
    obtain ⟨left, cnt, ks, hrg, hcs, hC, hrow, hb⟩ := hrel
    have HRG := Lib.hid hrg
    have HC := Lib.hid hC
    obtain ⟨n, hn⟩ : ∃ n, ks.length = n := ⟨_, rfl⟩
    have HN : Hid (ks.length = n) := hn
    rw [hn] at hcs hrow
    obtain ⟨ao, scap, rfl⟩ := rowShape hrow
    have HW := Lib.hid hrow
    have hn2 : n ≤ 100000 := by omega
    clear hrg hC hrow hn
    go_wp2_with (at_next; refine wpList_next_ranges _ rfl _ rfl 9 strK (plainElem Tryz.prog 3) Go.Proofs.encStr (Value.int .i64) (fun key kl hk => by obtain ⟨x, hx, _⟩ := Maps.keyOf_str Tryz.underlying9 hk; exact ⟨x, hx⟩) (fun v y hv => by obtain ⟨c, rfl, _⟩ := plainElem_int_inv Tryz.underlying3 hv; exact ⟨c, rfl⟩) L.bn w.heap.size _ _ _ _ rfl HRG.out ?_ ?_)
    · intro hc0 hl0
      have hp := HC.out.perm HNM.out strK Tryz.underlying9 hl0
      rw [strKeys_toD] at hp
      have HL : Hid (ks.mergeSort (fun x y => decide (x ≤ y)) = listD D) := mergeSort_of_perm hp
      have HLN : Hid (n = D.names.length) := by show _ = _; rw [← HN.out, hp.length_eq]; simp [keysN]
      have hrow := HW.out
      rw [← HN.out] at hrow
      rcases hrow.2 with ⟨hnil, h0⟩ | ⟨g, cap, cur, hv, hbase, hbk, h1, h2, h3, h4⟩
      · obtain ⟨rfl, e2, rfl⟩ := Value.slice.inj hnil
        have hk0 : ks = [] := List.length_eq_zero_iff.1 h0
        obtain rfl : n = 0 := by rw [← HN.out, hk0]; rfl
        clear hp hrow hl0 hc0 hnil h0 e2
        go_wp2_with (go_at_call 58; refine (Tryz.sort_string_none none 0 _).mono ?_; rintro e w' ⟨rfl, rfl⟩)
        go_returns
        refine ⟨.slice none 0 0, rfl, ?_, hb⟩
        rw [← HL.out, hk0, ← HLN.out]
        exact (show _ from by rw [List.mergeSort_nil]; exact World.ownsRow_nil _ _ _ _)
      · obtain ⟨rfl, -, rfl⟩ := Value.slice.inj hv
        have HH : Hid (Holds encStr wr g 0 ks.toArray) := holds_of_block hbk (by simpa using h4)
        have hgl : g < wr.heap.size := (Array.getElem?_eq_some_iff.1 hbk).1
        have HBK := Lib.hid hbk
        have HRS : Hid (∀ (nn : Nat) (os : Array Obj), (grow (putRow encStr (Sort.ahead wr nn) g 0 (listD D).toArray) os).ownsRow w.heap.size 9 1 (.slice (some ⟨g, 0, none⟩) n scap) n ((listD D).map encStr)) := fun nn os => by have := ownsRow_sorted (n := nn) (os := os) (ts := ks.mergeSort fun x y => decide (x ≤ y)) (ss := ks) (by simp) hbase hbk h1 h2 h3; rw [HL.out, HN.out] at this; exact this
        have HSL : Hid (ks.length < 4611686018427387904) := by show _ < _; rw [HN.out]; omega
        clear hp hrow hl0 hc0 hbk hv h4 h3 h2 h1
        have HC8 : Hid (Calls Tryz.prog 58 #[.slice (some ⟨g, 0, none⟩) n scap] wr fun e w' => e = .returned (.tuple #[]) ∧ ∃ nn os, w' = grow (putRow encStr (Sort.ahead wr nn) g 0 (listD D).toArray) os) := by
          have := Tryz.sort_string g 0 scap ks wr HH.out hgl HSL.out
          rw [HL.out, HN.out] at this
          exact this
        go_wp2_with (go_at_call 58; refine HC8.out.mono ?_; rintro e w' ⟨rfl, nn, os, rfl⟩)
        go_returns
        refine ⟨.slice (some ⟨g, 0, none⟩) n scap, rfl, ?_, hb.grown (grownBy_sorted _) hb.size (fun j hj => by cases hj; exact hbase)⟩
        rw [← HLN.out]
        exact HRS.out nn os
    · intro x c kl yd yp w2 cnt2 hkey hlk hv hat hrg2 hlt hg2 hs2 hen
      obtain ⟨x', ex, rfl, _⟩ := Maps.keyOf_str Tryz.underlying9 hkey
      obtain rfl : x = x' := encStr_inj ex
      have HRW2 : Hid (w2.ownsRow w.heap.size 9 1 (.slice ao n scap) n (ks.map encStr)) := by
        have := HW.out.kept hg2 (Or.inr (row_ne_iter HW.out HRG.out).symm)
        exact this
      have hb2 : Below w.heap.size w w2 := hb.grown hg2 hb.size (fun j hj => by cases hj; exact Nat.le_refl _)
      have HC2 := Lib.hid (HC.out.step hlk hat)
      have HR2 := Lib.hid hrg2
      have HLT := Lib.hid hlt
      clear hkey hlk hv hat hrg2 hlt hg2 hs2 ex
      go_wp2_with (at_builtin; refine wpList_row1 74 9 1 16 _ Tryz.underlying74 infoS rfl (by decide) rfl _ _ rfl w.heap.size (.slice ao n scap) n (ks.map encStr) [encStr x] rfl HRW2.out rfl rfl rfl (by intro u hu; simp at hu; subst hu; rfl) (by omega) (by decide) hb2.size ?_; intro v' w3 hown3 hb3 hg3 _; go_frame)
      have HR3 := Lib.hid (HR2.out.kept hg3 (row_ne_low HRW2.out hbl) (row_ne_iter HRW2.out HR2.out))
      go_roundw
      case rel => exact ⟨_, cnt2, ks ++ [x], HR3.out, by rw [List.length_append, List.length_singleton]; have := HLT.out; have := HN.out; omega, HC2.out, by rw [List.length_append, List.length_singleton, HN.out]; simpa using hown3, hb2.trans hb3⟩
      case measure => rw [HR3.out.left_eq, HRG.out.left_eq]; exact HLT.out
end Go.Proofs.YtdiaejphgcoknaaGreatDoor
