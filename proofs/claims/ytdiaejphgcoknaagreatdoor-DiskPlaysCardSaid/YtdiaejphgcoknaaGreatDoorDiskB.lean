/- disk: act, does: contracts. -/
import Derived.Test.YtdiaejphgcoknaaGreatDoorDiskA
set_option linter.unusedSimpArgs false
set_option linter.unusedVariables false
namespace Go.Proofs.YtdiaejphgcoknaaGreatDoor
open Go.RowKit Go.Extern.Stop Go.Stop Go.Extern

def stepV (s : Stp) : Value := .agg #[.int .i64 (s.kind : Int), .string ⟨s.name.toArray⟩, .string ⟨s.to.toArray⟩, .int .i64 (s.file : Int)]
def Stp.fit (s : Stp) : Prop := s.name.length ≤ maxLen ∧ s.to.length ≤ maxLen ∧ s.file ≤ 9223372036854775807
theorem elemN {v : Nat} (h : v ≤ 9223372036854775807) : plainElem (H := Unit) Tryz.prog 3 (.int .i64 (v : Int)) = some (.lit (.int .i64 (v : Int)), []) := plainElem_int Tryz.underlying3 (wfN h)
/-- What a new block's making does not touch. -/
theorem grown_under {w w' : World} {o : Obj} {row : Option Nat} (h : (w.alloc o).grownBy w' row) : w.grownBy w' row :=
  ⟨h.os, h.tape, h.output, by have := h.size; simp at this; omega, fun k hk hne => (h.block k (by simp; omega) hne).trans (heap_alloc_old w _ hk)⟩
theorem act_make (m : NM) (b : Nat) (n t : Bs) (f : Nat) (w : World) (h : NamesAt w b m) (hs : (⟨0, n, t, f⟩ : Stp).fit) (hm : m.length ≤ 1000000) :
    Calls Tryz.prog 42 #[.map (some b), stepV ⟨0, n, t, f⟩] w fun e w' => e = .returned (.tuple #[]) ∧ NamesAt w' b (actN m ⟨0, n, t, f⟩) ∧ w.grownBy w' (some b) := by
  obtain ⟨h1, h2, h3⟩ := hs
  have H := Lib.hid h
  have KEY := Lib.hid (keyS h1)
  have EL := Lib.hid (elemN h3)
  have HM := Lib.hid (show m.length < maxLen from by unfold maxLen; omega)
  have HB := Lib.hid (h.alloc (.cells #[.int .i64 0, .string ⟨n.toArray⟩, .string ⟨t.toArray⟩, .int .i64 (f : Int)] 73))
  clear h h1 h2 h3 hm
  unfold stepV
  go_enter Tryz.func42, Tryz.ntmps42
  go_wp2_with (at_mapUpdate; refine wpList_mapUpdate_own _ rfl _ _ _ 58 rfl 9 3 strK Tryz.underlying58 _ b _ _ rfl HB.out HM.out _ _ _ rfl rfl KEY.out _ [] EL.out ?_; intro w1 hown1 hgrow1)
  go_end0
  refine ⟨rfl, ?_, ?_⟩
  · rw [toD_put] at hown1
    exact NamesAt.of hown1
  · exact grown_under hgrow1
theorem act_rem (m : NM) (b k : Nat) (hk : k = 2) (n t : Bs) (f : Nat) (w : World) (h : NamesAt w b m) (hs : (⟨k, n, t, f⟩ : Stp).fit) :
    Calls Tryz.prog 42 #[.map (some b), stepV ⟨k, n, t, f⟩] w fun e w' => e = .returned (.tuple #[]) ∧ NamesAt w' b (actN m ⟨k, n, t, f⟩) ∧ w.grownBy w' (some b) := by
  subst hk
  obtain ⟨h1, h2, h3⟩ := hs
  have KEY := Lib.hid (keyS h1)
  have HB := Lib.hid (h.alloc (.cells #[.int .i64 2, .string ⟨n.toArray⟩, .string ⟨t.toArray⟩, .int .i64 (f : Int)] 73))
  clear h h1 h2 h3
  unfold stepV
  go_enter Tryz.func42, Tryz.ntmps42
  go_wp2_with (at_delete; refine wpList_delete_own _ rfl _ _ 58 9 rfl 3 strK Tryz.underlying58 _ b _ _ rfl HB.out _ _ rfl KEY.out ?_; intro w1 hown1 hturn1)
  go_end0
  refine ⟨rfl, ?_, ?_⟩
  · rw [toD_del] at hown1
    exact NamesAt.of hown1
  · exact grown_under hturn1.grown
theorem nget_le {m : NM} {n : Bs} (h : ∀ p ∈ m, p.2 ≤ 9223372036854775807) : (nget m n).getD 0 ≤ 9223372036854775807 := by
  cases e : nget m n with
  | none => simp
  | some v => exact h _ (mem_nget e)
set_option maxRecDepth 100000 in
theorem act_ren (m : NM) (b : Nat) (n t : Bs) (f : Nat) (w : World) (h : NamesAt w b m) (hs : (⟨1, n, t, f⟩ : Stp).fit) (hm : m.length ≤ 1000000) (hv : ∀ p ∈ m, p.2 ≤ 9223372036854775807) :
    Calls Tryz.prog 42 #[.map (some b), stepV ⟨1, n, t, f⟩] w fun e w' => e = .returned (.tuple #[]) ∧ NamesAt w' b (actN m ⟨1, n, t, f⟩) ∧ w.grownBy w' (some b) := by
  obtain ⟨h1, h2, h3⟩ := hs
  have KEY := Lib.hid (keyS h1)
  have KEY2 := Lib.hid (keyS h2)
  have HB := Lib.hid (h.alloc (.cells #[.int .i64 1, .string ⟨n.toArray⟩, .string ⟨t.toArray⟩, .int .i64 (f : Int)] 73))
  have HL := NamesAt.look1 (w := w.alloc (.cells #[.int .i64 1, .string ⟨n.toArray⟩, .string ⟨t.toArray⟩, .int .i64 (f : Int)] 73)) HB.out h1
  have EL := Lib.hid (elemN (nget_le (n := n) hv))
  have HM := Lib.hid (show m.length < maxLen from by unfold maxLen; omega)
  have HF : Hid (fileN m n = (nget m n).getD 0) := Lib.hid rfl
  have BX := Lib.hid (Blk.new w #[.int .i64 1, .string ⟨n.toArray⟩, .string ⟨t.toArray⟩, .int .i64 (f : Int)] 73)
  have hbw := h.lt
  clear h h1 h2 h3 hv hm
  generalize (nget m n).getD 0 = no at *
  unfold stepV
  go_enter Tryz.func42, Tryz.ntmps42
  go_wp2_with (first | (at_delete; refine wpList_delete_own _ rfl _ _ 58 9 rfl 3 strK Tryz.underlying58 _ b _ _ rfl HB.out _ _ rfl KEY.out ?_; intro w1 hown1 hturn1; have g1 := hturn1.grown; have X1 := BX.out.grown g1 (by intro e; simp only [Option.some.injEq] at e; omega); have x2 : w1.cell? ⟨w.heap.size, 2, none⟩ = some (.string ⟨t.toArray⟩) := X1.cell 2; have HO1 := Lib.hid hown1; clear hown1 X1 hturn1) | (at_mapUpdate; refine wpList_mapUpdate_own _ rfl _ _ _ 58 rfl 9 3 strK Tryz.underlying58 _ b _ _ rfl HO1.out HM.out _ _ _ rfl rfl KEY2.out _ [] EL.out ?_; intro w2 hown2 hgrow2))
  go_end0
  refine ⟨rfl, ?_, ?_⟩
  · rw [toD_del, toD_put] at hown2
    show NamesAt w2 b (nput (ndel m n) t (fileN m n))
    rw [HF.out]
    exact NamesAt.of hown2
  · exact grown_under (g1.trans hgrow2)
theorem act_any (m : NM) (b : Nat) (s : Stp) (w : World) (h : NamesAt w b m) (hs : s.fit) (hk : s.kind ≤ 2) (hm : m.length ≤ 1000000) (hv : ∀ p ∈ m, p.2 ≤ 9223372036854775807) :
    Calls Tryz.prog 42 #[.map (some b), stepV s] w fun e w' => e = .returned (.tuple #[]) ∧ NamesAt w' b (actN m s) ∧ w.grownBy w' (some b) := by
  obtain ⟨k, n, t, f⟩ := s
  have : k = 0 ∨ k = 1 ∨ k = 2 := by simp only at hk; omega
  rcases this with rfl | rfl | rfl
  · exact act_make m b n t f w h hs hm
  · exact act_ren m b n t f w h hs hm hv
  · exact act_rem m b 2 rfl n t f w h hs
end Go.Proofs.YtdiaejphgcoknaaGreatDoor
