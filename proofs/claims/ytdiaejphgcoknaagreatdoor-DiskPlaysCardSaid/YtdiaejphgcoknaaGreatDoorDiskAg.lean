/- kinlaw5.first: contract; a disk that stands, as the laws carry it. -/
import Derived.Test.YtdiaejphgcoknaaGreatDoorDiskAd
import Derived.Test.YtdiaejphgcoknaaGreatDoorDiskAe
import Derived.Test.YtdiaejphgcoknaaGreatDoorDiskAf
import Derived.Test.YtdiaejphgcoknaaGreatDoorSame
set_option linter.unusedSimpArgs false
set_option linter.unusedVariables false
namespace Go.Proofs.YtdiaejphgcoknaaGreatDoor
open Go.RowKit Go.Extern.Stop Go.Stop Go.Extern

/-- A disk at p in blocks that the call itself made, since W. -/
structure Stand (W : World) (p : Nat) (L : Lay) (D : DS) (w : World) : Prop where
  dp : DP w p L D
  own : ∀ k, L.has p k → W.heap.size ≤ k
  below : Below W.heap.size W w
theorem Stand.size {W : World} {p : Nat} {L : Lay} {D : DS} {w : World} (h : Stand W p L D w) : W.heap.size ≤ w.heap.size := h.below.size
/-- The world goes on, the disk is left alone. -/
theorem Stand.ext {W : World} {p : Nat} {L : Lay} {D : DS} {w w' : World} (h : Stand W p L D w) (hb : Below w.heap.size w w') : Stand W p L D w' :=
  ⟨h.dp.stays fun k hk => hb.block k (h.dp.lt hk), h.own, h.below.trans (hb.mono h.size)⟩
theorem Stand.keep {W : World} {p : Nat} {L L' : Lay} {D D' : DS} {w w' : World} (h : Stand W p L D w) (h1 : DP w' p L' D') (h2 : ∀ k, L'.has p k → L.has p k ∨ w.heap.size ≤ k) (h3 : Keep (L.has p) w w') : Stand W p L' D' w' :=
  ⟨h1, fun k hk => by
    rcases h2 k hk with h4 | h4
    · exact h.own k h4
    · exact Nat.le_trans h.size h4, h.below.trans (h3.below h.own h.size)⟩
theorem Stand.new {W w w' : World} {p : Nat} {L : Lay} {D : DS} (hW : Below W.heap.size W w) (h1 : DP w' p L D) (h2 : ∀ k, L.has p k → w.heap.size ≤ k) (hb : Below w.heap.size w w') : Stand W p L D w' :=
  ⟨h1, fun k hk => Nat.le_trans hW.size (h2 k hk), hW.trans (hb.mono hW.size)⟩
theorem has_new {a p : Nat} (hp : p = a + 2) : ∀ k, (⟨.slice none 0 0, .slice none 0 0, a, a + 1, []⟩ : Lay).has p k → a ≤ k := by
  intro k hk
  rcases hk with h | h | h | h | h | ⟨j, hj, -⟩
  · omega
  · simp [Value.ownBlock] at h
  · simp [Value.ownBlock] at h
  · have h : k = a := h; omega
  · have h : k = a + 1 := h; omega
  · simp at hj
/-- What an operation on a disk that stands leaves: what it answers, the disk, and all that is not the disk's as it was. -/
def StandPost (W : World) (p : Nat) (L : Lay) (x : Int) (D' : DS) (w : World) (e : Ending) (w' : World) : Prop :=
  e = .returned (errV x) ∧ ∃ L', Stand W p L' D' w' ∧ Keep (L.has p) w w'
theorem Stand.op {W : World} {p : Nat} {L : Lay} {D D' : DS} {x : Int} {w w' : World} {e : Ending} (h : Stand W p L D w) (ho : OpPost p L x D' w e w') : StandPost W p L x D' w e w' := by
  obtain ⟨he, L', h1, h2, h3⟩ := ho
  exact ⟨he, L', h.keep h1 h2 h3, h3⟩

def a1 : Bs := [97]
def xyz : Bs := [120, 121, 122]
def z8 : Bs := List.replicate 8 0
def fst1 : DS := createD (newD 10) a1
def fst2 : DS := appD fst1 a1 xyz
def fst3 : DS := appD fst2 a1 z8
theorem fst_e1 : goesE (newD 10) (createE (newD 10) a1) = 0 := by decide +kernel
theorem fst_e2 : appE fst1 a1 xyz = 0 := by decide +kernel
theorem fst_e3 : appE fst2 a1 z8 = 9 := by decide +kernel
theorem fst_u : usedD fst3 = 3 := by decide +kernel
theorem fst_d : fst3.done = 2 := by decide +kernel
theorem fst_k : keysN fst3.names = [a1] := by decide +kernel
theorem fst_v : fileV fst3 a1 = ⟨a1, xyz, 0⟩ := by kernel_rfl
theorem fst_f : filesD fst3 = [⟨a1, xyz, 0⟩] := by
  unfold filesD listD
  rw [fst_k, List.mergeSort_singleton, List.map_cons, List.map_nil, fst_v]
theorem fst_i : Inv (newD 10) 0 := Inv.new (by omega)
theorem fst_i1 : Inv fst1 3 := fst_i.createD _
theorem fst_i2 : Inv fst2 6 := fst_i1.appD _ _
theorem fst_i3 : Inv fst3 9 := fst_i2.appD _ _
/-- A row of bytes, just laid. -/
theorem bytes_made (w : World) (b : Bs) (n : Nat) (cs : Array Value) (T : Nat) (fr : Nat × Nat) (hn : b.length = n) (hl : n ≤ maxLen) (hc : cs.toList = bcells b) : BytesV (w.alloc (.cells cs T fr)) (.slice (some ⟨w.heap.size, 0, none⟩) n n) b := by
  subst hn
  refine ⟨_, _, rfl, Nat.le_refl _, hl, fun h => (by cases h), fun j hj => ⟨w.heap.size, 0, rfl, ?_⟩⟩
  rw [Nat.zero_add, cell_of_row _ _ j cs T fr (heap_alloc_new w _), ← Array.getElem?_toList, hc]
  exact bcells_at hj
/-- 'make([]byte, n)'. -/
theorem run_makeB (n : Nat) (hn : n ≤ 1099511627776) (w : World) : (Instr.makeSlice 31 (.int .i64 (n : Int)) (.int .i64 (n : Int))).run Tryz.prog w = .ok (.slice (some ⟨w.heap.size, 0, none⟩) n n) (w.alloc (.cells (madeCells #[.int .u8 0] n) 5)) := by
  obtain ⟨i0, hi, hz0, hz1, hz2⟩ := info_parts infoB
  have h := run_make (P := Tryz.prog) w 31 5 i0 (.int .u8 0) Tryz.underlying31 hi hz0 .i64 .i64 (n : Int) (n : Int) (by omega) (Int.le_refl _) (by rw [hz2]; omega) (by omega)
  rw [h, hz1, Int.toNat_natCast, Nat.mul_one]; rfl
theorem bytes_zero (w : World) (n : Nat) (hn : n ≤ 1099511627776) : BytesV (w.alloc (.cells (madeCells #[.int .u8 0] n) 5)) (.slice (some ⟨w.heap.size, 0, none⟩) n n) (List.replicate n 0) :=
  bytes_made w (List.replicate n 0) n _ _ _ (by simp) (by unfold maxLen; omega) (by rw [toList_madeCells_one]; simp [bcells])
set_option maxRecDepth 100000 in
set_option maxHeartbeats 4000000 in
theorem first_any (w : World) (hg : TypeIs w) : Calls Tryz.prog 5 #[] w fun e w' => e = .returned (.bool true) ∧ Below w.heap.size w w' := by
  have HG := Lib.hid hg
  have C1 := Lib.hid (new_any 10 (by omega) w)
  have C2 := Lib.hid (fun L w' h => create_any (w.heap.size + 2) L (newD 10) a1 0 w' h fst_i (by omega) (by decide))
  have C3 := Lib.hid (fun L w' u h hu => append_any (w.heap.size + 2) L fst1 a1 u xyz 3 w' h hu fst_i1 (by omega) (by decide))
  have C4 := Lib.hid (fun L w' u h hu => append_any (w.heap.size + 2) L fst2 a1 u z8 6 w' h hu fst_i2 (by omega) (by decide))
  have C5 := Lib.hid (fun L w' h => files_any (w.heap.size + 2) L fst3 9 w' h fst_i3 (by omega))
  clear hg
  have hcv := fun (w : World) (C : Array Value) (n c : Nat) => Lib.run_convert_bytes_const (P := Tryz.prog) w 31 5 C n c Tryz.underlying31 Tryz.underlying5
  have hmk : ∀ w, (Instr.makeSlice 31 (.int .i64 8) (.int .i64 8)).run Tryz.prog w = .ok (.slice (some ⟨w.heap.size, 0, none⟩) 8 8) (w.alloc (.cells (madeCells #[.int .u8 0] 8) 5)) := fun w => run_makeB 8 (by omega) w
  go_enter Tryz.func5, Tryz.ntmps5
  go_wp2_with (go_at_call 6; refine C1.out.mono ?_; rintro e w1 ⟨rfl, hD, hb1⟩; have S1 := Lib.hid (Stand.new (Below.refl _ w) hD (has_new rfl) hb1); clear hD)
  clear hb1
  go_wp2_with (first
    | (go_at_call 17; refine (C2.out _ _ S1.out.dp).mono ?_; rintro e w2 hq; rw [fst_e1] at hq; obtain ⟨rfl, L2, S2', hk2⟩ := S1.out.op hq; have S2 := Lib.hid S2'; clear S2' hk2 hq)
    | (go_at_call 21; refine (C4.out _ _ _ (S3.out.ext (by go_grown)).dp (bytes_zero _ 8 (by omega))).mono ?_; rintro e w4 hq; rw [fst_e3] at hq; obtain ⟨rfl, L4, S4', hk4⟩ := (S3.out.ext (by go_grown)).op hq; have S4 := Lib.hid S4'; clear S4' hk4 hq)
    | (go_at_call 21; refine (C3.out _ _ _ (S2.out.ext (by go_grown)).dp (bytes_made _ xyz 3 _ _ _ rfl (by decide) rfl)).mono ?_; rintro e w3 hq; rw [fst_e2] at hq; obtain ⟨rfl, L3, S3', hk3⟩ := (S2.out.ext (by go_grown)).op hq; have S3 := Lib.hid S3'; clear S3' hk3 hq)
    | (go_at_call 10; refine (C5.out _ _ S4.out.dp).mono ?_; rintro e w5 ⟨v, rfl, hown, hb5⟩))
  rw [fst_f] at hown
  have S5 := Lib.hid (S4.out.ext hb5)
  obtain ⟨ao, cap, rfl⟩ := hown.shapeN (n := 1) rfl
  obtain ⟨g, dv, rfl, hlt, d0, d1, d2, hdv⟩ := hown.cellAt (j := 0) (by decide)
  have HBV : Hid (BytesV w5 dv xyz) := bytes_of_rowB hdv
  simp only [List.getD_cons_zero, Nat.zero_mul, Nat.zero_add] at d0 d1 d2
  clear hown hdv d0 hb5
  have C7 : Hid (∀ w, TypeIs w → Calls Tryz.prog 16 #[errV 9, .agg #[.int .i64 9, .slice none 0 0]] w fun e w' => e = .returned (.bool true) ∧ Below w.heap.size w w') := fun w hg => same_any 9 w hg
  have CU := Lib.hid (fun w' h => used_any (w.heap.size + 2) L4 fst3 9 w' h fst_i3 (by omega))
  have CS := Lib.hid (fun w' h => steps_any (w.heap.size + 2) L4 fst3 w' h)
  rw [fst_u] at CU
  rw [fst_d] at CS
  have hd5 := HBV.out.str
  obtain ⟨da, dl, hdv2⟩ := HBV.out.shape
  have hz : (⟨xyz.toArray⟩ : ByteArray) = ⟨#[120, 121, 122]⟩ := rfl
  rw [hz] at hd5
  have G0 : Hid (Below w.heap.size w w5) := Lib.hid S5.out.below
  have HX : Hid (∀ wx, Below w5.heap.size w5 wx → wx.cell? ⟨g, 1, none⟩ = some dv ∧ wx.cell? ⟨g, 2, none⟩ = some (.int .i64 0) ∧ (convert 31 9 dv).run Tryz.prog wx = .ok (.string ⟨#[120, 121, 122]⟩) wx ∧ g < wx.heap.size) := fun wx hb => ⟨(hb.cell (p := ⟨g, 1, none⟩) hlt).trans d1, (hb.cell (p := ⟨g, 2, none⟩) hlt).trans d2, by have := (HBV.out.ext hb).str; rw [hz] at this; exact this, Nat.lt_of_lt_of_le hlt hb.size⟩
  clear hdv2 hz d1 d2 hd5
  go_wp2_with fail
  refine (fail_any _ _).mono ?_
  rintro e w6 ⟨rfl, hb6⟩
  go_wp2_with fail
  refine (C7.out _ (HG.out.ext (G0.out.trans (hb6.mono G0.out.size)))).mono ?_
  rintro e w7 ⟨rfl, hb7⟩
  have hb57 : Below w5.heap.size w5 w7 := ext hb6 hb7
  obtain ⟨d1, d2, d3, lg⟩ := HX.out _ hb57
  go_wp2_with fail
  refine (CU.out _ (S5.out.ext hb57).dp).mono ?_
  rintro e w8 ⟨rfl, hb8⟩
  go_wp2_with fail
  refine (CS.out _ ((S5.out.ext hb57).ext hb8).dp).mono ?_
  rintro e w9 ⟨rfl, rfl⟩
  go_wp2
  go_returns
  exact ⟨by first | rfl | (simp; done), ((S5.out.ext hb57).ext hb8).below⟩
end Go.Proofs.YtdiaejphgcoknaaGreatDoor
