/- kinlaw7.BlockOrders: the walk. -/
import Derived.Test.YtceobpoibiffhaaDoorBlockF
set_option linter.unusedSimpArgs false
set_option linter.unusedVariables false
namespace Go.Proofs.YtceobpoibiffhaaDoor
open Go.RowKit Go.Extern.Stop Go.Stop Go.Extern

/-- Which numbers have been met among the first k of l: 64 cells. -/
def metCells (l : List Int) (k : Nat) : Array Value := ((List.range 64).map fun j : Nat => Value.bool ((l.take k).contains (j : Int))).toArray
theorem met_zero (l : List Int) : metCells l 0 = (List.replicate 64 (Value.bool false)).toArray := by
  unfold metCells
  congr 1
theorem met_get {l : List Int} {k j : Nat} (hj : j < 64) : (metCells l k)[j]? = some (Value.bool ((l.take k).contains (j : Int))) := by
  simp [metCells, hj]
theorem met_set {l : List Int} {k x : Nat} (hk : k < l.length) (hx : l.getD k 0 = (x : Int)) : (metCells l k).setIfInBounds x (.bool true) = metCells l (k + 1) := by
  apply Array.ext'
  unfold metCells
  rw [List.setIfInBounds_toArray]
  simp only [List.getD, List.getElem?_eq_getElem hk, Option.getD_some] at hx
  apply List.ext_getElem
  · simp
  · intro j h1 h2
    simp only [List.length_set, List.length_map, List.length_range] at h1
    rw [List.getElem_set]
    simp only [List.getElem_map, List.getElem_range]
    rw [List.take_succ_eq_append_getElem hk, List.contains_append, hx]
    by_cases e : x = j
    · subst e; simp
    · rw [if_neg e]
      have : ([(x : Int)] : List Int).contains (j : Int) = false := by simp; omega
      rw [this, Bool.or_false]
/-- No number twice, each in bounds. -/
def Goodly (l : List Int) : Prop := ∀ k, k < l.length → 0 ≤ l.getD k 0 ∧ l.getD k 0 < l.length ∧ (l.take k).contains (l.getD k 0) = false
def goodlyB (l : List Int) : Bool := (List.range l.length).all fun k => decide (0 ≤ l.getD k 0) && decide (l.getD k 0 < l.length) && !((l.take k).contains (l.getD k 0))
theorem goodly_of {l : List Int} (h : goodlyB l = true) : Goodly l := by
  intro k hk
  unfold goodlyB at h
  have := List.all_eq_true.1 h k (List.mem_range.2 hk)
  simp only [Bool.and_eq_true, decide_eq_true_eq, Bool.not_eq_true'] at this
  exact ⟨this.1.1, this.1.2, this.2⟩
theorem good4 : goodlyB (ordTo 4 7) = true := by rw [order4]; decide +kernel
theorem good8 : goodlyB (ordTo 8 15) = true := by rw [order8]; decide +kernel
theorem orderL_good (n : Int) : Goodly (orderL n) ∧ ((orderL n).length : Int) ≤ 64 ∧ ((orderL n).length = 0 ∨ (n = 4 ∧ (orderL n).length = 16) ∨ (n = 8 ∧ (orderL n).length = 64)) := by
  unfold orderL
  by_cases h4 : n = 4
  · rw [if_pos h4]; exact ⟨goodly_of good4, by rw [order4]; decide, .inr (.inl ⟨h4, by rw [order4]; rfl⟩)⟩
  · by_cases h8 : n = 8
    · rw [if_neg h4, if_pos h8]; exact ⟨goodly_of good8, by rw [order8]; decide, .inr (.inr ⟨h8, by rw [order8]; rfl⟩)⟩
    · rw [if_neg h4, if_neg h8]; exact ⟨goodly_of rfl, by decide, .inl rfl⟩
theorem mk64b (w : World) : (Instr.makeSlice 42 (.int .i64 64) (.int .i64 64)).run Tryd.prog w = .ok (.slice (some ⟨w.heap.size, 0, none⟩) 64 64) (w.alloc (.cells (List.replicate 64 (Value.bool false)).toArray 4)) := by kernel_rfl
theorem Ints.cellAtN {w : World} {ao : Option Addr} {n cap : Nat} {xs : List Int} (h : Ints w (.slice ao n cap) xs) {j : Nat} (hj : j < xs.length) : ∃ b off, ao = some ⟨b, off, none⟩ ∧ w.cell? ⟨b, off + j, none⟩ = some (.int .i64 (xs.getD j 0)) ∧ b < w.heap.size := by
  obtain ⟨ao', cap', e, _, _, _, _, h4⟩ := h
  simp only [Value.slice.injEq] at e
  obtain ⟨rfl, -, rfl⟩ := e
  obtain ⟨b, off, rfl, hc⟩ := h4 j hj
  exact ⟨b, off, rfl, hc, World.block_lt_of_cell? w _ hc⟩
def OrdOk (n : Int) (m : Nat) : Prop := m = 0 ∨ (n = 4 ∧ m = 16) ∨ (n = 8 ∧ m = 64)

set_option maxRecDepth 100000 in
set_option maxHeartbeats 8000000 in
theorem orders_walk (n : Int) (w : World) (hg : TypeIs w) :
    Calls Tryd.prog 4 #[.int .i64 n] w fun e w' => e = .returned (.bool true) ∧ Below w.heap.size w w' := by
  have HG := Lib.hid hg
  obtain ⟨hgood, h64, hlen⟩ := orderL_good n
  have C1 := Lib.hid (fun w => porder_any n w)
  have C2 := Lib.hid (fun w => rorder_any n w)
  have HGO := Lib.hid hgood
  have HLN := Lib.hid hlen
  clear hg hgood hlen
  generalize orderL n = l at *
  have hmk := mk64b
  go_enter Tryd.func4, Tryd.ntmps4
  have g0 : Below w.heap.size w w := Below.refl _ _
  go_wp2_with fail
  refine (first_any _ (HG.out.ext (by go_grown))).mono ?_
  rintro e w1 ⟨rfl, hb1⟩
  have j1 : Below w.heap.size w w1 := ext (by go_grown) hb1
  have g1 : Below w.heap.size w w1 := ext g0 j1
  have s1 := j1.size
  have t1 := g1.size
  go_wp2_with fail
  refine (C1.out _).mono ?_
  rintro e w2 ⟨lv, rfl, hlo, hb2⟩
  have j2 : Below w1.heap.size w1 w2 := ext (by go_grown) hb2
  have g2 : Below w.heap.size w w2 := ext g1 j2
  have s2 := j2.size
  have t2 := g2.size
  have HLI := Lib.hid (hlo.ints)
  obtain ⟨lo, lcap, rfl⟩ := hlo.shape
  clear hlo
  have BM := Lib.hid (Blk.new w2 (List.replicate 64 (Value.bool false)).toArray 4)
  have hl64 : l.length ≤ 64 := by omega
  go_wp2
  clear hmk
  go_loopw [5] (fun i wr => ∃ k : Nat, k ≤ l.length ∧ i = .int .i64 k ∧ Below w2.heap.size w2 wr ∧ Blk wr w2.heap.size (metCells l k) 4) (fun i _ => l.length - (intOf i).toNat)
  case atStart => exact ⟨0, Nat.zero_le _, rfl, by go_grown, by rw [met_zero]; exact BM.out⟩
  case round =>
    obtain ⟨k, hk, rfl, hbr, hM⟩ := hrel
    obtain ⟨w3, rfl⟩ : ∃ w3 : World, w3 = wr := ⟨_, rfl⟩
    have j3 : Below w2.heap.size w2 w3 := hbr
    have g3 : Below w.heap.size w w3 := ext g2 j3
    have s3 := j3.size
    have t3 := g3.size
    have HM := Lib.hid hM
    clear hbr hM
    by_cases hlt : k < l.length
    · obtain ⟨b1, o1, rfl, c1, l1⟩ := (HLI.out).cellAtN hlt
      replace c1 := (j3.cell (p := ⟨b1, o1 + k, none⟩) l1).trans c1
      obtain ⟨q1, q2, q3⟩ := HGO.out k hlt
      obtain ⟨x, hx⟩ : ∃ x : Nat, l.getD k 0 = (x : Int) := ⟨(l.getD k 0).toNat, by omega⟩
      rw [hx] at q1 q2 q3 c1
      have hx64 : x < 64 := by omega
      have c2 := HM.out.cell x
      rw [met_get hx64, q3] at c2
      have f2 := HM.out.free x
      have HS := Lib.hid (met_set hlt hx ▸ HM.out.set x (.bool true))
      have hne : b1 ≠ w2.heap.size := by omega
      have hne2 : ¬ w2.heap.size = b1 := by omega
      have hxl : x < l.length := by omega
      clear hx q1 q2 q3
      go_wp2
      go_roundw
      case rel => exact ⟨k + 1, by omega, by go_num, j3.setCell (by simp) _, HS.out⟩
      case measure => simp [intOf]; omega
    · have hlz : OrdOk n l.length := HLN.out
      have HLZ := Lib.hid hlz
      clear hlz hk
      go_wp2_with fail
      refine (first_any _ ((((HG.out.ext j1).ext j2).ext j3).ext (by go_grown))).mono ?_
      rintro e w4 ⟨rfl, hb4⟩
      have j4 : Below w3.heap.size w3 w4 := ext (by go_grown) hb4
      have g4 : Below w.heap.size w w4 := ext g3 j4
      have s4 := j4.size
      have t4 := g4.size
      go_wp2_with fail
      refine (C2.out _).mono ?_
      rintro e w5 ⟨rv, rfl, hro, hb5⟩
      have j5 : Below w4.heap.size w4 w5 := ext (by go_grown) hb5
      have g5 : Below w.heap.size w w5 := ext g4 j5
      have s5 := j5.size
      have t5 := g5.size
      have HRI := Lib.hid (hro.ints)
      clear hro
      go_wp2_with fail
      refine (ints_any _ _ _ _ _ ((((HLI.out.ext j3).ext j4).ext j5).ext (by go_grown)) (HRI.out.ext (by go_grown))).mono ?_
      rintro e w6 ⟨rfl, hb6⟩
      have j6 : Below w5.heap.size w5 w6 := ext (by go_grown) hb6
      have g6 : Below w.heap.size w w6 := ext g5 j6
      have s6 := j6.size
      have t6 := g6.size
      simp only [decide_true]
      rcases HLZ.out with hz | ⟨rfl, hz⟩ | ⟨rfl, hz⟩
      · have q0 : ((l.length : Int) == 0) = true := by simp [hz]
        clear hz
        go_wp2
        all_goals go_returns
        all_goals exact ⟨by first | rfl | (simp; done) | (simp; omega), g6⟩
      · have q0 : ((l.length : Int) == 16) = true := by simp [hz]
        clear hz
        go_wp2
        all_goals go_returns
        all_goals exact ⟨by first | rfl | (simp; done) | (simp; omega), g6⟩
      · have q0 : ((l.length : Int) == 64) = true := by simp [hz]
        clear hz
        go_wp2
        all_goals go_returns
        all_goals exact ⟨by first | rfl | (simp; done) | (simp; omega), g6⟩
end Go.Proofs.YtceobpoibiffhaaDoor
