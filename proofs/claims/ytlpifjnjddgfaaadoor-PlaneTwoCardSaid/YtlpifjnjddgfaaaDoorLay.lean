/- plane.Lay: its contract. -/
import Derived.Test.YtlpifjnjddgfaaaDoorSplice
import Derived.Test.YtlpifjnjddgfaaaDoorPlaneE
import Derived.Deep.RegionLaw
set_option linter.unusedSimpArgs false
set_option linter.unusedVariables false
namespace Go.Proofs.YtlpifjnjddgfaaaDoor
open Go.RowKit

theorem info13 : (Tryd.prog.info? 3).map (·.size) = some 1 := by kernel_rfl
theorem OwnInts.cap {w : World} {B g n cap : Nat} {xs : List Int} (h : OwnInts w B (.slice (some ⟨g, 0, none⟩) n cap) xs) : n ≤ cap := by
  obtain ⟨hl, h' | ⟨g', cap', cur, e, hb, hg, hn, hm, hs, ht⟩⟩ := h.1
  · cases h'.1
  · have := h.at.1
    simp only [Value.slice.injEq] at e
    omega
theorem Ints.cap {w : World} {ao : Option Addr} {n cap : Nat} {xs : List Int} (h : Ints w (.slice ao n cap) xs) : n ≤ cap := by
  obtain ⟨ao', cap', e, h1, _⟩ := h
  simp only [Value.slice.injEq] at e
  obtain ⟨-, rfl, rfl⟩ := e
  exact h1
theorem Ints.cellJ {w : World} {b off n cap : Nat} {xs : List Int} (h : Ints w (.slice (some ⟨b, off, none⟩) n cap) xs) {j : Nat} (hj : j < xs.length) : w.cell? ⟨b, off + j, none⟩ = some (.int .i64 (xs.getD j 0)) := by
  obtain ⟨b', o', e, c, _⟩ := h.cellN hj
  simp only [Option.some.injEq, Addr.mk.injEq, and_true] at e
  obtain ⟨rfl, rfl⟩ := e
  exact c
theorem wrap_mul {a b : Int} {m : Nat} (h : a * b = m) (hm : m ≤ 9223372036854775807) : IntKind.i64.wrap (a * b) = m := by rw [h]; exact IntWalk.i64_in _ (by omega)
set_option maxRecDepth 100000 in
set_option maxHeartbeats 2000000 in
theorem lay_any (W x y n : Nat) (H : Int) (pix b : List Int) (g cap : Nat) (bv : Value) (w w0 : World) (B : Nat) (hp : OwnInts w B (.slice (some ⟨g, 0, none⟩) pix.length cap) pix)
    (hb : Ints w0 bv b) (h0 : Below w0.heap.size w0 w) (hB : w0.heap.size ≤ B) (hBw : B ≤ w.heap.size) (hx : x + n ≤ W) (hn1 : 1 ≤ n) (hn2 : n ≤ 8) (hl : pix.length ≤ 1024) (hbl : b.length = n * n)
    (hs : ∀ k, k < n * n → spot W x y n k < pix.length) (hW : W ≤ 32) (hy : y + n ≤ 32) :
    Calls Tryd.prog 44 #[.agg #[.int .i64 W, .int .i64 H, .slice (some ⟨g, 0, none⟩) pix.length cap], .int .i64 x, .int .i64 y, .int .i64 n, bv] w
      fun e w' => e = .returned (.tuple #[]) ∧ OwnInts w' B (.slice (some ⟨g, 0, none⟩) pix.length cap) (layV W x y n b pix) ∧ Below B w w' := by
  obtain ⟨bo, cap2, rfl⟩ := hb.shape
  rw [hbl] at hb ⊢
  have HB := Lib.hid hb
  have HS := Lib.hid hs
  have BX := Lib.hid (Blk.new w #[.int .i64 W, .int .i64 H, .slice (some ⟨g, 0, none⟩) pix.length cap] 24)
  have HP := Lib.hid (show OwnInts (w.alloc (.cells #[.int .i64 W, .int .i64 H, .slice (some ⟨g, 0, none⟩) pix.length cap] 24)) B (.slice (some ⟨g, 0, none⟩) pix.length cap) (layTo W x y n (0 * n) b pix) from by rw [Nat.zero_mul, layTo_zero]; exact hp.alloc _)
  obtain ⟨-, hBg, hgw, -, -⟩ := hp.at
  have HL := Lib.hid hbl
  clear hb hs hp hbl
  go_enter Tryd.func44, Tryd.ntmps44
  go_wp2
  go_loopw [12] (fun j wr => ∃ k : Nat, k ≤ n ∧ j = .int .i64 k ∧ OwnInts wr B (.slice (some ⟨g, 0, none⟩) pix.length cap) (layTo W x y n (k * n) b pix) ∧ Blk wr w.heap.size #[.int .i64 W, .int .i64 H, .slice (some ⟨g, 0, none⟩) pix.length cap] 24 ∧ Below B w wr) (fun j _ => n - (intOf j).toNat)
  case atStart => exact ⟨0, Nat.zero_le _, rfl, HP.out, BX.out, (Below.refl _ _).alloc hBw _⟩
  case round =>
    obtain ⟨j, hj, rfl, hown, hbx, hbr⟩ := hrel
    have HO := Lib.hid hown
    have BR := Lib.hid hbx
    have hbr0 := Lib.hid (h0.trans (hbr.mono hB))
    by_cases hlj : j < n
    · clear hown hbx
      obtain ⟨c0, c1, c2, -, -, -⟩ := BR.out.three
      have lz := BR.out.lt
      have hsp : spot W x y n (j * n) = (y + j) * W + x := by
        have hm := mulmod (n := n) (j := j) (i := 0) (by omega)
        rw [Nat.add_zero] at hm
        unfold spot; rw [hm.1, hm.2]; omega
      have hjn : j * n + n ≤ n * n := by rw [← Nat.succ_mul]; exact Nat.mul_le_mul_right _ hlj
      have hnn : n * n ≤ 64 := Nat.mul_le_mul hn2 hn2
      have hlast := HS.out (j * n + (n - 1)) (by omega)
      have hsp2 : spot W x y n (j * n + (n - 1)) = (y + j) * W + x + (n - 1) := by
        have hm := mulmod (n := n) (j := j) (i := n - 1) (by omega)
        unfold spot; rw [hm.1, hm.2]; omega
      have hfit : (y + j) * W + x + n ≤ pix.length := by omega
      obtain ⟨M, hM⟩ : ∃ M, (y + j) * W = M := ⟨_, rfl⟩
      obtain ⟨J, hJ⟩ : ∃ J, j * n = J := ⟨_, rfl⟩
      have HR := Lib.hid (lay_row (y := y) (b := b) hx (by omega) hlj (by rw [HL.out]; exact Nat.le_refl _) HS.out)
      obtain ⟨Y, hY⟩ : ∃ Y, y + j = Y := ⟨_, rfl⟩
      obtain ⟨E, hE⟩ : ∃ E, M + x = E := ⟨_, rfl⟩
      obtain ⟨T, hT⟩ : ∃ T, J + n = T := ⟨_, rfl⟩
      have qY : IntKind.i64.wrap ((y : Int) + j) = (Y : Nat) := by rw [IntWalk.i64_in _ (by omega), ← hY]; simp
      have qM : IntKind.i64.wrap ((Y : Int) * W) = (M : Nat) := wrap_mul (by rw [← hM, ← hY]; simp) (by omega)
      have qJ : IntKind.i64.wrap ((j : Int) * n) = (J : Nat) := wrap_mul (by rw [← hJ]; simp) (by omega)
      have qE : IntKind.i64.wrap ((M : Int) + x) = (E : Nat) := by rw [IntWalk.i64_in _ (by omega), ← hE]; simp
      have qT : IntKind.i64.wrap ((J : Int) + n) = (T : Nat) := by rw [IntWalk.i64_in _ (by omega), ← hT]; simp
      obtain ⟨cur, hcur, hcl, hsplice⟩ := HO.out.row
      have HSP := Lib.hid hsplice
      have HC := Lib.hid hcur
      have hcap : pix.length ≤ cap := HO.out.cap
      have hcap2 : n * n ≤ cap2 := HB.out.cap
      rw [length_layTo] at hcl
      rw [hM, hE] at hfit HR
      rw [hJ] at hjn HR HSP
      rw [hT] at hjn
      obtain ⟨b2, o2, rfl, -, hb2⟩ := HB.out.cellN (j := 0) (by rw [HL.out]; omega)
      have hyl : ((b.drop J).take n).length = n := by rw [List.length_take, List.length_drop, HL.out]; omega
      have K1 := Lib.hid (show (((b.drop J).take n).map (Value.int .i64)).length = Nat.min n (pix.length - E) from by rw [List.length_map, hyl]; exact (Nat.min_eq_left (by omega)).symm)
      have K2 := Lib.hid (show ∀ j v, (((b.drop J).take n).map (Value.int .i64))[j]? = some v → wr.drew.cell? ((⟨b2, o2 + J, none⟩ : Addr).add j) = some v from by
        intro i v hv
        rw [List.getElem?_map] at hv
        cases hi : ((b.drop J).take n)[i]? with
        | none => rw [hi] at hv; cases hv
        | some z =>
          rw [hi] at hv
          obtain rfl : Value.int .i64 z = v := by simpa using hv
          have hin : i < n := by rw [← hyl]; exact (List.getElem?_eq_some_iff.1 hi).1
          have c3 := (HB.out.ext hbr0.out).cellJ (j := J + i) (by rw [HL.out]; omega)
          rw [List.getElem?_take_of_lt hin, List.getElem?_drop] at hi
          rw [List.getD_eq_getElem?_getD, hi] at c3
          rw [Go.WideShapes.add_plain, Nat.add_assoc]
          exact c3)
      have K3 := Lib.hid (show E + (((b.drop J).take n).map (Value.int .i64)).length ≤ cur.length from by rw [List.length_map, hyl]; omega)
      have K4 := Lib.hid (show ∀ v ∈ ((b.drop J).take n).map (Value.int .i64), v.oneCell' = true from by intro v hv; obtain ⟨z, _, rfl⟩ := List.mem_map.1 hv; rfl)
      have K5 := Lib.hid (show ∀ z ∈ (b.drop J).take n, Proofs.YtlpifjnjddgfaaaDoor.in64 z from fun z hz => HB.out.in64 z (List.mem_of_mem_drop (List.mem_of_mem_take hz)))
      have K6 := Lib.hid (show E + ((b.drop J).take n).length ≤ (layTo W x y n J b pix).length from by rw [hyl, length_layTo]; omega)
      clear hsplice hcur hM hJ hsp hsp2 hlast
      have hJ2 : T ≤ cap2 := by omega
      have hT2 : T ≤ 64 := by omega
      have hJT : J ≤ T := by omega
      have hJc : ¬ cap2 = J := by omega
      have hEc : ¬ cap = E := by omega
      have hEp : E ≤ pix.length := by omega
      have hTJ : T - J = n := by omega
      clear hE hT hY hcap hcap2 hb2 hyl
      generalize hcs : ((b.drop J).take n).map (Value.int .i64) = cs at *
      go_wp2_with fail
      go_region_law (refine step_copy_row (by rfl) (.tmp 25) (.tmp 35) 22 (by rfl) 3 Tryd.underlying22 info13 g E _ _ ⟨b2, o2 + J, none⟩ n _ (by rfl) (by rfl) cur 3 HC.out cs K1.out K2.out K3.out K4.out ?_; intro w4 h4)
      all_goals
        have HO4 := Lib.hid (show OwnInts w4 B (.slice (some ⟨g, 0, none⟩) pix.length cap) (layTo W x y n ((j + 1) * n) b pix) from by rw [← HR.out]; exact HSP.out _ _ _ K6.out K5.out (by rw [hcs]; exact h4.out.1))
        have BR4 : Hid (Blk w4 w.heap.size #[.int .i64 W, .int .i64 H, .slice (some ⟨g, 0, none⟩) pix.length cap] 24) := Lib.hid ((h4.out.2.1 _ (by omega)).trans BR.out)
        have hb4 : Below B w w4 := hbr.trans (Below.mono (below_undrew h4.out.2.2) hBg)
        clear h4 hcs
        go_wp2
        go_roundw
        case rel => exact ⟨j + 1, by omega, by go_num, HO4.out, BR4.out, hb4⟩
        case measure => simp [intOf]; omega
    · have e : j = n := by omega
      have HOL := Lib.hid (show OwnInts wr B (.slice (some ⟨g, 0, none⟩) pix.length cap) (layV W x y n b pix) from by rw [e] at HO; exact HO.out)
      clear e HO hown
      go_wp2
      go_returns
      exact ⟨rfl, HOL.out, hbr⟩
end Go.Proofs.YtlpifjnjddgfaaaDoor
