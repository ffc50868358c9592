/- block.Whole and what it calls, kinref7.Whole, kinref.Lists: contracts. -/
import Derived.Test.YtceobpoibiffhaaDoorRowsL
import Derived.Test.YtceobpoibiffhaaDoorErrs
import Derived.Test.YtceobpoibiffhaaDoorLists
set_option linter.unusedSimpArgs false
set_option linter.unusedVariables false
namespace Go.Proofs.YtceobpoibiffhaaDoor
open Go.RowKit

def badR (ls : List (List Int)) : Bool := ls.any fun x => x.length != 16
theorem badR_hit {ls : List (List Int)} {k : Nat} (hk : k < ls.length) (h : (ls.getD k []).length ≠ 16) : badR ls = true := by
  unfold badR
  rw [List.any_eq_true]
  simp only [List.getD, List.getElem?_eq_getElem hk, Option.getD_some] at h
  exact ⟨ls[k], List.getElem_mem hk, by simpa using h⟩
theorem badR_all {ls : List (List Int)} (h : ∀ k, k < ls.length → (ls.getD k []).length = 16) : badR ls = false := by
  unfold badR
  rw [List.any_eq_false]
  intro x hx
  obtain ⟨k, hk, e⟩ := List.mem_iff_getElem.1 hx
  have := h k hk
  simp only [List.getD, List.getElem?_eq_getElem hk, Option.getD_some, e] at this
  simp [this]
theorem badR_no {ls : List (List Int)} (h : badR ls = false) {k : Nat} (hk : k < ls.length) : (ls.getD k []).length = 16 := by
  unfold badR at h
  rw [List.any_eq_false] at h
  have := h ls[k] (List.getElem_mem hk)
  simp only [List.getD, List.getElem?_eq_getElem hk, Option.getD_some]
  simpa using this
theorem kq_int (i : Nat) : (i : Int) / 32 * 2 + (i : Int) % 8 / 4 = ((kq i : Nat) : Int) := by unfold kq; omega
theorem pq_int (i : Nat) : (i : Int) / 8 % 4 * 4 + (i : Int) % 4 = ((pq i : Nat) : Int) := by unfold pq; omega
def IsIdx (b : Bool) (w : World) (e : Ending) (w' : World) : Prop := ∃ r : Int, -1 ≤ r ∧ r ≤ 4611686018427387904 ∧ decide (0 ≤ r) = b ∧ e = .returned (.int .i64 r) ∧ w = w'
theorem whole1 (v : Value) (xs : List Int) (w : World) (hv : Ints w v xs) : Calls Tryd.prog 38 #[v] w fun e w' => e = .returned (.bool (xs.length != 16)) ∧ w = w' := by
  have hn := hv.len
  obtain ⟨ao, cap, rfl⟩ := hv.shape
  clear hv
  by_cases h : xs.length = 16
  · rw [show (xs.length != 16) = false from by simpa using h]
    have h1 : ((xs.length : Int) != 16) = false := by simp [h]
    clear h
    generalize xs.length = n at *
    go_enter Tryd.func38, Tryd.ntmps38
    go_wp2
    go_returns
    exact ⟨rfl, rfl⟩
  · rw [show (xs.length != 16) = true from by simpa using h]
    have h1 : ((xs.length : Int) != 16) = true := by simp; omega
    clear h
    generalize xs.length = n at *
    go_enter Tryd.func38, Tryd.ntmps38
    go_wp2
    go_returns
    exact ⟨rfl, rfl⟩
theorem rindex_any (v : Value) (ls : List (List Int)) (w : World) (hv : Rows w v ls) (hl : ls.length ≤ 5000) :
    Calls Tryd.prog 44 #[v, .func (.func 38) #[] #[]] w (IsIdx (badR ls) w) := by
  have HV := Lib.hid hv
  obtain ⟨ao, cap, rfl⟩ := hv.shape
  have hrun := fun (args : Array Value) (w : World) => run_callFunc_enter (f := 38) (fn := Tryd.f38) Tryd.func38 (by kernel_rfl) (by kernel_rfl) args w
  clear hv
  go_enter Tryd.func44, Tryd.ntmps44
  go_wp2
  go_loop [8] (fun i => ∃ k : Nat, k ≤ ls.length ∧ i = .int .i64 k ∧ ∀ j, j < k → (ls.getD j []).length = 16) (fun i => ls.length - (intOf i).toNat)
  case atStart => exact ⟨0, Nat.zero_le _, rfl, fun j hj => absurd hj (by omega)⟩
  case round =>
    obtain ⟨k, hk, rfl, hall⟩ := hrel
    have HALL := Lib.hid hall
    clear hall
    by_cases hlt : k < ls.length
    · obtain ⟨b, off, p, rfl, hc, hp⟩ := HV.out.at1 hlt
      obtain ⟨po, pc, rfl⟩ := hp.shape
      have HW := Lib.hid (whole1 _ _ w hp)
      have HB := Lib.hid (badR_hit hlt)
      clear hp
      generalize hx : ls.getD k [] = x at *
      have Hx := Lib.hid hx
      clear hx
      go_wp2_with fail
      refine HW.out.mono ?_
      rintro e w' ⟨rfl, rfl⟩
      by_cases h16 : x.length = 16
      · rw [show (x.length != 16) = false from by simpa using h16]
        have H16 := Lib.hid h16
        clear h16
        go_wp2
        go_round
        case rel =>
          refine ⟨k + 1, by omega, by go_num, fun j hj => ?_⟩
          by_cases e : j = k
          · rw [e, Hx.out]; exact H16.out
          · exact HALL.out j (by omega)
        case measure => simp [intOf]; omega
      · rw [show (x.length != 16) = true from by simpa using h16]
        have Hb := Lib.hid (HB.out h16)
        clear h16 HB
        go_wp2
        go_returns
        exact ⟨_, by omega, by omega, by rw [Hb.out]; simp, rfl, rfl⟩
    · have e : k = ls.length := by omega
      have Hb := Lib.hid (badR_all (ls := ls) fun j hj => HALL.out j (by omega))
      clear e
      go_wp2
      go_returns
      exact ⟨_, by omega, by omega, by rw [Hb.out]; simp, rfl, rfl⟩
theorem rcontains_any (v : Value) (ls : List (List Int)) (w : World) (hv : Rows w v ls) (hl : ls.length ≤ 5000) :
    Calls Tryd.prog 37 #[v, .func (.func 38) #[] #[]] w fun e w' => e = .returned (.bool (badR ls)) ∧ w = w' := by
  have HC := Lib.hid (rindex_any v ls w hv hl)
  clear hv
  go_enter Tryd.func37, Tryd.ntmps37
  go_wp2_with fail
  refine HC.out.mono ?_
  rintro e w' ⟨r, h1, h2, h3, rfl, rfl⟩
  have H3 := Lib.hid h3
  clear h3
  go_wp2
  go_returns
  exact ⟨by rw [← H3.out]; rfl, rfl⟩
set_option maxHeartbeats 1000000 in
theorem pwhole_no (v : Value) (ls : List (List Int)) (w : World) (hv : Rows w v ls) (hl : ls.length ≤ 5000) (h : ls.length ≠ 4 ∨ badR ls = true) :
    Calls Tryd.prog 23 #[v] w fun e w' => e = .returned (.tuple #[.slice none 0 0, .iface 29 (.int .i64 14)]) ∧ Below w.heap.size w w' := by
  have HC := Lib.hid (rcontains_any v ls w hv hl)
  obtain ⟨ao, cap, rfl⟩ := hv.shape
  clear hv
  by_cases h4 : ls.length = 4
  · have h5 : badR ls = true := h.resolve_left (fun e => e h4)
    rw [h5] at HC
    have h6 : ((ls.length : Int) != 4) = false := by simp [h4]
    clear h h4 h5
    go_enter Tryd.func23, Tryd.ntmps23
    go_wp2_with fail
    refine HC.out.mono ?_
    rintro e w' ⟨rfl, rfl⟩
    go_wp2
    go_returns
    exact ⟨rfl, Below.refl _ _⟩
  · have h6 : ((ls.length : Int) != 4) = true := by simp; omega
    clear h h4
    go_enter Tryd.func23, Tryd.ntmps23
    go_wp2
    go_returns
    exact ⟨rfl, Below.refl _ _⟩
def wholeL (ls : List (List Int)) : List Int := wholeV fun q => ls.getD q []
set_option maxRecDepth 100000 in
set_option maxHeartbeats 4000000 in
theorem pwhole_ok (v : Value) (ls : List (List Int)) (w : World) (hv : Rows w v ls) (h4 : ls.length = 4) (hb : badR ls = false) :
    Calls Tryd.prog 23 #[v] w fun e w' => ∃ v', e = .returned (.tuple #[v', .nilIface]) ∧ OwnInts w' w.heap.size v' (wholeL ls) ∧ Below w.heap.size w w' := by
  have hc := rcontains_any v ls w hv (by omega)
  rw [hb] at hc
  have HC := Lib.hid hc
  have HV := Lib.hid hv
  have HB : Hid (∀ k, k < ls.length → (ls.getD k []).length = 16) := fun k hk => badR_no hb hk
  have H4 := Lib.hid h4
  obtain ⟨ao, cap, rfl⟩ := hv.shape
  have h6 : ((ls.length : Int) != 4) = false := by simp [h4]
  have hl4 : ls.length ≤ 4 := by omega
  have hl4' : 4 ≤ ls.length := by omega
  clear hv h4 hb hc
  go_enter Tryd.func23, Tryd.ntmps23
  go_wp2_with fail
  refine HC.out.mono ?_
  rintro e w' ⟨rfl, rfl⟩
  go_wp2_with (at_make; refine wpList_make rfl _ _ rfl 64 rfl rfl rfl rfl (by omega) ?_)
  intro w1 hown hb1 hlt1
  have HO := Lib.hid (show OwnInts w1 w.heap.size (.slice (some ⟨w.heap.size, 0, none⟩) 64 64) (overTo (fun i => (ls.getD (kq i) []).getD (pq i) 0) (List.replicate 64 0) 0) from by rw [overTo_zero]; exact hown)
  clear hown
  go_wp2
  go_loopw [17] (fun i wr => ∃ n : Nat, n ≤ 64 ∧ i = .int .i64 n ∧ OwnInts wr w.heap.size (.slice (some ⟨w.heap.size, 0, none⟩) 64 64) (overTo (fun i => (ls.getD (kq i) []).getD (pq i) 0) (List.replicate 64 0) n) ∧ Below w.heap.size w wr) (fun i _ => 64 - (intOf i).toNat)
  case atStart => exact ⟨0, Nat.zero_le _, rfl, HO.out, hb1⟩
  case round =>
    obtain ⟨n, hn, rfl, hown, hbr⟩ := hrel
    by_cases hlt : n < 64
    · have hkl : kq n < ls.length := by have := kq_lt hlt; omega
      obtain ⟨b1, o1, p, rfl, c1, hp⟩ := (HV.out.ext hbr).at1 hkl
      obtain ⟨po, pc, rfl⟩ := hp.shape
      have h16 := HB.out _ hkl
      rw [h16] at c1 hp
      have hpl : pq n < 16 := pq_lt n
      obtain ⟨po', pc', e1, _, _, hin, _, h4⟩ := hp
      simp only [Value.slice.injEq] at e1
      obtain ⟨rfl, -, rfl⟩ := e1
      obtain ⟨b2, o2, rfl, c2⟩ := h4 (pq n) (by omega)
      have hx := getD_in64 hin (pq n)
      obtain ⟨-, -, -, hcell, hfz⟩ := hown.at
      have hc0 := hcell n (by simp [length_overTo]; omega)
      have hf0 := hfz n
      have HS := Lib.hid (show OwnInts (wr.setCell ⟨w.heap.size, n, none⟩ (.int .i64 ((ls.getD (kq n) []).getD (pq n) 0))) w.heap.size (.slice (some ⟨w.heap.size, 0, none⟩) 64 64) (overTo (fun i => (ls.getD (kq i) []).getD (pq i) 0) (List.replicate 64 0) (n + 1)) from by
        rw [← overTo_succ (by simp; omega)]; exact hown.set' n _ hx)
      have hkq := kq_int n
      have hpq := pq_int n
      have hkl4 := kq_lt hlt
      clear hcell hfz hown h4 hin hx h16
      generalize kq n = k at *
      generalize pq n = q at *
      generalize (ls.getD k []).getD q 0 = x at *
      generalize (overTo (fun i => (ls.getD (kq i) []).getD (pq i) 0) (List.replicate 64 0) n).getD n 0 = y at *
      go_wp2
      go_roundw
      case rel => exact ⟨n + 1, by omega, by go_num, HS.out, hbr.setCell (by simp) _⟩
      case measure => simp [intOf]; omega
    · have e : n = 64 := by omega
      have HS := Lib.hid (show OwnInts wr w.heap.size (.slice (some ⟨w.heap.size, 0, none⟩) 64 64) (wholeL ls) from by rw [e, overTo_all (by simp)] at hown; exact hown)
      clear e hown
      go_wp2
      go_returns
      exact ⟨_, rfl, HS.out, hbr⟩
end Go.Proofs.YtceobpoibiffhaaDoor
