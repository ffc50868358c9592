/- The signs, the law's own lists. -/
import Derived.Test.YtmmhlojjipbceaaDoorWhtI
set_option linter.unusedSimpArgs false
set_option linter.unusedVariables false
namespace Go.Proofs.YtmmhlojjipbceaaDoor
open Go.RowKit
open T

set_option maxRecDepth 100000 in
theorem ones0 (w : World) : Calls Tryd.prog 31 #[.int .u64 0] w fun e w' => e = .returned (.int .i64 0) ∧ w = w' := by
  go_enter Tryd.func31, Tryd.ntmps31
  go_wp2
  go_returns
  exact ⟨by kernel_rfl, rfl⟩

set_option maxRecDepth 100000 in
theorem ones1 (w : World) : Calls Tryd.prog 31 #[.int .u64 1] w fun e w' => e = .returned (.int .i64 1) ∧ w = w' := by
  go_enter Tryd.func31, Tryd.ntmps31
  go_wp2
  go_returns
  exact ⟨by kernel_rfl, rfl⟩

set_option maxRecDepth 100000 in
theorem ones2 (w : World) : Calls Tryd.prog 31 #[.int .u64 2] w fun e w' => e = .returned (.int .i64 1) ∧ w = w' := by
  go_enter Tryd.func31, Tryd.ntmps31
  go_wp2
  go_returns
  exact ⟨by kernel_rfl, rfl⟩

set_option maxRecDepth 100000 in
theorem ones3 (w : World) : Calls Tryd.prog 31 #[.int .u64 3] w fun e w' => e = .returned (.int .i64 2) ∧ w = w' := by
  go_enter Tryd.func31, Tryd.ntmps31
  go_wp2
  go_returns
  exact ⟨by kernel_rfl, rfl⟩

set_option maxRecDepth 100000 in
theorem ones4 (w : World) : Calls Tryd.prog 31 #[.int .u64 4] w fun e w' => e = .returned (.int .i64 1) ∧ w = w' := by
  go_enter Tryd.func31, Tryd.ntmps31
  go_wp2
  go_returns
  exact ⟨by kernel_rfl, rfl⟩

set_option maxRecDepth 100000 in
theorem ones5 (w : World) : Calls Tryd.prog 31 #[.int .u64 5] w fun e w' => e = .returned (.int .i64 2) ∧ w = w' := by
  go_enter Tryd.func31, Tryd.ntmps31
  go_wp2
  go_returns
  exact ⟨by kernel_rfl, rfl⟩

set_option maxRecDepth 100000 in
theorem ones6 (w : World) : Calls Tryd.prog 31 #[.int .u64 6] w fun e w' => e = .returned (.int .i64 2) ∧ w = w' := by
  go_enter Tryd.func31, Tryd.ntmps31
  go_wp2
  go_returns
  exact ⟨by kernel_rfl, rfl⟩

set_option maxRecDepth 100000 in
theorem ones7 (w : World) : Calls Tryd.prog 31 #[.int .u64 7] w fun e w' => e = .returned (.int .i64 3) ∧ w = w' := by
  go_enter Tryd.func31, Tryd.ntmps31
  go_wp2
  go_returns
  exact ⟨by kernel_rfl, rfl⟩

def pop (n : Nat) : Nat := (n &&& 1) + ((n >>> 1) &&& 1) + ((n >>> 2) &&& 1)
theorem ones_any (n : Nat) (h : n < 8) (w : World) : Calls Tryd.prog 31 #[.int .u64 n] w fun e w' => e = .returned (.int .i64 (pop n)) ∧ w = w' := by
  match n, h with
  | 0, _ => exact ones0 w
  | 1, _ => exact ones1 w
  | 2, _ => exact ones2 w
  | 3, _ => exact ones3 w
  | 4, _ => exact ones4 w
  | 5, _ => exact ones5 w
  | 6, _ => exact ones6 w
  | 7, _ => exact ones7 w

def odd1 (n : Nat) : Int := if n % 2 = 1 then -1 else 1
theorem sgn_pop : ∀ u : Fin 8, ∀ x : Fin 8, sgn u.val x.val = odd1 (pop (u.val &&& x.val)) ∧ u.val &&& x.val < 8 ∧ pop (u.val &&& x.val) ≤ 3 := by decide
theorem sgn_comm (u x : Nat) : sgn u x = sgn x u := by
  unfold sgn
  simp only [and_comm]

set_option maxRecDepth 100000 in
theorem psign_in (u x : Nat) (w : World) (hu : u < 8) (hx : x < 8) :
    Calls Tryd.prog 17 #[.int .i64 u, .int .i64 x] w fun e w' => e = .returned (.int .i64 (sgn u x)) ∧ w = w' := by
  obtain ⟨hs, hn, hp⟩ := sgn_pop ⟨u, hu⟩ ⟨x, hx⟩
  have hand := i64_and_nat u x (by omega) (by omega)
  simp only at hs hn hp
  generalize u &&& x = n at *
  have H1 := Lib.hid (ones_any n hn)
  rw [hs]
  have hodd : Hid (odd1 (pop n) = if pop n % 2 = 1 then -1 else 1) := rfl
  generalize pop n = p at *
  have hp4 : p = 0 ∨ p = 1 ∨ p = 2 ∨ p = 3 := by omega
  clear hs hp
  rcases hp4 with rfl | rfl | rfl | rfl
  all_goals
    go_enter Tryd.func17, Tryd.ntmps17
    go_wp2_with fail
    refine (H1.out _).mono ?_
    rintro e w' ⟨rfl, rfl⟩
    go_wp2
    go_returns
    refine ⟨congrArg (fun z => Ending.returned (Value.int IntKind.i64 z)) (?_ : wrap64 (1 - wrap64 (2 * bits .and .i64 _ 1)) = _), rfl⟩
    kernel_rfl

def out8 (u x : Int) : Prop := u < 0 ∨ (0 ≤ u ∧ 7 < u) ∨ (0 ≤ u ∧ u ≤ 7 ∧ x < 0) ∨ (0 ≤ u ∧ u ≤ 7 ∧ 0 ≤ x ∧ 7 < x)

theorem psign_out (u x : Int) (w : World) (h : out8 u x) :
    Calls Tryd.prog 17 #[.int .i64 u, .int .i64 x] w fun e w' => e = .returned (.int .i64 0) ∧ w = w' := by
  rcases h with h | ⟨h1, h2⟩ | ⟨h1, h2, h3⟩ | ⟨h1, h2, h3, h4⟩
  all_goals
    go_enter Tryd.func17, Tryd.ntmps17
    go_wp2
    go_returns
    exact ⟨rfl, rfl⟩

theorem rsign_out (u x : Int) (w : World) (h : out8 u x) :
    Calls Tryd.prog 18 #[.int .i64 u, .int .i64 x] w fun e w' => e = .returned (.int .i64 0) ∧ w = w' := by
  rcases h with h | ⟨h1, h2⟩ | ⟨h1, h2, h3⟩ | ⟨h1, h2, h3, h4⟩
  all_goals
    go_enter Tryd.func18, Tryd.ntmps18
    go_wp2
    go_returns
    exact ⟨rfl, rfl⟩

def sgnI (u x : Int) : Int := if 0 ≤ u ∧ u ≤ 7 ∧ 0 ≤ x ∧ x ≤ 7 then sgn u.toNat x.toNat else 0
theorem sgnI_comm (u x : Int) : sgnI u x = sgnI x u := by
  unfold sgnI
  by_cases h : 0 ≤ u ∧ u ≤ 7 ∧ 0 ≤ x ∧ x ≤ 7
  · rw [if_pos h, if_pos ⟨h.2.2.1, h.2.2.2, h.1, h.2.1⟩, sgn_comm]
  · rw [if_neg h, if_neg (fun g => h ⟨g.2.2.1, g.2.2.2, g.1, g.2.1⟩)]

theorem psign_any (u x : Int) (w : World) :
    Calls Tryd.prog 17 #[.int .i64 u, .int .i64 x] w fun e w' => e = .returned (.int .i64 (sgnI u x)) ∧ w = w' := by
  by_cases h : 0 ≤ u ∧ u ≤ 7 ∧ 0 ≤ x ∧ x ≤ 7
  · unfold sgnI
    rw [if_pos h]
    obtain ⟨h1, h2, h3, h4⟩ := h
    obtain ⟨a, rfl⟩ := Int.eq_ofNat_of_zero_le h1
    obtain ⟨b, rfl⟩ := Int.eq_ofNat_of_zero_le h3
    exact psign_in a b w (by omega) (by omega)
  · unfold sgnI
    rw [if_neg h]
    exact psign_out u x w (by unfold out8; omega)

theorem rsign_any (u x : Int) (w : World) :
    Calls Tryd.prog 18 #[.int .i64 u, .int .i64 x] w fun e w' => e = .returned (.int .i64 (sgnI u x)) ∧ w = w' := by
  by_cases h : 0 ≤ u ∧ u ≤ 7 ∧ 0 ≤ x ∧ x ≤ 7
  · unfold sgnI
    rw [if_pos h]
    obtain ⟨h1, h2, h3, h4⟩ := h
    obtain ⟨a, rfl⟩ := Int.eq_ofNat_of_zero_le h1
    obtain ⟨b, rfl⟩ := Int.eq_ofNat_of_zero_le h3
    exact rsign a b w (by omega) (by omega)
  · unfold sgnI
    rw [if_neg h]
    exact rsign_out u x w (by unfold out8; omega)

def fillTo (n k : Nat) (v : Int) : List Int := (List.range n).map fun i => if i < k then v else 0
theorem length_fillTo (n k : Nat) (v : Int) : (fillTo n k v).length = n := by simp [fillTo]
theorem fillTo_zero (n : Nat) (v : Int) : fillTo n 0 v = List.replicate n 0 := by
  refine List.ext_getElem (by simp [fillTo]) fun i h1 h2 => ?_
  simp [fillTo]
theorem fillTo_all (n : Nat) (v : Int) : fillTo n n v = List.replicate n v := by
  refine List.ext_getElem (by simp [fillTo]) fun i h1 h2 => ?_
  simp only [length_fillTo] at h1
  simp [fillTo, h1]
theorem fillTo_succ {n k : Nat} (v : Int) : (fillTo n k v).set k v = fillTo n (k + 1) v := by
  refine List.ext_getElem (by simp [fillTo]) fun i h1 h2 => ?_
  rw [List.getElem_set]
  simp only [fillTo, List.getElem_map, List.getElem_range]
  by_cases e : k = i
  · rw [if_pos e, if_pos (by omega)]
  · rw [if_neg e]
    by_cases l : i < k
    · rw [if_pos l, if_pos (by omega)]
    · rw [if_neg l, if_neg (by omega)]

set_option maxHeartbeats 1000000 in
theorem all_any (n : Nat) (v : Int) (w : World) (hn : n ≤ 64) (h1 : -9223372036854775808 ≤ v) (h2 : v ≤ 9223372036854775807) :
    Calls Tryd.prog 20 #[.int .i64 n, .int .i64 v] w fun e w' => ∃ v', e = .returned v' ∧ OwnInts w' w.heap.size v' (List.replicate n v) ∧ Below w.heap.size w w' := by
  go_enter Tryd.func20, Tryd.ntmps20
  go_wp2_with (at_make; refine wpList_make rfl (.tmp 7) (.tmp 7) rfl n rfl rfl rfl rfl (by omega) ?_)
  intro w1 hown hb1 hlt1
  have HO := Lib.hid (show OwnInts w1 w.heap.size (.slice (some ⟨w.heap.size, 0, none⟩) n n) (fillTo n 0 v) from by rw [fillTo_zero]; exact hown)
  clear hown
  go_wp2
  go_loopw [6] (fun i wr => ∃ k : Nat, k ≤ n ∧ i = .int .i64 k ∧ OwnInts wr w.heap.size (.slice (some ⟨w.heap.size, 0, none⟩) n n) (fillTo n k v) ∧ Below w.heap.size w wr) (fun i _ => n - (intOf i).toNat)
  case atStart => exact ⟨0, by omega, rfl, HO.out, hb1⟩
  case round =>
    obtain ⟨k, hk, rfl, hown, hbr⟩ := hrel
    have HO1 := Lib.hid hown
    by_cases hkl : k < n
    · obtain ⟨-, -, -, hcell, hfz⟩ := hown.at
      have hca := hcell k (by rw [length_fillTo]; exact hkl)
      have hfa := hfz k
      have HO2 := Lib.hid (show OwnInts (wr.setCell ⟨w.heap.size, k, none⟩ (.int .i64 v)) w.heap.size (.slice (some ⟨w.heap.size, 0, none⟩) n n) (fillTo n (k + 1) v) from by
        rw [← fillTo_succ]
        exact HO1.out.set' k _ ⟨h1, h2⟩)
      clear hown hcell hfz HO1
      go_wp2
      go_roundw
      case rel => exact ⟨k + 1, by omega, by go_num, HO2.out, hbr.setCell (by simp) _⟩
      case measure => simp [intOf]; omega
    · have ek : k = n := by omega
      have HO2 := Lib.hid (show OwnInts wr w.heap.size (.slice (some ⟨w.heap.size, 0, none⟩) n n) (List.replicate n v) from by
        rw [ek, fillTo_all] at hown; exact hown)
      clear hown HO1 ek
      go_wp2
      go_returns
      exact ⟨_, rfl, HO2.out, hbr⟩
end Go.Proofs.YtmmhlojjipbceaaDoor
