/- kinref8.sums: contract. -/
import Derived.Test.YtmmhlojjipbceaaDoorWhtR
import Derived.Test.YtmmhlojjipbceaaDoorWhtS
import Derived.IntWalk
import Derived.Deep.RegionHeld3
import Derived.Outline
set_option linter.unusedSimpArgs false
set_option linter.unusedVariables false
namespace Go.Proofs.YtmmhlojjipbceaaDoor
open Go.RowKit
open T

/-- The innermost round: what the region does. -/
def Inner (v u y x n bl : Nat) : Prop := v < n ∧ u < n ∧ y < n ∧ x < n ∧ (n = 4 ∨ n = 8) ∧ bl = n * n
theorem Inner.facts {v u y x n bl : Nat} (h : Inner v u y x n bl) :
    IntKind.i64.wrap ((v : Int) * n) = (v : Int) * n ∧ IntKind.i64.wrap ((v : Int) * n + u) = (v : Int) * n + u ∧ ((v : Int) * n + u).toNat = v * n + u ∧ 0 ≤ (v : Int) * n + u ∧ (v : Int) * n + u < ((n * n : Nat) : Int) ∧
    IntKind.i64.wrap ((y : Int) * n) = (y : Int) * n ∧ IntKind.i64.wrap ((y : Int) * n + x) = (y : Int) * n + x ∧ ((y : Int) * n + x).toNat = y * n + x ∧ 0 ≤ (y : Int) * n + x ∧ (y : Int) * n + x < (bl : Int) ∧ v * n + u < n * n ∧ y * n + x < bl := by
  obtain ⟨h1, h2, h3, h4, rfl | rfl, rfl⟩ := h
  · exact ⟨IntWalk.i64_in _ (by omega), IntWalk.i64_in _ (by omega), by omega, by omega, by omega, IntWalk.i64_in _ (by omega), IntWalk.i64_in _ (by omega), by omega, by omega, by omega, by omega, by omega⟩
  · exact ⟨IntWalk.i64_in _ (by omega), IntWalk.i64_in _ (by omega), by omega, by omega, by omega, IntWalk.i64_in _ (by omega), IntWalk.i64_in _ (by omega), by omega, by omega, by omega, by omega, by omega⟩

set_option maxRecDepth 100000 in
set_option maxHeartbeats 8000000 in
theorem rsums (vb : Value) (b : List Int) (n : Nat) (w : World) (hv : Ints w vb b) (hn : n = 4 ∨ n = 8) (hb : b.length = n * n) (hM : Bd 16777216 b) :
    Calls Tryd.prog 25 #[vb, .int .i64 n] w fun e w' => ∃ v', e = .returned v' ∧ OwnInts w' w.heap.size v' (sumsTo b n (n * n)) ∧ Below w.heap.size w w' := by
  obtain ⟨ao, cap, rfl, h1, h2, h3, h5, h4⟩ := hv
  have H4 := Lib.hid h4
  have HM := Lib.hid hM
  have HL := Lib.hid hb
  have HN := Lib.hid hn
  have hn8 : n ≤ 8 := by omega
  have hn4 : 4 ≤ n := by omega
  have hnn : (n : Int) * n ≤ 64 ∧ 16 ≤ (n : Int) * n := by rcases hn with rfl | rfl <;> decide
  have hnn' : n * n ≤ 64 := by rcases hn with rfl | rfl <;> decide
  obtain ⟨hnn1, hnn2⟩ := hnn
  have hNN : ∃ NN, NN = n * n := ⟨_, rfl⟩
  obtain ⟨NN, hNN⟩ := hNN
  have HNN := Lib.hid hNN
  have hNN1 : NN ≤ 64 := by omega
  clear h1 h2 h3 h4 h5 hM hb hn hNN
  generalize b.length = bl at *
  go_enter Tryd.func25, Tryd.ntmps25
  go_wp2_with (at_make; refine wpList_make rfl (.tmp 12) (.tmp 12) rfl NN rfl rfl (by rw [HNN.out]; simp) (by rw [HNN.out]; simp) (by omega) ?_)
  intro w1 hown hb1 hlt1
  have HO := Lib.hid (show OwnInts w1 w.heap.size (.slice (some ⟨w.heap.size, 0, none⟩) NN NN) (sumsTo b n 0) from by rw [sumsTo_zero, ← HNN.out]; exact hown)
  clear hown
  go_wp2
  go_loopw [6, 7, 8, 9] (fun v _ _ _ wr => ∃ k : Nat, k ≤ n ∧ v = .int .i64 k ∧ OwnInts wr w.heap.size (.slice (some ⟨w.heap.size, 0, none⟩) NN NN) (sumsTo b n (k * n)) ∧ Below w.heap.size w wr) (fun v _ _ _ _ => n - (intOf v).toNat)
  case atStart => exact ⟨0, by omega, rfl, by rw [Nat.zero_mul]; exact HO.out, hb1⟩
  case round =>
    obtain ⟨v, hv, rfl, hown, hbr⟩ := hrel
    obtain ⟨wa, rfl⟩ : ∃ wa : World, wa = wr := ⟨_, rfl⟩
    have HO1 := Lib.hid hown
    have hba := hbr
    clear hown
    by_cases hlv : v < n
    · go_wp2
      go_loopw [7, 8, 9] (fun u _ _ wr => ∃ k : Nat, k ≤ n ∧ u = .int .i64 k ∧ OwnInts wr w.heap.size (.slice (some ⟨w.heap.size, 0, none⟩) NN NN) (sumsTo b n (v * n + k)) ∧ Below w.heap.size w wr) (fun u _ _ _ => n - (intOf u).toNat)
      case atStart => exact ⟨0, by omega, rfl, HO1.out, hba⟩
      case round =>
        obtain ⟨u, hu, rfl, hown, hbr⟩ := hrel
        obtain ⟨wb, rfl⟩ : ∃ wb : World, wb = wr := ⟨_, rfl⟩
        have HO2 := Lib.hid hown
        have hbb := hbr
        clear hown
        by_cases hlu : u < n
        · have HK : Hid (v * n + u < n * n) := by
            show _ < _
            rcases HN.out with rfl | rfl <;> omega
          have HO3 := Lib.hid (show OwnInts wb w.heap.size (.slice (some ⟨w.heap.size, 0, none⟩) NN NN) ((sumsTo b n (v * n + u)).set (v * n + u) (grid b n v u 0)) from by
            show OwnInts _ _ _ ((sumsTo b n (v * n + u)).set (v * n + u) 0)
            rw [← sumsTo_open HK.out]; exact HO2.out)
          clear HO2
          go_wp2
          go_loopw [8, 9] (fun y _ wr => ∃ k : Nat, k ≤ n ∧ y = .int .i64 k ∧ OwnInts wr w.heap.size (.slice (some ⟨w.heap.size, 0, none⟩) NN NN) ((sumsTo b n (v * n + u)).set (v * n + u) (grid b n v u k)) ∧ Below w.heap.size w wr) (fun y _ _ => n - (intOf y).toNat)
          case atStart => exact ⟨0, by omega, rfl, HO3.out, hbb⟩
          case round =>
            obtain ⟨y, hy, rfl, hown, hbr⟩ := hrel
            obtain ⟨wc, rfl⟩ : ∃ wc : World, wc = wr := ⟨_, rfl⟩
            have HO4 := Lib.hid hown
            have hbc := hbr
            clear hown
            by_cases hly : y < n
            · have HO5 := Lib.hid (show OwnInts wc w.heap.size (.slice (some ⟨w.heap.size, 0, none⟩) NN NN) ((sumsTo b n (v * n + u)).set (v * n + u) (grid b n v u y + row b n v u y 0)) from by
                rw [show row b n v u y 0 = 0 from rfl, Int.add_zero]; exact HO4.out)
              clear HO4
              go_wp2
              go_loopw [9] (fun x wr => ∃ k : Nat, k ≤ n ∧ x = .int .i64 k ∧ OwnInts wr w.heap.size (.slice (some ⟨w.heap.size, 0, none⟩) NN NN) ((sumsTo b n (v * n + u)).set (v * n + u) (grid b n v u y + row b n v u y k)) ∧ Below w.heap.size w wr) (fun x _ => n - (intOf x).toNat)
              case atStart => exact ⟨0, by omega, rfl, HO5.out, hbc⟩
              case round =>
                obtain ⟨x, hx, rfl, hown, hbr⟩ := hrel
                have HO6 := Lib.hid hown
                by_cases hlx : x < n
                · have hin : Inner v u y x n bl := ⟨hlv, hlu, hly, hlx, HN.out, HL.out⟩
                  obtain ⟨q1, q2, q3, q4, q5, r1, r2, r3, r4, r5, k1, k2⟩ := hin.facts
                  rw [← HNN.out] at q5
                  obtain ⟨bb, off, rfl, hcell⟩ := H4.out (y * n + x) k2
                  have hbl := World.block_lt_of_cell? w _ hcell
                  have hne : bb ≠ w.heap.size := by simp at hbl; omega
                  have hne2 : ¬ w.heap.size = bb := by simp at hbl; omega
                  clear hbl
                  replace hcell := (hbr.cell (p := ⟨bb, off + (y * n + x), none⟩) (World.block_lt_of_cell? w _ hcell)).trans hcell
                  have hbd := HM.out (y * n + x)
                  have hgb := grid_bd HM.out (n := n) (k := y) (by omega) (by omega) v u
                  have hrb := row_bd HM.out (n := n) (k := x) (by omega) v u y
                  obtain ⟨-, -, -, hco, hfz⟩ := hown.at
                  have hco := hco (v * n + u) (by rw [List.length_set, length_sumsTo]; exact k1)
                  have hfz := hfz (v * n + u)
                  have eget : ((sumsTo b n (v * n + u)).set (v * n + u) (grid b n v u y + row b n v u y x)).getD (v * n + u) 0 = grid b n v u y + row b n v u y x := by
                    rw [getD_set, if_pos ⟨rfl, by rw [length_sumsTo]; exact k1⟩]
                  rw [eget] at hco
                  have hnew := row_succ b n v u y x
                  unfold term at hnew
                  have hs1 := fun w => rsign u x w (by omega) (by omega)
                  have hs2 := fun w => rsign v y w (by omega) (by omega)
                  have hc1 : -16777216 ≤ b.getD (y * n + x) 0 * sgn u x ∧ b.getD (y * n + x) 0 * sgn u x ≤ 16777216 := by
                    rcases sgn_cases u x with h1 | h1 <;> rw [h1] <;> omega
                  have hc2 : -16777216 ≤ b.getD (y * n + x) 0 * sgn u x * sgn v y ∧ b.getD (y * n + x) 0 * sgn u x * sgn v y ≤ 16777216 := by
                    rcases sgn_cases v y with h1 | h1 <;> rw [h1] <;> omega
                  clear hown eget H4 hin k1 k2
                  generalize sgn u x = su at *
                  generalize sgn v y = sv at *
                  generalize hT : b.getD (y * n + x) 0 = t at *
                  generalize hG : grid b n v u y + row b n v u y x = s at *
                  have t1 : IntKind.i64.wrap (t * su) = t * su := IntWalk.i64_in _ (by omega)
                  have t2 : IntKind.i64.wrap (t * su * sv) = t * su * sv := IntWalk.i64_in _ (by omega)
                  have t3 : IntKind.i64.wrap (s + t * su * sv) = s + t * su * sv := IntWalk.i64_in _ (by omega)
                  have hin' : -9223372036854775808 ≤ s + t * su * sv ∧ s + t * su * sv ≤ 9223372036854775807 := by omega
                  have Hin := Lib.hid hin'
                  have Hnew : Hid (grid b n v u y + row b n v u y (x + 1) = s + t * su * sv) := by show _ = _; rw [hnew, ← hG]; omega
                  have Hs1 := Lib.hid hs1
                  have Hs2 := Lib.hid hs2
                  clear hnew hs1 hs2 hT hG hgb hrb hbd hc1 hc2 hin' hnn1 hnn2 hnn'
                  go_wp2
                  have HO7 := Lib.hid (show OwnInts (wr.setCell ⟨w.heap.size, v * n + u, none⟩ (.int .i64 (s + t * su * sv))) w.heap.size (.slice (some ⟨w.heap.size, 0, none⟩) NN NN) ((sumsTo b n (v * n + u)).set (v * n + u) (grid b n v u y + row b n v u y (x + 1))) from by
                    have := HO6.out.set' (v * n + u) (s + t * su * sv) Hin.out
                    rw [List.set_set] at this
                    rw [Hnew.out]; exact this)
                  clear HO6 Hin Hnew
                  go_region_with (first | (go_at_call 18; (with_reducible refine (Hs1.out _).mono ?_); rintro e w' ⟨rfl, rfl⟩) | (go_at_call 18; (with_reducible refine (Hs2.out _).mono ?_); rintro e w' ⟨rfl, rfl⟩))
                  all_goals
                    clear q1 q2 q3 q4 q5 r1 r2 r3 r4 r5 t1 t2 t3
                    go_wp2
                    go_roundw
                    case rel => exact ⟨x + 1, by omega, by go_num, HO7.out, by first | exact hbr.setCell (by simp) _ | exact (hbr.setCell (by simp) _).drew⟩
                    case measure => simp [intOf]; omega
                · have ex : x = n := by omega
                  have HO8 := Lib.hid (show OwnInts wr w.heap.size (.slice (some ⟨w.heap.size, 0, none⟩) NN NN) ((sumsTo b n (v * n + u)).set (v * n + u) (grid b n v u (y + 1))) from by
                    rw [grid_succ, ← ex]; rw [ex]; rw [ex] at hown; exact hown)
                  clear hown HO6 ex
                  go_wp2
                  go_roundw
                  case rel => exact ⟨y + 1, by omega, by go_num, HO8.out, hbr⟩
                  case measure => simp [intOf]; omega
            · have ey : y = n := by omega
              have HO8 := Lib.hid (show OwnInts wc w.heap.size (.slice (some ⟨w.heap.size, 0, none⟩) NN NN) (sumsTo b n (v * n + (u + 1))) from by
                have := HO4.out
                rw [ey, sumsTo_shut hlu HK.out] at this
                exact this)
              clear HO4 ey
              go_wp2
              go_roundw
              case rel => exact ⟨u + 1, by omega, by go_num, HO8.out, hbc⟩
              case measure => simp [intOf]; omega
        · have eu : u = n := by omega
          have HO8 := Lib.hid (show OwnInts wb w.heap.size (.slice (some ⟨w.heap.size, 0, none⟩) NN NN) (sumsTo b n ((v + 1) * n)) from by
            have := HO2.out
            rw [eu] at this
            rw [Nat.succ_mul]; exact this)
          clear HO2 eu
          go_wp2
          go_roundw
          case rel => exact ⟨v + 1, by omega, by go_num, HO8.out, hbb⟩
          case measure => simp [intOf]; omega
    · have ev : v = n := by omega
      have HO8 := Lib.hid (show OwnInts wa w.heap.size (.slice (some ⟨w.heap.size, 0, none⟩) NN NN) (sumsTo b n (n * n)) from by
        have := HO1.out
        rw [ev] at this; exact this)
      clear HO1 ev
      go_wp2
      go_returns
      exact ⟨_, rfl, HO8.out, hba⟩
end Go.Proofs.YtmmhlojjipbceaaDoor
