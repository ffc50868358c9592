/- kinref7.Quarter (no square), kinref7.Whole, kinref.Lists: contracts. -/
import Derived.Test.YtceobpoibiffhaaDoorQuarter
set_option linter.unusedSimpArgs false
set_option linter.unusedVariables false
namespace Go.Proofs.YtceobpoibiffhaaDoor
open Go.RowKit

theorem rquarter_no (v : Value) (b : List Int) (w : World) (hv : Ints w v b) (hl : b.length ≠ 64) :
    Calls Tryd.prog 22 #[v] w fun e w' => e = .returned (.tuple #[.slice none 0 0, .agg #[.int .i64 14, .slice none 0 0]]) ∧ Below w.heap.size w w' := by
  have hn := hv.len
  obtain ⟨ao, cap, rfl⟩ := hv.shape
  have hq : ((b.length : Int) != 64) = true := by simp; omega
  clear hv hl
  go_enter Tryd.func22, Tryd.ntmps22
  go_wp2_with fail
  refine (fail_any _ _).mono ?_
  rintro e w1 ⟨rfl, hb1⟩
  have g1 : Below w.heap.size w w1 := ext (by go_grown) hb1
  obtain ⟨r0, r1, r2, r3⟩ := ((Blk.new w #[.int .i64 0, .slice none 0 0] 32).ext hb1).two
  go_wp2
  refine bodyPost_ret (by simp [results, Tryd.results22, go_sem, r0, r1, r2, r3]; try rfl) rfl ?_
  exact ⟨rfl, by go_grown⟩
theorem pq_int2 (i : Nat) : (i : Int) % 32 / 8 * 4 + (i : Int) % 4 = ((pq i : Nat) : Int) := by unfold pq; omega
def wholeE (ls : List (List Int)) : Int := if ls.length = 4 ∧ badR ls = false then 0 else 14
set_option maxRecDepth 100000 in
set_option maxHeartbeats 4000000 in
theorem rwhole_any (v : Value) (ls : List (List Int)) (w : World) (hv : Rows w v ls) (hl : ls.length ≤ 5000) :
    Calls Tryd.prog 24 #[v] w fun e w' => ∃ v', e = .returned (.tuple #[v', .agg #[.int .i64 (wholeE ls), .slice none 0 0]]) ∧ OwnInts w' w.heap.size v' (okL (wholeE ls) (wholeL ls)) ∧ Below w.heap.size w w' := by
  have HV := Lib.hid hv
  obtain ⟨ao, cap, rfl⟩ := hv.shape
  clear hv
  have R0 := Lib.hid (Blk.new w #[.int .i64 0, .slice none 0 0] 32)
  by_cases h4 : ls.length = 4
  · have h6 : ((ls.length : Int) != 4) = false := by simp [h4]
    have H4 := Lib.hid h4
    have hl4 : ls.length ≤ 4 := by omega
    have hl4' : 4 ≤ ls.length := by omega
    clear h4
    go_enter Tryd.func24, Tryd.ntmps24
    go_wp2
    go_loop [4] (fun i => ∃ k : Nat, k ≤ ls.length ∧ i = .int .i64 k ∧ ∀ j, j < k → (ls.getD j []).length = 16) (fun i => ls.length - (intOf i).toNat)
    case atStart => exact ⟨0, Nat.zero_le _, rfl, fun j hj => absurd hj (by omega)⟩
    case round =>
      obtain ⟨k, hk, rfl, hall⟩ := hrel
      have HALL := Lib.hid hall
      clear hall
      by_cases hlt : k < 4
      · have hlt' : k < ls.length := by omega
        obtain ⟨b, off, p, rfl, hc, hp⟩ := (HV.out.ext (w' := w.alloc (.cells #[.int .i64 0, .slice none 0 0] 32)) (by go_grown)).at1 hlt'
        obtain ⟨po, pc, rfl⟩ := hp.shape
        have hpl := hp.len
        have hbl : b < w.heap.size := by obtain ⟨b', o', p', e', c', _⟩ := HV.out.at1 hlt'; simp only [Option.some.injEq, Addr.mk.injEq] at e'; obtain ⟨rfl, -, -⟩ := e'; exact World.block_lt_of_cell? w _ c'
        have HB := Lib.hid (badR_hit hlt')
        clear hp
        generalize hx : ls.getD k [] = x at *
        have Hx := Lib.hid hx
        clear hx
        by_cases h16 : x.length = 16
        · have q1 : ((x.length : Int) != 16) = false := by simp [h16]
          have H16 := Lib.hid h16
          clear h16
          go_wp2
          go_round
          case rel =>
            refine ⟨k + 1, by omega, by go_num, fun j hj => ?_⟩
            by_cases e : j = k
            · rw [e, Hx.out]; exact H16.out
            · exact HALL.out j (by omega)
          case measure => simp [intOf]; omega
        · have q1 : ((x.length : Int) != 16) = true := by simp; omega
          have e1 : wholeE ls = 14 := by unfold wholeE; rw [HB.out h16]; simp
          have E1 := Lib.hid e1
          clear h16 HB e1
          go_wp2_with fail
          refine (fail_any _ _).mono ?_
          rintro e w1 ⟨rfl, hb1⟩
          have g1 : Below w.heap.size w w1 := ext (by go_grown) hb1
          obtain ⟨r0, r1, r2, r3⟩ := (R0.out.ext hb1).two
          go_wp2
          refine bodyPost_ret (by simp [results, Tryd.results24, go_sem, r0, r1, r2, r3]; try rfl) rfl ?_
          rw [E1.out, okL_ne (by decide)]
          exact ⟨_, rfl, OwnInts.nil _ _, by go_grown⟩
      · have e : k = ls.length := by omega
        have HB : Hid (∀ k, k < ls.length → (ls.getD k []).length = 16) := fun j hj => HALL.out j (by omega)
        have e1 : wholeE ls = 0 := by unfold wholeE; rw [badR_all HB.out]; simp [H4.out]
        have E1 := Lib.hid e1
        clear e e1 HALL
        go_wp2
        go_loopw [5, 6] (fun o i wr => ∃ n : Nat, n ≤ 64 ∧ i = .int .i64 n ∧ OwnInts wr (w.heap.size + 1) o (mapTo (fun i => (ls.getD (kq i) []).getD (pq i) 0) n) ∧ Below w.heap.size w wr ∧ w.heap.size + 1 ≤ wr.heap.size ∧ Blk wr w.heap.size #[.int .i64 0, .slice none 0 0] 32) (fun _ i _ => 64 - (intOf i).toNat)
        case atStart => exact ⟨0, Nat.zero_le _, rfl, OwnInts.nil _ _, by go_grown, by simp, R0.out⟩
        case round =>
          obtain ⟨n, hn, rfl, hown, hbr, hsz, hR⟩ := hrel
          have Hown := Lib.hid hown
          have RR := Lib.hid hR
          clear hown hR
          by_cases hlt : n < 64
          · have hkl : kq n < ls.length := by have := kq_lt hlt; omega
            obtain ⟨b1, o1, p, rfl, c1, hp⟩ := (HV.out.ext hbr).at1 hkl
            obtain ⟨po, pc, rfl⟩ := hp.shape
            have h16 := HB.out _ hkl
            rw [h16] at c1 hp
            have hpl : pq n < 16 := pq_lt n
            obtain ⟨po', pc', e1, _, _, hin, _, h4⟩ := hp
            simp only [Value.slice.injEq] at e1
            obtain ⟨rfl, -, rfl⟩ := e1
            obtain ⟨b2, o2, rfl, c2⟩ := h4 (pq n) (by omega)
            have hx := getD_in64 hin (pq n)
            have Hx64 := Lib.hid hx
            have HM := Lib.hid (mapTo_succ (fun i => (ls.getD (kq i) []).getD (pq i) 0) n)
            have Hlen := Lib.hid (show (mapTo (fun i => (ls.getD (kq i) []).getD (pq i) 0) n).length ≤ 1099511627776 from by rw [length_mapTo]; omega)
            have hkq := kq_int n
            have hpq := pq_int2 n
            have hkl4 := kq_lt hlt
            clear h4 hin hx h16
            generalize kq n = k at *
            generalize pq n = q at *
            generalize (ls.getD k []).getD q 0 = x at *
            go_wp2_with (at_builtin; refine wpList_app1 rfl (.tmp 26) (.tmp 46) rfl (w.heap.size + 1) _ _ x rfl Hown.out rfl (by simp) Hx64.out Hlen.out (by omega) ?_)
            intro v' w' hown' hb' hg'
            have Hown' := Lib.hid hown'
            have RW := Lib.hid (RR.out.grown hg' (Hown.out.ownNe (b := w.heap.size) (.inl (by omega))))
            have hs3 := hb'.size
            have hs4 := hg'.size
            clear hown' hg' Hown RR
            go_wp2
            go_roundw
            case rel => exact ⟨n + 1, by omega, by go_num, by rw [HM.out]; exact Hown'.out, hbr.trans (hb'.mono (by omega)), by omega, RW.out⟩
            case measure => simp [intOf]; omega
          · have e : n = 64 := by omega
            have HS := Lib.hid (show OwnInts wr (w.heap.size + 1) _ (wholeL ls) from by rw [e] at Hown; exact Hown.out)
            obtain ⟨r0, r1, r2, r3⟩ := RR.out.two
            clear e Hown
            go_wp2
            refine bodyPost_ret (by simp [results, Tryd.results24, go_sem, r0, r1, r2, r3]; try rfl) rfl ?_
            rw [E1.out, okL_zero rfl]
            exact ⟨_, rfl, ((HS.out.setOther (by simp) _).setOther (by simp) _).mono (by omega), by go_grown⟩
  · have h6 : ((ls.length : Int) != 4) = true := by simp; omega
    have e1 : wholeE ls = 14 := by unfold wholeE; simp [h4]
    rw [e1, okL_ne (by decide)]
    clear h4 e1
    go_enter Tryd.func24, Tryd.ntmps24
    go_wp2_with fail
    refine (fail_any _ _).mono ?_
    rintro e w1 ⟨rfl, hb1⟩
    have g1 : Below w.heap.size w w1 := ext (by go_grown) hb1
    obtain ⟨r0, r1, r2, r3⟩ := (R0.out.ext hb1).two
    go_wp2
    refine bodyPost_ret (by simp [results, Tryd.results24, go_sem, r0, r1, r2, r3]; try rfl) rfl ?_
    exact ⟨_, rfl, OwnInts.nil _ _, by go_grown⟩
set_option maxRecDepth 100000 in
set_option maxHeartbeats 2000000 in
/-- Two slices of lists that read as the same lists. -/
theorem lists_same (v u : Value) (ls : List (List Int)) (w : World) (hv : Rows w v ls) (hu : Rows w u ls) :
    Calls Tryd.prog 25 #[v, u] w fun e w' => e = .returned (.bool true) ∧ Below w.heap.size w w' := by
  have HV := Lib.hid hv
  have HU := Lib.hid hu
  have hn := hv.len
  obtain ⟨ao, cap, rfl⟩ := hv.shape
  obtain ⟨bo, cap2, rfl⟩ := hu.shape
  have h1 : ((ls.length : Int) != (ls.length : Int)) = false := by simp
  clear hv hu
  go_enter Tryd.func25, Tryd.ntmps25
  go_wp2
  go_loopw [5] (fun i wr => ∃ k : Nat, k ≤ ls.length ∧ i = .int .i64 k ∧ Below w.heap.size w wr) (fun i _ => ls.length - (intOf i).toNat)
  case atStart => exact ⟨0, Nat.zero_le _, rfl, Below.refl _ _⟩
  case round =>
    obtain ⟨k, hk, rfl, hb⟩ := hrel
    by_cases hlt : k < ls.length
    · obtain ⟨b1, o1, p1, rfl, c1, hp1⟩ := (HV.out.ext hb).at1 hlt
      obtain ⟨b2, o2, p2, rfl, c2, hp2⟩ := (HU.out.ext hb).at1 hlt
      have HP1 := Lib.hid hp1
      have HP2 := Lib.hid hp2
      have l1 : b1 < wr.heap.size := World.block_lt_of_cell? wr _ c1
      have l2 : b2 < wr.heap.size := World.block_lt_of_cell? wr _ c2
      obtain ⟨q1, q2, rfl⟩ := hp1.shape
      obtain ⟨q3, q4, rfl⟩ := hp2.shape
      clear hp1 hp2
      generalize ls.getD k [] = x at *
      go_wp2
      go_region_held3 (fun w' => w'.cell? ⟨b1, o1 + k, none⟩ = some (.slice q1 x.length q2) ∧ w'.cell? ⟨b2, o2 + k, none⟩ = some (.slice q3 x.length q4))
        (first | go_keep | exact ⟨(hbI.cell (p := ⟨b1, _, none⟩) l1).trans c1, (hbI.cell (p := ⟨b2, _, none⟩) l2).trans c2⟩)
        (first | (go_at_call 17; refine (ints_any _ _ x x _ ?_ ?_).mono ?_; exact HP1.out.ext (Below.refl _ _).drew; exact HP2.out.ext (Below.refl _ _).drew; rintro e w2 ⟨rfl, hbI⟩))
      have g2 : Below w.heap.size w w2 := ext hb.drew hbI
      clear c1 c2
      go_wp2
      go_roundw
      case rel => exact ⟨k + 1, by omega, by go_num, g2⟩
      case measure => simp [intOf]; omega
    · go_wp2
      go_returns
      exact ⟨rfl, hb⟩
end Go.Proofs.YtceobpoibiffhaaDoor
