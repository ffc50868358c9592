/- plane.New, Get; kinref6.New, Get: contracts. -/
import Derived.Test.YtmdpfjjbehpnbaaDoorPlaneD
set_option linter.unusedSimpArgs false
set_option linter.unusedVariables false
namespace Go.Proofs.YtmdpfjjbehpnbaaDoor
open Go.RowKit

/-- What New answers. -/
def newB (W H v : Int) : Bool := sideB W && (sideB H && (decide (0 ≤ v) && decide (v ≤ 255)))
theorem newB_iff {W H v : Int} : newB W H v = true ↔ sideB W = true ∧ sideB H = true ∧ 0 ≤ v ∧ v ≤ 255 := by
  unfold newB; simp only [Bool.and_eq_true, decide_eq_true_eq]
theorem newB_wh {W H v : Int} (h : newB W H v = true) : ∃ n : Nat, W * H = n ∧ 64 ≤ n ∧ n ≤ 1024 := by
  obtain ⟨h1, h2, _⟩ := newB_iff.1 h
  rcases sideB_bd h1 with rfl | rfl | rfl | rfl <;> rcases sideB_bd h2 with rfl | rfl | rfl | rfl
  all_goals exact ⟨_, rfl, by decide, by decide⟩
theorem new_may {W H v : Int} {n : Nat} (h : newB W H v = true) (hn : W * H = n) : May W H (mapTo (fun _ => v) n) := by
  obtain ⟨h1, h2, h3, h4⟩ := newB_iff.1 h
  exact ⟨sideB_bd h1, sideB_bd h2, by rw [length_mapTo, hn], by rw [within_mapTo]; intro i _; exact ⟨h3, h4⟩⟩
theorem getB_iff {W H : Int} {pix : List Int} {x y n : Int} : getB W H pix x y n = true ↔ May W H pix ∧ 1 ≤ n ∧ n ≤ 8 ∧ -65536 ≤ x ∧ x ≤ 65536 ∧ -65536 ≤ y ∧ y ≤ 65536 := by
  unfold getB; simp only [Bool.and_eq_true, decide_eq_true_eq, mayB_iff]




set_option maxRecDepth 100000 in
set_option maxHeartbeats 4000000 in
theorem pget_ok (fv : Value) (W H : Int) (pix : List Int) (x y : Int) (n : Nat) (w : World) (hv : FrameV w fv W H pix) (h : getB W H pix x y n = true) :
    Calls Tryd.prog 46 #[fv, .int .i64 x, .int .i64 y, .int .i64 n] w fun e w' => ∃ v', e = .returned v' ∧ OwnInts w' w.heap.size v' (getV W H pix x y n) ∧ Below w.heap.size w w' := by
  obtain ⟨hm, n1, n2, x1, x2, y1, y2⟩ := getB_iff.1 h
  have cm := fun w hv => pmay_any fv W H pix w hv
  rw [mayB_iff.2 hm] at cm
  have CA := Lib.hid (fun x y w hv => pat_any fv W H pix x y w hv hm)
  have HA := Lib.hid (fun x y => atV_bd hm x y)
  have CM := Lib.hid cm
  have HV := Lib.hid hv
  obtain ⟨ao, cap, rfl, hp⟩ := hv.cells
  have hn1 : 1 ≤ n := by omega
  have hn2 : n ≤ 8 := by omega
  have hnn : n * n ≤ 64 := Nat.mul_le_mul hn2 hn2
  have BX := Lib.hid (Blk.new w #[.int .i64 W, .int .i64 H, .slice ao pix.length cap] 24)
  clear cm hv hp hm h n1 n2
  go_enter Tryd.func46, Tryd.ntmps46
  go_wp2_with fail
  refine (CM.out _ (HV.out.ext (by go_grown))).mono ?_
  rintro e w1 ⟨rfl, hb1⟩
  have g1 : Below w.heap.size w w1 := ext (by go_grown) hb1
  have B1 := Lib.hid (BX.out.ext hb1)
  have s1 : w.heap.size + 1 ≤ w1.heap.size := by have := hb1.size; simp at this; omega
  go_wp2
  go_loopw [9, 40] (fun o j wr => ∃ k : Nat, k ≤ n ∧ j = .int .i64 k ∧ OwnInts wr w1.heap.size o (mapTo (getAt W H pix x y n) (k * n)) ∧ Below w1.heap.size w1 wr) (fun _ j _ => n - (intOf j).toNat)
  case atStart => exact ⟨0, Nat.zero_le _, rfl, by rw [Nat.zero_mul]; exact OwnInts.nil _ _, Below.refl _ _⟩
  case round =>
    obtain ⟨j, hj, rfl, hown, hbr⟩ := hrel
    obtain ⟨wo, rfl⟩ : ∃ wo : World, wo = wr := ⟨_, rfl⟩
    have HO := Lib.hid hown
    have hbo := hbr
    clear hown
    by_cases hlj : j < n
    · have HO1 := Lib.hid (show OwnInts wo w1.heap.size _ (mapTo (getAt W H pix x y n) (j * n + 0)) from HO.out)
      clear HO
      go_wp2
      go_loopw [9, 44] (fun o i wr => ∃ k : Nat, k ≤ n ∧ i = .int .i64 k ∧ OwnInts wr w1.heap.size o (mapTo (getAt W H pix x y n) (j * n + k)) ∧ Below w1.heap.size w1 wr) (fun _ i _ => n - (intOf i).toNat)
      case atStart => exact ⟨0, Nat.zero_le _, rfl, HO1.out, hbo⟩
      case round =>
        obtain ⟨i, hi, rfl, hown, hbr⟩ := hrel
        have HO2 := Lib.hid hown
        clear hown
        by_cases hli : i < n
        · have c0 : _ = some _ := (B1.out.ext hbr).cell 0
          have c1 : _ = some _ := (B1.out.ext hbr).cell 1
          have c2 : _ = some _ := (B1.out.ext hbr).cell 2
          have hgt := getAt_at (W := W) (H := H) (pix := pix) (x := x) (y := y) (j := j) hli
          have hms := mapTo_succ (getAt W H pix x y n) (j * n + i)
          rw [hgt] at hms
          have HMS := Lib.hid hms
          have CC := Lib.hid (CA.out (x + i) (y + j))
          have hbd := HA.out (x + i) (y + j)
          have hlen : j * n + i ≤ 64 := Nat.le_trans (Nat.add_le_add_left (Nat.le_of_lt hli) _) (by rw [← Nat.succ_mul]; exact Nat.le_trans (Nat.mul_le_mul_right _ hlj) hnn)
          have Hlen := Lib.hid (show (mapTo (getAt W H pix x y n) (j * n + i)).length ≤ 1099511627776 from by rw [length_mapTo]; omega)
          clear hgt hms hlen hnn
          generalize atV W H pix (x + i) (y + j) = z at *
          have Hz := Lib.hid (show in64 z from by unfold in64; omega)
          clear hbd
          have sb := hbr.size
          go_wp2_with fail
          clear c0 c1 c2
          refine (CC.out _ ((HV.out.ext g1).ext (ext hbr (by go_grown)))).mono ?_
          rintro e w3 ⟨rfl, hb3⟩
          have k3 : Below w1.heap.size w1 w3 := ext hbr hb3
          have sc := k3.size
          go_wp2_with (at_builtin; refine wpList_app1 rfl (.tmp 47) (.tmp 56) rfl w1.heap.size _ _ z rfl (HO2.out.ext hb3) rfl (by simp) Hz.out Hlen.out (by omega) ?_)
          intro v' w' hown' hb' _
          have Hown' := Lib.hid hown'
          clear hown' HO2
          have k4 : Below w1.heap.size w1 w' := k3.trans hb'
          go_wp2
          go_roundw
          case rel => exact ⟨i + 1, by omega, by go_num, by rw [← Nat.add_assoc, HMS.out]; exact Hown'.out, k4⟩
          case measure => simp [intOf]; omega
        · have ei : i = n := by omega
          have HO3 := Lib.hid (show OwnInts wr w1.heap.size _ (mapTo (getAt W H pix x y n) ((j + 1) * n)) from by rw [Nat.succ_mul]; rw [ei] at HO2; exact HO2.out)
          clear HO2 ei
          go_wp2
          go_roundw
          case rel => exact ⟨j + 1, by omega, by go_num, HO3.out, hbr⟩
          case measure => simp [intOf]; omega
    · have ej : j = n := by omega
      have HO3 := Lib.hid (show OwnInts wo w1.heap.size _ (getV W H pix x y n) from by rw [ej] at HO; exact HO.out)
      clear HO ej
      go_wp2
      go_returns
      exact ⟨_, rfl, HO3.out.mono (by omega), ext g1 hbo⟩

set_option maxRecDepth 100000 in
set_option maxHeartbeats 4000000 in
theorem rget_ok (fv : Value) (W H : Int) (pix : List Int) (x y : Int) (n : Nat) (w : World) (hv : FrameV w fv W H pix) (h : getB W H pix x y n = true) :
    Calls Tryd.prog 30 #[fv, .int .i64 x, .int .i64 y, .int .i64 n] w fun e w' => ∃ v', e = .returned v' ∧ OwnInts w' w.heap.size v' (getV W H pix x y n) ∧ Below w.heap.size w w' := by
  obtain ⟨hm, n1, n2, x1, x2, y1, y2⟩ := getB_iff.1 h
  have cm := fun w hv => rmay_any fv W H pix w hv
  rw [mayB_iff.2 hm] at cm
  have CA := Lib.hid (fun x y w hv => rat_any fv W H pix x y w hv hm)
  have HA := Lib.hid (fun x y => atV_bd hm x y)
  have CM := Lib.hid cm
  have HV := Lib.hid hv
  obtain ⟨ao, cap, rfl, hp⟩ := hv.cells
  have hn1 : 1 ≤ n := by omega
  have hn2 : n ≤ 8 := by omega
  have hnn : n * n ≤ 64 := Nat.mul_le_mul hn2 hn2
  have BX := Lib.hid (Blk.new w #[.int .i64 W, .int .i64 H, .slice ao pix.length cap] 24)
  clear cm hv hp hm h n1 n2
  go_enter Tryd.func30, Tryd.ntmps30
  go_wp2_with fail
  refine (CM.out _ (HV.out.ext (by go_grown))).mono ?_
  rintro e w1 ⟨rfl, hb1⟩
  have g1 : Below w.heap.size w w1 := ext (by go_grown) hb1
  have B1 := Lib.hid (BX.out.ext hb1)
  have s1 : w.heap.size + 1 ≤ w1.heap.size := by have := hb1.size; simp at this; omega
  go_wp2
  go_loopw [9, 10] (fun o j wr => ∃ k : Nat, k ≤ n ∧ j = .int .i64 k ∧ OwnInts wr w1.heap.size o (mapTo (getAt W H pix x y n) (k * n)) ∧ Below w1.heap.size w1 wr) (fun _ j _ => n - (intOf j).toNat)
  case atStart => exact ⟨0, Nat.zero_le _, rfl, by rw [Nat.zero_mul]; exact OwnInts.nil _ _, Below.refl _ _⟩
  case round =>
    obtain ⟨j, hj, rfl, hown, hbr⟩ := hrel
    obtain ⟨wo, rfl⟩ : ∃ wo : World, wo = wr := ⟨_, rfl⟩
    have HO := Lib.hid hown
    have hbo := hbr
    clear hown
    by_cases hlj : j < n
    · have HO1 := Lib.hid (show OwnInts wo w1.heap.size _ (mapTo (getAt W H pix x y n) (j * n + 0)) from HO.out)
      clear HO
      go_wp2
      go_loopw [9, 11] (fun o i wr => ∃ k : Nat, k ≤ n ∧ i = .int .i64 k ∧ OwnInts wr w1.heap.size o (mapTo (getAt W H pix x y n) (j * n + k)) ∧ Below w1.heap.size w1 wr) (fun _ i _ => n - (intOf i).toNat)
      case atStart => exact ⟨0, Nat.zero_le _, rfl, HO1.out, hbo⟩
      case round =>
        obtain ⟨i, hi, rfl, hown, hbr⟩ := hrel
        have HO2 := Lib.hid hown
        clear hown
        by_cases hli : i < n
        · have c0 : _ = some _ := (B1.out.ext hbr).cell 0
          have c1 : _ = some _ := (B1.out.ext hbr).cell 1
          have c2 : _ = some _ := (B1.out.ext hbr).cell 2
          have hgt := getAt_at (W := W) (H := H) (pix := pix) (x := x) (y := y) (j := j) hli
          have hms := mapTo_succ (getAt W H pix x y n) (j * n + i)
          rw [hgt] at hms
          have HMS := Lib.hid hms
          have CC := Lib.hid (CA.out (x + i) (y + j))
          have hbd := HA.out (x + i) (y + j)
          have hlen : j * n + i ≤ 64 := Nat.le_trans (Nat.add_le_add_left (Nat.le_of_lt hli) _) (by rw [← Nat.succ_mul]; exact Nat.le_trans (Nat.mul_le_mul_right _ hlj) hnn)
          have Hlen := Lib.hid (show (mapTo (getAt W H pix x y n) (j * n + i)).length ≤ 1099511627776 from by rw [length_mapTo]; omega)
          clear hgt hms hlen hnn
          generalize atV W H pix (x + i) (y + j) = z at *
          have Hz := Lib.hid (show in64 z from by unfold in64; omega)
          clear hbd
          have sb := hbr.size
          go_wp2_with fail
          clear c0 c1 c2
          refine (CC.out _ ((HV.out.ext g1).ext (ext hbr (by go_grown)))).mono ?_
          rintro e w3 ⟨rfl, hb3⟩
          have k3 : Below w1.heap.size w1 w3 := ext hbr hb3
          have sc := k3.size
          go_wp2_with (at_builtin; refine wpList_app1 rfl (.tmp 49) (.tmp 58) rfl w1.heap.size _ _ z rfl (HO2.out.ext hb3) rfl (by simp) Hz.out Hlen.out (by omega) ?_)
          intro v' w' hown' hb' _
          have Hown' := Lib.hid hown'
          clear hown' HO2
          have k4 : Below w1.heap.size w1 w' := k3.trans hb'
          go_wp2
          go_roundw
          case rel => exact ⟨i + 1, by omega, by go_num, by rw [← Nat.add_assoc, HMS.out]; exact Hown'.out, k4⟩
          case measure => simp [intOf]; omega
        · have ei : i = n := by omega
          have HO3 := Lib.hid (show OwnInts wr w1.heap.size _ (mapTo (getAt W H pix x y n) ((j + 1) * n)) from by rw [Nat.succ_mul]; rw [ei] at HO2; exact HO2.out)
          clear HO2 ei
          go_wp2
          go_roundw
          case rel => exact ⟨j + 1, by omega, by go_num, HO3.out, hbr⟩
          case measure => simp [intOf]; omega
    · have ej : j = n := by omega
      have HO3 := Lib.hid (show OwnInts wo w1.heap.size _ (getV W H pix x y n) from by rw [ej] at HO; exact HO.out)
      clear HO ej
      go_wp2
      go_returns
      exact ⟨_, rfl, HO3.out.mono (by omega), ext g1 hbo⟩

end Go.Proofs.YtmdpfjjbehpnbaaDoor
