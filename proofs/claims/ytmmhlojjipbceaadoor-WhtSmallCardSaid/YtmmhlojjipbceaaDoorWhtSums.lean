/- kinlaw8.WhtSums: the walk. -/
import Derived.Test.YtmmhlojjipbceaaDoorWhtN
import Derived.Test.YtmmhlojjipbceaaDoorStep
import Derived.Test.YtmmhlojjipbceaaDoorWhtBack
import Derived.StillTailTactics
set_option linter.unusedSimpArgs false
set_option linter.unusedVariables false
namespace Go.Proofs.YtmmhlojjipbceaaDoor
open Go.RowKit Go.Extern.Stop Go.Stop Go.Extern
open T

def skips (a b : List Int) (m : Int) : Prop := 5000 < a.length ∨ (a.length ≤ 5000 ∧ a.length ≠ b.length) ∨ (a.length ≤ 5000 ∧ a.length = b.length ∧ withinB a (-m) m = false) ∨ (a.length ≤ 5000 ∧ a.length = b.length ∧ withinB a (-m) m = true ∧ withinB b (-m) m = false)
theorem not_skips {a b : List Int} {m : Int} (h : ¬ skips a b m) : a.length ≤ 5000 ∧ a.length = b.length ∧ withinB a (-m) m = true ∧ withinB b (-m) m = true := by
  unfold skips at h
  by_cases h1 : 5000 < a.length
  · exact absurd (.inl h1) h
  by_cases h2 : a.length = b.length
  · cases h3 : withinB a (-m) m with
    | false => exact absurd (.inr (.inr (.inl ⟨by omega, h2, h3⟩))) h
    | true =>
      cases h4 : withinB b (-m) m with
      | false => exact absurd (.inr (.inr (.inr ⟨by omega, h2, h3, h4⟩))) h
      | true => exact ⟨by omega, h2, rfl, rfl⟩
  · exact absurd (.inr (.inl ⟨by omega, h2⟩)) h
theorem within_val (v : Value) (xs : List Int) (m : Int) (r : Bool) (h : withinB xs (-m) m = r) : ∀ w, Ints w v xs → Calls Tryd.prog 19 #[v, .int .i64 (-m), .int .i64 m] w fun e w' => e = .returned (.bool r) ∧ w = w' := fun w hv => by
  have := within_any v xs (-m) m w hv
  rw [h] at this; exact this

set_option maxRecDepth 100000 in
set_option maxHeartbeats 4000000 in
theorem sums_skip (v u : Value) (a b : List Int) (w : World) (hv : Ints w v a) (hu : Ints w u b) (hg : TypeIs w) (h : skips a b 65536) :
    Calls Tryd.prog 7 #[v, u] w fun e w' => e = .returned (.bool true) ∧ Below w.heap.size w w' := by
  have HV := Lib.hid hv
  have HU := Lib.hid hu
  have HG := Lib.hid hg
  have HA := Lib.hid (within_val v a 65536)
  have HB := Lib.hid (within_val u b 65536)
  obtain ⟨ao, cap, rfl⟩ := slice_of hv rfl
  obtain ⟨ao2, cap2, rfl⟩ := slice_of hu rfl
  clear hv hu hg
  rcases h with h | ⟨h1, h⟩ | ⟨h1, h2, h3⟩ | ⟨h1, h2, h3, h4⟩
  · go_enter Tryd.func7, Tryd.ntmps7
    have g0 : Below w.heap.size w w := Below.refl _ _
    go_wp2_with fail
    refine (first_any _ (HG.out.ext (by go_grown))).mono ?_
    rintro e w1 ⟨rfl, hb1⟩
    have j1 : Below w.heap.size w w1 := ext (by go_grown) hb1
    have g1 : Below w.heap.size w w1 := ext g0 j1
    have s1 := j1.size
    have t1 := g1.size
    go_wp2_with fail
    refine (first_any _ ((HG.out.ext j1).ext (by go_grown))).mono ?_
    rintro e w2 ⟨rfl, hb2⟩
    have j2 : Below w1.heap.size w1 w2 := ext (by go_grown) hb2
    have g2 : Below w.heap.size w w2 := ext g1 j2
    have s2 := j2.size
    have t2 := g2.size
    go_wp2
    all_goals go_returns
    all_goals exact ⟨by first | rfl | (simp; done) | (simp; omega), g2⟩
  · have hne : ((a.length : Int) != (b.length : Int)) = true := by simp; omega
    clear h
    go_enter Tryd.func7, Tryd.ntmps7
    have g0 : Below w.heap.size w w := Below.refl _ _
    go_wp2_with fail
    refine (first_any _ (HG.out.ext (by go_grown))).mono ?_
    rintro e w1 ⟨rfl, hb1⟩
    have j1 : Below w.heap.size w w1 := ext (by go_grown) hb1
    have g1 : Below w.heap.size w w1 := ext g0 j1
    have s1 := j1.size
    have t1 := g1.size
    go_wp2_with fail
    refine (first_any _ ((HG.out.ext j1).ext (by go_grown))).mono ?_
    rintro e w2 ⟨rfl, hb2⟩
    have j2 : Below w1.heap.size w1 w2 := ext (by go_grown) hb2
    have g2 : Below w.heap.size w w2 := ext g1 j2
    have s2 := j2.size
    have t2 := g2.size
    go_wp2
    all_goals go_returns
    all_goals exact ⟨by first | rfl | (simp; done) | (simp; omega), g2⟩
  · have HA1 := Lib.hid (HA.out _ h3)
    have hne : ((a.length : Int) != (b.length : Int)) = false := by simp; omega
    clear h2 h3
    go_enter Tryd.func7, Tryd.ntmps7
    have g0 : Below w.heap.size w w := Below.refl _ _
    go_wp2_with fail
    refine (first_any _ (HG.out.ext (by go_grown))).mono ?_
    rintro e w1 ⟨rfl, hb1⟩
    have j1 : Below w.heap.size w w1 := ext (by go_grown) hb1
    have g1 : Below w.heap.size w w1 := ext g0 j1
    have s1 := j1.size
    have t1 := g1.size
    go_wp2_with fail
    refine (HA1.out _ ((HV.out.ext j1).ext (by go_grown))).mono ?_
    rintro e w' ⟨rfl, rfl⟩
    go_wp2_with fail
    refine (first_any _ ((HG.out.ext j1).ext (by go_grown))).mono ?_
    rintro e w2 ⟨rfl, hb2⟩
    have j2 : Below w1.heap.size w1 w2 := ext (by go_grown) hb2
    have g2 : Below w.heap.size w w2 := ext g1 j2
    have s2 := j2.size
    have t2 := g2.size
    go_wp2
    all_goals go_returns
    all_goals exact ⟨by first | rfl | (simp; done) | (simp; omega), g2⟩
  · have HA1 := Lib.hid (HA.out _ h3)
    have HB1 := Lib.hid (HB.out _ h4)
    clear h4
    have hne : ((a.length : Int) != (b.length : Int)) = false := by simp; omega
    clear h2 h3
    go_enter Tryd.func7, Tryd.ntmps7
    have g0 : Below w.heap.size w w := Below.refl _ _
    go_wp2_with fail
    refine (first_any _ (HG.out.ext (by go_grown))).mono ?_
    rintro e w1 ⟨rfl, hb1⟩
    have j1 : Below w.heap.size w w1 := ext (by go_grown) hb1
    have g1 : Below w.heap.size w w1 := ext g0 j1
    have s1 := j1.size
    have t1 := g1.size
    go_wp2_with fail
    refine (HA1.out _ ((HV.out.ext j1).ext (by go_grown))).mono ?_
    rintro e w' ⟨rfl, rfl⟩
    go_wp2_with fail
    refine (HB1.out _ ((HU.out.ext j1).ext (by go_grown))).mono ?_
    rintro e w' ⟨rfl, rfl⟩
    go_wp2_with fail
    refine (first_any _ ((HG.out.ext j1).ext (by go_grown))).mono ?_
    rintro e w2 ⟨rfl, hb2⟩
    have j2 : Below w1.heap.size w1 w2 := ext (by go_grown) hb2
    have g2 : Below w.heap.size w w2 := ext g1 j2
    have s2 := j2.size
    have t2 := g2.size
    go_wp2
    all_goals go_returns
    all_goals exact ⟨by first | rfl | (simp; done) | (simp; omega), g2⟩

set_option maxRecDepth 100000 in
set_option maxHeartbeats 8000000 in
theorem sums_odd (n : Nat) (v u : Value) (a b : List Int) (w : World) (hv : Ints w v a) (hu : Ints w u b) (hg : TypeIs w) (h1 : a.length = n) (h2 : b.length = n) (hn : n ≤ 5000) (h5 : n ≠ 16) (h6 : n ≠ 64) (h3 : withinB a (-65536) 65536 = true) (h4 : withinB b (-65536) 65536 = true) :
    Calls Tryd.prog 7 #[v, u] w fun e w' => e = .returned (.bool true) ∧ Below w.heap.size w w' := by
  have HV := Lib.hid hv
  have HU := Lib.hid hu
  have HG := Lib.hid hg
  have HA1 := Lib.hid (within_val v a 65536 true h3)
  have HB1 := Lib.hid (within_val u b 65536 true h4)
  have ba := bd_of_within (by omega) h3
  have bb := bd_of_within (by omega) h4
  have BA := Lib.hid ba
  have BB := Lib.hid bb
  have SM := Lib.hid (fun k => sumL_bd ba k)
  obtain ⟨ao, cap, rfl⟩ := slice_of hv h1
  obtain ⟨ao2, cap2, rfl⟩ := slice_of hu h2
  have HLA := Lib.hid h1
  have HLB := Lib.hid h2
  have ca : chkE a 65536 = 14 := by unfold chkE; rw [if_neg (by omega)]
  have cb : chkE b 65536 = 14 := by unfold chkE; rw [if_neg (by omega)]
  have c := fwd_no a (by rw [ca]; omega)
  have d := fwd_no b (by rw [cb]; omega)
  rw [ca] at c
  rw [cb] at d
  have C := Lib.hid c
  have D := Lib.hid d
  have hn16 : ((n : Int) != 16) = true := by simp; omega
  have hn64 : ((n : Int) != 64) = true := by simp; omega
  clear hv hu hg h1 h2 h3 h4 ba bb ca cb c d h5 h6
  go_enter Tryd.func7, Tryd.ntmps7
  have g0 : Below w.heap.size w w := Below.refl _ _
  go_wp2_with fail
  refine (first_any _ (HG.out.ext (by go_grown))).mono ?_
  rintro e w1 ⟨rfl, hb1⟩
  have j1 : Below w.heap.size w w1 := ext (by go_grown) hb1
  have g1 : Below w.heap.size w w1 := ext g0 j1
  have s1 := j1.size
  have t1 := g1.size
  go_wp2_with fail
  refine (HA1.out _ ((HV.out.ext j1).ext (by go_grown))).mono ?_
  rintro e w' ⟨rfl, rfl⟩
  go_wp2_with fail
  refine (HB1.out _ ((HU.out.ext j1).ext (by go_grown))).mono ?_
  rintro e w' ⟨rfl, rfl⟩
  go_wp2
  go_loopw [5, 6, 7] (fun o s i wr => ∃ k : Nat, k ≤ n ∧ i = .int .i64 k ∧ s = .int .i64 (sumL a k) ∧ OwnInts wr w1.heap.size o (addTo a b k) ∧ Below w1.heap.size w1 wr) (fun _ _ i _ => n - (intOf i).toNat)
  case atStart => exact ⟨0, Nat.zero_le _, rfl, rfl, OwnInts.nil _ _, Below.refl _ _⟩
  case round =>
    obtain ⟨k, hk, rfl, rfl, hown, hbr⟩ := hrel
    have HO := Lib.hid hown
    clear hown
    by_cases hlt : k < n
    · obtain ⟨b1, o1, rfl, hc1⟩ := (((HV.out.ext j1)).ext hbr).cellAt (j := k) (by rw [HLA.out]; exact hlt)
      obtain ⟨b2, o2, rfl, hc2⟩ := (((HU.out.ext j1)).ext hbr).cellAt (j := k) (by rw [HLB.out]; exact hlt)
      have hba := BA.out k
      have hbb := BB.out k
      have hsm := SM.out k
      have hkk : (k : Int) * 65536 ≤ 5000 * 65536 := by omega
      have Hs := Lib.hid (sumL_succ a k)
      have Ha := Lib.hid (addTo_succ a b k)
      have Hl := Lib.hid (length_addTo a b k)
      generalize hx : a.getD k 0 = x at *
      generalize hy : b.getD k 0 = y at *
      generalize hs : sumL a k = sm at *
      have Hx := Lib.hid hx
      have Hy := Lib.hid hy
      have Hsm := Lib.hid hs
      clear hx hy hs
      obtain ⟨hba1, hba2⟩ := hba
      obtain ⟨hbb1, hbb2⟩ := hbb
      obtain ⟨hsm1, hsm2⟩ := hsm
      have hxy : -9223372036854775808 ≤ x + y ∧ x + y ≤ 9223372036854775807 := by omega
      have Hxy := Lib.hid hxy
      clear hxy
      have q1 : IntKind.i64.wrap (x + y) = x + y := IntWalk.i64_in _ (by omega)
      have q2 : IntKind.i64.wrap (sm + x) = sm + x := IntWalk.i64_in _ (by omega)
      have hwB := hbr.size
      have Hlen := Lib.hid (show (addTo a b k).length ≤ 1099511627776 from by rw [Hl.out]; omega)
      have hl1 : b1 < w1.heap.size := ((HV.out.ext j1)).at1 (by rw [HLA.out]; exact hlt)
      have hl2 : b2 < w1.heap.size := ((HU.out.ext j1)).at1 (by rw [HLB.out]; exact hlt)
      go_wp2
      go_region_held3 (fun w' => w'.cell? ⟨b1, o1 + k, none⟩ = some (.int .i64 x) ∧ w'.cell? ⟨b2, o2 + k, none⟩ = some (.int .i64 y))
        (first | go_keep | exact ⟨(hb'.cell (p := ⟨b1, _, none⟩) hl1).trans hc1, (hb'.cell (p := ⟨b2, _, none⟩) hl2).trans hc2⟩)
        ((refine step_app1 (by rfl) _ _ (by rfl) wr w1.heap.size _ _ (x + y) (by rfl) HO.out (by rfl) (heap_alloc_new _ _) (grown_of _) Hxy.out Hlen.out hwB ?_; intro v' w' hown' hb' hg'))
      have HO3 := Lib.hid hown'
      have hbn := hbr.trans hb'
      clear HO hb' hown' hc1 hc2
      obtain ⟨b3, o3, e3, hc3⟩ := (((HV.out.ext j1)).ext hbn).cellAt (j := k) (by rw [HLA.out]; exact hlt)
      obtain ⟨rfl, rfl⟩ : b1 = b3 ∧ o1 = o3 := by simpa using e3
      rw [Hx.out] at hc3
      clear e3
      go_wp2
      go_roundw
      case rel => exact ⟨k + 1, by omega, by go_num, by rw [Hs.out], by rw [Ha.out]; exact HO3.out, hbn⟩
      case measure => simp [intOf]; omega
    · have ek : k = n := by omega
      have HO2 := Lib.hid (show OwnInts wr w1.heap.size _ (cmb 1 1 a b) from by rw [← addTo_all HLA.out HLB.out, ← ek]; exact HO.out)
      rw [ek]
      clear HO ek hlt hk
      clear HO2
      obtain ⟨w2, rfl⟩ : ∃ w2 : World, w2 = wr := ⟨_, rfl⟩
      have j2 : Below w1.heap.size w1 w2 := hbr
      have g2 : Below w.heap.size w w2 := ext g1 j2
      have s2 := j2.size
      have t2 := g2.size
      clear hbr
      go_wp2_with fail
      refine (C.out _ _ (((HV.out.ext j1).ext j2).ext (by go_grown))).mono ?_
      rintro e w3 ⟨ao3, cap3, rfl, hb3⟩
      have j3 : Below w2.heap.size w2 w3 := ext (by go_grown) hb3
      have g3 : Below w.heap.size w w3 := ext g2 j3
      have s3 := j3.size
      have t3 := g3.size
      go_wp2_with fail
      refine (D.out _ _ ((((HU.out.ext j1).ext j2).ext j3).ext (by go_grown))).mono ?_
      rintro e w4 ⟨ao4, cap4, rfl, hb4⟩
      have j4 : Below w3.heap.size w3 w4 := ext (by go_grown) hb4
      have g4 : Below w.heap.size w w4 := ext g3 j4
      have s4 := j4.size
      have t4 := g4.size
      go_wp2_with fail
      refine (first_any _ (((((HG.out.ext j1).ext j2).ext j3).ext j4).ext (by go_grown))).mono ?_
      rintro e w5 ⟨rfl, hb5⟩
      have j5 : Below w4.heap.size w4 w5 := ext (by go_grown) hb5
      have g5 : Below w.heap.size w w5 := ext g4 j5
      have s5 := j5.size
      have t5 := g5.size
      go_wp2
      all_goals go_returns
      all_goals exact ⟨by first | rfl | (simp; done) | (simp; omega), g5⟩

set_option maxRecDepth 100000 in
set_option maxHeartbeats 8000000 in
theorem sums_in16 (v u : Value) (a b : List Int) (w : World) (hv : Ints w v a) (hu : Ints w u b) (hg : TypeIs w) (h1 : a.length = 16) (h2 : b.length = 16) (h3 : withinB a (-65536) 65536 = true) (h4 : withinB b (-65536) 65536 = true) :
    Calls Tryd.prog 7 #[v, u] w fun e w' => e = .returned (.bool true) ∧ Below w.heap.size w w' := by
  have HV := Lib.hid hv
  have HU := Lib.hid hu
  have HG := Lib.hid hg
  have HA1 := Lib.hid (within_val v a 65536 true h3)
  have HB1 := Lib.hid (within_val u b 65536 true h4)
  have ba := bd_of_within (by omega) h3
  have bb := bd_of_within (by omega) h4
  have BA := Lib.hid ba
  have BB := Lib.hid bb
  have SM := Lib.hid (fun k => sumL_bd ba k)
  obtain ⟨ao, cap, rfl⟩ := slice_of hv h1
  obtain ⟨ao2, cap2, rfl⟩ := slice_of hu h2
  have HLA := Lib.hid h1
  have HLB := Lib.hid h2
  have C := Lib.hid (fwd_yes a (chkE_ok (by omega) ba))
  have D := Lib.hid (fwd_yes b (chkE_ok (by omega) bb))
  have TA := Lib.hid (bd_turn (by omega) ba)
  have TB := Lib.hid (bd_turn (by omega) bb)
  have T0 : Hid ((turnL a).getD 0 0 = sumL a 16) := by show _ = _; rw [turn_first (by omega), h1]
  have LX : Hid ((turnL a).length = 16) := by show _ = _; rw [length_turnL, h1]
  have LY : Hid ((turnL b).length = 16) := by show _ = _; rw [length_turnL, h2]
  have TS : Hid (∀ k, (turnL (cmb 1 1 a b)).getD k 0 = (turnL a).getD k 0 + (turnL b).getD k 0) := fun k => turn_sum (by rw [h1, h2]) k
  have TT : Hid (∀ k, (turnL (turnL a)).getD k 0 = 16 * a.getD k 0) := fun k => by rw [turn_turn (by omega), h1]; rfl
  have LS : Hid ((turnL (cmb 1 1 a b)).length = 16) := by show _ = _; rw [length_turnL, length_cmb h1 h2]
  have LT : Hid ((turnL (turnL a)).length = 16) := by show _ = _; rw [length_turnL, length_turnL, h1]
  clear hv hu hg h1 h2 h3 h4 ba bb
  go_enter Tryd.func7, Tryd.ntmps7
  have g0 : Below w.heap.size w w := Below.refl _ _
  go_wp2_with fail
  refine (first_any _ (HG.out.ext (by go_grown))).mono ?_
  rintro e w1 ⟨rfl, hb1⟩
  have j1 : Below w.heap.size w w1 := ext (by go_grown) hb1
  have g1 : Below w.heap.size w w1 := ext g0 j1
  have s1 := j1.size
  have t1 := g1.size
  go_wp2_with fail
  refine (HA1.out _ ((HV.out.ext j1).ext (by go_grown))).mono ?_
  rintro e w' ⟨rfl, rfl⟩
  go_wp2_with fail
  refine (HB1.out _ ((HU.out.ext j1).ext (by go_grown))).mono ?_
  rintro e w' ⟨rfl, rfl⟩
  go_wp2
  go_loopw [5, 6, 7] (fun o s i wr => ∃ k : Nat, k ≤ 16 ∧ i = .int .i64 k ∧ s = .int .i64 (sumL a k) ∧ OwnInts wr w1.heap.size o (addTo a b k) ∧ Below w1.heap.size w1 wr) (fun _ _ i _ => 16 - (intOf i).toNat)
  case atStart => exact ⟨0, Nat.zero_le _, rfl, rfl, OwnInts.nil _ _, Below.refl _ _⟩
  case round =>
    obtain ⟨k, hk, rfl, rfl, hown, hbr⟩ := hrel
    have HO := Lib.hid hown
    clear hown
    by_cases hlt : k < 16
    · obtain ⟨b1, o1, rfl, hc1⟩ := (((HV.out.ext j1)).ext hbr).cellAt (j := k) (by rw [HLA.out]; exact hlt)
      obtain ⟨b2, o2, rfl, hc2⟩ := (((HU.out.ext j1)).ext hbr).cellAt (j := k) (by rw [HLB.out]; exact hlt)
      have hba := BA.out k
      have hbb := BB.out k
      have hsm := SM.out k
      have hkk : (k : Int) * 65536 ≤ 5000 * 65536 := by omega
      have Hs := Lib.hid (sumL_succ a k)
      have Ha := Lib.hid (addTo_succ a b k)
      have Hl := Lib.hid (length_addTo a b k)
      generalize hx : a.getD k 0 = x at *
      generalize hy : b.getD k 0 = y at *
      generalize hs : sumL a k = sm at *
      have Hx := Lib.hid hx
      have Hy := Lib.hid hy
      have Hsm := Lib.hid hs
      clear hx hy hs
      obtain ⟨hba1, hba2⟩ := hba
      obtain ⟨hbb1, hbb2⟩ := hbb
      obtain ⟨hsm1, hsm2⟩ := hsm
      have hxy : -9223372036854775808 ≤ x + y ∧ x + y ≤ 9223372036854775807 := by omega
      have Hxy := Lib.hid hxy
      clear hxy
      have q1 : IntKind.i64.wrap (x + y) = x + y := IntWalk.i64_in _ (by omega)
      have q2 : IntKind.i64.wrap (sm + x) = sm + x := IntWalk.i64_in _ (by omega)
      have hwB := hbr.size
      have Hlen := Lib.hid (show (addTo a b k).length ≤ 1099511627776 from by rw [Hl.out]; omega)
      have hl1 : b1 < w1.heap.size := ((HV.out.ext j1)).at1 (by rw [HLA.out]; exact hlt)
      have hl2 : b2 < w1.heap.size := ((HU.out.ext j1)).at1 (by rw [HLB.out]; exact hlt)
      go_wp2
      go_region_held3 (fun w' => w'.cell? ⟨b1, o1 + k, none⟩ = some (.int .i64 x) ∧ w'.cell? ⟨b2, o2 + k, none⟩ = some (.int .i64 y))
        (first | go_keep | exact ⟨(hb'.cell (p := ⟨b1, _, none⟩) hl1).trans hc1, (hb'.cell (p := ⟨b2, _, none⟩) hl2).trans hc2⟩)
        ((refine step_app1 (by rfl) _ _ (by rfl) wr w1.heap.size _ _ (x + y) (by rfl) HO.out (by rfl) (heap_alloc_new _ _) (grown_of _) Hxy.out Hlen.out hwB ?_; intro v' w' hown' hb' hg'))
      have HO3 := Lib.hid hown'
      have hbn := hbr.trans hb'
      clear HO hb' hown' hc1 hc2
      obtain ⟨b3, o3, e3, hc3⟩ := (((HV.out.ext j1)).ext hbn).cellAt (j := k) (by rw [HLA.out]; exact hlt)
      obtain ⟨rfl, rfl⟩ : b1 = b3 ∧ o1 = o3 := by simpa using e3
      rw [Hx.out] at hc3
      clear e3
      go_wp2
      go_roundw
      case rel => exact ⟨k + 1, by omega, by go_num, by rw [Hs.out], by rw [Ha.out]; exact HO3.out, hbn⟩
      case measure => simp [intOf]; omega
    · have ek : k = 16 := by omega
      have HO2 := Lib.hid (show OwnInts wr w1.heap.size _ (cmb 1 1 a b) from by rw [← addTo_all HLA.out HLB.out, ← ek]; exact HO.out)
      rw [ek]
      clear HO ek hlt hk
      obtain ⟨w2, rfl⟩ : ∃ w2 : World, w2 = wr := ⟨_, rfl⟩
      have j2 : Below w1.heap.size w1 w2 := hbr
      have g2 : Below w.heap.size w w2 := ext g1 j2
      have s2 := j2.size
      have t2 := g2.size
      clear hbr
      have HS := Lib.hid (HO2.out.ints)
      clear HO2
      go_wp2_with fail
      refine (C.out _ _ (((HV.out.ext j1).ext j2).ext (by go_grown))).mono ?_
      rintro e w3 ⟨x, rfl, hown, hb3⟩
      have j3 : Below w2.heap.size w2 w3 := ext (by go_grown) hb3
      have g3 : Below w.heap.size w w3 := ext g2 j3
      have s3 := j3.size
      have t3 := g3.size
      obtain ⟨gx, capx, rfl, -, -⟩ := hown.head (by rw [LX.out]; omega)
      rw [LX.out] at hown ⊢
      have HX := Lib.hid (hown)
      clear hown
      go_wp2_with fail
      refine (D.out _ _ ((((HU.out.ext j1).ext j2).ext j3).ext (by go_grown))).mono ?_
      rintro e w4 ⟨y, rfl, hown, hb4⟩
      have j4 : Below w3.heap.size w3 w4 := ext (by go_grown) hb4
      have g4 : Below w.heap.size w w4 := ext g3 j4
      have s4 := j4.size
      have t4 := g4.size
      obtain ⟨gy, capy, rfl, -, -⟩ := hown.head (by rw [LY.out]; omega)
      rw [LY.out] at hown ⊢
      have HY := Lib.hid (hown)
      clear hown
      obtain ⟨-, -, -, hxc, -⟩ := ((HX.out.ext j4)).at
      have hx0 := hxc 0 (by rw [LX.out]; omega)
      rw [T0.out] at hx0
      generalize sumL a 16 = sm at hx0 ⊢
      clear hxc
      go_wp2_with fail
      refine (fwd_gen _ _ _ (((HS.out.ext j3).ext j4).ext (by go_grown))).mono ?_
      rintro e w5 ⟨az, capz, zs, ez, rfl, hown, hzz, hb5⟩
      have j5 : Below w4.heap.size w4 w5 := ext (by go_grown) hb5
      have g5 : Below w.heap.size w w5 := ext g4 j5
      have s5 := j5.size
      have t5 := g5.size
      have HZ := Lib.hid (hown.ints)
      have HZZ := Lib.hid hzz
      clear hown hzz hx0
      go_wp2
      go_loopw [14] (fun i wr => ∃ k : Nat, k ≤ zs.length ∧ i = .int .i64 k ∧ Below w5.heap.size w5 wr) (fun i _ => zs.length - (intOf i).toNat)
      case atStart => exact ⟨0, Nat.zero_le _, rfl, Below.refl _ _⟩
      case round =>
        obtain ⟨k, hk, rfl, hbr⟩ := hrel
        by_cases hlt : k < zs.length
        · rcases HZZ.out with hz0 | ⟨hez, hzs⟩
          · omega
          · subst hez
            have hkn : k < 16 := by rw [hzs, LS.out] at hlt; exact hlt
            obtain ⟨bz, oz, rfl, hcz⟩ := ((HZ.out).ext hbr).cellAt hlt
            rw [hzs, TS.out k] at hcz
            obtain ⟨-, -, -, hcx, -⟩ := ((((HX.out.ext j4).ext j5)).ext hbr).at
            have hcx := hcx k (by rw [LX.out]; exact hkn)
            obtain ⟨-, -, -, hcy, -⟩ := (((HY.out.ext j5)).ext hbr).at
            have hcy := hcy k (by rw [LY.out]; exact hkn)
            obtain ⟨hb1x, hb2x⟩ := TA.out k
            obtain ⟨hb1y, hb2y⟩ := TB.out k
            rw [HLA.out] at hb1x hb2x
            rw [HLB.out] at hb1y hb2y
            clear hzs HZZ
            generalize (turnL a).getD k 0 = x at hcz hcx hb1x hb2x
            generalize (turnL b).getD k 0 = y at hcz hcy hb1y hb2y
            have q1 : IntKind.i64.wrap (x + y) = x + y := IntWalk.i64_in _ (by omega)
            rw [errV_zero]
            go_wp2
            go_quiet (fail)
            go_wp2
            go_roundw
            case rel => exact ⟨k + 1, by omega, by go_num, by first | exact hbr | exact hbr.drew | exact below_drewN hbr _⟩
            case measure => simp [intOf]; omega
        · clear HZZ
          obtain ⟨w6, rfl⟩ : ∃ w6 : World, w6 = wr := ⟨_, rfl⟩
          have j6 : Below w5.heap.size w5 w6 := hbr
          have g6 : Below w.heap.size w w6 := ext g5 j6
          have s6 := j6.size
          have t6 := g6.size
          clear hbr
          go_wp2_with fail
          refine (fwd_gen _ _ _ (((((HX.out.ext j4).ext j5).ext j6)).ints.ext (by go_grown))).mono ?_
          rintro e w7 ⟨au, capu, us, eu, rfl, hown, huu, hb7⟩
          have j7 : Below w6.heap.size w6 w7 := ext (by go_grown) hb7
          have g7 : Below w.heap.size w w7 := ext g6 j7
          have s7 := j7.size
          have t7 := g7.size
          have HZ2 := Lib.hid (hown.ints)
          have HUU := Lib.hid huu
          clear hown huu
          go_wp2
          go_loopw [17] (fun i wr => ∃ k : Nat, k ≤ us.length ∧ i = .int .i64 k ∧ Below w7.heap.size w7 wr) (fun i _ => us.length - (intOf i).toNat)
          case atStart => exact ⟨0, Nat.zero_le _, rfl, Below.refl _ _⟩
          case round =>
            obtain ⟨k, hk, rfl, hbr⟩ := hrel
            by_cases hlt : k < us.length
            · rcases HUU.out with hz0 | ⟨heu, hus⟩
              · omega
              · subst heu
                have hkn : k < 16 := by rw [hus, LT.out] at hlt; exact hlt
                obtain ⟨bz, oz, rfl, hcz⟩ := ((HZ2.out).ext hbr).cellAt hlt
                rw [hus, TT.out k] at hcz
                obtain ⟨b1, o1, rfl, hc1⟩ := (((((((((HV.out.ext j1).ext j2).ext j3).ext j4).ext j5).ext j6).ext j7)).ext hbr).cellAt (j := k) (by rw [HLA.out]; exact hkn)
                obtain ⟨hb1x, hb2x⟩ := BA.out k
                clear hus HUU
                generalize a.getD k 0 = x at hcz hc1 hb1x hb2x
                have q1 : IntKind.i64.wrap (16 * x) = 16 * x := IntWalk.i64_in _ (by omega)
                rw [errV_zero]
                go_wp2
                go_quiet (fail)
                go_wp2
                go_roundw
                case rel => exact ⟨k + 1, by omega, by go_num, by first | exact hbr | exact hbr.drew | exact below_drewN hbr _⟩
                case measure => simp [intOf]; omega
            · clear HUU
              obtain ⟨w8, rfl⟩ : ∃ w8 : World, w8 = wr := ⟨_, rfl⟩
              have j8 : Below w7.heap.size w7 w8 := hbr
              have g8 : Below w.heap.size w w8 := ext g7 j8
              have s8 := j8.size
              have t8 := g8.size
              clear hbr
              go_wp2_with fail
              refine (first_any _ (((((((((HG.out.ext j1).ext j2).ext j3).ext j4).ext j5).ext j6).ext j7).ext j8).ext (by go_grown))).mono ?_
              rintro e w9 ⟨rfl, hb9⟩
              have j9 : Below w8.heap.size w8 w9 := ext (by go_grown) hb9
              have g9 : Below w.heap.size w w9 := ext g8 j9
              have s9 := j9.size
              have t9 := g9.size
              go_wp2
              all_goals go_returns
              all_goals exact ⟨by first | rfl | (simp; done) | (simp; omega), g9⟩

set_option maxRecDepth 100000 in
set_option maxHeartbeats 8000000 in
theorem sums_in64 (v u : Value) (a b : List Int) (w : World) (hv : Ints w v a) (hu : Ints w u b) (hg : TypeIs w) (h1 : a.length = 64) (h2 : b.length = 64) (h3 : withinB a (-65536) 65536 = true) (h4 : withinB b (-65536) 65536 = true) :
    Calls Tryd.prog 7 #[v, u] w fun e w' => e = .returned (.bool true) ∧ Below w.heap.size w w' := by
  have HV := Lib.hid hv
  have HU := Lib.hid hu
  have HG := Lib.hid hg
  have HA1 := Lib.hid (within_val v a 65536 true h3)
  have HB1 := Lib.hid (within_val u b 65536 true h4)
  have ba := bd_of_within (by omega) h3
  have bb := bd_of_within (by omega) h4
  have BA := Lib.hid ba
  have BB := Lib.hid bb
  have SM := Lib.hid (fun k => sumL_bd ba k)
  obtain ⟨ao, cap, rfl⟩ := slice_of hv h1
  obtain ⟨ao2, cap2, rfl⟩ := slice_of hu h2
  have HLA := Lib.hid h1
  have HLB := Lib.hid h2
  have C := Lib.hid (fwd_yes a (chkE_ok (by omega) ba))
  have D := Lib.hid (fwd_yes b (chkE_ok (by omega) bb))
  have TA := Lib.hid (bd_turn (by omega) ba)
  have TB := Lib.hid (bd_turn (by omega) bb)
  have T0 : Hid ((turnL a).getD 0 0 = sumL a 64) := by show _ = _; rw [turn_first (by omega), h1]
  have LX : Hid ((turnL a).length = 64) := by show _ = _; rw [length_turnL, h1]
  have LY : Hid ((turnL b).length = 64) := by show _ = _; rw [length_turnL, h2]
  have TS : Hid (∀ k, (turnL (cmb 1 1 a b)).getD k 0 = (turnL a).getD k 0 + (turnL b).getD k 0) := fun k => turn_sum (by rw [h1, h2]) k
  have TT : Hid (∀ k, (turnL (turnL a)).getD k 0 = 64 * a.getD k 0) := fun k => by rw [turn_turn (by omega), h1]; rfl
  have LS : Hid ((turnL (cmb 1 1 a b)).length = 64) := by show _ = _; rw [length_turnL, length_cmb h1 h2]
  have LT : Hid ((turnL (turnL a)).length = 64) := by show _ = _; rw [length_turnL, length_turnL, h1]
  clear hv hu hg h1 h2 h3 h4 ba bb
  go_enter Tryd.func7, Tryd.ntmps7
  have g0 : Below w.heap.size w w := Below.refl _ _
  go_wp2_with fail
  refine (first_any _ (HG.out.ext (by go_grown))).mono ?_
  rintro e w1 ⟨rfl, hb1⟩
  have j1 : Below w.heap.size w w1 := ext (by go_grown) hb1
  have g1 : Below w.heap.size w w1 := ext g0 j1
  have s1 := j1.size
  have t1 := g1.size
  go_wp2_with fail
  refine (HA1.out _ ((HV.out.ext j1).ext (by go_grown))).mono ?_
  rintro e w' ⟨rfl, rfl⟩
  go_wp2_with fail
  refine (HB1.out _ ((HU.out.ext j1).ext (by go_grown))).mono ?_
  rintro e w' ⟨rfl, rfl⟩
  go_wp2
  go_loopw [5, 6, 7] (fun o s i wr => ∃ k : Nat, k ≤ 64 ∧ i = .int .i64 k ∧ s = .int .i64 (sumL a k) ∧ OwnInts wr w1.heap.size o (addTo a b k) ∧ Below w1.heap.size w1 wr) (fun _ _ i _ => 64 - (intOf i).toNat)
  case atStart => exact ⟨0, Nat.zero_le _, rfl, rfl, OwnInts.nil _ _, Below.refl _ _⟩
  case round =>
    obtain ⟨k, hk, rfl, rfl, hown, hbr⟩ := hrel
    have HO := Lib.hid hown
    clear hown
    by_cases hlt : k < 64
    · obtain ⟨b1, o1, rfl, hc1⟩ := (((HV.out.ext j1)).ext hbr).cellAt (j := k) (by rw [HLA.out]; exact hlt)
      obtain ⟨b2, o2, rfl, hc2⟩ := (((HU.out.ext j1)).ext hbr).cellAt (j := k) (by rw [HLB.out]; exact hlt)
      have hba := BA.out k
      have hbb := BB.out k
      have hsm := SM.out k
      have hkk : (k : Int) * 65536 ≤ 5000 * 65536 := by omega
      have Hs := Lib.hid (sumL_succ a k)
      have Ha := Lib.hid (addTo_succ a b k)
      have Hl := Lib.hid (length_addTo a b k)
      generalize hx : a.getD k 0 = x at *
      generalize hy : b.getD k 0 = y at *
      generalize hs : sumL a k = sm at *
      have Hx := Lib.hid hx
      have Hy := Lib.hid hy
      have Hsm := Lib.hid hs
      clear hx hy hs
      obtain ⟨hba1, hba2⟩ := hba
      obtain ⟨hbb1, hbb2⟩ := hbb
      obtain ⟨hsm1, hsm2⟩ := hsm
      have hxy : -9223372036854775808 ≤ x + y ∧ x + y ≤ 9223372036854775807 := by omega
      have Hxy := Lib.hid hxy
      clear hxy
      have q1 : IntKind.i64.wrap (x + y) = x + y := IntWalk.i64_in _ (by omega)
      have q2 : IntKind.i64.wrap (sm + x) = sm + x := IntWalk.i64_in _ (by omega)
      have hwB := hbr.size
      have Hlen := Lib.hid (show (addTo a b k).length ≤ 1099511627776 from by rw [Hl.out]; omega)
      have hl1 : b1 < w1.heap.size := ((HV.out.ext j1)).at1 (by rw [HLA.out]; exact hlt)
      have hl2 : b2 < w1.heap.size := ((HU.out.ext j1)).at1 (by rw [HLB.out]; exact hlt)
      go_wp2
      go_region_held3 (fun w' => w'.cell? ⟨b1, o1 + k, none⟩ = some (.int .i64 x) ∧ w'.cell? ⟨b2, o2 + k, none⟩ = some (.int .i64 y))
        (first | go_keep | exact ⟨(hb'.cell (p := ⟨b1, _, none⟩) hl1).trans hc1, (hb'.cell (p := ⟨b2, _, none⟩) hl2).trans hc2⟩)
        ((refine step_app1 (by rfl) _ _ (by rfl) wr w1.heap.size _ _ (x + y) (by rfl) HO.out (by rfl) (heap_alloc_new _ _) (grown_of _) Hxy.out Hlen.out hwB ?_; intro v' w' hown' hb' hg'))
      have HO3 := Lib.hid hown'
      have hbn := hbr.trans hb'
      clear HO hb' hown' hc1 hc2
      obtain ⟨b3, o3, e3, hc3⟩ := (((HV.out.ext j1)).ext hbn).cellAt (j := k) (by rw [HLA.out]; exact hlt)
      obtain ⟨rfl, rfl⟩ : b1 = b3 ∧ o1 = o3 := by simpa using e3
      rw [Hx.out] at hc3
      clear e3
      go_wp2
      go_roundw
      case rel => exact ⟨k + 1, by omega, by go_num, by rw [Hs.out], by rw [Ha.out]; exact HO3.out, hbn⟩
      case measure => simp [intOf]; omega
    · have ek : k = 64 := by omega
      have HO2 := Lib.hid (show OwnInts wr w1.heap.size _ (cmb 1 1 a b) from by rw [← addTo_all HLA.out HLB.out, ← ek]; exact HO.out)
      rw [ek]
      clear HO ek hlt hk
      obtain ⟨w2, rfl⟩ : ∃ w2 : World, w2 = wr := ⟨_, rfl⟩
      have j2 : Below w1.heap.size w1 w2 := hbr
      have g2 : Below w.heap.size w w2 := ext g1 j2
      have s2 := j2.size
      have t2 := g2.size
      clear hbr
      have HS := Lib.hid (HO2.out.ints)
      clear HO2
      go_wp2_with fail
      refine (C.out _ _ (((HV.out.ext j1).ext j2).ext (by go_grown))).mono ?_
      rintro e w3 ⟨x, rfl, hown, hb3⟩
      have j3 : Below w2.heap.size w2 w3 := ext (by go_grown) hb3
      have g3 : Below w.heap.size w w3 := ext g2 j3
      have s3 := j3.size
      have t3 := g3.size
      obtain ⟨gx, capx, rfl, -, -⟩ := hown.head (by rw [LX.out]; omega)
      rw [LX.out] at hown ⊢
      have HX := Lib.hid (hown)
      clear hown
      go_wp2_with fail
      refine (D.out _ _ ((((HU.out.ext j1).ext j2).ext j3).ext (by go_grown))).mono ?_
      rintro e w4 ⟨y, rfl, hown, hb4⟩
      have j4 : Below w3.heap.size w3 w4 := ext (by go_grown) hb4
      have g4 : Below w.heap.size w w4 := ext g3 j4
      have s4 := j4.size
      have t4 := g4.size
      obtain ⟨gy, capy, rfl, -, -⟩ := hown.head (by rw [LY.out]; omega)
      rw [LY.out] at hown ⊢
      have HY := Lib.hid (hown)
      clear hown
      obtain ⟨-, -, -, hxc, -⟩ := ((HX.out.ext j4)).at
      have hx0 := hxc 0 (by rw [LX.out]; omega)
      rw [T0.out] at hx0
      generalize sumL a 64 = sm at hx0 ⊢
      clear hxc
      go_wp2_with fail
      refine (fwd_gen _ _ _ (((HS.out.ext j3).ext j4).ext (by go_grown))).mono ?_
      rintro e w5 ⟨az, capz, zs, ez, rfl, hown, hzz, hb5⟩
      have j5 : Below w4.heap.size w4 w5 := ext (by go_grown) hb5
      have g5 : Below w.heap.size w w5 := ext g4 j5
      have s5 := j5.size
      have t5 := g5.size
      have HZ := Lib.hid (hown.ints)
      have HZZ := Lib.hid hzz
      clear hown hzz hx0
      go_wp2
      go_loopw [14] (fun i wr => ∃ k : Nat, k ≤ zs.length ∧ i = .int .i64 k ∧ Below w5.heap.size w5 wr) (fun i _ => zs.length - (intOf i).toNat)
      case atStart => exact ⟨0, Nat.zero_le _, rfl, Below.refl _ _⟩
      case round =>
        obtain ⟨k, hk, rfl, hbr⟩ := hrel
        by_cases hlt : k < zs.length
        · rcases HZZ.out with hz0 | ⟨hez, hzs⟩
          · omega
          · subst hez
            have hkn : k < 64 := by rw [hzs, LS.out] at hlt; exact hlt
            obtain ⟨bz, oz, rfl, hcz⟩ := ((HZ.out).ext hbr).cellAt hlt
            rw [hzs, TS.out k] at hcz
            obtain ⟨-, -, -, hcx, -⟩ := ((((HX.out.ext j4).ext j5)).ext hbr).at
            have hcx := hcx k (by rw [LX.out]; exact hkn)
            obtain ⟨-, -, -, hcy, -⟩ := (((HY.out.ext j5)).ext hbr).at
            have hcy := hcy k (by rw [LY.out]; exact hkn)
            obtain ⟨hb1x, hb2x⟩ := TA.out k
            obtain ⟨hb1y, hb2y⟩ := TB.out k
            rw [HLA.out] at hb1x hb2x
            rw [HLB.out] at hb1y hb2y
            clear hzs HZZ
            generalize (turnL a).getD k 0 = x at hcz hcx hb1x hb2x
            generalize (turnL b).getD k 0 = y at hcz hcy hb1y hb2y
            have q1 : IntKind.i64.wrap (x + y) = x + y := IntWalk.i64_in _ (by omega)
            rw [errV_zero]
            go_wp2
            go_quiet (fail)
            go_wp2
            go_roundw
            case rel => exact ⟨k + 1, by omega, by go_num, by first | exact hbr | exact hbr.drew | exact below_drewN hbr _⟩
            case measure => simp [intOf]; omega
        · clear HZZ
          obtain ⟨w6, rfl⟩ : ∃ w6 : World, w6 = wr := ⟨_, rfl⟩
          have j6 : Below w5.heap.size w5 w6 := hbr
          have g6 : Below w.heap.size w w6 := ext g5 j6
          have s6 := j6.size
          have t6 := g6.size
          clear hbr
          go_wp2_with fail
          refine (fwd_gen _ _ _ (((((HX.out.ext j4).ext j5).ext j6)).ints.ext (by go_grown))).mono ?_
          rintro e w7 ⟨au, capu, us, eu, rfl, hown, huu, hb7⟩
          have j7 : Below w6.heap.size w6 w7 := ext (by go_grown) hb7
          have g7 : Below w.heap.size w w7 := ext g6 j7
          have s7 := j7.size
          have t7 := g7.size
          have HZ2 := Lib.hid (hown.ints)
          have HUU := Lib.hid huu
          clear hown huu
          go_wp2
          go_loopw [17] (fun i wr => ∃ k : Nat, k ≤ us.length ∧ i = .int .i64 k ∧ Below w7.heap.size w7 wr) (fun i _ => us.length - (intOf i).toNat)
          case atStart => exact ⟨0, Nat.zero_le _, rfl, Below.refl _ _⟩
          case round =>
            obtain ⟨k, hk, rfl, hbr⟩ := hrel
            by_cases hlt : k < us.length
            · rcases HUU.out with hz0 | ⟨heu, hus⟩
              · omega
              · subst heu
                have hkn : k < 64 := by rw [hus, LT.out] at hlt; exact hlt
                obtain ⟨bz, oz, rfl, hcz⟩ := ((HZ2.out).ext hbr).cellAt hlt
                rw [hus, TT.out k] at hcz
                obtain ⟨b1, o1, rfl, hc1⟩ := (((((((((HV.out.ext j1).ext j2).ext j3).ext j4).ext j5).ext j6).ext j7)).ext hbr).cellAt (j := k) (by rw [HLA.out]; exact hkn)
                obtain ⟨hb1x, hb2x⟩ := BA.out k
                clear hus HUU
                generalize a.getD k 0 = x at hcz hc1 hb1x hb2x
                have q1 : IntKind.i64.wrap (64 * x) = 64 * x := IntWalk.i64_in _ (by omega)
                rw [errV_zero]
                go_wp2
                go_quiet (fail)
                go_wp2
                go_roundw
                case rel => exact ⟨k + 1, by omega, by go_num, by first | exact hbr | exact hbr.drew | exact below_drewN hbr _⟩
                case measure => simp [intOf]; omega
            · clear HUU
              obtain ⟨w8, rfl⟩ : ∃ w8 : World, w8 = wr := ⟨_, rfl⟩
              have j8 : Below w7.heap.size w7 w8 := hbr
              have g8 : Below w.heap.size w w8 := ext g7 j8
              have s8 := j8.size
              have t8 := g8.size
              clear hbr
              go_wp2_with fail
              refine (first_any _ (((((((((HG.out.ext j1).ext j2).ext j3).ext j4).ext j5).ext j6).ext j7).ext j8).ext (by go_grown))).mono ?_
              rintro e w9 ⟨rfl, hb9⟩
              have j9 : Below w8.heap.size w8 w9 := ext (by go_grown) hb9
              have g9 : Below w.heap.size w w9 := ext g8 j9
              have s9 := j9.size
              have t9 := g9.size
              go_wp2
              all_goals go_returns
              all_goals exact ⟨by first | rfl | (simp; done) | (simp; omega), g9⟩

theorem sums_walk (v u : Value) (a b : List Int) (w : World) (hv : Ints w v a) (hu : Ints w u b) (hg : TypeIs w) :
    Calls Tryd.prog 7 #[v, u] w fun e w' => e = .returned (.bool true) ∧ Below w.heap.size w w' := by
  by_cases h : skips a b 65536
  · exact sums_skip v u a b w hv hu hg h
  · obtain ⟨h1, h2, h3, h4⟩ := not_skips h
    by_cases h5 : a.length = 16
    · exact sums_in16 v u a b w hv hu hg h5 (by omega) h3 h4
    by_cases h6 : a.length = 64
    · exact sums_in64 v u a b w hv hu hg h6 (by omega) h3 h4
    exact sums_odd a.length v u a b w hv hu hg rfl h2.symm h1 h5 h6 h3 h4
end Go.Proofs.YtmmhlojjipbceaaDoor
