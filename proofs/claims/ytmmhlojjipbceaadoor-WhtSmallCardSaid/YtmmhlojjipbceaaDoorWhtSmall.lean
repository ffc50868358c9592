/- kinlaw8.WhtSmall: the walk. -/
import Derived.Test.YtmmhlojjipbceaaDoorWhtSums
import Derived.Laws.Cover1
set_option linter.unusedSimpArgs false
set_option linter.unusedVariables false
namespace Go.Proofs.YtmmhlojjipbceaaDoor
open Go.RowKit Go.Extern.Stop Go.Stop Go.Extern
open T

def skips2 (c b : List Int) (m : Int) : Prop := 5000 < c.length ∨ (c.length ≤ 5000 ∧ b.length ≠ c.length) ∨ (c.length ≤ 5000 ∧ b.length = c.length ∧ withinB b (-m) m = false) ∨ (c.length ≤ 5000 ∧ b.length = c.length ∧ withinB b (-m) m = true ∧ withinB c (-m) m = false)
theorem not_skips2 {c b : List Int} {m : Int} (h : ¬ skips2 c b m) : c.length ≤ 5000 ∧ b.length = c.length ∧ withinB b (-m) m = true ∧ withinB c (-m) m = true := by
  unfold skips2 at h
  by_cases h1 : 5000 < c.length
  · exact absurd (.inl h1) h
  by_cases h2 : b.length = c.length
  · cases h3 : withinB b (-m) m with
    | false => exact absurd (.inr (.inr (.inl ⟨by omega, h2, h3⟩))) h
    | true =>
      cases h4 : withinB c (-m) m with
      | false => exact absurd (.inr (.inr (.inr ⟨by omega, h2, h3, h4⟩))) h
      | true => exact ⟨by omega, h2, rfl, rfl⟩
  · exact absurd (.inr (.inl ⟨by omega, h2⟩)) h
theorem inv_gen (xs : List Int) (v : Value) (w : World) (hv : Ints w v xs) :
    Calls Tryd.prog 13 #[v] w fun e w' => ∃ ao cap zs ez, e = .returned (.tuple #[.slice ao (zs.length) cap, errV ez]) ∧ ez = chkE xs 16777216 ∧ OwnInts w' w.heap.size (.slice ao zs.length cap) zs ∧ zs = invV xs ∧ Below w.heap.size w w' := by
  refine (pinverse_any v xs w hv).mono fun e w' ⟨v', he, ho, hb⟩ => ?_
  obtain ⟨ao, cap, rfl⟩ := ho.shape
  exact ⟨ao, cap, invV xs, chkE xs 16777216, he, rfl, ho, rfl, hb⟩

set_option maxRecDepth 100000 in
set_option maxHeartbeats 4000000 in
theorem small_skip (v u : Value) (c b : List Int) (w : World) (hv : Ints w v c) (hu : Ints w u b) (hg : TypeIs w) (h : skips2 c b 16777216) :
    Calls Tryd.prog 6 #[v, u] w fun e w' => e = .returned (.bool true) ∧ Below w.heap.size w w' := by
  have HV := Lib.hid hv
  have HU := Lib.hid hu
  have HG := Lib.hid hg
  have HA := Lib.hid (within_val u b 16777216)
  have HB := Lib.hid (within_val v c 16777216)
  obtain ⟨ao, cap, rfl⟩ := slice_of hv rfl
  obtain ⟨ao2, cap2, rfl⟩ := slice_of hu rfl
  clear hv hu hg
  rcases h with h | ⟨h1, h⟩ | ⟨h1, h2, h3⟩ | ⟨h1, h2, h3, h4⟩
  · go_enter Tryd.func6, Tryd.ntmps6
    have g0 : Below w.heap.size w w := Below.refl _ _
    go_wp2_with fail
    refine (first_any _ (HG.out.ext (by go_grown))).mono ?_
    rintro e w1 ⟨rfl, hb1⟩
    have j1 : Below w.heap.size w w1 := ext (by go_grown) hb1
    have g1 : Below w.heap.size w w1 := ext g0 j1
    have s1 := j1.size
    have t1 := g1.size
    go_wp2_with fail
    refine (first_any _ ((HG.out.ext j1).ext (by go_grown))).mono ?_
    rintro e w2 ⟨rfl, hb2⟩
    have j2 : Below w1.heap.size w1 w2 := ext (by go_grown) hb2
    have g2 : Below w.heap.size w w2 := ext g1 j2
    have s2 := j2.size
    have t2 := g2.size
    go_wp2
    all_goals go_returns
    all_goals exact ⟨by first | rfl | (simp; done) | (simp; omega), g2⟩
  · have hne : ((b.length : Int) != (c.length : Int)) = true := by simp; omega
    clear h
    go_enter Tryd.func6, Tryd.ntmps6
    have g0 : Below w.heap.size w w := Below.refl _ _
    go_wp2_with fail
    refine (first_any _ (HG.out.ext (by go_grown))).mono ?_
    rintro e w1 ⟨rfl, hb1⟩
    have j1 : Below w.heap.size w w1 := ext (by go_grown) hb1
    have g1 : Below w.heap.size w w1 := ext g0 j1
    have s1 := j1.size
    have t1 := g1.size
    go_wp2_with fail
    refine (first_any _ ((HG.out.ext j1).ext (by go_grown))).mono ?_
    rintro e w2 ⟨rfl, hb2⟩
    have j2 : Below w1.heap.size w1 w2 := ext (by go_grown) hb2
    have g2 : Below w.heap.size w w2 := ext g1 j2
    have s2 := j2.size
    have t2 := g2.size
    go_wp2
    all_goals go_returns
    all_goals exact ⟨by first | rfl | (simp; done) | (simp; omega), g2⟩
  · have HA1 := Lib.hid (HA.out _ h3)
    have hne : ((b.length : Int) != (c.length : Int)) = false := by simp; omega
    clear h2 h3
    go_enter Tryd.func6, Tryd.ntmps6
    have g0 : Below w.heap.size w w := Below.refl _ _
    go_wp2_with fail
    refine (first_any _ (HG.out.ext (by go_grown))).mono ?_
    rintro e w1 ⟨rfl, hb1⟩
    have j1 : Below w.heap.size w w1 := ext (by go_grown) hb1
    have g1 : Below w.heap.size w w1 := ext g0 j1
    have s1 := j1.size
    have t1 := g1.size
    go_wp2_with fail
    refine (HA1.out _ ((HU.out.ext j1).ext (by go_grown))).mono ?_
    rintro e w' ⟨rfl, rfl⟩
    go_wp2_with fail
    refine (first_any _ ((HG.out.ext j1).ext (by go_grown))).mono ?_
    rintro e w2 ⟨rfl, hb2⟩
    have j2 : Below w1.heap.size w1 w2 := ext (by go_grown) hb2
    have g2 : Below w.heap.size w w2 := ext g1 j2
    have s2 := j2.size
    have t2 := g2.size
    go_wp2
    all_goals go_returns
    all_goals exact ⟨by first | rfl | (simp; done) | (simp; omega), g2⟩
  · have HA1 := Lib.hid (HA.out _ h3)
    have HB1 := Lib.hid (HB.out _ h4)
    clear h4
    have hne : ((b.length : Int) != (c.length : Int)) = false := by simp; omega
    clear h2 h3
    go_enter Tryd.func6, Tryd.ntmps6
    have g0 : Below w.heap.size w w := Below.refl _ _
    go_wp2_with fail
    refine (first_any _ (HG.out.ext (by go_grown))).mono ?_
    rintro e w1 ⟨rfl, hb1⟩
    have j1 : Below w.heap.size w w1 := ext (by go_grown) hb1
    have g1 : Below w.heap.size w w1 := ext g0 j1
    have s1 := j1.size
    have t1 := g1.size
    go_wp2_with fail
    refine (HA1.out _ ((HU.out.ext j1).ext (by go_grown))).mono ?_
    rintro e w' ⟨rfl, rfl⟩
    go_wp2_with fail
    refine (HB1.out _ ((HV.out.ext j1).ext (by go_grown))).mono ?_
    rintro e w' ⟨rfl, rfl⟩
    go_wp2_with fail
    refine (first_any _ ((HG.out.ext j1).ext (by go_grown))).mono ?_
    rintro e w2 ⟨rfl, hb2⟩
    have j2 : Below w1.heap.size w1 w2 := ext (by go_grown) hb2
    have g2 : Below w.heap.size w w2 := ext g1 j2
    have s2 := j2.size
    have t2 := g2.size
    go_wp2
    all_goals go_returns
    all_goals exact ⟨by first | rfl | (simp; done) | (simp; omega), g2⟩

set_option maxRecDepth 100000 in
set_option maxHeartbeats 16000000 in
theorem small_in (n : Nat) (v u : Value) (c b : List Int) (w : World) (hv : Ints w v c) (hu : Ints w u b) (hg : TypeIs w) (h1 : c.length = n) (h2 : b.length = n) (hn : n ≤ 5000) (h3 : withinB b (-16777216) 16777216 = true) (h4 : withinB c (-16777216) 16777216 = true) :
    Calls Tryd.prog 6 #[v, u] w fun e w' => e = .returned (.bool true) ∧ Below w.heap.size w w' := by
  have HV := Lib.hid hv
  have HU := Lib.hid hu
  have HG := Lib.hid hg
  have HA1 := Lib.hid (within_val u b 16777216 true h3)
  have HB1 := Lib.hid (within_val v c 16777216 true h4)
  have bb := bd_of_within (by omega) h3
  have bc := bd_of_within (by omega) h4
  have BB := Lib.hid bb
  have BC := Lib.hid bc
  have HT := Lib.hid (fun k => (topTo_bd b k).1)
  have HTL := Lib.hid (fun k => topTo_le bb k)
  have HLC := Lib.hid h1
  have HLB := Lib.hid h2
  have HSM := Lib.hid (fun hc hd j hj => small (c := c) (by_ := b) rfl (by rw [h1, h2]) (topTo_all h2) hc hd j hj)
  obtain ⟨ao, cap, rfl⟩ := slice_of hv h1
  obtain ⟨ao2, cap2, rfl⟩ := slice_of hu h2
  clear hv hu hg h1 h2 h3 h4 bb bc
  go_enter Tryd.func6, Tryd.ntmps6
  have g0 : Below w.heap.size w w := Below.refl _ _
  go_wp2_with fail
  refine (first_any _ (HG.out.ext (by go_grown))).mono ?_
  rintro e w1 ⟨rfl, hb1⟩
  have j1 : Below w.heap.size w w1 := ext (by go_grown) hb1
  have g1 : Below w.heap.size w w1 := ext g0 j1
  have s1 := j1.size
  have t1 := g1.size
  go_wp2_with fail
  refine (HA1.out _ ((HU.out.ext j1).ext (by go_grown))).mono ?_
  rintro e w' ⟨rfl, rfl⟩
  go_wp2_with fail
  refine (HB1.out _ ((HV.out.ext j1).ext (by go_grown))).mono ?_
  rintro e w' ⟨rfl, rfl⟩
  go_wp2
  go_loopw [5, 6, 7] (fun h o i wr => ∃ k : Nat, k ≤ n ∧ i = .int .i64 k ∧ h = .int .i64 (topTo b k) ∧ OwnInts wr w1.heap.size o (addTo c b k) ∧ Below w1.heap.size w1 wr) (fun _ _ i _ => n - (intOf i).toNat)
  case atStart => exact ⟨0, Nat.zero_le _, rfl, rfl, OwnInts.nil _ _, Below.refl _ _⟩
  case round =>
    obtain ⟨k, hk, rfl, rfl, hown, hbr⟩ := hrel
    have HO := Lib.hid hown
    clear hown
    by_cases hlt : k < n
    · obtain ⟨b1, o1, rfl, hc1⟩ := (((HV.out.ext j1)).ext hbr).cellAt (j := k) (by rw [HLC.out]; exact hlt)
      obtain ⟨b2, o2, rfl, hc2⟩ := (((HU.out.ext j1)).ext hbr).cellAt (j := k) (by rw [HLB.out]; exact hlt)
      have hba := BC.out k
      have hbb := BB.out k
      have hh1 := HT.out k
      have hh2 := HTL.out k
      have Hs := Lib.hid (topTo_succ b k)
      have Ha := Lib.hid (addTo_succ c b k)
      have Hl := Lib.hid (length_addTo c b k)
      generalize hx : c.getD k 0 = x at *
      generalize hy : b.getD k 0 = y at *
      generalize hs : topTo b k = h at *
      have Hx := Lib.hid hx
      have Hy := Lib.hid hy
      have Hh := Lib.hid hs
      clear hx hy hs
      obtain ⟨hba1, hba2⟩ := hba
      obtain ⟨hbb1, hbb2⟩ := hbb
      have hxy : -9223372036854775808 ≤ x + y ∧ x + y ≤ 9223372036854775807 := by omega
      have Hxy := Lib.hid hxy
      clear hxy
      have q1 : IntKind.i64.wrap (x + y) = x + y := IntWalk.i64_in _ (by omega)
      have q2 : IntKind.i64.wrap (-y) = -y := IntWalk.i64_in _ (by omega)
      have hwB := hbr.size
      have Hlen := Lib.hid (show (addTo c b k).length ≤ 1099511627776 from by rw [Hl.out]; omega)
      have hl1 : b1 < w1.heap.size := ((HV.out.ext j1)).at1 (by rw [HLC.out]; exact hlt)
      have hl2 : b2 < w1.heap.size := ((HU.out.ext j1)).at1 (by rw [HLB.out]; exact hlt)
      go_wp2
      go_region_held3 (fun w' => w'.cell? ⟨b1, o1 + k, none⟩ = some (.int .i64 x) ∧ w'.cell? ⟨b2, o2 + k, none⟩ = some (.int .i64 y))
        (first | go_keep | exact ⟨(hb'.cell (p := ⟨b1, _, none⟩) hl1).trans hc1, (hb'.cell (p := ⟨b2, _, none⟩) hl2).trans hc2⟩)
        ((refine step_app1 (by rfl) _ _ (by rfl) wr w1.heap.size _ _ (x + y) (by rfl) HO.out (by rfl) (heap_alloc_new _ _) (grown_of _) Hxy.out Hlen.out hwB ?_; intro v' w' hown' hb' hg'))
      have HO3 := Lib.hid hown'
      have hbn := hbr.trans hb'
      clear HO hb' hown' hc1 hc2
      obtain ⟨b3, o3, e3, hc3⟩ := (((HU.out.ext j1)).ext hbn).cellAt (j := k) (by rw [HLB.out]; exact hlt)
      obtain ⟨rfl, rfl⟩ : b2 = b3 ∧ o2 = o3 := by simpa using e3
      rw [Hy.out] at hc3
      clear e3
      by_cases m1 : h < y <;> by_cases m2 : h < -y <;> by_cases m3 : y < -y
      all_goals
        go_wp2
        go_quiet (fail)
        go_wp2
        go_roundw
        case rel => exact ⟨k + 1, by omega, by go_num, int_eq (by have e1 := Hs.out; (try rw [Hy.out] at e1); (try rw [Hh.out] at e1); rw [e1]; omega), by rw [Ha.out]; first | exact HO3.out | exact HO3.out.drew, by first | exact hbn | exact hbn.drew | exact below_drewN' hbn _⟩
        case measure => simp [intOf]; omega
    · have ek : k = n := by omega
      have HO2 := Lib.hid (show OwnInts wr w1.heap.size _ (cmb 1 1 c b) from by rw [← addTo_all HLC.out HLB.out, ← ek]; exact HO.out)
      obtain ⟨hb0, hb16⟩ := And.intro (HT.out n) (HTL.out n)
      rw [ek]
      clear HO ek hlt hk
      generalize topTo b n = h at *
      obtain ⟨w2, rfl⟩ : ∃ w2 : World, w2 = wr := ⟨_, rfl⟩
      have j2 : Below w1.heap.size w1 w2 := hbr
      have g2 : Below w.heap.size w w2 := ext g1 j2
      have s2 := j2.size
      have t2 := g2.size
      clear hbr
      have HS := Lib.hid (HO2.out.ints)
      clear HO2
      go_wp2_with fail
      refine (inv_gen _ _ _ (((HV.out.ext j1).ext j2).ext (by go_grown))).mono ?_
      rintro e w3 ⟨a3, c3, zs, ez, rfl, hez, hown, hzs, hb3⟩
      have j3 : Below w2.heap.size w2 w3 := ext (by go_grown) hb3
      have g3 : Below w.heap.size w w3 := ext g2 j3
      have s3 := j3.size
      have t3 := g3.size
      have HZ := Lib.hid (hown.ints)
      have Hez := Lib.hid hez
      have Hzs := Lib.hid hzs
      clear hown hez hzs
      go_wp2_with fail
      refine (inv_gen _ _ _ ((HS.out.ext j3).ext (by go_grown))).mono ?_
      rintro e w4 ⟨a4, c4, us, eu, rfl, heu, hown, hus, hb4⟩
      have j4 : Below w3.heap.size w3 w4 := ext (by go_grown) hb4
      have g4 : Below w.heap.size w w4 := ext g3 j4
      have s4 := j4.size
      have t4 := g4.size
      have HY := Lib.hid (hown.ints)
      have Heu := Lib.hid heu
      have Hus := Lib.hid hus
      clear hown heu hus
      by_cases hz : ez = 0
      · subst hz
        by_cases hy : eu = 0
        · subst hy
          have hzc : (zs.length = n ∧ us.length = n : Prop) := ⟨(by rw [Hzs.out, length_invV Hez.out.symm, HLC.out]), (by rw [Hus.out, length_invV Heu.out.symm, length_cmb HLC.out HLB.out])⟩
          obtain ⟨hzn, hun⟩ := hzc
          have hz5 : zs.length ≤ 5000 := by omega
          have HZN := Lib.hid hzn
          have HUN := Lib.hid hun
          have hle : us.length ≤ zs.length ∧ zs.length ≤ us.length := by omega
          obtain ⟨hle1, hle2⟩ := hle
          clear hzn hun
          have HM : Hid (∀ j, j < zs.length → zs.getD j 0 - us.getD j 0 ≤ h ∧ us.getD j 0 - zs.getD j 0 ≤ h) := fun j hj => by rw [Hzs.out, Hus.out]; exact HSM.out Hez.out.symm Heu.out.symm j (by rw [HLC.out]; rw [HZN.out] at hj; exact hj)
          have HZI := Lib.hid ((HZ.out.ext j4)).in64
          have HUI := Lib.hid (HY.out).in64
          rw [errV_zero]
          go_wp2
          go_loopw [12] (fun i wr => ∃ k : Nat, k ≤ zs.length ∧ i = .int .i64 k ∧ Below w4.heap.size w4 wr) (fun i _ => zs.length - (intOf i).toNat)
          case atStart => exact ⟨0, Nat.zero_le _, rfl, Below.refl _ _⟩
          case round =>
            obtain ⟨k, hk, rfl, hbr⟩ := hrel
            by_cases hlt : k < zs.length
            · obtain ⟨bz, oz, rfl, hcz⟩ := (((HZ.out.ext j4)).ext hbr).cellAt hlt
              obtain ⟨bu, ou, rfl, hcu⟩ := ((HY.out).ext hbr).cellAt (j := k) (by omega)
              obtain ⟨hm1, hm2⟩ := HM.out k hlt
              obtain ⟨hr1, hr2⟩ := getD_in64 HZI.out k
              obtain ⟨hr3, hr4⟩ := getD_in64 HUI.out k
              generalize zs.getD k 0 = x at hcz hm1 hm2 hr1 hr2
              generalize us.getD k 0 = y at hcu hm1 hm2 hr3 hr4
              have hltu : k < us.length := by omega
              have d1 : decide (h < x - y) = false := by simp; omega
              have d2 : decide (h < y - x) = false := by simp; omega
              have q1 : IntKind.i64.wrap (x - y) = x - y := IntWalk.i64_in _ (by omega)
              have q2 : IntKind.i64.wrap (y - x) = y - x := IntWalk.i64_in _ (by omega)
              go_wp2
              go_quiet (fail)
              clear q1 q2
              go_wp2
              go_roundw
              case rel => exact ⟨k + 1, by omega, by go_num, by first | exact hbr | exact hbr.drew | exact below_drewN hbr _⟩
              case measure => simp [intOf]; omega
            · have hlen : ((zs.length : Int) == (us.length : Int)) = true := by simp; omega
              obtain ⟨w5, rfl⟩ : ∃ w5 : World, w5 = wr := ⟨_, rfl⟩
              have j5 : Below w4.heap.size w4 w5 := hbr
              have g5 : Below w.heap.size w w5 := ext g4 j5
              have s5 := j5.size
              have t5 := g5.size
              clear hbr
              go_wp2_with fail
              refine (first_any _ ((((((HG.out.ext j1).ext j2).ext j3).ext j4).ext j5).ext (by go_grown))).mono ?_
              rintro e w6 ⟨rfl, hb6⟩
              have j6 : Below w5.heap.size w5 w6 := ext (by go_grown) hb6
              have g6 : Below w.heap.size w w6 := ext g5 j6
              have s6 := j6.size
              have t6 := g6.size
              go_wp2
              all_goals go_returns
              all_goals exact ⟨by first | rfl | (simp; done) | (simp; omega), g6⟩
        · rw [errV_zero, errV_ne hy]
          go_wp2_with fail
          refine (first_any _ (((((HG.out.ext j1).ext j2).ext j3).ext j4).ext (by go_grown))).mono ?_
          rintro e w5 ⟨rfl, hb5⟩
          have j5 : Below w4.heap.size w4 w5 := ext (by go_grown) hb5
          have g5 : Below w.heap.size w w5 := ext g4 j5
          have s5 := j5.size
          have t5 := g5.size
          go_wp2
          all_goals go_returns
          all_goals exact ⟨by first | rfl | (simp; done) | (simp; omega), g5⟩
      · rw [errV_ne hz]
        go_wp2_with fail
        refine (first_any _ (((((HG.out.ext j1).ext j2).ext j3).ext j4).ext (by go_grown))).mono ?_
        rintro e w5 ⟨rfl, hb5⟩
        have j5 : Below w4.heap.size w4 w5 := ext (by go_grown) hb5
        have g5 : Below w.heap.size w w5 := ext g4 j5
        have s5 := j5.size
        have t5 := g5.size
        go_wp2
        all_goals go_returns
        all_goals exact ⟨by first | rfl | (simp; done) | (simp; omega), g5⟩

theorem small_walk (v u : Value) (c b : List Int) (w : World) (hv : Ints w v c) (hu : Ints w u b) (hg : TypeIs w) :
    Calls Tryd.prog 6 #[v, u] w fun e w' => e = .returned (.bool true) ∧ Below w.heap.size w w' := by
  by_cases h : skips2 c b 16777216
  · exact small_skip v u c b w hv hu hg h
  · obtain ⟨h1, h2, h3, h4⟩ := not_skips2 h
    exact small_in c.length v u c b w hv hu hg rfl h2 h1 h3 h4
end Go.Proofs.YtmmhlojjipbceaaDoor
