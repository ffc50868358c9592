/- intra.check, foretell, Predict: contracts. -/
import Derived.Test.YtammgbohaaiicaaDoorIntraP
import Derived.Test.YtammgbohaaiicaaDoorPlaneA
import Derived.Test.YtammgbohaaiicaaDoorStep
set_option linter.unusedSimpArgs false
set_option linter.unusedVariables false
namespace Go.Proofs.YtammgbohaaiicaaDoor
open Go.RowKit

theorem nsum_zero (top left : List Int) : nsum top left 0 = top.length := by unfold nsum; rw [sumOf_zero]; omega
theorem wrap_mulI {a b : Int} {m : Nat} (h : a * b = m) (hm : m ≤ 9223372036854775807) : IntKind.i64.wrap (a * b) = m := by rw [h]; exact IntWalk.i64_in _ (by omega)
theorem predAt0 {a b : List Int} {c : Int} {k : Nat} : predAt 0 a b c k = meanV a b := by unfold predAt; rfl
theorem predAt1 {a b : List Int} {c : Int} {k : Nat} : predAt 1 a b c k = a.getD (k % a.length) 0 := by unfold predAt; rfl
theorem predAt2 {a b : List Int} {c : Int} {k : Nat} : predAt 2 a b c k = b.getD (k / a.length) 0 := by unfold predAt; rfl
theorem predAt3 {a b : List Int} {c : Int} {k : Nat} : predAt 3 a b c k = clipV (b.getD (k / a.length) 0 + a.getD (k % a.length) 0 - c) := by unfold predAt; rfl
theorem predAt_in {m c : Int} {a b : List Int} (h : edgeE a b c = 0) (k : Nat) : 0 ≤ predAt m a b c k ∧ predAt m a b c k ≤ 255 := by
  obtain ⟨h1, h2, h3, h4, _, _⟩ := edgeE_zero h
  unfold predAt
  split
  · exact meanV_bd h1 h3 h4
  · split
    · exact within_get h3 (by omega) (by omega) _
    · split
      · exact within_get h4 (by omega) (by omega) _
      · exact clipV_bd _

set_option maxRecDepth 100000 in
set_option maxHeartbeats 4000000 in
theorem check_any (tv lv : Value) (a b : List Int) (c : Int) (w : World) (hv : Ints w tv a) (hu : Ints w lv b) :
    Calls Tryd.prog 26 #[tv, lv, .int .i64 c] w fun e w' => e = .returned (errV (edgeE a b c)) ∧ Below w.heap.size w w' := by
  have s1 := fun w hv => psamples_any tv a w hv
  have s2 := fun w hv => psamples_any lv b w hv
  have HV := Lib.hid hv
  have HU := Lib.hid hu
  have hla := hv.len
  have hlb := hu.len
  obtain ⟨ao, cap, rfl⟩ := hv.shape
  obtain ⟨bo, cap2, rfl⟩ := hu.shape
  clear hv hu
  by_cases hn : a.length = 4 ∨ a.length = 8
  · by_cases hab : b.length = a.length
    · have q3 : ((b.length : Int) != (a.length : Int)) = false := by rw [hab]; simp
      have q12 : (((a.length : Int) != 4) && ((a.length : Int) != 8)) = false := by rcases hn with e | e <;> rw [e] <;> rfl
      cases h1 : withinB a 0 255 with
      | false =>
        rw [show edgeE a b c = 3 from by unfold edgeE; rw [if_pos ⟨hn, hab⟩, h1]; rfl]
        rw [h1] at s1
        have S1 := Lib.hid s1
        clear s1 s2 h1 hab
        rcases hn with hn | hn
        · have q1 : ((a.length : Int) != 4) = false := by rw [hn]; rfl
          clear hn q12
          go_enter Tryd.func26, Tryd.ntmps26
          go_wp2_with fail
          refine (S1.out _ (HV.out.ext (by go_grown))).mono ?_
          rintro e w1 ⟨rfl, rfl⟩
          go_wp2
          go_returns
          exact ⟨rfl, by go_grown⟩
        · have q1 : ((a.length : Int) != 4) = true := by rw [hn]; rfl
          have q2 : ((a.length : Int) != 8) = false := by rw [hn]; rfl
          clear hn q12
          go_enter Tryd.func26, Tryd.ntmps26
          go_wp2_with fail
          refine (S1.out _ (HV.out.ext (by go_grown))).mono ?_
          rintro e w1 ⟨rfl, rfl⟩
          go_wp2
          go_returns
          exact ⟨rfl, by go_grown⟩
      | true =>
        rw [h1] at s1
        have S1 := Lib.hid s1
        cases h2 : withinB b 0 255 with
        | false =>
          rw [show edgeE a b c = 3 from by unfold edgeE; rw [if_pos ⟨hn, hab⟩, h1, h2]; rfl]
          rw [h2] at s2
          have S2 := Lib.hid s2
          clear s1 s2 h1 h2 hab
          rcases hn with hn | hn
          · have q1 : ((a.length : Int) != 4) = false := by rw [hn]; rfl
            clear hn q12
            go_enter Tryd.func26, Tryd.ntmps26
            go_wp2_with fail
            refine (S1.out _ (HV.out.ext (by go_grown))).mono ?_
            rintro e w1 ⟨rfl, rfl⟩
            go_wp2_with fail
            refine (S2.out _ (HU.out.ext (by go_grown))).mono ?_
            rintro e w2 ⟨rfl, rfl⟩
            go_wp2
            go_returns
            exact ⟨rfl, by go_grown⟩
          · have q1 : ((a.length : Int) != 4) = true := by rw [hn]; rfl
            have q2 : ((a.length : Int) != 8) = false := by rw [hn]; rfl
            clear hn q12
            go_enter Tryd.func26, Tryd.ntmps26
            go_wp2_with fail
            refine (S1.out _ (HV.out.ext (by go_grown))).mono ?_
            rintro e w1 ⟨rfl, rfl⟩
            go_wp2_with fail
            refine (S2.out _ (HU.out.ext (by go_grown))).mono ?_
            rintro e w2 ⟨rfl, rfl⟩
            go_wp2
            go_returns
            exact ⟨rfl, by go_grown⟩
        | true =>
          rw [h2] at s2
          have S2 := Lib.hid s2
          by_cases k1 : c < 0
          · rw [show edgeE a b c = 3 from by unfold edgeE; rw [if_pos ⟨hn, hab⟩, h1, h2]; simp; omega]
            clear s1 s2 h1 h2 hab
            rcases hn with hn | hn
            · have q1 : ((a.length : Int) != 4) = false := by rw [hn]; rfl
              clear hn q12
              go_enter Tryd.func26, Tryd.ntmps26
              go_wp2_with fail
              refine (S1.out _ (HV.out.ext (by go_grown))).mono ?_
              rintro e w1 ⟨rfl, rfl⟩
              go_wp2_with fail
              refine (S2.out _ (HU.out.ext (by go_grown))).mono ?_
              rintro e w2 ⟨rfl, rfl⟩
              go_wp2
              go_returns
              exact ⟨rfl, by go_grown⟩
            · have q1 : ((a.length : Int) != 4) = true := by rw [hn]; rfl
              have q2 : ((a.length : Int) != 8) = false := by rw [hn]; rfl
              clear hn q12
              go_enter Tryd.func26, Tryd.ntmps26
              go_wp2_with fail
              refine (S1.out _ (HV.out.ext (by go_grown))).mono ?_
              rintro e w1 ⟨rfl, rfl⟩
              go_wp2_with fail
              refine (S2.out _ (HU.out.ext (by go_grown))).mono ?_
              rintro e w2 ⟨rfl, rfl⟩
              go_wp2
              go_returns
              exact ⟨rfl, by go_grown⟩
          · by_cases k2 : 255 < c
            · rw [show edgeE a b c = 3 from by unfold edgeE; rw [if_pos ⟨hn, hab⟩, h1, h2]; simp; omega]
              clear s1 s2 h1 h2 hab
              rcases hn with hn | hn
              · have q1 : ((a.length : Int) != 4) = false := by rw [hn]; rfl
                clear hn q12
                go_enter Tryd.func26, Tryd.ntmps26
                go_wp2_with fail
                refine (S1.out _ (HV.out.ext (by go_grown))).mono ?_
                rintro e w1 ⟨rfl, rfl⟩
                go_wp2_with fail
                refine (S2.out _ (HU.out.ext (by go_grown))).mono ?_
                rintro e w2 ⟨rfl, rfl⟩
                go_wp2
                go_returns
                exact ⟨rfl, by go_grown⟩
              · have q1 : ((a.length : Int) != 4) = true := by rw [hn]; rfl
                have q2 : ((a.length : Int) != 8) = false := by rw [hn]; rfl
                clear hn q12
                go_enter Tryd.func26, Tryd.ntmps26
                go_wp2_with fail
                refine (S1.out _ (HV.out.ext (by go_grown))).mono ?_
                rintro e w1 ⟨rfl, rfl⟩
                go_wp2_with fail
                refine (S2.out _ (HU.out.ext (by go_grown))).mono ?_
                rintro e w2 ⟨rfl, rfl⟩
                go_wp2
                go_returns
                exact ⟨rfl, by go_grown⟩
            · rw [show edgeE a b c = 0 from edgeE_ok hn hab h1 h2 (by omega) (by omega)]
              clear s1 s2 h1 h2 hab
              rcases hn with hn | hn
              · have q1 : ((a.length : Int) != 4) = false := by rw [hn]; rfl
                clear hn q12
                go_enter Tryd.func26, Tryd.ntmps26
                go_wp2_with fail
                refine (S1.out _ (HV.out.ext (by go_grown))).mono ?_
                rintro e w1 ⟨rfl, rfl⟩
                go_wp2_with fail
                refine (S2.out _ (HU.out.ext (by go_grown))).mono ?_
                rintro e w2 ⟨rfl, rfl⟩
                go_wp2
                go_returns
                exact ⟨rfl, by go_grown⟩
              · have q1 : ((a.length : Int) != 4) = true := by rw [hn]; rfl
                have q2 : ((a.length : Int) != 8) = false := by rw [hn]; rfl
                clear hn q12
                go_enter Tryd.func26, Tryd.ntmps26
                go_wp2_with fail
                refine (S1.out _ (HV.out.ext (by go_grown))).mono ?_
                rintro e w1 ⟨rfl, rfl⟩
                go_wp2_with fail
                refine (S2.out _ (HU.out.ext (by go_grown))).mono ?_
                rintro e w2 ⟨rfl, rfl⟩
                go_wp2
                go_returns
                exact ⟨rfl, by go_grown⟩
    · have q3 : ((b.length : Int) != (a.length : Int)) = true := by simp; omega
      rw [show edgeE a b c = 14 from by unfold edgeE; rw [if_neg (fun q => hab q.2)]]
      clear s1 s2 hab
      rcases hn with hn | hn
      · have q1 : ((a.length : Int) != 4) = false := by rw [hn]; rfl
        clear hn
        go_enter Tryd.func26, Tryd.ntmps26
        go_wp2
        go_returns
        exact ⟨rfl, by go_grown⟩
      · have q1 : ((a.length : Int) != 4) = true := by rw [hn]; rfl
        have q2 : ((a.length : Int) != 8) = false := by rw [hn]; rfl
        clear hn
        go_enter Tryd.func26, Tryd.ntmps26
        go_wp2
        go_returns
        exact ⟨rfl, by go_grown⟩
  · have q1 : ((a.length : Int) != 4) = true := by simp; omega
    have q2 : ((a.length : Int) != 8) = true := by simp; omega
    rw [show edgeE a b c = 14 from by unfold edgeE; rw [if_neg (fun q => hn q.1)]]
    clear s1 s2 hn
    go_enter Tryd.func26, Tryd.ntmps26
    go_wp2
    go_returns
    exact ⟨rfl, by go_grown⟩

set_option maxRecDepth 100000 in
set_option maxHeartbeats 8000000 in
theorem fore0 (tv lv : Value) (a b : List Int) (c : Int) (w : World) (hv : Ints w tv a) (hu : Ints w lv b) (he : edgeE a b c = 0) :
    Calls Tryd.prog 27 #[.int .i64 0, tv, lv, .int .i64 c] w fun e w' => ∃ v', e = .returned v' ∧ OwnInts w' w.heap.size v' (predV 0 a b c) ∧ Below w.heap.size w w' := by
  obtain ⟨hn, hab, ha, hb, hc1, hc2⟩ := edgeE_zero he
  have HPI := Lib.hid (fun k => predAt_in (m := 0) he k)
  have HA := Lib.hid (fun i => within_get ha (show (0 : Int) ≤ 0 by omega) (show (0 : Int) ≤ 255 by omega) i)
  have HB := Lib.hid (fun i => within_get hb (show (0 : Int) ≤ 0 by omega) (show (0 : Int) ≤ 255 by omega) i)
  have HN := Lib.hid (fun k => nsum_bd ha hb k)
  have HM := Lib.hid (show meanV a b = nsum a b a.length / (2 * a.length) from rfl)
  have HMB := Lib.hid (meanV_bd hn ha hb)
  have HV := Lib.hid hv
  have HU := Lib.hid hu
  obtain ⟨ao, cap, rfl⟩ := hv.shape
  obtain ⟨bo, cap2, rfl⟩ := hu.shape
  have HLB := Lib.hid hab
  have hp : predV 0 a b c = mapTo (predAt 0 a b c) (a.length * a.length) := rfl
  rw [hp]
  have HPV := Lib.hid (fun k => @predAt0 a b c k)
  have HN0 := Lib.hid (nsum_zero a b)
  obtain ⟨N, hN⟩ : ∃ N, a.length = N := ⟨_, rfl⟩
  have HLA := Lib.hid hN
  have hn8 : N ≤ 8 := by omega
  have hn4 : 4 ≤ N := by omega
  rw [hN] at HM HV HLB HN0 ⊢
  rw [HLB.out] at HU ⊢
  clear hv hu ha hb hn hab he hp hN
  obtain ⟨NN, hNN⟩ : ∃ NN, N * N = NN := ⟨_, rfl⟩
  have hNN2 : NN ≤ 64 := by rw [← hNN]; exact Nat.mul_le_mul hn8 hn8
  have qm : IntKind.i64.wrap ((N : Int) * N) = (NN : Nat) := wrap_mulI (by rw [← hNN]; simp) (by omega)
  rw [hNN]
  have HNN := Lib.hid hNN
  clear hNN
  go_enter Tryd.func27, Tryd.ntmps27
  go_wp2
  go_loopw [10, 20] (fun s i wr => ∃ k : Nat, k ≤ N ∧ i = .int .i64 k ∧ s = .int .i64 (nsum a b k) ∧ Below w.heap.size w wr) (fun _ i _ => N - (intOf i).toNat)
  case atStart => exact ⟨0, Nat.zero_le _, rfl, by rw [HN0.out], Below.refl _ _⟩
  case round =>
    obtain ⟨k, hk, rfl, rfl, hbr⟩ := hrel
    have hsb := HN.out k
    rw [HLA.out] at hsb
    have HS := Lib.hid (nsum_succ a b k)
    by_cases hlt : k < N
    · obtain ⟨b1, o1, b2, o2, rfl, rfl, ca, cb⟩ := pair_at HV.out HU.out hbr (k := k) (by rw [HLA.out]; exact hlt) (by rw [HLB.out]; exact hlt)
      obtain ⟨p1, p2⟩ := HA.out k
      obtain ⟨p3, p4⟩ := HB.out k
      generalize a.getD k 0 = p at *
      generalize b.getD k 0 = q at *
      generalize nsum a b k = s at *
      go_wp2_with fail
      go_quiet (fail)
      go_wp2
      go_roundw
      case rel => exact ⟨k + 1, by omega, by go_num, int_eq HS.out.symm, by first | exact hbr | exact hbr.drew | exact below_drewN' hbr _⟩
      case measure => simp [intOf]; omega
    · have e : N = k := by omega
      subst e
      clear HS
      obtain ⟨wo, rfl⟩ : ∃ wo : World, wo = wr := ⟨_, rfl⟩
      have g0 := hbr
      clear hbr
      generalize hs : nsum a b N = s at *
      go_wp2_with (at_make; refine wpList_make rfl _ _ rfl NN rfl rfl rfl rfl (by omega) ?_)
      intro w1 hown hb1 hlt1
      have g1 : Below w.heap.size w w1 := ext g0 hb1
      have HO := Lib.hid (show OwnInts w1 wo.heap.size (.slice (some ⟨wo.heap.size, 0, none⟩) NN NN) (overTo (predAt 0 a b c) (List.replicate NN 0) 0) from by rw [overTo_zero]; simpa using hown)
      have s0 := g0.size
      clear hown hb1 hs
      obtain ⟨mn, hmn⟩ : ∃ mn, meanV a b = mn := ⟨_, rfl⟩
      obtain ⟨D2, hD2⟩ : ∃ D2, 2 * N = D2 := ⟨_, rfl⟩
      rw [hmn] at HM HMB HPV
      have hmn2 : mn = s / (2 * (N : Int)) := HM.out
      have q2 : IntKind.i64.wrap (2 * (N : Int)) = (D2 : Nat) := by rw [IntWalk.i64_in _ (by omega), ← hD2]; simp
      have qs : s / (D2 : Int) = mn := by rw [hmn2, ← hD2]; simp
      have hd20 : ¬ (D2 : Int) = 0 := by omega
      have hd21 : 1 ≤ (D2 : Int) := by omega
      have hd22 : ¬ D2 = 0 := by omega
      have hs0 : 0 ≤ s := by omega
      have hs1 : s ≤ 5000 := by omega
      clear hmn hmn2 HM hD2
      go_wp2
      go_loopw [41] (fun i wr => ∃ j : Nat, j ≤ NN ∧ i = .int .i64 j ∧ OwnInts wr wo.heap.size (.slice (some ⟨wo.heap.size, 0, none⟩) NN NN) (overTo (predAt 0 a b c) (List.replicate NN 0) j) ∧ Below w.heap.size w wr) (fun i _ => NN - (intOf i).toNat)
      case atStart => exact ⟨0, Nat.zero_le _, rfl, HO.out, g1⟩
      case round =>
        clear HO g1
        obtain ⟨j, hj, rfl, hown, hbr⟩ := hrel
        have HO2 := Lib.hid hown
        clear hown
        by_cases hlj : j < NN
        · have hjn : j < N * N := by rw [HNN.out]; exact hlj
          have hM := Nat.mod_lt j (show 0 < N by omega)
          have hD : j / N < N := Nat.div_lt_of_lt_mul hjn
          obtain ⟨b1, o1, rfl, ca, lb1⟩ := (HV.out.ext hbr).cellN (j := j % N) (by rw [HLA.out]; exact hM)
          obtain ⟨b2, o2, rfl, cb, lb2⟩ := (HU.out.ext hbr).cellN (j := j / N) (by rw [HLB.out]; exact hD)
          obtain ⟨p1, p2⟩ := HA.out (j % N)
          obtain ⟨p3, p4⟩ := HB.out (j / N)
          have hpv := HPV.out j
          have hpi := HPI.out j
          obtain ⟨M, hMe⟩ : ∃ M, j % N = M := ⟨_, rfl⟩
          obtain ⟨D, hDe⟩ : ∃ D, j / N = D := ⟨_, rfl⟩
          have qD : (j : Int) / (N : Int) = (D : Nat) := by rw [← hDe]; simp
          have qR : (j : Int) % (N : Int) = (M : Nat) := by rw [← hMe]; simp
          have qDw : IntKind.i64.wrap (D : Int) = (D : Nat) := IntWalk.i64_in _ (by omega)
          have qT : Int.tmod (j : Int) N = (M : Nat) := by rw [← hMe, Int.tmod_eq_emod_of_nonneg (by omega)]; simp
          have hn0 : ¬ (N : Int) = 0 := by omega
          have hn00 : ¬ N = 0 := by omega
          have qn0 : ((N : Int) == 0) = false := by simp; omega
          have hn1i : 1 ≤ (N : Int) := by omega
          rw [hMe] at ca hM p1 p2
          rw [hDe] at cb hD p3 p4
          generalize a.getD M 0 = p at *
          generalize b.getD D 0 = q at *
          have HPV2 := Lib.hid hpv
          have HPI2 := Lib.hid hpi
          clear hpv hpi hjn hMe
          go_wp2_with fail
          go_quiet (fail)
          rename_i nq
          have j5 : Below wr.heap.size wr (wr.drewN nq) := below_drewN' (Below.refl _ _) nq
          have g5 : Below w.heap.size w (wr.drewN nq) := ext hbr j5
          have HO5 := Lib.hid (HO2.out.ext j5)
          generalize hq5 : wr.drewN nq = w5 at *
          clear hq5 j5 HO2 ca cb
          obtain ⟨-, -, -, hcell, hfz⟩ := HO5.out.at
          have hc0 := hcell j (by rw [length_overTo, List.length_replicate]; exact hlj)
          have hf0 := hfz j
          have HS := Lib.hid (show OwnInts (w5.setCell ⟨wo.heap.size, j, none⟩ (.int .i64 (mn))) wo.heap.size (.slice (some ⟨wo.heap.size, 0, none⟩) NN NN) (overTo (predAt 0 a b c) (List.replicate NN 0) (j + 1)) from by
            rw [← overTo_succ (by rw [List.length_replicate]; exact hlj), HPV2.out]; exact HO5.out.set' j _ (by have := HPI2.out; rw [HPV2.out] at this; unfold in64; omega))
          generalize (overTo (predAt 0 a b c) (List.replicate NN 0) j).getD j 0 = z at *
          clear hcell hfz hDe
          go_wp2
          go_roundw
          case rel => exact ⟨j + 1, by omega, by go_num, HS.out, g5.setCell (by show w.heap.size ≤ wo.heap.size; exact s0) _⟩
          case measure => simp [intOf]; omega
        · have e : j = NN := by omega
          have HE := Lib.hid (show OwnInts wr wo.heap.size (.slice (some ⟨wo.heap.size, 0, none⟩) NN NN) (mapTo (predAt 0 a b c) NN) from by rw [e, overTo_all (by simp)] at HO2; exact HO2.out)
          clear e HO2
          go_wp2
          go_returns
          exact ⟨_, rfl, HE.out.mono s0, hbr⟩

set_option maxRecDepth 100000 in
set_option maxHeartbeats 8000000 in
theorem fore1 (tv lv : Value) (a b : List Int) (c : Int) (w : World) (hv : Ints w tv a) (hu : Ints w lv b) (he : edgeE a b c = 0) :
    Calls Tryd.prog 27 #[.int .i64 1, tv, lv, .int .i64 c] w fun e w' => ∃ v', e = .returned v' ∧ OwnInts w' w.heap.size v' (predV 1 a b c) ∧ Below w.heap.size w w' := by
  obtain ⟨hn, hab, ha, hb, hc1, hc2⟩ := edgeE_zero he
  have HPI := Lib.hid (fun k => predAt_in (m := 1) he k)
  have HA := Lib.hid (fun i => within_get ha (show (0 : Int) ≤ 0 by omega) (show (0 : Int) ≤ 255 by omega) i)
  have HB := Lib.hid (fun i => within_get hb (show (0 : Int) ≤ 0 by omega) (show (0 : Int) ≤ 255 by omega) i)
  have HN := Lib.hid (fun k => nsum_bd ha hb k)
  have HM := Lib.hid (show meanV a b = nsum a b a.length / (2 * a.length) from rfl)
  have HMB := Lib.hid (meanV_bd hn ha hb)
  have HV := Lib.hid hv
  have HU := Lib.hid hu
  obtain ⟨ao, cap, rfl⟩ := hv.shape
  obtain ⟨bo, cap2, rfl⟩ := hu.shape
  have HLB := Lib.hid hab
  have hp : predV 1 a b c = mapTo (predAt 1 a b c) (a.length * a.length) := rfl
  rw [hp]
  have HPV := Lib.hid (fun k => @predAt1 a b c k)
  have HN0 := Lib.hid (nsum_zero a b)
  obtain ⟨N, hN⟩ : ∃ N, a.length = N := ⟨_, rfl⟩
  have HLA := Lib.hid hN
  have hn8 : N ≤ 8 := by omega
  have hn4 : 4 ≤ N := by omega
  rw [hN] at HM HV HLB HN0 ⊢
  rw [hN] at HPV
  rw [HLB.out] at HU ⊢
  clear hv hu ha hb hn hab he hp hN
  obtain ⟨NN, hNN⟩ : ∃ NN, N * N = NN := ⟨_, rfl⟩
  have hNN2 : NN ≤ 64 := by rw [← hNN]; exact Nat.mul_le_mul hn8 hn8
  have qm : IntKind.i64.wrap ((N : Int) * N) = (NN : Nat) := wrap_mulI (by rw [← hNN]; simp) (by omega)
  rw [hNN]
  have HNN := Lib.hid hNN
  clear hNN
  go_enter Tryd.func27, Tryd.ntmps27
  go_wp2
  go_loopw [10, 20] (fun s i wr => ∃ k : Nat, k ≤ N ∧ i = .int .i64 k ∧ s = .int .i64 (nsum a b k) ∧ Below w.heap.size w wr) (fun _ i _ => N - (intOf i).toNat)
  case atStart => exact ⟨0, Nat.zero_le _, rfl, by rw [HN0.out], Below.refl _ _⟩
  case round =>
    obtain ⟨k, hk, rfl, rfl, hbr⟩ := hrel
    have hsb := HN.out k
    rw [HLA.out] at hsb
    have HS := Lib.hid (nsum_succ a b k)
    by_cases hlt : k < N
    · obtain ⟨b1, o1, b2, o2, rfl, rfl, ca, cb⟩ := pair_at HV.out HU.out hbr (k := k) (by rw [HLA.out]; exact hlt) (by rw [HLB.out]; exact hlt)
      obtain ⟨p1, p2⟩ := HA.out k
      obtain ⟨p3, p4⟩ := HB.out k
      generalize a.getD k 0 = p at *
      generalize b.getD k 0 = q at *
      generalize nsum a b k = s at *
      go_wp2_with fail
      go_quiet (fail)
      go_wp2
      go_roundw
      case rel => exact ⟨k + 1, by omega, by go_num, int_eq HS.out.symm, by first | exact hbr | exact hbr.drew | exact below_drewN' hbr _⟩
      case measure => simp [intOf]; omega
    · have e : N = k := by omega
      subst e
      clear HS
      obtain ⟨wo, rfl⟩ : ∃ wo : World, wo = wr := ⟨_, rfl⟩
      have g0 := hbr
      clear hbr
      generalize hs : nsum a b N = s at *
      go_wp2_with (at_make; refine wpList_make rfl _ _ rfl NN rfl rfl rfl rfl (by omega) ?_)
      intro w1 hown hb1 hlt1
      have g1 : Below w.heap.size w w1 := ext g0 hb1
      have HO := Lib.hid (show OwnInts w1 wo.heap.size (.slice (some ⟨wo.heap.size, 0, none⟩) NN NN) (overTo (predAt 1 a b c) (List.replicate NN 0) 0) from by rw [overTo_zero]; simpa using hown)
      have s0 := g0.size
      clear hown hb1 hs
      go_wp2
      go_loopw [41] (fun i wr => ∃ j : Nat, j ≤ NN ∧ i = .int .i64 j ∧ OwnInts wr wo.heap.size (.slice (some ⟨wo.heap.size, 0, none⟩) NN NN) (overTo (predAt 1 a b c) (List.replicate NN 0) j) ∧ Below w.heap.size w wr) (fun i _ => NN - (intOf i).toNat)
      case atStart => exact ⟨0, Nat.zero_le _, rfl, HO.out, g1⟩
      case round =>
        clear HO g1
        obtain ⟨j, hj, rfl, hown, hbr⟩ := hrel
        have HO2 := Lib.hid hown
        clear hown
        by_cases hlj : j < NN
        · have hjn : j < N * N := by rw [HNN.out]; exact hlj
          have hM := Nat.mod_lt j (show 0 < N by omega)
          have hD : j / N < N := Nat.div_lt_of_lt_mul hjn
          obtain ⟨b1, o1, rfl, ca, lb1⟩ := (HV.out.ext hbr).cellN (j := j % N) (by rw [HLA.out]; exact hM)
          obtain ⟨b2, o2, rfl, cb, lb2⟩ := (HU.out.ext hbr).cellN (j := j / N) (by rw [HLB.out]; exact hD)
          obtain ⟨p1, p2⟩ := HA.out (j % N)
          obtain ⟨p3, p4⟩ := HB.out (j / N)
          have hpv := HPV.out j
          have hpi := HPI.out j
          obtain ⟨M, hMe⟩ : ∃ M, j % N = M := ⟨_, rfl⟩
          obtain ⟨D, hDe⟩ : ∃ D, j / N = D := ⟨_, rfl⟩
          have qD : (j : Int) / (N : Int) = (D : Nat) := by rw [← hDe]; simp
          have qR : (j : Int) % (N : Int) = (M : Nat) := by rw [← hMe]; simp
          have qDw : IntKind.i64.wrap (D : Int) = (D : Nat) := IntWalk.i64_in _ (by omega)
          have qT : Int.tmod (j : Int) N = (M : Nat) := by rw [← hMe, Int.tmod_eq_emod_of_nonneg (by omega)]; simp
          have hn0 : ¬ (N : Int) = 0 := by omega
          have hn00 : ¬ N = 0 := by omega
          have qn0 : ((N : Int) == 0) = false := by simp; omega
          have hn1i : 1 ≤ (N : Int) := by omega
          rw [hMe] at ca hM p1 p2
          rw [hDe] at cb hD p3 p4
          rw [hMe] at hpv
          generalize a.getD M 0 = p at *
          generalize b.getD D 0 = q at *
          have HPV2 := Lib.hid hpv
          have HPI2 := Lib.hid hpi
          clear hpv hpi hjn hMe
          go_wp2_with fail
          go_quiet (fail)
          rename_i nq
          have j5 : Below wr.heap.size wr (wr.drewN nq) := below_drewN' (Below.refl _ _) nq
          have g5 : Below w.heap.size w (wr.drewN nq) := ext hbr j5
          have HO5 := Lib.hid (HO2.out.ext j5)
          generalize hq5 : wr.drewN nq = w5 at *
          clear hq5 j5 HO2 ca cb
          obtain ⟨-, -, -, hcell, hfz⟩ := HO5.out.at
          have hc0 := hcell j (by rw [length_overTo, List.length_replicate]; exact hlj)
          have hf0 := hfz j
          have HS := Lib.hid (show OwnInts (w5.setCell ⟨wo.heap.size, j, none⟩ (.int .i64 (p))) wo.heap.size (.slice (some ⟨wo.heap.size, 0, none⟩) NN NN) (overTo (predAt 1 a b c) (List.replicate NN 0) (j + 1)) from by
            rw [← overTo_succ (by rw [List.length_replicate]; exact hlj), HPV2.out]; exact HO5.out.set' j _ (by have := HPI2.out; rw [HPV2.out] at this; unfold in64; omega))
          generalize (overTo (predAt 1 a b c) (List.replicate NN 0) j).getD j 0 = z at *
          clear hcell hfz hDe
          go_wp2
          go_roundw
          case rel => exact ⟨j + 1, by omega, by go_num, HS.out, g5.setCell (by show w.heap.size ≤ wo.heap.size; exact s0) _⟩
          case measure => simp [intOf]; omega
        · have e : j = NN := by omega
          have HE := Lib.hid (show OwnInts wr wo.heap.size (.slice (some ⟨wo.heap.size, 0, none⟩) NN NN) (mapTo (predAt 1 a b c) NN) from by rw [e, overTo_all (by simp)] at HO2; exact HO2.out)
          clear e HO2
          go_wp2
          go_returns
          exact ⟨_, rfl, HE.out.mono s0, hbr⟩

set_option maxRecDepth 100000 in
set_option maxHeartbeats 8000000 in
theorem fore2 (tv lv : Value) (a b : List Int) (c : Int) (w : World) (hv : Ints w tv a) (hu : Ints w lv b) (he : edgeE a b c = 0) :
    Calls Tryd.prog 27 #[.int .i64 2, tv, lv, .int .i64 c] w fun e w' => ∃ v', e = .returned v' ∧ OwnInts w' w.heap.size v' (predV 2 a b c) ∧ Below w.heap.size w w' := by
  obtain ⟨hn, hab, ha, hb, hc1, hc2⟩ := edgeE_zero he
  have HPI := Lib.hid (fun k => predAt_in (m := 2) he k)
  have HA := Lib.hid (fun i => within_get ha (show (0 : Int) ≤ 0 by omega) (show (0 : Int) ≤ 255 by omega) i)
  have HB := Lib.hid (fun i => within_get hb (show (0 : Int) ≤ 0 by omega) (show (0 : Int) ≤ 255 by omega) i)
  have HN := Lib.hid (fun k => nsum_bd ha hb k)
  have HM := Lib.hid (show meanV a b = nsum a b a.length / (2 * a.length) from rfl)
  have HMB := Lib.hid (meanV_bd hn ha hb)
  have HV := Lib.hid hv
  have HU := Lib.hid hu
  obtain ⟨ao, cap, rfl⟩ := hv.shape
  obtain ⟨bo, cap2, rfl⟩ := hu.shape
  have HLB := Lib.hid hab
  have hp : predV 2 a b c = mapTo (predAt 2 a b c) (a.length * a.length) := rfl
  rw [hp]
  have HPV := Lib.hid (fun k => @predAt2 a b c k)
  have HN0 := Lib.hid (nsum_zero a b)
  obtain ⟨N, hN⟩ : ∃ N, a.length = N := ⟨_, rfl⟩
  have HLA := Lib.hid hN
  have hn8 : N ≤ 8 := by omega
  have hn4 : 4 ≤ N := by omega
  rw [hN] at HM HV HLB HN0 ⊢
  rw [hN] at HPV
  rw [HLB.out] at HU ⊢
  clear hv hu ha hb hn hab he hp hN
  obtain ⟨NN, hNN⟩ : ∃ NN, N * N = NN := ⟨_, rfl⟩
  have hNN2 : NN ≤ 64 := by rw [← hNN]; exact Nat.mul_le_mul hn8 hn8
  have qm : IntKind.i64.wrap ((N : Int) * N) = (NN : Nat) := wrap_mulI (by rw [← hNN]; simp) (by omega)
  rw [hNN]
  have HNN := Lib.hid hNN
  clear hNN
  go_enter Tryd.func27, Tryd.ntmps27
  go_wp2
  go_loopw [10, 20] (fun s i wr => ∃ k : Nat, k ≤ N ∧ i = .int .i64 k ∧ s = .int .i64 (nsum a b k) ∧ Below w.heap.size w wr) (fun _ i _ => N - (intOf i).toNat)
  case atStart => exact ⟨0, Nat.zero_le _, rfl, by rw [HN0.out], Below.refl _ _⟩
  case round =>
    obtain ⟨k, hk, rfl, rfl, hbr⟩ := hrel
    have hsb := HN.out k
    rw [HLA.out] at hsb
    have HS := Lib.hid (nsum_succ a b k)
    by_cases hlt : k < N
    · obtain ⟨b1, o1, b2, o2, rfl, rfl, ca, cb⟩ := pair_at HV.out HU.out hbr (k := k) (by rw [HLA.out]; exact hlt) (by rw [HLB.out]; exact hlt)
      obtain ⟨p1, p2⟩ := HA.out k
      obtain ⟨p3, p4⟩ := HB.out k
      generalize a.getD k 0 = p at *
      generalize b.getD k 0 = q at *
      generalize nsum a b k = s at *
      go_wp2_with fail
      go_quiet (fail)
      go_wp2
      go_roundw
      case rel => exact ⟨k + 1, by omega, by go_num, int_eq HS.out.symm, by first | exact hbr | exact hbr.drew | exact below_drewN' hbr _⟩
      case measure => simp [intOf]; omega
    · have e : N = k := by omega
      subst e
      clear HS
      obtain ⟨wo, rfl⟩ : ∃ wo : World, wo = wr := ⟨_, rfl⟩
      have g0 := hbr
      clear hbr
      generalize hs : nsum a b N = s at *
      go_wp2_with (at_make; refine wpList_make rfl _ _ rfl NN rfl rfl rfl rfl (by omega) ?_)
      intro w1 hown hb1 hlt1
      have g1 : Below w.heap.size w w1 := ext g0 hb1
      have HO := Lib.hid (show OwnInts w1 wo.heap.size (.slice (some ⟨wo.heap.size, 0, none⟩) NN NN) (overTo (predAt 2 a b c) (List.replicate NN 0) 0) from by rw [overTo_zero]; simpa using hown)
      have s0 := g0.size
      clear hown hb1 hs
      go_wp2
      go_loopw [41] (fun i wr => ∃ j : Nat, j ≤ NN ∧ i = .int .i64 j ∧ OwnInts wr wo.heap.size (.slice (some ⟨wo.heap.size, 0, none⟩) NN NN) (overTo (predAt 2 a b c) (List.replicate NN 0) j) ∧ Below w.heap.size w wr) (fun i _ => NN - (intOf i).toNat)
      case atStart => exact ⟨0, Nat.zero_le _, rfl, HO.out, g1⟩
      case round =>
        clear HO g1
        obtain ⟨j, hj, rfl, hown, hbr⟩ := hrel
        have HO2 := Lib.hid hown
        clear hown
        by_cases hlj : j < NN
        · have hjn : j < N * N := by rw [HNN.out]; exact hlj
          have hM := Nat.mod_lt j (show 0 < N by omega)
          have hD : j / N < N := Nat.div_lt_of_lt_mul hjn
          obtain ⟨b1, o1, rfl, ca, lb1⟩ := (HV.out.ext hbr).cellN (j := j % N) (by rw [HLA.out]; exact hM)
          obtain ⟨b2, o2, rfl, cb, lb2⟩ := (HU.out.ext hbr).cellN (j := j / N) (by rw [HLB.out]; exact hD)
          obtain ⟨p1, p2⟩ := HA.out (j % N)
          obtain ⟨p3, p4⟩ := HB.out (j / N)
          have hpv := HPV.out j
          have hpi := HPI.out j
          obtain ⟨M, hMe⟩ : ∃ M, j % N = M := ⟨_, rfl⟩
          obtain ⟨D, hDe⟩ : ∃ D, j / N = D := ⟨_, rfl⟩
          have qD : (j : Int) / (N : Int) = (D : Nat) := by rw [← hDe]; simp
          have qR : (j : Int) % (N : Int) = (M : Nat) := by rw [← hMe]; simp
          have qDw : IntKind.i64.wrap (D : Int) = (D : Nat) := IntWalk.i64_in _ (by omega)
          have qT : Int.tmod (j : Int) N = (M : Nat) := by rw [← hMe, Int.tmod_eq_emod_of_nonneg (by omega)]; simp
          have hn0 : ¬ (N : Int) = 0 := by omega
          have hn00 : ¬ N = 0 := by omega
          have qn0 : ((N : Int) == 0) = false := by simp; omega
          have hn1i : 1 ≤ (N : Int) := by omega
          rw [hMe] at ca hM p1 p2
          rw [hDe] at cb hD p3 p4
          rw [hDe] at hpv
          generalize a.getD M 0 = p at *
          generalize b.getD D 0 = q at *
          have HPV2 := Lib.hid hpv
          have HPI2 := Lib.hid hpi
          clear hpv hpi hjn hMe
          go_wp2_with fail
          go_quiet (fail)
          rename_i nq
          have j5 : Below wr.heap.size wr (wr.drewN nq) := below_drewN' (Below.refl _ _) nq
          have g5 : Below w.heap.size w (wr.drewN nq) := ext hbr j5
          have HO5 := Lib.hid (HO2.out.ext j5)
          generalize hq5 : wr.drewN nq = w5 at *
          clear hq5 j5 HO2 ca cb
          obtain ⟨-, -, -, hcell, hfz⟩ := HO5.out.at
          have hc0 := hcell j (by rw [length_overTo, List.length_replicate]; exact hlj)
          have hf0 := hfz j
          have HS := Lib.hid (show OwnInts (w5.setCell ⟨wo.heap.size, j, none⟩ (.int .i64 (q))) wo.heap.size (.slice (some ⟨wo.heap.size, 0, none⟩) NN NN) (overTo (predAt 2 a b c) (List.replicate NN 0) (j + 1)) from by
            rw [← overTo_succ (by rw [List.length_replicate]; exact hlj), HPV2.out]; exact HO5.out.set' j _ (by have := HPI2.out; rw [HPV2.out] at this; unfold in64; omega))
          generalize (overTo (predAt 2 a b c) (List.replicate NN 0) j).getD j 0 = z at *
          clear hcell hfz hDe
          go_wp2
          go_roundw
          case rel => exact ⟨j + 1, by omega, by go_num, HS.out, g5.setCell (by show w.heap.size ≤ wo.heap.size; exact s0) _⟩
          case measure => simp [intOf]; omega
        · have e : j = NN := by omega
          have HE := Lib.hid (show OwnInts wr wo.heap.size (.slice (some ⟨wo.heap.size, 0, none⟩) NN NN) (mapTo (predAt 2 a b c) NN) from by rw [e, overTo_all (by simp)] at HO2; exact HO2.out)
          clear e HO2
          go_wp2
          go_returns
          exact ⟨_, rfl, HE.out.mono s0, hbr⟩

set_option maxRecDepth 100000 in
set_option maxHeartbeats 8000000 in
theorem fore3 (tv lv : Value) (a b : List Int) (c : Int) (w : World) (hv : Ints w tv a) (hu : Ints w lv b) (he : edgeE a b c = 0) :
    Calls Tryd.prog 27 #[.int .i64 3, tv, lv, .int .i64 c] w fun e w' => ∃ v', e = .returned v' ∧ OwnInts w' w.heap.size v' (predV 3 a b c) ∧ Below w.heap.size w w' := by
  obtain ⟨hn, hab, ha, hb, hc1, hc2⟩ := edgeE_zero he
  have HPI := Lib.hid (fun k => predAt_in (m := 3) he k)
  have HA := Lib.hid (fun i => within_get ha (show (0 : Int) ≤ 0 by omega) (show (0 : Int) ≤ 255 by omega) i)
  have HB := Lib.hid (fun i => within_get hb (show (0 : Int) ≤ 0 by omega) (show (0 : Int) ≤ 255 by omega) i)
  have HN := Lib.hid (fun k => nsum_bd ha hb k)
  have HM := Lib.hid (show meanV a b = nsum a b a.length / (2 * a.length) from rfl)
  have HMB := Lib.hid (meanV_bd hn ha hb)
  have HV := Lib.hid hv
  have HU := Lib.hid hu
  obtain ⟨ao, cap, rfl⟩ := hv.shape
  obtain ⟨bo, cap2, rfl⟩ := hu.shape
  have HLB := Lib.hid hab
  have hp : predV 3 a b c = mapTo (predAt 3 a b c) (a.length * a.length) := rfl
  rw [hp]
  have HPV := Lib.hid (fun k => @predAt3 a b c k)
  have HN0 := Lib.hid (nsum_zero a b)
  obtain ⟨N, hN⟩ : ∃ N, a.length = N := ⟨_, rfl⟩
  have HLA := Lib.hid hN
  have hn8 : N ≤ 8 := by omega
  have hn4 : 4 ≤ N := by omega
  rw [hN] at HM HV HLB HN0 ⊢
  rw [hN] at HPV
  rw [HLB.out] at HU ⊢
  clear hv hu ha hb hn hab he hp hN
  obtain ⟨NN, hNN⟩ : ∃ NN, N * N = NN := ⟨_, rfl⟩
  have hNN2 : NN ≤ 64 := by rw [← hNN]; exact Nat.mul_le_mul hn8 hn8
  have qm : IntKind.i64.wrap ((N : Int) * N) = (NN : Nat) := wrap_mulI (by rw [← hNN]; simp) (by omega)
  rw [hNN]
  have HNN := Lib.hid hNN
  clear hNN
  go_enter Tryd.func27, Tryd.ntmps27
  go_wp2
  go_loopw [10, 20] (fun s i wr => ∃ k : Nat, k ≤ N ∧ i = .int .i64 k ∧ s = .int .i64 (nsum a b k) ∧ Below w.heap.size w wr) (fun _ i _ => N - (intOf i).toNat)
  case atStart => exact ⟨0, Nat.zero_le _, rfl, by rw [HN0.out], Below.refl _ _⟩
  case round =>
    obtain ⟨k, hk, rfl, rfl, hbr⟩ := hrel
    have hsb := HN.out k
    rw [HLA.out] at hsb
    have HS := Lib.hid (nsum_succ a b k)
    by_cases hlt : k < N
    · obtain ⟨b1, o1, b2, o2, rfl, rfl, ca, cb⟩ := pair_at HV.out HU.out hbr (k := k) (by rw [HLA.out]; exact hlt) (by rw [HLB.out]; exact hlt)
      obtain ⟨p1, p2⟩ := HA.out k
      obtain ⟨p3, p4⟩ := HB.out k
      generalize a.getD k 0 = p at *
      generalize b.getD k 0 = q at *
      generalize nsum a b k = s at *
      go_wp2_with fail
      go_quiet (fail)
      go_wp2
      go_roundw
      case rel => exact ⟨k + 1, by omega, by go_num, int_eq HS.out.symm, by first | exact hbr | exact hbr.drew | exact below_drewN' hbr _⟩
      case measure => simp [intOf]; omega
    · have e : N = k := by omega
      subst e
      clear HS
      obtain ⟨wo, rfl⟩ : ∃ wo : World, wo = wr := ⟨_, rfl⟩
      have g0 := hbr
      clear hbr
      generalize hs : nsum a b N = s at *
      go_wp2_with (at_make; refine wpList_make rfl _ _ rfl NN rfl rfl rfl rfl (by omega) ?_)
      intro w1 hown hb1 hlt1
      have g1 : Below w.heap.size w w1 := ext g0 hb1
      have HO := Lib.hid (show OwnInts w1 wo.heap.size (.slice (some ⟨wo.heap.size, 0, none⟩) NN NN) (overTo (predAt 3 a b c) (List.replicate NN 0) 0) from by rw [overTo_zero]; simpa using hown)
      have s0 := g0.size
      clear hown hb1 hs
      go_wp2
      go_loopw [41] (fun i wr => ∃ j : Nat, j ≤ NN ∧ i = .int .i64 j ∧ OwnInts wr wo.heap.size (.slice (some ⟨wo.heap.size, 0, none⟩) NN NN) (overTo (predAt 3 a b c) (List.replicate NN 0) j) ∧ Below w.heap.size w wr) (fun i _ => NN - (intOf i).toNat)
      case atStart => exact ⟨0, Nat.zero_le _, rfl, HO.out, g1⟩
      case round =>
        clear HO g1
        obtain ⟨j, hj, rfl, hown, hbr⟩ := hrel
        have HO2 := Lib.hid hown
        clear hown
        by_cases hlj : j < NN
        · have hjn : j < N * N := by rw [HNN.out]; exact hlj
          have hM := Nat.mod_lt j (show 0 < N by omega)
          have hD : j / N < N := Nat.div_lt_of_lt_mul hjn
          obtain ⟨b1, o1, rfl, ca, lb1⟩ := (HV.out.ext hbr).cellN (j := j % N) (by rw [HLA.out]; exact hM)
          obtain ⟨b2, o2, rfl, cb, lb2⟩ := (HU.out.ext hbr).cellN (j := j / N) (by rw [HLB.out]; exact hD)
          obtain ⟨p1, p2⟩ := HA.out (j % N)
          obtain ⟨p3, p4⟩ := HB.out (j / N)
          have hpv := HPV.out j
          have hpi := HPI.out j
          obtain ⟨M, hMe⟩ : ∃ M, j % N = M := ⟨_, rfl⟩
          obtain ⟨D, hDe⟩ : ∃ D, j / N = D := ⟨_, rfl⟩
          have qD : (j : Int) / (N : Int) = (D : Nat) := by rw [← hDe]; simp
          have qR : (j : Int) % (N : Int) = (M : Nat) := by rw [← hMe]; simp
          have qDw : IntKind.i64.wrap (D : Int) = (D : Nat) := IntWalk.i64_in _ (by omega)
          have qT : Int.tmod (j : Int) N = (M : Nat) := by rw [← hMe, Int.tmod_eq_emod_of_nonneg (by omega)]; simp
          have hn0 : ¬ (N : Int) = 0 := by omega
          have hn00 : ¬ N = 0 := by omega
          have qn0 : ((N : Int) == 0) = false := by simp; omega
          have hn1i : 1 ≤ (N : Int) := by omega
          rw [hMe] at ca hM p1 p2
          rw [hDe] at cb hD p3 p4
          rw [hMe, hDe] at hpv
          generalize a.getD M 0 = p at *
          generalize b.getD D 0 = q at *
          have HPV2 := Lib.hid hpv
          have HPI2 := Lib.hid hpi
          clear hpv hpi hjn hMe
          go_wp2_with fail
          go_quiet (fail)
          rename_i nq
          have j5 : Below wr.heap.size wr (wr.drewN nq) := below_drewN' (Below.refl _ _) nq
          have g5 : Below w.heap.size w (wr.drewN nq) := ext hbr j5
          have HO5 := Lib.hid (HO2.out.ext j5)
          generalize hq5 : wr.drewN nq = w5 at *
          clear hq5 j5 HO2 ca cb
          obtain ⟨-, -, -, hcell, hfz⟩ := HO5.out.at
          have hc0 := hcell j (by rw [length_overTo, List.length_replicate]; exact hlj)
          have hf0 := hfz j
          have HS := Lib.hid (show OwnInts (w5.setCell ⟨wo.heap.size, j, none⟩ (.int .i64 (clipV (q + p - c)))) wo.heap.size (.slice (some ⟨wo.heap.size, 0, none⟩) NN NN) (overTo (predAt 3 a b c) (List.replicate NN 0) (j + 1)) from by
            rw [← overTo_succ (by rw [List.length_replicate]; exact hlj), HPV2.out]; exact HO5.out.set' j _ (by have := HPI2.out; rw [HPV2.out] at this; unfold in64; omega))
          generalize (overTo (predAt 3 a b c) (List.replicate NN 0) j).getD j 0 = z at *
          clear hcell hfz hDe
          go_wp2_with fail
          refine (pclip_any _ _).mono ?_
          rintro e w6 ⟨rfl, rfl⟩
          go_wp2
          go_roundw
          case rel => exact ⟨j + 1, by omega, by go_num, HS.out, g5.setCell (by show w.heap.size ≤ wo.heap.size; exact s0) _⟩
          case measure => simp [intOf]; omega
        · have e : j = NN := by omega
          have HE := Lib.hid (show OwnInts wr wo.heap.size (.slice (some ⟨wo.heap.size, 0, none⟩) NN NN) (mapTo (predAt 3 a b c) NN) from by rw [e, overTo_all (by simp)] at HO2; exact HO2.out)
          clear e HO2
          go_wp2
          go_returns
          exact ⟨_, rfl, HE.out.mono s0, hbr⟩

end Go.Proofs.YtammgbohaaiicaaDoor
