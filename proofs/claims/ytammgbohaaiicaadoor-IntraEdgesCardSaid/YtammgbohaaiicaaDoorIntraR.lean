/- kinref10.Predict: its contract. -/
import Derived.Test.YtammgbohaaiicaaDoorIntraW
set_option linter.unusedSimpArgs false
set_option linter.unusedVariables false
namespace Go.Proofs.YtammgbohaaiicaaDoor
open Go.RowKit

def predL (m : Int) (a b : List Int) (c : Int) : List Int := okL (predE m a b c) (predV m a b c)
set_option maxRecDepth 100000 in
set_option maxHeartbeats 8000000 in
theorem rpredict_no (m : Int) (tv lv : Value) (a b : List Int) (c : Int) (w : World) (hv : Ints w tv a) (hu : Ints w lv b) (he : predE m a b c ≠ 0) :
    Calls Tryd.prog 13 #[.int .i64 m, tv, lv, .int .i64 c] w fun e w' => e = .returned (.tuple #[.slice none 0 0, .agg #[.int .i64 (predE m a b c), .slice none 0 0]]) ∧ Below w.heap.size w w' := by
  have s1 := fun w hv => within_any tv a 0 255 w hv
  have s2 := fun w hv => within_any lv b 0 255 w hv
  have HV := Lib.hid hv
  have HU := Lib.hid hu
  have hla := hv.len
  have hlb := hu.len
  obtain ⟨ao, cap, rfl⟩ := hv.shape
  obtain ⟨bo, cap2, rfl⟩ := hu.shape
  have R0 := Lib.hid (Blk.new w #[.int .i64 0, .slice none 0 0] 32)
  clear hv hu
  by_cases m0 : m < 0
  · rw [show predE m a b c = 13 from by unfold predE; rw [if_pos (.inl m0)]]
    clear s1 s2 he
    go_enter Tryd.func13, Tryd.ntmps13
    go_wp2_with fail
    refine (fail_any _ _).mono ?_
    rintro e w9 ⟨rfl, hb9⟩
    have g9 : Below w.heap.size w w9 := ext (by go_grown) hb9
    obtain ⟨r0, r1, r2, r3⟩ := (R0.out.ext hb9).two
    go_wp2
    refine bodyPost_ret (by simp [results, Tryd.results13, go_sem, r0, r1, r2, r3]; try rfl) rfl ?_
    exact ⟨rfl, by go_grown⟩
  · by_cases m3 : 3 < m
    · rw [show predE m a b c = 13 from by unfold predE; rw [if_pos (.inr m3)]]
      clear s1 s2 he
      go_enter Tryd.func13, Tryd.ntmps13
      go_wp2_with fail
      refine (fail_any _ _).mono ?_
      rintro e w9 ⟨rfl, hb9⟩
      have g9 : Below w.heap.size w w9 := ext (by go_grown) hb9
      obtain ⟨r0, r1, r2, r3⟩ := (R0.out.ext hb9).two
      go_wp2
      refine bodyPost_ret (by simp [results, Tryd.results13, go_sem, r0, r1, r2, r3]; try rfl) rfl ?_
      exact ⟨rfl, by go_grown⟩
    · have hpe : predE m a b c = edgeE a b c := by unfold predE; rw [if_neg (by omega)]
      rw [hpe] at he ⊢
      clear hpe
      by_cases hn : a.length = 4 ∨ a.length = 8
      · by_cases hab : b.length = a.length
        · have q3 : ((b.length : Int) != (a.length : Int)) = false := by rw [hab]; simp
          cases h1 : withinB a 0 255 with
          | false =>
            rw [show edgeE a b c = 3 from by unfold edgeE; rw [if_pos ⟨hn, hab⟩, h1]; rfl]
            rw [h1] at s1
            have S1 := Lib.hid s1
            clear s1 s2 h1 hab he
            rcases hn with hn | hn
            · have q1 : ((a.length : Int) != 4) = false := by rw [hn]; rfl
              clear hn
              go_enter Tryd.func13, Tryd.ntmps13
              go_wp2_with fail
              refine (S1.out _ (HV.out.ext (by go_grown))).mono ?_
              rintro e w1 ⟨rfl, rfl⟩
              go_wp2_with fail
              refine (fail_any _ _).mono ?_
              rintro e w9 ⟨rfl, hb9⟩
              have g9 : Below w.heap.size w w9 := ext (by go_grown) hb9
              obtain ⟨r0, r1, r2, r3⟩ := (R0.out.ext hb9).two
              go_wp2
              refine bodyPost_ret (by simp [results, Tryd.results13, go_sem, r0, r1, r2, r3]; try rfl) rfl ?_
              exact ⟨rfl, by go_grown⟩
            · have q1 : ((a.length : Int) != 4) = true := by rw [hn]; rfl
              have q2 : ((a.length : Int) != 8) = false := by rw [hn]; rfl
              clear hn
              go_enter Tryd.func13, Tryd.ntmps13
              go_wp2_with fail
              refine (S1.out _ (HV.out.ext (by go_grown))).mono ?_
              rintro e w1 ⟨rfl, rfl⟩
              go_wp2_with fail
              refine (fail_any _ _).mono ?_
              rintro e w9 ⟨rfl, hb9⟩
              have g9 : Below w.heap.size w w9 := ext (by go_grown) hb9
              obtain ⟨r0, r1, r2, r3⟩ := (R0.out.ext hb9).two
              go_wp2
              refine bodyPost_ret (by simp [results, Tryd.results13, go_sem, r0, r1, r2, r3]; try rfl) rfl ?_
              exact ⟨rfl, by go_grown⟩
          | true =>
            rw [h1] at s1
            have S1 := Lib.hid s1
            cases h2 : withinB b 0 255 with
            | false =>
              rw [show edgeE a b c = 3 from by unfold edgeE; rw [if_pos ⟨hn, hab⟩, h1, h2]; rfl]
              rw [h2] at s2
              have S2 := Lib.hid s2
              clear s1 s2 h1 h2 hab he
              rcases hn with hn | hn
              · have q1 : ((a.length : Int) != 4) = false := by rw [hn]; rfl
                clear hn
                go_enter Tryd.func13, Tryd.ntmps13
                go_wp2_with fail
                refine (S1.out _ (HV.out.ext (by go_grown))).mono ?_
                rintro e w1 ⟨rfl, rfl⟩
                go_wp2_with fail
                refine (S2.out _ (HU.out.ext (by go_grown))).mono ?_
                rintro e w2 ⟨rfl, rfl⟩
                go_wp2_with fail
                refine (fail_any _ _).mono ?_
                rintro e w9 ⟨rfl, hb9⟩
                have g9 : Below w.heap.size w w9 := ext (by go_grown) hb9
                obtain ⟨r0, r1, r2, r3⟩ := (R0.out.ext hb9).two
                go_wp2
                refine bodyPost_ret (by simp [results, Tryd.results13, go_sem, r0, r1, r2, r3]; try rfl) rfl ?_
                exact ⟨rfl, by go_grown⟩
              · have q1 : ((a.length : Int) != 4) = true := by rw [hn]; rfl
                have q2 : ((a.length : Int) != 8) = false := by rw [hn]; rfl
                clear hn
                go_enter Tryd.func13, Tryd.ntmps13
                go_wp2_with fail
                refine (S1.out _ (HV.out.ext (by go_grown))).mono ?_
                rintro e w1 ⟨rfl, rfl⟩
                go_wp2_with fail
                refine (S2.out _ (HU.out.ext (by go_grown))).mono ?_
                rintro e w2 ⟨rfl, rfl⟩
                go_wp2_with fail
                refine (fail_any _ _).mono ?_
                rintro e w9 ⟨rfl, hb9⟩
                have g9 : Below w.heap.size w w9 := ext (by go_grown) hb9
                obtain ⟨r0, r1, r2, r3⟩ := (R0.out.ext hb9).two
                go_wp2
                refine bodyPost_ret (by simp [results, Tryd.results13, go_sem, r0, r1, r2, r3]; try rfl) rfl ?_
                exact ⟨rfl, by go_grown⟩
            | true =>
              rw [h2] at s2
              have S2 := Lib.hid s2
              by_cases k1 : c < 0
              · rw [show edgeE a b c = 3 from by unfold edgeE; rw [if_pos ⟨hn, hab⟩, h1, h2]; simp; omega]
                clear s1 s2 h1 h2 hab he
                rcases hn with hn | hn
                · have q1 : ((a.length : Int) != 4) = false := by rw [hn]; rfl
                  clear hn
                  go_enter Tryd.func13, Tryd.ntmps13
                  go_wp2_with fail
                  refine (S1.out _ (HV.out.ext (by go_grown))).mono ?_
                  rintro e w1 ⟨rfl, rfl⟩
                  go_wp2_with fail
                  refine (S2.out _ (HU.out.ext (by go_grown))).mono ?_
                  rintro e w2 ⟨rfl, rfl⟩
                  go_wp2_with fail
                  refine (fail_any _ _).mono ?_
                  rintro e w9 ⟨rfl, hb9⟩
                  have g9 : Below w.heap.size w w9 := ext (by go_grown) hb9
                  obtain ⟨r0, r1, r2, r3⟩ := (R0.out.ext hb9).two
                  go_wp2
                  refine bodyPost_ret (by simp [results, Tryd.results13, go_sem, r0, r1, r2, r3]; try rfl) rfl ?_
                  exact ⟨rfl, by go_grown⟩
                · have q1 : ((a.length : Int) != 4) = true := by rw [hn]; rfl
                  have q2 : ((a.length : Int) != 8) = false := by rw [hn]; rfl
                  clear hn
                  go_enter Tryd.func13, Tryd.ntmps13
                  go_wp2_with fail
                  refine (S1.out _ (HV.out.ext (by go_grown))).mono ?_
                  rintro e w1 ⟨rfl, rfl⟩
                  go_wp2_with fail
                  refine (S2.out _ (HU.out.ext (by go_grown))).mono ?_
                  rintro e w2 ⟨rfl, rfl⟩
                  go_wp2_with fail
                  refine (fail_any _ _).mono ?_
                  rintro e w9 ⟨rfl, hb9⟩
                  have g9 : Below w.heap.size w w9 := ext (by go_grown) hb9
                  obtain ⟨r0, r1, r2, r3⟩ := (R0.out.ext hb9).two
                  go_wp2
                  refine bodyPost_ret (by simp [results, Tryd.results13, go_sem, r0, r1, r2, r3]; try rfl) rfl ?_
                  exact ⟨rfl, by go_grown⟩
              · by_cases k2 : 255 < c
                · rw [show edgeE a b c = 3 from by unfold edgeE; rw [if_pos ⟨hn, hab⟩, h1, h2]; simp; omega]
                  clear s1 s2 h1 h2 hab he
                  rcases hn with hn | hn
                  · have q1 : ((a.length : Int) != 4) = false := by rw [hn]; rfl
                    clear hn
                    go_enter Tryd.func13, Tryd.ntmps13
                    go_wp2_with fail
                    refine (S1.out _ (HV.out.ext (by go_grown))).mono ?_
                    rintro e w1 ⟨rfl, rfl⟩
                    go_wp2_with fail
                    refine (S2.out _ (HU.out.ext (by go_grown))).mono ?_
                    rintro e w2 ⟨rfl, rfl⟩
                    go_wp2_with fail
                    refine (fail_any _ _).mono ?_
                    rintro e w9 ⟨rfl, hb9⟩
                    have g9 : Below w.heap.size w w9 := ext (by go_grown) hb9
                    obtain ⟨r0, r1, r2, r3⟩ := (R0.out.ext hb9).two
                    go_wp2
                    refine bodyPost_ret (by simp [results, Tryd.results13, go_sem, r0, r1, r2, r3]; try rfl) rfl ?_
                    exact ⟨rfl, by go_grown⟩
                  · have q1 : ((a.length : Int) != 4) = true := by rw [hn]; rfl
                    have q2 : ((a.length : Int) != 8) = false := by rw [hn]; rfl
                    clear hn
                    go_enter Tryd.func13, Tryd.ntmps13
                    go_wp2_with fail
                    refine (S1.out _ (HV.out.ext (by go_grown))).mono ?_
                    rintro e w1 ⟨rfl, rfl⟩
                    go_wp2_with fail
                    refine (S2.out _ (HU.out.ext (by go_grown))).mono ?_
                    rintro e w2 ⟨rfl, rfl⟩
                    go_wp2_with fail
                    refine (fail_any _ _).mono ?_
                    rintro e w9 ⟨rfl, hb9⟩
                    have g9 : Below w.heap.size w w9 := ext (by go_grown) hb9
                    obtain ⟨r0, r1, r2, r3⟩ := (R0.out.ext hb9).two
                    go_wp2
                    refine bodyPost_ret (by simp [results, Tryd.results13, go_sem, r0, r1, r2, r3]; try rfl) rfl ?_
                    exact ⟨rfl, by go_grown⟩
                · exact absurd (edgeE_ok hn hab h1 h2 (by omega) (by omega)) he
        · have q3 : ((b.length : Int) != (a.length : Int)) = true := by simp; omega
          rw [show edgeE a b c = 14 from by unfold edgeE; rw [if_neg (fun q => hab q.2)]]
          clear s1 s2 hab he
          rcases hn with hn | hn
          · have q1 : ((a.length : Int) != 4) = false := by rw [hn]; rfl
            clear hn
            go_enter Tryd.func13, Tryd.ntmps13
            go_wp2_with fail
            refine (fail_any _ _).mono ?_
            rintro e w9 ⟨rfl, hb9⟩
            have g9 : Below w.heap.size w w9 := ext (by go_grown) hb9
            obtain ⟨r0, r1, r2, r3⟩ := (R0.out.ext hb9).two
            go_wp2
            refine bodyPost_ret (by simp [results, Tryd.results13, go_sem, r0, r1, r2, r3]; try rfl) rfl ?_
            exact ⟨rfl, by go_grown⟩
          · have q1 : ((a.length : Int) != 4) = true := by rw [hn]; rfl
            have q2 : ((a.length : Int) != 8) = false := by rw [hn]; rfl
            clear hn
            go_enter Tryd.func13, Tryd.ntmps13
            go_wp2_with fail
            refine (fail_any _ _).mono ?_
            rintro e w9 ⟨rfl, hb9⟩
            have g9 : Below w.heap.size w w9 := ext (by go_grown) hb9
            obtain ⟨r0, r1, r2, r3⟩ := (R0.out.ext hb9).two
            go_wp2
            refine bodyPost_ret (by simp [results, Tryd.results13, go_sem, r0, r1, r2, r3]; try rfl) rfl ?_
            exact ⟨rfl, by go_grown⟩
      · have q1 : ((a.length : Int) != 4) = true := by simp; omega
        have q2 : ((a.length : Int) != 8) = true := by simp; omega
        rw [show edgeE a b c = 14 from by unfold edgeE; rw [if_neg (fun q => hn q.1)]]
        clear s1 s2 hn he
        go_enter Tryd.func13, Tryd.ntmps13
        go_wp2_with fail
        refine (fail_any _ _).mono ?_
        rintro e w9 ⟨rfl, hb9⟩
        have g9 : Below w.heap.size w w9 := ext (by go_grown) hb9
        obtain ⟨r0, r1, r2, r3⟩ := (R0.out.ext hb9).two
        go_wp2
        refine bodyPost_ret (by simp [results, Tryd.results13, go_sem, r0, r1, r2, r3]; try rfl) rfl ?_
        exact ⟨rfl, by go_grown⟩

set_option maxRecDepth 100000 in
set_option maxHeartbeats 8000000 in
theorem rpred0_4 (tv lv : Value) (a b : List Int) (c : Int) (w : World) (hv : Ints w tv a) (hu : Ints w lv b) (he : edgeE a b c = 0) (hq : a.length = 4) :
    Calls Tryd.prog 13 #[.int .i64 0, tv, lv, .int .i64 c] w fun e w' => ∃ v', e = .returned (.tuple #[v', .agg #[.int .i64 0, .slice none 0 0]]) ∧ OwnInts w' w.heap.size v' (predV 0 a b c) ∧ Below w.heap.size w w' := by
  obtain ⟨hn, hab, ha, hb, hc1, hc2⟩ := edgeE_zero he
  have s1 := fun w hv => within_any tv a 0 255 w hv
  have s2 := fun w hv => within_any lv b 0 255 w hv
  rw [ha] at s1
  rw [hb] at s2
  have S1 := Lib.hid s1
  have S2 := Lib.hid s2
  have HPI := Lib.hid (fun k => predAt_in (m := 0) he k)
  have HA := Lib.hid (fun i => within_get ha (show (0 : Int) ≤ 0 by omega) (show (0 : Int) ≤ 255 by omega) i)
  have HB := Lib.hid (fun i => within_get hb (show (0 : Int) ≤ 0 by omega) (show (0 : Int) ≤ 255 by omega) i)
  have HN := Lib.hid (fun k => nsum_bd ha hb k)
  have HM := Lib.hid (show meanV a b = nsum a b a.length / (2 * a.length) from rfl)
  have HMB := Lib.hid (meanV_bd hn ha hb)
  have HV := Lib.hid hv
  have HU := Lib.hid hu
  obtain ⟨ao, cap, rfl⟩ := hv.shape
  obtain ⟨bo, cap2, rfl⟩ := hu.shape
  have HLB := Lib.hid hab
  have hp : predV 0 a b c = mapTo (predAt 0 a b c) (a.length * a.length) := rfl
  rw [hp]
  have HPV := Lib.hid (fun k => @predAt0 a b c k)
  have HN0 := Lib.hid (nsum_zero a b)
  obtain ⟨N, hN⟩ : ∃ N, a.length = N := ⟨_, rfl⟩
  have HLA := Lib.hid hN
  have hn8 : N ≤ 8 := by omega
  have hn4 : 4 ≤ N := by omega
  have hk1 : ¬ c < 0 := by omega
  have hk2 : ¬ 255 < c := by omega
  have q1 : ((N : Int) != 4) = false := by rw [← hN, hq]; rfl
  have q3 : ((N : Int) != (N : Int)) = false := by simp
  rw [hN] at HM HV HLB HN0 S1 ⊢
  rw [HLB.out] at HU S2 ⊢
  clear hv hu ha hb hn hab he hp hN hq s1 s2
  obtain ⟨NN, hNN⟩ : ∃ NN, N * N = NN := ⟨_, rfl⟩
  have hNN2 : NN ≤ 64 := by rw [← hNN]; exact Nat.mul_le_mul hn8 hn8
  have qm : IntKind.i64.wrap ((N : Int) * N) = (NN : Nat) := wrap_mulI (by rw [← hNN]; simp) (by omega)
  rw [hNN]
  have HNN := Lib.hid hNN
  clear hNN
  have R0 := Lib.hid (Blk.new w #[.int .i64 0, .slice none 0 0] 32)
  go_enter Tryd.func13, Tryd.ntmps13
  go_wp2_with fail
  refine (S1.out _ (HV.out.ext (by go_grown))).mono ?_
  rintro e w1 ⟨rfl, rfl⟩
  go_wp2_with fail
  refine (S2.out _ (HU.out.ext (by go_grown))).mono ?_
  rintro e w2 ⟨rfl, rfl⟩
  go_wp2
  go_loopw [11, 12] (fun s i wr => ∃ k : Nat, k ≤ N ∧ i = .int .i64 k ∧ s = .int .i64 (nsum a b k) ∧ Below w.heap.size w wr ∧ Blk wr w.heap.size #[.int .i64 0, .slice none 0 0] 32) (fun _ i _ => N - (intOf i).toNat)
  case atStart => exact ⟨0, Nat.zero_le _, rfl, by rw [HN0.out], by go_grown, R0.out⟩
  case round =>
    obtain ⟨k, hk, rfl, rfl, hbr, hE⟩ := hrel
    have RE := Lib.hid hE
    have hsb := HN.out k
    rw [HLA.out] at hsb
    have HS := Lib.hid (nsum_succ a b k)
    clear hE
    by_cases hlt : k < N
    · obtain ⟨b1, o1, b2, o2, rfl, rfl, ca, cb⟩ := pair_at HV.out HU.out hbr (k := k) (by rw [HLA.out]; exact hlt) (by rw [HLB.out]; exact hlt)
      obtain ⟨p1, p2⟩ := HA.out k
      obtain ⟨p3, p4⟩ := HB.out k
      generalize a.getD k 0 = p at *
      generalize b.getD k 0 = q at *
      generalize nsum a b k = s at *
      go_wp2_with fail
      go_quiet (fail)
      go_wp2
      go_roundw
      case rel => exact ⟨k + 1, by omega, by go_num, int_eq (by have := HS.out; omega), by first | exact hbr | exact hbr.drew | exact below_drewN' hbr _, RE.out⟩
      case measure => simp [intOf]; omega
    · have e : N = k := by omega
      subst e
      clear HS
      obtain ⟨wo, rfl⟩ : ∃ wo : World, wo = wr := ⟨_, rfl⟩
      have g0 := hbr
      clear hbr
      generalize hs : nsum a b N = s at *
      obtain ⟨mn, hmn⟩ : ∃ mn, meanV a b = mn := ⟨_, rfl⟩
      obtain ⟨D2, hD2⟩ : ∃ D2, 2 * N = D2 := ⟨_, rfl⟩
      rw [hmn] at HM HMB HPV
      have hmn2 : mn = s / (2 * (N : Int)) := HM.out
      have q2 : IntKind.i64.wrap (2 * (N : Int)) = (D2 : Nat) := by rw [IntWalk.i64_in _ (by omega), ← hD2]; simp
      have qs : s / (D2 : Int) = mn := by rw [hmn2, ← hD2]; simp
      have hd20 : ¬ (D2 : Int) = 0 := by omega
      have hd21 : 1 ≤ (D2 : Int) := by omega
      have hd22 : ¬ D2 = 0 := by omega
      have hs0 : 0 ≤ s := by omega
      have hs1 : s ≤ 5000 := by omega
      obtain ⟨hmb1, hmb2⟩ := HMB.out
      clear hmn hmn2 HM hD2 hs
      go_wp2
      go_loopw [13, 14] (fun v i wr => ∃ j : Nat, j ≤ NN ∧ i = .int .i64 j ∧ OwnInts wr (w.heap.size + 1) v (mapTo (predAt 0 a b c) j) ∧ Below w.heap.size w wr ∧ Blk wr w.heap.size #[.int .i64 0, .slice none 0 0] 32) (fun _ i _ => NN - (intOf i).toNat)
      case atStart => exact ⟨0, Nat.zero_le _, rfl, OwnInts.nil _ _, g0, RE.out⟩
      case round =>
        clear g0 RE
        obtain ⟨j, hj, rfl, hown, hbr, hE⟩ := hrel
        have HO2 := Lib.hid hown
        have RE2 := Lib.hid hE
        clear hown hE
        by_cases hlj : j < NN
        · have hjn : j < N * N := by rw [HNN.out]; exact hlj
          have hM := Nat.mod_lt j (show 0 < N by omega)
          have hD : j / N < N := Nat.div_lt_of_lt_mul hjn
          obtain ⟨b1, o1, rfl, ca, lb1⟩ := (HV.out.ext hbr).cellN (j := j % N) (by rw [HLA.out]; exact hM)
          obtain ⟨b2, o2, rfl, cb, lb2⟩ := (HU.out.ext hbr).cellN (j := j / N) (by rw [HLB.out]; exact hD)
          obtain ⟨p1, p2⟩ := HA.out (j % N)
          obtain ⟨p3, p4⟩ := HB.out (j / N)
          have hpv := HPV.out j
          have hpi := HPI.out j
          obtain ⟨M, hMe⟩ : ∃ M, j % N = M := ⟨_, rfl⟩
          obtain ⟨D, hDe⟩ : ∃ D, j / N = D := ⟨_, rfl⟩
          have qD : (j : Int) / (N : Int) = (D : Nat) := by rw [← hDe]; simp
          have qR : (j : Int) % (N : Int) = (M : Nat) := by rw [← hMe]; simp
          have qDw : IntKind.i64.wrap (D : Int) = (D : Nat) := IntWalk.i64_in _ (by omega)
          have qT : Int.tmod (j : Int) N = (M : Nat) := by rw [← hMe, Int.tmod_eq_emod_of_nonneg (by omega)]; simp
          have hn0 : ¬ (N : Int) = 0 := by omega
          have hn00 : ¬ N = 0 := by omega
          have qn0 : ((N : Int) == 0) = false := by simp; omega
          have hn1i : 1 ≤ (N : Int) := by omega
          rw [hMe] at ca hM p1 p2
          rw [hDe] at cb hD p3 p4
          generalize a.getD M 0 = p at *
          generalize b.getD D 0 = q at *
          have HPV5 := Lib.hid hpv
          rw [hpv] at hpi
          have HI5 := Lib.hid (show in64 (mn) from by unfold in64; omega)
          have HMS := Lib.hid (mapTo_succ (predAt 0 a b c) j)
          have Hlen := Lib.hid (show (mapTo (predAt 0 a b c) j).length ≤ 1099511627776 from by rw [length_mapTo]; omega)
          clear hpv hpi hjn hMe
          go_wp2_with fail
          go_quiet (fail)
          rename_i nq
          have j5 : Below wr.heap.size wr (wr.drewN nq) := below_drewN' (Below.refl _ _) nq
          have g5 : Below w.heap.size w (wr.drewN nq) := ext hbr j5
          have HO5 := Lib.hid (HO2.out.ext j5)
          have RE5 := Lib.hid (RE2.out.ext j5)
          have l5 := RE5.out.lt
          generalize hq5 : wr.drewN nq = w5 at *
          clear hq5 j5 HO2 RE2 ca cb hbr hDe
          go_wp2_with (at_builtin; refine wpList_app1 rfl (.tmp 115) (.tmp 117) rfl (w.heap.size + 1) _ _ (mn) rfl HO5.out rfl (by simp) HI5.out Hlen.out (by have := g5.size; have := RE5.out.lt; omega) ?_)
          intro v' w' hown' hb' _
          have HP := Lib.hid (show OwnInts w' (w.heap.size + 1) v' (mapTo (predAt 0 a b c) (j + 1)) from by rw [HMS.out, HPV5.out]; exact hown')
          have RE6 := Lib.hid (RE5.out.below hb' (by omega))
          have g6 : Below w.heap.size w w' := g5.trans (hb'.mono (by omega))
          clear hown' HO5
          go_wp2
          go_roundw
          case rel => exact ⟨j + 1, by omega, by go_num, HP.out, g6, RE6.out⟩
          case measure => simp [intOf]; omega
        · have e : j = NN := by omega
          have HS := Lib.hid (show OwnInts wr (w.heap.size + 1) _ (mapTo (predAt 0 a b c) NN) from by rw [e] at HO2; exact HO2.out)
          obtain ⟨va, vc, rfl⟩ := HS.out.shape
          obtain ⟨r0, r1, r2, r3⟩ := RE2.out.two
          have hvl : (mapTo (predAt 0 a b c) NN).length = NN := length_mapTo ..
          rw [hvl] at HS ⊢
          clear e HO2 hvl
          go_wp2
          refine bodyPost_ret (by simp [results, Tryd.results13, go_sem, r0, r1, r2, r3]; try rfl) rfl ?_
          exact ⟨_, rfl, ((HS.out.setOther (by simp) _).setOther (by simp) _).mono (by omega), by go_grown⟩

set_option maxRecDepth 100000 in
set_option maxHeartbeats 8000000 in
theorem rpred0_8 (tv lv : Value) (a b : List Int) (c : Int) (w : World) (hv : Ints w tv a) (hu : Ints w lv b) (he : edgeE a b c = 0) (hq : a.length = 8) :
    Calls Tryd.prog 13 #[.int .i64 0, tv, lv, .int .i64 c] w fun e w' => ∃ v', e = .returned (.tuple #[v', .agg #[.int .i64 0, .slice none 0 0]]) ∧ OwnInts w' w.heap.size v' (predV 0 a b c) ∧ Below w.heap.size w w' := by
  obtain ⟨hn, hab, ha, hb, hc1, hc2⟩ := edgeE_zero he
  have s1 := fun w hv => within_any tv a 0 255 w hv
  have s2 := fun w hv => within_any lv b 0 255 w hv
  rw [ha] at s1
  rw [hb] at s2
  have S1 := Lib.hid s1
  have S2 := Lib.hid s2
  have HPI := Lib.hid (fun k => predAt_in (m := 0) he k)
  have HA := Lib.hid (fun i => within_get ha (show (0 : Int) ≤ 0 by omega) (show (0 : Int) ≤ 255 by omega) i)
  have HB := Lib.hid (fun i => within_get hb (show (0 : Int) ≤ 0 by omega) (show (0 : Int) ≤ 255 by omega) i)
  have HN := Lib.hid (fun k => nsum_bd ha hb k)
  have HM := Lib.hid (show meanV a b = nsum a b a.length / (2 * a.length) from rfl)
  have HMB := Lib.hid (meanV_bd hn ha hb)
  have HV := Lib.hid hv
  have HU := Lib.hid hu
  obtain ⟨ao, cap, rfl⟩ := hv.shape
  obtain ⟨bo, cap2, rfl⟩ := hu.shape
  have HLB := Lib.hid hab
  have hp : predV 0 a b c = mapTo (predAt 0 a b c) (a.length * a.length) := rfl
  rw [hp]
  have HPV := Lib.hid (fun k => @predAt0 a b c k)
  have HN0 := Lib.hid (nsum_zero a b)
  obtain ⟨N, hN⟩ : ∃ N, a.length = N := ⟨_, rfl⟩
  have HLA := Lib.hid hN
  have hn8 : N ≤ 8 := by omega
  have hn4 : 4 ≤ N := by omega
  have hk1 : ¬ c < 0 := by omega
  have hk2 : ¬ 255 < c := by omega
  have q1 : ((N : Int) != 4) = true := by rw [← hN, hq]; rfl
  have q2 : ((N : Int) != 8) = false := by rw [← hN, hq]; rfl
  have q3 : ((N : Int) != (N : Int)) = false := by simp
  rw [hN] at HM HV HLB HN0 S1 ⊢
  rw [HLB.out] at HU S2 ⊢
  clear hv hu ha hb hn hab he hp hN hq s1 s2
  obtain ⟨NN, hNN⟩ : ∃ NN, N * N = NN := ⟨_, rfl⟩
  have hNN2 : NN ≤ 64 := by rw [← hNN]; exact Nat.mul_le_mul hn8 hn8
  have qm : IntKind.i64.wrap ((N : Int) * N) = (NN : Nat) := wrap_mulI (by rw [← hNN]; simp) (by omega)
  rw [hNN]
  have HNN := Lib.hid hNN
  clear hNN
  have R0 := Lib.hid (Blk.new w #[.int .i64 0, .slice none 0 0] 32)
  go_enter Tryd.func13, Tryd.ntmps13
  go_wp2_with fail
  refine (S1.out _ (HV.out.ext (by go_grown))).mono ?_
  rintro e w1 ⟨rfl, rfl⟩
  go_wp2_with fail
  refine (S2.out _ (HU.out.ext (by go_grown))).mono ?_
  rintro e w2 ⟨rfl, rfl⟩
  go_wp2
  go_loopw [11, 12] (fun s i wr => ∃ k : Nat, k ≤ N ∧ i = .int .i64 k ∧ s = .int .i64 (nsum a b k) ∧ Below w.heap.size w wr ∧ Blk wr w.heap.size #[.int .i64 0, .slice none 0 0] 32) (fun _ i _ => N - (intOf i).toNat)
  case atStart => exact ⟨0, Nat.zero_le _, rfl, by rw [HN0.out], by go_grown, R0.out⟩
  case round =>
    obtain ⟨k, hk, rfl, rfl, hbr, hE⟩ := hrel
    have RE := Lib.hid hE
    have hsb := HN.out k
    rw [HLA.out] at hsb
    have HS := Lib.hid (nsum_succ a b k)
    clear hE
    by_cases hlt : k < N
    · obtain ⟨b1, o1, b2, o2, rfl, rfl, ca, cb⟩ := pair_at HV.out HU.out hbr (k := k) (by rw [HLA.out]; exact hlt) (by rw [HLB.out]; exact hlt)
      obtain ⟨p1, p2⟩ := HA.out k
      obtain ⟨p3, p4⟩ := HB.out k
      generalize a.getD k 0 = p at *
      generalize b.getD k 0 = q at *
      generalize nsum a b k = s at *
      go_wp2_with fail
      go_quiet (fail)
      go_wp2
      go_roundw
      case rel => exact ⟨k + 1, by omega, by go_num, int_eq (by have := HS.out; omega), by first | exact hbr | exact hbr.drew | exact below_drewN' hbr _, RE.out⟩
      case measure => simp [intOf]; omega
    · have e : N = k := by omega
      subst e
      clear HS
      obtain ⟨wo, rfl⟩ : ∃ wo : World, wo = wr := ⟨_, rfl⟩
      have g0 := hbr
      clear hbr
      generalize hs : nsum a b N = s at *
      obtain ⟨mn, hmn⟩ : ∃ mn, meanV a b = mn := ⟨_, rfl⟩
      obtain ⟨D2, hD2⟩ : ∃ D2, 2 * N = D2 := ⟨_, rfl⟩
      rw [hmn] at HM HMB HPV
      have hmn2 : mn = s / (2 * (N : Int)) := HM.out
      have q2 : IntKind.i64.wrap (2 * (N : Int)) = (D2 : Nat) := by rw [IntWalk.i64_in _ (by omega), ← hD2]; simp
      have qs : s / (D2 : Int) = mn := by rw [hmn2, ← hD2]; simp
      have hd20 : ¬ (D2 : Int) = 0 := by omega
      have hd21 : 1 ≤ (D2 : Int) := by omega
      have hd22 : ¬ D2 = 0 := by omega
      have hs0 : 0 ≤ s := by omega
      have hs1 : s ≤ 5000 := by omega
      obtain ⟨hmb1, hmb2⟩ := HMB.out
      clear hmn hmn2 HM hD2 hs
      go_wp2
      go_loopw [13, 14] (fun v i wr => ∃ j : Nat, j ≤ NN ∧ i = .int .i64 j ∧ OwnInts wr (w.heap.size + 1) v (mapTo (predAt 0 a b c) j) ∧ Below w.heap.size w wr ∧ Blk wr w.heap.size #[.int .i64 0, .slice none 0 0] 32) (fun _ i _ => NN - (intOf i).toNat)
      case atStart => exact ⟨0, Nat.zero_le _, rfl, OwnInts.nil _ _, g0, RE.out⟩
      case round =>
        clear g0 RE
        obtain ⟨j, hj, rfl, hown, hbr, hE⟩ := hrel
        have HO2 := Lib.hid hown
        have RE2 := Lib.hid hE
        clear hown hE
        by_cases hlj : j < NN
        · have hjn : j < N * N := by rw [HNN.out]; exact hlj
          have hM := Nat.mod_lt j (show 0 < N by omega)
          have hD : j / N < N := Nat.div_lt_of_lt_mul hjn
          obtain ⟨b1, o1, rfl, ca, lb1⟩ := (HV.out.ext hbr).cellN (j := j % N) (by rw [HLA.out]; exact hM)
          obtain ⟨b2, o2, rfl, cb, lb2⟩ := (HU.out.ext hbr).cellN (j := j / N) (by rw [HLB.out]; exact hD)
          obtain ⟨p1, p2⟩ := HA.out (j % N)
          obtain ⟨p3, p4⟩ := HB.out (j / N)
          have hpv := HPV.out j
          have hpi := HPI.out j
          obtain ⟨M, hMe⟩ : ∃ M, j % N = M := ⟨_, rfl⟩
          obtain ⟨D, hDe⟩ : ∃ D, j / N = D := ⟨_, rfl⟩
          have qD : (j : Int) / (N : Int) = (D : Nat) := by rw [← hDe]; simp
          have qR : (j : Int) % (N : Int) = (M : Nat) := by rw [← hMe]; simp
          have qDw : IntKind.i64.wrap (D : Int) = (D : Nat) := IntWalk.i64_in _ (by omega)
          have qT : Int.tmod (j : Int) N = (M : Nat) := by rw [← hMe, Int.tmod_eq_emod_of_nonneg (by omega)]; simp
          have hn0 : ¬ (N : Int) = 0 := by omega
          have hn00 : ¬ N = 0 := by omega
          have qn0 : ((N : Int) == 0) = false := by simp; omega
          have hn1i : 1 ≤ (N : Int) := by omega
          rw [hMe] at ca hM p1 p2
          rw [hDe] at cb hD p3 p4
          generalize a.getD M 0 = p at *
          generalize b.getD D 0 = q at *
          have HPV5 := Lib.hid hpv
          rw [hpv] at hpi
          have HI5 := Lib.hid (show in64 (mn) from by unfold in64; omega)
          have HMS := Lib.hid (mapTo_succ (predAt 0 a b c) j)
          have Hlen := Lib.hid (show (mapTo (predAt 0 a b c) j).length ≤ 1099511627776 from by rw [length_mapTo]; omega)
          clear hpv hpi hjn hMe
          go_wp2_with fail
          go_quiet (fail)
          rename_i nq
          have j5 : Below wr.heap.size wr (wr.drewN nq) := below_drewN' (Below.refl _ _) nq
          have g5 : Below w.heap.size w (wr.drewN nq) := ext hbr j5
          have HO5 := Lib.hid (HO2.out.ext j5)
          have RE5 := Lib.hid (RE2.out.ext j5)
          have l5 := RE5.out.lt
          generalize hq5 : wr.drewN nq = w5 at *
          clear hq5 j5 HO2 RE2 ca cb hbr hDe
          go_wp2_with (at_builtin; refine wpList_app1 rfl (.tmp 115) (.tmp 117) rfl (w.heap.size + 1) _ _ (mn) rfl HO5.out rfl (by simp) HI5.out Hlen.out (by have := g5.size; have := RE5.out.lt; omega) ?_)
          intro v' w' hown' hb' _
          have HP := Lib.hid (show OwnInts w' (w.heap.size + 1) v' (mapTo (predAt 0 a b c) (j + 1)) from by rw [HMS.out, HPV5.out]; exact hown')
          have RE6 := Lib.hid (RE5.out.below hb' (by omega))
          have g6 : Below w.heap.size w w' := g5.trans (hb'.mono (by omega))
          clear hown' HO5
          go_wp2
          go_roundw
          case rel => exact ⟨j + 1, by omega, by go_num, HP.out, g6, RE6.out⟩
          case measure => simp [intOf]; omega
        · have e : j = NN := by omega
          have HS := Lib.hid (show OwnInts wr (w.heap.size + 1) _ (mapTo (predAt 0 a b c) NN) from by rw [e] at HO2; exact HO2.out)
          obtain ⟨va, vc, rfl⟩ := HS.out.shape
          obtain ⟨r0, r1, r2, r3⟩ := RE2.out.two
          have hvl : (mapTo (predAt 0 a b c) NN).length = NN := length_mapTo ..
          rw [hvl] at HS ⊢
          clear e HO2 hvl
          go_wp2
          refine bodyPost_ret (by simp [results, Tryd.results13, go_sem, r0, r1, r2, r3]; try rfl) rfl ?_
          exact ⟨_, rfl, ((HS.out.setOther (by simp) _).setOther (by simp) _).mono (by omega), by go_grown⟩

set_option maxRecDepth 100000 in
set_option maxHeartbeats 8000000 in
theorem rpred1_4 (tv lv : Value) (a b : List Int) (c : Int) (w : World) (hv : Ints w tv a) (hu : Ints w lv b) (he : edgeE a b c = 0) (hq : a.length = 4) :
    Calls Tryd.prog 13 #[.int .i64 1, tv, lv, .int .i64 c] w fun e w' => ∃ v', e = .returned (.tuple #[v', .agg #[.int .i64 0, .slice none 0 0]]) ∧ OwnInts w' w.heap.size v' (predV 1 a b c) ∧ Below w.heap.size w w' := by
  obtain ⟨hn, hab, ha, hb, hc1, hc2⟩ := edgeE_zero he
  have s1 := fun w hv => within_any tv a 0 255 w hv
  have s2 := fun w hv => within_any lv b 0 255 w hv
  rw [ha] at s1
  rw [hb] at s2
  have S1 := Lib.hid s1
  have S2 := Lib.hid s2
  have HPI := Lib.hid (fun k => predAt_in (m := 1) he k)
  have HA := Lib.hid (fun i => within_get ha (show (0 : Int) ≤ 0 by omega) (show (0 : Int) ≤ 255 by omega) i)
  have HB := Lib.hid (fun i => within_get hb (show (0 : Int) ≤ 0 by omega) (show (0 : Int) ≤ 255 by omega) i)
  have HN := Lib.hid (fun k => nsum_bd ha hb k)
  have HM := Lib.hid (show meanV a b = nsum a b a.length / (2 * a.length) from rfl)
  have HMB := Lib.hid (meanV_bd hn ha hb)
  have HV := Lib.hid hv
  have HU := Lib.hid hu
  obtain ⟨ao, cap, rfl⟩ := hv.shape
  obtain ⟨bo, cap2, rfl⟩ := hu.shape
  have HLB := Lib.hid hab
  have hp : predV 1 a b c = mapTo (predAt 1 a b c) (a.length * a.length) := rfl
  rw [hp]
  have HPV := Lib.hid (fun k => @predAt1 a b c k)
  have HN0 := Lib.hid (nsum_zero a b)
  obtain ⟨N, hN⟩ : ∃ N, a.length = N := ⟨_, rfl⟩
  have HLA := Lib.hid hN
  have hn8 : N ≤ 8 := by omega
  have hn4 : 4 ≤ N := by omega
  have hk1 : ¬ c < 0 := by omega
  have hk2 : ¬ 255 < c := by omega
  have q1 : ((N : Int) != 4) = false := by rw [← hN, hq]; rfl
  have q3 : ((N : Int) != (N : Int)) = false := by simp
  rw [hN] at HM HV HLB HN0 S1 ⊢
  rw [hN] at HPV
  rw [HLB.out] at HU S2 ⊢
  clear hv hu ha hb hn hab he hp hN hq s1 s2
  obtain ⟨NN, hNN⟩ : ∃ NN, N * N = NN := ⟨_, rfl⟩
  have hNN2 : NN ≤ 64 := by rw [← hNN]; exact Nat.mul_le_mul hn8 hn8
  have qm : IntKind.i64.wrap ((N : Int) * N) = (NN : Nat) := wrap_mulI (by rw [← hNN]; simp) (by omega)
  rw [hNN]
  have HNN := Lib.hid hNN
  clear hNN
  have R0 := Lib.hid (Blk.new w #[.int .i64 0, .slice none 0 0] 32)
  go_enter Tryd.func13, Tryd.ntmps13
  go_wp2_with fail
  refine (S1.out _ (HV.out.ext (by go_grown))).mono ?_
  rintro e w1 ⟨rfl, rfl⟩
  go_wp2_with fail
  refine (S2.out _ (HU.out.ext (by go_grown))).mono ?_
  rintro e w2 ⟨rfl, rfl⟩
  go_wp2
  go_loopw [11, 12] (fun s i wr => ∃ k : Nat, k ≤ N ∧ i = .int .i64 k ∧ s = .int .i64 (nsum a b k) ∧ Below w.heap.size w wr ∧ Blk wr w.heap.size #[.int .i64 0, .slice none 0 0] 32) (fun _ i _ => N - (intOf i).toNat)
  case atStart => exact ⟨0, Nat.zero_le _, rfl, by rw [HN0.out], by go_grown, R0.out⟩
  case round =>
    obtain ⟨k, hk, rfl, rfl, hbr, hE⟩ := hrel
    have RE := Lib.hid hE
    have hsb := HN.out k
    rw [HLA.out] at hsb
    have HS := Lib.hid (nsum_succ a b k)
    clear hE
    by_cases hlt : k < N
    · obtain ⟨b1, o1, b2, o2, rfl, rfl, ca, cb⟩ := pair_at HV.out HU.out hbr (k := k) (by rw [HLA.out]; exact hlt) (by rw [HLB.out]; exact hlt)
      obtain ⟨p1, p2⟩ := HA.out k
      obtain ⟨p3, p4⟩ := HB.out k
      generalize a.getD k 0 = p at *
      generalize b.getD k 0 = q at *
      generalize nsum a b k = s at *
      go_wp2_with fail
      go_quiet (fail)
      go_wp2
      go_roundw
      case rel => exact ⟨k + 1, by omega, by go_num, int_eq (by have := HS.out; omega), by first | exact hbr | exact hbr.drew | exact below_drewN' hbr _, RE.out⟩
      case measure => simp [intOf]; omega
    · have e : N = k := by omega
      subst e
      clear HS
      obtain ⟨wo, rfl⟩ : ∃ wo : World, wo = wr := ⟨_, rfl⟩
      have g0 := hbr
      clear hbr
      generalize hs : nsum a b N = s at *
      obtain ⟨mn, hmn⟩ : ∃ mn, meanV a b = mn := ⟨_, rfl⟩
      obtain ⟨D2, hD2⟩ : ∃ D2, 2 * N = D2 := ⟨_, rfl⟩
      rw [hmn] at HM HMB
      have hmn2 : mn = s / (2 * (N : Int)) := HM.out
      have q2 : IntKind.i64.wrap (2 * (N : Int)) = (D2 : Nat) := by rw [IntWalk.i64_in _ (by omega), ← hD2]; simp
      have qs : s / (D2 : Int) = mn := by rw [hmn2, ← hD2]; simp
      have hd20 : ¬ (D2 : Int) = 0 := by omega
      have hd21 : 1 ≤ (D2 : Int) := by omega
      have hd22 : ¬ D2 = 0 := by omega
      have hs0 : 0 ≤ s := by omega
      have hs1 : s ≤ 5000 := by omega
      obtain ⟨hmb1, hmb2⟩ := HMB.out
      clear hmn hmn2 HM hD2 hs
      go_wp2
      go_loopw [13, 14] (fun v i wr => ∃ j : Nat, j ≤ NN ∧ i = .int .i64 j ∧ OwnInts wr (w.heap.size + 1) v (mapTo (predAt 1 a b c) j) ∧ Below w.heap.size w wr ∧ Blk wr w.heap.size #[.int .i64 0, .slice none 0 0] 32) (fun _ i _ => NN - (intOf i).toNat)
      case atStart => exact ⟨0, Nat.zero_le _, rfl, OwnInts.nil _ _, g0, RE.out⟩
      case round =>
        clear g0 RE
        obtain ⟨j, hj, rfl, hown, hbr, hE⟩ := hrel
        have HO2 := Lib.hid hown
        have RE2 := Lib.hid hE
        clear hown hE
        by_cases hlj : j < NN
        · have hjn : j < N * N := by rw [HNN.out]; exact hlj
          have hM := Nat.mod_lt j (show 0 < N by omega)
          have hD : j / N < N := Nat.div_lt_of_lt_mul hjn
          obtain ⟨b1, o1, rfl, ca, lb1⟩ := (HV.out.ext hbr).cellN (j := j % N) (by rw [HLA.out]; exact hM)
          obtain ⟨b2, o2, rfl, cb, lb2⟩ := (HU.out.ext hbr).cellN (j := j / N) (by rw [HLB.out]; exact hD)
          obtain ⟨p1, p2⟩ := HA.out (j % N)
          obtain ⟨p3, p4⟩ := HB.out (j / N)
          have hpv := HPV.out j
          have hpi := HPI.out j
          obtain ⟨M, hMe⟩ : ∃ M, j % N = M := ⟨_, rfl⟩
          obtain ⟨D, hDe⟩ : ∃ D, j / N = D := ⟨_, rfl⟩
          have qD : (j : Int) / (N : Int) = (D : Nat) := by rw [← hDe]; simp
          have qR : (j : Int) % (N : Int) = (M : Nat) := by rw [← hMe]; simp
          have qDw : IntKind.i64.wrap (D : Int) = (D : Nat) := IntWalk.i64_in _ (by omega)
          have qT : Int.tmod (j : Int) N = (M : Nat) := by rw [← hMe, Int.tmod_eq_emod_of_nonneg (by omega)]; simp
          have hn0 : ¬ (N : Int) = 0 := by omega
          have hn00 : ¬ N = 0 := by omega
          have qn0 : ((N : Int) == 0) = false := by simp; omega
          have hn1i : 1 ≤ (N : Int) := by omega
          rw [hMe] at ca hM p1 p2
          rw [hDe] at cb hD p3 p4
          rw [hMe] at hpv
          generalize a.getD M 0 = p at *
          generalize b.getD D 0 = q at *
          have HPV5 := Lib.hid hpv
          rw [hpv] at hpi
          have HI5 := Lib.hid (show in64 (p) from by unfold in64; omega)
          have HMS := Lib.hid (mapTo_succ (predAt 1 a b c) j)
          have Hlen := Lib.hid (show (mapTo (predAt 1 a b c) j).length ≤ 1099511627776 from by rw [length_mapTo]; omega)
          clear hpv hpi hjn hMe
          go_wp2_with fail
          go_quiet (fail)
          rename_i nq
          have j5 : Below wr.heap.size wr (wr.drewN nq) := below_drewN' (Below.refl _ _) nq
          have g5 : Below w.heap.size w (wr.drewN nq) := ext hbr j5
          have HO5 := Lib.hid (HO2.out.ext j5)
          have RE5 := Lib.hid (RE2.out.ext j5)
          have l5 := RE5.out.lt
          generalize hq5 : wr.drewN nq = w5 at *
          clear hq5 j5 HO2 RE2 ca cb hbr hDe
          go_wp2_with (at_builtin; refine wpList_app1 rfl (.tmp 115) (.tmp 117) rfl (w.heap.size + 1) _ _ (p) rfl HO5.out rfl (by simp) HI5.out Hlen.out (by have := g5.size; have := RE5.out.lt; omega) ?_)
          intro v' w' hown' hb' _
          have HP := Lib.hid (show OwnInts w' (w.heap.size + 1) v' (mapTo (predAt 1 a b c) (j + 1)) from by rw [HMS.out, HPV5.out]; exact hown')
          have RE6 := Lib.hid (RE5.out.below hb' (by omega))
          have g6 : Below w.heap.size w w' := g5.trans (hb'.mono (by omega))
          clear hown' HO5
          go_wp2
          go_roundw
          case rel => exact ⟨j + 1, by omega, by go_num, HP.out, g6, RE6.out⟩
          case measure => simp [intOf]; omega
        · have e : j = NN := by omega
          have HS := Lib.hid (show OwnInts wr (w.heap.size + 1) _ (mapTo (predAt 1 a b c) NN) from by rw [e] at HO2; exact HO2.out)
          obtain ⟨va, vc, rfl⟩ := HS.out.shape
          obtain ⟨r0, r1, r2, r3⟩ := RE2.out.two
          have hvl : (mapTo (predAt 1 a b c) NN).length = NN := length_mapTo ..
          rw [hvl] at HS ⊢
          clear e HO2 hvl
          go_wp2
          refine bodyPost_ret (by simp [results, Tryd.results13, go_sem, r0, r1, r2, r3]; try rfl) rfl ?_
          exact ⟨_, rfl, ((HS.out.setOther (by simp) _).setOther (by simp) _).mono (by omega), by go_grown⟩

set_option maxRecDepth 100000 in
set_option maxHeartbeats 8000000 in
theorem rpred1_8 (tv lv : Value) (a b : List Int) (c : Int) (w : World) (hv : Ints w tv a) (hu : Ints w lv b) (he : edgeE a b c = 0) (hq : a.length = 8) :
    Calls Tryd.prog 13 #[.int .i64 1, tv, lv, .int .i64 c] w fun e w' => ∃ v', e = .returned (.tuple #[v', .agg #[.int .i64 0, .slice none 0 0]]) ∧ OwnInts w' w.heap.size v' (predV 1 a b c) ∧ Below w.heap.size w w' := by
  obtain ⟨hn, hab, ha, hb, hc1, hc2⟩ := edgeE_zero he
  have s1 := fun w hv => within_any tv a 0 255 w hv
  have s2 := fun w hv => within_any lv b 0 255 w hv
  rw [ha] at s1
  rw [hb] at s2
  have S1 := Lib.hid s1
  have S2 := Lib.hid s2
  have HPI := Lib.hid (fun k => predAt_in (m := 1) he k)
  have HA := Lib.hid (fun i => within_get ha (show (0 : Int) ≤ 0 by omega) (show (0 : Int) ≤ 255 by omega) i)
  have HB := Lib.hid (fun i => within_get hb (show (0 : Int) ≤ 0 by omega) (show (0 : Int) ≤ 255 by omega) i)
  have HN := Lib.hid (fun k => nsum_bd ha hb k)
  have HM := Lib.hid (show meanV a b = nsum a b a.length / (2 * a.length) from rfl)
  have HMB := Lib.hid (meanV_bd hn ha hb)
  have HV := Lib.hid hv
  have HU := Lib.hid hu
  obtain ⟨ao, cap, rfl⟩ := hv.shape
  obtain ⟨bo, cap2, rfl⟩ := hu.shape
  have HLB := Lib.hid hab
  have hp : predV 1 a b c = mapTo (predAt 1 a b c) (a.length * a.length) := rfl
  rw [hp]
  have HPV := Lib.hid (fun k => @predAt1 a b c k)
  have HN0 := Lib.hid (nsum_zero a b)
  obtain ⟨N, hN⟩ : ∃ N, a.length = N := ⟨_, rfl⟩
  have HLA := Lib.hid hN
  have hn8 : N ≤ 8 := by omega
  have hn4 : 4 ≤ N := by omega
  have hk1 : ¬ c < 0 := by omega
  have hk2 : ¬ 255 < c := by omega
  have q1 : ((N : Int) != 4) = true := by rw [← hN, hq]; rfl
  have q2 : ((N : Int) != 8) = false := by rw [← hN, hq]; rfl
  have q3 : ((N : Int) != (N : Int)) = false := by simp
  rw [hN] at HM HV HLB HN0 S1 ⊢
  rw [hN] at HPV
  rw [HLB.out] at HU S2 ⊢
  clear hv hu ha hb hn hab he hp hN hq s1 s2
  obtain ⟨NN, hNN⟩ : ∃ NN, N * N = NN := ⟨_, rfl⟩
  have hNN2 : NN ≤ 64 := by rw [← hNN]; exact Nat.mul_le_mul hn8 hn8
  have qm : IntKind.i64.wrap ((N : Int) * N) = (NN : Nat) := wrap_mulI (by rw [← hNN]; simp) (by omega)
  rw [hNN]
  have HNN := Lib.hid hNN
  clear hNN
  have R0 := Lib.hid (Blk.new w #[.int .i64 0, .slice none 0 0] 32)
  go_enter Tryd.func13, Tryd.ntmps13
  go_wp2_with fail
  refine (S1.out _ (HV.out.ext (by go_grown))).mono ?_
  rintro e w1 ⟨rfl, rfl⟩
  go_wp2_with fail
  refine (S2.out _ (HU.out.ext (by go_grown))).mono ?_
  rintro e w2 ⟨rfl, rfl⟩
  go_wp2
  go_loopw [11, 12] (fun s i wr => ∃ k : Nat, k ≤ N ∧ i = .int .i64 k ∧ s = .int .i64 (nsum a b k) ∧ Below w.heap.size w wr ∧ Blk wr w.heap.size #[.int .i64 0, .slice none 0 0] 32) (fun _ i _ => N - (intOf i).toNat)
  case atStart => exact ⟨0, Nat.zero_le _, rfl, by rw [HN0.out], by go_grown, R0.out⟩
  case round =>
    obtain ⟨k, hk, rfl, rfl, hbr, hE⟩ := hrel
    have RE := Lib.hid hE
    have hsb := HN.out k
    rw [HLA.out] at hsb
    have HS := Lib.hid (nsum_succ a b k)
    clear hE
    by_cases hlt : k < N
    · obtain ⟨b1, o1, b2, o2, rfl, rfl, ca, cb⟩ := pair_at HV.out HU.out hbr (k := k) (by rw [HLA.out]; exact hlt) (by rw [HLB.out]; exact hlt)
      obtain ⟨p1, p2⟩ := HA.out k
      obtain ⟨p3, p4⟩ := HB.out k
      generalize a.getD k 0 = p at *
      generalize b.getD k 0 = q at *
      generalize nsum a b k = s at *
      go_wp2_with fail
      go_quiet (fail)
      go_wp2
      go_roundw
      case rel => exact ⟨k + 1, by omega, by go_num, int_eq (by have := HS.out; omega), by first | exact hbr | exact hbr.drew | exact below_drewN' hbr _, RE.out⟩
      case measure => simp [intOf]; omega
    · have e : N = k := by omega
      subst e
      clear HS
      obtain ⟨wo, rfl⟩ : ∃ wo : World, wo = wr := ⟨_, rfl⟩
      have g0 := hbr
      clear hbr
      generalize hs : nsum a b N = s at *
      obtain ⟨mn, hmn⟩ : ∃ mn, meanV a b = mn := ⟨_, rfl⟩
      obtain ⟨D2, hD2⟩ : ∃ D2, 2 * N = D2 := ⟨_, rfl⟩
      rw [hmn] at HM HMB
      have hmn2 : mn = s / (2 * (N : Int)) := HM.out
      have q2 : IntKind.i64.wrap (2 * (N : Int)) = (D2 : Nat) := by rw [IntWalk.i64_in _ (by omega), ← hD2]; simp
      have qs : s / (D2 : Int) = mn := by rw [hmn2, ← hD2]; simp
      have hd20 : ¬ (D2 : Int) = 0 := by omega
      have hd21 : 1 ≤ (D2 : Int) := by omega
      have hd22 : ¬ D2 = 0 := by omega
      have hs0 : 0 ≤ s := by omega
      have hs1 : s ≤ 5000 := by omega
      obtain ⟨hmb1, hmb2⟩ := HMB.out
      clear hmn hmn2 HM hD2 hs
      go_wp2
      go_loopw [13, 14] (fun v i wr => ∃ j : Nat, j ≤ NN ∧ i = .int .i64 j ∧ OwnInts wr (w.heap.size + 1) v (mapTo (predAt 1 a b c) j) ∧ Below w.heap.size w wr ∧ Blk wr w.heap.size #[.int .i64 0, .slice none 0 0] 32) (fun _ i _ => NN - (intOf i).toNat)
      case atStart => exact ⟨0, Nat.zero_le _, rfl, OwnInts.nil _ _, g0, RE.out⟩
      case round =>
        clear g0 RE
        obtain ⟨j, hj, rfl, hown, hbr, hE⟩ := hrel
        have HO2 := Lib.hid hown
        have RE2 := Lib.hid hE
        clear hown hE
        by_cases hlj : j < NN
        · have hjn : j < N * N := by rw [HNN.out]; exact hlj
          have hM := Nat.mod_lt j (show 0 < N by omega)
          have hD : j / N < N := Nat.div_lt_of_lt_mul hjn
          obtain ⟨b1, o1, rfl, ca, lb1⟩ := (HV.out.ext hbr).cellN (j := j % N) (by rw [HLA.out]; exact hM)
          obtain ⟨b2, o2, rfl, cb, lb2⟩ := (HU.out.ext hbr).cellN (j := j / N) (by rw [HLB.out]; exact hD)
          obtain ⟨p1, p2⟩ := HA.out (j % N)
          obtain ⟨p3, p4⟩ := HB.out (j / N)
          have hpv := HPV.out j
          have hpi := HPI.out j
          obtain ⟨M, hMe⟩ : ∃ M, j % N = M := ⟨_, rfl⟩
          obtain ⟨D, hDe⟩ : ∃ D, j / N = D := ⟨_, rfl⟩
          have qD : (j : Int) / (N : Int) = (D : Nat) := by rw [← hDe]; simp
          have qR : (j : Int) % (N : Int) = (M : Nat) := by rw [← hMe]; simp
          have qDw : IntKind.i64.wrap (D : Int) = (D : Nat) := IntWalk.i64_in _ (by omega)
          have qT : Int.tmod (j : Int) N = (M : Nat) := by rw [← hMe, Int.tmod_eq_emod_of_nonneg (by omega)]; simp
          have hn0 : ¬ (N : Int) = 0 := by omega
          have hn00 : ¬ N = 0 := by omega
          have qn0 : ((N : Int) == 0) = false := by simp; omega
          have hn1i : 1 ≤ (N : Int) := by omega
          rw [hMe] at ca hM p1 p2
          rw [hDe] at cb hD p3 p4
          rw [hMe] at hpv
          generalize a.getD M 0 = p at *
          generalize b.getD D 0 = q at *
          have HPV5 := Lib.hid hpv
          rw [hpv] at hpi
          have HI5 := Lib.hid (show in64 (p) from by unfold in64; omega)
          have HMS := Lib.hid (mapTo_succ (predAt 1 a b c) j)
          have Hlen := Lib.hid (show (mapTo (predAt 1 a b c) j).length ≤ 1099511627776 from by rw [length_mapTo]; omega)
          clear hpv hpi hjn hMe
          go_wp2_with fail
          go_quiet (fail)
          rename_i nq
          have j5 : Below wr.heap.size wr (wr.drewN nq) := below_drewN' (Below.refl _ _) nq
          have g5 : Below w.heap.size w (wr.drewN nq) := ext hbr j5
          have HO5 := Lib.hid (HO2.out.ext j5)
          have RE5 := Lib.hid (RE2.out.ext j5)
          have l5 := RE5.out.lt
          generalize hq5 : wr.drewN nq = w5 at *
          clear hq5 j5 HO2 RE2 ca cb hbr hDe
          go_wp2_with (at_builtin; refine wpList_app1 rfl (.tmp 115) (.tmp 117) rfl (w.heap.size + 1) _ _ (p) rfl HO5.out rfl (by simp) HI5.out Hlen.out (by have := g5.size; have := RE5.out.lt; omega) ?_)
          intro v' w' hown' hb' _
          have HP := Lib.hid (show OwnInts w' (w.heap.size + 1) v' (mapTo (predAt 1 a b c) (j + 1)) from by rw [HMS.out, HPV5.out]; exact hown')
          have RE6 := Lib.hid (RE5.out.below hb' (by omega))
          have g6 : Below w.heap.size w w' := g5.trans (hb'.mono (by omega))
          clear hown' HO5
          go_wp2
          go_roundw
          case rel => exact ⟨j + 1, by omega, by go_num, HP.out, g6, RE6.out⟩
          case measure => simp [intOf]; omega
        · have e : j = NN := by omega
          have HS := Lib.hid (show OwnInts wr (w.heap.size + 1) _ (mapTo (predAt 1 a b c) NN) from by rw [e] at HO2; exact HO2.out)
          obtain ⟨va, vc, rfl⟩ := HS.out.shape
          obtain ⟨r0, r1, r2, r3⟩ := RE2.out.two
          have hvl : (mapTo (predAt 1 a b c) NN).length = NN := length_mapTo ..
          rw [hvl] at HS ⊢
          clear e HO2 hvl
          go_wp2
          refine bodyPost_ret (by simp [results, Tryd.results13, go_sem, r0, r1, r2, r3]; try rfl) rfl ?_
          exact ⟨_, rfl, ((HS.out.setOther (by simp) _).setOther (by simp) _).mono (by omega), by go_grown⟩

set_option maxRecDepth 100000 in
set_option maxHeartbeats 8000000 in
theorem rpred2_4 (tv lv : Value) (a b : List Int) (c : Int) (w : World) (hv : Ints w tv a) (hu : Ints w lv b) (he : edgeE a b c = 0) (hq : a.length = 4) :
    Calls Tryd.prog 13 #[.int .i64 2, tv, lv, .int .i64 c] w fun e w' => ∃ v', e = .returned (.tuple #[v', .agg #[.int .i64 0, .slice none 0 0]]) ∧ OwnInts w' w.heap.size v' (predV 2 a b c) ∧ Below w.heap.size w w' := by
  obtain ⟨hn, hab, ha, hb, hc1, hc2⟩ := edgeE_zero he
  have s1 := fun w hv => within_any tv a 0 255 w hv
  have s2 := fun w hv => within_any lv b 0 255 w hv
  rw [ha] at s1
  rw [hb] at s2
  have S1 := Lib.hid s1
  have S2 := Lib.hid s2
  have HPI := Lib.hid (fun k => predAt_in (m := 2) he k)
  have HA := Lib.hid (fun i => within_get ha (show (0 : Int) ≤ 0 by omega) (show (0 : Int) ≤ 255 by omega) i)
  have HB := Lib.hid (fun i => within_get hb (show (0 : Int) ≤ 0 by omega) (show (0 : Int) ≤ 255 by omega) i)
  have HN := Lib.hid (fun k => nsum_bd ha hb k)
  have HM := Lib.hid (show meanV a b = nsum a b a.length / (2 * a.length) from rfl)
  have HMB := Lib.hid (meanV_bd hn ha hb)
  have HV := Lib.hid hv
  have HU := Lib.hid hu
  obtain ⟨ao, cap, rfl⟩ := hv.shape
  obtain ⟨bo, cap2, rfl⟩ := hu.shape
  have HLB := Lib.hid hab
  have hp : predV 2 a b c = mapTo (predAt 2 a b c) (a.length * a.length) := rfl
  rw [hp]
  have HPV := Lib.hid (fun k => @predAt2 a b c k)
  have HN0 := Lib.hid (nsum_zero a b)
  obtain ⟨N, hN⟩ : ∃ N, a.length = N := ⟨_, rfl⟩
  have HLA := Lib.hid hN
  have hn8 : N ≤ 8 := by omega
  have hn4 : 4 ≤ N := by omega
  have hk1 : ¬ c < 0 := by omega
  have hk2 : ¬ 255 < c := by omega
  have q1 : ((N : Int) != 4) = false := by rw [← hN, hq]; rfl
  have q3 : ((N : Int) != (N : Int)) = false := by simp
  rw [hN] at HM HV HLB HN0 S1 ⊢
  rw [hN] at HPV
  rw [HLB.out] at HU S2 ⊢
  clear hv hu ha hb hn hab he hp hN hq s1 s2
  obtain ⟨NN, hNN⟩ : ∃ NN, N * N = NN := ⟨_, rfl⟩
  have hNN2 : NN ≤ 64 := by rw [← hNN]; exact Nat.mul_le_mul hn8 hn8
  have qm : IntKind.i64.wrap ((N : Int) * N) = (NN : Nat) := wrap_mulI (by rw [← hNN]; simp) (by omega)
  rw [hNN]
  have HNN := Lib.hid hNN
  clear hNN
  have R0 := Lib.hid (Blk.new w #[.int .i64 0, .slice none 0 0] 32)
  go_enter Tryd.func13, Tryd.ntmps13
  go_wp2_with fail
  refine (S1.out _ (HV.out.ext (by go_grown))).mono ?_
  rintro e w1 ⟨rfl, rfl⟩
  go_wp2_with fail
  refine (S2.out _ (HU.out.ext (by go_grown))).mono ?_
  rintro e w2 ⟨rfl, rfl⟩
  go_wp2
  go_loopw [11, 12] (fun s i wr => ∃ k : Nat, k ≤ N ∧ i = .int .i64 k ∧ s = .int .i64 (nsum a b k) ∧ Below w.heap.size w wr ∧ Blk wr w.heap.size #[.int .i64 0, .slice none 0 0] 32) (fun _ i _ => N - (intOf i).toNat)
  case atStart => exact ⟨0, Nat.zero_le _, rfl, by rw [HN0.out], by go_grown, R0.out⟩
  case round =>
    obtain ⟨k, hk, rfl, rfl, hbr, hE⟩ := hrel
    have RE := Lib.hid hE
    have hsb := HN.out k
    rw [HLA.out] at hsb
    have HS := Lib.hid (nsum_succ a b k)
    clear hE
    by_cases hlt : k < N
    · obtain ⟨b1, o1, b2, o2, rfl, rfl, ca, cb⟩ := pair_at HV.out HU.out hbr (k := k) (by rw [HLA.out]; exact hlt) (by rw [HLB.out]; exact hlt)
      obtain ⟨p1, p2⟩ := HA.out k
      obtain ⟨p3, p4⟩ := HB.out k
      generalize a.getD k 0 = p at *
      generalize b.getD k 0 = q at *
      generalize nsum a b k = s at *
      go_wp2_with fail
      go_quiet (fail)
      go_wp2
      go_roundw
      case rel => exact ⟨k + 1, by omega, by go_num, int_eq (by have := HS.out; omega), by first | exact hbr | exact hbr.drew | exact below_drewN' hbr _, RE.out⟩
      case measure => simp [intOf]; omega
    · have e : N = k := by omega
      subst e
      clear HS
      obtain ⟨wo, rfl⟩ : ∃ wo : World, wo = wr := ⟨_, rfl⟩
      have g0 := hbr
      clear hbr
      generalize hs : nsum a b N = s at *
      obtain ⟨mn, hmn⟩ : ∃ mn, meanV a b = mn := ⟨_, rfl⟩
      obtain ⟨D2, hD2⟩ : ∃ D2, 2 * N = D2 := ⟨_, rfl⟩
      rw [hmn] at HM HMB
      have hmn2 : mn = s / (2 * (N : Int)) := HM.out
      have q2 : IntKind.i64.wrap (2 * (N : Int)) = (D2 : Nat) := by rw [IntWalk.i64_in _ (by omega), ← hD2]; simp
      have qs : s / (D2 : Int) = mn := by rw [hmn2, ← hD2]; simp
      have hd20 : ¬ (D2 : Int) = 0 := by omega
      have hd21 : 1 ≤ (D2 : Int) := by omega
      have hd22 : ¬ D2 = 0 := by omega
      have hs0 : 0 ≤ s := by omega
      have hs1 : s ≤ 5000 := by omega
      obtain ⟨hmb1, hmb2⟩ := HMB.out
      clear hmn hmn2 HM hD2 hs
      go_wp2
      go_loopw [13, 14] (fun v i wr => ∃ j : Nat, j ≤ NN ∧ i = .int .i64 j ∧ OwnInts wr (w.heap.size + 1) v (mapTo (predAt 2 a b c) j) ∧ Below w.heap.size w wr ∧ Blk wr w.heap.size #[.int .i64 0, .slice none 0 0] 32) (fun _ i _ => NN - (intOf i).toNat)
      case atStart => exact ⟨0, Nat.zero_le _, rfl, OwnInts.nil _ _, g0, RE.out⟩
      case round =>
        clear g0 RE
        obtain ⟨j, hj, rfl, hown, hbr, hE⟩ := hrel
        have HO2 := Lib.hid hown
        have RE2 := Lib.hid hE
        clear hown hE
        by_cases hlj : j < NN
        · have hjn : j < N * N := by rw [HNN.out]; exact hlj
          have hM := Nat.mod_lt j (show 0 < N by omega)
          have hD : j / N < N := Nat.div_lt_of_lt_mul hjn
          obtain ⟨b1, o1, rfl, ca, lb1⟩ := (HV.out.ext hbr).cellN (j := j % N) (by rw [HLA.out]; exact hM)
          obtain ⟨b2, o2, rfl, cb, lb2⟩ := (HU.out.ext hbr).cellN (j := j / N) (by rw [HLB.out]; exact hD)
          obtain ⟨p1, p2⟩ := HA.out (j % N)
          obtain ⟨p3, p4⟩ := HB.out (j / N)
          have hpv := HPV.out j
          have hpi := HPI.out j
          obtain ⟨M, hMe⟩ : ∃ M, j % N = M := ⟨_, rfl⟩
          obtain ⟨D, hDe⟩ : ∃ D, j / N = D := ⟨_, rfl⟩
          have qD : (j : Int) / (N : Int) = (D : Nat) := by rw [← hDe]; simp
          have qR : (j : Int) % (N : Int) = (M : Nat) := by rw [← hMe]; simp
          have qDw : IntKind.i64.wrap (D : Int) = (D : Nat) := IntWalk.i64_in _ (by omega)
          have qT : Int.tmod (j : Int) N = (M : Nat) := by rw [← hMe, Int.tmod_eq_emod_of_nonneg (by omega)]; simp
          have hn0 : ¬ (N : Int) = 0 := by omega
          have hn00 : ¬ N = 0 := by omega
          have qn0 : ((N : Int) == 0) = false := by simp; omega
          have hn1i : 1 ≤ (N : Int) := by omega
          rw [hMe] at ca hM p1 p2
          rw [hDe] at cb hD p3 p4
          rw [hDe] at hpv
          generalize a.getD M 0 = p at *
          generalize b.getD D 0 = q at *
          have HPV5 := Lib.hid hpv
          rw [hpv] at hpi
          have HI5 := Lib.hid (show in64 (q) from by unfold in64; omega)
          have HMS := Lib.hid (mapTo_succ (predAt 2 a b c) j)
          have Hlen := Lib.hid (show (mapTo (predAt 2 a b c) j).length ≤ 1099511627776 from by rw [length_mapTo]; omega)
          clear hpv hpi hjn hMe
          go_wp2_with fail
          go_quiet (fail)
          rename_i nq
          have j5 : Below wr.heap.size wr (wr.drewN nq) := below_drewN' (Below.refl _ _) nq
          have g5 : Below w.heap.size w (wr.drewN nq) := ext hbr j5
          have HO5 := Lib.hid (HO2.out.ext j5)
          have RE5 := Lib.hid (RE2.out.ext j5)
          have l5 := RE5.out.lt
          generalize hq5 : wr.drewN nq = w5 at *
          clear hq5 j5 HO2 RE2 ca cb hbr hDe
          go_wp2_with (at_builtin; refine wpList_app1 rfl (.tmp 115) (.tmp 117) rfl (w.heap.size + 1) _ _ (q) rfl HO5.out rfl (by simp) HI5.out Hlen.out (by have := g5.size; have := RE5.out.lt; omega) ?_)
          intro v' w' hown' hb' _
          have HP := Lib.hid (show OwnInts w' (w.heap.size + 1) v' (mapTo (predAt 2 a b c) (j + 1)) from by rw [HMS.out, HPV5.out]; exact hown')
          have RE6 := Lib.hid (RE5.out.below hb' (by omega))
          have g6 : Below w.heap.size w w' := g5.trans (hb'.mono (by omega))
          clear hown' HO5
          go_wp2
          go_roundw
          case rel => exact ⟨j + 1, by omega, by go_num, HP.out, g6, RE6.out⟩
          case measure => simp [intOf]; omega
        · have e : j = NN := by omega
          have HS := Lib.hid (show OwnInts wr (w.heap.size + 1) _ (mapTo (predAt 2 a b c) NN) from by rw [e] at HO2; exact HO2.out)
          obtain ⟨va, vc, rfl⟩ := HS.out.shape
          obtain ⟨r0, r1, r2, r3⟩ := RE2.out.two
          have hvl : (mapTo (predAt 2 a b c) NN).length = NN := length_mapTo ..
          rw [hvl] at HS ⊢
          clear e HO2 hvl
          go_wp2
          refine bodyPost_ret (by simp [results, Tryd.results13, go_sem, r0, r1, r2, r3]; try rfl) rfl ?_
          exact ⟨_, rfl, ((HS.out.setOther (by simp) _).setOther (by simp) _).mono (by omega), by go_grown⟩

set_option maxRecDepth 100000 in
set_option maxHeartbeats 8000000 in
theorem rpred2_8 (tv lv : Value) (a b : List Int) (c : Int) (w : World) (hv : Ints w tv a) (hu : Ints w lv b) (he : edgeE a b c = 0) (hq : a.length = 8) :
    Calls Tryd.prog 13 #[.int .i64 2, tv, lv, .int .i64 c] w fun e w' => ∃ v', e = .returned (.tuple #[v', .agg #[.int .i64 0, .slice none 0 0]]) ∧ OwnInts w' w.heap.size v' (predV 2 a b c) ∧ Below w.heap.size w w' := by
  obtain ⟨hn, hab, ha, hb, hc1, hc2⟩ := edgeE_zero he
  have s1 := fun w hv => within_any tv a 0 255 w hv
  have s2 := fun w hv => within_any lv b 0 255 w hv
  rw [ha] at s1
  rw [hb] at s2
  have S1 := Lib.hid s1
  have S2 := Lib.hid s2
  have HPI := Lib.hid (fun k => predAt_in (m := 2) he k)
  have HA := Lib.hid (fun i => within_get ha (show (0 : Int) ≤ 0 by omega) (show (0 : Int) ≤ 255 by omega) i)
  have HB := Lib.hid (fun i => within_get hb (show (0 : Int) ≤ 0 by omega) (show (0 : Int) ≤ 255 by omega) i)
  have HN := Lib.hid (fun k => nsum_bd ha hb k)
  have HM := Lib.hid (show meanV a b = nsum a b a.length / (2 * a.length) from rfl)
  have HMB := Lib.hid (meanV_bd hn ha hb)
  have HV := Lib.hid hv
  have HU := Lib.hid hu
  obtain ⟨ao, cap, rfl⟩ := hv.shape
  obtain ⟨bo, cap2, rfl⟩ := hu.shape
  have HLB := Lib.hid hab
  have hp : predV 2 a b c = mapTo (predAt 2 a b c) (a.length * a.length) := rfl
  rw [hp]
  have HPV := Lib.hid (fun k => @predAt2 a b c k)
  have HN0 := Lib.hid (nsum_zero a b)
  obtain ⟨N, hN⟩ : ∃ N, a.length = N := ⟨_, rfl⟩
  have HLA := Lib.hid hN
  have hn8 : N ≤ 8 := by omega
  have hn4 : 4 ≤ N := by omega
  have hk1 : ¬ c < 0 := by omega
  have hk2 : ¬ 255 < c := by omega
  have q1 : ((N : Int) != 4) = true := by rw [← hN, hq]; rfl
  have q2 : ((N : Int) != 8) = false := by rw [← hN, hq]; rfl
  have q3 : ((N : Int) != (N : Int)) = false := by simp
  rw [hN] at HM HV HLB HN0 S1 ⊢
  rw [hN] at HPV
  rw [HLB.out] at HU S2 ⊢
  clear hv hu ha hb hn hab he hp hN hq s1 s2
  obtain ⟨NN, hNN⟩ : ∃ NN, N * N = NN := ⟨_, rfl⟩
  have hNN2 : NN ≤ 64 := by rw [← hNN]; exact Nat.mul_le_mul hn8 hn8
  have qm : IntKind.i64.wrap ((N : Int) * N) = (NN : Nat) := wrap_mulI (by rw [← hNN]; simp) (by omega)
  rw [hNN]
  have HNN := Lib.hid hNN
  clear hNN
  have R0 := Lib.hid (Blk.new w #[.int .i64 0, .slice none 0 0] 32)
  go_enter Tryd.func13, Tryd.ntmps13
  go_wp2_with fail
  refine (S1.out _ (HV.out.ext (by go_grown))).mono ?_
  rintro e w1 ⟨rfl, rfl⟩
  go_wp2_with fail
  refine (S2.out _ (HU.out.ext (by go_grown))).mono ?_
  rintro e w2 ⟨rfl, rfl⟩
  go_wp2
  go_loopw [11, 12] (fun s i wr => ∃ k : Nat, k ≤ N ∧ i = .int .i64 k ∧ s = .int .i64 (nsum a b k) ∧ Below w.heap.size w wr ∧ Blk wr w.heap.size #[.int .i64 0, .slice none 0 0] 32) (fun _ i _ => N - (intOf i).toNat)
  case atStart => exact ⟨0, Nat.zero_le _, rfl, by rw [HN0.out], by go_grown, R0.out⟩
  case round =>
    obtain ⟨k, hk, rfl, rfl, hbr, hE⟩ := hrel
    have RE := Lib.hid hE
    have hsb := HN.out k
    rw [HLA.out] at hsb
    have HS := Lib.hid (nsum_succ a b k)
    clear hE
    by_cases hlt : k < N
    · obtain ⟨b1, o1, b2, o2, rfl, rfl, ca, cb⟩ := pair_at HV.out HU.out hbr (k := k) (by rw [HLA.out]; exact hlt) (by rw [HLB.out]; exact hlt)
      obtain ⟨p1, p2⟩ := HA.out k
      obtain ⟨p3, p4⟩ := HB.out k
      generalize a.getD k 0 = p at *
      generalize b.getD k 0 = q at *
      generalize nsum a b k = s at *
      go_wp2_with fail
      go_quiet (fail)
      go_wp2
      go_roundw
      case rel => exact ⟨k + 1, by omega, by go_num, int_eq (by have := HS.out; omega), by first | exact hbr | exact hbr.drew | exact below_drewN' hbr _, RE.out⟩
      case measure => simp [intOf]; omega
    · have e : N = k := by omega
      subst e
      clear HS
      obtain ⟨wo, rfl⟩ : ∃ wo : World, wo = wr := ⟨_, rfl⟩
      have g0 := hbr
      clear hbr
      generalize hs : nsum a b N = s at *
      obtain ⟨mn, hmn⟩ : ∃ mn, meanV a b = mn := ⟨_, rfl⟩
      obtain ⟨D2, hD2⟩ : ∃ D2, 2 * N = D2 := ⟨_, rfl⟩
      rw [hmn] at HM HMB
      have hmn2 : mn = s / (2 * (N : Int)) := HM.out
      have q2 : IntKind.i64.wrap (2 * (N : Int)) = (D2 : Nat) := by rw [IntWalk.i64_in _ (by omega), ← hD2]; simp
      have qs : s / (D2 : Int) = mn := by rw [hmn2, ← hD2]; simp
      have hd20 : ¬ (D2 : Int) = 0 := by omega
      have hd21 : 1 ≤ (D2 : Int) := by omega
      have hd22 : ¬ D2 = 0 := by omega
      have hs0 : 0 ≤ s := by omega
      have hs1 : s ≤ 5000 := by omega
      obtain ⟨hmb1, hmb2⟩ := HMB.out
      clear hmn hmn2 HM hD2 hs
      go_wp2
      go_loopw [13, 14] (fun v i wr => ∃ j : Nat, j ≤ NN ∧ i = .int .i64 j ∧ OwnInts wr (w.heap.size + 1) v (mapTo (predAt 2 a b c) j) ∧ Below w.heap.size w wr ∧ Blk wr w.heap.size #[.int .i64 0, .slice none 0 0] 32) (fun _ i _ => NN - (intOf i).toNat)
      case atStart => exact ⟨0, Nat.zero_le _, rfl, OwnInts.nil _ _, g0, RE.out⟩
      case round =>
        clear g0 RE
        obtain ⟨j, hj, rfl, hown, hbr, hE⟩ := hrel
        have HO2 := Lib.hid hown
        have RE2 := Lib.hid hE
        clear hown hE
        by_cases hlj : j < NN
        · have hjn : j < N * N := by rw [HNN.out]; exact hlj
          have hM := Nat.mod_lt j (show 0 < N by omega)
          have hD : j / N < N := Nat.div_lt_of_lt_mul hjn
          obtain ⟨b1, o1, rfl, ca, lb1⟩ := (HV.out.ext hbr).cellN (j := j % N) (by rw [HLA.out]; exact hM)
          obtain ⟨b2, o2, rfl, cb, lb2⟩ := (HU.out.ext hbr).cellN (j := j / N) (by rw [HLB.out]; exact hD)
          obtain ⟨p1, p2⟩ := HA.out (j % N)
          obtain ⟨p3, p4⟩ := HB.out (j / N)
          have hpv := HPV.out j
          have hpi := HPI.out j
          obtain ⟨M, hMe⟩ : ∃ M, j % N = M := ⟨_, rfl⟩
          obtain ⟨D, hDe⟩ : ∃ D, j / N = D := ⟨_, rfl⟩
          have qD : (j : Int) / (N : Int) = (D : Nat) := by rw [← hDe]; simp
          have qR : (j : Int) % (N : Int) = (M : Nat) := by rw [← hMe]; simp
          have qDw : IntKind.i64.wrap (D : Int) = (D : Nat) := IntWalk.i64_in _ (by omega)
          have qT : Int.tmod (j : Int) N = (M : Nat) := by rw [← hMe, Int.tmod_eq_emod_of_nonneg (by omega)]; simp
          have hn0 : ¬ (N : Int) = 0 := by omega
          have hn00 : ¬ N = 0 := by omega
          have qn0 : ((N : Int) == 0) = false := by simp; omega
          have hn1i : 1 ≤ (N : Int) := by omega
          rw [hMe] at ca hM p1 p2
          rw [hDe] at cb hD p3 p4
          rw [hDe] at hpv
          generalize a.getD M 0 = p at *
          generalize b.getD D 0 = q at *
          have HPV5 := Lib.hid hpv
          rw [hpv] at hpi
          have HI5 := Lib.hid (show in64 (q) from by unfold in64; omega)
          have HMS := Lib.hid (mapTo_succ (predAt 2 a b c) j)
          have Hlen := Lib.hid (show (mapTo (predAt 2 a b c) j).length ≤ 1099511627776 from by rw [length_mapTo]; omega)
          clear hpv hpi hjn hMe
          go_wp2_with fail
          go_quiet (fail)
          rename_i nq
          have j5 : Below wr.heap.size wr (wr.drewN nq) := below_drewN' (Below.refl _ _) nq
          have g5 : Below w.heap.size w (wr.drewN nq) := ext hbr j5
          have HO5 := Lib.hid (HO2.out.ext j5)
          have RE5 := Lib.hid (RE2.out.ext j5)
          have l5 := RE5.out.lt
          generalize hq5 : wr.drewN nq = w5 at *
          clear hq5 j5 HO2 RE2 ca cb hbr hDe
          go_wp2_with (at_builtin; refine wpList_app1 rfl (.tmp 115) (.tmp 117) rfl (w.heap.size + 1) _ _ (q) rfl HO5.out rfl (by simp) HI5.out Hlen.out (by have := g5.size; have := RE5.out.lt; omega) ?_)
          intro v' w' hown' hb' _
          have HP := Lib.hid (show OwnInts w' (w.heap.size + 1) v' (mapTo (predAt 2 a b c) (j + 1)) from by rw [HMS.out, HPV5.out]; exact hown')
          have RE6 := Lib.hid (RE5.out.below hb' (by omega))
          have g6 : Below w.heap.size w w' := g5.trans (hb'.mono (by omega))
          clear hown' HO5
          go_wp2
          go_roundw
          case rel => exact ⟨j + 1, by omega, by go_num, HP.out, g6, RE6.out⟩
          case measure => simp [intOf]; omega
        · have e : j = NN := by omega
          have HS := Lib.hid (show OwnInts wr (w.heap.size + 1) _ (mapTo (predAt 2 a b c) NN) from by rw [e] at HO2; exact HO2.out)
          obtain ⟨va, vc, rfl⟩ := HS.out.shape
          obtain ⟨r0, r1, r2, r3⟩ := RE2.out.two
          have hvl : (mapTo (predAt 2 a b c) NN).length = NN := length_mapTo ..
          rw [hvl] at HS ⊢
          clear e HO2 hvl
          go_wp2
          refine bodyPost_ret (by simp [results, Tryd.results13, go_sem, r0, r1, r2, r3]; try rfl) rfl ?_
          exact ⟨_, rfl, ((HS.out.setOther (by simp) _).setOther (by simp) _).mono (by omega), by go_grown⟩

set_option maxRecDepth 100000 in
set_option maxHeartbeats 8000000 in
theorem rpred3_4 (tv lv : Value) (a b : List Int) (c : Int) (w : World) (hv : Ints w tv a) (hu : Ints w lv b) (he : edgeE a b c = 0) (hq : a.length = 4) :
    Calls Tryd.prog 13 #[.int .i64 3, tv, lv, .int .i64 c] w fun e w' => ∃ v', e = .returned (.tuple #[v', .agg #[.int .i64 0, .slice none 0 0]]) ∧ OwnInts w' w.heap.size v' (predV 3 a b c) ∧ Below w.heap.size w w' := by
  obtain ⟨hn, hab, ha, hb, hc1, hc2⟩ := edgeE_zero he
  have s1 := fun w hv => within_any tv a 0 255 w hv
  have s2 := fun w hv => within_any lv b 0 255 w hv
  rw [ha] at s1
  rw [hb] at s2
  have S1 := Lib.hid s1
  have S2 := Lib.hid s2
  have HPI := Lib.hid (fun k => predAt_in (m := 3) he k)
  have HA := Lib.hid (fun i => within_get ha (show (0 : Int) ≤ 0 by omega) (show (0 : Int) ≤ 255 by omega) i)
  have HB := Lib.hid (fun i => within_get hb (show (0 : Int) ≤ 0 by omega) (show (0 : Int) ≤ 255 by omega) i)
  have HN := Lib.hid (fun k => nsum_bd ha hb k)
  have HM := Lib.hid (show meanV a b = nsum a b a.length / (2 * a.length) from rfl)
  have HMB := Lib.hid (meanV_bd hn ha hb)
  have HV := Lib.hid hv
  have HU := Lib.hid hu
  obtain ⟨ao, cap, rfl⟩ := hv.shape
  obtain ⟨bo, cap2, rfl⟩ := hu.shape
  have HLB := Lib.hid hab
  have hp : predV 3 a b c = mapTo (predAt 3 a b c) (a.length * a.length) := rfl
  rw [hp]
  have HPV := Lib.hid (fun k => @predAt3 a b c k)
  have HN0 := Lib.hid (nsum_zero a b)
  obtain ⟨N, hN⟩ : ∃ N, a.length = N := ⟨_, rfl⟩
  have HLA := Lib.hid hN
  have hn8 : N ≤ 8 := by omega
  have hn4 : 4 ≤ N := by omega
  have hk1 : ¬ c < 0 := by omega
  have hk2 : ¬ 255 < c := by omega
  have q1 : ((N : Int) != 4) = false := by rw [← hN, hq]; rfl
  have q3 : ((N : Int) != (N : Int)) = false := by simp
  rw [hN] at HM HV HLB HN0 S1 ⊢
  rw [hN] at HPV
  rw [HLB.out] at HU S2 ⊢
  clear hv hu ha hb hn hab he hp hN hq s1 s2
  obtain ⟨NN, hNN⟩ : ∃ NN, N * N = NN := ⟨_, rfl⟩
  have hNN2 : NN ≤ 64 := by rw [← hNN]; exact Nat.mul_le_mul hn8 hn8
  have qm : IntKind.i64.wrap ((N : Int) * N) = (NN : Nat) := wrap_mulI (by rw [← hNN]; simp) (by omega)
  rw [hNN]
  have HNN := Lib.hid hNN
  clear hNN
  have R0 := Lib.hid (Blk.new w #[.int .i64 0, .slice none 0 0] 32)
  go_enter Tryd.func13, Tryd.ntmps13
  go_wp2_with fail
  refine (S1.out _ (HV.out.ext (by go_grown))).mono ?_
  rintro e w1 ⟨rfl, rfl⟩
  go_wp2_with fail
  refine (S2.out _ (HU.out.ext (by go_grown))).mono ?_
  rintro e w2 ⟨rfl, rfl⟩
  go_wp2
  go_loopw [11, 12] (fun s i wr => ∃ k : Nat, k ≤ N ∧ i = .int .i64 k ∧ s = .int .i64 (nsum a b k) ∧ Below w.heap.size w wr ∧ Blk wr w.heap.size #[.int .i64 0, .slice none 0 0] 32) (fun _ i _ => N - (intOf i).toNat)
  case atStart => exact ⟨0, Nat.zero_le _, rfl, by rw [HN0.out], by go_grown, R0.out⟩
  case round =>
    obtain ⟨k, hk, rfl, rfl, hbr, hE⟩ := hrel
    have RE := Lib.hid hE
    have hsb := HN.out k
    rw [HLA.out] at hsb
    have HS := Lib.hid (nsum_succ a b k)
    clear hE
    by_cases hlt : k < N
    · obtain ⟨b1, o1, b2, o2, rfl, rfl, ca, cb⟩ := pair_at HV.out HU.out hbr (k := k) (by rw [HLA.out]; exact hlt) (by rw [HLB.out]; exact hlt)
      obtain ⟨p1, p2⟩ := HA.out k
      obtain ⟨p3, p4⟩ := HB.out k
      generalize a.getD k 0 = p at *
      generalize b.getD k 0 = q at *
      generalize nsum a b k = s at *
      go_wp2_with fail
      go_quiet (fail)
      go_wp2
      go_roundw
      case rel => exact ⟨k + 1, by omega, by go_num, int_eq (by have := HS.out; omega), by first | exact hbr | exact hbr.drew | exact below_drewN' hbr _, RE.out⟩
      case measure => simp [intOf]; omega
    · have e : N = k := by omega
      subst e
      clear HS
      obtain ⟨wo, rfl⟩ : ∃ wo : World, wo = wr := ⟨_, rfl⟩
      have g0 := hbr
      clear hbr
      generalize hs : nsum a b N = s at *
      obtain ⟨mn, hmn⟩ : ∃ mn, meanV a b = mn := ⟨_, rfl⟩
      obtain ⟨D2, hD2⟩ : ∃ D2, 2 * N = D2 := ⟨_, rfl⟩
      rw [hmn] at HM HMB
      have hmn2 : mn = s / (2 * (N : Int)) := HM.out
      have q2 : IntKind.i64.wrap (2 * (N : Int)) = (D2 : Nat) := by rw [IntWalk.i64_in _ (by omega), ← hD2]; simp
      have qs : s / (D2 : Int) = mn := by rw [hmn2, ← hD2]; simp
      have hd20 : ¬ (D2 : Int) = 0 := by omega
      have hd21 : 1 ≤ (D2 : Int) := by omega
      have hd22 : ¬ D2 = 0 := by omega
      have hs0 : 0 ≤ s := by omega
      have hs1 : s ≤ 5000 := by omega
      obtain ⟨hmb1, hmb2⟩ := HMB.out
      clear hmn hmn2 HM hD2 hs
      go_wp2
      go_loopw [13, 14] (fun v i wr => ∃ j : Nat, j ≤ NN ∧ i = .int .i64 j ∧ OwnInts wr (w.heap.size + 1) v (mapTo (predAt 3 a b c) j) ∧ Below w.heap.size w wr ∧ Blk wr w.heap.size #[.int .i64 0, .slice none 0 0] 32) (fun _ i _ => NN - (intOf i).toNat)
      case atStart => exact ⟨0, Nat.zero_le _, rfl, OwnInts.nil _ _, g0, RE.out⟩
      case round =>
        clear g0 RE
        obtain ⟨j, hj, rfl, hown, hbr, hE⟩ := hrel
        have HO2 := Lib.hid hown
        have RE2 := Lib.hid hE
        clear hown hE
        by_cases hlj : j < NN
        · have hjn : j < N * N := by rw [HNN.out]; exact hlj
          have hM := Nat.mod_lt j (show 0 < N by omega)
          have hD : j / N < N := Nat.div_lt_of_lt_mul hjn
          obtain ⟨b1, o1, rfl, ca, lb1⟩ := (HV.out.ext hbr).cellN (j := j % N) (by rw [HLA.out]; exact hM)
          obtain ⟨b2, o2, rfl, cb, lb2⟩ := (HU.out.ext hbr).cellN (j := j / N) (by rw [HLB.out]; exact hD)
          obtain ⟨p1, p2⟩ := HA.out (j % N)
          obtain ⟨p3, p4⟩ := HB.out (j / N)
          have hpv := HPV.out j
          have hpi := HPI.out j
          obtain ⟨M, hMe⟩ : ∃ M, j % N = M := ⟨_, rfl⟩
          obtain ⟨D, hDe⟩ : ∃ D, j / N = D := ⟨_, rfl⟩
          have qD : (j : Int) / (N : Int) = (D : Nat) := by rw [← hDe]; simp
          have qR : (j : Int) % (N : Int) = (M : Nat) := by rw [← hMe]; simp
          have qDw : IntKind.i64.wrap (D : Int) = (D : Nat) := IntWalk.i64_in _ (by omega)
          have qT : Int.tmod (j : Int) N = (M : Nat) := by rw [← hMe, Int.tmod_eq_emod_of_nonneg (by omega)]; simp
          have hn0 : ¬ (N : Int) = 0 := by omega
          have hn00 : ¬ N = 0 := by omega
          have qn0 : ((N : Int) == 0) = false := by simp; omega
          have hn1i : 1 ≤ (N : Int) := by omega
          rw [hMe] at ca hM p1 p2
          rw [hDe] at cb hD p3 p4
          rw [hMe, hDe] at hpv
          generalize a.getD M 0 = p at *
          generalize b.getD D 0 = q at *
          have HPV5 := Lib.hid hpv
          rw [hpv] at hpi
          have HI5 := Lib.hid (show in64 (clipV (q + p - c)) from by unfold in64; omega)
          have HMS := Lib.hid (mapTo_succ (predAt 3 a b c) j)
          have Hlen := Lib.hid (show (mapTo (predAt 3 a b c) j).length ≤ 1099511627776 from by rw [length_mapTo]; omega)
          clear hpv hpi hjn hMe
          go_wp2_with fail
          go_quiet (fail)
          rename_i nq
          have j5 : Below wr.heap.size wr (wr.drewN nq) := below_drewN' (Below.refl _ _) nq
          have g5 : Below w.heap.size w (wr.drewN nq) := ext hbr j5
          have HO5 := Lib.hid (HO2.out.ext j5)
          have RE5 := Lib.hid (RE2.out.ext j5)
          have l5 := RE5.out.lt
          generalize hq5 : wr.drewN nq = w5 at *
          clear hq5 j5 HO2 RE2 ca cb hbr hDe
          go_wp2_with fail
          refine (rclip_any _ _).mono ?_
          rintro e w6 ⟨rfl, rfl⟩
          go_wp2_with (at_builtin; refine wpList_app1 rfl (.tmp 115) (.tmp 117) rfl (w.heap.size + 1) _ _ (clipV (q + p - c)) rfl HO5.out rfl (by simp) HI5.out Hlen.out (by have := g5.size; have := RE5.out.lt; omega) ?_)
          intro v' w' hown' hb' _
          have HP := Lib.hid (show OwnInts w' (w.heap.size + 1) v' (mapTo (predAt 3 a b c) (j + 1)) from by rw [HMS.out, HPV5.out]; exact hown')
          have RE6 := Lib.hid (RE5.out.below hb' (by omega))
          have g6 : Below w.heap.size w w' := g5.trans (hb'.mono (by omega))
          clear hown' HO5
          go_wp2
          go_roundw
          case rel => exact ⟨j + 1, by omega, by go_num, HP.out, g6, RE6.out⟩
          case measure => simp [intOf]; omega
        · have e : j = NN := by omega
          have HS := Lib.hid (show OwnInts wr (w.heap.size + 1) _ (mapTo (predAt 3 a b c) NN) from by rw [e] at HO2; exact HO2.out)
          obtain ⟨va, vc, rfl⟩ := HS.out.shape
          obtain ⟨r0, r1, r2, r3⟩ := RE2.out.two
          have hvl : (mapTo (predAt 3 a b c) NN).length = NN := length_mapTo ..
          rw [hvl] at HS ⊢
          clear e HO2 hvl
          go_wp2
          refine bodyPost_ret (by simp [results, Tryd.results13, go_sem, r0, r1, r2, r3]; try rfl) rfl ?_
          exact ⟨_, rfl, ((HS.out.setOther (by simp) _).setOther (by simp) _).mono (by omega), by go_grown⟩

set_option maxRecDepth 100000 in
set_option maxHeartbeats 8000000 in
theorem rpred3_8 (tv lv : Value) (a b : List Int) (c : Int) (w : World) (hv : Ints w tv a) (hu : Ints w lv b) (he : edgeE a b c = 0) (hq : a.length = 8) :
    Calls Tryd.prog 13 #[.int .i64 3, tv, lv, .int .i64 c] w fun e w' => ∃ v', e = .returned (.tuple #[v', .agg #[.int .i64 0, .slice none 0 0]]) ∧ OwnInts w' w.heap.size v' (predV 3 a b c) ∧ Below w.heap.size w w' := by
  obtain ⟨hn, hab, ha, hb, hc1, hc2⟩ := edgeE_zero he
  have s1 := fun w hv => within_any tv a 0 255 w hv
  have s2 := fun w hv => within_any lv b 0 255 w hv
  rw [ha] at s1
  rw [hb] at s2
  have S1 := Lib.hid s1
  have S2 := Lib.hid s2
  have HPI := Lib.hid (fun k => predAt_in (m := 3) he k)
  have HA := Lib.hid (fun i => within_get ha (show (0 : Int) ≤ 0 by omega) (show (0 : Int) ≤ 255 by omega) i)
  have HB := Lib.hid (fun i => within_get hb (show (0 : Int) ≤ 0 by omega) (show (0 : Int) ≤ 255 by omega) i)
  have HN := Lib.hid (fun k => nsum_bd ha hb k)
  have HM := Lib.hid (show meanV a b = nsum a b a.length / (2 * a.length) from rfl)
  have HMB := Lib.hid (meanV_bd hn ha hb)
  have HV := Lib.hid hv
  have HU := Lib.hid hu
  obtain ⟨ao, cap, rfl⟩ := hv.shape
  obtain ⟨bo, cap2, rfl⟩ := hu.shape
  have HLB := Lib.hid hab
  have hp : predV 3 a b c = mapTo (predAt 3 a b c) (a.length * a.length) := rfl
  rw [hp]
  have HPV := Lib.hid (fun k => @predAt3 a b c k)
  have HN0 := Lib.hid (nsum_zero a b)
  obtain ⟨N, hN⟩ : ∃ N, a.length = N := ⟨_, rfl⟩
  have HLA := Lib.hid hN
  have hn8 : N ≤ 8 := by omega
  have hn4 : 4 ≤ N := by omega
  have hk1 : ¬ c < 0 := by omega
  have hk2 : ¬ 255 < c := by omega
  have q1 : ((N : Int) != 4) = true := by rw [← hN, hq]; rfl
  have q2 : ((N : Int) != 8) = false := by rw [← hN, hq]; rfl
  have q3 : ((N : Int) != (N : Int)) = false := by simp
  rw [hN] at HM HV HLB HN0 S1 ⊢
  rw [hN] at HPV
  rw [HLB.out] at HU S2 ⊢
  clear hv hu ha hb hn hab he hp hN hq s1 s2
  obtain ⟨NN, hNN⟩ : ∃ NN, N * N = NN := ⟨_, rfl⟩
  have hNN2 : NN ≤ 64 := by rw [← hNN]; exact Nat.mul_le_mul hn8 hn8
  have qm : IntKind.i64.wrap ((N : Int) * N) = (NN : Nat) := wrap_mulI (by rw [← hNN]; simp) (by omega)
  rw [hNN]
  have HNN := Lib.hid hNN
  clear hNN
  have R0 := Lib.hid (Blk.new w #[.int .i64 0, .slice none 0 0] 32)
  go_enter Tryd.func13, Tryd.ntmps13
  go_wp2_with fail
  refine (S1.out _ (HV.out.ext (by go_grown))).mono ?_
  rintro e w1 ⟨rfl, rfl⟩
  go_wp2_with fail
  refine (S2.out _ (HU.out.ext (by go_grown))).mono ?_
  rintro e w2 ⟨rfl, rfl⟩
  go_wp2
  go_loopw [11, 12] (fun s i wr => ∃ k : Nat, k ≤ N ∧ i = .int .i64 k ∧ s = .int .i64 (nsum a b k) ∧ Below w.heap.size w wr ∧ Blk wr w.heap.size #[.int .i64 0, .slice none 0 0] 32) (fun _ i _ => N - (intOf i).toNat)
  case atStart => exact ⟨0, Nat.zero_le _, rfl, by rw [HN0.out], by go_grown, R0.out⟩
  case round =>
    obtain ⟨k, hk, rfl, rfl, hbr, hE⟩ := hrel
    have RE := Lib.hid hE
    have hsb := HN.out k
    rw [HLA.out] at hsb
    have HS := Lib.hid (nsum_succ a b k)
    clear hE
    by_cases hlt : k < N
    · obtain ⟨b1, o1, b2, o2, rfl, rfl, ca, cb⟩ := pair_at HV.out HU.out hbr (k := k) (by rw [HLA.out]; exact hlt) (by rw [HLB.out]; exact hlt)
      obtain ⟨p1, p2⟩ := HA.out k
      obtain ⟨p3, p4⟩ := HB.out k
      generalize a.getD k 0 = p at *
      generalize b.getD k 0 = q at *
      generalize nsum a b k = s at *
      go_wp2_with fail
      go_quiet (fail)
      go_wp2
      go_roundw
      case rel => exact ⟨k + 1, by omega, by go_num, int_eq (by have := HS.out; omega), by first | exact hbr | exact hbr.drew | exact below_drewN' hbr _, RE.out⟩
      case measure => simp [intOf]; omega
    · have e : N = k := by omega
      subst e
      clear HS
      obtain ⟨wo, rfl⟩ : ∃ wo : World, wo = wr := ⟨_, rfl⟩
      have g0 := hbr
      clear hbr
      generalize hs : nsum a b N = s at *
      obtain ⟨mn, hmn⟩ : ∃ mn, meanV a b = mn := ⟨_, rfl⟩
      obtain ⟨D2, hD2⟩ : ∃ D2, 2 * N = D2 := ⟨_, rfl⟩
      rw [hmn] at HM HMB
      have hmn2 : mn = s / (2 * (N : Int)) := HM.out
      have q2 : IntKind.i64.wrap (2 * (N : Int)) = (D2 : Nat) := by rw [IntWalk.i64_in _ (by omega), ← hD2]; simp
      have qs : s / (D2 : Int) = mn := by rw [hmn2, ← hD2]; simp
      have hd20 : ¬ (D2 : Int) = 0 := by omega
      have hd21 : 1 ≤ (D2 : Int) := by omega
      have hd22 : ¬ D2 = 0 := by omega
      have hs0 : 0 ≤ s := by omega
      have hs1 : s ≤ 5000 := by omega
      obtain ⟨hmb1, hmb2⟩ := HMB.out
      clear hmn hmn2 HM hD2 hs
      go_wp2
      go_loopw [13, 14] (fun v i wr => ∃ j : Nat, j ≤ NN ∧ i = .int .i64 j ∧ OwnInts wr (w.heap.size + 1) v (mapTo (predAt 3 a b c) j) ∧ Below w.heap.size w wr ∧ Blk wr w.heap.size #[.int .i64 0, .slice none 0 0] 32) (fun _ i _ => NN - (intOf i).toNat)
      case atStart => exact ⟨0, Nat.zero_le _, rfl, OwnInts.nil _ _, g0, RE.out⟩
      case round =>
        clear g0 RE
        obtain ⟨j, hj, rfl, hown, hbr, hE⟩ := hrel
        have HO2 := Lib.hid hown
        have RE2 := Lib.hid hE
        clear hown hE
        by_cases hlj : j < NN
        · have hjn : j < N * N := by rw [HNN.out]; exact hlj
          have hM := Nat.mod_lt j (show 0 < N by omega)
          have hD : j / N < N := Nat.div_lt_of_lt_mul hjn
          obtain ⟨b1, o1, rfl, ca, lb1⟩ := (HV.out.ext hbr).cellN (j := j % N) (by rw [HLA.out]; exact hM)
          obtain ⟨b2, o2, rfl, cb, lb2⟩ := (HU.out.ext hbr).cellN (j := j / N) (by rw [HLB.out]; exact hD)
          obtain ⟨p1, p2⟩ := HA.out (j % N)
          obtain ⟨p3, p4⟩ := HB.out (j / N)
          have hpv := HPV.out j
          have hpi := HPI.out j
          obtain ⟨M, hMe⟩ : ∃ M, j % N = M := ⟨_, rfl⟩
          obtain ⟨D, hDe⟩ : ∃ D, j / N = D := ⟨_, rfl⟩
          have qD : (j : Int) / (N : Int) = (D : Nat) := by rw [← hDe]; simp
          have qR : (j : Int) % (N : Int) = (M : Nat) := by rw [← hMe]; simp
          have qDw : IntKind.i64.wrap (D : Int) = (D : Nat) := IntWalk.i64_in _ (by omega)
          have qT : Int.tmod (j : Int) N = (M : Nat) := by rw [← hMe, Int.tmod_eq_emod_of_nonneg (by omega)]; simp
          have hn0 : ¬ (N : Int) = 0 := by omega
          have hn00 : ¬ N = 0 := by omega
          have qn0 : ((N : Int) == 0) = false := by simp; omega
          have hn1i : 1 ≤ (N : Int) := by omega
          rw [hMe] at ca hM p1 p2
          rw [hDe] at cb hD p3 p4
          rw [hMe, hDe] at hpv
          generalize a.getD M 0 = p at *
          generalize b.getD D 0 = q at *
          have HPV5 := Lib.hid hpv
          rw [hpv] at hpi
          have HI5 := Lib.hid (show in64 (clipV (q + p - c)) from by unfold in64; omega)
          have HMS := Lib.hid (mapTo_succ (predAt 3 a b c) j)
          have Hlen := Lib.hid (show (mapTo (predAt 3 a b c) j).length ≤ 1099511627776 from by rw [length_mapTo]; omega)
          clear hpv hpi hjn hMe
          go_wp2_with fail
          go_quiet (fail)
          rename_i nq
          have j5 : Below wr.heap.size wr (wr.drewN nq) := below_drewN' (Below.refl _ _) nq
          have g5 : Below w.heap.size w (wr.drewN nq) := ext hbr j5
          have HO5 := Lib.hid (HO2.out.ext j5)
          have RE5 := Lib.hid (RE2.out.ext j5)
          have l5 := RE5.out.lt
          generalize hq5 : wr.drewN nq = w5 at *
          clear hq5 j5 HO2 RE2 ca cb hbr hDe
          go_wp2_with fail
          refine (rclip_any _ _).mono ?_
          rintro e w6 ⟨rfl, rfl⟩
          go_wp2_with (at_builtin; refine wpList_app1 rfl (.tmp 115) (.tmp 117) rfl (w.heap.size + 1) _ _ (clipV (q + p - c)) rfl HO5.out rfl (by simp) HI5.out Hlen.out (by have := g5.size; have := RE5.out.lt; omega) ?_)
          intro v' w' hown' hb' _
          have HP := Lib.hid (show OwnInts w' (w.heap.size + 1) v' (mapTo (predAt 3 a b c) (j + 1)) from by rw [HMS.out, HPV5.out]; exact hown')
          have RE6 := Lib.hid (RE5.out.below hb' (by omega))
          have g6 : Below w.heap.size w w' := g5.trans (hb'.mono (by omega))
          clear hown' HO5
          go_wp2
          go_roundw
          case rel => exact ⟨j + 1, by omega, by go_num, HP.out, g6, RE6.out⟩
          case measure => simp [intOf]; omega
        · have e : j = NN := by omega
          have HS := Lib.hid (show OwnInts wr (w.heap.size + 1) _ (mapTo (predAt 3 a b c) NN) from by rw [e] at HO2; exact HO2.out)
          obtain ⟨va, vc, rfl⟩ := HS.out.shape
          obtain ⟨r0, r1, r2, r3⟩ := RE2.out.two
          have hvl : (mapTo (predAt 3 a b c) NN).length = NN := length_mapTo ..
          rw [hvl] at HS ⊢
          clear e HO2 hvl
          go_wp2
          refine bodyPost_ret (by simp [results, Tryd.results13, go_sem, r0, r1, r2, r3]; try rfl) rfl ?_
          exact ⟨_, rfl, ((HS.out.setOther (by simp) _).setOther (by simp) _).mono (by omega), by go_grown⟩

theorem rpredict_ok (m : Int) (tv lv : Value) (a b : List Int) (c : Int) (w : World) (hv : Ints w tv a) (hu : Ints w lv b) (he : edgeE a b c = 0) (hm : 0 ≤ m ∧ m ≤ 3) :
    Calls Tryd.prog 13 #[.int .i64 m, tv, lv, .int .i64 c] w fun e w' => ∃ v', e = .returned (.tuple #[v', .agg #[.int .i64 0, .slice none 0 0]]) ∧ OwnInts w' w.heap.size v' (predV m a b c) ∧ Below w.heap.size w w' := by
  rcases (edgeE_zero he).1 with hq | hq
  · rcases (show m = 0 ∨ m = 1 ∨ m = 2 ∨ m = 3 by omega) with rfl | rfl | rfl | rfl
    · exact rpred0_4 tv lv a b c w hv hu he hq
    · exact rpred1_4 tv lv a b c w hv hu he hq
    · exact rpred2_4 tv lv a b c w hv hu he hq
    · exact rpred3_4 tv lv a b c w hv hu he hq
  · rcases (show m = 0 ∨ m = 1 ∨ m = 2 ∨ m = 3 by omega) with rfl | rfl | rfl | rfl
    · exact rpred0_8 tv lv a b c w hv hu he hq
    · exact rpred1_8 tv lv a b c w hv hu he hq
    · exact rpred2_8 tv lv a b c w hv hu he hq
    · exact rpred3_8 tv lv a b c w hv hu he hq
theorem predE_ok {m : Int} {a b : List Int} {c : Int} (h : predE m a b c = 0) : edgeE a b c = 0 ∧ 0 ≤ m ∧ m ≤ 3 := by
  unfold predE at h
  split at h
  · omega
  · exact ⟨h, by omega, by omega⟩
theorem predE_of {m : Int} {a b : List Int} {c : Int} (h : edgeE a b c = 0) (h0 : 0 ≤ m) (h3 : m ≤ 3) : predE m a b c = 0 := by
  unfold predE; rw [if_neg (by omega)]; exact h
theorem rpredict_any (m : Int) (tv lv : Value) (a b : List Int) (c : Int) (w : World) (hv : Ints w tv a) (hu : Ints w lv b) :
    Calls Tryd.prog 13 #[.int .i64 m, tv, lv, .int .i64 c] w fun e w' => ∃ v', e = .returned (.tuple #[v', .agg #[.int .i64 (predE m a b c), .slice none 0 0]]) ∧ OwnInts w' w.heap.size v' (predL m a b c) ∧ Below w.heap.size w w' := by
  unfold predL
  by_cases he : predE m a b c = 0
  · rw [okL_zero he, he]
    obtain ⟨h1, h2, h3⟩ := predE_ok he
    exact rpredict_ok m tv lv a b c w hv hu h1 ⟨h2, h3⟩
  · rw [okL_ne he]
    refine (rpredict_no m tv lv a b c w hv hu he).mono ?_
    rintro e w1 ⟨rfl, hb⟩
    exact ⟨_, rfl, OwnInts.nil _ _, hb⟩

end Go.Proofs.YtammgbohaaiicaaDoor
