/- kinlaw10.IntraTurned: the walk. -/
import Derived.Test.YtammgbohaaiicaaDoorIntraG
set_option linter.unusedSimpArgs false
set_option linter.unusedVariables false
namespace Go.Proofs.YtammgbohaaiicaaDoor
open Go.RowKit Go.Extern.Stop Go.Stop Go.Extern

set_option maxRecDepth 100000 in
set_option maxHeartbeats 8000000 in
theorem turned_w0 (tv lv : Value) (a b : List Int) (c : Int) (w : World) (hv : Ints w tv a) (hu : Ints w lv b) (hg : TypeIs w)  (h0 : 5000 < a.length) :
    Calls Tryd.prog 5 #[tv, lv, .int .i64 c] w fun e w' => e = .returned (.bool true) ∧ Below w.heap.size w w' := by
  have HG := Lib.hid hg
  obtain ⟨ao0, cap0, rfl⟩ := hv.shape
  obtain ⟨ao1, cap1, rfl⟩ := hu.shape
  clear hg hv hu
  go_enter Tryd.func5, Tryd.ntmps5
  have g0 : Below w.heap.size w w := Below.refl _ _
  go_wp2_with fail
  refine (first_any _ (HG.out.ext (by go_grown))).mono ?_
  rintro e w1 ⟨rfl, hb1⟩
  have j1 : Below w.heap.size w w1 := ext (by go_grown) hb1
  have g1 : Below w.heap.size w w1 := ext g0 j1
  have s1 := j1.size
  have t1 := g1.size
  go_wp2_with fail
  refine (first_any _ ((HG.out.ext j1).ext (by go_grown))).mono ?_
  rintro e w2 ⟨rfl, hb2⟩
  have j2 : Below w1.heap.size w1 w2 := ext (by go_grown) hb2
  have g2 : Below w.heap.size w w2 := ext g1 j2
  have s2 := j2.size
  have t2 := g2.size
  go_wp2
  all_goals go_returns
  all_goals exact ⟨by first | rfl | (simp; done) | (simp; omega), g2⟩

set_option maxRecDepth 100000 in
set_option maxHeartbeats 8000000 in
theorem turned_w1 (tv lv : Value) (a b : List Int) (c : Int) (w : World) (hv : Ints w tv a) (hu : Ints w lv b) (hg : TypeIs w) (h0 : a.length ≤ 5000) (h1 : 5000 < b.length) :
    Calls Tryd.prog 5 #[tv, lv, .int .i64 c] w fun e w' => e = .returned (.bool true) ∧ Below w.heap.size w w' := by
  have HG := Lib.hid hg
  obtain ⟨ao0, cap0, rfl⟩ := hv.shape
  obtain ⟨ao1, cap1, rfl⟩ := hu.shape
  clear hg hv hu
  go_enter Tryd.func5, Tryd.ntmps5
  have g0 : Below w.heap.size w w := Below.refl _ _
  go_wp2_with fail
  refine (first_any _ (HG.out.ext (by go_grown))).mono ?_
  rintro e w1 ⟨rfl, hb1⟩
  have j1 : Below w.heap.size w w1 := ext (by go_grown) hb1
  have g1 : Below w.heap.size w w1 := ext g0 j1
  have s1 := j1.size
  have t1 := g1.size
  go_wp2_with fail
  refine (first_any _ ((HG.out.ext j1).ext (by go_grown))).mono ?_
  rintro e w2 ⟨rfl, hb2⟩
  have j2 : Below w1.heap.size w1 w2 := ext (by go_grown) hb2
  have g2 : Below w.heap.size w w2 := ext g1 j2
  have s2 := j2.size
  have t2 := g2.size
  go_wp2
  all_goals go_returns
  all_goals exact ⟨by first | rfl | (simp; done) | (simp; omega), g2⟩

set_option maxRecDepth 100000 in
set_option maxHeartbeats 8000000 in
theorem turned_no (tv lv : Value) (a b : List Int) (c : Int) (w : World) (hv : Ints w tv a) (hu : Ints w lv b) (hg : TypeIs w) (h0 : a.length ≤ 5000) (h1 : b.length ≤ 5000) (hz : edgeE a b c ≠ 0) :
    Calls Tryd.prog 5 #[tv, lv, .int .i64 c] w fun e w' => e = .returned (.bool true) ∧ Below w.heap.size w w' := by
  have HG := Lib.hid hg
  have C1 := Lib.hid (show ∀ (m : Int), 0 ≤ m → m ≤ 3 → ∀ w, Ints w tv a → Ints w lv b → Calls Tryd.prog 12 #[.int .i64 m, tv, lv, .int .i64 c] w fun e w' => ∃ ao cap, e = .returned (.tuple #[.slice ao 0 cap, errV (edgeE a b c)]) ∧ Below w.heap.size w w' from fun m m0 m3 w h1 h2 => by
    have h := ppredict_any m tv lv a b c w h1 h2
    have e : predE m a b c = edgeE a b c := by unfold predE; rw [if_neg (by omega)]
    have e2 : predL m a b c = [] := by unfold predL; rw [okL_ne (by rw [e]; exact hz)]
    rw [e, e2] at h
    exact h.mono fun e w' ⟨v', he, ho, hb⟩ => by obtain ⟨ao, cap, rfl⟩ := ho.shape; exact ⟨ao, cap, he, hb⟩)
  have C2 := Lib.hid (show ∀ (m : Int), 0 ≤ m → m ≤ 3 → ∀ w, Ints w tv a → Ints w lv b → Calls Tryd.prog 12 #[.int .i64 m, lv, tv, .int .i64 c] w fun e w' => ∃ ao cap, e = .returned (.tuple #[.slice ao 0 cap, errV (edgeE a b c)]) ∧ Below w.heap.size w w' from fun m m0 m3 w h1 h2 => by
    have h := ppredict_any m lv tv b a c w h2 h1
    have e : predE m b a c = edgeE a b c := by unfold predE; rw [if_neg (by omega), edgeE_swap]
    have e2 : predL m b a c = [] := by unfold predL; rw [okL_ne (by rw [e]; exact hz)]
    rw [e, e2] at h
    exact h.mono fun e w' ⟨v', he, ho, hb⟩ => by obtain ⟨ao, cap, rfl⟩ := ho.shape; exact ⟨ao, cap, he, hb⟩)
  have hk : (edgeE a b c == 0) = false := by simpa using hz
  have HV := Lib.hid hv
  have HU := Lib.hid hu
  obtain ⟨ao0, cap0, rfl⟩ := hv.shape
  obtain ⟨ao1, cap1, rfl⟩ := hu.shape
  clear hg hv hu
  generalize edgeE a b c = k0 at *
  clear hz
  go_enter Tryd.func5, Tryd.ntmps5
  go_wp2_with fail
  refine (first_any _ (HG.out.ext (by go_grown))).mono ?_
  rintro e w1 ⟨rfl, hb1⟩
  have g1 : Below w.heap.size w w1 := ext (by go_grown) hb1
  go_wp2
  go_loopw [8] (fun i wr => ∃ m : Nat, m ≤ 4 ∧ i = .int .i64 m ∧ Below w.heap.size w wr) (fun i _ => 4 - (intOf i).toNat)
  case atStart => exact ⟨0, Nat.zero_le _, rfl, g1⟩
  case round =>
    clear g1 hb1
    obtain ⟨m, hm, rfl, hbr⟩ := hrel
    obtain ⟨wo, rfl⟩ : ∃ wo : World, wo = wr := ⟨_, rfl⟩
    have g0 := hbr
    clear hbr
    by_cases hlt : m < 4
    · have q4 : decide ((m : Int) < 4) = true := by simp; omega
      by_cases m1 : m = 1
      · subst m1
        go_wp2_with fail
        refine (C1.out 1 (by omega) (by omega) _ (HV.out.ext g0) (HU.out.ext g0)).mono ?_
        rintro e w2 ⟨xo, xc, rfl, hb2⟩
        have g2 : Below w.heap.size w w2 := ext g0 hb2
        go_wp2_with fail
        refine (C2.out 2 (by omega) (by omega) _ (HV.out.ext g2) (HU.out.ext g2)).mono ?_
        rintro e w3 ⟨yo, yc, rfl, hb3⟩
        have g3 : Below w.heap.size w w3 := ext g2 hb3
        go_wp2_with fail
        go_quiet (fail)
        go_wp2
        refine wp_loop_rounds 1 ?_
        rw [rounds_succ]
        go_wp2
        go_roundw
        case rel => exact ⟨1 + 1, by omega, by go_num, by first | exact g3 | exact below_drewN' g3 _⟩
        case measure => simp [intOf]; try omega
      · by_cases m2 : m = 2
        · subst m2
          go_wp2_with fail
          refine (C1.out 2 (by omega) (by omega) _ (HV.out.ext g0) (HU.out.ext g0)).mono ?_
          rintro e w2 ⟨xo, xc, rfl, hb2⟩
          have g2 : Below w.heap.size w w2 := ext g0 hb2
          go_wp2_with fail
          refine (C2.out 1 (by omega) (by omega) _ (HV.out.ext g2) (HU.out.ext g2)).mono ?_
          rintro e w3 ⟨yo, yc, rfl, hb3⟩
          have g3 : Below w.heap.size w w3 := ext g2 hb3
          go_wp2_with fail
          go_quiet (fail)
          go_wp2
          refine wp_loop_rounds 1 ?_
          rw [rounds_succ]
          go_wp2
          go_roundw
          case rel => exact ⟨2 + 1, by omega, by go_num, by first | exact g3 | exact below_drewN' g3 _⟩
          case measure => simp [intOf]; try omega
        · have r1 : ((m : Int) == 1) = false := by simp; omega
          have r2 : ((m : Int) == 2) = false := by simp; omega
          go_wp2_with fail
          refine (C1.out m (by omega) (by omega) _ (HV.out.ext g0) (HU.out.ext g0)).mono ?_
          rintro e w2 ⟨xo, xc, rfl, hb2⟩
          have g2 : Below w.heap.size w w2 := ext g0 hb2
          go_wp2_with fail
          refine (C2.out m (by omega) (by omega) _ (HV.out.ext g2) (HU.out.ext g2)).mono ?_
          rintro e w3 ⟨yo, yc, rfl, hb3⟩
          have g3 : Below w.heap.size w w3 := ext g2 hb3
          go_wp2_with fail
          go_quiet (fail)
          go_wp2
          refine wp_loop_rounds 1 ?_
          rw [rounds_succ]
          go_wp2
          go_roundw
          case rel => exact ⟨m + 1, by omega, by go_num, by first | exact g3 | exact below_drewN' g3 _⟩
          case measure => simp [intOf]; try omega
    · obtain rfl : m = 4 := by omega
      go_wp2_with fail
      refine (first_any _ (HG.out.ext g0)).mono ?_
      rintro e w6 ⟨rfl, hb6⟩
      have g6 : Below w.heap.size w w6 := ext g0 hb6
      go_wp2
      go_returns
      exact ⟨rfl, g6⟩

set_option maxRecDepth 100000 in
set_option maxHeartbeats 8000000 in
theorem turned_sq (tv lv : Value) (a b : List Int) (c : Int) (w : World) (hv : Ints w tv a) (hu : Ints w lv b) (hg : TypeIs w) (h0 : a.length ≤ 5000) (h1 : b.length ≤ 5000) (hz : edgeE a b c = 0) :
    Calls Tryd.prog 5 #[tv, lv, .int .i64 c] w fun e w' => e = .returned (.bool true) ∧ Below w.heap.size w w' := by
  have HG := Lib.hid hg
  obtain ⟨hn0, hab, -, -, -, -⟩ := edgeE_zero hz
  have C1 := Lib.hid (show ∀ (m : Int), 0 ≤ m → m ≤ 3 → ∀ w, Ints w tv a → Ints w lv b → Calls Tryd.prog 12 #[.int .i64 m, tv, lv, .int .i64 c] w fun e w' => ∃ v', e = .returned (.tuple #[v', .nilIface]) ∧ OwnInts w' w.heap.size v' (predV m a b c) ∧ Below w.heap.size w w' from fun m m0 m3 w h1 h2 => by
    have h := ppredict_any m tv lv a b c w h1 h2
    have e : predE m a b c = 0 := predE_of hz m0 m3
    have e2 : predL m a b c = predV m a b c := by unfold predL; rw [okL_zero e]
    rw [e, e2] at h
    exact h)
  have C2 := Lib.hid (show ∀ (m : Int), 0 ≤ m → m ≤ 3 → ∀ w, Ints w tv a → Ints w lv b → Calls Tryd.prog 12 #[.int .i64 m, lv, tv, .int .i64 c] w fun e w' => ∃ v', e = .returned (.tuple #[v', .nilIface]) ∧ OwnInts w' w.heap.size v' (predV m b a c) ∧ Below w.heap.size w w' from fun m m0 m3 w h1 h2 => by
    have h := ppredict_any m lv tv b a c w h2 h1
    have e : predE m b a c = 0 := predE_of (by rw [edgeE_swap]; exact hz) m0 m3
    have e2 : predL m b a c = predV m b a c := by unfold predL; rw [okL_zero e]
    rw [e, e2] at h
    exact h)
  have HT := Lib.hid (show ∀ (m : Int), 0 ≤ m → m ≤ 3 → ∀ k, k < a.length * a.length → (predV m a b c).getD k 0 = (predV (otherMode m) b a c).getD (k % a.length * a.length + k / a.length) 0 from fun m m0 m3 k hk => pred_turned hab ⟨m0, m3⟩ (by omega) hk)
  have HL1 := Lib.hid (fun m => length_predV m a b c)
  have HL2 := Lib.hid (fun m => (length_predV m b a c).trans (by rw [hab]))
  have HV := Lib.hid hv
  have HU := Lib.hid hu
  obtain ⟨ao0, cap0, rfl⟩ := hv.shape
  obtain ⟨ao1, cap1, rfl⟩ := hu.shape
  clear hg hv hu
  obtain ⟨N, hN⟩ : ∃ N, a.length = N := ⟨_, rfl⟩
  have hn8 : N ≤ 8 := by omega
  have hn4 : 4 ≤ N := by omega
  rw [hN] at HT HL1 HL2 HV C1 C2 ⊢
  obtain ⟨NN, hNN⟩ : ∃ NN, N * N = NN := ⟨_, rfl⟩
  have hNN2 : NN ≤ 64 := by rw [← hNN]; exact Nat.mul_le_mul hn8 hn8
  have HNN := Lib.hid hNN
  rw [hNN] at HT HL1 HL2
  have hn00 : ¬ (N : Int) = 0 := by omega
  have hn01 : ¬ N = 0 := by omega
  have qn0 : ((N : Int) == 0) = false := by simp; omega
  have hn1i : 1 ≤ (N : Int) := by omega
  clear hn0 hab hz hN hNN
  go_enter Tryd.func5, Tryd.ntmps5
  go_wp2_with fail
  refine (first_any _ (HG.out.ext (by go_grown))).mono ?_
  rintro e w1 ⟨rfl, hb1⟩
  have g1 : Below w.heap.size w w1 := ext (by go_grown) hb1
  go_wp2
  go_loopw [8] (fun i wr => ∃ m : Nat, m ≤ 4 ∧ i = .int .i64 m ∧ Below w.heap.size w wr) (fun i _ => 4 - (intOf i).toNat)
  case atStart => exact ⟨0, Nat.zero_le _, rfl, g1⟩
  case round =>
    clear g1 hb1
    obtain ⟨m, hm, rfl, hbr⟩ := hrel
    obtain ⟨wo, rfl⟩ : ∃ wo : World, wo = wr := ⟨_, rfl⟩
    have g0 := hbr
    clear hbr
    by_cases hlt : m < 4
    · have q4 : decide ((m : Int) < 4) = true := by simp; omega
      by_cases m1 : m = 1
      · subst m1
        have HTm := Lib.hid (HT.out 1 (by omega) (by omega))
        rw [show otherMode (1 : Int) = 2 from by unfold otherMode; rfl] at HTm
        have hl1 := HL1.out (1 : Int)
        have hl2 := HL2.out (2 : Int)
        have C1m := Lib.hid (C1.out 1 (by omega) (by omega))
        have C2m := Lib.hid (C2.out 2 (by omega) (by omega))
        generalize predV (1 : Int) a b c = xs at *
        generalize predV (2 : Int) b a c = ys at *
        have Hl1 := Lib.hid hl1
        have Hl2 := Lib.hid hl2
        clear hl1 hl2
        go_wp2_with fail
        refine (C1m.out _ (HV.out.ext g0) (HU.out.ext g0)).mono ?_
        rintro e w2 ⟨v1, rfl, hx, hb2⟩
        have g2 : Below w.heap.size w w2 := ext g0 hb2
        obtain ⟨xo, xc, rfl⟩ := hx.shape
        have HX := Lib.hid hx.ints
        clear hx
        rw [Hl1.out] at HX ⊢
        go_wp2_with fail
        refine (C2m.out _ (HV.out.ext g2) (HU.out.ext g2)).mono ?_
        rintro e w3 ⟨v2, rfl, hy, hb3⟩
        have g3 : Below w.heap.size w w3 := ext g2 hb3
        obtain ⟨yo, yc, rfl⟩ := hy.shape
        have HY := Lib.hid hy.ints
        have HX3 := Lib.hid (HX.out.ext hb3)
        clear hy HX hb2 hb3
        rw [Hl2.out] at HY ⊢
        have qnn : ((NN : Int) != (NN : Int)) = false := by simp
        go_wp2_with fail
        go_quiet (fail)
        rename_i nq
        have j4 : Below w3.heap.size w3 (w3.drewN nq) := below_drewN' (Below.refl _ _) nq
        have g4 : Below w.heap.size w (w3.drewN nq) := ext g3 j4
        have HX4 := Lib.hid (HX3.out.ext j4)
        have HY4 := Lib.hid (HY.out.ext j4)
        generalize hq4 : w3.drewN nq = w4 at *
        clear hq4 j4 HX3 HY
        go_wp2
        go_loopw [14] (fun i wr => ∃ k : Nat, k ≤ NN ∧ i = .int .i64 k ∧ Below w4.heap.size w4 wr) (fun i _ => NN - (intOf i).toNat)
        case atStart => exact ⟨0, Nat.zero_le _, rfl, Below.refl _ _⟩
        case round =>
          obtain ⟨k, hk, rfl, hbr⟩ := hrel
          by_cases hlk : k < NN
          · have hkn : k < N * N := by rw [HNN.out]; exact hlk
            have hM := Nat.mod_lt k (show 0 < N by omega)
            have hD : k / N < N := Nat.div_lt_of_lt_mul hkn
            have heq := HTm.out k hlk
            have hJn : k % N * N + k / N < NN := by rw [← HNN.out]; exact Nat.lt_of_lt_of_le (Nat.add_lt_add_left hD _) (by rw [← Nat.succ_mul]; exact Nat.mul_le_mul_right _ hM)
            obtain ⟨M, hMe⟩ : ∃ M, k % N = M := ⟨_, rfl⟩
            obtain ⟨D, hDe⟩ : ∃ D, k / N = D := ⟨_, rfl⟩
            obtain ⟨P, hPe⟩ : ∃ P, M * N = P := ⟨_, rfl⟩
            obtain ⟨J, hJe⟩ : ∃ J, P + D = J := ⟨_, rfl⟩
            rw [hMe, hDe, hPe, hJe] at heq hJn
            have qD : (k : Int) / (N : Int) = (D : Nat) := by rw [← hDe]; simp
            have qR : (k : Int) % (N : Int) = (M : Nat) := by rw [← hMe]; simp
            have qDw : IntKind.i64.wrap (D : Int) = (D : Nat) := IntWalk.i64_in _ (by omega)
            have qT : Int.tmod (k : Int) N = (M : Nat) := by rw [← hMe, Int.tmod_eq_emod_of_nonneg (by omega)]; simp
            have qP : IntKind.i64.wrap ((M : Int) * N) = (P : Nat) := wrap_mulI (by rw [← hPe]; simp) (by omega)
            have qJ : IntKind.i64.wrap ((P : Int) + D) = (J : Nat) := by rw [IntWalk.i64_in _ (by omega), ← hJe]; simp
            obtain ⟨b1, o1, rfl, ca, lb1⟩ := (HX4.out.ext hbr).cellN (j := k) (by rw [Hl1.out]; exact hlk)
            obtain ⟨b2, o2, rfl, cb, lb2⟩ := (HY4.out.ext hbr).cellN (j := J) (by rw [Hl2.out]; exact hJn)
            rw [heq] at ca
            generalize ys.getD J 0 = z at *
            have qz : (z != z) = false := by simp
            clear heq hMe hDe hPe hJe hkn
            go_wp2_with fail
            go_quiet (fail)
            go_wp2
            go_roundw
            case rel => exact ⟨k + 1, by omega, by go_num, by first | exact hbr | exact below_drewN' hbr _⟩
            case measure => simp [intOf]; omega
          · obtain rfl : k = NN := by omega
            go_wp2
            go_roundw
            case rel => exact ⟨1 + 1, by omega, by go_num, ext g4 hbr⟩
            case measure => simp [intOf]; try omega
      · by_cases m2 : m = 2
        · subst m2
          have HTm := Lib.hid (HT.out 2 (by omega) (by omega))
          rw [show otherMode (2 : Int) = 1 from by unfold otherMode; rfl] at HTm
          have hl1 := HL1.out (2 : Int)
          have hl2 := HL2.out (1 : Int)
          have C1m := Lib.hid (C1.out 2 (by omega) (by omega))
          have C2m := Lib.hid (C2.out 1 (by omega) (by omega))
          generalize predV (2 : Int) a b c = xs at *
          generalize predV (1 : Int) b a c = ys at *
          have Hl1 := Lib.hid hl1
          have Hl2 := Lib.hid hl2
          clear hl1 hl2
          go_wp2_with fail
          refine (C1m.out _ (HV.out.ext g0) (HU.out.ext g0)).mono ?_
          rintro e w2 ⟨v1, rfl, hx, hb2⟩
          have g2 : Below w.heap.size w w2 := ext g0 hb2
          obtain ⟨xo, xc, rfl⟩ := hx.shape
          have HX := Lib.hid hx.ints
          clear hx
          rw [Hl1.out] at HX ⊢
          go_wp2_with fail
          refine (C2m.out _ (HV.out.ext g2) (HU.out.ext g2)).mono ?_
          rintro e w3 ⟨v2, rfl, hy, hb3⟩
          have g3 : Below w.heap.size w w3 := ext g2 hb3
          obtain ⟨yo, yc, rfl⟩ := hy.shape
          have HY := Lib.hid hy.ints
          have HX3 := Lib.hid (HX.out.ext hb3)
          clear hy HX hb2 hb3
          rw [Hl2.out] at HY ⊢
          have qnn : ((NN : Int) != (NN : Int)) = false := by simp
          go_wp2_with fail
          go_quiet (fail)
          rename_i nq
          have j4 : Below w3.heap.size w3 (w3.drewN nq) := below_drewN' (Below.refl _ _) nq
          have g4 : Below w.heap.size w (w3.drewN nq) := ext g3 j4
          have HX4 := Lib.hid (HX3.out.ext j4)
          have HY4 := Lib.hid (HY.out.ext j4)
          generalize hq4 : w3.drewN nq = w4 at *
          clear hq4 j4 HX3 HY
          go_wp2
          go_loopw [14] (fun i wr => ∃ k : Nat, k ≤ NN ∧ i = .int .i64 k ∧ Below w4.heap.size w4 wr) (fun i _ => NN - (intOf i).toNat)
          case atStart => exact ⟨0, Nat.zero_le _, rfl, Below.refl _ _⟩
          case round =>
            obtain ⟨k, hk, rfl, hbr⟩ := hrel
            by_cases hlk : k < NN
            · have hkn : k < N * N := by rw [HNN.out]; exact hlk
              have hM := Nat.mod_lt k (show 0 < N by omega)
              have hD : k / N < N := Nat.div_lt_of_lt_mul hkn
              have heq := HTm.out k hlk
              have hJn : k % N * N + k / N < NN := by rw [← HNN.out]; exact Nat.lt_of_lt_of_le (Nat.add_lt_add_left hD _) (by rw [← Nat.succ_mul]; exact Nat.mul_le_mul_right _ hM)
              obtain ⟨M, hMe⟩ : ∃ M, k % N = M := ⟨_, rfl⟩
              obtain ⟨D, hDe⟩ : ∃ D, k / N = D := ⟨_, rfl⟩
              obtain ⟨P, hPe⟩ : ∃ P, M * N = P := ⟨_, rfl⟩
              obtain ⟨J, hJe⟩ : ∃ J, P + D = J := ⟨_, rfl⟩
              rw [hMe, hDe, hPe, hJe] at heq hJn
              have qD : (k : Int) / (N : Int) = (D : Nat) := by rw [← hDe]; simp
              have qR : (k : Int) % (N : Int) = (M : Nat) := by rw [← hMe]; simp
              have qDw : IntKind.i64.wrap (D : Int) = (D : Nat) := IntWalk.i64_in _ (by omega)
              have qT : Int.tmod (k : Int) N = (M : Nat) := by rw [← hMe, Int.tmod_eq_emod_of_nonneg (by omega)]; simp
              have qP : IntKind.i64.wrap ((M : Int) * N) = (P : Nat) := wrap_mulI (by rw [← hPe]; simp) (by omega)
              have qJ : IntKind.i64.wrap ((P : Int) + D) = (J : Nat) := by rw [IntWalk.i64_in _ (by omega), ← hJe]; simp
              obtain ⟨b1, o1, rfl, ca, lb1⟩ := (HX4.out.ext hbr).cellN (j := k) (by rw [Hl1.out]; exact hlk)
              obtain ⟨b2, o2, rfl, cb, lb2⟩ := (HY4.out.ext hbr).cellN (j := J) (by rw [Hl2.out]; exact hJn)
              rw [heq] at ca
              generalize ys.getD J 0 = z at *
              have qz : (z != z) = false := by simp
              clear heq hMe hDe hPe hJe hkn
              go_wp2_with fail
              go_quiet (fail)
              go_wp2
              go_roundw
              case rel => exact ⟨k + 1, by omega, by go_num, by first | exact hbr | exact below_drewN' hbr _⟩
              case measure => simp [intOf]; omega
            · obtain rfl : k = NN := by omega
              go_wp2
              go_roundw
              case rel => exact ⟨2 + 1, by omega, by go_num, ext g4 hbr⟩
              case measure => simp [intOf]; try omega
        · have r1 : ((m : Int) == 1) = false := by simp; omega
          have r2 : ((m : Int) == 2) = false := by simp; omega
          have HTm := Lib.hid (HT.out m (by omega) (by omega))
          rw [show otherMode (m : Int) = m from by unfold otherMode; rw [if_neg (by omega)]] at HTm
          have hl1 := HL1.out (m : Int)
          have hl2 := HL2.out (m : Int)
          have C1m := Lib.hid (C1.out m (by omega) (by omega))
          have C2m := Lib.hid (C2.out m (by omega) (by omega))
          generalize predV (m : Int) a b c = xs at *
          generalize predV (m : Int) b a c = ys at *
          have Hl1 := Lib.hid hl1
          have Hl2 := Lib.hid hl2
          clear hl1 hl2
          go_wp2_with fail
          refine (C1m.out _ (HV.out.ext g0) (HU.out.ext g0)).mono ?_
          rintro e w2 ⟨v1, rfl, hx, hb2⟩
          have g2 : Below w.heap.size w w2 := ext g0 hb2
          obtain ⟨xo, xc, rfl⟩ := hx.shape
          have HX := Lib.hid hx.ints
          clear hx
          rw [Hl1.out] at HX ⊢
          go_wp2_with fail
          refine (C2m.out _ (HV.out.ext g2) (HU.out.ext g2)).mono ?_
          rintro e w3 ⟨v2, rfl, hy, hb3⟩
          have g3 : Below w.heap.size w w3 := ext g2 hb3
          obtain ⟨yo, yc, rfl⟩ := hy.shape
          have HY := Lib.hid hy.ints
          have HX3 := Lib.hid (HX.out.ext hb3)
          clear hy HX hb2 hb3
          rw [Hl2.out] at HY ⊢
          have qnn : ((NN : Int) != (NN : Int)) = false := by simp
          go_wp2_with fail
          go_quiet (fail)
          rename_i nq
          have j4 : Below w3.heap.size w3 (w3.drewN nq) := below_drewN' (Below.refl _ _) nq
          have g4 : Below w.heap.size w (w3.drewN nq) := ext g3 j4
          have HX4 := Lib.hid (HX3.out.ext j4)
          have HY4 := Lib.hid (HY.out.ext j4)
          generalize hq4 : w3.drewN nq = w4 at *
          clear hq4 j4 HX3 HY
          go_wp2
          go_loopw [14] (fun i wr => ∃ k : Nat, k ≤ NN ∧ i = .int .i64 k ∧ Below w4.heap.size w4 wr) (fun i _ => NN - (intOf i).toNat)
          case atStart => exact ⟨0, Nat.zero_le _, rfl, Below.refl _ _⟩
          case round =>
            obtain ⟨k, hk, rfl, hbr⟩ := hrel
            by_cases hlk : k < NN
            · have hkn : k < N * N := by rw [HNN.out]; exact hlk
              have hM := Nat.mod_lt k (show 0 < N by omega)
              have hD : k / N < N := Nat.div_lt_of_lt_mul hkn
              have heq := HTm.out k hlk
              have hJn : k % N * N + k / N < NN := by rw [← HNN.out]; exact Nat.lt_of_lt_of_le (Nat.add_lt_add_left hD _) (by rw [← Nat.succ_mul]; exact Nat.mul_le_mul_right _ hM)
              obtain ⟨M, hMe⟩ : ∃ M, k % N = M := ⟨_, rfl⟩
              obtain ⟨D, hDe⟩ : ∃ D, k / N = D := ⟨_, rfl⟩
              obtain ⟨P, hPe⟩ : ∃ P, M * N = P := ⟨_, rfl⟩
              obtain ⟨J, hJe⟩ : ∃ J, P + D = J := ⟨_, rfl⟩
              rw [hMe, hDe, hPe, hJe] at heq hJn
              have qD : (k : Int) / (N : Int) = (D : Nat) := by rw [← hDe]; simp
              have qR : (k : Int) % (N : Int) = (M : Nat) := by rw [← hMe]; simp
              have qDw : IntKind.i64.wrap (D : Int) = (D : Nat) := IntWalk.i64_in _ (by omega)
              have qT : Int.tmod (k : Int) N = (M : Nat) := by rw [← hMe, Int.tmod_eq_emod_of_nonneg (by omega)]; simp
              have qP : IntKind.i64.wrap ((M : Int) * N) = (P : Nat) := wrap_mulI (by rw [← hPe]; simp) (by omega)
              have qJ : IntKind.i64.wrap ((P : Int) + D) = (J : Nat) := by rw [IntWalk.i64_in _ (by omega), ← hJe]; simp
              obtain ⟨b1, o1, rfl, ca, lb1⟩ := (HX4.out.ext hbr).cellN (j := k) (by rw [Hl1.out]; exact hlk)
              obtain ⟨b2, o2, rfl, cb, lb2⟩ := (HY4.out.ext hbr).cellN (j := J) (by rw [Hl2.out]; exact hJn)
              rw [heq] at ca
              generalize ys.getD J 0 = z at *
              have qz : (z != z) = false := by simp
              clear heq hMe hDe hPe hJe hkn
              go_wp2_with fail
              go_quiet (fail)
              go_wp2
              go_roundw
              case rel => exact ⟨k + 1, by omega, by go_num, by first | exact hbr | exact below_drewN' hbr _⟩
              case measure => simp [intOf]; omega
            · obtain rfl : k = NN := by omega
              go_wp2
              go_roundw
              case rel => exact ⟨m + 1, by omega, by go_num, ext g4 hbr⟩
              case measure => simp [intOf]; try omega
    · obtain rfl : m = 4 := by omega
      go_wp2_with fail
      refine (first_any _ (HG.out.ext g0)).mono ?_
      rintro e w6 ⟨rfl, hb6⟩
      have g6 : Below w.heap.size w w6 := ext g0 hb6
      go_wp2
      go_returns
      exact ⟨rfl, g6⟩

theorem turned_ok (tv lv : Value) (a b : List Int) (c : Int) (w : World) (hv : Ints w tv a) (hu : Ints w lv b) (hg : TypeIs w) (h0 : a.length ≤ 5000) (h1 : b.length ≤ 5000) :
    Calls Tryd.prog 5 #[tv, lv, .int .i64 c] w fun e w' => e = .returned (.bool true) ∧ Below w.heap.size w w' := by
  by_cases hz : edgeE a b c = 0
  · exact turned_sq tv lv a b c w hv hu hg h0 h1 hz
  · exact turned_no tv lv a b c w hv hu hg h0 h1 hz

theorem turned_walk (tv lv : Value) (a b : List Int) (c : Int) (w : World) (hv : Ints w tv a) (hu : Ints w lv b) (hg : TypeIs w) :
    Calls Tryd.prog 5 #[tv, lv, .int .i64 c] w fun e w' => e = .returned (.bool true) ∧ Below w.heap.size w w' := by
  by_cases h0 : a.length ≤ 5000
  · by_cases h1 : b.length ≤ 5000
    · exact turned_ok tv lv a b c w hv hu hg h0 h1
    · exact turned_w1 tv lv a b c w hv hu hg h0 (by omega)
  · exact turned_w0 tv lv a b c w hv hu hg  (by omega)
end Go.Proofs.YtammgbohaaiicaaDoor
