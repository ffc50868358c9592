/- kinlaw10.IntraLeast: the walk. -/
import Derived.Test.YtammgbohaaiicaaDoorIntraG
set_option linter.unusedSimpArgs false
set_option linter.unusedVariables false
namespace Go.Proofs.YtammgbohaaiicaaDoor
open Go.RowKit Go.Extern.Stop Go.Stop Go.Extern

theorem best_self {m : Int} {a b : List Int} {c : Int} (h : predE m a b c = 0) : bestE (predV m a b c) a b c = 0 ∧ ∃ k : Nat, (k : Int) ≤ m ∧ bestTo (costK (predV m a b c) a b c) 4 = ((k : Int), 0) := by
  obtain ⟨he, m0, m3⟩ := predE_ok h
  have hb := bestE_ok (l := predV m a b c) he (length_predV ..) (pred_within he)
  refine ⟨hb, ?_⟩
  obtain ⟨k, hk, e, h1, h2⟩ := bestTo_law (c := costK (predV m a b c) a b c) (fun k => sad_nonneg _ _) 4 (by omega)
  have hz : costK (predV m a b c) a b c m.toNat = 0 := by
    unfold costK
    rw [show ((m.toNat : Nat) : Int) = m from by omega]
    exact (sad_zero rfl).2 rfl
  have hle := h1 m.toNat (by omega)
  have hk0 : costK (predV m a b c) a b c k = 0 := by
    have : 0 ≤ costK (predV m a b c) a b c k := sad_nonneg _ _
    omega
  refine ⟨k, ?_, by rw [e, hk0]⟩
  by_cases hlt : m.toNat < k
  · have := h2 m.toNat hlt; omega
  · omega

set_option maxRecDepth 100000 in
set_option maxHeartbeats 8000000 in
theorem least_w0 (bv tv lv : Value) (l a b : List Int) (c m : Int) (w : World) (hb : Ints w bv l) (hv : Ints w tv a) (hu : Ints w lv b) (hg : TypeIs w)  (h0 : 5000 < l.length) :
    Calls Tryd.prog 9 #[bv, tv, lv, .int .i64 c, .int .i64 m] w fun e w' => e = .returned (.bool true) ∧ Below w.heap.size w w' := by
  have HG := Lib.hid hg
  obtain ⟨ao0, cap0, rfl⟩ := hb.shape
  obtain ⟨ao1, cap1, rfl⟩ := hv.shape
  obtain ⟨ao2, cap2, rfl⟩ := hu.shape
  clear hg hb hv hu
  go_enter Tryd.func9, Tryd.ntmps9
  have g0 : Below w.heap.size w w := Below.refl _ _
  go_wp2_with fail
  refine (first_any _ (HG.out.ext (by go_grown))).mono ?_
  rintro e w1 ⟨rfl, hb1⟩
  have j1 : Below w.heap.size w w1 := ext (by go_grown) hb1
  have g1 : Below w.heap.size w w1 := ext g0 j1
  have s1 := j1.size
  have t1 := g1.size
  go_wp2_with fail
  refine (first_any _ ((HG.out.ext j1).ext (by go_grown))).mono ?_
  rintro e w2 ⟨rfl, hb2⟩
  have j2 : Below w1.heap.size w1 w2 := ext (by go_grown) hb2
  have g2 : Below w.heap.size w w2 := ext g1 j2
  have s2 := j2.size
  have t2 := g2.size
  go_wp2
  all_goals go_returns
  all_goals exact ⟨by first | rfl | (simp; done) | (simp; omega), g2⟩

set_option maxRecDepth 100000 in
set_option maxHeartbeats 8000000 in
theorem least_w1 (bv tv lv : Value) (l a b : List Int) (c m : Int) (w : World) (hb : Ints w bv l) (hv : Ints w tv a) (hu : Ints w lv b) (hg : TypeIs w) (h0 : l.length ≤ 5000) (h1 : 5000 < a.length) :
    Calls Tryd.prog 9 #[bv, tv, lv, .int .i64 c, .int .i64 m] w fun e w' => e = .returned (.bool true) ∧ Below w.heap.size w w' := by
  have HG := Lib.hid hg
  obtain ⟨ao0, cap0, rfl⟩ := hb.shape
  obtain ⟨ao1, cap1, rfl⟩ := hv.shape
  obtain ⟨ao2, cap2, rfl⟩ := hu.shape
  clear hg hb hv hu
  go_enter Tryd.func9, Tryd.ntmps9
  have g0 : Below w.heap.size w w := Below.refl _ _
  go_wp2_with fail
  refine (first_any _ (HG.out.ext (by go_grown))).mono ?_
  rintro e w1 ⟨rfl, hb1⟩
  have j1 : Below w.heap.size w w1 := ext (by go_grown) hb1
  have g1 : Below w.heap.size w w1 := ext g0 j1
  have s1 := j1.size
  have t1 := g1.size
  go_wp2_with fail
  refine (first_any _ ((HG.out.ext j1).ext (by go_grown))).mono ?_
  rintro e w2 ⟨rfl, hb2⟩
  have j2 : Below w1.heap.size w1 w2 := ext (by go_grown) hb2
  have g2 : Below w.heap.size w w2 := ext g1 j2
  have s2 := j2.size
  have t2 := g2.size
  go_wp2
  all_goals go_returns
  all_goals exact ⟨by first | rfl | (simp; done) | (simp; omega), g2⟩

set_option maxRecDepth 100000 in
set_option maxHeartbeats 8000000 in
theorem least_w2 (bv tv lv : Value) (l a b : List Int) (c m : Int) (w : World) (hb : Ints w bv l) (hv : Ints w tv a) (hu : Ints w lv b) (hg : TypeIs w) (h0 : l.length ≤ 5000) (h1 : a.length ≤ 5000) (h2 : 5000 < b.length) :
    Calls Tryd.prog 9 #[bv, tv, lv, .int .i64 c, .int .i64 m] w fun e w' => e = .returned (.bool true) ∧ Below w.heap.size w w' := by
  have HG := Lib.hid hg
  obtain ⟨ao0, cap0, rfl⟩ := hb.shape
  obtain ⟨ao1, cap1, rfl⟩ := hv.shape
  obtain ⟨ao2, cap2, rfl⟩ := hu.shape
  clear hg hb hv hu
  go_enter Tryd.func9, Tryd.ntmps9
  have g0 : Below w.heap.size w w := Below.refl _ _
  go_wp2_with fail
  refine (first_any _ (HG.out.ext (by go_grown))).mono ?_
  rintro e w1 ⟨rfl, hb1⟩
  have j1 : Below w.heap.size w w1 := ext (by go_grown) hb1
  have g1 : Below w.heap.size w w1 := ext g0 j1
  have s1 := j1.size
  have t1 := g1.size
  go_wp2_with fail
  refine (first_any _ ((HG.out.ext j1).ext (by go_grown))).mono ?_
  rintro e w2 ⟨rfl, hb2⟩
  have j2 : Below w1.heap.size w1 w2 := ext (by go_grown) hb2
  have g2 : Below w.heap.size w w2 := ext g1 j2
  have s2 := j2.size
  have t2 := g2.size
  go_wp2
  all_goals go_returns
  all_goals exact ⟨by first | rfl | (simp; done) | (simp; omega), g2⟩

set_option maxRecDepth 100000 in
set_option maxHeartbeats 8000000 in
theorem least_00 (bv tv lv : Value) (l a b : List Int) (c m : Int) (w : World) (hb : Ints w bv l) (hv : Ints w tv a) (hu : Ints w lv b) (hg : TypeIs w) (h0 : l.length ≤ 5000) (h1 : a.length ≤ 5000) (h2 : b.length ≤ 5000) (z1 : bestE l a b c = 0) (z2 : predE m a b c = 0) :
    Calls Tryd.prog 9 #[bv, tv, lv, .int .i64 c, .int .i64 m] w fun e w' => e = .returned (.bool true) ∧ Below w.heap.size w w' := by
  have HG := Lib.hid hg
  obtain ⟨he, hl, hs⟩ := bestE_zero z1
  have hsq := edge_sq he
  obtain ⟨mm, hm4, hbt, hall, hless⟩ := bestTo_law (c := costK l a b c) (fun k => sad_nonneg _ _) 4 (by omega)
  have HALL := Lib.hid hall
  have HLESS := Lib.hid hless
  have C1 := Lib.hid (show ∀ w, Ints w bv l → Ints w tv a → Ints w lv b → Calls Tryd.prog 22 #[bv, tv, lv, .int .i64 c] w fun e w' => e = .returned (.tuple #[.int .i64 mm, .int .i64 (costK l a b c mm), .nilIface]) ∧ Below w.heap.size w w' from fun w h0 h1 h2 => by
    have h := pbest_any bv tv lv l a b c w h0 h1 h2
    rw [z1, okI_zero rfl, okI_zero rfl, hbt] at h
    exact h)
  have C2 := Lib.hid (show ∀ (k : Nat), k < 4 → ∀ w, Ints w tv a → Ints w lv b → Calls Tryd.prog 12 #[.int .i64 k, tv, lv, .int .i64 c] w fun e w' => ∃ v', e = .returned (.tuple #[v', .nilIface]) ∧ OwnInts w' w.heap.size v' (predV k a b c) ∧ Below w.heap.size w w' from fun k hk w h1 h2 => by
    have h := ppredict_any k tv lv a b c w h1 h2
    have e : predE k a b c = 0 := predE_of he (by omega) (by omega)
    have e2 : predL k a b c = predV k a b c := by unfold predL; rw [okL_zero e]
    rw [e, e2] at h
    exact h)
  have C3 := Lib.hid (show ∀ (k : Nat) (v : Value) (w : World), Ints w v (predV k a b c) → Ints w bv l → Calls Tryd.prog 24 #[v, bv] w fun e w' => e = .returned (.tuple #[.int .i64 (costK l a b c k), .nilIface]) ∧ Below w.heap.size w w' from fun k v w h1 h2 => by
    have := psad_any v bv (predV k a b c) l w h1 h2 (by rw [length_predV]; omega)
    rw [bothE_comm, both_pred z1, okI_zero rfl, sad_comm (by rw [length_predV, hl])] at this
    exact this)
  generalize costK l a b c = cf at *
  generalize hcm : cf mm = s at *
  have HCM := Lib.hid hcm
  clear he hl hs hsq hbt hall hless z1 hcm
  obtain ⟨hbs, m2, hm2, hbt2⟩ := best_self z2
  have C5 := Lib.hid (show ∀ w, Ints w tv a → Ints w lv b → Calls Tryd.prog 12 #[.int .i64 m, tv, lv, .int .i64 c] w fun e w' => ∃ v', e = .returned (.tuple #[v', .nilIface]) ∧ OwnInts w' w.heap.size v' (predV m a b c) ∧ Below w.heap.size w w' from fun w h1 h2 => by
    have h := ppredict_any m tv lv a b c w h1 h2
    have e2 : predL m a b c = predV m a b c := by unfold predL; rw [okL_zero z2]
    rw [z2, e2] at h
    exact h)
  have C6 := Lib.hid (show ∀ (v : Value) (w : World), Ints w v (predV m a b c) → Ints w tv a → Ints w lv b → Calls Tryd.prog 22 #[v, tv, lv, .int .i64 c] w fun e w' => e = .returned (.tuple #[.int .i64 m2, .int .i64 0, .nilIface]) ∧ Below w.heap.size w w' from fun v w h0 h1 h2 => by
    have h := pbest_any v tv lv (predV m a b c) a b c w h0 h1 h2
    rw [hbs, okI_zero rfl, okI_zero rfl, hbt2] at h
    exact h)
  clear hbs hbt2 z2
  have HB := Lib.hid hb
  have HV := Lib.hid hv
  have HU := Lib.hid hu
  obtain ⟨ao0, cap0, rfl⟩ := hb.shape
  obtain ⟨ao1, cap1, rfl⟩ := hv.shape
  obtain ⟨ao2, cap2, rfl⟩ := hu.shape
  clear hg hb hv hu
  go_enter Tryd.func9, Tryd.ntmps9
  have g0 : Below w.heap.size w w := Below.refl _ _
  go_wp2_with fail
  refine (first_any _ (HG.out.ext (by go_grown))).mono ?_
  rintro e w1 ⟨rfl, hb1⟩
  have j1 : Below w.heap.size w w1 := ext (by go_grown) hb1
  have g1 : Below w.heap.size w w1 := ext g0 j1
  have s1 := j1.size
  have t1 := g1.size
  go_wp2_with fail
  refine (C1.out _ ((HB.out.ext j1).ext (by go_grown)) ((HV.out.ext j1).ext (by go_grown)) ((HU.out.ext j1).ext (by go_grown))).mono ?_
  rintro e w2 ⟨rfl, hb2⟩
  have j2 : Below w1.heap.size w1 w2 := ext (by go_grown) hb2
  have g2 : Below w.heap.size w w2 := ext g1 j2
  have s2 := j2.size
  have t2 := g2.size
  go_wp2
  go_loopw [14] (fun i wr => ∃ k : Nat, k ≤ 4 ∧ i = .int .i64 k ∧ Below w.heap.size w wr) (fun i _ => 4 - (intOf i).toNat)
  case atStart => exact ⟨0, Nat.zero_le _, rfl, g2⟩
  case round =>
    obtain ⟨k, hk, rfl, hbr⟩ := hrel
    by_cases hlt : k < 4
    · have q4 : decide ((k : Int) < 4) = true := by simp; omega
      have C2k := Lib.hid (C2.out k hlt)
      have C3k := Lib.hid (C3.out k)
      have ht := HALL.out k hlt
      have hs := HLESS.out k
      go_wp2_with fail
      refine (C2k.out _ (HV.out.ext hbr) (HU.out.ext hbr)).mono ?_
      rintro e w3 ⟨v3, rfl, hown, hb3⟩
      have g3 : Below w.heap.size w w3 := ext hbr hb3
      have HP := Lib.hid hown.ints
      clear hown
      go_wp2_with fail
      refine (C3k.out _ _ HP.out (HB.out.ext g3)).mono ?_
      rintro e w4 ⟨rfl, hb4⟩
      have g4 : Below w.heap.size w w4 := ext g3 hb4
      clear C2k C3k
      have hcm := HCM.out
      by_cases e1 : k = mm
      · rw [← e1] at hcm
        clear ht hs HALL HLESS HCM
        generalize cf k = t at *
        have r1 : (t == s) = true := by simp; omega
        have r2 : (t != s) = false := by simp; omega
        have r3 : ((k : Int) == mm) = true := by simp; omega
        have r4 : ¬ t < s := by omega
        have r5 : ¬ k < mm := by omega
        clear hcm e1
        go_wp2
        go_roundw
        case rel => exact ⟨k + 1, by omega, by go_num, g4⟩
        case measure => simp [intOf]; omega
      · have r3 : ((k : Int) == mm) = false := by simp; omega
        clear hcm HCM
        by_cases e2 : k < mm
        · have hs' := hs e2
          clear hs HALL HLESS
          generalize cf k = t at *
          have r1 : (t == s) = false := by simp; omega
          go_wp2
          go_roundw
          case rel => exact ⟨k + 1, by omega, by go_num, g4⟩
          case measure => simp [intOf]; omega
        · clear hs HALL HLESS
          generalize cf k = t at *
          go_wp2
          go_roundw
          case rel => exact ⟨k + 1, by omega, by go_num, g4⟩
          case measure => simp [intOf]; omega
    · obtain rfl : k = 4 := by omega
      go_wp2_with fail
      refine (C5.out _ (HV.out.ext hbr) (HU.out.ext hbr)).mono ?_
      rintro e w5 ⟨v5, rfl, hown, hb5⟩
      have g5 : Below w.heap.size w w5 := ext hbr hb5
      obtain ⟨po, pc, rfl⟩ := hown.shape
      have HP := Lib.hid hown.ints
      clear hown
      go_wp2_with fail
      refine (C6.out _ _ HP.out (HV.out.ext g5) (HU.out.ext g5)).mono ?_
      rintro e w6 ⟨rfl, hb6⟩
      have g6 : Below w.heap.size w w6 := ext g5 hb6
      go_wp2_with fail
      refine (first_any _ (HG.out.ext g6)).mono ?_
      rintro e w7 ⟨rfl, hb7⟩
      have g7 : Below w.heap.size w w7 := ext g6 hb7
      go_wp2
      go_returns
      exact ⟨by first | rfl | (simp; done) | (simp; omega), g7⟩

set_option maxRecDepth 100000 in
set_option maxHeartbeats 8000000 in
theorem least_01 (bv tv lv : Value) (l a b : List Int) (c m : Int) (w : World) (hb : Ints w bv l) (hv : Ints w tv a) (hu : Ints w lv b) (hg : TypeIs w) (h0 : l.length ≤ 5000) (h1 : a.length ≤ 5000) (h2 : b.length ≤ 5000) (z1 : bestE l a b c = 0) (z2 : predE m a b c ≠ 0) :
    Calls Tryd.prog 9 #[bv, tv, lv, .int .i64 c, .int .i64 m] w fun e w' => e = .returned (.bool true) ∧ Below w.heap.size w w' := by
  have HG := Lib.hid hg
  obtain ⟨he, hl, hs⟩ := bestE_zero z1
  have hsq := edge_sq he
  obtain ⟨mm, hm4, hbt, hall, hless⟩ := bestTo_law (c := costK l a b c) (fun k => sad_nonneg _ _) 4 (by omega)
  have HALL := Lib.hid hall
  have HLESS := Lib.hid hless
  have C1 := Lib.hid (show ∀ w, Ints w bv l → Ints w tv a → Ints w lv b → Calls Tryd.prog 22 #[bv, tv, lv, .int .i64 c] w fun e w' => e = .returned (.tuple #[.int .i64 mm, .int .i64 (costK l a b c mm), .nilIface]) ∧ Below w.heap.size w w' from fun w h0 h1 h2 => by
    have h := pbest_any bv tv lv l a b c w h0 h1 h2
    rw [z1, okI_zero rfl, okI_zero rfl, hbt] at h
    exact h)
  have C2 := Lib.hid (show ∀ (k : Nat), k < 4 → ∀ w, Ints w tv a → Ints w lv b → Calls Tryd.prog 12 #[.int .i64 k, tv, lv, .int .i64 c] w fun e w' => ∃ v', e = .returned (.tuple #[v', .nilIface]) ∧ OwnInts w' w.heap.size v' (predV k a b c) ∧ Below w.heap.size w w' from fun k hk w h1 h2 => by
    have h := ppredict_any k tv lv a b c w h1 h2
    have e : predE k a b c = 0 := predE_of he (by omega) (by omega)
    have e2 : predL k a b c = predV k a b c := by unfold predL; rw [okL_zero e]
    rw [e, e2] at h
    exact h)
  have C3 := Lib.hid (show ∀ (k : Nat) (v : Value) (w : World), Ints w v (predV k a b c) → Ints w bv l → Calls Tryd.prog 24 #[v, bv] w fun e w' => e = .returned (.tuple #[.int .i64 (costK l a b c k), .nilIface]) ∧ Below w.heap.size w w' from fun k v w h1 h2 => by
    have := psad_any v bv (predV k a b c) l w h1 h2 (by rw [length_predV]; omega)
    rw [bothE_comm, both_pred z1, okI_zero rfl, sad_comm (by rw [length_predV, hl])] at this
    exact this)
  generalize costK l a b c = cf at *
  generalize hcm : cf mm = s at *
  have HCM := Lib.hid hcm
  clear he hl hs hsq hbt hall hless z1 hcm
  have C5 := Lib.hid (fun w h1 h2 => ppredict_any m tv lv a b c w h1 h2)
  have hk2 : (predE m a b c == 0) = false := by simpa using z2
  generalize predE m a b c = k2 at *
  generalize predL m a b c = l2 at *
  clear z2
  have HB := Lib.hid hb
  have HV := Lib.hid hv
  have HU := Lib.hid hu
  obtain ⟨ao0, cap0, rfl⟩ := hb.shape
  obtain ⟨ao1, cap1, rfl⟩ := hv.shape
  obtain ⟨ao2, cap2, rfl⟩ := hu.shape
  clear hg hb hv hu
  go_enter Tryd.func9, Tryd.ntmps9
  have g0 : Below w.heap.size w w := Below.refl _ _
  go_wp2_with fail
  refine (first_any _ (HG.out.ext (by go_grown))).mono ?_
  rintro e w1 ⟨rfl, hb1⟩
  have j1 : Below w.heap.size w w1 := ext (by go_grown) hb1
  have g1 : Below w.heap.size w w1 := ext g0 j1
  have s1 := j1.size
  have t1 := g1.size
  go_wp2_with fail
  refine (C1.out _ ((HB.out.ext j1).ext (by go_grown)) ((HV.out.ext j1).ext (by go_grown)) ((HU.out.ext j1).ext (by go_grown))).mono ?_
  rintro e w2 ⟨rfl, hb2⟩
  have j2 : Below w1.heap.size w1 w2 := ext (by go_grown) hb2
  have g2 : Below w.heap.size w w2 := ext g1 j2
  have s2 := j2.size
  have t2 := g2.size
  go_wp2
  go_loopw [14] (fun i wr => ∃ k : Nat, k ≤ 4 ∧ i = .int .i64 k ∧ Below w.heap.size w wr) (fun i _ => 4 - (intOf i).toNat)
  case atStart => exact ⟨0, Nat.zero_le _, rfl, g2⟩
  case round =>
    obtain ⟨k, hk, rfl, hbr⟩ := hrel
    by_cases hlt : k < 4
    · have q4 : decide ((k : Int) < 4) = true := by simp; omega
      have C2k := Lib.hid (C2.out k hlt)
      have C3k := Lib.hid (C3.out k)
      have ht := HALL.out k hlt
      have hs := HLESS.out k
      go_wp2_with fail
      refine (C2k.out _ (HV.out.ext hbr) (HU.out.ext hbr)).mono ?_
      rintro e w3 ⟨v3, rfl, hown, hb3⟩
      have g3 : Below w.heap.size w w3 := ext hbr hb3
      have HP := Lib.hid hown.ints
      clear hown
      go_wp2_with fail
      refine (C3k.out _ _ HP.out (HB.out.ext g3)).mono ?_
      rintro e w4 ⟨rfl, hb4⟩
      have g4 : Below w.heap.size w w4 := ext g3 hb4
      clear C2k C3k
      have hcm := HCM.out
      by_cases e1 : k = mm
      · rw [← e1] at hcm
        clear ht hs HALL HLESS HCM
        generalize cf k = t at *
        have r1 : (t == s) = true := by simp; omega
        have r2 : (t != s) = false := by simp; omega
        have r3 : ((k : Int) == mm) = true := by simp; omega
        have r4 : ¬ t < s := by omega
        have r5 : ¬ k < mm := by omega
        clear hcm e1
        go_wp2
        go_roundw
        case rel => exact ⟨k + 1, by omega, by go_num, g4⟩
        case measure => simp [intOf]; omega
      · have r3 : ((k : Int) == mm) = false := by simp; omega
        clear hcm HCM
        by_cases e2 : k < mm
        · have hs' := hs e2
          clear hs HALL HLESS
          generalize cf k = t at *
          have r1 : (t == s) = false := by simp; omega
          go_wp2
          go_roundw
          case rel => exact ⟨k + 1, by omega, by go_num, g4⟩
          case measure => simp [intOf]; omega
        · clear hs HALL HLESS
          generalize cf k = t at *
          go_wp2
          go_roundw
          case rel => exact ⟨k + 1, by omega, by go_num, g4⟩
          case measure => simp [intOf]; omega
    · obtain rfl : k = 4 := by omega
      go_wp2_with fail
      refine (C5.out _ (HV.out.ext hbr) (HU.out.ext hbr)).mono ?_
      rintro e w5 ⟨v5, rfl, -, hb5⟩
      have g5 : Below w.heap.size w w5 := ext hbr hb5
      have g6 : Below w.heap.size w w5 := g5
      go_wp2_with fail
      refine (first_any _ (HG.out.ext g6)).mono ?_
      rintro e w7 ⟨rfl, hb7⟩
      have g7 : Below w.heap.size w w7 := ext g6 hb7
      go_wp2
      go_returns
      exact ⟨by first | rfl | (simp; done) | (simp; omega), g7⟩

set_option maxRecDepth 100000 in
set_option maxHeartbeats 8000000 in
theorem least_10 (bv tv lv : Value) (l a b : List Int) (c m : Int) (w : World) (hb : Ints w bv l) (hv : Ints w tv a) (hu : Ints w lv b) (hg : TypeIs w) (h0 : l.length ≤ 5000) (h1 : a.length ≤ 5000) (h2 : b.length ≤ 5000) (z1 : bestE l a b c ≠ 0) (z2 : predE m a b c = 0) :
    Calls Tryd.prog 9 #[bv, tv, lv, .int .i64 c, .int .i64 m] w fun e w' => e = .returned (.bool true) ∧ Below w.heap.size w w' := by
  have HG := Lib.hid hg
  have C1 := Lib.hid (fun w h0 h1 h2 => pbest_any bv tv lv l a b c w h0 h1 h2)
  have hk1 : (bestE l a b c == 0) = false := by simpa using z1
  generalize bestTo (costK l a b c) 4 = bt at *
  generalize bestE l a b c = k1 at *
  generalize okI k1 bt.1 = i1 at *
  generalize okI k1 bt.2 = i2 at *
  clear z1
  obtain ⟨hbs, m2, hm2, hbt2⟩ := best_self z2
  have C5 := Lib.hid (show ∀ w, Ints w tv a → Ints w lv b → Calls Tryd.prog 12 #[.int .i64 m, tv, lv, .int .i64 c] w fun e w' => ∃ v', e = .returned (.tuple #[v', .nilIface]) ∧ OwnInts w' w.heap.size v' (predV m a b c) ∧ Below w.heap.size w w' from fun w h1 h2 => by
    have h := ppredict_any m tv lv a b c w h1 h2
    have e2 : predL m a b c = predV m a b c := by unfold predL; rw [okL_zero z2]
    rw [z2, e2] at h
    exact h)
  have C6 := Lib.hid (show ∀ (v : Value) (w : World), Ints w v (predV m a b c) → Ints w tv a → Ints w lv b → Calls Tryd.prog 22 #[v, tv, lv, .int .i64 c] w fun e w' => e = .returned (.tuple #[.int .i64 m2, .int .i64 0, .nilIface]) ∧ Below w.heap.size w w' from fun v w h0 h1 h2 => by
    have h := pbest_any v tv lv (predV m a b c) a b c w h0 h1 h2
    rw [hbs, okI_zero rfl, okI_zero rfl, hbt2] at h
    exact h)
  clear hbs hbt2 z2
  have HB := Lib.hid hb
  have HV := Lib.hid hv
  have HU := Lib.hid hu
  obtain ⟨ao0, cap0, rfl⟩ := hb.shape
  obtain ⟨ao1, cap1, rfl⟩ := hv.shape
  obtain ⟨ao2, cap2, rfl⟩ := hu.shape
  clear hg hb hv hu
  generalize predV m a b c = pv at *
  go_enter Tryd.func9, Tryd.ntmps9
  have g0 : Below w.heap.size w w := Below.refl _ _
  go_wp2_with fail
  refine (first_any _ (HG.out.ext (by go_grown))).mono ?_
  rintro e w1 ⟨rfl, hb1⟩
  have j1 : Below w.heap.size w w1 := ext (by go_grown) hb1
  have g1 : Below w.heap.size w w1 := ext g0 j1
  have s1 := j1.size
  have t1 := g1.size
  go_wp2_with fail
  refine (C1.out _ ((HB.out.ext j1).ext (by go_grown)) ((HV.out.ext j1).ext (by go_grown)) ((HU.out.ext j1).ext (by go_grown))).mono ?_
  rintro e w2 ⟨rfl, hb2⟩
  have j2 : Below w1.heap.size w1 w2 := ext (by go_grown) hb2
  have g2 : Below w.heap.size w w2 := ext g1 j2
  have s2 := j2.size
  have t2 := g2.size
  go_wp2_with fail
  refine (C5.out _ (HV.out.ext g2) (HU.out.ext g2)).mono ?_
  rintro e w5 ⟨v5, rfl, hown, hb5⟩
  have g5 : Below w.heap.size w w5 := ext g2 hb5
  obtain ⟨po, pc, rfl⟩ := hown.shape
  have HP := Lib.hid hown.ints
  clear hown
  go_wp2_with fail
  refine (C6.out _ _ HP.out (HV.out.ext g5) (HU.out.ext g5)).mono ?_
  rintro e w6 ⟨rfl, hb6⟩
  have g6 : Below w.heap.size w w6 := ext g5 hb6
  go_wp2_with fail
  refine (first_any _ (HG.out.ext g6)).mono ?_
  rintro e w7 ⟨rfl, hb7⟩
  have g7 : Below w.heap.size w w7 := ext g6 hb7
  go_wp2
  go_returns
  exact ⟨by first | rfl | (simp; done) | (simp; omega), g7⟩

set_option maxRecDepth 100000 in
set_option maxHeartbeats 8000000 in
theorem least_11 (bv tv lv : Value) (l a b : List Int) (c m : Int) (w : World) (hb : Ints w bv l) (hv : Ints w tv a) (hu : Ints w lv b) (hg : TypeIs w) (h0 : l.length ≤ 5000) (h1 : a.length ≤ 5000) (h2 : b.length ≤ 5000) (z1 : bestE l a b c ≠ 0) (z2 : predE m a b c ≠ 0) :
    Calls Tryd.prog 9 #[bv, tv, lv, .int .i64 c, .int .i64 m] w fun e w' => e = .returned (.bool true) ∧ Below w.heap.size w w' := by
  have HG := Lib.hid hg
  have C1 := Lib.hid (fun w h0 h1 h2 => pbest_any bv tv lv l a b c w h0 h1 h2)
  have hk1 : (bestE l a b c == 0) = false := by simpa using z1
  generalize bestTo (costK l a b c) 4 = bt at *
  generalize bestE l a b c = k1 at *
  generalize okI k1 bt.1 = i1 at *
  generalize okI k1 bt.2 = i2 at *
  clear z1
  have C5 := Lib.hid (fun w h1 h2 => ppredict_any m tv lv a b c w h1 h2)
  have hk2 : (predE m a b c == 0) = false := by simpa using z2
  generalize predE m a b c = k2 at *
  generalize predL m a b c = l2 at *
  clear z2
  have HB := Lib.hid hb
  have HV := Lib.hid hv
  have HU := Lib.hid hu
  obtain ⟨ao0, cap0, rfl⟩ := hb.shape
  obtain ⟨ao1, cap1, rfl⟩ := hv.shape
  obtain ⟨ao2, cap2, rfl⟩ := hu.shape
  clear hg hb hv hu
  go_enter Tryd.func9, Tryd.ntmps9
  have g0 : Below w.heap.size w w := Below.refl _ _
  go_wp2_with fail
  refine (first_any _ (HG.out.ext (by go_grown))).mono ?_
  rintro e w1 ⟨rfl, hb1⟩
  have j1 : Below w.heap.size w w1 := ext (by go_grown) hb1
  have g1 : Below w.heap.size w w1 := ext g0 j1
  have s1 := j1.size
  have t1 := g1.size
  go_wp2_with fail
  refine (C1.out _ ((HB.out.ext j1).ext (by go_grown)) ((HV.out.ext j1).ext (by go_grown)) ((HU.out.ext j1).ext (by go_grown))).mono ?_
  rintro e w2 ⟨rfl, hb2⟩
  have j2 : Below w1.heap.size w1 w2 := ext (by go_grown) hb2
  have g2 : Below w.heap.size w w2 := ext g1 j2
  have s2 := j2.size
  have t2 := g2.size
  go_wp2_with fail
  refine (C5.out _ (HV.out.ext g2) (HU.out.ext g2)).mono ?_
  rintro e w5 ⟨v5, rfl, -, hb5⟩
  have g5 : Below w.heap.size w w5 := ext g2 hb5
  have g6 : Below w.heap.size w w5 := g5
  go_wp2_with fail
  refine (first_any _ (HG.out.ext g6)).mono ?_
  rintro e w7 ⟨rfl, hb7⟩
  have g7 : Below w.heap.size w w7 := ext g6 hb7
  go_wp2
  go_returns
  exact ⟨by first | rfl | (simp; done) | (simp; omega), g7⟩

theorem least_ok (bv tv lv : Value) (l a b : List Int) (c m : Int) (w : World) (hb : Ints w bv l) (hv : Ints w tv a) (hu : Ints w lv b) (hg : TypeIs w) (h0 : l.length ≤ 5000) (h1 : a.length ≤ 5000) (h2 : b.length ≤ 5000) :
    Calls Tryd.prog 9 #[bv, tv, lv, .int .i64 c, .int .i64 m] w fun e w' => e = .returned (.bool true) ∧ Below w.heap.size w w' := by
  by_cases z1 : bestE l a b c = 0
  · by_cases z2 : predE m a b c = 0
    · exact least_00 bv tv lv l a b c m w hb hv hu hg h0 h1 h2 z1 z2
    · exact least_01 bv tv lv l a b c m w hb hv hu hg h0 h1 h2 z1 z2
  · by_cases z2 : predE m a b c = 0
    · exact least_10 bv tv lv l a b c m w hb hv hu hg h0 h1 h2 z1 z2
    · exact least_11 bv tv lv l a b c m w hb hv hu hg h0 h1 h2 z1 z2

theorem least_walk (bv tv lv : Value) (l a b : List Int) (c m : Int) (w : World) (hb : Ints w bv l) (hv : Ints w tv a) (hu : Ints w lv b) (hg : TypeIs w) :
    Calls Tryd.prog 9 #[bv, tv, lv, .int .i64 c, .int .i64 m] w fun e w' => e = .returned (.bool true) ∧ Below w.heap.size w w' := by
  by_cases h0 : l.length ≤ 5000
  · by_cases h1 : a.length ≤ 5000
    · by_cases h2 : b.length ≤ 5000
      · exact least_ok bv tv lv l a b c m w hb hv hu hg h0 h1 h2
      · exact least_w2 bv tv lv l a b c m w hb hv hu hg h0 h1 (by omega)
    · exact least_w1 bv tv lv l a b c m w hb hv hu hg h0 (by omega)
  · exact least_w0 bv tv lv l a b c m w hb hv hu hg  (by omega)
end Go.Proofs.YtammgbohaaiicaaDoor
