/- intra.Predict, Best; kinref10.Best: contracts. -/
import Derived.Test.YtammgbohaaiicaaDoorIntraR
import Derived.Test.YtammgbohaaiicaaDoorBlockR
set_option linter.unusedSimpArgs false
set_option linter.unusedVariables false
namespace Go.Proofs.YtammgbohaaiicaaDoor
open Go.RowKit

theorem fore_any (m : Int) (tv lv : Value) (a b : List Int) (c : Int) (w : World) (hv : Ints w tv a) (hu : Ints w lv b) (he : edgeE a b c = 0) (hm : 0 ≤ m ∧ m ≤ 3) :
    Calls Tryd.prog 27 #[.int .i64 m, tv, lv, .int .i64 c] w fun e w' => ∃ v', e = .returned v' ∧ OwnInts w' w.heap.size v' (predV m a b c) ∧ Below w.heap.size w w' := by
  rcases (show m = 0 ∨ m = 1 ∨ m = 2 ∨ m = 3 by omega) with rfl | rfl | rfl | rfl
  · exact fore0 tv lv a b c w hv hu he
  · exact fore1 tv lv a b c w hv hu he
  · exact fore2 tv lv a b c w hv hu he
  · exact fore3 tv lv a b c w hv hu he
set_option maxRecDepth 100000 in
set_option maxHeartbeats 2000000 in
theorem ppredict_any (m : Int) (tv lv : Value) (a b : List Int) (c : Int) (w : World) (hv : Ints w tv a) (hu : Ints w lv b) :
    Calls Tryd.prog 12 #[.int .i64 m, tv, lv, .int .i64 c] w fun e w' => ∃ v', e = .returned (.tuple #[v', errV (predE m a b c)]) ∧ OwnInts w' w.heap.size v' (predL m a b c) ∧ Below w.heap.size w w' := by
  unfold predL
  have HV := Lib.hid hv
  have HU := Lib.hid hu
  by_cases m0 : m < 0
  · have hpe : predE m a b c = 13 := by unfold predE; rw [if_pos (.inl m0)]
    rw [okL_ne (by rw [hpe]; decide), hpe]
    clear hpe hv hu
    go_enter Tryd.func12, Tryd.ntmps12
    go_wp2
    go_returns
    exact ⟨_, rfl, OwnInts.nil _ _, by go_grown⟩
  · by_cases m3 : 4 ≤ m
    · have hpe : predE m a b c = 13 := by unfold predE; rw [if_pos (.inr (by omega))]
      rw [okL_ne (by rw [hpe]; decide), hpe]
      clear hpe hv hu
      go_enter Tryd.func12, Tryd.ntmps12
      go_wp2
      go_returns
      exact ⟨_, rfl, OwnInts.nil _ _, by go_grown⟩
    · have hpe : predE m a b c = edgeE a b c := by unfold predE; rw [if_neg (by omega)]
      rw [hpe]
      have C1 := Lib.hid (fun w hv hu => check_any tv lv a b c w hv hu)
      by_cases he : edgeE a b c = 0
      · have C2 := Lib.hid (fun w hv hu => fore_any m tv lv a b c w hv hu he (by omega))
        rw [okL_zero he, he]
        rw [he] at C1
        clear he hpe hv hu
        go_enter Tryd.func12, Tryd.ntmps12
        go_wp2_with fail
        refine (C1.out _ (HV.out.ext (by go_grown)) (HU.out.ext (by go_grown))).mono ?_
        rintro e w1 ⟨rfl, hb1⟩
        have g1 : Below w.heap.size w w1 := ext (by go_grown) hb1
        go_wp2_with fail
        refine (C2.out _ (HV.out.ext g1) (HU.out.ext g1)).mono ?_
        rintro e w2 ⟨v2, rfl, hown, hb2⟩
        have g2 : Below w.heap.size w w2 := ext g1 hb2
        have s1 := g1.size
        have HO := Lib.hid hown
        clear hown
        go_wp2
        go_returns
        exact ⟨_, rfl, HO.out.mono s1, g2⟩
      · have hk : (edgeE a b c == 0) = false := by simpa using he
        rw [okL_ne he]
        clear he hpe hv hu
        generalize edgeE a b c = z at *
        go_enter Tryd.func12, Tryd.ntmps12
        go_wp2_with fail
        refine (C1.out _ (HV.out.ext (by go_grown)) (HU.out.ext (by go_grown))).mono ?_
        rintro e w1 ⟨rfl, hb1⟩
        have g1 : Below w.heap.size w w1 := ext (by go_grown) hb1
        go_wp2
        go_returns
        exact ⟨_, rfl, OwnInts.nil _ _, g1⟩

/-! ### the best mode -/
def bestE (l a b : List Int) (c : Int) : Int := if edgeE a b c = 0 then (if l.length = a.length * a.length then (if withinB l 0 255 then 0 else 3) else 14) else edgeE a b c
def costK (l a b : List Int) (c : Int) (k : Nat) : Int := sadV l (predV k a b c)
theorem bestE_zero {l a b : List Int} {c : Int} (h : bestE l a b c = 0) : edgeE a b c = 0 ∧ l.length = a.length * a.length ∧ withinB l 0 255 = true := by
  unfold bestE at h
  split at h
  · rename_i e
    split at h
    · rename_i e2
      split at h
      · rename_i e3; exact ⟨e, e2, e3⟩
      · omega
    · omega
  · rename_i e; exact absurd h e
theorem bestE_ok {l a b : List Int} {c : Int} (h1 : edgeE a b c = 0) (h2 : l.length = a.length * a.length) (h3 : withinB l 0 255 = true) : bestE l a b c = 0 := by
  unfold bestE; rw [if_pos h1, if_pos h2, if_pos h3]
theorem edge_sq {a b : List Int} {c : Int} (h : edgeE a b c = 0) : a.length * a.length ≤ 64 := by
  have := (edgeE_zero h).1
  exact Nat.mul_le_mul (show a.length ≤ 8 by omega) (show a.length ≤ 8 by omega)
theorem both_pred {l a b : List Int} {c : Int} (h : bestE l a b c = 0) (m : Int) : bothE l (predV m a b c) = 0 := by
  obtain ⟨h1, h2, h3⟩ := bestE_zero h
  exact bothE_ok (by rw [length_predV, h2]) (within_mono h3 (by omega) (by omega)) (within_mono (pred_within h1) (by omega) (by omega))
theorem cost_bd {l a b : List Int} {c : Int} (h : bestE l a b c = 0) (k : Nat) : 0 ≤ costK l a b c k ∧ costK l a b c k ≤ 40000 := by
  obtain ⟨h1, h2, h3⟩ := bestE_zero h
  have := sad_bd (m := 255) (by omega) (within_mono h3 (c := -255) (d := 255) (by omega) (by omega)) (within_mono (pred_within (mode := k) h1) (c := -255) (d := 255) (by omega) (by omega))
  have := edge_sq h1
  unfold costK
  omega

set_option maxRecDepth 100000 in
set_option maxHeartbeats 4000000 in
theorem pbest_any (bv tv lv : Value) (l a b : List Int) (c : Int) (w : World) (hb : Ints w bv l) (hv : Ints w tv a) (hu : Ints w lv b) :
    Calls Tryd.prog 22 #[bv, tv, lv, .int .i64 c] w fun e w' => e = .returned (.tuple #[.int .i64 (okI (bestE l a b c) (bestTo (costK l a b c) 4).1), .int .i64 (okI (bestE l a b c) (bestTo (costK l a b c) 4).2), errV (bestE l a b c)]) ∧ Below w.heap.size w w' := by
  have HB := Lib.hid hb
  have HV := Lib.hid hv
  have HU := Lib.hid hu
  have C1 := Lib.hid (fun w hv hu => check_any tv lv a b c w hv hu)
  have C4 := Lib.hid (fun w hb => psamples_any bv l w hb)
  have hll := hb.len
  have hla := hv.len
  by_cases he : edgeE a b c = 0
  · have hsq := edge_sq he
    have hn8 : a.length ≤ 8 := by have := (edgeE_zero he).1; omega
    rw [he] at C1
    by_cases hl : l.length = a.length * a.length
    · cases hs : withinB l 0 255 with
      | true =>
        have hz := bestE_ok he hl hs
        rw [hz, okI_zero rfl, okI_zero rfl]
        rw [hs] at C4
        have C2 := Lib.hid (fun (m : Nat) (hm : m < 4) w hv hu => fore_any m tv lv a b c w hv hu he (by omega))
        have C3 := Lib.hid (show ∀ (m : Nat) (v : Value) (w : World), Ints w bv l → Ints w v (predV m a b c) → Calls Tryd.prog 24 #[bv, v] w fun e w' => e = .returned (.tuple #[.int .i64 (costK l a b c m), .nilIface]) ∧ Below w.heap.size w w' from fun m v w h1 h2 => by
          have := psad_any bv v l (predV m a b c) w h1 h2 (by omega)
          rw [both_pred hz, okI_zero rfl] at this
          exact this)
        have hcb := fun k => cost_bd hz k
        obtain ⟨cf, hcf⟩ : ∃ cf, costK l a b c = cf := ⟨_, rfl⟩
        rw [hcf] at C3 hcb ⊢
        have HCB := Lib.hid hcb
        obtain ⟨lo, lc, rfl⟩ := hb.shape
        obtain ⟨ao, cap, rfl⟩ := hv.shape
        obtain ⟨bo, cap2, rfl⟩ := hu.shape
        have qm : IntKind.i64.wrap ((a.length : Int) * a.length) = (l.length : Nat) := wrap_mulI (by rw [hl]; simp) (by omega)
        have ql : ((l.length : Int) != (l.length : Int)) = false := by simp
        clear hz hs he hl hcb hcf hb hv hu hsq
        go_enter Tryd.func22, Tryd.ntmps22
        go_wp2_with fail
        refine (C1.out _ (HV.out.ext (by go_grown)) (HU.out.ext (by go_grown))).mono ?_
        rintro e w1 ⟨rfl, hb1⟩
        have g1 : Below w.heap.size w w1 := ext (by go_grown) hb1
        go_wp2_with fail
        refine (C4.out _ (HB.out.ext g1)).mono ?_
        rintro e w2 ⟨rfl, rfl⟩
        go_wp2
        go_loopw [12, 13, 40] (fun mo le i wr => ∃ k : Nat, k ≤ 4 ∧ i = .int .i64 k ∧ mo = .int .i64 (bestTo cf k).1 ∧ le = .int .i64 (bestTo cf k).2 ∧ Below w.heap.size w wr) (fun _ _ i _ => 4 - (intOf i).toNat)
        case atStart => exact ⟨0, Nat.zero_le _, rfl, rfl, rfl, g1⟩
        case round =>
          obtain ⟨k, hk, rfl, rfl, rfl, hbr⟩ := hrel
          by_cases hlt : k < 4
          · have q : decide ((k : Int) < 4) = true := by simp; omega
            have hyes := bestTo_yes (c := cf) (k := k)
            have hno := bestTo_no (c := cf) (k := k)
            generalize hbt : bestTo cf k = bt at *
            obtain ⟨md, le⟩ := bt
            dsimp only at hyes hno ⊢
            have HY := Lib.hid hyes
            have HN := Lib.hid hno
            have C2k := Lib.hid (C2.out k hlt)
            have C3k := Lib.hid (C3.out k)
            generalize cf k = ck at *
            clear hyes hno hbt
            go_wp2_with fail
            refine (C2k.out _ (HV.out.ext hbr) (HU.out.ext hbr)).mono ?_
            rintro e w3 ⟨v3, rfl, hown, hb3⟩
            have g3 : Below w.heap.size w w3 := ext hbr hb3
            have HI := Lib.hid hown.ints
            clear hown
            go_wp2_with fail
            refine (C3k.out _ _ (HB.out.ext g3) HI.out).mono ?_
            rintro e w4 ⟨rfl, hb4⟩
            have g4 : Below w.heap.size w w4 := ext g3 hb4
            by_cases t1 : le < 0
            · have HR := Lib.hid (HY.out (.inl t1))
              go_wp2
              go_roundw
              case rel => exact ⟨k + 1, by omega, by go_num, by rw [HR.out], by rw [HR.out], g4⟩
              case measure => simp [intOf]; omega
            · by_cases t2 : ck < le
              · have HR := Lib.hid (HY.out (.inr t2))
                go_wp2
                go_roundw
                case rel => exact ⟨k + 1, by omega, by go_num, by rw [HR.out], by rw [HR.out], g4⟩
                case measure => simp [intOf]; omega
              · have HR := Lib.hid (HN.out (by omega))
                go_wp2
                go_roundw
                case rel => exact ⟨k + 1, by omega, by go_num, by rw [HR.out], by rw [HR.out], g4⟩
                case measure => simp [intOf]; omega
          · obtain rfl : k = 4 := by omega
            generalize hbt : bestTo cf 4 = bt
            obtain ⟨md, le⟩ := bt
            have HBT := Lib.hid hbt
            clear hbt
            go_wp2
            go_returns
            exact ⟨by rw [HBT.out] <;> rfl, hbr⟩
      | false =>
        have hz : bestE l a b c = 3 := by unfold bestE; rw [if_pos he, if_pos hl, hs]; rfl
        rw [hz, okI_ne (by decide), okI_ne (by decide)]
        rw [hs] at C4
        obtain ⟨lo, lc, rfl⟩ := hb.shape
        obtain ⟨ao, cap, rfl⟩ := hv.shape
        obtain ⟨bo, cap2, rfl⟩ := hu.shape
        have qm : IntKind.i64.wrap ((a.length : Int) * a.length) = (l.length : Nat) := wrap_mulI (by rw [hl]; simp) (by omega)
        have ql : ((l.length : Int) != (l.length : Int)) = false := by simp
        clear hz hs he hl hb hv hu hsq
        go_enter Tryd.func22, Tryd.ntmps22
        go_wp2_with fail
        refine (C1.out _ (HV.out.ext (by go_grown)) (HU.out.ext (by go_grown))).mono ?_
        rintro e w1 ⟨rfl, hb1⟩
        have g1 : Below w.heap.size w w1 := ext (by go_grown) hb1
        go_wp2_with fail
        refine (C4.out _ (HB.out.ext g1)).mono ?_
        rintro e w2 ⟨rfl, rfl⟩
        go_wp2
        go_returns
        exact ⟨rfl, g1⟩
    · have hz : bestE l a b c = 14 := by unfold bestE; rw [if_pos he, if_neg hl]
      rw [hz, okI_ne (by decide), okI_ne (by decide)]
      obtain ⟨lo, lc, rfl⟩ := hb.shape
      obtain ⟨ao, cap, rfl⟩ := hv.shape
      obtain ⟨bo, cap2, rfl⟩ := hu.shape
      obtain ⟨NN, hNN⟩ : ∃ NN, a.length * a.length = NN := ⟨_, rfl⟩
      have qm : IntKind.i64.wrap ((a.length : Int) * a.length) = (NN : Nat) := wrap_mulI (by rw [← hNN]; simp) (by omega)
      have ql : ((l.length : Int) != (NN : Int)) = true := by simp; omega
      clear hz he hl hb hv hu hsq hNN
      go_enter Tryd.func22, Tryd.ntmps22
      go_wp2_with fail
      refine (C1.out _ (HV.out.ext (by go_grown)) (HU.out.ext (by go_grown))).mono ?_
      rintro e w1 ⟨rfl, hb1⟩
      have g1 : Below w.heap.size w w1 := ext (by go_grown) hb1
      go_wp2
      go_returns
      exact ⟨rfl, g1⟩
  · have hk : (edgeE a b c == 0) = false := by simpa using he
    have hz : bestE l a b c = edgeE a b c := by unfold bestE; rw [if_neg he]
    rw [hz, okI_ne he, okI_ne he]
    clear he hz hb hv hu
    generalize edgeE a b c = z at *
    go_enter Tryd.func22, Tryd.ntmps22
    go_wp2_with fail
    refine (C1.out _ (HV.out.ext (by go_grown)) (HU.out.ext (by go_grown))).mono ?_
    rintro e w1 ⟨rfl, hb1⟩
    have g1 : Below w.heap.size w w1 := ext (by go_grown) hb1
    go_wp2
    go_returns
    exact ⟨rfl, g1⟩

set_option maxRecDepth 100000 in
set_option maxHeartbeats 4000000 in
theorem rbest_no (bv tv lv : Value) (l a b : List Int) (c : Int) (w : World) (hb : Ints w bv l) (hv : Ints w tv a) (hu : Ints w lv b) (he : edgeE a b c ≠ 0) :
    Calls Tryd.prog 23 #[bv, tv, lv, .int .i64 c] w fun e w' => e = .returned (.tuple #[.int .i64 0, .int .i64 0, .agg #[.int .i64 (edgeE a b c), .slice none 0 0]]) ∧ Below w.heap.size w w' := by
  have HV := Lib.hid hv
  have HU := Lib.hid hu
  have C1 := Lib.hid (fun w hv hu => rpredict_any 0 tv lv a b c w hv hu)
  rw [show predE 0 a b c = edgeE a b c from by unfold predE; rw [if_neg (by omega)]] at C1
  have hk : (edgeE a b c == 0) = false := by simpa using he
  have R0 := Lib.hid (Blk.new w #[.int .i64 0, .slice none 0 0] 32)
  clear he hb hv hu
  generalize edgeE a b c = z at *
  go_enter Tryd.func23, Tryd.ntmps23
  go_wp2_with fail
  refine (C1.out _ (HV.out.ext (by go_grown)) (HU.out.ext (by go_grown))).mono ?_
  rintro e w1 ⟨v1, rfl, -, hb1⟩
  have g1 : Below w.heap.size w w1 := ext (by go_grown) hb1
  have s1 : w.heap.size + 1 ≤ w1.heap.size := by have := hb1.size; simp at this; omega
  have R1 := Lib.hid ((R0.out.ext hb1).alloc (.cells #[.int .i64 z, .slice none 0 0] 32))
  have E2 := Lib.hid (Blk.new w1 #[.int .i64 z, .slice none 0 0] 32)
  go_wp2_with fail
  refine (ok_ne z hk _ _).mono ?_
  rintro e w2 ⟨rfl, hb2⟩
  have j2 : Below (w1.alloc (.cells #[.int .i64 z, .slice none 0 0] 32)).heap.size (w1.alloc (.cells #[.int .i64 z, .slice none 0 0] 32)) w2 := ext (by go_grown) hb2
  have g2 : Below w.heap.size w w2 := ext (ext g1 (by go_grown)) j2
  obtain ⟨p0, p1, p2, p3⟩ := (E2.out.ext j2).two
  obtain ⟨r0, r1, r2, r3⟩ := (R1.out.ext j2).two
  have s2 : w1.heap.size + 1 ≤ w2.heap.size := by have := j2.size; simp at this; omega
  go_wp2
  go_region
  all_goals go_wp2
  all_goals refine bodyPost_ret (by simp [results, Tryd.results23, go_sem, r0, r1, r2, r3]; try rfl) rfl ?_
  all_goals exact ⟨rfl, by go_grown⟩

set_option maxRecDepth 100000 in
set_option maxHeartbeats 4000000 in
theorem rbest_fit (bv tv lv : Value) (l a b : List Int) (c : Int) (w : World) (hb : Ints w bv l) (hv : Ints w tv a) (hu : Ints w lv b) (he : edgeE a b c = 0) (hl : l.length ≠ a.length * a.length) :
    Calls Tryd.prog 23 #[bv, tv, lv, .int .i64 c] w fun e w' => e = .returned (.tuple #[.int .i64 0, .int .i64 0, .agg #[.int .i64 14, .slice none 0 0]]) ∧ Below w.heap.size w w' := by
  have HV := Lib.hid hv
  have HU := Lib.hid hu
  have hsq := edge_sq he
  have C1 := Lib.hid (fun w hv hu => rpredict_any 0 tv lv a b c w hv hu)
  rw [predE_of he (by omega) (by omega)] at C1
  have hll := hb.len
  have hla := hv.len
  have hn8 : a.length ≤ 8 := by have := (edgeE_zero he).1; omega
  have R0 := Lib.hid (Blk.new w #[.int .i64 0, .slice none 0 0] 32)
  obtain ⟨lo, lc, rfl⟩ := hb.shape
  obtain ⟨ao, cap, rfl⟩ := hv.shape
  obtain ⟨bo, cap2, rfl⟩ := hu.shape
  obtain ⟨NN, hNN⟩ : ∃ NN, a.length * a.length = NN := ⟨_, rfl⟩
  have qm : IntKind.i64.wrap ((a.length : Int) * a.length) = (NN : Nat) := wrap_mulI (by rw [← hNN]; simp) (by omega)
  have ql : ((l.length : Int) != (NN : Int)) = true := by simp; omega
  clear he hl hb hv hu hsq hNN
  go_enter Tryd.func23, Tryd.ntmps23
  go_wp2_with fail
  refine (C1.out _ (HV.out.ext (by go_grown)) (HU.out.ext (by go_grown))).mono ?_
  rintro e w1 ⟨v1, rfl, -, hb1⟩
  have g1 : Below w.heap.size w w1 := ext (by go_grown) hb1
  have s1 : w.heap.size + 1 ≤ w1.heap.size := by have := hb1.size; simp at this; omega
  have R1 := Lib.hid ((R0.out.ext hb1).alloc (.cells #[.int .i64 0, .slice none 0 0] 32))
  have E2 := Lib.hid (Blk.new w1 #[.int .i64 0, .slice none 0 0] 32)
  go_wp2_with fail
  refine (ok_zero _ _).mono ?_
  rintro e w2 ⟨rfl, hb2⟩
  have j2 : Below (w1.alloc (.cells #[.int .i64 0, .slice none 0 0] 32)).heap.size (w1.alloc (.cells #[.int .i64 0, .slice none 0 0] 32)) w2 := ext (by go_grown) hb2
  have g2 : Below w.heap.size w w2 := ext (ext g1 (by go_grown)) j2
  go_wp2_with fail
  refine (fail_any _ _).mono ?_
  rintro e w3 ⟨rfl, hb3⟩
  have g3 : Below w.heap.size w w3 := ext g2 hb3
  obtain ⟨r0, r1, r2, r3⟩ := ((R1.out.ext j2).ext hb3).two
  go_wp2
  refine bodyPost_ret (by simp [results, Tryd.results23, go_sem, r0, r1, r2, r3]; try rfl) rfl ?_
  exact ⟨rfl, by go_grown⟩

set_option maxRecDepth 100000 in
set_option maxHeartbeats 4000000 in
theorem rbest_range (bv tv lv : Value) (l a b : List Int) (c : Int) (w : World) (hb : Ints w bv l) (hv : Ints w tv a) (hu : Ints w lv b) (he : edgeE a b c = 0) (hl : l.length = a.length * a.length) (hs : withinB l 0 255 = false) :
    Calls Tryd.prog 23 #[bv, tv, lv, .int .i64 c] w fun e w' => e = .returned (.tuple #[.int .i64 0, .int .i64 0, .agg #[.int .i64 3, .slice none 0 0]]) ∧ Below w.heap.size w w' := by
  have HB := Lib.hid hb
  have HV := Lib.hid hv
  have HU := Lib.hid hu
  have hsq := edge_sq he
  have C1 := Lib.hid (fun w hv hu => rpredict_any 0 tv lv a b c w hv hu)
  rw [predE_of he (by omega) (by omega)] at C1
  have C4 := Lib.hid (fun w hb => within_any bv l 0 255 w hb)
  rw [hs] at C4
  have hll := hb.len
  have hla := hv.len
  have hn8 : a.length ≤ 8 := by have := (edgeE_zero he).1; omega
  have R0 := Lib.hid (Blk.new w #[.int .i64 0, .slice none 0 0] 32)
  obtain ⟨lo, lc, rfl⟩ := hb.shape
  obtain ⟨ao, cap, rfl⟩ := hv.shape
  obtain ⟨bo, cap2, rfl⟩ := hu.shape
  have qm : IntKind.i64.wrap ((a.length : Int) * a.length) = (l.length : Nat) := wrap_mulI (by rw [hl]; simp) (by omega)
  have ql : ((l.length : Int) != (l.length : Int)) = false := by simp
  clear he hl hs hb hv hu hsq
  go_enter Tryd.func23, Tryd.ntmps23
  go_wp2_with fail
  refine (C1.out _ (HV.out.ext (by go_grown)) (HU.out.ext (by go_grown))).mono ?_
  rintro e w1 ⟨v1, rfl, -, hb1⟩
  have g1 : Below w.heap.size w w1 := ext (by go_grown) hb1
  have s1 : w.heap.size + 1 ≤ w1.heap.size := by have := hb1.size; simp at this; omega
  have R1 := Lib.hid ((R0.out.ext hb1).alloc (.cells #[.int .i64 0, .slice none 0 0] 32))
  have E2 := Lib.hid (Blk.new w1 #[.int .i64 0, .slice none 0 0] 32)
  go_wp2_with fail
  refine (ok_zero _ _).mono ?_
  rintro e w2 ⟨rfl, hb2⟩
  have j2 : Below (w1.alloc (.cells #[.int .i64 0, .slice none 0 0] 32)).heap.size (w1.alloc (.cells #[.int .i64 0, .slice none 0 0] 32)) w2 := ext (by go_grown) hb2
  have g2 : Below w.heap.size w w2 := ext (ext g1 (by go_grown)) j2
  go_wp2_with fail
  refine (C4.out _ (HB.out.ext g2)).mono ?_
  rintro e w4 ⟨rfl, rfl⟩
  go_wp2_with fail
  refine (fail_any _ _).mono ?_
  rintro e w3 ⟨rfl, hb3⟩
  have g3 : Below w.heap.size w w3 := ext g2 hb3
  obtain ⟨r0, r1, r2, r3⟩ := ((R1.out.ext j2).ext hb3).two
  go_wp2
  refine bodyPost_ret (by simp [results, Tryd.results23, go_sem, r0, r1, r2, r3]; try rfl) rfl ?_
  exact ⟨rfl, by go_grown⟩

set_option maxRecDepth 100000 in
set_option maxHeartbeats 4000000 in
theorem rbest_ok (bv tv lv : Value) (l a b : List Int) (c : Int) (w : World) (hb : Ints w bv l) (hv : Ints w tv a) (hu : Ints w lv b) (hz : bestE l a b c = 0) :
    Calls Tryd.prog 23 #[bv, tv, lv, .int .i64 c] w fun e w' => e = .returned (.tuple #[.int .i64 (bestTo (costK l a b c) 4).1, .int .i64 (bestTo (costK l a b c) 4).2, .agg #[.int .i64 0, .slice none 0 0]]) ∧ Below w.heap.size w w' := by
  obtain ⟨he, hl, hs⟩ := bestE_zero hz
  have HB := Lib.hid hb
  have HV := Lib.hid hv
  have HU := Lib.hid hu
  have hsq := edge_sq he
  have C2 := Lib.hid (fun (m : Nat) (hm : m < 4) w hv hu => rpredict_ok m tv lv a b c w hv hu he (by omega))
  have C4 := Lib.hid (fun w hb => within_any bv l 0 255 w hb)
  rw [hs] at C4
  have C1 := Lib.hid (fun w hv hu => rpredict_ok 0 tv lv a b c w hv hu he (by omega))
  have C3 := Lib.hid (show ∀ (m : Nat) (v : Value) (w : World), Ints w bv l → Ints w v (predV m a b c) → Calls Tryd.prog 39 #[v, bv] w fun e w' => e = .returned (.tuple #[.int .i64 (costK l a b c m), .agg #[.int .i64 0, .slice none 0 0]]) ∧ Below w.heap.size w w' from fun m v w h1 h2 => by
    have := rsad_any v bv (predV m a b c) l w h2 h1 (by rw [length_predV]; omega)
    rw [bothE_comm, both_pred hz, okI_zero rfl, sad_comm (by rw [length_predV, hl])] at this
    exact this)
  have hcb := fun k => cost_bd hz k
  obtain ⟨cf, hcf⟩ : ∃ cf, costK l a b c = cf := ⟨_, rfl⟩
  rw [hcf] at C3 hcb ⊢
  have HCB := Lib.hid hcb
  have hll := hb.len
  have hla := hv.len
  have hn8 : a.length ≤ 8 := by have := (edgeE_zero he).1; omega
  have R0 := Lib.hid (Blk.new w #[.int .i64 0, .slice none 0 0] 32)
  obtain ⟨lo, lc, rfl⟩ := hb.shape
  obtain ⟨ao, cap, rfl⟩ := hv.shape
  obtain ⟨bo, cap2, rfl⟩ := hu.shape
  have qm : IntKind.i64.wrap ((a.length : Int) * a.length) = (l.length : Nat) := wrap_mulI (by rw [hl]; simp) (by omega)
  have ql : ((l.length : Int) != (l.length : Int)) = false := by simp
  clear he hl hs hb hv hu hsq hz hcb hcf
  go_enter Tryd.func23, Tryd.ntmps23
  go_wp2_with fail
  refine (C1.out _ (HV.out.ext (by go_grown)) (HU.out.ext (by go_grown))).mono ?_
  rintro e w1 ⟨v1, rfl, -, hb1⟩
  have g1 : Below w.heap.size w w1 := ext (by go_grown) hb1
  have s1 : w.heap.size + 1 ≤ w1.heap.size := by have := hb1.size; simp at this; omega
  have R1 := Lib.hid ((R0.out.ext hb1).alloc (.cells #[.int .i64 0, .slice none 0 0] 32))
  have E2 := Lib.hid (Blk.new w1 #[.int .i64 0, .slice none 0 0] 32)
  go_wp2_with fail
  refine (ok_zero _ _).mono ?_
  rintro e w2 ⟨rfl, hb2⟩
  have j2 : Below (w1.alloc (.cells #[.int .i64 0, .slice none 0 0] 32)).heap.size (w1.alloc (.cells #[.int .i64 0, .slice none 0 0] 32)) w2 := ext (by go_grown) hb2
  have g2 : Below w.heap.size w w2 := ext (ext g1 (by go_grown)) j2
  have R2 := Lib.hid (R1.out.ext j2)
  have E3 := Lib.hid (E2.out.ext j2)
  go_wp2_with fail
  refine (C4.out _ (HB.out.ext g2)).mono ?_
  rintro e w4 ⟨rfl, rfl⟩
  clear R0 R1 E2 j2 hb2 g1
  go_wp2
  go_loopw [13, 14, 15] (fun mo le i wr => ∃ k : Nat, k ≤ 4 ∧ i = .int .i64 k ∧ mo = .int .i64 (bestTo cf k).1 ∧ le = .int .i64 (bestTo cf k).2 ∧ Below w.heap.size w wr ∧ Blk wr w.heap.size #[.int .i64 0, .slice none 0 0] 32 ∧ Blk wr w1.heap.size #[.int .i64 0, .slice none 0 0] 32) (fun _ _ i _ => 4 - (intOf i).toNat)
  case atStart => exact ⟨0, Nat.zero_le _, rfl, rfl, rfl, g2, R2.out, E3.out⟩
  case round =>
    clear R2 E3 g2
    obtain ⟨k, hk, rfl, rfl, rfl, hbr, hR, hE⟩ := hrel
    have RR := Lib.hid hR
    have EE := Lib.hid hE
    clear hR hE
    by_cases hlt : k < 4
    · have q : decide ((k : Int) < 4) = true := by simp; omega
      have hyes := bestTo_yes (c := cf) (k := k)
      have hno := bestTo_no (c := cf) (k := k)
      generalize hbt : bestTo cf k = bt at *
      obtain ⟨md, le⟩ := bt
      dsimp only at hyes hno ⊢
      have HY := Lib.hid hyes
      have HN := Lib.hid hno
      have C2k := Lib.hid (C2.out k hlt)
      have C3k := Lib.hid (C3.out k)
      generalize cf k = ck at *
      clear hyes hno hbt
      go_wp2_with fail
      refine (C2k.out _ (HV.out.ext hbr) (HU.out.ext hbr)).mono ?_
      rintro e w5 ⟨v3, rfl, hown, hb3⟩
      have g3 : Below w.heap.size w w5 := ext hbr hb3
      have R5 := Lib.hid (RR.out.ext hb3)
      have E5 := Lib.hid (EE.out.ext hb3)
      have HI := Lib.hid hown.ints
      clear hown RR EE
      go_wp2_with fail
      refine (C3k.out _ _ (HB.out.ext (ext g3 (by go_grown))) (HI.out.ext (by go_grown))).mono ?_
      rintro e w6 ⟨rfl, hb6⟩
      have k6 : Below w5.heap.size w5 w6 := ext (by go_grown) hb6
      have g6 : Below w.heap.size w w6 := ext g3 k6
      have t6 := g6.size
      have R6 := Lib.hid ((R5.out.ext k6).alloc (.cells #[.int .i64 0, .slice none 0 0] 32))
      have E6 := Lib.hid ((E5.out.ext k6).alloc (.cells #[.int .i64 0, .slice none 0 0] 32))
      by_cases t1 : le < 0
      · have HR := Lib.hid (HY.out (.inl t1))
        go_wp2
        go_roundw
        case rel => exact ⟨k + 1, by omega, by go_num, by rw [HR.out], by rw [HR.out], by go_grown, R6.out, E6.out⟩
        case measure => simp [intOf]; omega
      · by_cases t2 : ck < le
        · have HR := Lib.hid (HY.out (.inr t2))
          go_wp2
          go_roundw
          case rel => exact ⟨k + 1, by omega, by go_num, by rw [HR.out], by rw [HR.out], by go_grown, R6.out, E6.out⟩
          case measure => simp [intOf]; omega
        · have HR := Lib.hid (HN.out (by omega))
          go_wp2
          go_roundw
          case rel => exact ⟨k + 1, by omega, by go_num, by rw [HR.out], by rw [HR.out], by go_grown, R6.out, E6.out⟩
          case measure => simp [intOf]; omega
    · obtain rfl : k = 4 := by omega
      generalize hbt : bestTo cf 4 = bt
      obtain ⟨md, le⟩ := bt
      have HBT := Lib.hid hbt
      clear hbt
      obtain ⟨p0, p1, p2, p3⟩ := EE.out.two
      obtain ⟨r0, r1, r2, r3⟩ := RR.out.two
      have lE := EE.out.lt
      go_wp2
      go_region
      all_goals go_wp2
      all_goals refine bodyPost_ret (by simp [results, Tryd.results23, go_sem, r0, r1, r2, r3]; try rfl) rfl ?_
      all_goals exact ⟨by rw [HBT.out] <;> rfl, by go_grown⟩

theorem rbest_any (bv tv lv : Value) (l a b : List Int) (c : Int) (w : World) (hb : Ints w bv l) (hv : Ints w tv a) (hu : Ints w lv b) :
    Calls Tryd.prog 23 #[bv, tv, lv, .int .i64 c] w fun e w' => e = .returned (.tuple #[.int .i64 (okI (bestE l a b c) (bestTo (costK l a b c) 4).1), .int .i64 (okI (bestE l a b c) (bestTo (costK l a b c) 4).2), .agg #[.int .i64 (bestE l a b c), .slice none 0 0]]) ∧ Below w.heap.size w w' := by
  by_cases he : edgeE a b c = 0
  · by_cases hl : l.length = a.length * a.length
    · cases hs : withinB l 0 255 with
      | true =>
        have hz := bestE_ok he hl hs
        rw [hz, okI_zero rfl, okI_zero rfl]
        exact rbest_ok bv tv lv l a b c w hb hv hu hz
      | false =>
        have hz : bestE l a b c = 3 := by unfold bestE; rw [if_pos he, if_pos hl, hs]; rfl
        rw [hz, okI_ne (by decide), okI_ne (by decide)]
        exact rbest_range bv tv lv l a b c w hb hv hu he hl hs
    · have hz : bestE l a b c = 14 := by unfold bestE; rw [if_pos he, if_neg hl]
      rw [hz, okI_ne (by decide), okI_ne (by decide)]
      exact rbest_fit bv tv lv l a b c w hb hv hu he hl
  · have hz : bestE l a b c = edgeE a b c := by unfold bestE; rw [if_neg he]
    rw [hz, okI_ne he, okI_ne he]
    exact rbest_no bv tv lv l a b c w hb hv hu he

end Go.Proofs.YtammgbohaaiicaaDoor
