/- kinlaw10.IntraSamples: the walk. -/
import Derived.Test.YtammgbohaaiicaaDoorIntraG
set_option linter.unusedSimpArgs false
set_option linter.unusedVariables false
namespace Go.Proofs.YtammgbohaaiicaaDoor
open Go.RowKit Go.Extern.Stop Go.Stop Go.Extern

set_option maxRecDepth 100000 in
set_option maxHeartbeats 8000000 in
theorem samples_w0 (m : Int) (tv lv : Value) (a b : List Int) (c v : Int) (w : World) (hv : Ints w tv a) (hu : Ints w lv b) (hg : TypeIs w)  (h0 : 5000 < a.length) :
    Calls Tryd.prog 4 #[.int .i64 m, tv, lv, .int .i64 c, .int .i64 v] w fun e w' => e = .returned (.bool true) ∧ Below w.heap.size w w' := by
  have HG := Lib.hid hg
  obtain ⟨ao0, cap0, rfl⟩ := hv.shape
  obtain ⟨ao1, cap1, rfl⟩ := hu.shape
  clear hg hv hu
  go_enter Tryd.func4, Tryd.ntmps4
  have g0 : Below w.heap.size w w := Below.refl _ _
  go_wp2_with fail
  refine (first_any _ (HG.out.ext (by go_grown))).mono ?_
  rintro e w1 ⟨rfl, hb1⟩
  have j1 : Below w.heap.size w w1 := ext (by go_grown) hb1
  have g1 : Below w.heap.size w w1 := ext g0 j1
  have s1 := j1.size
  have t1 := g1.size
  go_wp2_with fail
  refine (first_any _ ((HG.out.ext j1).ext (by go_grown))).mono ?_
  rintro e w2 ⟨rfl, hb2⟩
  have j2 : Below w1.heap.size w1 w2 := ext (by go_grown) hb2
  have g2 : Below w.heap.size w w2 := ext g1 j2
  have s2 := j2.size
  have t2 := g2.size
  go_wp2
  all_goals go_returns
  all_goals exact ⟨by first | rfl | (simp; done) | (simp; omega), g2⟩

set_option maxRecDepth 100000 in
set_option maxHeartbeats 8000000 in
theorem samples_w1 (m : Int) (tv lv : Value) (a b : List Int) (c v : Int) (w : World) (hv : Ints w tv a) (hu : Ints w lv b) (hg : TypeIs w) (h0 : a.length ≤ 5000) (h1 : 5000 < b.length) :
    Calls Tryd.prog 4 #[.int .i64 m, tv, lv, .int .i64 c, .int .i64 v] w fun e w' => e = .returned (.bool true) ∧ Below w.heap.size w w' := by
  have HG := Lib.hid hg
  obtain ⟨ao0, cap0, rfl⟩ := hv.shape
  obtain ⟨ao1, cap1, rfl⟩ := hu.shape
  clear hg hv hu
  go_enter Tryd.func4, Tryd.ntmps4
  have g0 : Below w.heap.size w w := Below.refl _ _
  go_wp2_with fail
  refine (first_any _ (HG.out.ext (by go_grown))).mono ?_
  rintro e w1 ⟨rfl, hb1⟩
  have j1 : Below w.heap.size w w1 := ext (by go_grown) hb1
  have g1 : Below w.heap.size w w1 := ext g0 j1
  have s1 := j1.size
  have t1 := g1.size
  go_wp2_with fail
  refine (first_any _ ((HG.out.ext j1).ext (by go_grown))).mono ?_
  rintro e w2 ⟨rfl, hb2⟩
  have j2 : Below w1.heap.size w1 w2 := ext (by go_grown) hb2
  have g2 : Below w.heap.size w w2 := ext g1 j2
  have s2 := j2.size
  have t2 := g2.size
  go_wp2
  all_goals go_returns
  all_goals exact ⟨by first | rfl | (simp; done) | (simp; omega), g2⟩

set_option maxRecDepth 100000 in
set_option maxHeartbeats 8000000 in
theorem samples_00 (m : Int) (tv lv : Value) (a b : List Int) (c v : Int) (w : World) (hv : Ints w tv a) (hu : Ints w lv b) (hg : TypeIs w) (h0 : a.length ≤ 5000) (h1 : b.length ≤ 5000) (hz : predE m a b c = 0) (h00 : v < 0) :
    Calls Tryd.prog 4 #[.int .i64 m, tv, lv, .int .i64 c, .int .i64 v] w fun e w' => e = .returned (.bool true) ∧ Below w.heap.size w w' := by
  have HG := Lib.hid hg
  have C1 := Lib.hid (fun w h1 h2 => ppredict_any m tv lv a b c w h1 h2)
  obtain ⟨he, -, -⟩ := predE_ok hz
  obtain ⟨hn0, hab, -, -, -, -⟩ := edgeE_zero he
  have hn8 : a.length ≤ 8 := by omega
  have e2 : predL m a b c = predV m a b c := by unfold predL; rw [okL_zero hz]
  rw [e2, hz] at C1
  have c4 := fun v w hv => within_any v (predV m a b c) 0 255 w hv
  rw [pred_within he] at c4
  have C4 := Lib.hid c4
  have hl := length_predV m a b c
  have hl2 : a.length * a.length ≤ 64 := Nat.mul_le_mul hn8 hn8
  generalize predV m a b c = l at *
  have qm : IntKind.i64.wrap ((a.length : Int) * a.length) = (l.length : Nat) := wrap_mulI (by rw [hl]; simp) (by omega)
  have ql : ((l.length : Int) != (l.length : Int)) = false := by simp
  clear hl hl2 c4 e2 hz he hn0 hab
  have HV := Lib.hid hv
  have HU := Lib.hid hu
  obtain ⟨ao0, cap0, rfl⟩ := hv.shape
  obtain ⟨ao1, cap1, rfl⟩ := hu.shape
  clear hg hv hu
  go_enter Tryd.func4, Tryd.ntmps4
  have g0 : Below w.heap.size w w := Below.refl _ _
  go_wp2_with fail
  refine (first_any _ (HG.out.ext (by go_grown))).mono ?_
  rintro e w1 ⟨rfl, hb1⟩
  have j1 : Below w.heap.size w w1 := ext (by go_grown) hb1
  have g1 : Below w.heap.size w w1 := ext g0 j1
  have s1 := j1.size
  have t1 := g1.size
  go_wp2_with fail
  refine (C1.out _ ((HV.out.ext j1).ext (by go_grown)) ((HU.out.ext j1).ext (by go_grown))).mono ?_
  rintro e w2 ⟨x1, rfl, hx1, hb2⟩
  have j2 : Below w1.heap.size w1 w2 := ext (by go_grown) hb2
  have g2 : Below w.heap.size w w2 := ext g1 j2
  have s2 := j2.size
  have t2 := g2.size
  obtain ⟨xo, xc, rfl⟩ := hx1.shape
  have HA := Lib.hid (hx1.ints)
  clear hx1
  go_wp2_with fail
  refine (C4.out _ _ (HA.out)).mono ?_
  rintro e w' ⟨rfl, rfl⟩
  go_wp2_with fail
  refine (first_any _ (((HG.out.ext j1).ext j2).ext (by go_grown))).mono ?_
  rintro e w3 ⟨rfl, hb3⟩
  have j3 : Below w2.heap.size w2 w3 := ext (by go_grown) hb3
  have g3 : Below w.heap.size w w3 := ext g2 j3
  have s3 := j3.size
  have t3 := g3.size
  go_wp2
  all_goals go_returns
  all_goals exact ⟨by first | rfl | (simp; done) | (simp; omega), g3⟩

set_option maxRecDepth 100000 in
set_option maxHeartbeats 8000000 in
theorem samples_01 (m : Int) (tv lv : Value) (a b : List Int) (c v : Int) (w : World) (hv : Ints w tv a) (hu : Ints w lv b) (hg : TypeIs w) (h0 : a.length ≤ 5000) (h1 : b.length ≤ 5000) (hz : predE m a b c = 0) (h00 : 0 ≤ v) (h11 : 255 < v) :
    Calls Tryd.prog 4 #[.int .i64 m, tv, lv, .int .i64 c, .int .i64 v] w fun e w' => e = .returned (.bool true) ∧ Below w.heap.size w w' := by
  have HG := Lib.hid hg
  have C1 := Lib.hid (fun w h1 h2 => ppredict_any m tv lv a b c w h1 h2)
  obtain ⟨he, -, -⟩ := predE_ok hz
  obtain ⟨hn0, hab, -, -, -, -⟩ := edgeE_zero he
  have hn8 : a.length ≤ 8 := by omega
  have e2 : predL m a b c = predV m a b c := by unfold predL; rw [okL_zero hz]
  rw [e2, hz] at C1
  have c4 := fun v w hv => within_any v (predV m a b c) 0 255 w hv
  rw [pred_within he] at c4
  have C4 := Lib.hid c4
  have hl := length_predV m a b c
  have hl2 : a.length * a.length ≤ 64 := Nat.mul_le_mul hn8 hn8
  generalize predV m a b c = l at *
  have qm : IntKind.i64.wrap ((a.length : Int) * a.length) = (l.length : Nat) := wrap_mulI (by rw [hl]; simp) (by omega)
  have ql : ((l.length : Int) != (l.length : Int)) = false := by simp
  clear hl hl2 c4 e2 hz he hn0 hab
  have HV := Lib.hid hv
  have HU := Lib.hid hu
  obtain ⟨ao0, cap0, rfl⟩ := hv.shape
  obtain ⟨ao1, cap1, rfl⟩ := hu.shape
  clear hg hv hu
  have h00' : ¬ v < 0 := by omega
  go_enter Tryd.func4, Tryd.ntmps4
  have g0 : Below w.heap.size w w := Below.refl _ _
  go_wp2_with fail
  refine (first_any _ (HG.out.ext (by go_grown))).mono ?_
  rintro e w1 ⟨rfl, hb1⟩
  have j1 : Below w.heap.size w w1 := ext (by go_grown) hb1
  have g1 : Below w.heap.size w w1 := ext g0 j1
  have s1 := j1.size
  have t1 := g1.size
  go_wp2_with fail
  refine (C1.out _ ((HV.out.ext j1).ext (by go_grown)) ((HU.out.ext j1).ext (by go_grown))).mono ?_
  rintro e w2 ⟨x1, rfl, hx1, hb2⟩
  have j2 : Below w1.heap.size w1 w2 := ext (by go_grown) hb2
  have g2 : Below w.heap.size w w2 := ext g1 j2
  have s2 := j2.size
  have t2 := g2.size
  obtain ⟨xo, xc, rfl⟩ := hx1.shape
  have HA := Lib.hid (hx1.ints)
  clear hx1
  go_wp2_with fail
  refine (C4.out _ _ (HA.out)).mono ?_
  rintro e w' ⟨rfl, rfl⟩
  go_wp2_with fail
  refine (first_any _ (((HG.out.ext j1).ext j2).ext (by go_grown))).mono ?_
  rintro e w3 ⟨rfl, hb3⟩
  have j3 : Below w2.heap.size w2 w3 := ext (by go_grown) hb3
  have g3 : Below w.heap.size w w3 := ext g2 j3
  have s3 := j3.size
  have t3 := g3.size
  go_wp2
  all_goals go_returns
  all_goals exact ⟨by first | rfl | (simp; done) | (simp; omega), g3⟩

set_option maxRecDepth 100000 in
set_option maxHeartbeats 8000000 in
theorem samples_02 (m : Int) (tv lv : Value) (a b : List Int) (c v : Int) (w : World) (hv : Ints w tv a) (hu : Ints w lv b) (hg : TypeIs w) (h0 : a.length ≤ 5000) (h1 : b.length ≤ 5000) (hz : predE m a b c = 0) (h00 : 0 ≤ v) (h11 : v ≤ 255) :
    Calls Tryd.prog 4 #[.int .i64 m, tv, lv, .int .i64 c, .int .i64 v] w fun e w' => e = .returned (.bool true) ∧ Below w.heap.size w w' := by
  have HG := Lib.hid hg
  have C1 := Lib.hid (fun w h1 h2 => ppredict_any m tv lv a b c w h1 h2)
  obtain ⟨he, -, -⟩ := predE_ok hz
  obtain ⟨hn0, hab, -, -, -, -⟩ := edgeE_zero he
  have hn8 : a.length ≤ 8 := by omega
  have e2 : predL m a b c = predV m a b c := by unfold predL; rw [okL_zero hz]
  rw [e2, hz] at C1
  have c4 := fun v w hv => within_any v (predV m a b c) 0 255 w hv
  rw [pred_within he] at c4
  have C4 := Lib.hid c4
  have hl := length_predV m a b c
  have hl2 : a.length * a.length ≤ 64 := Nat.mul_le_mul hn8 hn8
  generalize predV m a b c = l at *
  have qm : IntKind.i64.wrap ((a.length : Int) * a.length) = (l.length : Nat) := wrap_mulI (by rw [hl]; simp) (by omega)
  have ql : ((l.length : Int) != (l.length : Int)) = false := by simp
  clear hl hl2 c4 e2 hz he hn0 hab
  have HV := Lib.hid hv
  have HU := Lib.hid hu
  obtain ⟨ao0, cap0, rfl⟩ := hv.shape
  obtain ⟨ao1, cap1, rfl⟩ := hu.shape
  clear hg hv hu
  have h00' : ¬ v < 0 := by omega
  have h11' : ¬ 255 < v := by omega
  go_enter Tryd.func4, Tryd.ntmps4
  have g0 : Below w.heap.size w w := Below.refl _ _
  go_wp2_with fail
  refine (first_any _ (HG.out.ext (by go_grown))).mono ?_
  rintro e w1 ⟨rfl, hb1⟩
  have j1 : Below w.heap.size w w1 := ext (by go_grown) hb1
  have g1 : Below w.heap.size w w1 := ext g0 j1
  have s1 := j1.size
  have t1 := g1.size
  go_wp2_with fail
  refine (C1.out _ ((HV.out.ext j1).ext (by go_grown)) ((HU.out.ext j1).ext (by go_grown))).mono ?_
  rintro e w2 ⟨x1, rfl, hx1, hb2⟩
  have j2 : Below w1.heap.size w1 w2 := ext (by go_grown) hb2
  have g2 : Below w.heap.size w w2 := ext g1 j2
  have s2 := j2.size
  have t2 := g2.size
  obtain ⟨xo, xc, rfl⟩ := hx1.shape
  have HA := Lib.hid (hx1.ints)
  clear hx1
  go_wp2_with fail
  refine (C4.out _ _ (HA.out)).mono ?_
  rintro e w' ⟨rfl, rfl⟩
  go_wp2
  go_loopw [13] (fun i wr => ∃ n : Nat, (n = 4 ∨ n = 8 ∨ n = 12) ∧ i = .int .i64 n ∧ Below w2.heap.size w2 wr) (fun i _ => 12 - (intOf i).toNat)
  case atStart => exact ⟨4, .inl rfl, rfl, Below.refl _ _⟩
  case round =>
    obtain ⟨n, hn, rfl, hbr⟩ := hrel
    obtain ⟨wo, rfl⟩ : ∃ wo : World, wo = wr := ⟨_, rfl⟩
    have g0 := hbr
    clear hbr
    have HN := Lib.hid hn
    clear hn
    by_cases hle : n ≤ 8
    · have HN2 := Lib.hid (show n = 4 ∨ n = 8 from by have := HN.out; omega)
      have hn4 : 4 ≤ n := by have := HN2.out; omega
      have q : decide ((n : Int) ≤ 8) = true := by simp; omega
      obtain ⟨NN, hNN⟩ : ∃ NN, n * n = NN := ⟨_, rfl⟩
      have hNN2 : NN ≤ 64 := by rw [← hNN]; exact Nat.mul_le_mul hle hle
      have qm : IntKind.i64.wrap ((n : Int) * n) = (NN : Nat) := wrap_mulI (by rw [← hNN]; simp) (by omega)
      have qn : ((NN : Int) != (NN : Int)) = false := by simp
      have C5 := Lib.hid (fun m hm tv lv w hv hu => ppredict_same HN2.out h00 h11 m hm tv lv w hv hu)
      rw [hNN] at C5
      have c6 := fun u w hv => within_any u (mapTo (fun _ => v) NN) v v w hv
      rw [within_same] at c6
      have C6 := Lib.hid c6
      have HI := Lib.hid (show in64 v from by unfold in64; omega)
      clear c6 hNN
      go_wp2_with (at_make; refine wpList_make rfl _ _ rfl n rfl rfl rfl rfl (by omega) ?_)
      intro w3 hown hb3 hlt3
      have g3 : Below wo.heap.size wo w3 := hb3
      have HO := Lib.hid (show OwnInts w3 wo.heap.size (.slice (some ⟨wo.heap.size, 0, none⟩) n n) (overTo (fun _ => v) (List.replicate n 0) 0) from by rw [overTo_zero]; simpa using hown)
      clear hown hb3
      go_wp2
      go_loopw [15] (fun i wr => ∃ j : Nat, j ≤ n ∧ i = .int .i64 j ∧ OwnInts wr wo.heap.size (.slice (some ⟨wo.heap.size, 0, none⟩) n n) (overTo (fun _ => v) (List.replicate n 0) j) ∧ Below wo.heap.size wo wr) (fun i _ => n - (intOf i).toNat)
      case atStart => exact ⟨0, Nat.zero_le _, rfl, HO.out, g3⟩
      case round =>
        clear HO g3 hlt3
        obtain ⟨j, hj, rfl, hown, hbr⟩ := hrel
        by_cases hlj : j < n
        · have HO5 := Lib.hid hown
          clear hown
          obtain ⟨-, -, -, hcell, hfz⟩ := HO5.out.at
          have hc0 := hcell j (by rw [length_overTo, List.length_replicate]; exact hlj)
          have hf0 := hfz j
          have HS := Lib.hid (show OwnInts (wr.setCell ⟨wo.heap.size, j, none⟩ (.int .i64 v)) wo.heap.size (.slice (some ⟨wo.heap.size, 0, none⟩) n n) (overTo (fun _ => v) (List.replicate n 0) (j + 1)) from by
            rw [← overTo_succ (by rw [List.length_replicate]; exact hlj)]; exact HO5.out.set' j _ HI.out)
          generalize (overTo (fun _ => v) (List.replicate n 0) j).getD j 0 = z at *
          clear hcell hfz
          go_wp2
          go_roundw
          case rel => exact ⟨j + 1, by omega, by go_num, HS.out, hbr.setCell (Nat.le_refl _) _⟩
          case measure => simp [intOf]; omega
        · have e : j = n := by omega
          have HE := Lib.hid (show Ints wr (.slice (some ⟨wo.heap.size, 0, none⟩) n n) (mapTo (fun _ => v) n) from by rw [e, overTo_all (by simp)] at hown; exact hown.ints)
          obtain ⟨wf, rfl⟩ : ∃ wf : World, wf = wr := ⟨_, rfl⟩
          have g4 := hbr
          clear e hown hbr
          go_wp2
          go_loopw [16] (fun i wr => ∃ k : Nat, k ≤ 4 ∧ i = .int .i64 k ∧ Below wf.heap.size wf wr) (fun i _ => 4 - (intOf i).toNat)
          case atStart => exact ⟨0, Nat.zero_le _, rfl, Below.refl _ _⟩
          case round =>
            obtain ⟨k, hk, rfl, hbr⟩ := hrel
            by_cases hlt : k < 4
            · have q4 : decide ((k : Int) < 4) = true := by simp; omega
              go_wp2_with fail
              refine (C5.out k (by omega) _ _ _ (HE.out.ext hbr) (HE.out.ext hbr)).mono ?_
              rintro e w5 ⟨v5, rfl, hown, hb5⟩
              have k5 : Below wf.heap.size wf w5 := ext hbr hb5
              obtain ⟨vo, vc, rfl⟩ := hown.shape
              have HC := Lib.hid hown.ints
              clear hown
              rw [length_mapTo] at HC ⊢
              go_wp2_with fail
              refine (C6.out _ _ HC.out).mono ?_
              rintro e w' ⟨rfl, rfl⟩
              go_wp2
              go_roundw
              case rel => exact ⟨k + 1, by omega, by go_num, k5⟩
              case measure => simp [intOf]; omega
            · obtain rfl : k = 4 := by omega
              go_wp2
              go_roundw
              case rel => exact ⟨n + 4, by have := HN2.out; omega, by go_num, ext g0 (ext g4 hbr)⟩
              case measure => simp [intOf]; omega
    · obtain rfl : n = 12 := by have := HN.out; omega
      go_wp2_with fail
      refine (first_any _ (((HG.out.ext j1).ext j2).ext g0)).mono ?_
      rintro e w6 ⟨rfl, hb6⟩
      have g6 : Below w.heap.size w w6 := ext (ext g2 g0) hb6
      go_wp2
      go_returns
      exact ⟨rfl, g6⟩

set_option maxRecDepth 100000 in
set_option maxHeartbeats 8000000 in
theorem samples_10 (m : Int) (tv lv : Value) (a b : List Int) (c v : Int) (w : World) (hv : Ints w tv a) (hu : Ints w lv b) (hg : TypeIs w) (h0 : a.length ≤ 5000) (h1 : b.length ≤ 5000) (hz : predE m a b c ≠ 0) (h00 : v < 0) :
    Calls Tryd.prog 4 #[.int .i64 m, tv, lv, .int .i64 c, .int .i64 v] w fun e w' => e = .returned (.bool true) ∧ Below w.heap.size w w' := by
  have HG := Lib.hid hg
  have C1 := Lib.hid (fun w h1 h2 => ppredict_any m tv lv a b c w h1 h2)
  have hk : (predE m a b c == 0) = false := by simpa using hz
  generalize predE m a b c = k0 at *
  generalize predL m a b c = l at *
  clear hz
  have HV := Lib.hid hv
  have HU := Lib.hid hu
  obtain ⟨ao0, cap0, rfl⟩ := hv.shape
  obtain ⟨ao1, cap1, rfl⟩ := hu.shape
  clear hg hv hu
  go_enter Tryd.func4, Tryd.ntmps4
  have g0 : Below w.heap.size w w := Below.refl _ _
  go_wp2_with fail
  refine (first_any _ (HG.out.ext (by go_grown))).mono ?_
  rintro e w1 ⟨rfl, hb1⟩
  have j1 : Below w.heap.size w w1 := ext (by go_grown) hb1
  have g1 : Below w.heap.size w w1 := ext g0 j1
  have s1 := j1.size
  have t1 := g1.size
  go_wp2_with fail
  refine (C1.out _ ((HV.out.ext j1).ext (by go_grown)) ((HU.out.ext j1).ext (by go_grown))).mono ?_
  rintro e w2 ⟨x1, rfl, hx1, hb2⟩
  have j2 : Below w1.heap.size w1 w2 := ext (by go_grown) hb2
  have g2 : Below w.heap.size w w2 := ext g1 j2
  have s2 := j2.size
  have t2 := g2.size
  obtain ⟨xo, xc, rfl⟩ := hx1.shape
  have HA := Lib.hid (hx1.ints)
  clear hx1
  go_wp2_with fail
  refine (first_any _ (((HG.out.ext j1).ext j2).ext (by go_grown))).mono ?_
  rintro e w3 ⟨rfl, hb3⟩
  have j3 : Below w2.heap.size w2 w3 := ext (by go_grown) hb3
  have g3 : Below w.heap.size w w3 := ext g2 j3
  have s3 := j3.size
  have t3 := g3.size
  go_wp2
  all_goals go_returns
  all_goals exact ⟨by first | rfl | (simp; done) | (simp; omega), g3⟩

set_option maxRecDepth 100000 in
set_option maxHeartbeats 8000000 in
theorem samples_11 (m : Int) (tv lv : Value) (a b : List Int) (c v : Int) (w : World) (hv : Ints w tv a) (hu : Ints w lv b) (hg : TypeIs w) (h0 : a.length ≤ 5000) (h1 : b.length ≤ 5000) (hz : predE m a b c ≠ 0) (h00 : 0 ≤ v) (h11 : 255 < v) :
    Calls Tryd.prog 4 #[.int .i64 m, tv, lv, .int .i64 c, .int .i64 v] w fun e w' => e = .returned (.bool true) ∧ Below w.heap.size w w' := by
  have HG := Lib.hid hg
  have C1 := Lib.hid (fun w h1 h2 => ppredict_any m tv lv a b c w h1 h2)
  have hk : (predE m a b c == 0) = false := by simpa using hz
  generalize predE m a b c = k0 at *
  generalize predL m a b c = l at *
  clear hz
  have HV := Lib.hid hv
  have HU := Lib.hid hu
  obtain ⟨ao0, cap0, rfl⟩ := hv.shape
  obtain ⟨ao1, cap1, rfl⟩ := hu.shape
  clear hg hv hu
  have h00' : ¬ v < 0 := by omega
  go_enter Tryd.func4, Tryd.ntmps4
  have g0 : Below w.heap.size w w := Below.refl _ _
  go_wp2_with fail
  refine (first_any _ (HG.out.ext (by go_grown))).mono ?_
  rintro e w1 ⟨rfl, hb1⟩
  have j1 : Below w.heap.size w w1 := ext (by go_grown) hb1
  have g1 : Below w.heap.size w w1 := ext g0 j1
  have s1 := j1.size
  have t1 := g1.size
  go_wp2_with fail
  refine (C1.out _ ((HV.out.ext j1).ext (by go_grown)) ((HU.out.ext j1).ext (by go_grown))).mono ?_
  rintro e w2 ⟨x1, rfl, hx1, hb2⟩
  have j2 : Below w1.heap.size w1 w2 := ext (by go_grown) hb2
  have g2 : Below w.heap.size w w2 := ext g1 j2
  have s2 := j2.size
  have t2 := g2.size
  obtain ⟨xo, xc, rfl⟩ := hx1.shape
  have HA := Lib.hid (hx1.ints)
  clear hx1
  go_wp2_with fail
  refine (first_any _ (((HG.out.ext j1).ext j2).ext (by go_grown))).mono ?_
  rintro e w3 ⟨rfl, hb3⟩
  have j3 : Below w2.heap.size w2 w3 := ext (by go_grown) hb3
  have g3 : Below w.heap.size w w3 := ext g2 j3
  have s3 := j3.size
  have t3 := g3.size
  go_wp2
  all_goals go_returns
  all_goals exact ⟨by first | rfl | (simp; done) | (simp; omega), g3⟩

set_option maxRecDepth 100000 in
set_option maxHeartbeats 8000000 in
theorem samples_12 (m : Int) (tv lv : Value) (a b : List Int) (c v : Int) (w : World) (hv : Ints w tv a) (hu : Ints w lv b) (hg : TypeIs w) (h0 : a.length ≤ 5000) (h1 : b.length ≤ 5000) (hz : predE m a b c ≠ 0) (h00 : 0 ≤ v) (h11 : v ≤ 255) :
    Calls Tryd.prog 4 #[.int .i64 m, tv, lv, .int .i64 c, .int .i64 v] w fun e w' => e = .returned (.bool true) ∧ Below w.heap.size w w' := by
  have HG := Lib.hid hg
  have C1 := Lib.hid (fun w h1 h2 => ppredict_any m tv lv a b c w h1 h2)
  have hk : (predE m a b c == 0) = false := by simpa using hz
  generalize predE m a b c = k0 at *
  generalize predL m a b c = l at *
  clear hz
  have HV := Lib.hid hv
  have HU := Lib.hid hu
  obtain ⟨ao0, cap0, rfl⟩ := hv.shape
  obtain ⟨ao1, cap1, rfl⟩ := hu.shape
  clear hg hv hu
  have h00' : ¬ v < 0 := by omega
  have h11' : ¬ 255 < v := by omega
  go_enter Tryd.func4, Tryd.ntmps4
  have g0 : Below w.heap.size w w := Below.refl _ _
  go_wp2_with fail
  refine (first_any _ (HG.out.ext (by go_grown))).mono ?_
  rintro e w1 ⟨rfl, hb1⟩
  have j1 : Below w.heap.size w w1 := ext (by go_grown) hb1
  have g1 : Below w.heap.size w w1 := ext g0 j1
  have s1 := j1.size
  have t1 := g1.size
  go_wp2_with fail
  refine (C1.out _ ((HV.out.ext j1).ext (by go_grown)) ((HU.out.ext j1).ext (by go_grown))).mono ?_
  rintro e w2 ⟨x1, rfl, hx1, hb2⟩
  have j2 : Below w1.heap.size w1 w2 := ext (by go_grown) hb2
  have g2 : Below w.heap.size w w2 := ext g1 j2
  have s2 := j2.size
  have t2 := g2.size
  obtain ⟨xo, xc, rfl⟩ := hx1.shape
  have HA := Lib.hid (hx1.ints)
  clear hx1
  go_wp2
  go_loopw [13] (fun i wr => ∃ n : Nat, (n = 4 ∨ n = 8 ∨ n = 12) ∧ i = .int .i64 n ∧ Below w2.heap.size w2 wr) (fun i _ => 12 - (intOf i).toNat)
  case atStart => exact ⟨4, .inl rfl, rfl, Below.refl _ _⟩
  case round =>
    obtain ⟨n, hn, rfl, hbr⟩ := hrel
    obtain ⟨wo, rfl⟩ : ∃ wo : World, wo = wr := ⟨_, rfl⟩
    have g0 := hbr
    clear hbr
    have HN := Lib.hid hn
    clear hn
    by_cases hle : n ≤ 8
    · have HN2 := Lib.hid (show n = 4 ∨ n = 8 from by have := HN.out; omega)
      have hn4 : 4 ≤ n := by have := HN2.out; omega
      have q : decide ((n : Int) ≤ 8) = true := by simp; omega
      obtain ⟨NN, hNN⟩ : ∃ NN, n * n = NN := ⟨_, rfl⟩
      have hNN2 : NN ≤ 64 := by rw [← hNN]; exact Nat.mul_le_mul hle hle
      have qm : IntKind.i64.wrap ((n : Int) * n) = (NN : Nat) := wrap_mulI (by rw [← hNN]; simp) (by omega)
      have qn : ((NN : Int) != (NN : Int)) = false := by simp
      have C5 := Lib.hid (fun m hm tv lv w hv hu => ppredict_same HN2.out h00 h11 m hm tv lv w hv hu)
      rw [hNN] at C5
      have c6 := fun u w hv => within_any u (mapTo (fun _ => v) NN) v v w hv
      rw [within_same] at c6
      have C6 := Lib.hid c6
      have HI := Lib.hid (show in64 v from by unfold in64; omega)
      clear c6 hNN
      go_wp2_with (at_make; refine wpList_make rfl _ _ rfl n rfl rfl rfl rfl (by omega) ?_)
      intro w3 hown hb3 hlt3
      have g3 : Below wo.heap.size wo w3 := hb3
      have HO := Lib.hid (show OwnInts w3 wo.heap.size (.slice (some ⟨wo.heap.size, 0, none⟩) n n) (overTo (fun _ => v) (List.replicate n 0) 0) from by rw [overTo_zero]; simpa using hown)
      clear hown hb3
      go_wp2
      go_loopw [15] (fun i wr => ∃ j : Nat, j ≤ n ∧ i = .int .i64 j ∧ OwnInts wr wo.heap.size (.slice (some ⟨wo.heap.size, 0, none⟩) n n) (overTo (fun _ => v) (List.replicate n 0) j) ∧ Below wo.heap.size wo wr) (fun i _ => n - (intOf i).toNat)
      case atStart => exact ⟨0, Nat.zero_le _, rfl, HO.out, g3⟩
      case round =>
        clear HO g3 hlt3
        obtain ⟨j, hj, rfl, hown, hbr⟩ := hrel
        by_cases hlj : j < n
        · have HO5 := Lib.hid hown
          clear hown
          obtain ⟨-, -, -, hcell, hfz⟩ := HO5.out.at
          have hc0 := hcell j (by rw [length_overTo, List.length_replicate]; exact hlj)
          have hf0 := hfz j
          have HS := Lib.hid (show OwnInts (wr.setCell ⟨wo.heap.size, j, none⟩ (.int .i64 v)) wo.heap.size (.slice (some ⟨wo.heap.size, 0, none⟩) n n) (overTo (fun _ => v) (List.replicate n 0) (j + 1)) from by
            rw [← overTo_succ (by rw [List.length_replicate]; exact hlj)]; exact HO5.out.set' j _ HI.out)
          generalize (overTo (fun _ => v) (List.replicate n 0) j).getD j 0 = z at *
          clear hcell hfz
          go_wp2
          go_roundw
          case rel => exact ⟨j + 1, by omega, by go_num, HS.out, hbr.setCell (Nat.le_refl _) _⟩
          case measure => simp [intOf]; omega
        · have e : j = n := by omega
          have HE := Lib.hid (show Ints wr (.slice (some ⟨wo.heap.size, 0, none⟩) n n) (mapTo (fun _ => v) n) from by rw [e, overTo_all (by simp)] at hown; exact hown.ints)
          obtain ⟨wf, rfl⟩ : ∃ wf : World, wf = wr := ⟨_, rfl⟩
          have g4 := hbr
          clear e hown hbr
          go_wp2
          go_loopw [16] (fun i wr => ∃ k : Nat, k ≤ 4 ∧ i = .int .i64 k ∧ Below wf.heap.size wf wr) (fun i _ => 4 - (intOf i).toNat)
          case atStart => exact ⟨0, Nat.zero_le _, rfl, Below.refl _ _⟩
          case round =>
            obtain ⟨k, hk, rfl, hbr⟩ := hrel
            by_cases hlt : k < 4
            · have q4 : decide ((k : Int) < 4) = true := by simp; omega
              go_wp2_with fail
              refine (C5.out k (by omega) _ _ _ (HE.out.ext hbr) (HE.out.ext hbr)).mono ?_
              rintro e w5 ⟨v5, rfl, hown, hb5⟩
              have k5 : Below wf.heap.size wf w5 := ext hbr hb5
              obtain ⟨vo, vc, rfl⟩ := hown.shape
              have HC := Lib.hid hown.ints
              clear hown
              rw [length_mapTo] at HC ⊢
              go_wp2_with fail
              refine (C6.out _ _ HC.out).mono ?_
              rintro e w' ⟨rfl, rfl⟩
              go_wp2
              go_roundw
              case rel => exact ⟨k + 1, by omega, by go_num, k5⟩
              case measure => simp [intOf]; omega
            · obtain rfl : k = 4 := by omega
              go_wp2
              go_roundw
              case rel => exact ⟨n + 4, by have := HN2.out; omega, by go_num, ext g0 (ext g4 hbr)⟩
              case measure => simp [intOf]; omega
    · obtain rfl : n = 12 := by have := HN.out; omega
      go_wp2_with fail
      refine (first_any _ (((HG.out.ext j1).ext j2).ext g0)).mono ?_
      rintro e w6 ⟨rfl, hb6⟩
      have g6 : Below w.heap.size w w6 := ext (ext g2 g0) hb6
      go_wp2
      go_returns
      exact ⟨rfl, g6⟩

theorem samples_ok (m : Int) (tv lv : Value) (a b : List Int) (c v : Int) (w : World) (hv : Ints w tv a) (hu : Ints w lv b) (hg : TypeIs w) (h0 : a.length ≤ 5000) (h1 : b.length ≤ 5000) :
    Calls Tryd.prog 4 #[.int .i64 m, tv, lv, .int .i64 c, .int .i64 v] w fun e w' => e = .returned (.bool true) ∧ Below w.heap.size w w' := by
  by_cases hz : predE m a b c = 0
  · by_cases k0 : 0 ≤ v
    · by_cases k1 : v ≤ 255
      · exact samples_02 m tv lv a b c v w hv hu hg h0 h1 hz k0 k1
      · exact samples_01 m tv lv a b c v w hv hu hg h0 h1 hz k0 (by omega)
    · exact samples_00 m tv lv a b c v w hv hu hg h0 h1 hz (by omega)
  · by_cases k0 : 0 ≤ v
    · by_cases k1 : v ≤ 255
      · exact samples_12 m tv lv a b c v w hv hu hg h0 h1 hz k0 k1
      · exact samples_11 m tv lv a b c v w hv hu hg h0 h1 hz k0 (by omega)
    · exact samples_10 m tv lv a b c v w hv hu hg h0 h1 hz (by omega)

theorem samples_walk (m : Int) (tv lv : Value) (a b : List Int) (c v : Int) (w : World) (hv : Ints w tv a) (hu : Ints w lv b) (hg : TypeIs w) :
    Calls Tryd.prog 4 #[.int .i64 m, tv, lv, .int .i64 c, .int .i64 v] w fun e w' => e = .returned (.bool true) ∧ Below w.heap.size w w' := by
  by_cases h0 : a.length ≤ 5000
  · by_cases h1 : b.length ≤ 5000
    · exact samples_ok m tv lv a b c v w hv hu hg h0 h1
    · exact samples_w1 m tv lv a b c v w hv hu hg h0 (by omega)
  · exact samples_w0 m tv lv a b c v w hv hu hg  (by omega)
end Go.Proofs.YtammgbohaaiicaaDoor
