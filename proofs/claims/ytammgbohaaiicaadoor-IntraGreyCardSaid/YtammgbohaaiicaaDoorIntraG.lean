/- kinlaw10.IntraGrey: the walk. -/
import Derived.Test.YtammgbohaaiicaaDoorIntraD
set_option linter.unusedSimpArgs false
set_option linter.unusedVariables false
namespace Go.Proofs.YtammgbohaaiicaaDoor
open Go.RowKit Go.Extern.Stop Go.Stop Go.Extern

theorem grey_top (W : Int) (a : List Int) (n : Nat) : mapTo (topAt W a 0 0) n = mapTo (fun _ => 128) n := mapTo_congr fun i _ => by unfold topAt sampV; rw [if_pos (by omega)]
theorem grey_left (W : Int) (a : List Int) (n : Nat) : mapTo (leftAt W a 0 0) n = mapTo (fun _ => 128) n := mapTo_congr fun i _ => by unfold leftAt sampV; rw [if_pos (by omega)]
theorem same_edge {n : Nat} (hn : n = 4 ∨ n = 8) {v : Int} (h0 : 0 ≤ v) (h1 : v ≤ 255) : edgeE (mapTo (fun _ => v) n) (mapTo (fun _ => v) n) v = 0 := by
  have hw : withinB (mapTo (fun _ => v) n) 0 255 = true := by rw [within_mapTo]; intro i _; exact ⟨h0, h1⟩
  exact edgeE_ok (by rw [length_mapTo]; exact hn) rfl hw hw h0 h1
/-- Neighbours that are all one sample: the contract. -/
theorem ppredict_same {n : Nat} (hn : n = 4 ∨ n = 8) {v : Int} (h0 : 0 ≤ v) (h1 : v ≤ 255) (m : Int) (hm : 0 ≤ m ∧ m ≤ 3) (tv lv : Value) (w : World) (hv : Ints w tv (mapTo (fun _ => v) n)) (hu : Ints w lv (mapTo (fun _ => v) n)) :
    Calls Tryd.prog 12 #[.int .i64 m, tv, lv, .int .i64 v] w fun e w' => ∃ v', e = .returned (.tuple #[v', .nilIface]) ∧ OwnInts w' w.heap.size v' (mapTo (fun _ => v) (n * n)) ∧ Below w.heap.size w w' := by
  have h := ppredict_any m tv lv _ _ v w hv hu
  have e : predE m (mapTo (fun _ => v) n) (mapTo (fun _ => v) n) v = 0 := predE_of (same_edge hn h0 h1) hm.1 hm.2
  have e2 : predL m (mapTo (fun _ => v) n) (mapTo (fun _ => v) n) v = mapTo (fun _ => v) (n * n) := by unfold predL; rw [okL_zero e, pred_same hn h0 h1]
  rw [e, e2] at h
  exact h
theorem within_same (v : Int) (n : Nat) : withinB (mapTo (fun _ => v) n) v v = true := by rw [within_mapTo]; intro i _; omega

set_option maxRecDepth 100000 in
set_option maxHeartbeats 8000000 in
theorem grey_w (v : Value) (W H : Int) (a : List Int) (n : Int) (w : World) (hv : FrameV w v W H a) (hg : TypeIs w) (h0 : 5000 < a.length) :
    Calls Tryd.prog 7 #[v, .int .i64 n] w fun e w' => e = .returned (.bool true) ∧ Below w.heap.size w w' := by
  have HG := Lib.hid hg
  have HV := Lib.hid hv
  obtain ⟨ao, cap, rfl, hp⟩ := hv.cells
  have hla := hp.len
  have BA0 := Lib.hid (Blk.new w #[.int .i64 W, .int .i64 H, .slice ao a.length cap] 42)
  clear hg hv hp
  go_enter Tryd.func7, Tryd.ntmps7
  have g0 : Below w.heap.size w w := Below.refl _ _
  go_wp2_with fail
  refine (first_any _ (HG.out.ext (by go_grown))).mono ?_
  rintro e w1 ⟨rfl, hb1⟩
  have j1 : Below w.heap.size w w1 := ext (by go_grown) hb1
  have g1 : Below w.heap.size w w1 := ext g0 j1
  have s1 := j1.size
  have t1 := g1.size
  have BA := Lib.hid (BA0.out.ext hb1)
  obtain ⟨BA0, BA1, BA2, BA3, BA4, BA5⟩ := (BA.out).three
  have BAl := (BA.out).lt
  go_wp2_with fail
  clear BA0 BA1 BA2 BA3 BA4 BA5 BAl
  refine (first_any _ ((HG.out.ext j1).ext (by go_grown))).mono ?_
  rintro e w2 ⟨rfl, hb2⟩
  have j2 : Below w1.heap.size w1 w2 := ext (by go_grown) hb2
  have g2 : Below w.heap.size w w2 := ext g1 j2
  have s2 := j2.size
  have t2 := g2.size
  go_wp2
  all_goals go_returns
  all_goals exact ⟨by first | rfl | (simp; done) | (simp; omega), g2⟩

set_option maxRecDepth 100000 in
set_option maxHeartbeats 8000000 in
theorem grey_m (v : Value) (W H : Int) (a : List Int) (n : Int) (w : World) (hv : FrameV w v W H a) (hg : TypeIs w) (h0 : a.length ≤ 5000) (h1 : mayB W H a = false) :
    Calls Tryd.prog 7 #[v, .int .i64 n] w fun e w' => e = .returned (.bool true) ∧ Below w.heap.size w w' := by
  have HG := Lib.hid hg
  have c1 := fun w hv => rmay_any v W H a w hv
  rw [h1] at c1
  have C1 := Lib.hid c1
  have HV := Lib.hid hv
  obtain ⟨ao, cap, rfl, hp⟩ := hv.cells
  have hla := hp.len
  have BA0 := Lib.hid (Blk.new w #[.int .i64 W, .int .i64 H, .slice ao a.length cap] 42)
  clear hg hv hp c1 h1
  go_enter Tryd.func7, Tryd.ntmps7
  have g0 : Below w.heap.size w w := Below.refl _ _
  go_wp2_with fail
  refine (first_any _ (HG.out.ext (by go_grown))).mono ?_
  rintro e w1 ⟨rfl, hb1⟩
  have j1 : Below w.heap.size w w1 := ext (by go_grown) hb1
  have g1 : Below w.heap.size w w1 := ext g0 j1
  have s1 := j1.size
  have t1 := g1.size
  have BA := Lib.hid (BA0.out.ext hb1)
  obtain ⟨BA0, BA1, BA2, BA3, BA4, BA5⟩ := (BA.out).three
  have BAl := (BA.out).lt
  go_wp2_with fail
  clear BA0 BA1 BA2 BA3 BA4 BA5 BAl
  refine (C1.out _ ((HV.out.ext j1).ext (by go_grown))).mono ?_
  rintro e w2 ⟨rfl, hb2⟩
  have j2 : Below w1.heap.size w1 w2 := ext (by go_grown) hb2
  have g2 : Below w.heap.size w w2 := ext g1 j2
  have s2 := j2.size
  have t2 := g2.size
  go_wp2_with fail
  refine (first_any _ (((HG.out.ext j1).ext j2).ext (by go_grown))).mono ?_
  rintro e w3 ⟨rfl, hb3⟩
  have j3 : Below w2.heap.size w2 w3 := ext (by go_grown) hb3
  have g3 : Below w.heap.size w w3 := ext g2 j3
  have s3 := j3.size
  have t3 := g3.size
  go_wp2
  all_goals go_returns
  all_goals exact ⟨by first | rfl | (simp; done) | (simp; omega), g3⟩

set_option maxRecDepth 100000 in
set_option maxHeartbeats 8000000 in
theorem grey_n (v : Value) (W H : Int) (a : List Int) (n : Int) (w : World) (hv : FrameV w v W H a) (hg : TypeIs w) (h0 : a.length ≤ 5000) (h1 : mayB W H a = true) (h2 : n ≠ 4 ∧ n ≠ 8) :
    Calls Tryd.prog 7 #[v, .int .i64 n] w fun e w' => e = .returned (.bool true) ∧ Below w.heap.size w w' := by
  have HG := Lib.hid hg
  have c1 := fun w hv => rmay_any v W H a w hv
  rw [h1] at c1
  have C1 := Lib.hid c1
  have q1 : (n != 4) = true := by simp; omega
  have q2 : (n != 8) = true := by simp; omega
  have HV := Lib.hid hv
  obtain ⟨ao, cap, rfl, hp⟩ := hv.cells
  have hla := hp.len
  have BA0 := Lib.hid (Blk.new w #[.int .i64 W, .int .i64 H, .slice ao a.length cap] 42)
  clear hg hv hp c1 h1 h2
  go_enter Tryd.func7, Tryd.ntmps7
  have g0 : Below w.heap.size w w := Below.refl _ _
  go_wp2_with fail
  refine (first_any _ (HG.out.ext (by go_grown))).mono ?_
  rintro e w1 ⟨rfl, hb1⟩
  have j1 : Below w.heap.size w w1 := ext (by go_grown) hb1
  have g1 : Below w.heap.size w w1 := ext g0 j1
  have s1 := j1.size
  have t1 := g1.size
  have BA := Lib.hid (BA0.out.ext hb1)
  obtain ⟨BA0, BA1, BA2, BA3, BA4, BA5⟩ := (BA.out).three
  have BAl := (BA.out).lt
  go_wp2_with fail
  clear BA0 BA1 BA2 BA3 BA4 BA5 BAl
  refine (C1.out _ ((HV.out.ext j1).ext (by go_grown))).mono ?_
  rintro e w2 ⟨rfl, hb2⟩
  have j2 : Below w1.heap.size w1 w2 := ext (by go_grown) hb2
  have g2 : Below w.heap.size w w2 := ext g1 j2
  have s2 := j2.size
  have t2 := g2.size
  go_wp2_with fail
  refine (first_any _ (((HG.out.ext j1).ext j2).ext (by go_grown))).mono ?_
  rintro e w3 ⟨rfl, hb3⟩
  have j3 : Below w2.heap.size w2 w3 := ext (by go_grown) hb3
  have g3 : Below w.heap.size w w3 := ext g2 j3
  have s3 := j3.size
  have t3 := g3.size
  go_wp2
  all_goals go_returns
  all_goals exact ⟨by first | rfl | (simp; done) | (simp; omega), g3⟩

set_option maxRecDepth 100000 in
set_option maxHeartbeats 8000000 in
theorem grey_ok4 (v : Value) (W H : Int) (a : List Int) (w : World) (hv : FrameV w v W H a) (hg : TypeIs w) (h0 : a.length ≤ 5000) (h1 : mayB W H a = true) :
    Calls Tryd.prog 7 #[v, .int .i64 4] w fun e w' => e = .returned (.bool true) ∧ Below w.heap.size w w' := by
  have HG := Lib.hid hg
  have c1 := fun w hv => rmay_any v W H a w hv
  rw [h1] at c1
  have C1 := Lib.hid c1
  have hm := mayB_iff.1 h1
  have c2 := fun w hv => pedges_any v W H a 0 0 4 w hv
  have hed : edB W H a 0 0 4 = true := by
    unfold edB; rw [h1]
    have := hm.w
    have := hm.h
    simp [inB]; omega
  have e1 : edTop W H a 0 0 4 = mapTo (fun _ => 128) 4 := by unfold edTop; rw [if_pos hed]; exact grey_top W a 4
  have e2 : edLeft W H a 0 0 4 = mapTo (fun _ => 128) 4 := by unfold edLeft; rw [if_pos hed]; exact grey_left W a 4
  have e3 : edCor W H a 0 0 4 = 128 := by unfold edCor; rw [if_pos hed]; unfold sampV; rw [if_pos (by omega)]
  rw [e1, e2, e3] at c2
  have C2 := Lib.hid c2
  have C3 := Lib.hid (fun m hm tv lv w hv hu => ppredict_same (n := 4) (by decide) (v := 128) (by omega) (by omega) m hm tv lv w hv hu)
  have c4 := fun v w hv => within_any v (mapTo (fun _ => 128) (4 * 4)) 128 128 w hv
  rw [within_same] at c4
  have C4 := Lib.hid c4
  have HV := Lib.hid hv
  obtain ⟨ao, cap, rfl, hp⟩ := hv.cells
  have hla := hp.len
  have BA0 := Lib.hid (Blk.new w #[.int .i64 W, .int .i64 H, .slice ao a.length cap] 42)
  clear hg hv hp c1 c2 c4 h1 hm hed e1 e2 e3
  go_enter Tryd.func7, Tryd.ntmps7
  have g0 : Below w.heap.size w w := Below.refl _ _
  go_wp2_with fail
  refine (first_any _ (HG.out.ext (by go_grown))).mono ?_
  rintro e w1 ⟨rfl, hb1⟩
  have j1 : Below w.heap.size w w1 := ext (by go_grown) hb1
  have g1 : Below w.heap.size w w1 := ext g0 j1
  have s1 := j1.size
  have t1 := g1.size
  have BA := Lib.hid (BA0.out.ext hb1)
  obtain ⟨BA0, BA1, BA2, BA3, BA4, BA5⟩ := (BA.out).three
  have BAl := (BA.out).lt
  go_wp2_with fail
  clear BA0 BA1 BA2 BA3 BA4 BA5 BAl
  refine (C1.out _ ((HV.out.ext j1).ext (by go_grown))).mono ?_
  rintro e w2 ⟨rfl, hb2⟩
  have j2 : Below w1.heap.size w1 w2 := ext (by go_grown) hb2
  have g2 : Below w.heap.size w w2 := ext g1 j2
  have s2 := j2.size
  have t2 := g2.size
  obtain ⟨BA0, BA1, BA2, BA3, BA4, BA5⟩ := ((BA.out.ext j2)).three
  have BAl := ((BA.out.ext j2)).lt
  go_wp2_with fail
  clear BA0 BA1 BA2 BA3 BA4 BA5 BAl
  refine (C2.out _ (((HV.out.ext j1).ext j2).ext (by go_grown))).mono ?_
  rintro e w3 ⟨x1, x2, rfl, hx1, hx2, hb3⟩
  have j3 : Below w2.heap.size w2 w3 := ext (by go_grown) hb3
  have g3 : Below w.heap.size w w3 := ext g2 j3
  have s3 := j3.size
  have t3 := g3.size
  have HA := Lib.hid (hx1.ints)
  have HB := Lib.hid (hx2.ints)
  clear hx1 hx2
  go_wp2
  go_loopw [8] (fun i wr => ∃ k : Nat, k ≤ 4 ∧ i = .int .i64 k ∧ Below w3.heap.size w3 wr) (fun i _ => 4 - (intOf i).toNat)
  case atStart => exact ⟨0, Nat.zero_le _, rfl, Below.refl _ _⟩
  case round =>
    obtain ⟨k, hk, rfl, hbr⟩ := hrel
    by_cases hlt : k < 4
    · have q : decide ((k : Int) < 4) = true := by simp; omega
      go_wp2_with fail
      refine (C3.out k (by omega) _ _ _ (HA.out.ext hbr) (HB.out.ext hbr)).mono ?_
      rintro e w5 ⟨v5, rfl, hown, hb5⟩
      have k5 : Below w3.heap.size w3 w5 := ext hbr hb5
      obtain ⟨vo, vc, rfl⟩ := hown.shape
      have HC := Lib.hid hown.ints
      clear hown
      rw [length_mapTo] at HC ⊢
      go_wp2_with fail
      refine (C4.out _ _ HC.out).mono ?_
      rintro e w' ⟨rfl, rfl⟩
      go_wp2
      go_roundw
      case rel => exact ⟨k + 1, by omega, by go_num, k5⟩
      case measure => simp [intOf]; omega
    · obtain rfl : k = 4 := by omega
      go_wp2_with fail
      refine (first_any _ ((((HG.out.ext j1).ext j2).ext j3).ext hbr)).mono ?_
      rintro e w6 ⟨rfl, hb6⟩
      have g6 : Below w.heap.size w w6 := ext (ext g3 hbr) hb6
      go_wp2
      go_returns
      exact ⟨rfl, g6⟩

set_option maxRecDepth 100000 in
set_option maxHeartbeats 8000000 in
theorem grey_ok8 (v : Value) (W H : Int) (a : List Int) (w : World) (hv : FrameV w v W H a) (hg : TypeIs w) (h0 : a.length ≤ 5000) (h1 : mayB W H a = true) :
    Calls Tryd.prog 7 #[v, .int .i64 8] w fun e w' => e = .returned (.bool true) ∧ Below w.heap.size w w' := by
  have HG := Lib.hid hg
  have c1 := fun w hv => rmay_any v W H a w hv
  rw [h1] at c1
  have C1 := Lib.hid c1
  have hm := mayB_iff.1 h1
  have c2 := fun w hv => pedges_any v W H a 0 0 8 w hv
  have hed : edB W H a 0 0 8 = true := by
    unfold edB; rw [h1]
    have := hm.w
    have := hm.h
    simp [inB]; omega
  have e1 : edTop W H a 0 0 8 = mapTo (fun _ => 128) 8 := by unfold edTop; rw [if_pos hed]; exact grey_top W a 8
  have e2 : edLeft W H a 0 0 8 = mapTo (fun _ => 128) 8 := by unfold edLeft; rw [if_pos hed]; exact grey_left W a 8
  have e3 : edCor W H a 0 0 8 = 128 := by unfold edCor; rw [if_pos hed]; unfold sampV; rw [if_pos (by omega)]
  rw [e1, e2, e3] at c2
  have C2 := Lib.hid c2
  have C3 := Lib.hid (fun m hm tv lv w hv hu => ppredict_same (n := 8) (by decide) (v := 128) (by omega) (by omega) m hm tv lv w hv hu)
  have c4 := fun v w hv => within_any v (mapTo (fun _ => 128) (8 * 8)) 128 128 w hv
  rw [within_same] at c4
  have C4 := Lib.hid c4
  have HV := Lib.hid hv
  obtain ⟨ao, cap, rfl, hp⟩ := hv.cells
  have hla := hp.len
  have BA0 := Lib.hid (Blk.new w #[.int .i64 W, .int .i64 H, .slice ao a.length cap] 42)
  clear hg hv hp c1 c2 c4 h1 hm hed e1 e2 e3
  go_enter Tryd.func7, Tryd.ntmps7
  have g0 : Below w.heap.size w w := Below.refl _ _
  go_wp2_with fail
  refine (first_any _ (HG.out.ext (by go_grown))).mono ?_
  rintro e w1 ⟨rfl, hb1⟩
  have j1 : Below w.heap.size w w1 := ext (by go_grown) hb1
  have g1 : Below w.heap.size w w1 := ext g0 j1
  have s1 := j1.size
  have t1 := g1.size
  have BA := Lib.hid (BA0.out.ext hb1)
  obtain ⟨BA0, BA1, BA2, BA3, BA4, BA5⟩ := (BA.out).three
  have BAl := (BA.out).lt
  go_wp2_with fail
  clear BA0 BA1 BA2 BA3 BA4 BA5 BAl
  refine (C1.out _ ((HV.out.ext j1).ext (by go_grown))).mono ?_
  rintro e w2 ⟨rfl, hb2⟩
  have j2 : Below w1.heap.size w1 w2 := ext (by go_grown) hb2
  have g2 : Below w.heap.size w w2 := ext g1 j2
  have s2 := j2.size
  have t2 := g2.size
  obtain ⟨BA0, BA1, BA2, BA3, BA4, BA5⟩ := ((BA.out.ext j2)).three
  have BAl := ((BA.out.ext j2)).lt
  go_wp2_with fail
  clear BA0 BA1 BA2 BA3 BA4 BA5 BAl
  refine (C2.out _ (((HV.out.ext j1).ext j2).ext (by go_grown))).mono ?_
  rintro e w3 ⟨x1, x2, rfl, hx1, hx2, hb3⟩
  have j3 : Below w2.heap.size w2 w3 := ext (by go_grown) hb3
  have g3 : Below w.heap.size w w3 := ext g2 j3
  have s3 := j3.size
  have t3 := g3.size
  have HA := Lib.hid (hx1.ints)
  have HB := Lib.hid (hx2.ints)
  clear hx1 hx2
  go_wp2
  go_loopw [8] (fun i wr => ∃ k : Nat, k ≤ 4 ∧ i = .int .i64 k ∧ Below w3.heap.size w3 wr) (fun i _ => 4 - (intOf i).toNat)
  case atStart => exact ⟨0, Nat.zero_le _, rfl, Below.refl _ _⟩
  case round =>
    obtain ⟨k, hk, rfl, hbr⟩ := hrel
    by_cases hlt : k < 4
    · have q : decide ((k : Int) < 4) = true := by simp; omega
      go_wp2_with fail
      refine (C3.out k (by omega) _ _ _ (HA.out.ext hbr) (HB.out.ext hbr)).mono ?_
      rintro e w5 ⟨v5, rfl, hown, hb5⟩
      have k5 : Below w3.heap.size w3 w5 := ext hbr hb5
      obtain ⟨vo, vc, rfl⟩ := hown.shape
      have HC := Lib.hid hown.ints
      clear hown
      rw [length_mapTo] at HC ⊢
      go_wp2_with fail
      refine (C4.out _ _ HC.out).mono ?_
      rintro e w' ⟨rfl, rfl⟩
      go_wp2
      go_roundw
      case rel => exact ⟨k + 1, by omega, by go_num, k5⟩
      case measure => simp [intOf]; omega
    · obtain rfl : k = 4 := by omega
      go_wp2_with fail
      refine (first_any _ ((((HG.out.ext j1).ext j2).ext j3).ext hbr)).mono ?_
      rintro e w6 ⟨rfl, hb6⟩
      have g6 : Below w.heap.size w w6 := ext (ext g3 hbr) hb6
      go_wp2
      go_returns
      exact ⟨rfl, g6⟩

theorem grey_walk (v : Value) (W H : Int) (a : List Int) (n : Int) (w : World) (hv : FrameV w v W H a) (hg : TypeIs w) :
    Calls Tryd.prog 7 #[v, .int .i64 n] w fun e w' => e = .returned (.bool true) ∧ Below w.heap.size w w' := by
  by_cases h0 : a.length ≤ 5000
  · cases h1 : mayB W H a with
    | false => exact grey_m v W H a n w hv hg h0 h1
    | true =>
      by_cases h2 : n = 4 ∨ n = 8
      · rcases h2 with rfl | rfl
        · exact grey_ok4 v W H a w hv hg h0 h1
        · exact grey_ok8 v W H a w hv hg h0 h1
      · exact grey_n v W H a n w hv hg h0 h1 (by omega)
  · exact grey_w v W H a n w hv hg (by omega)
end Go.Proofs.YtammgbohaaiicaaDoor
