/- kinlaw17.StatsLeast: the walk. -/
import Derived.Test.YtmdpfjjbehpnbaaDoorStatsS
set_option linter.unusedSimpArgs false
set_option linter.unusedVariables false
namespace Go.Proofs.YtmdpfjjbehpnbaaDoor
open Go.RowKit Go.Extern.Stop Go.Stop Go.Extern
theorem fr_eq {f p : Fr} (h : (decide (f.W = p.W) && (decide (f.H = p.H) && decide (f.pix = p.pix))) = true) : f = p := by
  simp only [Bool.and_eq_true, decide_eq_true_eq] at h
  obtain ⟨h1, h2, h3⟩ := h
  cases f; cases p; simp_all
theorem seven_ext {A w5 : World} (hb : Below A.heap.size A w5) {b c d o0 o1 o2 p0 p1 p2 q0 : Nat} {x0 x1 x2 y0 y1 y2 z0 : Value}
    (h : A.cell? ⟨b, o0, none⟩ = some x0 ∧ A.cell? ⟨b, o1, none⟩ = some x1 ∧ A.cell? ⟨b, o2, none⟩ = some x2 ∧ A.cell? ⟨c, p0, none⟩ = some y0 ∧ A.cell? ⟨c, p1, none⟩ = some y1 ∧ A.cell? ⟨c, p2, none⟩ = some y2 ∧ A.cell? ⟨d, q0, none⟩ = some z0) :
    w5.cell? ⟨b, o0, none⟩ = some x0 ∧ w5.cell? ⟨b, o1, none⟩ = some x1 ∧ w5.cell? ⟨b, o2, none⟩ = some x2 ∧ w5.cell? ⟨c, p0, none⟩ = some y0 ∧ w5.cell? ⟨c, p1, none⟩ = some y1 ∧ w5.cell? ⟨c, p2, none⟩ = some y2 ∧ w5.cell? ⟨d, q0, none⟩ = some z0 := by
  have k : ∀ {p : Addr} {x : Value}, A.cell? p = some x → w5.cell? p = some x := fun {p x} hp => (hb.cell (World.block_lt_of_cell? A p hp)).trans hp
  exact ⟨k h.1, k h.2.1, k h.2.2.1, k h.2.2.2.1, k h.2.2.2.2.1, k h.2.2.2.2.2.1, k h.2.2.2.2.2.2⟩

set_option maxRecDepth 100000 in
set_option maxHeartbeats 16000000 in
theorem least_p (v : Value) (fs : List Fr) (gop : Int) (w : World) (hv : Frames w v fs) (hg : TypeIs w) (hp : pixB fs = false) :
    Calls Tryd.prog 5 #[v, .int .i64 gop] w fun e w' => e = .returned (.bool true) ∧ Below w.heap.size w w' := by
  have HG := Lib.hid hg
  have HV := Lib.hid hv
  have c1 := fun w h => pix_any v fs w h
  rw [hp] at c1
  have C1 := Lib.hid c1
  clear hv hg c1 hp
  go_enter Tryd.func5, Tryd.ntmps5
  have g0 : Below w.heap.size w w := Below.refl _ _
  go_wp2_with fail
  refine (first_any _ (HG.out.ext (by go_grown))).mono ?_
  rintro e w1 ⟨rfl, hb1⟩
  have j1 : Below w.heap.size w w1 := ext (by go_grown) hb1
  have g1 : Below w.heap.size w w1 := ext g0 j1
  have s1 := j1.size
  have t1 := g1.size
  go_wp2_with fail
  refine (C1.out _ ((HV.out.ext j1).ext (by go_grown))).mono ?_
  rintro e w2 ⟨rfl, hb2⟩
  have j2 : Below w1.heap.size w1 w2 := ext (by go_grown) hb2
  have g2 : Below w.heap.size w w2 := ext g1 j2
  have s2 := j2.size
  have t2 := g2.size
  go_wp2_with fail
  refine (first_any _ (((HG.out.ext j1).ext j2).ext (by go_grown))).mono ?_
  rintro e w3 ⟨rfl, hb3⟩
  have j3 : Below w2.heap.size w2 w3 := ext (by go_grown) hb3
  have g3 : Below w.heap.size w w3 := ext g2 j3
  have s3 := j3.size
  have t3 := g3.size
  go_wp2
  all_goals go_returns
  all_goals exact ⟨by first | rfl | (simp; done) | (simp; omega), g3⟩

set_option maxRecDepth 100000 in
set_option maxHeartbeats 16000000 in
theorem least_r0 (v : Value) (fs : List Fr) (gop : Int) (w : World) (hv : Frames w v fs) (hg : TypeIs w) (hp : pixB fs = true) (h1 : gop < 1) :
    Calls Tryd.prog 5 #[v, .int .i64 gop] w fun e w' => e = .returned (.bool true) ∧ Below w.heap.size w w' := by
  have HG := Lib.hid hg
  have HV := Lib.hid hv
  have c1 := fun w h => pix_any v fs w h
  rw [hp] at c1
  have C1 := Lib.hid c1
  obtain ⟨n, hn⟩ : ∃ n, fs.length = n := ⟨_, rfl⟩
  obtain ⟨ao, cap, rfl⟩ := hv.shapeN hn
  clear hv hg c1 hp hn
  go_enter Tryd.func5, Tryd.ntmps5
  have g0 : Below w.heap.size w w := Below.refl _ _
  go_wp2_with fail
  refine (first_any _ (HG.out.ext (by go_grown))).mono ?_
  rintro e w1 ⟨rfl, hb1⟩
  have j1 : Below w.heap.size w w1 := ext (by go_grown) hb1
  have g1 : Below w.heap.size w w1 := ext g0 j1
  have s1 := j1.size
  have t1 := g1.size
  go_wp2_with fail
  refine (C1.out _ ((HV.out.ext j1).ext (by go_grown))).mono ?_
  rintro e w2 ⟨rfl, hb2⟩
  have j2 : Below w1.heap.size w1 w2 := ext (by go_grown) hb2
  have g2 : Below w.heap.size w w2 := ext g1 j2
  have s2 := j2.size
  have t2 := g2.size
  go_wp2_with fail
  refine (first_any _ (((HG.out.ext j1).ext j2).ext (by go_grown))).mono ?_
  rintro e w3 ⟨rfl, hb3⟩
  have j3 : Below w2.heap.size w2 w3 := ext (by go_grown) hb3
  have g3 : Below w.heap.size w w3 := ext g2 j3
  have s3 := j3.size
  have t3 := g3.size
  go_wp2
  all_goals go_returns
  all_goals exact ⟨by first | rfl | (simp; done) | (simp; omega), g3⟩

set_option maxRecDepth 100000 in
set_option maxHeartbeats 16000000 in
theorem least_r1 (v : Value) (fs : List Fr) (gop : Int) (w : World) (hv : Frames w v fs) (hg : TypeIs w) (hp : pixB fs = true) (h0 : 1 ≤ gop) (h1 : 16 < gop) :
    Calls Tryd.prog 5 #[v, .int .i64 gop] w fun e w' => e = .returned (.bool true) ∧ Below w.heap.size w w' := by
  have HG := Lib.hid hg
  have HV := Lib.hid hv
  have c1 := fun w h => pix_any v fs w h
  rw [hp] at c1
  have C1 := Lib.hid c1
  obtain ⟨n, hn⟩ : ∃ n, fs.length = n := ⟨_, rfl⟩
  obtain ⟨ao, cap, rfl⟩ := hv.shapeN hn
  clear hv hg c1 hp hn
  go_enter Tryd.func5, Tryd.ntmps5
  have g0 : Below w.heap.size w w := Below.refl _ _
  go_wp2_with fail
  refine (first_any _ (HG.out.ext (by go_grown))).mono ?_
  rintro e w1 ⟨rfl, hb1⟩
  have j1 : Below w.heap.size w w1 := ext (by go_grown) hb1
  have g1 : Below w.heap.size w w1 := ext g0 j1
  have s1 := j1.size
  have t1 := g1.size
  go_wp2_with fail
  refine (C1.out _ ((HV.out.ext j1).ext (by go_grown))).mono ?_
  rintro e w2 ⟨rfl, hb2⟩
  have j2 : Below w1.heap.size w1 w2 := ext (by go_grown) hb2
  have g2 : Below w.heap.size w w2 := ext g1 j2
  have s2 := j2.size
  have t2 := g2.size
  go_wp2_with fail
  refine (first_any _ (((HG.out.ext j1).ext j2).ext (by go_grown))).mono ?_
  rintro e w3 ⟨rfl, hb3⟩
  have j3 : Below w2.heap.size w2 w3 := ext (by go_grown) hb3
  have g3 : Below w.heap.size w w3 := ext g2 j3
  have s3 := j3.size
  have t3 := g3.size
  go_wp2
  all_goals go_returns
  all_goals exact ⟨by first | rfl | (simp; done) | (simp; omega), g3⟩

set_option maxRecDepth 100000 in
set_option maxHeartbeats 16000000 in
theorem least_n (v : Value) (fs : List Fr) (gop : Int) (w : World) (hv : Frames w v fs) (hg : TypeIs w) (hp : pixB fs = true) (h0 : 1 ≤ gop) (h1 : gop ≤ 16) (hl : fs.length = 0) :
    Calls Tryd.prog 5 #[v, .int .i64 gop] w fun e w' => e = .returned (.bool true) ∧ Below w.heap.size w w' := by
  have HG := Lib.hid hg
  have HV := Lib.hid hv
  have c1 := fun w h => pix_any v fs w h
  rw [hp] at c1
  have C1 := Lib.hid c1
  obtain ⟨ao, cap, rfl⟩ := hv.shapeN hl
  clear hv hg c1 hp hl
  go_enter Tryd.func5, Tryd.ntmps5
  have g0 : Below w.heap.size w w := Below.refl _ _
  go_wp2_with fail
  refine (first_any _ (HG.out.ext (by go_grown))).mono ?_
  rintro e w1 ⟨rfl, hb1⟩
  have j1 : Below w.heap.size w w1 := ext (by go_grown) hb1
  have g1 : Below w.heap.size w w1 := ext g0 j1
  have s1 := j1.size
  have t1 := g1.size
  go_wp2_with fail
  refine (C1.out _ ((HV.out.ext j1).ext (by go_grown))).mono ?_
  rintro e w2 ⟨rfl, hb2⟩
  have j2 : Below w1.heap.size w1 w2 := ext (by go_grown) hb2
  have g2 : Below w.heap.size w w2 := ext g1 j2
  have s2 := j2.size
  have t2 := g2.size
  go_wp2_with fail
  refine (first_any _ (((HG.out.ext j1).ext j2).ext (by go_grown))).mono ?_
  rintro e w3 ⟨rfl, hb3⟩
  have j3 : Below w2.heap.size w2 w3 := ext (by go_grown) hb3
  have g3 : Below w.heap.size w w3 := ext g2 j3
  have s3 := j3.size
  have t3 := g3.size
  go_wp2
  all_goals go_returns
  all_goals exact ⟨by first | rfl | (simp; done) | (simp; omega), g3⟩

set_option maxRecDepth 100000 in
set_option maxHeartbeats 16000000 in
theorem least_b (v : Value) (fs : List Fr) (q n K : Nat) (w : World) (hv : Frames w v fs) (hg : TypeIs w) (hp : pixB fs = true) (hn : fs.length = n) (hq : 1 ≤ q) (hq16 : q ≤ 16) (hn1 : 1 ≤ n) (hK1 : n ≤ (K + 1) * q) (hK2 : K * q < n) (hb : ¬ Tiles (gpTo q n (K + 1)) fs.length ∨ ∃ j, j < fs.length ∧ wE fs (gpTo q n (K + 1)) j ≠ 0) :
    Calls Tryd.prog 5 #[v, .int .i64 (q : Int)] w fun e w' => e = .returned (.bool true) ∧ Below w.heap.size w w' := by
  have HG := Lib.hid hg
  have HV := Lib.hid hv
  have c1 := fun w h => pix_any v fs w h
  rw [hp] at c1
  have C1 := Lib.hid c1
  have hn40 := (pix_few hp).1
  rw [hn] at hn40
  have C2 := Lib.hid (fun x w h1 h2 => pweights_bad v x fs (gpTo q n (K + 1)) w h1 h2 hb)
  have LN := Lib.hid hn
  obtain ⟨ao, cap, rfl⟩ := hv.shapeN hn
  have HK := Lib.hid (And.intro hK1 hK2)
  have hK40 : K < 40 := by have h2 : K * 1 ≤ K * q := Nat.mul_le_mul (Nat.le_refl K) hq; omega
  have HKm : Hid (∀ k, k ≤ K → k * q ≤ K * q) := fun k hk => Nat.mul_le_mul hk (Nat.le_refl q)
  have HKq : Hid ((K + 1) * q = K * q + q) := by show _ = _; rw [Nat.add_mul, Nat.one_mul]
  have HLG := Lib.hid (length_gpTo q n)
  have HGS := Lib.hid (gpTo_succ q n)
  have qn : ((n : Int) == 0) = false := by rw [beq_eq_false_iff_ne]; omega
  have qg1 : decide ((q : Int) < 1) = false := by simp; omega
  have qg2 : decide (16 < (q : Int)) = false := by simp; omega
  clear hv hg c1 hp hn hK1 hK2 hb
  go_enter Tryd.func5, Tryd.ntmps5
  have g0 : Below w.heap.size w w := Below.refl _ _
  go_wp2_with fail
  refine (first_any _ (HG.out.ext (by go_grown))).mono ?_
  rintro e w1 ⟨rfl, hb1⟩
  have j1 : Below w.heap.size w w1 := ext (by go_grown) hb1
  have g1 : Below w.heap.size w w1 := ext g0 j1
  have s1 := j1.size
  have t1 := g1.size
  go_wp2_with fail
  refine (C1.out _ ((HV.out.ext j1).ext (by go_grown))).mono ?_
  rintro e w2 ⟨rfl, hb2⟩
  have j2 : Below w1.heap.size w1 w2 := ext (by go_grown) hb2
  have g2 : Below w.heap.size w w2 := ext g1 j2
  have s2 := j2.size
  have t2 := g2.size
  go_wp2
  go_loopw [5, 6] (fun g z wr => ∃ k m : Nat, k ≤ K + 1 ∧ Hid (m = k * q) ∧ z = .int .i64 m ∧ OwnG wr w.heap.size g (gpTo q n k) ∧ Below w.heap.size w wr) (fun _ z _ => (n + 16) - (intOf z).toNat)
  case atStart => exact ⟨0, 0, Nat.zero_le _, by show 0 = 0 * q; rw [Nat.zero_mul], rfl, OwnG.nil _ _, by first | exact g2 | go_grown⟩
  case round =>
    obtain ⟨k, m, hk, HM, rfl, hown, hbr⟩ := hrel
    have HO := Lib.hid hown
    have sr := hbr.size
    clear hown
    by_cases hlt : k ≤ K
    · have hmn : m < n := by have h1 := HKm.out k hlt; have h2 := HK.out.2; have h3 := HM.out; omega
      have qw : IntKind.i64.wrap ((n : Int) - m) = (n : Int) - m := IntWalk.i64_in _ (by omega)
      have qw2 : IntKind.i64.wrap ((m : Int) + q) = (m : Int) + q := IntWalk.i64_in _ (by omega)
      by_cases hcq : (n : Int) - m < q
      · skip
        have HGX : Hid (gpTo q n (k + 1) = gpTo q n k ++ [((m : Int), (n : Int) - m)]) := by show _ = _; rw [HGS.out, ← HM.out]; congr 3; omega
        have HMX : Hid (m + q = (k + 1) * q) := by show _ = _; rw [Nat.add_mul, Nat.one_mul, HM.out]
        clear HM
        go_wp2_with (at_builtin; refine wpList_row1 42 52 2 16 _ undG infoG rfl (by decide) rfl (.tmp 38) (.tmp 47) rfl w.heap.size _ _ _ [.int .i64 (m : Int), .int .i64 ((n : Int) - m)] rfl HO.out.1 rfl (by simp) rfl (by intro u hu; simp at hu; rcases hu with rfl | rfl <;> rfl) (by rw [HLG.out]; omega) (by decide) (by omega) ?_)
        intro v' w' hown' hb' _ _
        go_wp2
        go_roundw
        case rel => exact ⟨k + 1, m + q, by omega, HMX, int_eq (by omega), by rw [HGX.out]; exact OwnG.app hown' HO.out.2 (by unfold in64; omega) (by unfold in64; omega), hbr.trans hb'⟩
        case measure => simp [intOf]; omega
      · skip
        have HGX : Hid (gpTo q n (k + 1) = gpTo q n k ++ [((m : Int), (q : Int))]) := by show _ = _; rw [HGS.out, ← HM.out]; congr 3; omega
        have HMX : Hid (m + q = (k + 1) * q) := by show _ = _; rw [Nat.add_mul, Nat.one_mul, HM.out]
        clear HM
        go_wp2_with (at_builtin; refine wpList_row1 42 52 2 16 _ undG infoG rfl (by decide) rfl (.tmp 38) (.tmp 47) rfl w.heap.size _ _ _ [.int .i64 (m : Int), .int .i64 ((q : Int))] rfl HO.out.1 rfl (by simp) rfl (by intro u hu; simp at hu; rcases hu with rfl | rfl <;> rfl) (by rw [HLG.out]; omega) (by decide) (by omega) ?_)
        intro v' w' hown' hb' _ _
        go_wp2
        go_roundw
        case rel => exact ⟨k + 1, m + q, by omega, HMX, int_eq (by omega), by rw [HGX.out]; exact OwnG.app hown' HO.out.2 (by unfold in64; omega) (by unfold in64; omega), hbr.trans hb'⟩
        case measure => simp [intOf]; omega
    · obtain rfl : k = K + 1 := by omega
      have hmn : n ≤ m := by rw [HM.out]; exact HK.out.1
      have qlt : decide ((m : Int) < (n : Int)) = false := by simp; omega
      obtain ⟨go, gc, rfl⟩ := HO.out.shapeN (HLG.out (K + 1))
      have HGR := Lib.hid HO.out.grps
      obtain ⟨wa, rfl⟩ : ∃ wa : World, wa = wr := ⟨_, rfl⟩
      have gr := hbr
      have HVa := Lib.hid (HV.out.ext gr)
      have HGa := Lib.hid (HG.out.ext gr)
      clear HO hbr HKq HKm
      have g0 : Below wa.heap.size wa wa := Below.refl _ _
      go_wp2_with fail
      refine (C2.out _ _ (HVa.out.ext (by go_grown)) (HGR.out.ext (by go_grown))).mono ?_
      rintro e w1 ⟨T, X, rfl, hb1⟩
      have j1 : Below wa.heap.size wa w1 := ext (by go_grown) hb1
      have g1 : Below wa.heap.size wa w1 := ext g0 j1
      have s1 := j1.size
      have t1 := g1.size
      go_wp2_with fail
      refine (first_any _ ((HGa.out.ext j1).ext (by go_grown))).mono ?_
      rintro e w2 ⟨rfl, hb2⟩
      have j2 : Below w1.heap.size w1 w2 := ext (by go_grown) hb2
      have g2 : Below wa.heap.size wa w2 := ext g1 j2
      have s2 := j2.size
      have t2 := g2.size
      have gF : Below w.heap.size w w2 := ext gr g2
      go_wp2
      all_goals go_returns
      all_goals exact ⟨by first | rfl | (simp; done) | (simp; omega), gF⟩

set_option maxRecDepth 100000 in
set_option maxHeartbeats 16000000 in
theorem least_g (v : Value) (fs : List Fr) (q n K : Nat) (w : World) (hv : Frames w v fs) (hg : TypeIs w) (hp : pixB fs = true) (hn : fs.length = n) (hq : 1 ≤ q) (hq16 : q ≤ 16) (hn1 : 1 ≤ n) (hK1 : n ≤ (K + 1) * q) (hK2 : K * q < n) (ht : Tiles (gpTo q n (K + 1)) fs.length) (hz : ∀ j, j < fs.length → wE fs (gpTo q n (K + 1)) j = 0) :
    Calls Tryd.prog 5 #[v, .int .i64 (q : Int)] w fun e w' => e = .returned (.bool true) ∧ Below w.heap.size w w' := by
  have HG := Lib.hid hg
  have HV := Lib.hid hv
  have c1 := fun w h => pix_any v fs w h
  rw [hp] at c1
  have C1 := Lib.hid c1
  have hn40 := (pix_few hp).1
  rw [hn] at hn40
  have C2 := Lib.hid (fun x w h1 h2 => pweights_ok v x fs (gpTo q n (K + 1)) w h1 h2 ht hz)
  have HZ : Hid (∀ j, j < fs.length → wE fs (gpTo q n (K + 1)) j = 0) := hz
  have LN := Lib.hid hn
  obtain ⟨ao, cap, rfl⟩ := hv.shapeN hn
  have HK := Lib.hid (And.intro hK1 hK2)
  have hK40 : K < 40 := by have h2 : K * 1 ≤ K * q := Nat.mul_le_mul (Nat.le_refl K) hq; omega
  have HKm : Hid (∀ k, k ≤ K → k * q ≤ K * q) := fun k hk => Nat.mul_le_mul hk (Nat.le_refl q)
  have HKq : Hid ((K + 1) * q = K * q + q) := by show _ = _; rw [Nat.add_mul, Nat.one_mul]
  have HLG := Lib.hid (length_gpTo q n)
  have HGS := Lib.hid (gpTo_succ q n)
  have qn : ((n : Int) == 0) = false := by rw [beq_eq_false_iff_ne]; omega
  have qg1 : decide ((q : Int) < 1) = false := by simp; omega
  have qg2 : decide (16 < (q : Int)) = false := by simp; omega
  clear hv hg c1 hp hn hK1 hK2 ht hz
  go_enter Tryd.func5, Tryd.ntmps5
  have g0 : Below w.heap.size w w := Below.refl _ _
  go_wp2_with fail
  refine (first_any _ (HG.out.ext (by go_grown))).mono ?_
  rintro e w1 ⟨rfl, hb1⟩
  have j1 : Below w.heap.size w w1 := ext (by go_grown) hb1
  have g1 : Below w.heap.size w w1 := ext g0 j1
  have s1 := j1.size
  have t1 := g1.size
  go_wp2_with fail
  refine (C1.out _ ((HV.out.ext j1).ext (by go_grown))).mono ?_
  rintro e w2 ⟨rfl, hb2⟩
  have j2 : Below w1.heap.size w1 w2 := ext (by go_grown) hb2
  have g2 : Below w.heap.size w w2 := ext g1 j2
  have s2 := j2.size
  have t2 := g2.size
  go_wp2
  go_loopw [5, 6] (fun g z wr => ∃ k m : Nat, k ≤ K + 1 ∧ Hid (m = k * q) ∧ z = .int .i64 m ∧ OwnG wr w.heap.size g (gpTo q n k) ∧ Below w.heap.size w wr) (fun _ z _ => (n + 16) - (intOf z).toNat)
  case atStart => exact ⟨0, 0, Nat.zero_le _, by show 0 = 0 * q; rw [Nat.zero_mul], rfl, OwnG.nil _ _, by first | exact g2 | go_grown⟩
  case round =>
    obtain ⟨k, m, hk, HM, rfl, hown, hbr⟩ := hrel
    have HO := Lib.hid hown
    have sr := hbr.size
    clear hown
    by_cases hlt : k ≤ K
    · have hmn : m < n := by have h1 := HKm.out k hlt; have h2 := HK.out.2; have h3 := HM.out; omega
      have qw : IntKind.i64.wrap ((n : Int) - m) = (n : Int) - m := IntWalk.i64_in _ (by omega)
      have qw2 : IntKind.i64.wrap ((m : Int) + q) = (m : Int) + q := IntWalk.i64_in _ (by omega)
      by_cases hcq : (n : Int) - m < q
      · skip
        have HGX : Hid (gpTo q n (k + 1) = gpTo q n k ++ [((m : Int), (n : Int) - m)]) := by show _ = _; rw [HGS.out, ← HM.out]; congr 3; omega
        have HMX : Hid (m + q = (k + 1) * q) := by show _ = _; rw [Nat.add_mul, Nat.one_mul, HM.out]
        clear HM
        go_wp2_with (at_builtin; refine wpList_row1 42 52 2 16 _ undG infoG rfl (by decide) rfl (.tmp 38) (.tmp 47) rfl w.heap.size _ _ _ [.int .i64 (m : Int), .int .i64 ((n : Int) - m)] rfl HO.out.1 rfl (by simp) rfl (by intro u hu; simp at hu; rcases hu with rfl | rfl <;> rfl) (by rw [HLG.out]; omega) (by decide) (by omega) ?_)
        intro v' w' hown' hb' _ _
        go_wp2
        go_roundw
        case rel => exact ⟨k + 1, m + q, by omega, HMX, int_eq (by omega), by rw [HGX.out]; exact OwnG.app hown' HO.out.2 (by unfold in64; omega) (by unfold in64; omega), hbr.trans hb'⟩
        case measure => simp [intOf]; omega
      · skip
        have HGX : Hid (gpTo q n (k + 1) = gpTo q n k ++ [((m : Int), (q : Int))]) := by show _ = _; rw [HGS.out, ← HM.out]; congr 3; omega
        have HMX : Hid (m + q = (k + 1) * q) := by show _ = _; rw [Nat.add_mul, Nat.one_mul, HM.out]
        clear HM
        go_wp2_with (at_builtin; refine wpList_row1 42 52 2 16 _ undG infoG rfl (by decide) rfl (.tmp 38) (.tmp 47) rfl w.heap.size _ _ _ [.int .i64 (m : Int), .int .i64 ((q : Int))] rfl HO.out.1 rfl (by simp) rfl (by intro u hu; simp at hu; rcases hu with rfl | rfl <;> rfl) (by rw [HLG.out]; omega) (by decide) (by omega) ?_)
        intro v' w' hown' hb' _ _
        go_wp2
        go_roundw
        case rel => exact ⟨k + 1, m + q, by omega, HMX, int_eq (by omega), by rw [HGX.out]; exact OwnG.app hown' HO.out.2 (by unfold in64; omega) (by unfold in64; omega), hbr.trans hb'⟩
        case measure => simp [intOf]; omega
    · obtain rfl : k = K + 1 := by omega
      have hmn : n ≤ m := by rw [HM.out]; exact HK.out.1
      have qlt : decide ((m : Int) < (n : Int)) = false := by simp; omega
      obtain ⟨go, gc, rfl⟩ := HO.out.shapeN (HLG.out (K + 1))
      have HGR := Lib.hid HO.out.grps
      obtain ⟨wa, rfl⟩ : ∃ wa : World, wa = wr := ⟨_, rfl⟩
      have gr := hbr
      have HVa := Lib.hid (HV.out.ext gr)
      have HGa := Lib.hid (HG.out.ext gr)
      clear HO hbr HKq HKm
      have g0 : Below wa.heap.size wa wa := Below.refl _ _
      go_wp2_with fail
      refine (C2.out _ _ (HVa.out.ext (by go_grown)) (HGR.out.ext (by go_grown))).mono ?_
      rintro e w1 ⟨va, rfl, og, hb1⟩
      have j1 : Below wa.heap.size wa w1 := ext (by go_grown) hb1
      have g1 : Below wa.heap.size wa w1 := ext g0 j1
      have s1 := j1.size
      have t1 := g1.size
      rw [LN.out] at og
      obtain ⟨wo, wc, rfl⟩ := og.sliceN (length_mapTo _ n)
      have HWL := Lib.hid (og.ints)
      clear og
      have qnn : ((n : Int) != (n : Int)) = false := by simp
      have qq0 : ¬ (q : Int) = 0 := by omega
      have qq1 : ¬ q = 0 := by omega
      have qq2 : ((q : Int) == 0) = false := by rw [beq_eq_false_iff_ne]; omega
      go_wp2
      go_loopw [9] (fun z wr => ∃ i : Nat, i ≤ n ∧ z = .int .i64 i ∧ Below w1.heap.size w1 wr) (fun z _ => n - (intOf z).toNat)
      case atStart => exact ⟨0, Nat.zero_le _, rfl, Below.refl _ _⟩
      case round =>
        obtain ⟨i, hi, rfl, hbr⟩ := hrel
        have gwr : Below wa.heap.size wa wr := ext g1 hbr
        by_cases hlt : i < n
        · have hbeg := beg_gp (q := q) (n := n) (K := K) (by omega) HK.out.1 hlt
          have hze := HZ.out i (by rw [LN.out]; exact hlt)
          obtain ⟨bw, ow, rfl, cw, lw⟩ := (HWL.out.ext hbr).cellN (j := i) (by rw [length_mapTo]; exact hlt)
          rw [getD_mapTo hlt] at cw
          obtain ⟨b, off, po, pc, rfl, lb, s0, s1, s2, fv⟩ := ((HVa.out.ext gwr)).cellAt (j := i) (by rw [LN.out]; exact hlt)
          have HFI := Lib.hid fv
          have CI := fun x w h => pinner_any x (fs.getD i Fr.nought) w h
          obtain ⟨z1, z2⟩ := innV_bd (fs.getD i Fr.nought)
          have hwb := wV_bd fs (gpTo q n (K + 1)) i
          obtain ⟨r, hr⟩ : ∃ r, i % q = r := ⟨_, rfl⟩
          have hrq : r < q := by rw [← hr]; exact Nat.mod_lt i (by omega)
          have qT : Int.tmod (i : Int) (q : Int) = (r : Int) := by rw [← hr, Int.tmod_eq_emod_of_nonneg (by omega)]; simp
          have qTw : IntKind.i64.wrap (r : Int) = (r : Int) := IntWalk.i64_in _ (by omega)
          rw [hr] at hbeg
          clear hr fv
          rcases Nat.eq_zero_or_pos r with hr0 | hr0
          · have hb1 : begB (gpTo q n (K + 1)) i = true := by rw [hbeg, hr0]; rfl
            have hie : innE (fs.getD i Fr.nought) = 0 := by unfold wE at hze; rw [hb1] at hze; exact hze
            have hwv : wV fs (gpTo q n (K + 1)) i = 64 + innV (fs.getD i Fr.nought) * 2 := by unfold wV; rw [hb1]; rfl
            rw [hie, errV_zero] at CI
            have CI1 := Lib.hid CI
            rw [hwv, show 64 + innV (fs.getD i Fr.nought) * 2 = 64 + 2 * innV (fs.getD i Fr.nought) from by omega] at cw
            have qr : ((r : Int) == 0) = true := by rw [hr0]; rfl
            have qr2 : decide ((0 : Int) < (r : Int)) = false := by simp; omega
            have qr3 : decide (0 < r) = false := by simp; omega
            clear hb1 hie hwv hbeg hze hwb CI hr0
            generalize fs.getD i Fr.nought = fi at *
            generalize innV fi = z at *
            have qz : IntKind.i64.wrap (2 * z) = 2 * z := IntWalk.i64_in _ (by omega)
            have qz2 : IntKind.i64.wrap (64 + 2 * z) = 64 + 2 * z := IntWalk.i64_in _ (by omega)
            have qa : decide (64 + 2 * z < 64) = false := by simp; omega
            have qb : decide (64 + 2 * z < 64 + 2 * z) = false := by simp
            have qc : ((64 + 2 * z : Int) != 64 + 2 * z) = false := by simp
            go_wp2_with fail
            refine (CI1.out _ _ (HFI.out.ext (by go_grown))).mono ?_
            rintro e w5 ⟨rfl, hb5⟩
            have j5 : Below wr.heap.size wr w5 := ext (by go_grown) hb5
            have g5 : Below w1.heap.size w1 w5 := hbr.trans (j5.mono hbr.size)
            have cw5 : w5.cell? ⟨bw, ow + i, none⟩ = some _ := (j5.cell (p := ⟨bw, _, none⟩) lw).trans cw
            clear cw s0 s1 s2
            go_wp2
            refine wp_region_held_drew (S := fun _ => True) (by kernel_rfl) trivial (fun hHeld => ?_)
            refine wpAnyH_take (i := 0) (v := ?_) rfl (by kernel_rfl) (by kernel_rfl) (by kernel_rfl) (fun _ _ _ h => h) (Or.inl ⟨by rfl, ?_⟩) (by assumption) ?_
            rotate_left
            · (intro w hSw; (try dsimp only at hSw); go_simp; try with_reducible rfl)
            try simp only [List.getElem_toArray, List.getElem_cons_zero, List.getElem_cons_succ, Act.put, List.setIfInBounds_toArray, List.set_cons_zero, List.set_cons_succ]
            refine wpAnyH_take (i := 1) (v := ?_) rfl (by kernel_rfl) (by kernel_rfl) (by kernel_rfl) (fun _ _ _ h => h) (Or.inl ⟨by rfl, ?_⟩) (by assumption) ?_
            rotate_left
            · (intro w hSw; (try dsimp only at hSw); go_simp; try with_reducible rfl)
            try simp only [List.getElem_toArray, List.getElem_cons_zero, List.getElem_cons_succ, Act.put, List.setIfInBounds_toArray, List.set_cons_zero, List.set_cons_succ]
            refine wpAnyH_take (i := 2) (v := ?_) rfl (by kernel_rfl) (by kernel_rfl) (by kernel_rfl) (fun _ _ _ h => h) (Or.inl ⟨by rfl, ?_⟩) (by assumption) ?_
            rotate_left
            · (intro w hSw; (try dsimp only at hSw); go_simp; try with_reducible rfl)
            try simp only [List.getElem_toArray, List.getElem_cons_zero, List.getElem_cons_succ, Act.put, List.setIfInBounds_toArray, List.set_cons_zero, List.set_cons_succ]
            refine wpAnyH_take (i := 3) (v := ?_) rfl (by kernel_rfl) (by kernel_rfl) (by kernel_rfl) (fun _ _ _ h => h) (Or.inl ⟨by rfl, ?_⟩) (by assumption) ?_
            rotate_left
            · (intro w hSw; (try dsimp only at hSw); go_simp; try with_reducible rfl)
            try simp only [List.getElem_toArray, List.getElem_cons_zero, List.getElem_cons_succ, Act.put, List.setIfInBounds_toArray, List.set_cons_zero, List.set_cons_succ]
            refine wpAnyH_take (i := 4) (v := ?_) rfl (by kernel_rfl) (by kernel_rfl) (by kernel_rfl) (fun _ _ _ h => h) (Or.inl ⟨by rfl, ?_⟩) (by assumption) ?_
            rotate_left
            · (intro w hSw; (try dsimp only at hSw); go_simp; try with_reducible rfl)
            try simp only [List.getElem_toArray, List.getElem_cons_zero, List.getElem_cons_succ, Act.put, List.setIfInBounds_toArray, List.set_cons_zero, List.set_cons_succ]
            refine wpAnyH_take (i := 5) (v := undef) rfl (by kernel_rfl) (by kernel_rfl) (by kernel_rfl) (fun _ _ _ h => h) (Or.inr ⟨by rfl, rfl⟩) (by assumption) ?_
            try simp only [List.getElem_toArray, List.getElem_cons_zero, List.getElem_cons_succ, Act.put, List.setIfInBounds_toArray, List.set_cons_zero, List.set_cons_succ]
            refine wpAnyH_take (i := 6) (v := undef) rfl (by kernel_rfl) (by kernel_rfl) (by kernel_rfl) (fun _ _ _ h => h) (Or.inr ⟨by rfl, rfl⟩) (by assumption) ?_
            try simp only [List.getElem_toArray, List.getElem_cons_zero, List.getElem_cons_succ, Act.put, List.setIfInBounds_toArray, List.set_cons_zero, List.set_cons_succ]
            refine wpAnyH_take (i := 7) (v := undef) rfl (by kernel_rfl) (by kernel_rfl) (by kernel_rfl) (fun _ _ _ h => h) (Or.inr ⟨by rfl, rfl⟩) (by assumption) ?_
            try simp only [List.getElem_toArray, List.getElem_cons_zero, List.getElem_cons_succ, Act.put, List.setIfInBounds_toArray, List.set_cons_zero, List.set_cons_succ]
            refine wpAnyH_take (i := 8) (v := undef) rfl (by kernel_rfl) (by kernel_rfl) (by kernel_rfl) (fun _ _ _ h => h) (Or.inr ⟨by rfl, rfl⟩) (by assumption) ?_
            try simp only [List.getElem_toArray, List.getElem_cons_zero, List.getElem_cons_succ, Act.put, List.setIfInBounds_toArray, List.set_cons_zero, List.set_cons_succ]
            refine wpAnyH_take (i := 9) (v := undef) rfl (by kernel_rfl) (by kernel_rfl) (by kernel_rfl) (fun _ _ _ h => h) (Or.inr ⟨by rfl, rfl⟩) (by assumption) ?_
            try simp only [List.getElem_toArray, List.getElem_cons_zero, List.getElem_cons_succ, Act.put, List.setIfInBounds_toArray, List.set_cons_zero, List.set_cons_succ]
            refine wpAnyH_take (i := 10) (v := undef) rfl (by kernel_rfl) (by kernel_rfl) (by kernel_rfl) (fun _ _ _ h => h) (Or.inr ⟨by rfl, rfl⟩) (by assumption) ?_
            try simp only [List.getElem_toArray, List.getElem_cons_zero, List.getElem_cons_succ, Act.put, List.setIfInBounds_toArray, List.set_cons_zero, List.set_cons_succ]
            refine wpAnyH_take (i := 11) (v := undef) rfl (by kernel_rfl) (by kernel_rfl) (by kernel_rfl) (fun _ _ _ h => h) (Or.inr ⟨by rfl, rfl⟩) (by assumption) ?_
            try simp only [List.getElem_toArray, List.getElem_cons_zero, List.getElem_cons_succ, Act.put, List.setIfInBounds_toArray, List.set_cons_zero, List.set_cons_succ]
            refine wpAnyH_take (i := 12) (v := undef) rfl (by kernel_rfl) (by kernel_rfl) (by kernel_rfl) (fun _ _ _ h => h) (Or.inr ⟨by rfl, rfl⟩) (by assumption) ?_
            try simp only [List.getElem_toArray, List.getElem_cons_zero, List.getElem_cons_succ, Act.put, List.setIfInBounds_toArray, List.set_cons_zero, List.set_cons_succ]
            refine wpAnyH_take (i := 13) (v := undef) rfl (by kernel_rfl) (by kernel_rfl) (by kernel_rfl) (fun _ _ _ h => h) (Or.inr ⟨by rfl, rfl⟩) (by assumption) ?_
            try simp only [List.getElem_toArray, List.getElem_cons_zero, List.getElem_cons_succ, Act.put, List.setIfInBounds_toArray, List.set_cons_zero, List.set_cons_succ]
            refine wpAnyH_take (i := 14) (v := undef) rfl (by kernel_rfl) (by kernel_rfl) (by kernel_rfl) (fun _ _ _ h => h) (Or.inr ⟨by rfl, rfl⟩) (by assumption) ?_
            try simp only [List.getElem_toArray, List.getElem_cons_zero, List.getElem_cons_succ, Act.put, List.setIfInBounds_toArray, List.set_cons_zero, List.set_cons_succ]
            refine wpAnyH_take (i := 15) (v := ?_) rfl (by kernel_rfl) (by kernel_rfl) (by kernel_rfl) (fun _ _ _ h => h) (Or.inl ⟨by rfl, ?_⟩) (by assumption) ?_
            rotate_left
            · (intro w hSw; (try dsimp only at hSw); go_simp; try with_reducible rfl)
            try simp only [List.getElem_toArray, List.getElem_cons_zero, List.getElem_cons_succ, Act.put, List.setIfInBounds_toArray, List.set_cons_zero, List.set_cons_succ]
            refine wpAnyH_take (i := 16) (v := ?_) rfl (by kernel_rfl) (by kernel_rfl) (by kernel_rfl) (fun _ _ _ h => h) (Or.inl ⟨by rfl, ?_⟩) (by assumption) ?_
            rotate_left
            · (intro w hSw; (try dsimp only at hSw); go_simp; try with_reducible rfl)
            try simp only [List.getElem_toArray, List.getElem_cons_zero, List.getElem_cons_succ, Act.put, List.setIfInBounds_toArray, List.set_cons_zero, List.set_cons_succ]
            refine wpAnyH_take (i := 17) (v := undef) rfl (by kernel_rfl) (by kernel_rfl) (by kernel_rfl) (fun _ _ _ h => h) (Or.inr ⟨by rfl, rfl⟩) (by assumption) ?_
            try simp only [List.getElem_toArray, List.getElem_cons_zero, List.getElem_cons_succ, Act.put, List.setIfInBounds_toArray, List.set_cons_zero, List.set_cons_succ]
            refine wpAnyH_take (i := 18) (v := undef) rfl (by kernel_rfl) (by kernel_rfl) (by kernel_rfl) (fun _ _ _ h => h) (Or.inr ⟨by rfl, rfl⟩) (by assumption) ?_
            try simp only [List.getElem_toArray, List.getElem_cons_zero, List.getElem_cons_succ, Act.put, List.setIfInBounds_toArray, List.set_cons_zero, List.set_cons_succ]
            refine wpAnyH_take (i := 19) (v := undef) rfl (by kernel_rfl) (by kernel_rfl) (by kernel_rfl) (fun _ _ _ h => h) (Or.inr ⟨by rfl, rfl⟩) (by assumption) ?_
            try simp only [List.getElem_toArray, List.getElem_cons_zero, List.getElem_cons_succ, Act.put, List.setIfInBounds_toArray, List.set_cons_zero, List.set_cons_succ]
            refine wpAnyH_take (i := 20) (v := undef) rfl (by kernel_rfl) (by kernel_rfl) (by kernel_rfl) (fun _ _ _ h => h) (Or.inr ⟨by rfl, rfl⟩) (by assumption) ?_
            try simp only [List.getElem_toArray, List.getElem_cons_zero, List.getElem_cons_succ, Act.put, List.setIfInBounds_toArray, List.set_cons_zero, List.set_cons_succ]
            refine wpAnyH_take (i := 21) (v := undef) rfl (by kernel_rfl) (by kernel_rfl) (by kernel_rfl) (fun _ _ _ h => h) (Or.inr ⟨by rfl, rfl⟩) (by assumption) ?_
            try simp only [List.getElem_toArray, List.getElem_cons_zero, List.getElem_cons_succ, Act.put, List.setIfInBounds_toArray, List.set_cons_zero, List.set_cons_succ]
            refine wpAnyH_take (i := 22) (v := ?_) rfl (by kernel_rfl) (by kernel_rfl) (by kernel_rfl) (fun _ _ _ h => h) (Or.inl ⟨by rfl, ?_⟩) (by assumption) ?_
            rotate_left
            · (intro w hSw; (try dsimp only at hSw); go_simp; try with_reducible rfl)
            try simp only [List.getElem_toArray, List.getElem_cons_zero, List.getElem_cons_succ, Act.put, List.setIfInBounds_toArray, List.set_cons_zero, List.set_cons_succ]
            refine wpAnyH_done (by kernel_rfl) ?_ _
            go_wp2
            go_roundw
            case rel => exact ⟨i + 1, by omega, by go_num, by first | exact g5 | exact g5.drew⟩
            case measure => simp [intOf]; omega
          · have hb1 : begB (gpTo q n (K + 1)) i = false := by rw [hbeg, decide_eq_false (by omega)]
            have hue : unlE (fs.getD i Fr.nought) (fs.getD (i - 1) Fr.nought) = 0 := by unfold wE at hze; rw [hb1] at hze; exact hze
            have hie : innE (fs.getD i Fr.nought) = 0 := innE_of hue
            have hwv : wV fs (gpTo q n (K + 1)) i = 64 + outV (fs.getD i Fr.nought) (fs.getD (i - 1) Fr.nought) := by unfold wV; rw [hb1]; rfl
            obtain ⟨o1, o2⟩ := outV_bd (fs.getD i Fr.nought) (fs.getD (i - 1) Fr.nought)
            rw [hie, errV_zero] at CI
            have CI1 := Lib.hid CI
            rw [hwv] at cw
            have qr : ((r : Int) == 0) = false := by rw [beq_eq_false_iff_ne]; omega
            have qr2 : decide ((0 : Int) < (r : Int)) = true := by simp; omega
            have qr3 : decide (0 < r) = true := by simp; omega
            have hip : 1 ≤ i := by rcases Nat.eq_zero_or_pos i with h | h; · subst h; simp at qT; omega
                                   · exact h
            obtain ⟨p, hpi⟩ : ∃ p, i - 1 = p := ⟨_, rfl⟩
            rw [hpi] at cw o1 o2
            have hpp : p < n := by omega
            have hp2 : (p : Int) < (n : Int) := by omega
            have hp1 : (0 : Int) ≤ (p : Int) := by omega
            have qi : IntKind.i64.wrap ((i : Int) - 1) = (p : Int) := by rw [IntWalk.i64_in _ (by omega)]; omega
            obtain ⟨bq, offq, qo, qc2, eq, lbq, r0, r1, r2, fvq⟩ := ((HVa.out.ext gwr)).cellAt (j := p) (by rw [LN.out]; exact hpp)
            obtain ⟨rfl, rfl⟩ : b = bq ∧ off = offq := by simpa using eq
            have HFP := Lib.hid fvq
            have CF := Lib.hid (fun x y w h1 h2 => rframe_any x y (fs.getD i Fr.nought).W (fs.getD i Fr.nought).H (fs.getD i Fr.nought).pix (fs.getD p Fr.nought).W (fs.getD p Fr.nought).H (fs.getD p Fr.nought).pix w h1 h2)
            have HEQ : Hid ((decide ((fs.getD i Fr.nought).W = (fs.getD p Fr.nought).W) && (decide ((fs.getD i Fr.nought).H = (fs.getD p Fr.nought).H) && decide ((fs.getD i Fr.nought).pix = (fs.getD p Fr.nought).pix))) = true → outV (fs.getD i Fr.nought) (fs.getD p Fr.nought) = 0) := fun h => by rw [fr_eq h]; exact outV_self _
            clear hb1 hie hwv hbeg hze hwb CI hr0 hue hpi fvq eq hip
            generalize hEE : (decide ((fs.getD i Fr.nought).W = (fs.getD p Fr.nought).W) && (decide ((fs.getD i Fr.nought).H = (fs.getD p Fr.nought).H) && decide ((fs.getD i Fr.nought).pix = (fs.getD p Fr.nought).pix))) = ee at *
            clear hEE
            generalize outV (fs.getD i Fr.nought) (fs.getD p Fr.nought) = o at *
            generalize fs.getD i Fr.nought = fi at *
            generalize fs.getD p Fr.nought = fp at *
            generalize innV fi = z at *
            have qz : IntKind.i64.wrap (2 * z) = 2 * z := IntWalk.i64_in _ (by omega)
            have qz2 : IntKind.i64.wrap (64 + 2 * z) = 64 + 2 * z := IntWalk.i64_in _ (by omega)
            have qa : decide (64 + o < 64) = false := by simp; omega
            have qb : decide (64 + 2 * z < 64 + o) = false := by simp; omega
            cases ee with
            | true =>
              have ho : o = 0 := HEQ.out rfl
              subst ho
              have qe : ((64 + (0 : Int)) != 64) = false := rfl
              have S7 := Lib.hid (And.intro s0 (And.intro s1 (And.intro s2 (And.intro r0 (And.intro r1 (And.intro r2 cw))))))
              go_wp2_with fail
              refine (CI1.out _ _ (HFI.out.ext (by go_grown))).mono ?_
              rintro e w5 ⟨rfl, hb5⟩
              have j5 : Below wr.heap.size wr w5 := ext (by go_grown) hb5
              have g5 : Below w1.heap.size w1 w5 := hbr.trans (j5.mono hbr.size)
              have S75 := Lib.hid (seven_ext j5 S7.out)
              have HFI5 := Lib.hid (HFI.out.ext j5)
              have HFP5 := Lib.hid (HFP.out.ext j5)
              clear s0 s1 s2 r0 r1 r2 S7
              obtain ⟨-, -, -, -, -, -, cw5⟩ := S75.out
              clear cw
              go_wp2
              clear cw5
              refine wp_region_held_drew (S := fun w' => w'.cell? ⟨b, off + i * 3, none⟩ = some (.int .i64 fi.W) ∧ w'.cell? ⟨b, off + i * 3 + 1, none⟩ = some (.int .i64 fi.H) ∧ w'.cell? ⟨b, off + i * 3 + 2, none⟩ = some (.slice po fi.pix.length pc) ∧ w'.cell? ⟨b, off + p * 3, none⟩ = some (.int .i64 fp.W) ∧ w'.cell? ⟨b, off + p * 3 + 1, none⟩ = some (.int .i64 fp.H) ∧ w'.cell? ⟨b, off + p * 3 + 2, none⟩ = some (.slice qo fp.pix.length qc2) ∧ w'.cell? ⟨bw, ow + i, none⟩ = some (.int .i64 (64 + 0))) (by kernel_rfl) S75.out (fun hHeld => ?_)
              refine wpAnyH_take (i := 0) (v := ?_) rfl (by kernel_rfl) (by kernel_rfl) (by kernel_rfl) (fun _ _ _ h => h) (Or.inl ⟨by rfl, ?_⟩) (by assumption) ?_
              rotate_left
              · (intro w hSw; (try dsimp only at hSw); go_simp; try with_reducible rfl)
              try simp only [List.getElem_toArray, List.getElem_cons_zero, List.getElem_cons_succ, Act.put, List.setIfInBounds_toArray, List.set_cons_zero, List.set_cons_succ]
              refine wpAnyH_take (i := 1) (v := ?_) rfl (by kernel_rfl) (by kernel_rfl) (by kernel_rfl) (fun _ _ _ h => h) (Or.inl ⟨by rfl, ?_⟩) (by assumption) ?_
              rotate_left
              · (intro w hSw; (try dsimp only at hSw); go_simp; try with_reducible rfl)
              try simp only [List.getElem_toArray, List.getElem_cons_zero, List.getElem_cons_succ, Act.put, List.setIfInBounds_toArray, List.set_cons_zero, List.set_cons_succ]
              refine wpAnyH_take (i := 2) (v := ?_) rfl (by kernel_rfl) (by kernel_rfl) (by kernel_rfl) (fun _ _ _ h => h) (Or.inl ⟨by rfl, ?_⟩) (by assumption) ?_
              rotate_left
              · (intro w hSw; (try dsimp only at hSw); go_simp; try with_reducible rfl)
              try simp only [List.getElem_toArray, List.getElem_cons_zero, List.getElem_cons_succ, Act.put, List.setIfInBounds_toArray, List.set_cons_zero, List.set_cons_succ]
              refine wpAnyH_take (i := 3) (v := ?_) rfl (by kernel_rfl) (by kernel_rfl) (by kernel_rfl) (fun _ _ _ h => h) (Or.inl ⟨by rfl, ?_⟩) (by assumption) ?_
              rotate_left
              · (intro w hSw; (try dsimp only at hSw); go_simp; try with_reducible rfl)
              try simp only [List.getElem_toArray, List.getElem_cons_zero, List.getElem_cons_succ, Act.put, List.setIfInBounds_toArray, List.set_cons_zero, List.set_cons_succ]
              refine wpAnyH_take (i := 4) (v := ?_) rfl (by kernel_rfl) (by kernel_rfl) (by kernel_rfl) (fun _ _ _ h => h) (Or.inl ⟨by rfl, ?_⟩) (by assumption) ?_
              rotate_left
              · (intro w hSw; (try dsimp only at hSw); go_simp; try with_reducible rfl)
              try simp only [List.getElem_toArray, List.getElem_cons_zero, List.getElem_cons_succ, Act.put, List.setIfInBounds_toArray, List.set_cons_zero, List.set_cons_succ]
              refine wpAnyH_take (i := 5) (v := ?_) rfl (by kernel_rfl) (by kernel_rfl) (by kernel_rfl) (fun _ _ _ h => h) (Or.inl ⟨by rfl, ?_⟩) (by assumption) ?_
              rotate_left
              · (intro w hSw; (try dsimp only at hSw); go_simp; try with_reducible rfl)
              try simp only [List.getElem_toArray, List.getElem_cons_zero, List.getElem_cons_succ, Act.put, List.setIfInBounds_toArray, List.set_cons_zero, List.set_cons_succ]
              refine wpAnyH_take (i := 6) (v := ?_) rfl (by kernel_rfl) (by kernel_rfl) (by kernel_rfl) (fun _ _ _ h => h) (Or.inl ⟨by rfl, ?_⟩) (by assumption) ?_
              rotate_left
              · (intro w hSw; (try dsimp only at hSw); go_simp; try with_reducible rfl)
              try simp only [List.getElem_toArray, List.getElem_cons_zero, List.getElem_cons_succ, Act.put, List.setIfInBounds_toArray, List.set_cons_zero, List.set_cons_succ]
              refine wpAnyH_take (i := 7) (v := ?_) rfl (by kernel_rfl) (by kernel_rfl) (by kernel_rfl) (fun _ _ _ h => h) (Or.inl ⟨by rfl, ?_⟩) (by assumption) ?_
              rotate_left
              · (intro w hSw; (try dsimp only at hSw); go_simp; try with_reducible rfl)
              try simp only [List.getElem_toArray, List.getElem_cons_zero, List.getElem_cons_succ, Act.put, List.setIfInBounds_toArray, List.set_cons_zero, List.set_cons_succ]
              refine wpAnyH_take (i := 8) (v := ?_) rfl (by kernel_rfl) (by kernel_rfl) (by kernel_rfl) (fun _ _ _ h => h) (Or.inl ⟨by rfl, ?_⟩) (by assumption) ?_
              rotate_left
              · (intro w hSw; (try dsimp only at hSw); go_simp; try with_reducible rfl)
              try simp only [List.getElem_toArray, List.getElem_cons_zero, List.getElem_cons_succ, Act.put, List.setIfInBounds_toArray, List.set_cons_zero, List.set_cons_succ]
              refine wpAnyH_take (i := 9) (v := ?_) rfl (by kernel_rfl) (by kernel_rfl) (by kernel_rfl) (fun _ _ _ h => h) (Or.inl ⟨by rfl, ?_⟩) (by assumption) ?_
              rotate_left
              · (intro w hSw; (try dsimp only at hSw); go_simp; try with_reducible rfl)
              try simp only [List.getElem_toArray, List.getElem_cons_zero, List.getElem_cons_succ, Act.put, List.setIfInBounds_toArray, List.set_cons_zero, List.set_cons_succ]
              refine wpAnyH_take (i := 10) (v := ?_) rfl (by kernel_rfl) (by kernel_rfl) (by kernel_rfl) (fun _ _ _ h => h) (Or.inl ⟨by rfl, ?_⟩) (by assumption) ?_
              rotate_left
              · (intro w hSw; (try dsimp only at hSw); go_simp; try with_reducible rfl)
              try simp only [List.getElem_toArray, List.getElem_cons_zero, List.getElem_cons_succ, Act.put, List.setIfInBounds_toArray, List.set_cons_zero, List.set_cons_succ]
              refine wpAnyH_take (i := 11) (v := ?_) rfl (by kernel_rfl) (by kernel_rfl) (by kernel_rfl) (fun _ _ _ h => h) (Or.inl ⟨by rfl, ?_⟩) (by assumption) ?_
              rotate_left
              · (intro w hSw; (try dsimp only at hSw); go_simp; try with_reducible rfl)
              try simp only [List.getElem_toArray, List.getElem_cons_zero, List.getElem_cons_succ, Act.put, List.setIfInBounds_toArray, List.set_cons_zero, List.set_cons_succ]
              refine wpAnyH_take (i := 12) (v := ?_) rfl (by kernel_rfl) (by kernel_rfl) (by kernel_rfl) (fun _ _ _ h => h) (Or.inl ⟨by rfl, ?_⟩) (by assumption) ?_
              rotate_left
              · (intro w hSw; (try dsimp only at hSw); go_simp; try with_reducible rfl)
              try simp only [List.getElem_toArray, List.getElem_cons_zero, List.getElem_cons_succ, Act.put, List.setIfInBounds_toArray, List.set_cons_zero, List.set_cons_succ]
              refine wpAnyH_take (i := 13) (v := ?_) rfl (by kernel_rfl) (by kernel_rfl) (by kernel_rfl) (fun _ _ _ h => h) (Or.inl ⟨by rfl, ?_⟩) (by assumption) ?_
              rotate_left
              · (intro w hSw; (try dsimp only at hSw); go_simp; try with_reducible rfl)
              try simp only [List.getElem_toArray, List.getElem_cons_zero, List.getElem_cons_succ, Act.put, List.setIfInBounds_toArray, List.set_cons_zero, List.set_cons_succ]
              refine wpAnyH_ready (rs := [14]) (by kernel_rfl) (by simp) ?_
              refine AllReadyH.cons rfl (fun K hK => ?_) AllReadyH.nil
              go_simp
              (go_at_call 20; refine (CF.out _ _ _ ?_ ?_).mono ?_; exact HFI5.out; exact HFP5.out; rintro e w6 ⟨rfl, hb6⟩; have j6 : Below w5.heap.size w5 w6 := (by first | exact hb6 | exact below_undrew hb6); have S76 := Lib.hid (seven_ext j6 S75.out))
              go_wp2_with fail
              refine hK.out _ _ S76.out (fun hHeld => ?_)
              clear hK K
              try simp only [List.getElem_toArray, List.getElem_cons_zero, List.getElem_cons_succ, Act.put, List.setIfInBounds_toArray, List.set_cons_zero, List.set_cons_succ]
              refine wpAnyH_take (i := 15) (v := ?_) rfl (by kernel_rfl) (by kernel_rfl) (by kernel_rfl) (fun _ _ _ h => h) (Or.inl ⟨by rfl, ?_⟩) (by assumption) ?_
              rotate_left
              · (intro w hSw; (try dsimp only at hSw); go_simp; try with_reducible rfl)
              try simp only [List.getElem_toArray, List.getElem_cons_zero, List.getElem_cons_succ, Act.put, List.setIfInBounds_toArray, List.set_cons_zero, List.set_cons_succ]
              refine wpAnyH_take (i := 16) (v := ?_) rfl (by kernel_rfl) (by kernel_rfl) (by kernel_rfl) (fun _ _ _ h => h) (Or.inl ⟨by rfl, ?_⟩) (by assumption) ?_
              rotate_left
              · (intro w hSw; (try dsimp only at hSw); go_simp; try with_reducible rfl)
              try simp only [List.getElem_toArray, List.getElem_cons_zero, List.getElem_cons_succ, Act.put, List.setIfInBounds_toArray, List.set_cons_zero, List.set_cons_succ]
              refine wpAnyH_take (i := 17) (v := ?_) rfl (by kernel_rfl) (by kernel_rfl) (by kernel_rfl) (fun _ _ _ h => h) (Or.inl ⟨by rfl, ?_⟩) (by assumption) ?_
              rotate_left
              · (intro w hSw; (try dsimp only at hSw); go_simp; try with_reducible rfl)
              try simp only [List.getElem_toArray, List.getElem_cons_zero, List.getElem_cons_succ, Act.put, List.setIfInBounds_toArray, List.set_cons_zero, List.set_cons_succ]
              refine wpAnyH_take (i := 18) (v := ?_) rfl (by kernel_rfl) (by kernel_rfl) (by kernel_rfl) (fun _ _ _ h => h) (Or.inl ⟨by rfl, ?_⟩) (by assumption) ?_
              rotate_left
              · (intro w hSw; (try dsimp only at hSw); go_simp; try with_reducible rfl)
              try simp only [List.getElem_toArray, List.getElem_cons_zero, List.getElem_cons_succ, Act.put, List.setIfInBounds_toArray, List.set_cons_zero, List.set_cons_succ]
              refine wpAnyH_take (i := 19) (v := ?_) rfl (by kernel_rfl) (by kernel_rfl) (by kernel_rfl) (fun _ _ _ h => h) (Or.inl ⟨by rfl, ?_⟩) (by assumption) ?_
              rotate_left
              · (intro w hSw; (try dsimp only at hSw); go_simp; try with_reducible rfl)
              try simp only [List.getElem_toArray, List.getElem_cons_zero, List.getElem_cons_succ, Act.put, List.setIfInBounds_toArray, List.set_cons_zero, List.set_cons_succ]
              refine wpAnyH_take (i := 20) (v := ?_) rfl (by kernel_rfl) (by kernel_rfl) (by kernel_rfl) (fun _ _ _ h => h) (Or.inl ⟨by rfl, ?_⟩) (by assumption) ?_
              rotate_left
              · (intro w hSw; (try dsimp only at hSw); go_simp; try with_reducible rfl)
              try simp only [List.getElem_toArray, List.getElem_cons_zero, List.getElem_cons_succ, Act.put, List.setIfInBounds_toArray, List.set_cons_zero, List.set_cons_succ]
              refine wpAnyH_take (i := 21) (v := ?_) rfl (by kernel_rfl) (by kernel_rfl) (by kernel_rfl) (fun _ _ _ h => h) (Or.inl ⟨by rfl, ?_⟩) (by assumption) ?_
              rotate_left
              · (intro w hSw; (try dsimp only at hSw); go_simp; try with_reducible rfl)
              try simp only [List.getElem_toArray, List.getElem_cons_zero, List.getElem_cons_succ, Act.put, List.setIfInBounds_toArray, List.set_cons_zero, List.set_cons_succ]
              refine wpAnyH_take (i := 22) (v := ?_) rfl (by kernel_rfl) (by kernel_rfl) (by kernel_rfl) (fun _ _ _ h => h) (Or.inl ⟨by rfl, ?_⟩) (by assumption) ?_
              rotate_left
              · (intro w hSw; (try dsimp only at hSw); go_simp; try with_reducible rfl)
              try simp only [List.getElem_toArray, List.getElem_cons_zero, List.getElem_cons_succ, Act.put, List.setIfInBounds_toArray, List.set_cons_zero, List.set_cons_succ]
              refine wpAnyH_done (by kernel_rfl) ?_ _
              have g6 : Below w1.heap.size w1 w6 := g5.trans (j6.mono g5.size)
              go_wp2
              go_roundw
              case rel => exact ⟨i + 1, by omega, by go_num, g6⟩
              case measure => simp [intOf]; omega
            | false =>
              have S7 := Lib.hid (And.intro s0 (And.intro s1 (And.intro s2 (And.intro r0 (And.intro r1 (And.intro r2 cw))))))
              go_wp2_with fail
              refine (CI1.out _ _ (HFI.out.ext (by go_grown))).mono ?_
              rintro e w5 ⟨rfl, hb5⟩
              have j5 : Below wr.heap.size wr w5 := ext (by go_grown) hb5
              have g5 : Below w1.heap.size w1 w5 := hbr.trans (j5.mono hbr.size)
              have S75 := Lib.hid (seven_ext j5 S7.out)
              have HFI5 := Lib.hid (HFI.out.ext j5)
              have HFP5 := Lib.hid (HFP.out.ext j5)
              clear s0 s1 s2 r0 r1 r2 S7
              obtain ⟨-, -, -, -, -, -, cw5⟩ := S75.out
              clear cw
              go_wp2
              clear cw5
              refine wp_region_held_drew (S := fun w' => w'.cell? ⟨b, off + i * 3, none⟩ = some (.int .i64 fi.W) ∧ w'.cell? ⟨b, off + i * 3 + 1, none⟩ = some (.int .i64 fi.H) ∧ w'.cell? ⟨b, off + i * 3 + 2, none⟩ = some (.slice po fi.pix.length pc) ∧ w'.cell? ⟨b, off + p * 3, none⟩ = some (.int .i64 fp.W) ∧ w'.cell? ⟨b, off + p * 3 + 1, none⟩ = some (.int .i64 fp.H) ∧ w'.cell? ⟨b, off + p * 3 + 2, none⟩ = some (.slice qo fp.pix.length qc2) ∧ w'.cell? ⟨bw, ow + i, none⟩ = some (.int .i64 (64 + o))) (by kernel_rfl) S75.out (fun hHeld => ?_)
              refine wpAnyH_take (i := 0) (v := ?_) rfl (by kernel_rfl) (by kernel_rfl) (by kernel_rfl) (fun _ _ _ h => h) (Or.inl ⟨by rfl, ?_⟩) (by assumption) ?_
              rotate_left
              · (intro w hSw; (try dsimp only at hSw); go_simp; try with_reducible rfl)
              try simp only [List.getElem_toArray, List.getElem_cons_zero, List.getElem_cons_succ, Act.put, List.setIfInBounds_toArray, List.set_cons_zero, List.set_cons_succ]
              refine wpAnyH_take (i := 1) (v := ?_) rfl (by kernel_rfl) (by kernel_rfl) (by kernel_rfl) (fun _ _ _ h => h) (Or.inl ⟨by rfl, ?_⟩) (by assumption) ?_
              rotate_left
              · (intro w hSw; (try dsimp only at hSw); go_simp; try with_reducible rfl)
              try simp only [List.getElem_toArray, List.getElem_cons_zero, List.getElem_cons_succ, Act.put, List.setIfInBounds_toArray, List.set_cons_zero, List.set_cons_succ]
              refine wpAnyH_take (i := 2) (v := ?_) rfl (by kernel_rfl) (by kernel_rfl) (by kernel_rfl) (fun _ _ _ h => h) (Or.inl ⟨by rfl, ?_⟩) (by assumption) ?_
              rotate_left
              · (intro w hSw; (try dsimp only at hSw); go_simp; try with_reducible rfl)
              try simp only [List.getElem_toArray, List.getElem_cons_zero, List.getElem_cons_succ, Act.put, List.setIfInBounds_toArray, List.set_cons_zero, List.set_cons_succ]
              refine wpAnyH_take (i := 3) (v := ?_) rfl (by kernel_rfl) (by kernel_rfl) (by kernel_rfl) (fun _ _ _ h => h) (Or.inl ⟨by rfl, ?_⟩) (by assumption) ?_
              rotate_left
              · (intro w hSw; (try dsimp only at hSw); go_simp; try with_reducible rfl)
              try simp only [List.getElem_toArray, List.getElem_cons_zero, List.getElem_cons_succ, Act.put, List.setIfInBounds_toArray, List.set_cons_zero, List.set_cons_succ]
              refine wpAnyH_take (i := 4) (v := ?_) rfl (by kernel_rfl) (by kernel_rfl) (by kernel_rfl) (fun _ _ _ h => h) (Or.inl ⟨by rfl, ?_⟩) (by assumption) ?_
              rotate_left
              · (intro w hSw; (try dsimp only at hSw); go_simp; try with_reducible rfl)
              try simp only [List.getElem_toArray, List.getElem_cons_zero, List.getElem_cons_succ, Act.put, List.setIfInBounds_toArray, List.set_cons_zero, List.set_cons_succ]
              refine wpAnyH_take (i := 5) (v := ?_) rfl (by kernel_rfl) (by kernel_rfl) (by kernel_rfl) (fun _ _ _ h => h) (Or.inl ⟨by rfl, ?_⟩) (by assumption) ?_
              rotate_left
              · (intro w hSw; (try dsimp only at hSw); go_simp; try with_reducible rfl)
              try simp only [List.getElem_toArray, List.getElem_cons_zero, List.getElem_cons_succ, Act.put, List.setIfInBounds_toArray, List.set_cons_zero, List.set_cons_succ]
              refine wpAnyH_take (i := 6) (v := ?_) rfl (by kernel_rfl) (by kernel_rfl) (by kernel_rfl) (fun _ _ _ h => h) (Or.inl ⟨by rfl, ?_⟩) (by assumption) ?_
              rotate_left
              · (intro w hSw; (try dsimp only at hSw); go_simp; try with_reducible rfl)
              try simp only [List.getElem_toArray, List.getElem_cons_zero, List.getElem_cons_succ, Act.put, List.setIfInBounds_toArray, List.set_cons_zero, List.set_cons_succ]
              refine wpAnyH_take (i := 7) (v := ?_) rfl (by kernel_rfl) (by kernel_rfl) (by kernel_rfl) (fun _ _ _ h => h) (Or.inl ⟨by rfl, ?_⟩) (by assumption) ?_
              rotate_left
              · (intro w hSw; (try dsimp only at hSw); go_simp; try with_reducible rfl)
              try simp only [List.getElem_toArray, List.getElem_cons_zero, List.getElem_cons_succ, Act.put, List.setIfInBounds_toArray, List.set_cons_zero, List.set_cons_succ]
              refine wpAnyH_take (i := 8) (v := ?_) rfl (by kernel_rfl) (by kernel_rfl) (by kernel_rfl) (fun _ _ _ h => h) (Or.inl ⟨by rfl, ?_⟩) (by assumption) ?_
              rotate_left
              · (intro w hSw; (try dsimp only at hSw); go_simp; try with_reducible rfl)
              try simp only [List.getElem_toArray, List.getElem_cons_zero, List.getElem_cons_succ, Act.put, List.setIfInBounds_toArray, List.set_cons_zero, List.set_cons_succ]
              refine wpAnyH_take (i := 9) (v := ?_) rfl (by kernel_rfl) (by kernel_rfl) (by kernel_rfl) (fun _ _ _ h => h) (Or.inl ⟨by rfl, ?_⟩) (by assumption) ?_
              rotate_left
              · (intro w hSw; (try dsimp only at hSw); go_simp; try with_reducible rfl)
              try simp only [List.getElem_toArray, List.getElem_cons_zero, List.getElem_cons_succ, Act.put, List.setIfInBounds_toArray, List.set_cons_zero, List.set_cons_succ]
              refine wpAnyH_take (i := 10) (v := ?_) rfl (by kernel_rfl) (by kernel_rfl) (by kernel_rfl) (fun _ _ _ h => h) (Or.inl ⟨by rfl, ?_⟩) (by assumption) ?_
              rotate_left
              · (intro w hSw; (try dsimp only at hSw); go_simp; try with_reducible rfl)
              try simp only [List.getElem_toArray, List.getElem_cons_zero, List.getElem_cons_succ, Act.put, List.setIfInBounds_toArray, List.set_cons_zero, List.set_cons_succ]
              refine wpAnyH_take (i := 11) (v := ?_) rfl (by kernel_rfl) (by kernel_rfl) (by kernel_rfl) (fun _ _ _ h => h) (Or.inl ⟨by rfl, ?_⟩) (by assumption) ?_
              rotate_left
              · (intro w hSw; (try dsimp only at hSw); go_simp; try with_reducible rfl)
              try simp only [List.getElem_toArray, List.getElem_cons_zero, List.getElem_cons_succ, Act.put, List.setIfInBounds_toArray, List.set_cons_zero, List.set_cons_succ]
              refine wpAnyH_take (i := 12) (v := ?_) rfl (by kernel_rfl) (by kernel_rfl) (by kernel_rfl) (fun _ _ _ h => h) (Or.inl ⟨by rfl, ?_⟩) (by assumption) ?_
              rotate_left
              · (intro w hSw; (try dsimp only at hSw); go_simp; try with_reducible rfl)
              try simp only [List.getElem_toArray, List.getElem_cons_zero, List.getElem_cons_succ, Act.put, List.setIfInBounds_toArray, List.set_cons_zero, List.set_cons_succ]
              refine wpAnyH_take (i := 13) (v := ?_) rfl (by kernel_rfl) (by kernel_rfl) (by kernel_rfl) (fun _ _ _ h => h) (Or.inl ⟨by rfl, ?_⟩) (by assumption) ?_
              rotate_left
              · (intro w hSw; (try dsimp only at hSw); go_simp; try with_reducible rfl)
              try simp only [List.getElem_toArray, List.getElem_cons_zero, List.getElem_cons_succ, Act.put, List.setIfInBounds_toArray, List.set_cons_zero, List.set_cons_succ]
              refine wpAnyH_ready (rs := [14]) (by kernel_rfl) (by simp) ?_
              refine AllReadyH.cons rfl (fun K hK => ?_) AllReadyH.nil
              go_simp
              (go_at_call 20; refine (CF.out _ _ _ ?_ ?_).mono ?_; exact HFI5.out; exact HFP5.out; rintro e w6 ⟨rfl, hb6⟩; have j6 : Below w5.heap.size w5 w6 := (by first | exact hb6 | exact below_undrew hb6); have S76 := Lib.hid (seven_ext j6 S75.out))
              go_wp2_with fail
              refine hK.out _ _ S76.out (fun hHeld => ?_)
              clear hK K
              try simp only [List.getElem_toArray, List.getElem_cons_zero, List.getElem_cons_succ, Act.put, List.setIfInBounds_toArray, List.set_cons_zero, List.set_cons_succ]
              refine wpAnyH_take (i := 15) (v := ?_) rfl (by kernel_rfl) (by kernel_rfl) (by kernel_rfl) (fun _ _ _ h => h) (Or.inl ⟨by rfl, ?_⟩) (by assumption) ?_
              rotate_left
              · (intro w hSw; (try dsimp only at hSw); go_simp; try with_reducible rfl)
              try simp only [List.getElem_toArray, List.getElem_cons_zero, List.getElem_cons_succ, Act.put, List.setIfInBounds_toArray, List.set_cons_zero, List.set_cons_succ]
              refine wpAnyH_take (i := 16) (v := ?_) rfl (by kernel_rfl) (by kernel_rfl) (by kernel_rfl) (fun _ _ _ h => h) (Or.inl ⟨by rfl, ?_⟩) (by assumption) ?_
              rotate_left
              · (intro w hSw; (try dsimp only at hSw); go_simp; try with_reducible rfl)
              try simp only [List.getElem_toArray, List.getElem_cons_zero, List.getElem_cons_succ, Act.put, List.setIfInBounds_toArray, List.set_cons_zero, List.set_cons_succ]
              refine wpAnyH_take (i := 17) (v := undef) rfl (by kernel_rfl) (by kernel_rfl) (by kernel_rfl) (fun _ _ _ h => h) (Or.inr ⟨by rfl, rfl⟩) (by assumption) ?_
              try simp only [List.getElem_toArray, List.getElem_cons_zero, List.getElem_cons_succ, Act.put, List.setIfInBounds_toArray, List.set_cons_zero, List.set_cons_succ]
              refine wpAnyH_take (i := 18) (v := undef) rfl (by kernel_rfl) (by kernel_rfl) (by kernel_rfl) (fun _ _ _ h => h) (Or.inr ⟨by rfl, rfl⟩) (by assumption) ?_
              try simp only [List.getElem_toArray, List.getElem_cons_zero, List.getElem_cons_succ, Act.put, List.setIfInBounds_toArray, List.set_cons_zero, List.set_cons_succ]
              refine wpAnyH_take (i := 19) (v := undef) rfl (by kernel_rfl) (by kernel_rfl) (by kernel_rfl) (fun _ _ _ h => h) (Or.inr ⟨by rfl, rfl⟩) (by assumption) ?_
              try simp only [List.getElem_toArray, List.getElem_cons_zero, List.getElem_cons_succ, Act.put, List.setIfInBounds_toArray, List.set_cons_zero, List.set_cons_succ]
              refine wpAnyH_take (i := 20) (v := undef) rfl (by kernel_rfl) (by kernel_rfl) (by kernel_rfl) (fun _ _ _ h => h) (Or.inr ⟨by rfl, rfl⟩) (by assumption) ?_
              try simp only [List.getElem_toArray, List.getElem_cons_zero, List.getElem_cons_succ, Act.put, List.setIfInBounds_toArray, List.set_cons_zero, List.set_cons_succ]
              refine wpAnyH_take (i := 21) (v := undef) rfl (by kernel_rfl) (by kernel_rfl) (by kernel_rfl) (fun _ _ _ h => h) (Or.inr ⟨by rfl, rfl⟩) (by assumption) ?_
              try simp only [List.getElem_toArray, List.getElem_cons_zero, List.getElem_cons_succ, Act.put, List.setIfInBounds_toArray, List.set_cons_zero, List.set_cons_succ]
              refine wpAnyH_take (i := 22) (v := ?_) rfl (by kernel_rfl) (by kernel_rfl) (by kernel_rfl) (fun _ _ _ h => h) (Or.inl ⟨by rfl, ?_⟩) (by assumption) ?_
              rotate_left
              · (intro w hSw; (try dsimp only at hSw); go_simp; try with_reducible rfl)
              try simp only [List.getElem_toArray, List.getElem_cons_zero, List.getElem_cons_succ, Act.put, List.setIfInBounds_toArray, List.set_cons_zero, List.set_cons_succ]
              refine wpAnyH_done (by kernel_rfl) ?_ _
              have g6 : Below w1.heap.size w1 w6 := g5.trans (j6.mono g5.size)
              go_wp2
              go_roundw
              case rel => exact ⟨i + 1, by omega, by go_num, g6⟩
              case measure => simp [intOf]; omega
        · obtain rfl : i = n := by omega
          have qd : decide ((i : Int) < (i : Int)) = false := by simp
          go_wp2_with fail
          refine (first_any _ ((HGa.out.ext gwr).ext (by go_grown))).mono ?_
          rintro e wz ⟨rfl, hbz⟩
          have gz : Below w.heap.size w wz := ext (ext gr gwr) (ext (by go_grown) hbz)
          go_wp2
          all_goals go_returns
          all_goals exact ⟨by first | rfl | (simp; done) | (simp; omega), gz⟩

theorem least_walk (v : Value) (fs : List Fr) (gop : Int) (w : World) (hv : Frames w v fs) (hg : TypeIs w) :
    Calls Tryd.prog 5 #[v, .int .i64 gop] w fun e w' => e = .returned (.bool true) ∧ Below w.heap.size w w' := by
  cases hp : pixB fs with
  | false => exact least_p v fs gop w hv hg hp
  | true =>
    by_cases h1 : gop < 1
    · exact least_r0 v fs gop w hv hg hp h1
    by_cases h2 : 16 < gop
    · exact least_r1 v fs gop w hv hg hp (by omega) h2
    by_cases h3 : fs.length = 0
    · exact least_n v fs gop w hv hg hp (by omega) (by omega) h3
    obtain ⟨q, rfl⟩ : ∃ q : Nat, gop = q := ⟨gop.toNat, by omega⟩
    have hq : 0 < q := by omega
    have hK1 : fs.length ≤ ((fs.length - 1) / q + 1) * q := by
      have := Nat.lt_div_mul_add (a := fs.length - 1) hq
      rw [Nat.add_mul, Nat.one_mul]; omega
    have hK2 : (fs.length - 1) / q * q < fs.length := by have := Nat.div_mul_le_self (fs.length - 1) q; omega
    by_cases ht : Tiles (gpTo q fs.length ((fs.length - 1) / q + 1)) fs.length
    · by_cases hz : ∀ j, j < fs.length → wE fs (gpTo q fs.length ((fs.length - 1) / q + 1)) j = 0
      · exact least_g v fs q fs.length _ w hv hg hp rfl (by omega) (by omega) (by omega) hK1 hK2 ht hz
      · refine least_b v fs q fs.length _ w hv hg hp rfl (by omega) (by omega) (by omega) hK1 hK2 (.inr ?_)
        exact Classical.byContradiction fun h => hz fun j hj => Classical.byContradiction fun h2 => h ⟨j, hj, h2⟩
    · exact least_b v fs q fs.length _ w hv hg hp rfl (by omega) (by omega) (by omega) hK1 hK2 (.inl ht)
end Go.Proofs.YtmdpfjjbehpnbaaDoor
