/- kinlaw7.BlockQuarters: the walk. -/
import Derived.Test.YtceobpoibiffhaaDoorBlockBack
set_option linter.unusedSimpArgs false
set_option linter.unusedVariables false
namespace Go.Proofs.YtceobpoibiffhaaDoor
open Go.RowKit Go.Extern.Stop Go.Stop Go.Extern

theorem quads_get (b : List Int) {k : Nat} (hk : k < 4) : [quarterL b 0, quarterL b 1, quarterL b 2, quarterL b 3].getD k [] = quarterL b k := by
  match k, hk with
  | 0, _ => rfl
  | 1, _ => rfl
  | 2, _ => rfl
  | 3, _ => rfl

set_option maxRecDepth 100000 in
set_option maxHeartbeats 8000000 in
theorem quarters_long0 (v u : Value) (a b : List Int) (w : World) (hv : Ints w v a) (hu : Ints w u b) (hg : TypeIs w) (h1 : a.length ≠ 64) :
    Calls Tryd.prog 6 #[v, u] w fun e w' => e = .returned (.bool true) ∧ Below w.heap.size w w' := by
  have HG := Lib.hid hg
  have HV := Lib.hid hv
  have HU := Lib.hid hu
  have la := hv.len
  have lb := hu.len
  obtain ⟨ao, cap, rfl⟩ := hv.shape
  obtain ⟨ao2, cap2, rfl⟩ := hu.shape
  have q1 : ((a.length : Int) != 64) = true := by simp; omega
  clear hv hu hg h1
  go_enter Tryd.func6, Tryd.ntmps6
  have g0 : Below w.heap.size w w := Below.refl _ _
  go_wp2_with fail
  refine (first_any _ (HG.out.ext (by go_grown))).mono ?_
  rintro e w1 ⟨rfl, hb1⟩
  have j1 : Below w.heap.size w w1 := ext (by go_grown) hb1
  have g1 : Below w.heap.size w w1 := ext g0 j1
  have s1 := j1.size
  have t1 := g1.size
  go_wp2_with fail
  refine (first_any _ ((HG.out.ext j1).ext (by go_grown))).mono ?_
  rintro e w2 ⟨rfl, hb2⟩
  have j2 : Below w1.heap.size w1 w2 := ext (by go_grown) hb2
  have g2 : Below w.heap.size w w2 := ext g1 j2
  have s2 := j2.size
  have t2 := g2.size
  go_wp2
  all_goals go_returns
  all_goals exact ⟨by first | rfl | (simp; done) | (simp; omega), g2⟩

set_option maxRecDepth 100000 in
set_option maxHeartbeats 8000000 in
theorem quarters_long1 (v u : Value) (a b : List Int) (w : World) (hv : Ints w v a) (hu : Ints w u b) (hg : TypeIs w) (h1 : a.length = 64) (h2 : b.length ≠ 64) :
    Calls Tryd.prog 6 #[v, u] w fun e w' => e = .returned (.bool true) ∧ Below w.heap.size w w' := by
  have HG := Lib.hid hg
  have HV := Lib.hid hv
  have HU := Lib.hid hu
  have la := hv.len
  have lb := hu.len
  obtain ⟨ao, cap, rfl⟩ := hv.shape
  obtain ⟨ao2, cap2, rfl⟩ := hu.shape
  have q1 : ((a.length : Int) != 64) = false := by simp [h1]
  have q2 : ((b.length : Int) != 64) = true := by simp; omega
  clear hv hu hg h1 h2
  go_enter Tryd.func6, Tryd.ntmps6
  have g0 : Below w.heap.size w w := Below.refl _ _
  go_wp2_with fail
  refine (first_any _ (HG.out.ext (by go_grown))).mono ?_
  rintro e w1 ⟨rfl, hb1⟩
  have j1 : Below w.heap.size w w1 := ext (by go_grown) hb1
  have g1 : Below w.heap.size w w1 := ext g0 j1
  have s1 := j1.size
  have t1 := g1.size
  go_wp2_with fail
  refine (first_any _ ((HG.out.ext j1).ext (by go_grown))).mono ?_
  rintro e w2 ⟨rfl, hb2⟩
  have j2 : Below w1.heap.size w1 w2 := ext (by go_grown) hb2
  have g2 : Below w.heap.size w w2 := ext g1 j2
  have s2 := j2.size
  have t2 := g2.size
  go_wp2
  all_goals go_returns
  all_goals exact ⟨by first | rfl | (simp; done) | (simp; omega), g2⟩

set_option maxRecDepth 100000 in
set_option maxHeartbeats 8000000 in
theorem quarters_e (v u : Value) (a b : List Int) (w : World) (hv : Ints w v a) (hu : Ints w u b) (hg : TypeIs w) (h1 : a.length = 64) (h2 : b.length = 64) (he : bothE a b ≠ 0) :
    Calls Tryd.prog 6 #[v, u] w fun e w' => e = .returned (.bool true) ∧ Below w.heap.size w w' := by
  have HG := Lib.hid hg
  have HV := Lib.hid hv
  have HU := Lib.hid hu
  have c1 := fun v u w hv hu => psad_any v u a b w hv hu (by omega)
  have c2 := fun v u w hv hu => psub_any v u a b w hv hu (by omega)
  rw [okI_ne he] at c1
  rw [okL_ne he] at c2
  have he0 : (bothE a b == 0) = false := by simpa using he
  have C1 := Lib.hid c1
  have C2 := Lib.hid c2
  obtain ⟨ao, cap, rfl⟩ := hv.shape
  obtain ⟨ao2, cap2, rfl⟩ := hu.shape
  have q1 : ((a.length : Int) != 64) = false := by simp [h1]
  have q2 : ((b.length : Int) != 64) = false := by simp [h2]
  clear hv hu hg h1 h2 c1 c2 he
  generalize bothE a b = k0 at *
  go_enter Tryd.func6, Tryd.ntmps6
  have g0 : Below w.heap.size w w := Below.refl _ _
  go_wp2_with fail
  refine (first_any _ (HG.out.ext (by go_grown))).mono ?_
  rintro e w1 ⟨rfl, hb1⟩
  have j1 : Below w.heap.size w w1 := ext (by go_grown) hb1
  have g1 : Below w.heap.size w w1 := ext g0 j1
  have s1 := j1.size
  have t1 := g1.size
  go_wp2_with fail
  refine (C1.out _ _ _ ((HV.out.ext j1).ext (by go_grown)) ((HU.out.ext j1).ext (by go_grown))).mono ?_
  rintro e w2 ⟨rfl, hb2⟩
  have j2 : Below w1.heap.size w1 w2 := ext (by go_grown) hb2
  have g2 : Below w.heap.size w w2 := ext g1 j2
  have s2 := j2.size
  have t2 := g2.size
  go_wp2_with fail
  refine (C2.out _ _ _ (((HV.out.ext j1).ext j2).ext (by go_grown)) (((HU.out.ext j1).ext j2).ext (by go_grown))).mono ?_
  rintro e w3 ⟨d, rfl, -, hb3⟩
  have j3 : Below w2.heap.size w2 w3 := ext (by go_grown) hb3
  have g3 : Below w.heap.size w w3 := ext g2 j3
  have s3 := j3.size
  have t3 := g3.size
  go_wp2_with fail
  refine (first_any _ ((((HG.out.ext j1).ext j2).ext j3).ext (by go_grown))).mono ?_
  rintro e w4 ⟨rfl, hb4⟩
  have j4 : Below w3.heap.size w3 w4 := ext (by go_grown) hb4
  have g4 : Below w.heap.size w w4 := ext g3 j4
  have s4 := j4.size
  have t4 := g4.size
  go_wp2
  all_goals go_returns
  all_goals exact ⟨by first | rfl | (simp; done) | (simp; omega), g4⟩

set_option maxRecDepth 100000 in
set_option maxHeartbeats 8000000 in
theorem quarters_in (v u : Value) (a b : List Int) (w : World) (hv : Ints w v a) (hu : Ints w u b) (hg : TypeIs w) (h1 : a.length = 64) (h2 : b.length = 64) (he : bothE a b = 0) :
    Calls Tryd.prog 6 #[v, u] w fun e w' => e = .returned (.bool true) ∧ Below w.heap.size w w' := by
  have HG := Lib.hid hg
  have HV := Lib.hid hv
  have HU := Lib.hid hu
  have c1 := fun v u w hv hu => psad_any v u a b w hv hu (by omega)
  have c2 := fun v u w hv hu => psub_any v u a b w hv hu (by omega)
  rw [he, okI_zero rfl] at c1
  rw [he, okL_zero rfl] at c2
  obtain ⟨-, ha, hb⟩ := bothE_zero he
  have C1 := Lib.hid c1
  have C2 := Lib.hid c2
  have C3 := Lib.hid (fun v w hv => pquarter_ok v a w hv h1)
  have C4 := Lib.hid (fun v w hv => pquarter_ok v b w hv h2)
  have C5 := Lib.hid (fun v w hv => pquarter_ok v (subV a b) w hv ((length_subV a b).trans h1))
  have HE : Hid (∀ q, q < 4 → bothE (quarterL a q) (quarterL b q) = 0) := fun q hq => bothE_ok (by rw [length_quarterL, length_quarterL]) (within_quarter ha h1 hq) (within_quarter hb h2 hq)
  have C6 : Hid (∀ q, q < 4 → ∀ v u w, Ints w v (quarterL a q) → Ints w u (quarterL b q) → Calls Tryd.prog 15 #[v, u] w fun e w' => e = .returned (.tuple #[.int .i64 (sadV (quarterL a q) (quarterL b q)), .nilIface]) ∧ Below w.heap.size w w') := fun q hq v u w hv hu => by
    have h := psad_any v u _ _ w hv hu (by rw [length_quarterL]; omega)
    rw [HE.out q hq, okI_zero rfl] at h; exact h
  have C7 : Hid (∀ q, q < 4 → ∀ v u w, Ints w v (quarterL a q) → Ints w u (quarterL b q) → Calls Tryd.prog 11 #[v, u] w fun e w' => ∃ v', e = .returned (.tuple #[v', .nilIface]) ∧ OwnInts w' w.heap.size v' (quarterL (subV a b) q) ∧ Below w.heap.size w w') := fun q hq v u w hv hu => by
    have h := psub_any v u _ _ w hv hu (by rw [length_quarterL]; omega)
    rw [HE.out q hq, okL_zero rfl, sub_quarter h1 hq] at h; exact h
  have HS : Hid (sadV a b = sumOf 4 fun q => sadV (quarterL a q) (quarterL b q)) := by
    show _ = _
    rw [sad_quarters h1]; simp only [sumOf]; omega
  have HBD : Hid (∀ q, q < 4 → 0 ≤ sadV (quarterL a q) (quarterL b q) ∧ sadV (quarterL a q) (quarterL b q) ≤ 33554432) := fun q hq => by
    have := sad_bd (a := quarterL a q) (b := quarterL b q) (m := 1048576) (by omega) (within_quarter ha h1 hq) (within_quarter hb h2 hq)
    rw [length_quarterL] at this
    omega
  have HSM : Hid (∀ k, k ≤ 4 → 0 ≤ sumOf k (fun q => sadV (quarterL a q) (quarterL b q)) ∧ sumOf k (fun q => sadV (quarterL a q) (quarterL b q)) ≤ k * 33554432) := fun k hk => by
    have := sumOf_bd (n := k) (f := fun q => sadV (quarterL a q) (quarterL b q)) (lo := 0) (hi := 33554432) fun i hi => HBD.out i (by omega)
    omega
  obtain ⟨ao, cap, rfl⟩ := hv.shape
  obtain ⟨ao2, cap2, rfl⟩ := hu.shape
  have q1 : ((a.length : Int) != 64) = false := by simp [h1]
  have q2 : ((b.length : Int) != 64) = false := by simp [h2]
  clear hv hu hg h1 h2 c1 c2 he ha hb HE
  generalize hsd : sadV a b = sd at *
  have HSD := Lib.hid hsd
  clear hsd
  go_enter Tryd.func6, Tryd.ntmps6
  have g0 : Below w.heap.size w w := Below.refl _ _
  go_wp2_with fail
  refine (first_any _ (HG.out.ext (by go_grown))).mono ?_
  rintro e w1 ⟨rfl, hb1⟩
  have j1 : Below w.heap.size w w1 := ext (by go_grown) hb1
  have g1 : Below w.heap.size w w1 := ext g0 j1
  have s1 := j1.size
  have t1 := g1.size
  go_wp2_with fail
  refine (C1.out _ _ _ ((HV.out.ext j1).ext (by go_grown)) ((HU.out.ext j1).ext (by go_grown))).mono ?_
  rintro e w2 ⟨rfl, hb2⟩
  have j2 : Below w1.heap.size w1 w2 := ext (by go_grown) hb2
  have g2 : Below w.heap.size w w2 := ext g1 j2
  have s2 := j2.size
  have t2 := g2.size
  go_wp2_with fail
  refine (C2.out _ _ _ (((HV.out.ext j1).ext j2).ext (by go_grown)) (((HU.out.ext j1).ext j2).ext (by go_grown))).mono ?_
  rintro e w3 ⟨d, rfl, hd, hb3⟩
  have j3 : Below w2.heap.size w2 w3 := ext (by go_grown) hb3
  have g3 : Below w.heap.size w w3 := ext g2 j3
  have s3 := j3.size
  have t3 := g3.size
  have HD := Lib.hid (hd.ints)
  clear hd
  go_wp2_with fail
  refine (C3.out _ _ ((((HV.out.ext j1).ext j2).ext j3).ext (by go_grown))).mono ?_
  rintro e w4 ⟨L1, rfl, hr, hb4⟩
  have j4 : Below w3.heap.size w3 w4 := ext (by go_grown) hb4
  have g4 : Below w.heap.size w w4 := ext g3 j4
  have s4 := j4.size
  have t4 := g4.size
  have HR1 := Lib.hid (hr)
  clear hr
  go_wp2_with fail
  refine (C4.out _ _ (((((HU.out.ext j1).ext j2).ext j3).ext j4).ext (by go_grown))).mono ?_
  rintro e w5 ⟨L2, rfl, hr, hb5⟩
  have j5 : Below w4.heap.size w4 w5 := ext (by go_grown) hb5
  have g5 : Below w.heap.size w w5 := ext g4 j5
  have s5 := j5.size
  have t5 := g5.size
  have HR2 := Lib.hid (hr)
  clear hr
  go_wp2_with fail
  refine (C5.out _ _ (((HD.out.ext j4).ext j5).ext (by go_grown))).mono ?_
  rintro e w6 ⟨L3, rfl, hr, hb6⟩
  have j6 : Below w5.heap.size w5 w6 := ext (by go_grown) hb6
  have g6 : Below w.heap.size w w6 := ext g5 j6
  have s6 := j6.size
  have t6 := g6.size
  have HR3 := Lib.hid (hr)
  clear hr
  go_wp2
  go_loopw [15, 16] (fun s i wr => ∃ k : Nat, k ≤ 4 ∧ i = .int .i64 k ∧ s = .int .i64 (sumOf k fun q => sadV (quarterL a q) (quarterL b q)) ∧ Below w6.heap.size w6 wr) (fun _ i _ => 4 - (intOf i).toNat)
  case atStart => exact ⟨0, Nat.zero_le _, rfl, rfl, Below.refl _ _⟩
  case round =>
    obtain ⟨k, hk, rfl, rfl, hbr⟩ := hrel
    obtain ⟨w7, rfl⟩ : ∃ w7 : World, w7 = wr := ⟨_, rfl⟩
    have j7 : Below w6.heap.size w6 w7 := hbr
    have g7 : Below w.heap.size w w7 := ext g6 j7
    have s7 := j7.size
    have t7 := g7.size
    clear hbr
    by_cases hlt : k < 4
    · have hsm := HSM.out k hk
      have hbd := HBD.out k hlt
      have HN := Lib.hid (sumOf_succ k fun q => sadV (quarterL a q) (quarterL b q))
      obtain ⟨b0, o0, p0, e0, c0, hp0⟩ := ((((HR1.out.ext j5).ext j6).ext j7)).at1 (j := k) (by simpa using hlt)
      simp only [Option.some.injEq, Addr.mk.injEq] at e0
      obtain ⟨rfl, rfl, -⟩ := e0
      rw [quads_get _ hlt] at hp0
      rw [Nat.zero_add] at c0
      have l0 : L1 < w7.heap.size := World.block_lt_of_cell? _ _ c0
      obtain ⟨q0, z0, rfl⟩ := hp0.shape
      rw [length_quarterL] at c0 hp0
      have HP0 := Lib.hid (hp0)
      clear hp0
      obtain ⟨b1, o1, p1, e1, c1, hp1⟩ := (((HR2.out.ext j6).ext j7)).at1 (j := k) (by simpa using hlt)
      simp only [Option.some.injEq, Addr.mk.injEq] at e1
      obtain ⟨rfl, rfl, -⟩ := e1
      rw [quads_get _ hlt] at hp1
      rw [Nat.zero_add] at c1
      have l1 : L2 < w7.heap.size := World.block_lt_of_cell? _ _ c1
      obtain ⟨q1, z1, rfl⟩ := hp1.shape
      rw [length_quarterL] at c1 hp1
      have HP1 := Lib.hid (hp1)
      clear hp1
      obtain ⟨b2, o2, p2, e2, c2, hp2⟩ := ((HR3.out.ext j7)).at1 (j := k) (by simpa using hlt)
      simp only [Option.some.injEq, Addr.mk.injEq] at e2
      obtain ⟨rfl, rfl, -⟩ := e2
      rw [quads_get _ hlt] at hp2
      rw [Nat.zero_add] at c2
      have l2 : L3 < w7.heap.size := World.block_lt_of_cell? _ _ c2
      obtain ⟨q2, z2, rfl⟩ := hp2.shape
      rw [length_quarterL] at c2 hp2
      have HP2 := Lib.hid (hp2)
      clear hp2
      have K6 := Lib.hid (C6.out k hlt)
      have K7 := Lib.hid (C7.out k hlt)
      have hk4 : (k : Int) < 4 := by omega
      generalize sadV (quarterL a k) (quarterL b k) = x at *
      generalize hsk : sumOf k (fun q => sadV (quarterL a q) (quarterL b q)) = sk at *
      clear hsk
      obtain ⟨hsm1, hsm2⟩ := hsm
      obtain ⟨hbd1, hbd2⟩ := hbd
      have HP0' := Lib.hid (HP0.out)
      have HP1' := Lib.hid (HP1.out)
      go_wp2
      go_region_held3 (fun w' => w'.cell? ⟨L1, k, none⟩ = some (.slice q0 16 z0) ∧ w'.cell? ⟨L2, k, none⟩ = some (.slice q1 16 z1))
        (first | go_keep | exact ⟨(hb8.cell (p := ⟨L1, k, none⟩) l0).trans c0, (hb8.cell (p := ⟨L2, k, none⟩) l1).trans c1⟩)
        (first | (go_at_call 15; refine (K6.out _ _ _ ?_ ?_).mono ?_; exact HP0'.out.ext (Below.refl _ _).drew; exact HP1'.out.ext (Below.refl _ _).drew; rintro e w8 ⟨rfl, hb8⟩))
      have j8 : Below w7.heap.size w7 w8 := ext (Below.refl _ _).drew hb8
      have g8 : Below w.heap.size w w8 := ext g7 j8
      have s8 := j8.size
      have t8 := g8.size
      replace c0 := (j8.cell (p := ⟨L1, k, none⟩) l0).trans c0
      replace l0 : L1 < w8.heap.size := by omega
      replace c1 := (j8.cell (p := ⟨L2, k, none⟩) l1).trans c1
      replace l1 : L2 < w8.heap.size := by omega
      replace c2 := (j8.cell (p := ⟨L3, k, none⟩) l2).trans c2
      replace l2 : L3 < w8.heap.size := by omega
      clear HP0' HP1'
      have HP0' := Lib.hid ((HP0.out.ext j8))
      have HP1' := Lib.hid ((HP1.out.ext j8))
      go_wp2
      go_region_held3 (fun w' => w'.cell? ⟨L1, k, none⟩ = some (.slice q0 16 z0) ∧ w'.cell? ⟨L2, k, none⟩ = some (.slice q1 16 z1))
        (first | go_keep | exact ⟨(hb9.cell (p := ⟨L1, k, none⟩) l0).trans c0, (hb9.cell (p := ⟨L2, k, none⟩) l1).trans c1⟩)
        (first | (go_at_call 11; refine (K7.out _ _ _ ?_ ?_).mono ?_; exact HP0'.out.ext (Below.refl _ _).drew; exact HP1'.out.ext (Below.refl _ _).drew; rintro e w9 ⟨v7, rfl, ho, hb9⟩))
      have j9 : Below w8.heap.size w8 w9 := ext (Below.refl _ _).drew hb9
      have g9 : Below w.heap.size w w9 := ext g8 j9
      have s9 := j9.size
      have t9 := g9.size
      replace c0 := (j9.cell (p := ⟨L1, k, none⟩) l0).trans c0
      replace l0 : L1 < w9.heap.size := by omega
      replace c1 := (j9.cell (p := ⟨L2, k, none⟩) l1).trans c1
      replace l1 : L2 < w9.heap.size := by omega
      replace c2 := (j9.cell (p := ⟨L3, k, none⟩) l2).trans c2
      replace l2 : L3 < w9.heap.size := by omega
      have HO := Lib.hid (ho.ints)
      clear ho HP0' HP1'
      go_wp2_with fail
      refine (ints_any _ _ _ _ _ (HO.out.ext (by go_grown)) (((HP2.out.ext j8).ext j9).ext (by go_grown))).mono ?_
      rintro e w10 ⟨rfl, hb10⟩
      have j10 : Below w9.heap.size w9 w10 := ext (by go_grown) hb10
      have g10 : Below w.heap.size w w10 := ext g9 j10
      have s10 := j10.size
      have t10 := g10.size
      simp only [decide_true]
      clear c0 c1 c2
      go_wp2
      go_roundw
      case rel => exact ⟨k + 1, by omega, by go_num, int_eq (by rw [HN.out]), (((j7.trans (j8.mono (by omega))).trans (j9.mono (by omega))).trans (j10.mono (by omega)))⟩
      case measure => simp [intOf]; omega
    · have e : k = 4 := by omega
      have hsum : (sumOf k (fun q => sadV (quarterL a q) (quarterL b q)) == sd) = true := by rw [e, ← HS.out]; simp
      clear e
      generalize sumOf k (fun q => sadV (quarterL a q) (quarterL b q)) = sk at *
      go_wp2_with fail
      refine (first_any _ ((((((((HG.out.ext j1).ext j2).ext j3).ext j4).ext j5).ext j6).ext j7).ext (by go_grown))).mono ?_
      rintro e w8 ⟨rfl, hb8⟩
      have j8 : Below w7.heap.size w7 w8 := ext (by go_grown) hb8
      have g8 : Below w.heap.size w w8 := ext g7 j8
      have s8 := j8.size
      have t8 := g8.size
      go_wp2
      all_goals go_returns
      all_goals exact ⟨by first | rfl | (simp; done) | (simp; omega), g8⟩

theorem quarters_walk (v u : Value) (a b : List Int) (w : World) (hv : Ints w v a) (hu : Ints w u b) (hg : TypeIs w) :
    Calls Tryd.prog 6 #[v, u] w fun e w' => e = .returned (.bool true) ∧ Below w.heap.size w w' := by
  by_cases h1 : a.length = 64
  · by_cases h2 : b.length = 64
    · by_cases he : bothE a b = 0
      · exact quarters_in v u a b w hv hu hg h1 h2 he
      · exact quarters_e v u a b w hv hu hg h1 h2 he
    · exact quarters_long1 v u a b w hv hu hg h1 h2
  · exact quarters_long0 v u a b w hv hu hg h1
end Go.Proofs.YtceobpoibiffhaaDoor
