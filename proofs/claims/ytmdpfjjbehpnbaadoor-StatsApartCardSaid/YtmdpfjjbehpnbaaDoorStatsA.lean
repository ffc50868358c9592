/- kinlaw17.StatsApart: the walk. -/
import Derived.Test.YtmdpfjjbehpnbaaDoorStatsE
set_option linter.unusedSimpArgs false
set_option linter.unusedVariables false
namespace Go.Proofs.YtmdpfjjbehpnbaaDoor
open Go.RowKit Go.Extern.Stop Go.Stop Go.Extern
theorem Frames.pair {w : World} {b off n cap : Nat} {fs : List Fr} (h : Frames w (.slice (some ⟨b, off, none⟩) n cap) fs) {p : Nat} (hp : p + 1 < fs.length) : Frames w (.slice (some ⟨b, off + p * 3, none⟩) 2 (cap - p)) [fs.getD p Fr.nought, fs.getD (p + 1) Fr.nought] := by
  obtain ⟨ao, cap', e, h1, h2, h3, h4⟩ := h
  cases e
  refine ⟨_, _, rfl, by show 2 ≤ cap - p; omega, by omega, fun h => (by cases h), fun j hj => ?_⟩
  match j, hj with
  | 0, _ =>
    obtain ⟨b', o', q, e, c0, c1, c2, i0, i1, hq⟩ := h4 p (by omega)
    simp only [Option.some.injEq, Addr.mk.injEq] at e
    obtain ⟨rfl, rfl, -⟩ := e
    exact ⟨b, off + p * 3, q, rfl, by simpa using c0, by simpa using c1, by simpa using c2, i0, i1, hq⟩
  | 1, _ =>
    obtain ⟨b', o', q, e, c0, c1, c2, i0, i1, hq⟩ := h4 (p + 1) (by omega)
    simp only [Option.some.injEq, Addr.mk.injEq] at e
    obtain ⟨rfl, rfl, -⟩ := e
    have ea : off + (p + 1) * 3 = off + p * 3 + 1 * 3 := by omega
    rw [ea] at c0 c1 c2
    exact ⟨b, off + p * 3, q, rfl, c0, c1, c2, i0, i1, hq⟩
theorem beg1 (n : Int) (i : Nat) : begB [(0, n)] i = decide (i = 0) := by
  unfold begB
  rcases Nat.eq_zero_or_pos i with h | h
  · subst h; rfl
  · rw [decide_eq_false (by omega)]; simp; omega
theorem beg2 (a m : Int) (k i : Nat) (hk : a = k) : begB [(0, a), (a, m)] i = decide (i = 0 ∨ i = k) := by
  unfold begB
  by_cases h : i = 0
  · subst h; simp
  · by_cases h2 : i = k
    · subst h2; simp [hk]
    · rw [decide_eq_false (by omega)]; simp; omega
theorem tiles1 {n : Nat} (h1 : 1 ≤ n) (h2 : n ≤ 16) : Tiles [(0, (n : Int))] n := by
  refine ⟨fun j hj => ?_, by show (0 : Int) + (n : Int) = n; omega, h1, h2⟩
  match j, hj with
  | 0, _ => exact ⟨rfl, by show 1 ≤ (n : Int); omega, by show (n : Int) ≤ n - 0; omega⟩
theorem tiles2 {n a : Nat} (h1 : 1 ≤ a) (h2 : a < n) (h3 : n ≤ 16) : Tiles [(0, (a : Int)), ((a : Int), (n : Int) - a)] n := by
  refine ⟨fun j hj => ?_, by show (0 : Int) + (a : Int) + ((n : Int) - a) = n; omega, by omega, h3⟩
  match j, hj with
  | 0, _ => exact ⟨rfl, by show 1 ≤ (a : Int); omega, by show (a : Int) ≤ n - 0; omega⟩
  | 1, _ => exact ⟨by show (a : Int) = 0 + (a : Int); omega, by show 1 ≤ (n : Int) - a; omega, by show (n : Int) - a ≤ n - (0 + (a : Int)); omega⟩
/-- All is well with the frames, one behind the other. -/
def Good (fs : List Fr) (n : Nat) : Prop := innE (frA fs 0) = 0 ∧ ∀ i, 1 ≤ i → i < n → unlE (frA fs i) (frA fs (i - 1)) = 0
theorem Good.inn {fs : List Fr} {n : Nat} (h : Good fs n) {i : Nat} (hi : i < n) : innE (frA fs i) = 0 := by
  rcases Nat.eq_zero_or_pos i with e | e
  · rw [e]; exact h.1
  · exact innE_of (h.2 i e hi)
theorem good_of {fs : List Fr} {n : Nat} (h1 : 1 ≤ n) (h : ∀ j, j < n → wE fs [(0, (n : Int))] j = 0) : Good fs n := by
  refine ⟨?_, fun i hi hin => ?_⟩
  · have := h 0 (by omega)
    unfold wE at this; rw [beg1] at this; exact this
  · have := h i hin
    unfold wE at this; rw [beg1, decide_eq_false (by omega)] at this; exact this
theorem good_two {fs : List Fr} {n p : Nat} (h : Good fs n) (hp : p + 1 < n) : ∀ j, j < ([frA fs p, frA fs (p + 1)] : List Fr).length → wE [frA fs p, frA fs (p + 1)] [(0, 2)] j = 0 := by
  intro j hj
  match j, hj with
  | 0, _ => show wE _ _ 0 = 0; unfold wE; rw [beg1]; exact h.inn (by omega)
  | 1, _ => show wE _ _ 1 = 0; unfold wE; rw [beg1]; exact h.2 (p + 1) (by omega) hp
theorem good_cut {fs : List Fr} {n a : Nat} (h : Good fs n) (m : Int) : ∀ j, j < n → wE fs [(0, (a : Int)), ((a : Int), m)] j = 0 := by
  intro j hj
  unfold wE
  rw [beg2 _ _ a j rfl]
  by_cases hb : j = 0 ∨ j = a
  · rw [decide_eq_true hb]; exact h.inn hj
  · rw [decide_eq_false hb]; exact h.2 j (by omega) hj
theorem wV_all (fs : List Fr) (n : Int) {i : Nat} (hi : 1 ≤ i) : wV fs [(0, n)] i = 64 + outV (frA fs i) (frA fs (i - 1)) := by unfold wV; rw [beg1, decide_eq_false (by omega)]; rfl
theorem wV_two (fs : List Fr) (p : Nat) : mapTo (wV [frA fs p, frA fs (p + 1)] [(0, 2)]) 2 = [64 + innV (frA fs p) * 2, 64 + outV (frA fs (p + 1)) (frA fs p)] := by
  show [wV _ _ 0, wV _ _ 1] = _
  unfold wV
  rw [beg1, beg1]; rfl
theorem wV_same (fs : List Fr) (n m : Int) (a i : Nat) (h : i ≠ a) : wV fs [(0, (a : Int)), ((a : Int), m)] i = wV fs [(0, n)] i := by
  unfold wV; rw [beg1, beg2 _ _ a i rfl]
  by_cases h0 : i = 0
  · rw [decide_eq_true (Or.inl h0), decide_eq_true h0]
  · rw [decide_eq_false (by omega), decide_eq_false h0]
theorem wV_more (fs : List Fr) (n m : Int) {a : Nat} (h : 1 ≤ a) : wV fs [(0, n)] a ≤ wV fs [(0, (a : Int)), ((a : Int), m)] a := by
  rw [wV_all fs n h]
  unfold wV; rw [beg2 _ _ a a rfl, decide_eq_true (Or.inr rfl)]
  have h1 := outV_bd (frA fs a) (frA fs (a - 1))
  have h2 := innV_bd (frA fs a)
  show _ ≤ 64 + innV (frA fs a) * 2
  omega
/-- Which frame is asked for. -/
def atA (x : Int) (n : Nat) : Nat := 1 + ((if x < 0 then -(x + 1) else x) % ((n : Int) - 1)).toNat
theorem atA_bd {x : Int} {n : Nat} (hn : 2 ≤ n) : 1 ≤ atA x n ∧ atA x n < n := by
  unfold atA
  generalize (if x < 0 then -(x + 1) else x) = y
  have h1 := Int.emod_lt_of_pos y (show (0 : Int) < (n : Int) - 1 by omega)
  have h2 := Int.emod_nonneg y (show ((n : Int) - 1) ≠ 0 by omega)
  omega

set_option maxRecDepth 100000 in
set_option maxHeartbeats 16000000 in
theorem apart_p (v : Value) (fs : List Fr) (x : Int) (w : World) (hv : Frames w v fs) (hg : TypeIs w) (hp : pixB fs = false) :
    Calls Tryd.prog 6 #[v, .int .i64 x] w fun e w' => e = .returned (.bool true) ∧ Below w.heap.size w w' := by
  have HG := Lib.hid hg
  have HV := Lib.hid hv
  have c1 := fun w h => pix_any v fs w h
  rw [hp] at c1
  have C1 := Lib.hid c1
  clear hv hg c1 hp
  go_enter Tryd.func6, Tryd.ntmps6
  have g0 : Below w.heap.size w w := Below.refl _ _
  go_wp2_with fail
  refine (first_any _ (HG.out.ext (by go_grown))).mono ?_
  rintro e w1 ⟨rfl, hb1⟩
  have j1 : Below w.heap.size w w1 := ext (by go_grown) hb1
  have g1 : Below w.heap.size w w1 := ext g0 j1
  have s1 := j1.size
  have t1 := g1.size
  go_wp2_with fail
  refine (C1.out _ ((HV.out.ext j1).ext (by go_grown))).mono ?_
  rintro e w2 ⟨rfl, hb2⟩
  have j2 : Below w1.heap.size w1 w2 := ext (by go_grown) hb2
  have g2 : Below w.heap.size w w2 := ext g1 j2
  have s2 := j2.size
  have t2 := g2.size
  go_wp2_with fail
  refine (first_any _ (((HG.out.ext j1).ext j2).ext (by go_grown))).mono ?_
  rintro e w3 ⟨rfl, hb3⟩
  have j3 : Below w2.heap.size w2 w3 := ext (by go_grown) hb3
  have g3 : Below w.heap.size w w3 := ext g2 j3
  have s3 := j3.size
  have t3 := g3.size
  go_wp2
  all_goals go_returns
  all_goals exact ⟨by first | rfl | (simp; done) | (simp; omega), g3⟩

set_option maxRecDepth 100000 in
set_option maxHeartbeats 16000000 in
theorem apart_l (v : Value) (fs : List Fr) (x : Int) (w : World) (hv : Frames w v fs) (hg : TypeIs w) (hp : pixB fs = true) (h1 : fs.length < 2) :
    Calls Tryd.prog 6 #[v, .int .i64 x] w fun e w' => e = .returned (.bool true) ∧ Below w.heap.size w w' := by
  have HG := Lib.hid hg
  have HV := Lib.hid hv
  have c1 := fun w h => pix_any v fs w h
  rw [hp] at c1
  have C1 := Lib.hid c1
  obtain ⟨n, hn⟩ : ∃ n, fs.length = n := ⟨_, rfl⟩
  obtain ⟨ao, cap, rfl⟩ := hv.shapeN hn
  rw [hn] at h1
  clear hv hg c1 hp hn
  go_enter Tryd.func6, Tryd.ntmps6
  have g0 : Below w.heap.size w w := Below.refl _ _
  go_wp2_with fail
  refine (first_any _ (HG.out.ext (by go_grown))).mono ?_
  rintro e w1 ⟨rfl, hb1⟩
  have j1 : Below w.heap.size w w1 := ext (by go_grown) hb1
  have g1 : Below w.heap.size w w1 := ext g0 j1
  have s1 := j1.size
  have t1 := g1.size
  go_wp2_with fail
  refine (C1.out _ ((HV.out.ext j1).ext (by go_grown))).mono ?_
  rintro e w2 ⟨rfl, hb2⟩
  have j2 : Below w1.heap.size w1 w2 := ext (by go_grown) hb2
  have g2 : Below w.heap.size w w2 := ext g1 j2
  have s2 := j2.size
  have t2 := g2.size
  go_wp2_with fail
  refine (first_any _ (((HG.out.ext j1).ext j2).ext (by go_grown))).mono ?_
  rintro e w3 ⟨rfl, hb3⟩
  have j3 : Below w2.heap.size w2 w3 := ext (by go_grown) hb3
  have g3 : Below w.heap.size w w3 := ext g2 j3
  have s3 := j3.size
  have t3 := g3.size
  go_wp2
  all_goals go_returns
  all_goals exact ⟨by first | rfl | (simp; done) | (simp; omega), g3⟩

set_option maxRecDepth 100000 in
set_option maxHeartbeats 16000000 in
theorem apart_g (v : Value) (fs : List Fr) (x : Int) (w : World) (hv : Frames w v fs) (hg : TypeIs w) (hp : pixB fs = true) (h1 : 16 < fs.length) :
    Calls Tryd.prog 6 #[v, .int .i64 x] w fun e w' => e = .returned (.bool true) ∧ Below w.heap.size w w' := by
  have HG := Lib.hid hg
  have HV := Lib.hid hv
  have c1 := fun w h => pix_any v fs w h
  rw [hp] at c1
  have C1 := Lib.hid c1
  obtain ⟨n, hn⟩ : ∃ n, fs.length = n := ⟨_, rfl⟩
  obtain ⟨ao, cap, rfl⟩ := hv.shapeN hn
  rw [hn] at h1
  clear hv hg c1 hp hn
  go_enter Tryd.func6, Tryd.ntmps6
  have g0 : Below w.heap.size w w := Below.refl _ _
  go_wp2_with fail
  refine (first_any _ (HG.out.ext (by go_grown))).mono ?_
  rintro e w1 ⟨rfl, hb1⟩
  have j1 : Below w.heap.size w w1 := ext (by go_grown) hb1
  have g1 : Below w.heap.size w w1 := ext g0 j1
  have s1 := j1.size
  have t1 := g1.size
  go_wp2_with fail
  refine (C1.out _ ((HV.out.ext j1).ext (by go_grown))).mono ?_
  rintro e w2 ⟨rfl, hb2⟩
  have j2 : Below w1.heap.size w1 w2 := ext (by go_grown) hb2
  have g2 : Below w.heap.size w w2 := ext g1 j2
  have s2 := j2.size
  have t2 := g2.size
  go_wp2_with fail
  refine (first_any _ (((HG.out.ext j1).ext j2).ext (by go_grown))).mono ?_
  rintro e w3 ⟨rfl, hb3⟩
  have j3 : Below w2.heap.size w2 w3 := ext (by go_grown) hb3
  have g3 : Below w.heap.size w w3 := ext g2 j3
  have s3 := j3.size
  have t3 := g3.size
  go_wp2
  all_goals go_returns
  all_goals exact ⟨by first | rfl | (simp; done) | (simp; omega), g3⟩

set_option maxRecDepth 100000 in
set_option maxHeartbeats 16000000 in
theorem apart_b (v : Value) (fs : List Fr) (x : Int) (w : World) (hv : Frames w v fs) (hg : TypeIs w) (hp : pixB fs = true) (h2 : 2 ≤ fs.length) (h16 : fs.length ≤ 16) (hb : ∃ j, j < fs.length ∧ wE fs [(0, (fs.length : Int))] j ≠ 0) :
    Calls Tryd.prog 6 #[v, .int .i64 x] w fun e w' => e = .returned (.bool true) ∧ Below w.heap.size w w' := by
  have HG := Lib.hid hg
  have HV := Lib.hid hv
  have c1 := fun w h => pix_any v fs w h
  rw [hp] at c1
  have C1 := Lib.hid c1
  have C2 := Lib.hid (fun x w h1 h2 => pweights_bad v x fs [(0, (fs.length : Int))] w h1 h2 (.inr hb))
  clear hb
  obtain ⟨n, hn⟩ : ∃ n, fs.length = n := ⟨_, rfl⟩
  obtain ⟨ao, cap, rfl⟩ := hv.shapeN hn
  rw [hn] at h2 h16 C2
  clear hv hg c1 hp hn
  go_enter Tryd.func6, Tryd.ntmps6
  have g0 : Below w.heap.size w w := Below.refl _ _
  go_wp2_with fail
  refine (first_any _ (HG.out.ext (by go_grown))).mono ?_
  rintro e w1 ⟨rfl, hb1⟩
  have j1 : Below w.heap.size w w1 := ext (by go_grown) hb1
  have g1 : Below w.heap.size w w1 := ext g0 j1
  have s1 := j1.size
  have t1 := g1.size
  go_wp2_with fail
  refine (C1.out _ ((HV.out.ext j1).ext (by go_grown))).mono ?_
  rintro e w2 ⟨rfl, hb2⟩
  have j2 : Below w1.heap.size w1 w2 := ext (by go_grown) hb2
  have g2 : Below w.heap.size w w2 := ext g1 j2
  have s2 := j2.size
  have t2 := g2.size
  have jGL : Below w2.heap.size w2 (w2.alloc (.cells #[.int .i64 0, .int .i64 (n : Int)] 52)) := by go_grown
  have GL := Lib.hid (grps_one (Blk.new w2 #[.int .i64 0, .int .i64 (n : Int)] 52) (show in64 _ by unfold in64; omega) (show in64 _ by unfold in64; omega))
  go_wp2_with fail
  refine (C2.out _ _ (((HV.out.ext j1).ext j2).ext jGL) GL.out).mono ?_
  rintro e w3 ⟨T, X, rfl, hb3⟩
  have j3 : Below w2.heap.size w2 w3 := ext (by go_grown) hb3
  have g3 : Below w.heap.size w w3 := ext g2 j3
  have s3 := j3.size
  have t3 := g3.size
  go_wp2_with fail
  refine (first_any _ ((((HG.out.ext j1).ext j2).ext j3).ext (by go_grown))).mono ?_
  rintro e w4 ⟨rfl, hb4⟩
  have j4 : Below w3.heap.size w3 w4 := ext (by go_grown) hb4
  have g4 : Below w.heap.size w w4 := ext g3 j4
  have s4 := j4.size
  have t4 := g4.size
  go_wp2
  all_goals go_returns
  all_goals exact ⟨by first | rfl | (simp; done) | (simp; omega), g4⟩

set_option maxRecDepth 100000 in
set_option maxHeartbeats 16000000 in
theorem apart_n (v : Value) (fs : List Fr) (x : Int) (w : World) (hv : Frames w v fs) (hg : TypeIs w) (hp : pixB fs = true) (h2 : 2 ≤ fs.length) (h16 : fs.length ≤ 16) (hz : ∀ j, j < fs.length → wE fs [(0, (fs.length : Int))] j = 0) (hx : x < 0) (hi : in64 x) :
    Calls Tryd.prog 6 #[v, .int .i64 x] w fun e w' => e = .returned (.bool true) ∧ Below w.heap.size w w' := by
  have HG := Lib.hid hg
  have HV := Lib.hid hv
  have c1 := fun w h => pix_any v fs w h
  rw [hp] at c1
  have C1 := Lib.hid c1
  have ht := tiles1 (n := fs.length) (by omega) h16
  have c2 := fun y w h1 h2 => pweights_ok v y fs [(0, (fs.length : Int))] w h1 h2 ht hz
  have hgd := good_of (by omega) hz
  obtain ⟨a1, a2⟩ := atA_bd (x := x) h2
  obtain ⟨p, hpa⟩ : ∃ p, atA x fs.length = p + 1 := ⟨atA x fs.length - 1, by omega⟩
  have hpn : p + 1 < fs.length := by omega
  have c3 := fun u y w h1 h2 => pweights_ok u y [frA fs p, frA fs (p + 1)] [(0, 2)] w h1 h2 tiles02 (good_two hgd hpn)
  have c4 := fun y w h1 h2 => pweights_ok v y fs [(0, ((p + 1 : Nat) : Int)), (((p + 1 : Nat) : Int), (fs.length : Int) - ((p + 1 : Nat) : Int))] w h1 h2 (tiles2 (by omega) hpn h16) (good_cut hgd _)
  rw [show ([frA fs p, frA fs (p + 1)] : List Fr).length = 2 from rfl, wV_two] at c3
  have HSM := Lib.hid (fun i h => wV_same fs (fs.length : Int) ((fs.length : Int) - ((p + 1 : Nat) : Int)) (p + 1) i h)
  have hmo := wV_more fs (fs.length : Int) ((fs.length : Int) - ((p + 1 : Nat) : Int)) (a := p + 1) (by omega)
  have hal := wV_all fs (fs.length : Int) (i := p + 1) (by omega)
  rw [Nat.add_sub_cancel] at hal
  obtain ⟨n, hn⟩ : ∃ n, fs.length = n := ⟨_, rfl⟩
  obtain ⟨ao, cap, rfl⟩ := hv.shapeN hn
  rw [hn] at c2 c4 h2 h16 hpn hpa HSM hmo hal
  obtain ⟨m, hm⟩ : ∃ m : Int, (n : Int) - 1 = m := ⟨_, rfl⟩
  obtain ⟨r, hr⟩ : ∃ r : Int, (p : Int) = r := ⟨_, rfl⟩
  have qt : Int.tmod (-(x + 1)) ((n : Int) - 1) = (p : Int) := by
    have e : (1 : Nat) + ((-(x + 1)) % ((n : Int) - 1)).toNat = p + 1 := by
      have := hpa
      unfold atA at this
      rw [if_pos hx] at this
      exact this
    have h2' := Int.emod_nonneg (-(x + 1)) (show ((n : Int) - 1) ≠ 0 by omega)
    unfold in64 at hi
    rw [Int.tmod_eq_emod_of_nonneg (by omega)]
    omega
  unfold in64 at hi
  obtain ⟨hi1, hi2⟩ := hi
  have qx1 : IntKind.i64.wrap (x + 1) = x + 1 := IntWalk.i64_in _ (by omega)
  have qx2 : IntKind.i64.wrap (-(x + 1)) = -(x + 1) := IntWalk.i64_in _ (by omega)
  have qm : IntKind.i64.wrap ((n : Int) - 1) = (n : Int) - 1 := IntWalk.i64_in _ (by omega)
  have qm0 : ¬ (n : Int) - 1 = 0 := by omega
  have qm1 : (((n : Int) - 1) == 0) = false := by rw [beq_eq_false_iff_ne]; omega
  have hpc : n ≤ cap := by obtain ⟨_, _, e, hc, _⟩ := hv; cases e; omega
  obtain ⟨a, ha⟩ : ∃ a, p + 1 = a := ⟨_, rfl⟩
  obtain ⟨c, hc⟩ : ∃ c, a + 1 = c := ⟨_, rfl⟩
  rw [ha] at c3 c4 HSM hmo hal hpn
  have qp : IntKind.i64.wrap (p : Int) = (p : Int) := IntWalk.i64_in _ (by omega)
  have qp1 : IntKind.i64.wrap (1 + (p : Int)) = (a : Int) := by rw [IntWalk.i64_in _ (by omega)]; omega
  have qa1 : IntKind.i64.wrap ((a : Int) - 1) = (p : Int) := by rw [IntWalk.i64_in _ (by omega)]; omega
  have qa2 : IntKind.i64.wrap ((a : Int) + 1) = (c : Int) := by rw [IntWalk.i64_in _ (by omega)]; omega
  have qna : IntKind.i64.wrap ((n : Int) - a) = (n : Int) - a := IntWalk.i64_in _ (by omega)
  have b1 : (0 : Int) ≤ (p : Int) := by omega
  have b2 : (p : Int) ≤ (c : Int) := by omega
  have b3 : (c : Int) ≤ (cap : Int) := by omega
  have b4 : p ≤ c := by omega
  have b5 : c ≤ cap := by omega
  have b6 : a < n := by omega
  have hcp : c - p = 2 := by omega
  have HPA := Lib.hid (And.intro ha hpn)
  have LN := Lib.hid hn
  obtain ⟨bf, off, rfl⟩ : ∃ bf off, ao = some ⟨bf, off, none⟩ := by
    obtain ⟨bf, off, _, _, e, _⟩ := hv.cellAt (j := 0) (by rw [hn]; omega); exact ⟨bf, off, e⟩
  have HVP := Lib.hid (show Frames w (.slice (some ⟨bf, off + p * 3, none⟩) 2 (cap - p)) [frA fs p, frA fs a] from by rw [← ha]; exact hv.pair (by rw [hn]; omega))
  have HWB := Lib.hid (wV_bd fs)
  generalize wV fs [(0, (n : Int))] = V1 at *
  generalize wV fs [(0, (a : Int)), ((a : Int), (n : Int) - (a : Int))] = V2 at *
  generalize 64 + innV (frA fs p) * 2 = t0 at *
  rw [← hal] at c3
  generalize hV1 : V1 a = T at *
  have HV1 := Lib.hid hV1
  obtain ⟨T2, hV2⟩ : ∃ T2, V2 a = T2 := ⟨_, rfl⟩
  rw [hV2] at hmo
  have HV2 := Lib.hid hV2
  have C2 := Lib.hid c2
  have C3 := Lib.hid c3
  have C4 := Lib.hid c4
  have qnn : ((n : Int) != (n : Int)) = false := by simp
  have qtt : (T != T) = false := by simp
  clear hv hg c1 c2 c3 c4 hp hn hz ht hgd hm hr hpa ha hc hal hV1 hV2 hpn a1 a2
  go_enter Tryd.func6, Tryd.ntmps6
  have g0 : Below w.heap.size w w := Below.refl _ _
  go_wp2_with fail
  refine (first_any _ (HG.out.ext (by go_grown))).mono ?_
  rintro e w1 ⟨rfl, hb1⟩
  have j1 : Below w.heap.size w w1 := ext (by go_grown) hb1
  have g1 : Below w.heap.size w w1 := ext g0 j1
  have s1 := j1.size
  have t1 := g1.size
  go_wp2_with fail
  refine (C1.out _ ((HV.out.ext j1).ext (by go_grown))).mono ?_
  rintro e w2 ⟨rfl, hb2⟩
  have j2 : Below w1.heap.size w1 w2 := ext (by go_grown) hb2
  have g2 : Below w.heap.size w w2 := ext g1 j2
  have s2 := j2.size
  have t2 := g2.size
  have jGL : Below w2.heap.size w2 (w2.alloc (.cells #[.int .i64 0, .int .i64 (n : Int)] 52)) := by go_grown
  have GL := Lib.hid (grps_one (Blk.new w2 #[.int .i64 0, .int .i64 (n : Int)] 52) (show in64 _ by unfold in64; omega) (show in64 _ by unfold in64; omega))
  go_wp2_with fail
  refine (C2.out _ _ (((HV.out.ext j1).ext j2).ext jGL) GL.out).mono ?_
  rintro e w3 ⟨va, rfl, og, hb3⟩
  have j3 : Below w2.heap.size w2 w3 := ext (by go_grown) hb3
  have g3 : Below w.heap.size w w3 := ext g2 j3
  have s3 := j3.size
  have t3 := g3.size
  obtain ⟨wo, wc, rfl⟩ := og.sliceN (length_mapTo _ n)
  have WA := Lib.hid (og.ints)
  clear og
  have jGP : Below w3.heap.size w3 (w3.alloc (.cells #[.int .i64 0, .int .i64 2] 52)) := by go_grown
  have GP := Lib.hid (grps_one (Blk.new w3 #[.int .i64 0, .int .i64 2] 52) (show in64 _ by unfold in64; omega) (show in64 _ by unfold in64; omega))
  go_wp2_with fail
  refine (C3.out _ _ _ ((((HVP.out.ext j1).ext j2).ext j3).ext jGP) GP.out).mono ?_
  rintro e w4 ⟨vb, rfl, og, hb4⟩
  have j4 : Below w3.heap.size w3 w4 := ext (by go_grown) hb4
  have g4 : Below w.heap.size w w4 := ext g3 j4
  have s4 := j4.size
  have t4 := g4.size
  obtain ⟨tto, tc, rfl⟩ := og.sliceN (n := 2) rfl
  have WT := Lib.hid (og.ints)
  clear og
  have jGC : Below w4.heap.size w4 (w4.alloc (.cells #[.int .i64 0, .int .i64 (a : Int), .int .i64 (a : Int), .int .i64 ((n : Int) - (a : Int))] 52)) := by go_grown
  have GC := Lib.hid (grps_two (Blk.new w4 #[.int .i64 0, .int .i64 (a : Int), .int .i64 (a : Int), .int .i64 ((n : Int) - (a : Int))] 52) (show in64 _ by unfold in64; omega) (show in64 _ by unfold in64; omega) (show in64 _ by unfold in64; omega) (show in64 _ by unfold in64; omega))
  go_wp2_with fail
  refine (C4.out _ _ (((((HV.out.ext j1).ext j2).ext j3).ext j4).ext jGC) GC.out).mono ?_
  rintro e w5 ⟨vc, rfl, og, hb5⟩
  have j5 : Below w4.heap.size w4 w5 := ext (by go_grown) hb5
  have g5 : Below w.heap.size w w5 := ext g4 j5
  have s5 := j5.size
  have t5 := g5.size
  try rw [LN.out] at og
  obtain ⟨xo, xc, rfl⟩ := og.sliceN (length_mapTo _ n)
  have WC := Lib.hid (og.ints)
  clear og
  obtain ⟨ga, oa, rfl, ca, la⟩ := (((WA.out.ext j4).ext j5)).cellN (j := a) (by rw [length_mapTo]; exact b6)
  rw [getD_mapTo b6, HV1.out] at ca
  obtain ⟨gt, ot, rfl, ct, lt⟩ := ((WT.out.ext j5)).cellN (j := 1) (by simp)
  simp only [List.getD_cons_succ, List.getD_cons_zero] at ct
  go_wp2_with fail
  go_quiet (fail)
  rename_i nq
  have j6 : Below w5.heap.size w5 (w5.drewN nq) := below_drewN' (Below.refl _ _) nq
  generalize hq6 : w5.drewN nq = w6 at *
  clear hq6
  have g6 : Below w.heap.size w w6 := ext g5 j6
  have s6 := j6.size
  have t6 := g6.size
  clear ca ct la lt
  go_wp2
  go_loopw [11] (fun z wr => ∃ i : Nat, i ≤ n ∧ z = .int .i64 i ∧ Below w6.heap.size w6 wr) (fun z _ => n - (intOf z).toNat)
  case atStart => exact ⟨0, Nat.zero_le _, rfl, Below.refl _ _⟩
  case round =>
    obtain ⟨i, hi, rfl, hbr⟩ := hrel
    have gr : Below w.heap.size w wr := ext g6 hbr
    by_cases hlt : i < n
    · by_cases hia : i = a
      · have qia : ((i : Int) != (a : Int)) = false := by simp; omega
        clear hia
        go_wp2
        refine wp_region_held_drew (S := fun _ => True) (by kernel_rfl) trivial (fun hHeld => ?_)
        refine wpAnyH_take (i := 0) (v := ?_) rfl (by kernel_rfl) (by kernel_rfl) (by kernel_rfl) (fun _ _ _ h => h) (Or.inl ⟨by rfl, ?_⟩) (by assumption) ?_
        rotate_left
        · (intro w hSw; (try dsimp only at hSw); go_simp; try with_reducible rfl)
        try simp only [List.getElem_toArray, List.getElem_cons_zero, List.getElem_cons_succ, Act.put, List.setIfInBounds_toArray, List.set_cons_zero, List.set_cons_succ]
        refine wpAnyH_take (i := 1) (v := ?_) rfl (by kernel_rfl) (by kernel_rfl) (by kernel_rfl) (fun _ _ _ h => h) (Or.inl ⟨by rfl, ?_⟩) (by assumption) ?_
        rotate_left
        · (intro w hSw; (try dsimp only at hSw); go_simp; try with_reducible rfl)
        try simp only [List.getElem_toArray, List.getElem_cons_zero, List.getElem_cons_succ, Act.put, List.setIfInBounds_toArray, List.set_cons_zero, List.set_cons_succ]
        refine wpAnyH_take (i := 2) (v := ?_) rfl (by kernel_rfl) (by kernel_rfl) (by kernel_rfl) (fun _ _ _ h => h) (Or.inl ⟨by rfl, ?_⟩) (by assumption) ?_
        rotate_left
        · (intro w hSw; (try dsimp only at hSw); go_simp; try with_reducible rfl)
        try simp only [List.getElem_toArray, List.getElem_cons_zero, List.getElem_cons_succ, Act.put, List.setIfInBounds_toArray, List.set_cons_zero, List.set_cons_succ]
        refine wpAnyH_take (i := 3) (v := ?_) rfl (by kernel_rfl) (by kernel_rfl) (by kernel_rfl) (fun _ _ _ h => h) (Or.inl ⟨by rfl, ?_⟩) (by assumption) ?_
        rotate_left
        · (intro w hSw; (try dsimp only at hSw); go_simp; try with_reducible rfl)
        try simp only [List.getElem_toArray, List.getElem_cons_zero, List.getElem_cons_succ, Act.put, List.setIfInBounds_toArray, List.set_cons_zero, List.set_cons_succ]
        refine wpAnyH_take (i := 4) (v := undef) rfl (by kernel_rfl) (by kernel_rfl) (by kernel_rfl) (fun _ _ _ h => h) (Or.inr ⟨by rfl, rfl⟩) (by assumption) ?_
        try simp only [List.getElem_toArray, List.getElem_cons_zero, List.getElem_cons_succ, Act.put, List.setIfInBounds_toArray, List.set_cons_zero, List.set_cons_succ]
        refine wpAnyH_take (i := 5) (v := undef) rfl (by kernel_rfl) (by kernel_rfl) (by kernel_rfl) (fun _ _ _ h => h) (Or.inr ⟨by rfl, rfl⟩) (by assumption) ?_
        try simp only [List.getElem_toArray, List.getElem_cons_zero, List.getElem_cons_succ, Act.put, List.setIfInBounds_toArray, List.set_cons_zero, List.set_cons_succ]
        refine wpAnyH_take (i := 6) (v := undef) rfl (by kernel_rfl) (by kernel_rfl) (by kernel_rfl) (fun _ _ _ h => h) (Or.inr ⟨by rfl, rfl⟩) (by assumption) ?_
        try simp only [List.getElem_toArray, List.getElem_cons_zero, List.getElem_cons_succ, Act.put, List.setIfInBounds_toArray, List.set_cons_zero, List.set_cons_succ]
        refine wpAnyH_take (i := 7) (v := undef) rfl (by kernel_rfl) (by kernel_rfl) (by kernel_rfl) (fun _ _ _ h => h) (Or.inr ⟨by rfl, rfl⟩) (by assumption) ?_
        try simp only [List.getElem_toArray, List.getElem_cons_zero, List.getElem_cons_succ, Act.put, List.setIfInBounds_toArray, List.set_cons_zero, List.set_cons_succ]
        refine wpAnyH_take (i := 8) (v := undef) rfl (by kernel_rfl) (by kernel_rfl) (by kernel_rfl) (fun _ _ _ h => h) (Or.inr ⟨by rfl, rfl⟩) (by assumption) ?_
        try simp only [List.getElem_toArray, List.getElem_cons_zero, List.getElem_cons_succ, Act.put, List.setIfInBounds_toArray, List.set_cons_zero, List.set_cons_succ]
        refine wpAnyH_take (i := 9) (v := undef) rfl (by kernel_rfl) (by kernel_rfl) (by kernel_rfl) (fun _ _ _ h => h) (Or.inr ⟨by rfl, rfl⟩) (by assumption) ?_
        try simp only [List.getElem_toArray, List.getElem_cons_zero, List.getElem_cons_succ, Act.put, List.setIfInBounds_toArray, List.set_cons_zero, List.set_cons_succ]
        refine wpAnyH_take (i := 10) (v := undef) rfl (by kernel_rfl) (by kernel_rfl) (by kernel_rfl) (fun _ _ _ h => h) (Or.inr ⟨by rfl, rfl⟩) (by assumption) ?_
        try simp only [List.getElem_toArray, List.getElem_cons_zero, List.getElem_cons_succ, Act.put, List.setIfInBounds_toArray, List.set_cons_zero, List.set_cons_succ]
        refine wpAnyH_take (i := 11) (v := undef) rfl (by kernel_rfl) (by kernel_rfl) (by kernel_rfl) (fun _ _ _ h => h) (Or.inr ⟨by rfl, rfl⟩) (by assumption) ?_
        try simp only [List.getElem_toArray, List.getElem_cons_zero, List.getElem_cons_succ, Act.put, List.setIfInBounds_toArray, List.set_cons_zero, List.set_cons_succ]
        refine wpAnyH_take (i := 12) (v := undef) rfl (by kernel_rfl) (by kernel_rfl) (by kernel_rfl) (fun _ _ _ h => h) (Or.inr ⟨by rfl, rfl⟩) (by assumption) ?_
        try simp only [List.getElem_toArray, List.getElem_cons_zero, List.getElem_cons_succ, Act.put, List.setIfInBounds_toArray, List.set_cons_zero, List.set_cons_succ]
        refine wpAnyH_take (i := 13) (v := ?_) rfl (by kernel_rfl) (by kernel_rfl) (by kernel_rfl) (fun _ _ _ h => h) (Or.inl ⟨by rfl, ?_⟩) (by assumption) ?_
        rotate_left
        · (intro w hSw; (try dsimp only at hSw); go_simp; try with_reducible rfl)
        try simp only [List.getElem_toArray, List.getElem_cons_zero, List.getElem_cons_succ, Act.put, List.setIfInBounds_toArray, List.set_cons_zero, List.set_cons_succ]
        refine wpAnyH_done (by kernel_rfl) ?_ _
        go_wp2
        go_roundw
        case rel => exact ⟨i + 1, by omega, by go_num, by first | exact hbr | exact hbr.drew⟩
        case measure => simp [intOf]; omega
      · have qia : ((i : Int) != (a : Int)) = true := by simp; omega
        obtain ⟨g1', o1', e1', cx, lx⟩ := (((((WA.out.ext j4).ext j5).ext j6)).ext hbr).cellN (j := i) (by rw [length_mapTo]; exact hlt)
        obtain ⟨rfl, rfl⟩ : ga = g1' ∧ oa = o1' := by simpa using e1'
        clear e1'
        obtain ⟨g2', o2', rfl, cy, ly⟩ := (((WC.out.ext j6)).ext hbr).cellN (j := i) (by rw [length_mapTo]; exact hlt)
        rw [getD_mapTo hlt] at cx cy
        rw [HSM.out i hia] at cy
        generalize V1 i = z at *
        have qzz : (z != z) = false := by simp
        clear hia
        go_wp2
        go_quiet (fail)
        go_wp2
        go_roundw
        case rel => exact ⟨i + 1, by omega, by go_num, by first | exact hbr | exact below_drewN' hbr _⟩
        case measure => simp [intOf]; omega
    · obtain rfl : i = n := by omega
      have qd : decide ((i : Int) < (i : Int)) = false := by simp
      obtain ⟨g1', o1', e1', cx, lx⟩ := (((((WA.out.ext j4).ext j5).ext j6)).ext hbr).cellN (j := a) (by rw [length_mapTo]; exact b6)
      obtain ⟨rfl, rfl⟩ : ga = g1' ∧ oa = o1' := by simpa using e1'
      clear e1'
      obtain ⟨g2', o2', rfl, cy, ly⟩ := (((WC.out.ext j6)).ext hbr).cellN (j := a) (by rw [length_mapTo]; exact b6)
      rw [getD_mapTo b6] at cx cy
      rw [HV1.out] at cx
      rw [HV2.out] at cy
      have S2 := Lib.hid (And.intro cx cy)
      have HGa := Lib.hid ((((((((HG.out.ext j1).ext j2).ext j3).ext j4).ext j5).ext j6)).ext hbr)
      go_wp2
      go_region_held3 (fun w' => w'.cell? ⟨ga, oa + a, none⟩ = some (.int .i64 T) ∧ w'.cell? ⟨g2', o2' + a, none⟩ = some (.int .i64 T2))
        (first | with_reducible exact S29.out | with_reducible exact S2.out | go_keep)
        (first | (go_at_call 8; refine (first_any _ (HGa.out.ext (by go_grown))).mono ?_; rintro e w9 ⟨rfl, hb9⟩; have j9 : Below wr.heap.size wr w9 := (by first | exact hb9 | exact below_undrew hb9); have S29 := Lib.hid (And.intro ((j9.cell (p := ⟨ga, _, none⟩) lx).trans cx) ((j9.cell (p := ⟨g2', _, none⟩) ly).trans cy))))
      have g9 : Below w.heap.size w w9 := ext gr j9
      go_wp2
      all_goals go_returns
      all_goals exact ⟨by first | rfl | (simp; done) | (simp; omega), by first | exact g9 | exact below_drewN' g9 _⟩

set_option maxRecDepth 100000 in
set_option maxHeartbeats 16000000 in
theorem apart_y (v : Value) (fs : List Fr) (x : Int) (w : World) (hv : Frames w v fs) (hg : TypeIs w) (hp : pixB fs = true) (h2 : 2 ≤ fs.length) (h16 : fs.length ≤ 16) (hz : ∀ j, j < fs.length → wE fs [(0, (fs.length : Int))] j = 0) (hx : 0 ≤ x) (hi : in64 x) :
    Calls Tryd.prog 6 #[v, .int .i64 x] w fun e w' => e = .returned (.bool true) ∧ Below w.heap.size w w' := by
  have HG := Lib.hid hg
  have HV := Lib.hid hv
  have c1 := fun w h => pix_any v fs w h
  rw [hp] at c1
  have C1 := Lib.hid c1
  have ht := tiles1 (n := fs.length) (by omega) h16
  have c2 := fun y w h1 h2 => pweights_ok v y fs [(0, (fs.length : Int))] w h1 h2 ht hz
  have hgd := good_of (by omega) hz
  obtain ⟨a1, a2⟩ := atA_bd (x := x) h2
  obtain ⟨p, hpa⟩ : ∃ p, atA x fs.length = p + 1 := ⟨atA x fs.length - 1, by omega⟩
  have hpn : p + 1 < fs.length := by omega
  have c3 := fun u y w h1 h2 => pweights_ok u y [frA fs p, frA fs (p + 1)] [(0, 2)] w h1 h2 tiles02 (good_two hgd hpn)
  have c4 := fun y w h1 h2 => pweights_ok v y fs [(0, ((p + 1 : Nat) : Int)), (((p + 1 : Nat) : Int), (fs.length : Int) - ((p + 1 : Nat) : Int))] w h1 h2 (tiles2 (by omega) hpn h16) (good_cut hgd _)
  rw [show ([frA fs p, frA fs (p + 1)] : List Fr).length = 2 from rfl, wV_two] at c3
  have HSM := Lib.hid (fun i h => wV_same fs (fs.length : Int) ((fs.length : Int) - ((p + 1 : Nat) : Int)) (p + 1) i h)
  have hmo := wV_more fs (fs.length : Int) ((fs.length : Int) - ((p + 1 : Nat) : Int)) (a := p + 1) (by omega)
  have hal := wV_all fs (fs.length : Int) (i := p + 1) (by omega)
  rw [Nat.add_sub_cancel] at hal
  obtain ⟨n, hn⟩ : ∃ n, fs.length = n := ⟨_, rfl⟩
  obtain ⟨ao, cap, rfl⟩ := hv.shapeN hn
  rw [hn] at c2 c4 h2 h16 hpn hpa HSM hmo hal
  obtain ⟨m, hm⟩ : ∃ m : Int, (n : Int) - 1 = m := ⟨_, rfl⟩
  obtain ⟨r, hr⟩ : ∃ r : Int, (p : Int) = r := ⟨_, rfl⟩
  have qt : Int.tmod (x) ((n : Int) - 1) = (p : Int) := by
    have e : (1 : Nat) + ((x) % ((n : Int) - 1)).toNat = p + 1 := by
      have := hpa
      unfold atA at this
      rw [if_neg (by omega)] at this
      exact this
    have h2' := Int.emod_nonneg (x) (show ((n : Int) - 1) ≠ 0 by omega)
    unfold in64 at hi
    rw [Int.tmod_eq_emod_of_nonneg (by omega)]
    omega
  unfold in64 at hi
  obtain ⟨hi1, hi2⟩ := hi
  have qm : IntKind.i64.wrap ((n : Int) - 1) = (n : Int) - 1 := IntWalk.i64_in _ (by omega)
  have qm0 : ¬ (n : Int) - 1 = 0 := by omega
  have qm1 : (((n : Int) - 1) == 0) = false := by rw [beq_eq_false_iff_ne]; omega
  have hpc : n ≤ cap := by obtain ⟨_, _, e, hc, _⟩ := hv; cases e; omega
  obtain ⟨a, ha⟩ : ∃ a, p + 1 = a := ⟨_, rfl⟩
  obtain ⟨c, hc⟩ : ∃ c, a + 1 = c := ⟨_, rfl⟩
  rw [ha] at c3 c4 HSM hmo hal hpn
  have qp : IntKind.i64.wrap (p : Int) = (p : Int) := IntWalk.i64_in _ (by omega)
  have qp1 : IntKind.i64.wrap (1 + (p : Int)) = (a : Int) := by rw [IntWalk.i64_in _ (by omega)]; omega
  have qa1 : IntKind.i64.wrap ((a : Int) - 1) = (p : Int) := by rw [IntWalk.i64_in _ (by omega)]; omega
  have qa2 : IntKind.i64.wrap ((a : Int) + 1) = (c : Int) := by rw [IntWalk.i64_in _ (by omega)]; omega
  have qna : IntKind.i64.wrap ((n : Int) - a) = (n : Int) - a := IntWalk.i64_in _ (by omega)
  have b1 : (0 : Int) ≤ (p : Int) := by omega
  have b2 : (p : Int) ≤ (c : Int) := by omega
  have b3 : (c : Int) ≤ (cap : Int) := by omega
  have b4 : p ≤ c := by omega
  have b5 : c ≤ cap := by omega
  have b6 : a < n := by omega
  have hcp : c - p = 2 := by omega
  have HPA := Lib.hid (And.intro ha hpn)
  have LN := Lib.hid hn
  obtain ⟨bf, off, rfl⟩ : ∃ bf off, ao = some ⟨bf, off, none⟩ := by
    obtain ⟨bf, off, _, _, e, _⟩ := hv.cellAt (j := 0) (by rw [hn]; omega); exact ⟨bf, off, e⟩
  have HVP := Lib.hid (show Frames w (.slice (some ⟨bf, off + p * 3, none⟩) 2 (cap - p)) [frA fs p, frA fs a] from by rw [← ha]; exact hv.pair (by rw [hn]; omega))
  have HWB := Lib.hid (wV_bd fs)
  generalize wV fs [(0, (n : Int))] = V1 at *
  generalize wV fs [(0, (a : Int)), ((a : Int), (n : Int) - (a : Int))] = V2 at *
  generalize 64 + innV (frA fs p) * 2 = t0 at *
  rw [← hal] at c3
  generalize hV1 : V1 a = T at *
  have HV1 := Lib.hid hV1
  obtain ⟨T2, hV2⟩ : ∃ T2, V2 a = T2 := ⟨_, rfl⟩
  rw [hV2] at hmo
  have HV2 := Lib.hid hV2
  have C2 := Lib.hid c2
  have C3 := Lib.hid c3
  have C4 := Lib.hid c4
  have qnn : ((n : Int) != (n : Int)) = false := by simp
  have qtt : (T != T) = false := by simp
  clear hv hg c1 c2 c3 c4 hp hn hz ht hgd hm hr hpa ha hc hal hV1 hV2 hpn a1 a2
  go_enter Tryd.func6, Tryd.ntmps6
  have g0 : Below w.heap.size w w := Below.refl _ _
  go_wp2_with fail
  refine (first_any _ (HG.out.ext (by go_grown))).mono ?_
  rintro e w1 ⟨rfl, hb1⟩
  have j1 : Below w.heap.size w w1 := ext (by go_grown) hb1
  have g1 : Below w.heap.size w w1 := ext g0 j1
  have s1 := j1.size
  have t1 := g1.size
  go_wp2_with fail
  refine (C1.out _ ((HV.out.ext j1).ext (by go_grown))).mono ?_
  rintro e w2 ⟨rfl, hb2⟩
  have j2 : Below w1.heap.size w1 w2 := ext (by go_grown) hb2
  have g2 : Below w.heap.size w w2 := ext g1 j2
  have s2 := j2.size
  have t2 := g2.size
  have jGL : Below w2.heap.size w2 (w2.alloc (.cells #[.int .i64 0, .int .i64 (n : Int)] 52)) := by go_grown
  have GL := Lib.hid (grps_one (Blk.new w2 #[.int .i64 0, .int .i64 (n : Int)] 52) (show in64 _ by unfold in64; omega) (show in64 _ by unfold in64; omega))
  go_wp2_with fail
  refine (C2.out _ _ (((HV.out.ext j1).ext j2).ext jGL) GL.out).mono ?_
  rintro e w3 ⟨va, rfl, og, hb3⟩
  have j3 : Below w2.heap.size w2 w3 := ext (by go_grown) hb3
  have g3 : Below w.heap.size w w3 := ext g2 j3
  have s3 := j3.size
  have t3 := g3.size
  obtain ⟨wo, wc, rfl⟩ := og.sliceN (length_mapTo _ n)
  have WA := Lib.hid (og.ints)
  clear og
  have jGP : Below w3.heap.size w3 (w3.alloc (.cells #[.int .i64 0, .int .i64 2] 52)) := by go_grown
  have GP := Lib.hid (grps_one (Blk.new w3 #[.int .i64 0, .int .i64 2] 52) (show in64 _ by unfold in64; omega) (show in64 _ by unfold in64; omega))
  go_wp2_with fail
  refine (C3.out _ _ _ ((((HVP.out.ext j1).ext j2).ext j3).ext jGP) GP.out).mono ?_
  rintro e w4 ⟨vb, rfl, og, hb4⟩
  have j4 : Below w3.heap.size w3 w4 := ext (by go_grown) hb4
  have g4 : Below w.heap.size w w4 := ext g3 j4
  have s4 := j4.size
  have t4 := g4.size
  obtain ⟨tto, tc, rfl⟩ := og.sliceN (n := 2) rfl
  have WT := Lib.hid (og.ints)
  clear og
  have jGC : Below w4.heap.size w4 (w4.alloc (.cells #[.int .i64 0, .int .i64 (a : Int), .int .i64 (a : Int), .int .i64 ((n : Int) - (a : Int))] 52)) := by go_grown
  have GC := Lib.hid (grps_two (Blk.new w4 #[.int .i64 0, .int .i64 (a : Int), .int .i64 (a : Int), .int .i64 ((n : Int) - (a : Int))] 52) (show in64 _ by unfold in64; omega) (show in64 _ by unfold in64; omega) (show in64 _ by unfold in64; omega) (show in64 _ by unfold in64; omega))
  go_wp2_with fail
  refine (C4.out _ _ (((((HV.out.ext j1).ext j2).ext j3).ext j4).ext jGC) GC.out).mono ?_
  rintro e w5 ⟨vc, rfl, og, hb5⟩
  have j5 : Below w4.heap.size w4 w5 := ext (by go_grown) hb5
  have g5 : Below w.heap.size w w5 := ext g4 j5
  have s5 := j5.size
  have t5 := g5.size
  try rw [LN.out] at og
  obtain ⟨xo, xc, rfl⟩ := og.sliceN (length_mapTo _ n)
  have WC := Lib.hid (og.ints)
  clear og
  obtain ⟨ga, oa, rfl, ca, la⟩ := (((WA.out.ext j4).ext j5)).cellN (j := a) (by rw [length_mapTo]; exact b6)
  rw [getD_mapTo b6, HV1.out] at ca
  obtain ⟨gt, ot, rfl, ct, lt⟩ := ((WT.out.ext j5)).cellN (j := 1) (by simp)
  simp only [List.getD_cons_succ, List.getD_cons_zero] at ct
  go_wp2_with fail
  go_quiet (fail)
  rename_i nq
  have j6 : Below w5.heap.size w5 (w5.drewN nq) := below_drewN' (Below.refl _ _) nq
  generalize hq6 : w5.drewN nq = w6 at *
  clear hq6
  have g6 : Below w.heap.size w w6 := ext g5 j6
  have s6 := j6.size
  have t6 := g6.size
  clear ca ct la lt
  go_wp2
  go_loopw [11] (fun z wr => ∃ i : Nat, i ≤ n ∧ z = .int .i64 i ∧ Below w6.heap.size w6 wr) (fun z _ => n - (intOf z).toNat)
  case atStart => exact ⟨0, Nat.zero_le _, rfl, Below.refl _ _⟩
  case round =>
    obtain ⟨i, hi, rfl, hbr⟩ := hrel
    have gr : Below w.heap.size w wr := ext g6 hbr
    by_cases hlt : i < n
    · by_cases hia : i = a
      · have qia : ((i : Int) != (a : Int)) = false := by simp; omega
        clear hia
        go_wp2
        refine wp_region_held_drew (S := fun _ => True) (by kernel_rfl) trivial (fun hHeld => ?_)
        refine wpAnyH_take (i := 0) (v := ?_) rfl (by kernel_rfl) (by kernel_rfl) (by kernel_rfl) (fun _ _ _ h => h) (Or.inl ⟨by rfl, ?_⟩) (by assumption) ?_
        rotate_left
        · (intro w hSw; (try dsimp only at hSw); go_simp; try with_reducible rfl)
        try simp only [List.getElem_toArray, List.getElem_cons_zero, List.getElem_cons_succ, Act.put, List.setIfInBounds_toArray, List.set_cons_zero, List.set_cons_succ]
        refine wpAnyH_take (i := 1) (v := ?_) rfl (by kernel_rfl) (by kernel_rfl) (by kernel_rfl) (fun _ _ _ h => h) (Or.inl ⟨by rfl, ?_⟩) (by assumption) ?_
        rotate_left
        · (intro w hSw; (try dsimp only at hSw); go_simp; try with_reducible rfl)
        try simp only [List.getElem_toArray, List.getElem_cons_zero, List.getElem_cons_succ, Act.put, List.setIfInBounds_toArray, List.set_cons_zero, List.set_cons_succ]
        refine wpAnyH_take (i := 2) (v := ?_) rfl (by kernel_rfl) (by kernel_rfl) (by kernel_rfl) (fun _ _ _ h => h) (Or.inl ⟨by rfl, ?_⟩) (by assumption) ?_
        rotate_left
        · (intro w hSw; (try dsimp only at hSw); go_simp; try with_reducible rfl)
        try simp only [List.getElem_toArray, List.getElem_cons_zero, List.getElem_cons_succ, Act.put, List.setIfInBounds_toArray, List.set_cons_zero, List.set_cons_succ]
        refine wpAnyH_take (i := 3) (v := ?_) rfl (by kernel_rfl) (by kernel_rfl) (by kernel_rfl) (fun _ _ _ h => h) (Or.inl ⟨by rfl, ?_⟩) (by assumption) ?_
        rotate_left
        · (intro w hSw; (try dsimp only at hSw); go_simp; try with_reducible rfl)
        try simp only [List.getElem_toArray, List.getElem_cons_zero, List.getElem_cons_succ, Act.put, List.setIfInBounds_toArray, List.set_cons_zero, List.set_cons_succ]
        refine wpAnyH_take (i := 4) (v := undef) rfl (by kernel_rfl) (by kernel_rfl) (by kernel_rfl) (fun _ _ _ h => h) (Or.inr ⟨by rfl, rfl⟩) (by assumption) ?_
        try simp only [List.getElem_toArray, List.getElem_cons_zero, List.getElem_cons_succ, Act.put, List.setIfInBounds_toArray, List.set_cons_zero, List.set_cons_succ]
        refine wpAnyH_take (i := 5) (v := undef) rfl (by kernel_rfl) (by kernel_rfl) (by kernel_rfl) (fun _ _ _ h => h) (Or.inr ⟨by rfl, rfl⟩) (by assumption) ?_
        try simp only [List.getElem_toArray, List.getElem_cons_zero, List.getElem_cons_succ, Act.put, List.setIfInBounds_toArray, List.set_cons_zero, List.set_cons_succ]
        refine wpAnyH_take (i := 6) (v := undef) rfl (by kernel_rfl) (by kernel_rfl) (by kernel_rfl) (fun _ _ _ h => h) (Or.inr ⟨by rfl, rfl⟩) (by assumption) ?_
        try simp only [List.getElem_toArray, List.getElem_cons_zero, List.getElem_cons_succ, Act.put, List.setIfInBounds_toArray, List.set_cons_zero, List.set_cons_succ]
        refine wpAnyH_take (i := 7) (v := undef) rfl (by kernel_rfl) (by kernel_rfl) (by kernel_rfl) (fun _ _ _ h => h) (Or.inr ⟨by rfl, rfl⟩) (by assumption) ?_
        try simp only [List.getElem_toArray, List.getElem_cons_zero, List.getElem_cons_succ, Act.put, List.setIfInBounds_toArray, List.set_cons_zero, List.set_cons_succ]
        refine wpAnyH_take (i := 8) (v := undef) rfl (by kernel_rfl) (by kernel_rfl) (by kernel_rfl) (fun _ _ _ h => h) (Or.inr ⟨by rfl, rfl⟩) (by assumption) ?_
        try simp only [List.getElem_toArray, List.getElem_cons_zero, List.getElem_cons_succ, Act.put, List.setIfInBounds_toArray, List.set_cons_zero, List.set_cons_succ]
        refine wpAnyH_take (i := 9) (v := undef) rfl (by kernel_rfl) (by kernel_rfl) (by kernel_rfl) (fun _ _ _ h => h) (Or.inr ⟨by rfl, rfl⟩) (by assumption) ?_
        try simp only [List.getElem_toArray, List.getElem_cons_zero, List.getElem_cons_succ, Act.put, List.setIfInBounds_toArray, List.set_cons_zero, List.set_cons_succ]
        refine wpAnyH_take (i := 10) (v := undef) rfl (by kernel_rfl) (by kernel_rfl) (by kernel_rfl) (fun _ _ _ h => h) (Or.inr ⟨by rfl, rfl⟩) (by assumption) ?_
        try simp only [List.getElem_toArray, List.getElem_cons_zero, List.getElem_cons_succ, Act.put, List.setIfInBounds_toArray, List.set_cons_zero, List.set_cons_succ]
        refine wpAnyH_take (i := 11) (v := undef) rfl (by kernel_rfl) (by kernel_rfl) (by kernel_rfl) (fun _ _ _ h => h) (Or.inr ⟨by rfl, rfl⟩) (by assumption) ?_
        try simp only [List.getElem_toArray, List.getElem_cons_zero, List.getElem_cons_succ, Act.put, List.setIfInBounds_toArray, List.set_cons_zero, List.set_cons_succ]
        refine wpAnyH_take (i := 12) (v := undef) rfl (by kernel_rfl) (by kernel_rfl) (by kernel_rfl) (fun _ _ _ h => h) (Or.inr ⟨by rfl, rfl⟩) (by assumption) ?_
        try simp only [List.getElem_toArray, List.getElem_cons_zero, List.getElem_cons_succ, Act.put, List.setIfInBounds_toArray, List.set_cons_zero, List.set_cons_succ]
        refine wpAnyH_take (i := 13) (v := ?_) rfl (by kernel_rfl) (by kernel_rfl) (by kernel_rfl) (fun _ _ _ h => h) (Or.inl ⟨by rfl, ?_⟩) (by assumption) ?_
        rotate_left
        · (intro w hSw; (try dsimp only at hSw); go_simp; try with_reducible rfl)
        try simp only [List.getElem_toArray, List.getElem_cons_zero, List.getElem_cons_succ, Act.put, List.setIfInBounds_toArray, List.set_cons_zero, List.set_cons_succ]
        refine wpAnyH_done (by kernel_rfl) ?_ _
        go_wp2
        go_roundw
        case rel => exact ⟨i + 1, by omega, by go_num, by first | exact hbr | exact hbr.drew⟩
        case measure => simp [intOf]; omega
      · have qia : ((i : Int) != (a : Int)) = true := by simp; omega
        obtain ⟨g1', o1', e1', cx, lx⟩ := (((((WA.out.ext j4).ext j5).ext j6)).ext hbr).cellN (j := i) (by rw [length_mapTo]; exact hlt)
        obtain ⟨rfl, rfl⟩ : ga = g1' ∧ oa = o1' := by simpa using e1'
        clear e1'
        obtain ⟨g2', o2', rfl, cy, ly⟩ := (((WC.out.ext j6)).ext hbr).cellN (j := i) (by rw [length_mapTo]; exact hlt)
        rw [getD_mapTo hlt] at cx cy
        rw [HSM.out i hia] at cy
        generalize V1 i = z at *
        have qzz : (z != z) = false := by simp
        clear hia
        go_wp2
        go_quiet (fail)
        go_wp2
        go_roundw
        case rel => exact ⟨i + 1, by omega, by go_num, by first | exact hbr | exact below_drewN' hbr _⟩
        case measure => simp [intOf]; omega
    · obtain rfl : i = n := by omega
      have qd : decide ((i : Int) < (i : Int)) = false := by simp
      obtain ⟨g1', o1', e1', cx, lx⟩ := (((((WA.out.ext j4).ext j5).ext j6)).ext hbr).cellN (j := a) (by rw [length_mapTo]; exact b6)
      obtain ⟨rfl, rfl⟩ : ga = g1' ∧ oa = o1' := by simpa using e1'
      clear e1'
      obtain ⟨g2', o2', rfl, cy, ly⟩ := (((WC.out.ext j6)).ext hbr).cellN (j := a) (by rw [length_mapTo]; exact b6)
      rw [getD_mapTo b6] at cx cy
      rw [HV1.out] at cx
      rw [HV2.out] at cy
      have S2 := Lib.hid (And.intro cx cy)
      have HGa := Lib.hid ((((((((HG.out.ext j1).ext j2).ext j3).ext j4).ext j5).ext j6)).ext hbr)
      go_wp2
      go_region_held3 (fun w' => w'.cell? ⟨ga, oa + a, none⟩ = some (.int .i64 T) ∧ w'.cell? ⟨g2', o2' + a, none⟩ = some (.int .i64 T2))
        (first | with_reducible exact S29.out | with_reducible exact S2.out | go_keep)
        (first | (go_at_call 8; refine (first_any _ (HGa.out.ext (by go_grown))).mono ?_; rintro e w9 ⟨rfl, hb9⟩; have j9 : Below wr.heap.size wr w9 := (by first | exact hb9 | exact below_undrew hb9); have S29 := Lib.hid (And.intro ((j9.cell (p := ⟨ga, _, none⟩) lx).trans cx) ((j9.cell (p := ⟨g2', _, none⟩) ly).trans cy))))
      have g9 : Below w.heap.size w w9 := ext gr j9
      go_wp2
      all_goals go_returns
      all_goals exact ⟨by first | rfl | (simp; done) | (simp; omega), by first | exact g9 | exact below_drewN' g9 _⟩

theorem apart_walk (v : Value) (fs : List Fr) (x : Int) (w : World) (hv : Frames w v fs) (hg : TypeIs w) (hi : in64 x) :
    Calls Tryd.prog 6 #[v, .int .i64 x] w fun e w' => e = .returned (.bool true) ∧ Below w.heap.size w w' := by
  cases hp : pixB fs with
  | false => exact apart_p v fs x w hv hg hp
  | true =>
    by_cases h1 : fs.length < 2
    · exact apart_l v fs x w hv hg hp h1
    by_cases h2 : 16 < fs.length
    · exact apart_g v fs x w hv hg hp h2
    by_cases hz : ∀ j, j < fs.length → wE fs [(0, (fs.length : Int))] j = 0
    · by_cases hx : x < 0
      · exact apart_n v fs x w hv hg hp (by omega) (by omega) hz hx hi
      · exact apart_y v fs x w hv hg hp (by omega) (by omega) hz (by omega) hi
    · refine apart_b v fs x w hv hg hp (by omega) (by omega) ?_
      exact Classical.byContradiction fun h => hz fun j hj => Classical.byContradiction fun h2 => h ⟨j, hj, h2⟩
end Go.Proofs.YtmdpfjjbehpnbaaDoor
