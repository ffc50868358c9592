/- kinlaw16.Pix, scene.Of, fault.In: contracts. -/
import Derived.Test.YtpdhhnhpaahenaaDoorSceneU
set_option linter.unusedSimpArgs false
set_option linter.unusedVariables false
namespace Go.Proofs.YtpdhhnhpaahenaaDoor
open Go.RowKit Go.Extern.Stop Go.Stop Go.Extern

def pixTo (fs : List Fr) (k : Nat) : Int := sumOf k fun i => min ((frA fs i).pix.length : Int) 20001
def pixB (fs : List Fr) : Bool := decide (fs.length ≤ 40) && decide (pixTo fs (min fs.length 40) ≤ 20000)
theorem pixTo_bd (fs : List Fr) : ∀ k, 0 ≤ pixTo fs k ∧ pixTo fs k ≤ k * 20001
  | 0 => ⟨Int.le_refl 0, Int.le_refl 0⟩
  | k + 1 => by
    have ih := pixTo_bd fs k
    have e : pixTo fs (k + 1) = pixTo fs k + min ((frA fs k).pix.length : Int) 20001 := rfl
    rw [e]; omega
theorem pixTo_mono (fs : List Fr) {j : Nat} : ∀ {k : Nat}, j < k → min ((frA fs j).pix.length : Int) 20001 ≤ pixTo fs k
  | 0, h => by omega
  | k + 1, h => by
    have e : pixTo fs (k + 1) = pixTo fs k + min ((frA fs k).pix.length : Int) 20001 := rfl
    have hb := pixTo_bd fs k
    rcases Nat.lt_or_ge j k with hj | hj
    · have := pixTo_mono fs hj; rw [e]; omega
    · obtain rfl : j = k := by omega
      rw [e]; omega
theorem pix_few {fs : List Fr} (h : pixB fs = true) : fs.length ≤ 40 ∧ ∀ j, j < fs.length → (frA fs j).pix.length ≤ 20000 := by
  unfold pixB at h
  rw [Bool.and_eq_true, decide_eq_true_eq, decide_eq_true_eq] at h
  refine ⟨h.1, fun j hj => ?_⟩
  have := pixTo_mono fs (j := j) (k := min fs.length 40) (by omega)
  omega
set_option maxRecDepth 100000 in
set_option maxHeartbeats 4000000 in
theorem pix_any (v : Value) (fs : List Fr) (w : World) (hv : Frames w v fs) :
    Calls Tryd.prog 9 #[v] w fun e w' => e = .returned (.bool (pixB fs)) ∧ Below w.heap.size w w' := by
  have HV := Lib.hid hv
  have hl := hv.len
  obtain ⟨ao, cap, rfl⟩ := hv.shape
  clear hv
  have HB : Hid (pixB fs = (decide (fs.length ≤ 40) && decide (pixTo fs (min fs.length 40) ≤ 20000))) := Lib.hid rfl
  have HP := Lib.hid (pixTo_bd fs)
  go_enter Tryd.func9, Tryd.ntmps9
  go_wp2
  go_loopw [3, 4] (fun s i wr => ∃ k : Nat, k ≤ fs.length ∧ k ≤ 40 ∧ i = .int .i64 k ∧ s = .int .i64 (pixTo fs k) ∧ Below w.heap.size w wr) (fun _ i _ => 40 - (intOf i).toNat)
  case atStart => exact ⟨0, Nat.zero_le _, by omega, rfl, rfl, Below.refl _ _⟩
  case round =>
    obtain ⟨k, hk, hk4, rfl, rfl, hb⟩ := hrel
    obtain ⟨p1, p2⟩ := HP.out k
    by_cases hlt : k < fs.length ∧ k < 40
    · obtain ⟨h1, h2⟩ := hlt
      obtain ⟨b, off, po, pc, rfl, lb, c0, c1, c2, -⟩ := (HV.out.ext hb).cellAt h1
      have he : pixTo fs (k + 1) = pixTo fs k + min ((fs.getD k Fr.nought).pix.length : Int) 20001 := rfl
      generalize pixTo fs k = s at *
      generalize (fs.getD k Fr.nought).pix.length = m at *
      clear HP HB
      by_cases q1 : m ≤ 20001
      · rw [show min ((m : Nat) : Int) 20001 = m from by omega] at he
        have HE := Lib.hid he
        clear he
        by_cases q2 : (m : Int) < 20001
        · go_wp2
          go_roundw
          case rel => exact ⟨k + 1, by omega, by omega, by go_num, int_eq HE.out.symm, hb⟩
          case measure => simp [intOf]; omega
        · have : m = 20001 := by omega
          subst this
          go_wp2
          go_roundw
          case rel => exact ⟨k + 1, by omega, by omega, by go_num, int_eq HE.out.symm, hb⟩
          case measure => simp [intOf]; omega
      · rw [show min ((m : Nat) : Int) 20001 = 20001 from by omega] at he
        have HE := Lib.hid he
        clear he
        have q2 : (20001 : Int) < m := by omega
        go_wp2
        go_roundw
        case rel => exact ⟨k + 1, by omega, by omega, by go_num, int_eq HE.out.symm, hb⟩
        case measure => simp [intOf]; omega
    · have ek : k = min fs.length 40 := by omega
      have HB2 : Hid (pixB fs = (decide (fs.length ≤ 40) && decide (pixTo fs k ≤ 20000))) := by
        show _ = _
        rw [HB.out, ← ek]
      generalize pixTo fs k = s at *
      clear HP HB ek
      by_cases h1 : k < fs.length
      · have h2 : k = 40 := by omega
        subst h2
        have h3 : ¬ fs.length ≤ 40 := by omega
        go_wp2
        go_returns
        exact ⟨by rw [HB2.out, decide_eq_false h3]; first | rfl | (simp; done) | (simp; omega), hb⟩
      · have h3 : fs.length ≤ 40 := by omega
        go_wp2
        go_returns
        exact ⟨by rw [HB2.out, decide_eq_true h3]; first | rfl | (simp; done) | (simp; omega), hb⟩

/-- Does a frame lie in a group? -/
def inG (p : Int × Int) (f : Int) : Bool := decide (p.1 ≤ f) && decide (f - p.1 < p.2)
def OfIs (gs : List (Int × Int)) (f r : Int) : Prop := (∃ k : Nat, k < gs.length ∧ r = k ∧ inG (gs.getD k (0, 0)) f = true ∧ ∀ j, j < k → inG (gs.getD j (0, 0)) f = false) ∨ (r = -1 ∧ ∀ j, j < gs.length → inG (gs.getD j (0, 0)) f = false)
set_option maxRecDepth 100000 in
set_option maxHeartbeats 4000000 in
theorem psof_any (v : Value) (gs : List (Int × Int)) (f r : Int) (w : World) (hv : Grps w v gs) (hg : ∀ j, j < gs.length → (0 ≤ (gs.getD j (0, 0)).1 ∧ (gs.getD j (0, 0)).1 ≤ 1000) ∧ 0 ≤ (gs.getD j (0, 0)).2 ∧ (gs.getD j (0, 0)).2 ≤ 1000) (h0 : 0 ≤ f) (h1 : f ≤ 1000) (hr : OfIs gs f r) :
    Calls Tryd.prog 18 #[v, .int .i64 f] w fun e w' => e = .returned (.int .i64 r) ∧ Below w.heap.size w w' := by
  have HV := Lib.hid hv
  have hl := hv.len
  obtain ⟨ao, cap, rfl⟩ := hv.shape
  have HR := Lib.hid hr
  have HG := Lib.hid hg
  clear hv hr hg
  go_enter Tryd.func18, Tryd.ntmps18
  go_wp2
  go_loopw [9] (fun i wr => ∃ k : Nat, k ≤ gs.length ∧ i = .int .i64 k ∧ (∀ j, j < k → inG (gs.getD j (0, 0)) f = false) ∧ Below w.heap.size w wr) (fun i _ => gs.length - (intOf i).toNat)
  case atStart => exact ⟨0, Nat.zero_le _, rfl, fun j h => by omega, Below.refl _ _⟩
  case round =>
    obtain ⟨k, hk, rfl, hno, hb⟩ := hrel
    have HN := Lib.hid hno
    clear hno
    have s1 := hb.size
    by_cases hlt : k < gs.length
    · obtain ⟨b, off, rfl, lb, c0, c1⟩ := (HV.out.ext hb).cellAt hlt
      obtain ⟨⟨b1, b2⟩, b3, b4⟩ := HG.out k hlt
      cases hi : inG (gs.getD k (0, 0)) f with
      | true =>
        have hrk : Hid (r = k) := by
          show r = k
          rcases HR.out with ⟨k0, l0, e0, i0, n0⟩ | ⟨-, n0⟩
          · rcases Nat.lt_trichotomy k k0 with h | h | h
            · rw [n0 k h] at hi; cases hi
            · rw [e0, h]
            · rw [HN.out k0 h] at i0; cases i0
          · rw [n0 k hlt] at hi; cases hi
        clear HR HN HG
        unfold inG at hi
        rw [Bool.and_eq_true, decide_eq_true_eq, decide_eq_true_eq] at hi
        obtain ⟨i1, i2⟩ := hi
        generalize (gs.getD k (0, 0)).1 = x at *
        generalize (gs.getD k (0, 0)).2 = y at *
        have q1 : IntKind.u64.wrap f = f := IntWalk.u64_in _ (by omega)
        have q2 : IntKind.u64.wrap x = x := IntWalk.u64_in _ (by omega)
        have q3 : IntKind.u64.wrap (f - x) = f - x := IntWalk.u64_in _ (by omega)
        have q4 : IntKind.u64.wrap y = y := IntWalk.u64_in _ (by omega)
        have q5 : ¬ y < 0 := by omega
        have q6 : decide (f - x < y) = true := by simp; omega
        go_wp2
        go_returns
        exact ⟨by rw [hrk.out]; rfl, by go_grown⟩
      | false =>
        have HN1 : Hid (∀ j, j < k + 1 → inG (gs.getD j (0, 0)) f = false) := by
          intro j hj
          rcases Nat.lt_or_ge j k with h | h
          · exact HN.out j h
          · obtain rfl : j = k := by omega
            exact hi
        clear HR HN HG
        unfold inG at hi
        generalize (gs.getD k (0, 0)).1 = x at *
        generalize (gs.getD k (0, 0)).2 = y at *
        by_cases i1 : x ≤ f
        · rw [decide_eq_true i1, Bool.true_and, decide_eq_false_iff_not] at hi
          have q1 : IntKind.u64.wrap f = f := IntWalk.u64_in _ (by omega)
          have q2 : IntKind.u64.wrap x = x := IntWalk.u64_in _ (by omega)
          have q3 : IntKind.u64.wrap (f - x) = f - x := IntWalk.u64_in _ (by omega)
          have q4 : IntKind.u64.wrap y = y := IntWalk.u64_in _ (by omega)
          have q5 : ¬ y < 0 := by omega
          have q6 : decide (f - x < y) = false := by simp; omega
          go_wp2
          go_roundw
          case rel => exact ⟨k + 1, by omega, by go_num, HN1.out, by go_grown⟩
          case measure => simp [intOf]; omega
        · clear hi
          go_wp2
          go_roundw
          case rel => exact ⟨k + 1, by omega, by go_num, HN1.out, by go_grown⟩
          case measure => simp [intOf]; omega
    · have hrk : Hid (r = -1) := by
        show r = -1
        rcases HR.out with ⟨k0, l0, e0, i0, n0⟩ | ⟨e, -⟩
        · rw [HN.out k0 (by omega)] at i0; cases i0
        · exact e
      clear HR HN HG
      go_wp2
      go_returns
      exact ⟨by rw [hrk.out]; rfl, hb⟩

/-- An error wrapped once: a block of the call's own holds the place and the code. -/
def faultC (s : Array UInt8) (i : Int) (k : Int) : Array Value := #[.string ⟨s⟩, .int .i64 i, .iface 32 (.int .i64 k)]
set_option maxRecDepth 100000 in
theorem pin_any (s : Array UInt8) (i k : Int) (w : World) :
    Calls Tryd.prog 27 #[.string ⟨s⟩, .int .i64 i, .iface 32 (.int .i64 k)] w fun e w' => ∃ b, e = .returned (.iface 69 (.pointer (some ⟨b, 0, none⟩))) ∧ Blk w' b (faultC s i k) 72 ∧ w.heap.size ≤ b ∧ Below w.heap.size w w' := by
  go_enter Tryd.func27, Tryd.ntmps27
  go_wp2
  go_returns
  exact ⟨_, rfl, Blk.new _ _ _, Nat.le_refl _, by go_grown⟩
end Go.Proofs.YtpdhhnhpaahenaaDoor
