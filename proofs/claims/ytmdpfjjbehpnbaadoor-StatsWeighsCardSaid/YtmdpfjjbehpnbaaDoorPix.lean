/- kinlaw16.Pix: its contract. -/
import Derived.Test.YtmdpfjjbehpnbaaDoorSceneP
import Derived.Test.YtmdpfjjbehpnbaaDoorGroups
import Derived.Test.YtmdpfjjbehpnbaaDoorPlaneD
import Derived.Laws.Cover1
set_option linter.unusedSimpArgs false
set_option linter.unusedVariables false
namespace Go.Proofs.YtmdpfjjbehpnbaaDoor
open Go.RowKit Go.Extern.Stop Go.Stop Go.Extern

def pixTo (fs : List Fr) (k : Nat) : Int := sumOf k fun i => min ((frA fs i).pix.length : Int) 20001
def pixB (fs : List Fr) : Bool := decide (fs.length ≤ 40) && decide (pixTo fs (min fs.length 40) ≤ 20000)
theorem pixTo_bd (fs : List Fr) : ∀ k, 0 ≤ pixTo fs k ∧ pixTo fs k ≤ k * 20001
  | 0 => ⟨Int.le_refl 0, Int.le_refl 0⟩
  | k + 1 => by
    have ih := pixTo_bd fs k
    have e : pixTo fs (k + 1) = pixTo fs k + min ((frA fs k).pix.length : Int) 20001 := rfl
    rw [e]; omega
theorem pixTo_mono (fs : List Fr) {j : Nat} : ∀ {k : Nat}, j < k → min ((frA fs j).pix.length : Int) 20001 ≤ pixTo fs k
  | 0, h => by omega
  | k + 1, h => by
    have e : pixTo fs (k + 1) = pixTo fs k + min ((frA fs k).pix.length : Int) 20001 := rfl
    have hb := pixTo_bd fs k
    rcases Nat.lt_or_ge j k with hj | hj
    · have := pixTo_mono fs hj; rw [e]; omega
    · obtain rfl : j = k := by omega
      rw [e]; omega
theorem pix_few {fs : List Fr} (h : pixB fs = true) : fs.length ≤ 40 ∧ ∀ j, j < fs.length → (frA fs j).pix.length ≤ 20000 := by
  unfold pixB at h
  rw [Bool.and_eq_true, decide_eq_true_eq, decide_eq_true_eq] at h
  refine ⟨h.1, fun j hj => ?_⟩
  have := pixTo_mono fs (j := j) (k := min fs.length 40) (by omega)
  omega
set_option maxRecDepth 100000 in
set_option maxHeartbeats 4000000 in
theorem pix_any (v : Value) (fs : List Fr) (w : World) (hv : Frames w v fs) :
    Calls Tryd.prog 9 #[v] w fun e w' => e = .returned (.bool (pixB fs)) ∧ Below w.heap.size w w' := by
  have HV := Lib.hid hv
  have hl := hv.len
  obtain ⟨ao, cap, rfl⟩ := hv.shape
  clear hv
  have HB : Hid (pixB fs = (decide (fs.length ≤ 40) && decide (pixTo fs (min fs.length 40) ≤ 20000))) := Lib.hid rfl
  have HP := Lib.hid (pixTo_bd fs)
  go_enter Tryd.func9, Tryd.ntmps9
  go_wp2
  go_loopw [3, 4] (fun s i wr => ∃ k : Nat, k ≤ fs.length ∧ k ≤ 40 ∧ i = .int .i64 k ∧ s = .int .i64 (pixTo fs k) ∧ Below w.heap.size w wr) (fun _ i _ => 40 - (intOf i).toNat)
  case atStart => exact ⟨0, Nat.zero_le _, by omega, rfl, rfl, Below.refl _ _⟩
  case round =>
    obtain ⟨k, hk, hk4, rfl, rfl, hb⟩ := hrel
    obtain ⟨p1, p2⟩ := HP.out k
    by_cases hlt : k < fs.length ∧ k < 40
    · obtain ⟨h1, h2⟩ := hlt
      obtain ⟨b, off, po, pc, rfl, lb, c0, c1, c2, -⟩ := (HV.out.ext hb).cellAt h1
      have he : pixTo fs (k + 1) = pixTo fs k + min ((fs.getD k Fr.nought).pix.length : Int) 20001 := rfl
      generalize pixTo fs k = s at *
      generalize (fs.getD k Fr.nought).pix.length = m at *
      clear HP HB
      by_cases q1 : m ≤ 20001
      · rw [show min ((m : Nat) : Int) 20001 = m from by omega] at he
        have HE := Lib.hid he
        clear he
        by_cases q2 : (m : Int) < 20001
        · go_wp2
          go_roundw
          case rel => exact ⟨k + 1, by omega, by omega, by go_num, int_eq HE.out.symm, hb⟩
          case measure => simp [intOf]; omega
        · have : m = 20001 := by omega
          subst this
          go_wp2
          go_roundw
          case rel => exact ⟨k + 1, by omega, by omega, by go_num, int_eq HE.out.symm, hb⟩
          case measure => simp [intOf]; omega
      · rw [show min ((m : Nat) : Int) 20001 = 20001 from by omega] at he
        have HE := Lib.hid he
        clear he
        have q2 : (20001 : Int) < m := by omega
        go_wp2
        go_roundw
        case rel => exact ⟨k + 1, by omega, by omega, by go_num, int_eq HE.out.symm, hb⟩
        case measure => simp [intOf]; omega
    · have ek : k = min fs.length 40 := by omega
      have HB2 : Hid (pixB fs = (decide (fs.length ≤ 40) && decide (pixTo fs k ≤ 20000))) := by
        show _ = _
        rw [HB.out, ← ek]
      generalize pixTo fs k = s at *
      clear HP HB ek
      by_cases h1 : k < fs.length
      · have h2 : k = 40 := by omega
        subst h2
        have h3 : ¬ fs.length ≤ 40 := by omega
        go_wp2
        go_returns
        exact ⟨by rw [HB2.out, decide_eq_false h3]; first | rfl | (simp; done) | (simp; omega), hb⟩
      · have h3 : fs.length ≤ 40 := by omega
        go_wp2
        go_returns
        exact ⟨by rw [HB2.out, decide_eq_true h3]; first | rfl | (simp; done) | (simp; omega), hb⟩

end Go.Proofs.YtmdpfjjbehpnbaaDoor
