/- kinlaw5.Few: contract. -/
import Derived.Test.YtdiaejphgcoknaaGreatDoorDiskAb
import Derived.Laws.Cover1
set_option linter.unusedSimpArgs false
set_option linter.unusedVariables false
namespace Go.Proofs.YtdiaejphgcoknaaGreatDoor
open Go.RowKit

theorem OpsV.cellAt {w : World} {ao : Option Addr} {n cap : Nat} {l : List OpP} (h : OpsV w (.slice ao n cap) l) {j : Nat} (hj : j < l.length) :
    ∃ b off vb vp, ao = some ⟨b, off, none⟩ ∧ b < w.heap.size ∧ OpAt w b (off + j * 6) (l.getD j OpP.nought) vb vp := by
  obtain ⟨ao', cap', e, h1, h2, h3, h4⟩ := h
  obtain ⟨rfl, rfl, rfl⟩ := Value.slice.inj e
  obtain ⟨b, off, vb, vp, e, ho⟩ := h4 j hj
  exact ⟨b, off, vb, vp, e, World.block_lt_of_cell? w _ ho.c0, ho⟩
theorem OpsV.shapeN {w : World} {v : Value} {l : List OpP} (h : OpsV w v l) {n : Nat} (hn : l.length = n) : ∃ ao cap, v = .slice ao n cap := by
  obtain ⟨ao, cap, e, _⟩ := h; exact ⟨ao, cap, by rw [e, hn]⟩
set_option maxRecDepth 100000 in
set_option maxHeartbeats 1000000 in
theorem few_ops (v : Value) (l : List OpP) (w : World) (hv : OpsV w v l) :
    Calls Tryz.prog 7 #[v] w fun e w' => ∃ b, e = .returned (.bool b) ∧ (b = true → l.length ≤ 300) ∧ Below w.heap.size w w' := by
  have HV := Lib.hid hv
  have hl := hv.len
  obtain ⟨n, hnn⟩ : ∃ n, l.length = n := ⟨_, rfl⟩
  obtain ⟨ao, cap, rfl⟩ := hv.shapeN hnn
  have LN := Lib.hid hnn
  rw [hnn] at hl ⊢
  clear hv hnn
  go_enter Tryz.func7, Tryz.ntmps7
  go_wp2
  go_loopw [3, 4] (fun s i wr => ∃ k c : Nat, k ≤ n ∧ i = .int .i64 k ∧ s = .int .i64 (c : Int) ∧ c ≤ 100010 ∧ Below w.heap.size w wr) (fun _ i _ => n - (intOf i).toNat)
  case atStart => exact ⟨0, 0, Nat.zero_le _, rfl, rfl, by omega, Below.refl _ _⟩
  case round =>
    obtain ⟨k, c, hk, rfl, rfl, hc, hb⟩ := hrel
    by_cases hgo : k < n ∧ k < 300 ∧ c ≤ 20000
    · obtain ⟨hlt, hlt2, hlt3⟩ := hgo
      obtain ⟨b, off, vb, vp, rfl, lb, ho⟩ := (HV.out.ext hb).cellAt (j := k) (by rw [LN.out]; exact hlt)
      generalize l.getD k OpP.nought = o at *
      obtain ⟨kd, no, nm, to, bb, pk⟩ := o
      obtain ⟨c0, c1, c2, c3, c4, c5, -, -, ln, lt, hbb, hpk⟩ := ho
      simp only at c0 c1 c2 c3 c4 c5 ln lt hbb hpk
      have lb1 := hbb.len
      have lp1 := hpk.len
      obtain ⟨bo, bc, rfl⟩ := hbb.shape
      obtain ⟨po, pc, rfl, -⟩ := hpk
      obtain ⟨x1, hx1⟩ : ∃ x, nm.length = x := ⟨_, rfl⟩
      obtain ⟨x2, hx2⟩ : ∃ x, to.length = x := ⟨_, rfl⟩
      obtain ⟨x3, hx3⟩ : ∃ x, bb.length = x := ⟨_, rfl⟩
      obtain ⟨x4, hx4⟩ : ∃ x, pk.length = x := ⟨_, rfl⟩
      have hs1 : (⟨nm.toArray⟩ : ByteArray).size = x1 := by simp [ByteArray.size, hx1]
      have hs2 : (⟨to.toArray⟩ : ByteArray).size = x2 := by simp [ByteArray.size, hx2]
      generalize (⟨nm.toArray⟩ : ByteArray) = s1 at *
      generalize (⟨to.toArray⟩ : ByteArray) = s2 at *
      rw [hx3] at c4
      rw [hx4] at c5
      obtain ⟨m1, hm1⟩ : ∃ m : Nat, min x1 20001 = m := ⟨_, rfl⟩
      obtain ⟨m2, hm2⟩ : ∃ m : Nat, min x2 20001 = m := ⟨_, rfl⟩
      obtain ⟨m3, hm3⟩ : ∃ m : Nat, min x3 20001 = m := ⟨_, rfl⟩
      obtain ⟨m4, hm4⟩ : ∃ m : Nat, min x4 20001 = m := ⟨_, rfl⟩
      have t1 : (if (x1 : Int) ≤ 20001 then (x1 : Int) else 20001) = (m1 : Int) := by split <;> omega
      have t2 : (if (x2 : Int) ≤ 20001 then (x2 : Int) else 20001) = (m2 : Int) := by split <;> omega
      have t3 : (if (x3 : Int) ≤ 20001 then (x3 : Int) else 20001) = (m3 : Int) := by split <;> omega
      have t4 : (if (x4 : Int) ≤ 20001 then (x4 : Int) else 20001) = (m4 : Int) := by split <;> omega
      have u1 : m1 ≤ 20001 := by omega
      have u2 : m2 ≤ 20001 := by omega
      have u3 : m3 ≤ 20001 := by omega
      have u4 : m4 ≤ 20001 := by omega
      obtain ⟨e1, he1⟩ : ∃ e, c + m1 = e := ⟨_, rfl⟩
      obtain ⟨e2, he2⟩ : ∃ e, e1 + m2 = e := ⟨_, rfl⟩
      obtain ⟨e3, he3⟩ : ∃ e, e2 + m3 = e := ⟨_, rfl⟩
      obtain ⟨e4, he4⟩ : ∃ e, e3 + m4 = e := ⟨_, rfl⟩
      have q1 : IntKind.i64.wrap ((c : Int) + (m1 : Int)) = (e1 : Int) := by rw [IntWalk.i64_in _ (by omega)]; omega
      have q2 : IntKind.i64.wrap ((e1 : Int) + (m2 : Int)) = (e2 : Int) := by rw [IntWalk.i64_in _ (by omega)]; omega
      have q3 : IntKind.i64.wrap ((e2 : Int) + (m3 : Int)) = (e3 : Int) := by rw [IntWalk.i64_in _ (by omega)]; omega
      have q4 : IntKind.i64.wrap ((e3 : Int) + (m4 : Int)) = (e4 : Int) := by rw [IntWalk.i64_in _ (by omega)]; omega
      have hE : e4 ≤ 100010 := by omega
      have HM := Lib.hid (And.intro hm1 (And.intro hm2 (And.intro hm3 hm4)))
      have HQ := Lib.hid (And.intro he1 (And.intro he2 (And.intro he3 he4)))
      clear hx1 hx2 hx3 hx4 hm1 hm2 hm3 hm4 he1 he2 he3 he4 ln lt hbb lb1 lp1 u1 u2 u3 u4
      go_wp2
      go_quiet (fail)
      go_wp2
      go_roundw
      case rel => exact ⟨k + 1, e4, by omega, by go_num, by first | go_num | (obtain ⟨a1, a2, a3, a4⟩ := HM.out; obtain ⟨b1, b2, b3, b4⟩ := HQ.out; exact int_eq (by omega)), hE, by first | exact hb | exact hb.drew | exact below_drewN' hb _⟩
      case measure => simp [intOf]; omega
    · by_cases hlt : k < n
      · by_cases hlt2 : k < 300
        · have hlt3 : ¬ c ≤ 20000 := fun h => hgo ⟨hlt, hlt2, h⟩
          clear hgo
          by_cases h9 : n ≤ 300
          · go_wp2
            all_goals go_returns
            all_goals first | exact ⟨rfl, hb⟩ | exact hb | exact ⟨h9, hb⟩ | exact ⟨_, rfl, fun _ => h9, hb⟩
          · go_wp2
            all_goals go_returns
            all_goals first | exact hb | exact ⟨rfl, hb⟩ | exact ⟨_, rfl, fun h => (by simp at h; omega), hb⟩
        · clear hgo
          have h9 : 300 < n := by omega
          have h8 : ¬ n ≤ 300 := by omega
          go_wp2
          all_goals go_returns
          all_goals first | exact hb | exact ⟨rfl, hb⟩ | exact ⟨_, rfl, fun h => (by simp at h; omega), hb⟩
      · clear hgo
        obtain rfl : k = n := by omega
        by_cases h9 : k ≤ 300
        · go_wp2
          all_goals go_returns
          all_goals first | exact ⟨rfl, hb⟩ | exact hb | exact ⟨h9, hb⟩ | exact ⟨_, rfl, fun _ => h9, hb⟩
        · go_wp2
          all_goals go_returns
          all_goals first | exact hb | exact ⟨rfl, hb⟩ | exact ⟨_, rfl, fun h => (by simp at h; omega), hb⟩
end Go.Proofs.YtdiaejphgcoknaaGreatDoor
