/- quant.Levels, Values and kinref9's: contracts. -/
import Derived.Test.YtkiigodkbmcpfaaDoorQuantE
import Derived.Test.YtkiigodkbmcpfaaDoorLists
set_option linter.unusedSimpArgs false
set_option linter.unusedVariables false
namespace Go.Proofs.YtkiigodkbmcpfaaDoor
open Go.RowKit
open Q

def levelsV (c : List Int) (qp : Int) : List Int := if inQ qp && c.all inC then c.map (fun x => levelV x qp) else []
def levelsE (c : List Int) (qp : Int) : Int := if inQ qp && c.all inC then 0 else 3
def levelsTo (c : List Int) (qp : Int) (k : Nat) : List Int := (c.take k).map (fun x => levelV x qp)
theorem length_levelsTo {c : List Int} {qp : Int} {k : Nat} (h : k ≤ c.length) : (levelsTo c qp k).length = k := by simp [levelsTo]; omega
theorem levelsV_take {c : List Int} {qp : Int} {k : Nat} (h : k < c.length) : levelsTo c qp (k + 1) = levelsTo c qp k ++ [levelV (c.getD k 0) qp] := by
  unfold levelsTo
  rw [List.take_succ_eq_append_getElem h, List.map_append]
  simp [List.getD, h]
theorem levels_all {c : List Int} {k : Nat} (h : k < c.length) (ha : (c.take k).all inC = true) (hx : inC (c.getD k 0) = true) : (c.take (k + 1)).all inC = true := by
  rw [List.take_succ_eq_append_getElem h, List.all_append, ha]
  simp [List.getD, h] at hx
  simp [hx]
theorem levels_not {c : List Int} {k : Nat} (h : k < c.length) (hx : inC (c.getD k 0) = false) : c.all inC = false := by
  rw [List.all_eq_false]
  simp [List.getD, h] at hx
  exact ⟨c[k], List.getElem_mem h, by simp [hx]⟩

set_option maxHeartbeats 1000000 in
theorem plevels_any (v : Value) (c : List Int) (qp : Int) (w : World) (hv : Ints w v c) (hl : c.length ≤ 5000) :
    Calls Tryd.prog 20 #[v, .int .i64 qp] w fun e w' => ∃ v', e = .returned (.tuple #[v', errV (levelsE c qp)]) ∧ OwnInts w' w.heap.size v' (levelsV c qp) ∧ Below w.heap.size w w' := by
  obtain ⟨ao, cap, rfl, h1, h2, h3, h5, h4⟩ := hv
  have H4 := Lib.hid h4
  clear h1 h2 h3 h4 h5
  cases hq : inQ qp with
  | false =>
    have eV : levelsV c qp = [] := by simp [levelsV, hq]
    have eE : levelsE c qp = 3 := by simp [levelsE, hq]
    rw [eV, eE]
    have Hq := Lib.hid hq
    clear eV eE hq
    go_enter Tryd.func20, Tryd.ntmps20
    go_wp2_with fail
    refine (pstep_no qp _ Hq.out).mono ?_
    rintro e w1 ⟨rfl, hb1⟩
    go_wp2
    go_returns
    exact ⟨_, rfl, OwnInts.nil _ _, hb1⟩
  | true =>
    have Hq := Lib.hid hq
    clear hq
    go_enter Tryd.func20, Tryd.ntmps20
    go_wp2_with fail
    refine (pstep_ok _ Hq.out).mono ?_
    rintro e w1 ⟨rfl, hb1⟩
    go_wp2
    go_loopw [8, 23] (fun o i wr => ∃ k : Nat, k ≤ c.length ∧ i = .int .i64 k ∧ (c.take k).all inC = true ∧ OwnInts wr w.heap.size o (levelsTo c qp k) ∧ Below w.heap.size w wr) (fun _ i _ => c.length - (intOf i).toNat)
    case atStart => exact ⟨0, Nat.zero_le _, rfl, rfl, OwnInts.nil _ _, hb1⟩
    case round =>
      obtain ⟨k, hk, rfl, ha, hown, hb⟩ := hrel
      have Ha := Lib.hid ha
      have Hown := Lib.hid hown
      clear ha hown
      by_cases hlt : k < c.length
      · obtain ⟨bb, off, rfl, hcell⟩ := H4.out k hlt
        clear H4
        replace hcell := (hb.cell (p := ⟨bb, off + k, none⟩) (World.block_lt_of_cell? w _ hcell)).trans hcell
        generalize hx : c.getD k 0 = x at hcell
        have Hx := Lib.hid hx
        clear hx
        cases hin : inC x with
        | false =>
          have Hin := Lib.hid hin
          have eV : Hid (levelsV c qp = []) := by show _ = _; simp [levelsV, levels_not hlt (by rw [Hx.out]; exact Hin.out)]
          have eE : Hid (levelsE c qp = 3) := by show _ = _; simp [levelsE, levels_not hlt (by rw [Hx.out]; exact Hin.out)]
          have HE : Hid ((inQ qp && inC x) = false) := by show _ = _; rw [hin, Bool.and_false]
          clear hin
          go_wp2_with fail
          refine (plevel_err _ HE.out).mono ?_
          rintro e w2 ⟨rfl, hb2⟩
          go_wp2
          go_returns
          rw [eV.out, eE.out]
          exact ⟨_, rfl, OwnInts.nil _ _, ext hb hb2⟩
        | true =>
          have Hin := Lib.hid hin
          have HE : Hid ((inQ qp && inC x) = true) := by show _ = _; rw [hin, Hq.out]; rfl
          clear hin
          have hbd := level_bd x qp
          go_wp2_with fail
          refine (plevel_ok _ HE.out).mono ?_
          rintro e w2 ⟨rfl, hb2⟩
          have hs2 := hb.size
          have hs3 := hb2.size
          go_wp2_with (at_builtin; refine wpList_app1 rfl (.tmp 36) (.tmp 38) rfl w.heap.size _ _ (levelV x qp) rfl (Hown.out.ext hb2) rfl (by simp) (by unfold in64; omega) (by first | (rw [length_levelsTo (by omega)]; omega) | (rw [length_valuesTo (by omega)]; omega)) (by omega) ?_)
          intro v' w' hown' hb' _
          go_wp2
          go_roundw
          case rel => exact ⟨k + 1, by omega, by go_num, levels_all hlt Ha.out (by rw [Hx.out]; exact Hin.out), by rw [levelsV_take hlt, Hx.out]; exact hown', (ext hb hb2).trans hb'⟩
          case measure => simp [intOf]; omega
      · go_wp2
        go_returns
        have e : k = c.length := by omega
        have ha := Ha.out
        have ho := Hown.out
        rw [e, List.take_length] at ha
        rw [e] at ho
        unfold levelsTo at ho
        rw [List.take_length] at ho
        exact ⟨_, by simp only [levelsE, Hq.out, ha]; rfl, by simp only [levelsV, Hq.out, ha]; exact ho, hb⟩

def valuesV (c : List Int) (qp : Int) : List Int := if inQ qp && c.all inL then c.map (fun x => valueV x qp) else []
def valuesE (c : List Int) (qp : Int) : Int := if inQ qp && c.all inL then 0 else 3
def valuesTo (c : List Int) (qp : Int) (k : Nat) : List Int := (c.take k).map (fun x => valueV x qp)
theorem length_valuesTo {c : List Int} {qp : Int} {k : Nat} (h : k ≤ c.length) : (valuesTo c qp k).length = k := by simp [valuesTo]; omega
theorem valuesV_take {c : List Int} {qp : Int} {k : Nat} (h : k < c.length) : valuesTo c qp (k + 1) = valuesTo c qp k ++ [valueV (c.getD k 0) qp] := by
  unfold valuesTo
  rw [List.take_succ_eq_append_getElem h, List.map_append]
  simp [List.getD, h]
theorem values_all {c : List Int} {k : Nat} (h : k < c.length) (ha : (c.take k).all inL = true) (hx : inL (c.getD k 0) = true) : (c.take (k + 1)).all inL = true := by
  rw [List.take_succ_eq_append_getElem h, List.all_append, ha]
  simp [List.getD, h] at hx
  simp [hx]
theorem values_not {c : List Int} {k : Nat} (h : k < c.length) (hx : inL (c.getD k 0) = false) : c.all inL = false := by
  rw [List.all_eq_false]
  simp [List.getD, h] at hx
  exact ⟨c[k], List.getElem_mem h, by simp [hx]⟩

set_option maxHeartbeats 1000000 in
theorem pvalues_any (v : Value) (c : List Int) (qp : Int) (w : World) (hv : Ints w v c) (hl : c.length ≤ 5000) :
    Calls Tryd.prog 22 #[v, .int .i64 qp] w fun e w' => ∃ v', e = .returned (.tuple #[v', errV (valuesE c qp)]) ∧ OwnInts w' w.heap.size v' (valuesV c qp) ∧ Below w.heap.size w w' := by
  obtain ⟨ao, cap, rfl, h1, h2, h3, h5, h4⟩ := hv
  have H4 := Lib.hid h4
  clear h1 h2 h3 h4 h5
  cases hq : inQ qp with
  | false =>
    have eV : valuesV c qp = [] := by simp [valuesV, hq]
    have eE : valuesE c qp = 3 := by simp [valuesE, hq]
    rw [eV, eE]
    have Hq := Lib.hid hq
    clear eV eE hq
    go_enter Tryd.func22, Tryd.ntmps22
    go_wp2_with fail
    refine (pstep_no qp _ Hq.out).mono ?_
    rintro e w1 ⟨rfl, hb1⟩
    go_wp2
    go_returns
    exact ⟨_, rfl, OwnInts.nil _ _, hb1⟩
  | true =>
    have Hq := Lib.hid hq
    clear hq
    go_enter Tryd.func22, Tryd.ntmps22
    go_wp2_with fail
    refine (pstep_ok _ Hq.out).mono ?_
    rintro e w1 ⟨rfl, hb1⟩
    go_wp2
    go_loopw [8, 23] (fun o i wr => ∃ k : Nat, k ≤ c.length ∧ i = .int .i64 k ∧ (c.take k).all inL = true ∧ OwnInts wr w.heap.size o (valuesTo c qp k) ∧ Below w.heap.size w wr) (fun _ i _ => c.length - (intOf i).toNat)
    case atStart => exact ⟨0, Nat.zero_le _, rfl, rfl, OwnInts.nil _ _, hb1⟩
    case round =>
      obtain ⟨k, hk, rfl, ha, hown, hb⟩ := hrel
      have Ha := Lib.hid ha
      have Hown := Lib.hid hown
      clear ha hown
      by_cases hlt : k < c.length
      · obtain ⟨bb, off, rfl, hcell⟩ := H4.out k hlt
        clear H4
        replace hcell := (hb.cell (p := ⟨bb, off + k, none⟩) (World.block_lt_of_cell? w _ hcell)).trans hcell
        generalize hx : c.getD k 0 = x at hcell
        have Hx := Lib.hid hx
        clear hx
        cases hin : inL x with
        | false =>
          have Hin := Lib.hid hin
          have eV : Hid (valuesV c qp = []) := by show _ = _; simp [valuesV, values_not hlt (by rw [Hx.out]; exact Hin.out)]
          have eE : Hid (valuesE c qp = 3) := by show _ = _; simp [valuesE, values_not hlt (by rw [Hx.out]; exact Hin.out)]
          have HE : Hid ((inQ qp && inL x) = false) := by show _ = _; rw [hin, Bool.and_false]
          clear hin
          go_wp2_with fail
          refine (pvalue_err _ HE.out).mono ?_
          rintro e w2 ⟨rfl, hb2⟩
          go_wp2
          go_returns
          rw [eV.out, eE.out]
          exact ⟨_, rfl, OwnInts.nil _ _, ext hb hb2⟩
        | true =>
          have Hin := Lib.hid hin
          have HE : Hid ((inQ qp && inL x) = true) := by show _ = _; rw [hin, Hq.out]; rfl
          clear hin
          have hbd := value_bd x qp
          go_wp2_with fail
          refine (pvalue_yes _ HE.out).mono ?_
          rintro e w2 ⟨rfl, hb2⟩
          have hs2 := hb.size
          have hs3 := hb2.size
          go_wp2_with (at_builtin; refine wpList_app1 rfl (.tmp 36) (.tmp 38) rfl w.heap.size _ _ (valueV x qp) rfl (Hown.out.ext hb2) rfl (by simp) (by unfold in64; omega) (by first | (rw [length_levelsTo (by omega)]; omega) | (rw [length_valuesTo (by omega)]; omega)) (by omega) ?_)
          intro v' w' hown' hb' _
          go_wp2
          go_roundw
          case rel => exact ⟨k + 1, by omega, by go_num, values_all hlt Ha.out (by rw [Hx.out]; exact Hin.out), by rw [valuesV_take hlt, Hx.out]; exact hown', (ext hb hb2).trans hb'⟩
          case measure => simp [intOf]; omega
      · go_wp2
        go_returns
        have e : k = c.length := by omega
        have ha := Ha.out
        have ho := Hown.out
        rw [e, List.take_length] at ha
        rw [e] at ho
        unfold valuesTo at ho
        rw [List.take_length] at ho
        exact ⟨_, by simp only [valuesE, Hq.out, ha]; rfl, by simp only [valuesV, Hq.out, ha]; exact ho, hb⟩
end Go.Proofs.YtkiigodkbmcpfaaDoor
