/- kinref9.Levels, Values: contracts. -/
import Derived.Test.YtkiigodkbmcpfaaDoorQuantL
set_option linter.unusedSimpArgs false
set_option linter.unusedVariables false
namespace Go.Proofs.YtkiigodkbmcpfaaDoor
open Go.RowKit
open Q

/-- Two cells of a block of the call's own, for the walk. -/
theorem Blk.two {w : World} {b : Nat} {x y : Value} {T : Nat} (h : Blk w b #[x, y] T) : w.cell? ⟨b, 0, none⟩ = some x ∧ w.cell? ⟨b, 1, none⟩ = some y ∧ w.frozen? ⟨b, 0, none⟩ = false ∧ w.frozen? ⟨b, 1, none⟩ = false :=
  ⟨h.cell 0, h.cell 1, h.free 0, h.free 1⟩
theorem Blk.set2 {w : World} {b : Nat} {x y : Value} {T : Nat} (h : Blk w b #[x, y] T) (x' y' : Value) : Blk ((w.setCell ⟨b, 0, none⟩ x').setCell ⟨b, 1, none⟩ y') b #[x', y'] T := (h.set 0 x').set 1 y'

theorem rlevel_err {c qp : Int} (w : World) (h : (inQ qp && inC c) = false) : Calls Tryd.prog 15 #[.int .i64 c, .int .i64 qp] w fun e w' => e = .returned (.tuple #[.int .i64 0, .agg #[.int .i64 3, .slice none 0 0]]) ∧ Below w.heap.size w w' :=
  (rlevel_any c qp w).mono fun e w' ⟨he, hb⟩ => ⟨by rw [he]; simp [levelV, levelE, h], hb⟩
theorem rlevel_yes {c qp : Int} (w : World) (h : (inQ qp && inC c) = true) : Calls Tryd.prog 15 #[.int .i64 c, .int .i64 qp] w fun e w' => e = .returned (.tuple #[.int .i64 (levelV c qp), .agg #[.int .i64 0, .slice none 0 0]]) ∧ Below w.heap.size w w' :=
  (rlevel_any c qp w).mono fun e w' ⟨he, hb⟩ => ⟨by rw [he]; simp only [levelE, h, if_true], hb⟩
set_option maxHeartbeats 4000000 in
theorem rlevels_any (v : Value) (c : List Int) (qp : Int) (w : World) (hv : Ints w v c) (hl : c.length ≤ 5000) :
    Calls Tryd.prog 21 #[v, .int .i64 qp] w fun e w' => ∃ v', e = .returned (.tuple #[v', .agg #[.int .i64 (levelsE c qp), .slice none 0 0]]) ∧ OwnInts w' w.heap.size v' (levelsV c qp) ∧ Below w.heap.size w w' := by
  obtain ⟨ao, cap, rfl, h1, h2, h3, h5, h4⟩ := hv
  have H4 := Lib.hid h4
  clear h1 h2 h3 h4 h5
  go_enter Tryd.func21, Tryd.ntmps21
  go_wp2_with fail
  refine (rstep_any qp _).mono ?_
  rintro e w1 ⟨rfl, hb1⟩
  have hR := ((Blk.new w #[.int .i64 0, .slice none 0 0] 30).ext hb1).alloc (.cells #[.int .i64 (stepE qp), .slice none 0 0] 30)
  have hE := Blk.new w1 #[.int .i64 (stepE qp), .slice none 0 0] 30
  have hs1 := hb1.size
  simp only [World.size_alloc] at hs1
  have g1 : Below w.heap.size w w1 := ext (by go_grown) hb1
  have HR := Lib.hid hR
  have HE := Lib.hid hE
  clear hR hE
  go_wp2
  go_loopw [8, 9] (fun o i wr => ∃ (k : Nat) (er : Int), k ≤ c.length ∧ i = .int .i64 k ∧ Blk wr w.heap.size #[.int .i64 0, .slice none 0 0] 30 ∧ Blk wr w1.heap.size #[.int .i64 er, .slice none 0 0] 30 ∧ OwnInts wr (w1.heap.size + 1) o (levelsTo c qp k) ∧ Below w.heap.size w wr ∧
      ((er = 0 ∧ inQ qp = true ∧ (c.take k).all inC = true) ∨ (er = 3 ∧ (inQ qp && c.all inC) = false))) (fun _ i _ => c.length - (intOf i).toNat)
  case atStart =>
    refine ⟨0, stepE qp, Nat.zero_le _, rfl, HR.out, HE.out, OwnInts.nil _ _, by go_grown, ?_⟩
    cases hq : inQ qp with
    | true => exact .inl ⟨by simp [stepE, hq], rfl, rfl⟩
    | false => exact .inr ⟨by simp [stepE, hq], by simp⟩
  case round =>
    obtain ⟨k, er, hk, rfl, hR, hE, hown, hb, hcase⟩ := hrel
    have HR := Lib.hid hR
    have HE := Lib.hid hE
    have HO := Lib.hid hown
    have hsr := hb.size
    have hEl := hE.lt
    have hRl := hR.lt
    obtain ⟨E0, E1, E2, E3⟩ := hE.two
    clear hR hE hown
    rcases hcase with ⟨rfl, hq, ha⟩ | ⟨rfl, hbad⟩
    · have Hq := Lib.hid hq
      have Ha := Lib.hid ha
      clear hq ha
      by_cases hlt : k < c.length
      · obtain ⟨bb, off, rfl, hcell⟩ := H4.out k hlt
        clear H4
        generalize hx : c.getD k 0 = x at hcell
        have Hx := Lib.hid hx
        clear hx
        go_wp2_with fail
        refine (ok_zero _ _).mono ?_
        rintro e w2 ⟨rfl, hb2⟩
        have g2 : Below w.heap.size w w2 := ext hb hb2
        replace hcell := (g2.cell (p := ⟨bb, off + k, none⟩) (World.block_lt_of_cell? w _ hcell)).trans hcell
        clear E0 E1 E2 E3
        have hcs : ∃ e', ((inQ qp && inC x) = true ∧ e' = 0 ∨ (inQ qp && inC x) = false ∧ e' = 3) ∧ ∀ w, Calls Tryd.prog 15 #[.int .i64 x, .int .i64 qp] w fun e w' => e = .returned (.tuple #[.int .i64 (levelV x qp), .agg #[.int .i64 e', .slice none 0 0]]) ∧ Below w.heap.size w w' := by
          cases hin : inQ qp && inC x with
          | true => exact ⟨0, .inl ⟨rfl, rfl⟩, fun w => rlevel_yes w hin⟩
          | false => exact ⟨3, .inr ⟨rfl, rfl⟩, fun w => (rlevel_err w hin).mono fun e w' ⟨he, hx⟩ => ⟨by rw [he]; simp [levelV, hin], hx⟩⟩
        obtain ⟨e', he', hcall⟩ := hcs
        have He' := Lib.hid he'
        have HC := Lib.hid hcall
        clear he' hcall
        have hbd := level_bd x qp
        go_wp2_with fail
        refine (HC.out _).mono ?_
        rintro e w3 ⟨rfl, hb3⟩
        have hs2 := hb2.size
        have hs3 := hb3.size
        have ho3 := Lib.hid ((HO.out.ext hb2).ext hb3)
        go_wp2_with (at_builtin; (refine wpList_app1 rfl (.tmp 36) (.tmp 38) rfl (w1.heap.size + 1) _ _ (levelV x qp) rfl (ho3.out.alloc _) rfl (by simp) (by unfold in64; omega) (by rw [length_levelsTo (by omega)]; omega) (by simp; omega) ?_))
        intro v' w' hown' hb' hg'
        have HR' := Lib.hid ((((HR.out.ext hb2).ext hb3).alloc _).grown hg' (ho3.out.ownNe (.inl (by omega))))
        have HE' := Lib.hid ((((HE.out.ext hb2).ext hb3).alloc _).grown hg' (ho3.out.ownNe (.inl (by omega))))
        have HF' := Lib.hid ((Blk.new w3 #[.int .i64 e', .slice none 0 0] 30).grown hg' (ho3.out.ownNe (.inr (by omega))))
        obtain ⟨E0, E1, E2, E3⟩ := HE'.out.two
        obtain ⟨F0, F1, F2, F3⟩ := HF'.out.two
        have Hown' := Lib.hid hown'
        have g3 : Below w.heap.size w w' := ((ext g2 hb3).alloc (by omega) _).trans (hb'.mono (by omega))
        clear hown' hb' hg'
        go_wp2
        go_roundw
        case rel =>
          refine ⟨k + 1, e', by omega, by go_num, (HR'.out.setOther _ _ (by simp; omega)).setOther _ _ (by simp; omega), HE'.out.set2 _ _, ?_, (g3.setCell (by simp; omega) _).setCell (by simp; omega) _, ?_⟩
          · rw [levelsV_take hlt, Hx.out]
            exact (Hown'.out.setOther (by simp) _).setOther (by simp) _
          · rcases He'.out with ⟨hin, rfl⟩ | ⟨hin, rfl⟩
            · simp at hin
              exact .inl ⟨rfl, Hq.out, levels_all hlt Ha.out (by rw [Hx.out]; exact hin.2)⟩
            · rw [Hq.out, Bool.true_and] at hin
              exact .inr ⟨rfl, by rw [levels_not hlt (by rw [Hx.out]; exact hin), Bool.and_false]⟩
        case measure => simp [intOf]; omega
      · go_wp2_with fail
        refine (ok_zero _ _).mono ?_
        rintro e w2 ⟨rfl, hb2⟩
        obtain ⟨e0, e1, e2, e3⟩ := (HE.out.ext hb2).two
        clear E0 E1 E2 E3
        go_wp2_with fail
        refine (ok_zero _ _).mono ?_
        rintro e w3 ⟨rfl, hb3⟩
        obtain ⟨f0, f1, f2, f3⟩ := ((HE.out.ext hb2).ext hb3).two
        obtain ⟨r0, r1, r2, r3⟩ := ((HR.out.ext hb2).ext hb3).two
        have g3 : Below w.heap.size w w3 := ext (ext hb hb2) hb3
        have ho3 := Lib.hid ((HO.out.ext hb2).ext hb3)
        clear e0 e1 e2 e3
        go_wp2
        go_region
        all_goals (try go_wp2)
        all_goals (refine bodyPost_ret (by simp [results, Tryd.results21, go_sem, r0, r1, r2, r3]; try rfl) rfl ?_)
        all_goals
          have e : k = c.length := by omega
          have ha := Ha.out
          have ho := ho3.out
          rw [e, List.take_length] at ha
          rw [e] at ho
          unfold levelsTo at ho
          rw [List.take_length] at ho
          refine ⟨_, by simp only [levelsE, Hq.out, ha]; rfl, ?_, by go_grown⟩
          simp only [levelsV, Hq.out, ha]
          exact (((ho.setOther (by simp; omega) _).setOther (by simp; omega) _)).mono (by omega)
    · have Hbad := Lib.hid hbad
      clear hbad
      go_wp2_with fail
      refine (ok_ne 3 rfl _ _).mono ?_
      rintro e w2 ⟨rfl, hb2⟩
      obtain ⟨e0, e1, e2, e3⟩ := (HE.out.ext hb2).two
      clear E0 E1 E2 E3
      go_wp2_with fail
      refine (ok_ne 3 rfl _ _).mono ?_
      rintro e w3 ⟨rfl, hb3⟩
      obtain ⟨f0, f1, f2, f3⟩ := ((HE.out.ext hb2).ext hb3).two
      obtain ⟨r0, r1, r2, r3⟩ := ((HR.out.ext hb2).ext hb3).two
      have g3 : Below w.heap.size w w3 := ext (ext hb hb2) hb3
      clear e0 e1 e2 e3
      go_wp2
      go_region
      all_goals (try go_wp2)
      all_goals (refine bodyPost_ret (by simp [results, Tryd.results21, go_sem, r0, r1, r2, r3]; try rfl) rfl ?_)
      all_goals
        refine ⟨_, by simp only [levelsE, Hbad.out]; rfl, ?_, by go_grown⟩
        simp only [levelsV, Hbad.out]
        exact OwnInts.nil _ _

theorem rvalue_err {c qp : Int} (w : World) (h : (inQ qp && inL c) = false) : Calls Tryd.prog 17 #[.int .i64 c, .int .i64 qp] w fun e w' => e = .returned (.tuple #[.int .i64 0, .agg #[.int .i64 3, .slice none 0 0]]) ∧ Below w.heap.size w w' :=
  (rvalue_any c qp w).mono fun e w' ⟨he, hb⟩ => ⟨by rw [he]; simp [valueV, valueE, h], hb⟩
theorem rvalue_yes {c qp : Int} (w : World) (h : (inQ qp && inL c) = true) : Calls Tryd.prog 17 #[.int .i64 c, .int .i64 qp] w fun e w' => e = .returned (.tuple #[.int .i64 (valueV c qp), .agg #[.int .i64 0, .slice none 0 0]]) ∧ Below w.heap.size w w' :=
  (rvalue_any c qp w).mono fun e w' ⟨he, hb⟩ => ⟨by rw [he]; simp only [valueE, h, if_true], hb⟩
set_option maxHeartbeats 4000000 in
theorem rvalues_any (v : Value) (c : List Int) (qp : Int) (w : World) (hv : Ints w v c) (hl : c.length ≤ 5000) :
    Calls Tryd.prog 23 #[v, .int .i64 qp] w fun e w' => ∃ v', e = .returned (.tuple #[v', .agg #[.int .i64 (valuesE c qp), .slice none 0 0]]) ∧ OwnInts w' w.heap.size v' (valuesV c qp) ∧ Below w.heap.size w w' := by
  obtain ⟨ao, cap, rfl, h1, h2, h3, h5, h4⟩ := hv
  have H4 := Lib.hid h4
  clear h1 h2 h3 h4 h5
  go_enter Tryd.func23, Tryd.ntmps23
  go_wp2_with fail
  refine (rstep_any qp _).mono ?_
  rintro e w1 ⟨rfl, hb1⟩
  have hR := ((Blk.new w #[.int .i64 0, .slice none 0 0] 30).ext hb1).alloc (.cells #[.int .i64 (stepE qp), .slice none 0 0] 30)
  have hE := Blk.new w1 #[.int .i64 (stepE qp), .slice none 0 0] 30
  have hs1 := hb1.size
  simp only [World.size_alloc] at hs1
  have g1 : Below w.heap.size w w1 := ext (by go_grown) hb1
  have HR := Lib.hid hR
  have HE := Lib.hid hE
  clear hR hE
  go_wp2
  go_loopw [8, 9] (fun o i wr => ∃ (k : Nat) (er : Int), k ≤ c.length ∧ i = .int .i64 k ∧ Blk wr w.heap.size #[.int .i64 0, .slice none 0 0] 30 ∧ Blk wr w1.heap.size #[.int .i64 er, .slice none 0 0] 30 ∧ OwnInts wr (w1.heap.size + 1) o (valuesTo c qp k) ∧ Below w.heap.size w wr ∧
      ((er = 0 ∧ inQ qp = true ∧ (c.take k).all inL = true) ∨ (er = 3 ∧ (inQ qp && c.all inL) = false))) (fun _ i _ => c.length - (intOf i).toNat)
  case atStart =>
    refine ⟨0, stepE qp, Nat.zero_le _, rfl, HR.out, HE.out, OwnInts.nil _ _, by go_grown, ?_⟩
    cases hq : inQ qp with
    | true => exact .inl ⟨by simp [stepE, hq], rfl, rfl⟩
    | false => exact .inr ⟨by simp [stepE, hq], by simp⟩
  case round =>
    obtain ⟨k, er, hk, rfl, hR, hE, hown, hb, hcase⟩ := hrel
    have HR := Lib.hid hR
    have HE := Lib.hid hE
    have HO := Lib.hid hown
    have hsr := hb.size
    have hEl := hE.lt
    have hRl := hR.lt
    obtain ⟨E0, E1, E2, E3⟩ := hE.two
    clear hR hE hown
    rcases hcase with ⟨rfl, hq, ha⟩ | ⟨rfl, hbad⟩
    · have Hq := Lib.hid hq
      have Ha := Lib.hid ha
      clear hq ha
      by_cases hlt : k < c.length
      · obtain ⟨bb, off, rfl, hcell⟩ := H4.out k hlt
        clear H4
        generalize hx : c.getD k 0 = x at hcell
        have Hx := Lib.hid hx
        clear hx
        go_wp2_with fail
        refine (ok_zero _ _).mono ?_
        rintro e w2 ⟨rfl, hb2⟩
        have g2 : Below w.heap.size w w2 := ext hb hb2
        replace hcell := (g2.cell (p := ⟨bb, off + k, none⟩) (World.block_lt_of_cell? w _ hcell)).trans hcell
        clear E0 E1 E2 E3
        have hcs : ∃ e', ((inQ qp && inL x) = true ∧ e' = 0 ∨ (inQ qp && inL x) = false ∧ e' = 3) ∧ ∀ w, Calls Tryd.prog 17 #[.int .i64 x, .int .i64 qp] w fun e w' => e = .returned (.tuple #[.int .i64 (valueV x qp), .agg #[.int .i64 e', .slice none 0 0]]) ∧ Below w.heap.size w w' := by
          cases hin : inQ qp && inL x with
          | true => exact ⟨0, .inl ⟨rfl, rfl⟩, fun w => rvalue_yes w hin⟩
          | false => exact ⟨3, .inr ⟨rfl, rfl⟩, fun w => (rvalue_err w hin).mono fun e w' ⟨he, hx⟩ => ⟨by rw [he]; simp [valueV, hin], hx⟩⟩
        obtain ⟨e', he', hcall⟩ := hcs
        have He' := Lib.hid he'
        have HC := Lib.hid hcall
        clear he' hcall
        have hbd := value_bd x qp
        go_wp2_with fail
        refine (HC.out _).mono ?_
        rintro e w3 ⟨rfl, hb3⟩
        have hs2 := hb2.size
        have hs3 := hb3.size
        have ho3 := Lib.hid ((HO.out.ext hb2).ext hb3)
        go_wp2_with (at_builtin; (refine wpList_app1 rfl (.tmp 36) (.tmp 38) rfl (w1.heap.size + 1) _ _ (valueV x qp) rfl (ho3.out.alloc _) rfl (by simp) (by unfold in64; omega) (by rw [length_valuesTo (by omega)]; omega) (by simp; omega) ?_))
        intro v' w' hown' hb' hg'
        have HR' := Lib.hid ((((HR.out.ext hb2).ext hb3).alloc _).grown hg' (ho3.out.ownNe (.inl (by omega))))
        have HE' := Lib.hid ((((HE.out.ext hb2).ext hb3).alloc _).grown hg' (ho3.out.ownNe (.inl (by omega))))
        have HF' := Lib.hid ((Blk.new w3 #[.int .i64 e', .slice none 0 0] 30).grown hg' (ho3.out.ownNe (.inr (by omega))))
        obtain ⟨E0, E1, E2, E3⟩ := HE'.out.two
        obtain ⟨F0, F1, F2, F3⟩ := HF'.out.two
        have Hown' := Lib.hid hown'
        have g3 : Below w.heap.size w w' := ((ext g2 hb3).alloc (by omega) _).trans (hb'.mono (by omega))
        clear hown' hb' hg'
        go_wp2
        go_roundw
        case rel =>
          refine ⟨k + 1, e', by omega, by go_num, (HR'.out.setOther _ _ (by simp; omega)).setOther _ _ (by simp; omega), HE'.out.set2 _ _, ?_, (g3.setCell (by simp; omega) _).setCell (by simp; omega) _, ?_⟩
          · rw [valuesV_take hlt, Hx.out]
            exact (Hown'.out.setOther (by simp) _).setOther (by simp) _
          · rcases He'.out with ⟨hin, rfl⟩ | ⟨hin, rfl⟩
            · simp at hin
              exact .inl ⟨rfl, Hq.out, values_all hlt Ha.out (by rw [Hx.out]; exact hin.2)⟩
            · rw [Hq.out, Bool.true_and] at hin
              exact .inr ⟨rfl, by rw [values_not hlt (by rw [Hx.out]; exact hin), Bool.and_false]⟩
        case measure => simp [intOf]; omega
      · go_wp2_with fail
        refine (ok_zero _ _).mono ?_
        rintro e w2 ⟨rfl, hb2⟩
        obtain ⟨e0, e1, e2, e3⟩ := (HE.out.ext hb2).two
        clear E0 E1 E2 E3
        go_wp2_with fail
        refine (ok_zero _ _).mono ?_
        rintro e w3 ⟨rfl, hb3⟩
        obtain ⟨f0, f1, f2, f3⟩ := ((HE.out.ext hb2).ext hb3).two
        obtain ⟨r0, r1, r2, r3⟩ := ((HR.out.ext hb2).ext hb3).two
        have g3 : Below w.heap.size w w3 := ext (ext hb hb2) hb3
        have ho3 := Lib.hid ((HO.out.ext hb2).ext hb3)
        clear e0 e1 e2 e3
        go_wp2
        go_region
        all_goals (try go_wp2)
        all_goals (refine bodyPost_ret (by simp [results, Tryd.results23, go_sem, r0, r1, r2, r3]; try rfl) rfl ?_)
        all_goals
          have e : k = c.length := by omega
          have ha := Ha.out
          have ho := ho3.out
          rw [e, List.take_length] at ha
          rw [e] at ho
          unfold valuesTo at ho
          rw [List.take_length] at ho
          refine ⟨_, by simp only [valuesE, Hq.out, ha]; rfl, ?_, by go_grown⟩
          simp only [valuesV, Hq.out, ha]
          exact (((ho.setOther (by simp; omega) _).setOther (by simp; omega) _)).mono (by omega)
    · have Hbad := Lib.hid hbad
      clear hbad
      go_wp2_with fail
      refine (ok_ne 3 rfl _ _).mono ?_
      rintro e w2 ⟨rfl, hb2⟩
      obtain ⟨e0, e1, e2, e3⟩ := (HE.out.ext hb2).two
      clear E0 E1 E2 E3
      go_wp2_with fail
      refine (ok_ne 3 rfl _ _).mono ?_
      rintro e w3 ⟨rfl, hb3⟩
      obtain ⟨f0, f1, f2, f3⟩ := ((HE.out.ext hb2).ext hb3).two
      obtain ⟨r0, r1, r2, r3⟩ := ((HR.out.ext hb2).ext hb3).two
      have g3 : Below w.heap.size w w3 := ext (ext hb hb2) hb3
      clear e0 e1 e2 e3
      go_wp2
      go_region
      all_goals (try go_wp2)
      all_goals (refine bodyPost_ret (by simp [results, Tryd.results23, go_sem, r0, r1, r2, r3]; try rfl) rfl ?_)
      all_goals
        refine ⟨_, by simp only [valuesE, Hbad.out]; rfl, ?_, by go_grown⟩
        simp only [valuesV, Hbad.out]
        exact OwnInts.nil _ _
end Go.Proofs.YtkiigodkbmcpfaaDoor
