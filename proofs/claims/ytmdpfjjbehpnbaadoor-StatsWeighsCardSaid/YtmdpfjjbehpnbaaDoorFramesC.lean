/- kinref.CopyFrames, kinref.Frames: frames in a row of the call's own. -/
import Derived.Test.YtmdpfjjbehpnbaaDoorGroups
import Derived.Test.YtmdpfjjbehpnbaaDoorPlaneD
import Derived.Test.YtmdpfjjbehpnbaaDoorRow1
set_option linter.unusedSimpArgs false
set_option linter.unusedVariables false
namespace Go.Proofs.YtmdpfjjbehpnbaaDoor
open Go.RowKit

theorem length_flatR {g : Nat → List Value} {m : Nat} (hg : ∀ i, (g i).length = m) (n : Nat) : ((List.range n).flatMap g).length = n * m := by
  induction n with
  | zero => simp
  | succ n ih => rw [List.range_succ, List.flatMap_append, List.length_append, ih, List.flatMap_cons, List.flatMap_nil, List.append_nil, hg, Nat.succ_mul]
theorem flatR_at {g : Nat → List Value} {m : Nat} (hg : ∀ i, (g i).length = m) (n : Nat) {j c : Nat} (hj : j < n) (hc : c < m) : ((List.range n).flatMap g)[j * m + c]? = (g j)[c]? := by
  induction n with
  | zero => omega
  | succ n ih =>
    rw [List.range_succ, List.flatMap_append, List.flatMap_cons, List.flatMap_nil, List.append_nil]
    have hl := length_flatR hg n
    rcases Nat.lt_or_ge j n with h | h
    · rw [List.getElem?_append_left (by rw [hl]; exact Nat.lt_of_lt_of_le (show j * m + c < (j + 1) * m by rw [Nat.succ_mul]; omega) (Nat.mul_le_mul_right m h))]
      exact ih h
    · obtain rfl : j = n := by omega
      rw [List.getElem?_append_right (by rw [hl]; omega), hl, Nat.add_sub_cancel_left]
def fcell (fs : List Fr) (ps : List Value) (j : Nat) : List Value := [.int .i64 (fs.getD j Fr.nought).W, .int .i64 (fs.getD j Fr.nought).H, ps.getD j .nilIface]
def fcells (fs : List Fr) (ps : List Value) : List Value := (List.range fs.length).flatMap (fcell fs ps)
theorem getD_appL {α : Type} {l : List α} {x d : α} {j : Nat} (h : j < l.length) : (l ++ [x]).getD j d = l.getD j d := by
  rw [List.getD_eq_getElem?_getD, List.getElem?_append_left h, ← List.getD_eq_getElem?_getD]
theorem getD_appE {α : Type} {l : List α} {x d : α} : (l ++ [x]).getD l.length d = x := by simp
theorem fcells_app (fs : List Fr) (ps : List Value) (f : Fr) (p : Value) (hl : ps.length = fs.length) : fcells (fs ++ [f]) (ps ++ [p]) = fcells fs ps ++ [.int .i64 f.W, .int .i64 f.H, p] := by
  unfold fcells
  rw [List.length_append, List.length_singleton, List.range_succ, List.flatMap_append]
  congr 1
  · rw [List.flatMap_def, List.flatMap_def]
    congr 1
    refine List.map_congr_left fun j hj => ?_
    have hj' : j < fs.length := by simpa using hj
    unfold fcell
    rw [getD_appL hj', getD_appL (by rw [hl]; exact hj')]
  · rw [List.flatMap_cons, List.flatMap_nil, List.append_nil]
    unfold fcell
    rw [getD_appE, ← hl, getD_appE]
/-- Frames in a row of the call's own, their lists too. -/
def OwnF (w : World) (B : Nat) (v : Value) (fs : List Fr) : Prop :=
  ∃ ps : List Value, w.ownsRow B 24 3 v fs.length (fcells fs ps) ∧ ps.length = fs.length ∧ ∀ j, j < fs.length → OwnInts w B (ps.getD j .nilIface) (fs.getD j Fr.nought).pix ∧ in64 (fs.getD j Fr.nought).W ∧ in64 (fs.getD j Fr.nought).H
theorem OwnF.nil (w : World) (B : Nat) : OwnF w B (.slice none 0 0) [] := ⟨[], World.ownsRow_nil w B _ 3, rfl, fun j h => by simp at h⟩
theorem OwnF.ext {w w' : World} {B : Nat} {v : Value} {fs : List Fr} (h : OwnF w B v fs) (hb : Below w.heap.size w w') : OwnF w' B v fs := by
  obtain ⟨ps, h1, h2, h3⟩ := h
  exact ⟨ps, row_ext h1 hb, h2, fun j hj => ⟨(h3 j hj).1.ext hb, (h3 j hj).2⟩⟩
theorem OwnF.shapeN {w : World} {B : Nat} {v : Value} {fs : List Fr} (h : OwnF w B v fs) {n : Nat} (hn : fs.length = n) : ∃ ao cap, v = .slice ao n cap := by
  obtain ⟨ps, h1, h2, h3⟩ := h
  rcases row_head h1 with ⟨rfl, h0⟩ | ⟨g, cap, rfl, _⟩
  · exact ⟨none, 0, by rw [← hn, h0]⟩
  · exact ⟨_, cap, by rw [hn]⟩
theorem OwnF.frames {w : World} {B : Nat} {v : Value} {fs : List Fr} (h : OwnF w B v fs) : Frames w v fs := by
  obtain ⟨ps, h1, h2, h3⟩ := h
  rcases row_head h1 with ⟨rfl, h0⟩ | ⟨g, cap, rfl, -, hlt, hc1, hc2, -⟩
  · obtain rfl := List.length_eq_zero_iff.1 h0
    exact Frames.nil w
  · refine ⟨_, cap, rfl, hc1, hc2, fun h => (by cases h), fun j hj => ⟨g, 0, ps.getD j .nilIface, rfl, ?_, ?_, ?_, (h3 j hj).2.1, (h3 j hj).2.2, (h3 j hj).1.ints⟩⟩
    · rw [Nat.zero_add]; exact row_cellAt h1 (flatR_at (m := 3) (c := 0) (fun _ => rfl) _ hj (by decide))
    · rw [Nat.zero_add]; exact row_cellAt h1 (flatR_at (m := 3) (c := 1) (fun _ => rfl) _ hj (by decide))
    · rw [Nat.zero_add]; exact row_cellAt h1 (flatR_at (m := 3) (c := 2) (fun _ => rfl) _ hj (by decide))
theorem infoF : (Tryd.prog.info? 24).map (fun i => (i.zero, i.size, i.bytes)) = some (some (.agg #[.int .i64 0, .int .i64 0, .slice none 0 0]), 3, 40) := by kernel_rfl
section
variable {ops : Array Oper} {rest : List Oper} {o : Oper} {a : Act} {Q : Exit → Act → World → Prop}
/-- 'v = append(v, f)' of a frame. -/
theorem wpList_appF {W : World} (hgd : o.guard = none) (s x : Operand) (ho : o.op = .call { callee := .builtin .append, args := #[s, x], argTypes := #[27, 27] })
    (B : Nat) (v p : Value) (fs : List Fr) (f : Fr) (hs : a.eval s = v) (hown : OwnF W B v fs) (hp : OwnInts W B p f.pix) (hf : in64 f.W ∧ in64 f.H) {N : Nat} (hx : a.eval x = .slice (some ⟨N, 0, none⟩) 1 1) (hN : N = W.heap.size)
    (hlen : fs.length ≤ 1000000) (hB : B ≤ W.heap.size)
    (h : ∀ v' w', OwnF w' B v' (fs ++ [f]) → Below B W w' → wpList Tryd.prog ops Q rest (a.put o.dst v') w') : wpList Tryd.prog ops Q (o :: rest) a (W.alloc (.cells #[.int .i64 f.W, .int .i64 f.H, p] 24)) := by
  obtain ⟨ps, h1, h2, h3⟩ := hown
  refine wpList_row1 27 24 3 40 _ Tryd.underlying27 infoF rfl (by decide) hgd s x ho B v fs.length (fcells fs ps) [.int .i64 f.W, .int .i64 f.H, p] hs h1 hx hN rfl ?_ hlen (by decide) hB ?_
  · intro u hu
    obtain ⟨ao, cap, rfl⟩ := hp.shape
    simp at hu; rcases hu with rfl | rfl | rfl <;> rfl
  · intro v' w' hown' hb hg _
    refine h v' w' ⟨ps ++ [p], by rw [fcells_app fs ps f p h2, List.length_append, List.length_singleton]; exact hown', by simp [h2], fun j hj => ?_⟩ hb
    have keep : ∀ {q : Value} {m : List Int}, OwnInts W B q m → OwnInts w' B q m := fun {q m} hq => hq.kept2 hg (row_typesR h1 hq.1 (by decide))
    rcases Nat.lt_or_ge j fs.length with hjl | hjl
    · rw [getD_appL (by omega), getD_appL hjl]
      exact ⟨keep (h3 j hjl).1, (h3 j hjl).2⟩
    · obtain rfl : j = fs.length := by simp at hj; omega
      rw [getD_appE, show (ps ++ [p]).getD fs.length .nilIface = p from by rw [← h2]; exact getD_appE]
      exact ⟨keep hp, hf⟩
end
theorem take_app {α : Type} (l : List α) (d : α) {k : Nat} (h : k < l.length) : l.take (k + 1) = l.take k ++ [l.getD k d] := by
  rw [List.take_succ_eq_append_getElem h, List.getD_eq_getElem?_getD, List.getElem?_eq_getElem h]; rfl
set_option maxRecDepth 100000 in
theorem copyframes_any (v : Value) (fs : List Fr) (w : World) (hv : Frames w v fs) (hn : fs.length ≤ 1000) (hl : ∀ j, j < fs.length → (fs.getD j Fr.nought).pix.length ≤ 1000000) :
    Calls Tryd.prog 15 #[v] w fun e w' => ∃ v', e = .returned v' ∧ OwnF w' w.heap.size v' fs ∧ Below w.heap.size w w' := by
  have HV := Lib.hid hv
  have HL := Lib.hid hl
  obtain ⟨n, hnn⟩ : ∃ n, fs.length = n := ⟨_, rfl⟩
  obtain ⟨ao, cap, rfl⟩ := hv.shapeN hnn
  have LN := Lib.hid hnn
  rw [hnn] at hn
  clear hv hl hnn
  go_enter Tryd.func15, Tryd.ntmps15
  go_wp2
  go_loopw [3, 4] (fun o i wr => ∃ k : Nat, k ≤ n ∧ i = .int .i64 k ∧ OwnF wr w.heap.size o (fs.take k) ∧ Below w.heap.size w wr) (fun _ i _ => n - (intOf i).toNat)
  case atStart => exact ⟨0, Nat.zero_le _, rfl, OwnF.nil _ _, Below.refl _ _⟩
  case round =>
    obtain ⟨k, hk, rfl, hown, hb⟩ := hrel
    have HO := Lib.hid hown
    clear hown
    by_cases hlt : k < n
    · obtain ⟨b, off, po, pc, rfl, lb, c0, c1, c2, fv⟩ := (HV.out.ext hb).cellAt (j := k) (by rw [LN.out]; exact hlt)
      have HFK := Lib.hid fv
      have HK := Lib.hid (HL.out k (by rw [LN.out]; exact hlt))
      have HT := Lib.hid (take_app fs Fr.nought (k := k) (by rw [LN.out]; exact hlt))
      have HIW := Lib.hid (show in64 (fs.getD k Fr.nought).W ∧ in64 (fs.getD k Fr.nought).H from by obtain ⟨_, e, h1, h2, _⟩ := fv; exact ⟨h1, h2⟩)
      have HLN := Lib.hid (show (fs.take k).length ≤ 1000000 from by rw [List.length_take]; omega)
      have hsz := hb.size
      clear fv
      generalize fs.getD k Fr.nought = f at *
      go_wp2_with fail
      clear c0 c1 c2
      refine (copyframe_any _ f.W f.H f.pix _ HFK.out (by have := HK.out; omega)).mono ?_
      rintro e w1 ⟨p, rfl, ho1, hb1⟩
      have g1 := ext hb hb1
      have HO1 := Lib.hid (HO.out.ext hb1)
      have HP1 := Lib.hid (ho1.mono hsz)
      have s1 := g1.size
      obtain ⟨pa, pc', rfl⟩ := ho1.shape
      clear ho1 hb1
      go_wp2_with (at_builtin; refine wpList_appF rfl (.tmp 11) (.tmp 17) rfl w.heap.size _ _ _ f rfl HO1.out HP1.out HIW.out rfl (by simp) HLN.out s1 ?_)
      intro v' w2 ho2 hb2
      have HO2 := Lib.hid (show OwnF w2 w.heap.size v' (fs.take (k + 1)) from by rw [HT.out]; exact ho2)
      have g2 := g1.trans hb2
      clear ho2 hb2
      go_wp2
      go_roundw
      case rel => exact ⟨k + 1, by omega, by go_num, HO2.out, g2⟩
      case measure => simp [intOf]; omega
    · have ek : k = n := by omega
      have HE := Lib.hid (show fs.take k = fs from by rw [ek, ← LN.out]; exact List.take_length)
      clear ek
      go_wp2
      go_returns
      exact ⟨_, rfl, by rw [← HE.out]; exact HO.out, hb⟩
theorem rframe_self (v u : Value) (f : Fr) (w : World) (hv : FrameV w v f.W f.H f.pix) (hu : FrameV w u f.W f.H f.pix) :
    Calls Tryd.prog 20 #[v, u] w fun e w' => e = .returned (.bool true) ∧ Below w.heap.size w w' :=
  (rframe_any v u _ _ _ _ _ _ w hv hu).mono fun e w' ⟨he, hb⟩ => ⟨by rw [he]; simp, hb⟩
theorem six2_ext {A w5 : World} (hb : Below A.heap.size A w5) {b o0 o1 o2 N p0 p1 p2 : Nat} {x0 x1 x2 y0 y1 y2 : Value}
    (h : A.cell? ⟨b, o0, none⟩ = some x0 ∧ A.cell? ⟨b, o1, none⟩ = some x1 ∧ A.cell? ⟨b, o2, none⟩ = some x2 ∧ A.cell? ⟨N, p0, none⟩ = some y0 ∧ A.cell? ⟨N, p1, none⟩ = some y1 ∧ A.cell? ⟨N, p2, none⟩ = some y2) :
    w5.cell? ⟨b, o0, none⟩ = some x0 ∧ w5.cell? ⟨b, o1, none⟩ = some x1 ∧ w5.cell? ⟨b, o2, none⟩ = some x2 ∧ w5.cell? ⟨N, p0, none⟩ = some y0 ∧ w5.cell? ⟨N, p1, none⟩ = some y1 ∧ w5.cell? ⟨N, p2, none⟩ = some y2 := by
  have k : ∀ {p : Addr} {x : Value}, A.cell? p = some x → w5.cell? p = some x := fun {p x} hp => (hb.cell (World.block_lt_of_cell? A p hp)).trans hp
  exact ⟨k h.1, k h.2.1, k h.2.2.1, k h.2.2.2.1, k h.2.2.2.2.1, k h.2.2.2.2.2⟩
set_option maxRecDepth 100000 in
set_option maxHeartbeats 1000000 in
theorem rframes_same (v u : Value) (fs : List Fr) (w : World) (hv : Frames w v fs) (hu : Frames w u fs) :
    Calls Tryd.prog 19 #[v, u] w fun e w' => e = .returned (.bool true) ∧ Below w.heap.size w w' := by
  have HV := Lib.hid hv
  have HU := Lib.hid hu
  have hl := hv.len
  obtain ⟨n, hnn⟩ : ∃ n, fs.length = n := ⟨_, rfl⟩
  obtain ⟨ao, cap, rfl⟩ := hv.shapeN hnn
  obtain ⟨bo, bcap, rfl⟩ := hu.shapeN hnn
  have LN := Lib.hid hnn
  rw [hnn] at hl
  have qn : ((n : Int) != (n : Int)) = false := by simp
  clear hv hu hnn
  go_enter Tryd.func19, Tryd.ntmps19
  go_wp2
  go_loopw [5] (fun i wr => ∃ k : Nat, k ≤ n ∧ i = .int .i64 k ∧ Below w.heap.size w wr) (fun i _ => n - (intOf i).toNat)
  case atStart => exact ⟨0, Nat.zero_le _, rfl, Below.refl _ _⟩
  case round =>
    obtain ⟨k, hk, rfl, hb⟩ := hrel
    by_cases hlt : k < n
    · obtain ⟨b, off, po, pc, rfl, lb, c0, c1, c2, fv⟩ := (HV.out.ext hb).cellAt (j := k) (by rw [LN.out]; exact hlt)
      obtain ⟨b2, off2, po2, pc2, rfl, lb2, d0, d1, d2, fu⟩ := (HU.out.ext hb).cellAt (j := k) (by rw [LN.out]; exact hlt)
      have HFV := Lib.hid fv
      have HFU := Lib.hid fu
      clear fv fu
      generalize fs.getD k Fr.nought = f at *
      have S6 := Lib.hid (show wr.cell? ⟨b, off + k * 3, none⟩ = some (.int .i64 f.W) ∧ wr.cell? ⟨b, off + k * 3 + 1, none⟩ = some (.int .i64 f.H) ∧ wr.cell? ⟨b, off + k * 3 + 2, none⟩ = some (.slice po f.pix.length pc) ∧ wr.cell? ⟨b2, off2 + k * 3, none⟩ = some (.int .i64 f.W) ∧ wr.cell? ⟨b2, off2 + k * 3 + 1, none⟩ = some (.int .i64 f.H) ∧ wr.cell? ⟨b2, off2 + k * 3 + 2, none⟩ = some (.slice po2 f.pix.length pc2) from ⟨c0, c1, c2, d0, d1, d2⟩)
      go_wp2
      go_region_held3 (fun w' => w'.cell? ⟨b, off + k * 3, none⟩ = some (.int .i64 f.W) ∧ w'.cell? ⟨b, off + k * 3 + 1, none⟩ = some (.int .i64 f.H) ∧ w'.cell? ⟨b, off + k * 3 + 2, none⟩ = some (.slice po f.pix.length pc) ∧ w'.cell? ⟨b2, off2 + k * 3, none⟩ = some (.int .i64 f.W) ∧ w'.cell? ⟨b2, off2 + k * 3 + 1, none⟩ = some (.int .i64 f.H) ∧ w'.cell? ⟨b2, off2 + k * 3 + 2, none⟩ = some (.slice po2 f.pix.length pc2))
        (first | with_reducible exact S65.out | with_reducible exact S6.out | go_keep)
        (first | (go_at_call 20; refine (rframe_self _ _ f _ ?_ ?_).mono ?_; exact HFV.out; exact HFU.out; rintro e w5 ⟨rfl, hb5⟩; have S65 := Lib.hid (six2_ext hb5 S6.out)))
      have j5 : Below wr.heap.size wr w5 := by first | exact hb5 | exact below_undrew hb5
      have g5 := ext hb j5
      clear c0 c1 c2 d0 d1 d2 hb5 j5
      go_wp2
      go_roundw
      case rel => exact ⟨k + 1, by omega, by go_num, by first | exact g5 | exact g5.drew⟩
      case measure => simp [intOf]; omega
    · go_wp2
      go_returns
      exact ⟨rfl, hb⟩
end Go.Proofs.YtmdpfjjbehpnbaaDoor
