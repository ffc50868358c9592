/- Frames as arguments: a struct of two numbers and a list; slices of them. -/
import Derived.Test.YtmdpfjjbehpnbaaDoorInts
import Derived.Lib.SmallJoins
import Derived.Deep.Slices
import Derived.Deep.Fields
import Derived.ChangeSame
set_option linter.unusedSimpArgs false
set_option linter.unusedVariables false
namespace Go.Proofs.YtmdpfjjbehpnbaaDoor
open Go.RowKit Go.ChangeShapes Go.WideShapes Go.Deep

/-- The value v is the frame W, H, pix. -/
def FrameV (w : World) (v : Value) (W H : Int) (pix : List Int) : Prop := ∃ p, v = .agg #[.int .i64 W, .int .i64 H, p] ∧ in64 W ∧ in64 H ∧ Ints w p pix
theorem FrameV.ext {w w' : World} {v : Value} {W H : Int} {pix : List Int} (h : FrameV w v W H pix) (hb : Below w.heap.size w w') : FrameV w' v W H pix := by
  obtain ⟨p, rfl, h1, h2, h3⟩ := h
  exact ⟨p, rfl, h1, h2, h3.ext hb⟩

set_option maxRecDepth 100000 in
theorem ints_of_cell {H : Type} {enc : TypeId × Value → H} {W : World} {v : Value} {y : DataW H × List MemPlace} {fuel : Nat}
    (h : DataW.trod enc Tryd.prog W 0 (fun _ => true) true fuel 22 [v] = some y) : ∃ xs, Ints W v xs := by
  rcases open_ints Tryd.underlying22 Tryd.underlying3 (by kernel_rfl) h with ⟨hcs, _⟩ | ⟨a, len', cap', zs, hcs, _, hl, hm, hz, _, hcell, hwz⟩
  · obtain rfl := (List.cons.inj hcs).1
    exact ⟨[], Ints.nil W⟩
  · obtain rfl := (List.cons.inj hcs).1
    have hzl : zs.length = cap' := by simpa using hz
    refine ⟨zs.take len', some a, cap', by simp; omega, by simp; omega, hm, fun x hx => bounds_i64 (hwz x (List.mem_of_mem_take hx)), fun h => (by cases h), fun j hj => ?_⟩
    have hj' : j < len' := by simp at hj; omega
    obtain ⟨b, off, rfl, hc⟩ := ints_at hcell (by omega)
    refine ⟨b, off, rfl, ?_⟩
    rw [hc j (by omega)]
    simp [List.getD, hj']
set_option maxRecDepth 100000 in
theorem int_of_cell {H : Type} {enc : TypeId × Value → H} {W : World} {v : Value} {y : DataW H × List MemPlace} {fuel : Nat}
    (h : DataW.trod enc Tryd.prog W 0 (fun _ => true) true fuel 3 [v] = some y) : ∃ x, v = .int .i64 x ∧ in64 x := by
  obtain ⟨n, e, _, hw⟩ := DataW.trod_int Tryd.underlying3 h
  obtain rfl := (List.cons.inj e).1
  exact ⟨n, rfl, bounds_i64 hw⟩
set_option maxRecDepth 100000 in
theorem frame_of_trod {Hd : Type} {enc : TypeId × Value → Hd} {W : World} {base : Nat} {v : Value} {d : DataW Hd} {p : List MemPlace} (hv : Value.okWide Tryd.prog W .any base 24 v)
    (h : DataW.Trod enc Tryd.prog W 0 (fun _ => true) true 24 v d p) : ∃ fw fh pix, FrameV W v fw fh pix := by
  obtain ⟨v0, v1, v2, y0, y1, y2, n, rfl, _, _, h0, h1, h2⟩ := Joins.open_agg3 Tryd.underlying24 (by kernel_rfl) (by kernel_rfl) hv h
  obtain ⟨a, rfl, ha⟩ := int_of_cell h0
  obtain ⟨b, rfl, hb⟩ := int_of_cell h1
  obtain ⟨xs, hx⟩ := ints_of_cell h2
  exact ⟨a, b, xs, _, rfl, ha, hb, hx⟩

section
variable {H : Type} {enc : TypeId × Value → H} {P : Program} {w : World} {base : Nat} {spare : Nat → Bool} {held : Bool}
theorem open_slice_fields {t e : TypeId} {fs : Array Field} {fuel : Nat} {cs : List Value} {x : DataW H × List MemPlace} (ht : P.underlying t = some (.slice e)) (he : P.underlying e = some (.struct fs))
    (hone : oneCellFields P fs = true) (hC : P.cellsOf e = fs.size) (h : DataW.trod enc P w base spare held fuel t cs = some x) :
    (cs = [.slice none 0 0] ∧ x = (.nil, [])) ∨
    ∃ (a : Addr) (len cap m : Nat) (D : Nat → DataW H) (Pl : Nat → List MemPlace), cs = [.slice (some a) len cap] ∧ base ≤ a.block ∧ len ≤ cap ∧ cap ≤ maxLen ∧ m = (if spare a.block then cap else len) ∧
      x = (.slice ((List.range len).map D) ((List.range (m - len)).map fun j => D (len + j)), MemPlace.row a (m * fs.size) ++ (List.range m).flatMap Pl) ∧
      ∀ i, i < m → ∃ (ys : List (DataW H × List MemPlace)) (n : Nat), D i = .agg (ys.map (·.1)) ∧ Pl i = ys.flatMap (·.2) ∧ ys.length = fs.size ∧
        ∀ (j : Nat) (f : Field), fs[j]? = some f → ∃ (v : Value) (y : DataW H × List MemPlace), w.cell? (a.add (i * fs.size + j)) = some v ∧ ys[j]? = some y ∧ DataW.trod enc P w base spare held n f.type [v] = some y := by
  rcases open_slice ht h with h0 | ⟨a, len, cap, m, n, D, Pl, hcs, hb, hl, hm, hmm, hx, hi⟩
  · exact .inl h0
  · refine .inr ⟨a, len, cap, m, D, Pl, hcs, hb, hl, hm, hmm, by rw [hC] at hx; exact hx, fun i him => ?_⟩
    obtain ⟨cs', hc, ht'⟩ := hi i him
    rw [hC] at hc
    obtain ⟨ys, n', hn', hy, hlen, hyl, hf⟩ := DataW.trod_struct he ht'
    obtain ⟨_, hcl, hat⟩ := World.cells?_some hc
    simp only [Prod.mk.injEq] at hy
    refine ⟨ys, n', hy.1, hy.2, hyl, fun j f hj => ?_⟩
    obtain ⟨ho, hk⟩ := hone_of hone j f hj
    have hjl : j < fs.size := (Array.getElem?_eq_some_iff.1 hj).1
    have hcell := hat j hjl
    have hv : cs'[j]? = some (cs'[j]'(by omega)) := List.getElem?_eq_getElem (by omega)
    have h1 := hf j f hj
    rw [ho, hk] at h1
    have hone' : (cs'.drop j).take 1 = [cs'[j]'(by omega)] := by
      rw [List.drop_eq_getElem_cons (by omega)]
      rfl
    rw [hone'] at h1
    have hys : ys[j]? = some (ys[j]'(by omega)) := List.getElem?_eq_getElem (by omega)
    refine ⟨_, _, ?_, hys, h1.trans hys⟩
    rw [← Go.Deep.add_add, hcell, hv]
end

/-- A frame. -/
structure Fr where
  W : Int
  H : Int
  pix : List Int
def Fr.nought : Fr := ⟨0, 0, []⟩
/-- The slice v reads as the frames fs. -/
def Frames (w : World) (v : Value) (fs : List Fr) : Prop :=
  ∃ (ao : Option Addr) (cap : Nat), v = .slice ao fs.length cap ∧ fs.length ≤ cap ∧ cap ≤ maxLen ∧ (ao = none → cap = 0) ∧
    ∀ j, j < fs.length → ∃ b off p, ao = some ⟨b, off, none⟩ ∧ w.cell? ⟨b, off + j * 3, none⟩ = some (.int .i64 (fs.getD j Fr.nought).W) ∧ w.cell? ⟨b, off + j * 3 + 1, none⟩ = some (.int .i64 (fs.getD j Fr.nought).H) ∧
      w.cell? ⟨b, off + j * 3 + 2, none⟩ = some p ∧ in64 (fs.getD j Fr.nought).W ∧ in64 (fs.getD j Fr.nought).H ∧ Ints w p (fs.getD j Fr.nought).pix
theorem Frames.nil (w : World) : Frames w (.slice none 0 0) [] := ⟨none, 0, rfl, by simp, by simp [maxLen], fun _ => rfl, fun j hj => by simp at hj⟩
theorem Frames.ext {w w' : World} {v : Value} {fs : List Fr} (h : Frames w v fs) (hb : Below w.heap.size w w') : Frames w' v fs := by
  obtain ⟨ao, cap, rfl, h1, h2, h3, h4⟩ := h
  refine ⟨ao, cap, rfl, h1, h2, h3, fun j hj => ?_⟩
  obtain ⟨b, off, p, e, c0, c1, c2, i0, i1, hp⟩ := h4 j hj
  have hlt : b < w.heap.size := World.block_lt_of_cell? w _ c0
  exact ⟨b, off, p, e, by rw [hb.cell (p := ⟨b, _, none⟩) hlt]; exact c0, by rw [hb.cell (p := ⟨b, _, none⟩) hlt]; exact c1, by rw [hb.cell (p := ⟨b, _, none⟩) hlt]; exact c2, i0, i1, hp.ext hb⟩
set_option maxRecDepth 100000 in
theorem frames_of_trod {Hd : Type} {enc : TypeId × Value → Hd} {W : World} {base : Nat} {v : Value} {d : DataW Hd} {p : List MemPlace} (hv : Value.okWide Tryd.prog W .any base 27 v)
    (h : DataW.Trod enc Tryd.prog W 0 (fun _ => true) true 27 v d p) : ∃ fs, Frames W v fs := by
  obtain ⟨a0, len, cap, rfl⟩ := okWide_slice Tryd.underlying27 hv
  obtain ⟨fuel, hf⟩ := h
  rcases open_slice_fields Tryd.underlying27 Tryd.underlying24 (by kernel_rfl) (by kernel_rfl) hf with ⟨hcs, _⟩ | ⟨a, len', cap', m, D, Pl, hcs, _, hl, hm, hmm, _, hi⟩
  · simp [Value.cells] at hcs
    obtain ⟨rfl, rfl, rfl⟩ := hcs
    exact ⟨[], Frames.nil W⟩
  · simp [Value.cells] at hcs
    obtain ⟨rfl, rfl, rfl⟩ := hcs
    have hmc : m = cap := by simpa using hmm
    have key : ∀ i, i < len → ∃ f : Fr, ∃ b off p, a = ⟨b, off, none⟩ ∧ W.cell? ⟨b, off + i * 3, none⟩ = some (.int .i64 f.W) ∧ W.cell? ⟨b, off + i * 3 + 1, none⟩ = some (.int .i64 f.H) ∧
        W.cell? ⟨b, off + i * 3 + 2, none⟩ = some p ∧ in64 f.W ∧ in64 f.H ∧ Ints W p f.pix := by
      intro i hil
      obtain ⟨ys, n, _, _, _, hfs⟩ := hi i (by omega)
      obtain ⟨v0, y0, c0, _, t0⟩ := hfs 0 _ rfl
      obtain ⟨v1, y1, c1, _, t1⟩ := hfs 1 _ rfl
      obtain ⟨v2, y2, c2, _, t2⟩ := hfs 2 _ rfl
      obtain ⟨x0, rfl, b0⟩ := int_of_cell t0
      obtain ⟨x1, rfl, b1⟩ := int_of_cell t1
      obtain ⟨xs, hx⟩ := ints_of_cell t2
      obtain ⟨_, _, _, _, _, hfs0⟩ := hi 0 (by omega)
      obtain ⟨_, _, c00, _, _⟩ := hfs0 0 _ rfl
      obtain ⟨b, off, spot⟩ := a
      have hspot : spot = none := by simpa [Addr.add] using World.cell?_spot c00
      subst hspot
      rw [Go.WideShapes.add_plain] at c0 c1 c2
      exact ⟨⟨x0, x1, xs⟩, b, off, v2, rfl, c0, c1, c2, b0, b1, hx⟩
    refine ⟨(List.range len).map fun i => if h : i < len then Classical.choose (key i h) else Fr.nought, some a, cap, by simp, by simp; omega, hm, fun h => (by cases h), fun j hj => ?_⟩
    have hj' : j < len := by simpa using hj
    obtain ⟨b, off, p, e, c0, c1, c2, b0, b1, hx⟩ := Classical.choose_spec (key j hj')
    have eg : ((List.range len).map fun i => if h : i < len then Classical.choose (key i h) else Fr.nought).getD j Fr.nought = Classical.choose (key j hj') := by
      simp [List.getD, hj']
    rw [eg]
    exact ⟨b, off, p, by rw [e], c0, c1, c2, b0, b1, hx⟩
end Go.Proofs.YtmdpfjjbehpnbaaDoor
