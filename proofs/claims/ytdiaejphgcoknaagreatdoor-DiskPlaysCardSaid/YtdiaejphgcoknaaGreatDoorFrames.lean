/- Frames as arguments: a struct of two numbers and a list; slices of them. -/
import Derived.Test.YtdiaejphgcoknaaGreatDoorInts
import Derived.Lib.SmallJoins
import Derived.Deep.Slices
import Derived.Deep.Fields
import Derived.ChangeSame
set_option linter.unusedSimpArgs false
set_option linter.unusedVariables false
namespace Go.Proofs.YtdiaejphgcoknaaGreatDoor
open Go.RowKit Go.ChangeShapes Go.WideShapes Go.Deep

/-- The value v is the frame W, H, pix. -/
def FrameV (w : World) (v : Value) (W H : Int) (pix : List Int) : Prop := ∃ p, v = .agg #[.int .i64 W, .int .i64 H, p] ∧ in64 W ∧ in64 H ∧ Ints w p pix
theorem FrameV.ext {w w' : World} {v : Value} {W H : Int} {pix : List Int} (h : FrameV w v W H pix) (hb : Below w.heap.size w w') : FrameV w' v W H pix := by
  obtain ⟨p, rfl, h1, h2, h3⟩ := h
  exact ⟨p, rfl, h1, h2, h3.ext hb⟩

set_option maxRecDepth 100000 in
theorem ints_of_cell {H : Type} {enc : TypeId × Value → H} {W : World} {v : Value} {y : DataW H × List MemPlace} {fuel : Nat}
    (h : DataW.trod enc Tryz.prog W 0 (fun _ => true) true fuel 32 [v] = some y) : ∃ xs, Ints W v xs := by
  rcases open_ints Tryz.underlying32 Tryz.underlying3 (by kernel_rfl) h with ⟨hcs, _⟩ | ⟨a, len', cap', zs, hcs, _, hl, hm, hz, _, hcell, hwz⟩
  · obtain rfl := (List.cons.inj hcs).1
    exact ⟨[], Ints.nil W⟩
  · obtain rfl := (List.cons.inj hcs).1
    have hzl : zs.length = cap' := by simpa using hz
    refine ⟨zs.take len', some a, cap', by simp; omega, by simp; omega, hm, fun x hx => bounds_i64 (hwz x (List.mem_of_mem_take hx)), fun h => (by cases h), fun j hj => ?_⟩
    have hj' : j < len' := by simp at hj; omega
    obtain ⟨b, off, rfl, hc⟩ := ints_at hcell (by omega)
    refine ⟨b, off, rfl, ?_⟩
    rw [hc j (by omega)]
    simp [List.getD, hj']
set_option maxRecDepth 100000 in
theorem int_of_cell {H : Type} {enc : TypeId × Value → H} {W : World} {v : Value} {y : DataW H × List MemPlace} {fuel : Nat}
    (h : DataW.trod enc Tryz.prog W 0 (fun _ => true) true fuel 3 [v] = some y) : ∃ x, v = .int .i64 x ∧ in64 x := by
  obtain ⟨n, e, _, hw⟩ := DataW.trod_int Tryz.underlying3 h
  obtain rfl := (List.cons.inj e).1
  exact ⟨n, rfl, bounds_i64 hw⟩

section
variable {H : Type} {enc : TypeId × Value → H} {P : Program} {w : World} {base : Nat} {spare : Nat → Bool} {held : Bool}
theorem open_slice_fields {t e : TypeId} {fs : Array Field} {fuel : Nat} {cs : List Value} {x : DataW H × List MemPlace} (ht : P.underlying t = some (.slice e)) (he : P.underlying e = some (.struct fs))
    (hone : oneCellFields P fs = true) (hC : P.cellsOf e = fs.size) (h : DataW.trod enc P w base spare held fuel t cs = some x) :
    (cs = [.slice none 0 0] ∧ x = (.nil, [])) ∨
    ∃ (a : Addr) (len cap m : Nat) (D : Nat → DataW H) (Pl : Nat → List MemPlace), cs = [.slice (some a) len cap] ∧ base ≤ a.block ∧ len ≤ cap ∧ cap ≤ maxLen ∧ m = (if spare a.block then cap else len) ∧
      x = (.slice ((List.range len).map D) ((List.range (m - len)).map fun j => D (len + j)), MemPlace.row a (m * fs.size) ++ (List.range m).flatMap Pl) ∧
      ∀ i, i < m → ∃ (ys : List (DataW H × List MemPlace)) (n : Nat), D i = .agg (ys.map (·.1)) ∧ Pl i = ys.flatMap (·.2) ∧ ys.length = fs.size ∧
        ∀ (j : Nat) (f : Field), fs[j]? = some f → ∃ (v : Value) (y : DataW H × List MemPlace), w.cell? (a.add (i * fs.size + j)) = some v ∧ ys[j]? = some y ∧ DataW.trod enc P w base spare held n f.type [v] = some y := by
  rcases open_slice ht h with h0 | ⟨a, len, cap, m, n, D, Pl, hcs, hb, hl, hm, hmm, hx, hi⟩
  · exact .inl h0
  · refine .inr ⟨a, len, cap, m, D, Pl, hcs, hb, hl, hm, hmm, by rw [hC] at hx; exact hx, fun i him => ?_⟩
    obtain ⟨cs', hc, ht'⟩ := hi i him
    rw [hC] at hc
    obtain ⟨ys, n', hn', hy, hlen, hyl, hf⟩ := DataW.trod_struct he ht'
    obtain ⟨_, hcl, hat⟩ := World.cells?_some hc
    simp only [Prod.mk.injEq] at hy
    refine ⟨ys, n', hy.1, hy.2, hyl, fun j f hj => ?_⟩
    obtain ⟨ho, hk⟩ := hone_of hone j f hj
    have hjl : j < fs.size := (Array.getElem?_eq_some_iff.1 hj).1
    have hcell := hat j hjl
    have hv : cs'[j]? = some (cs'[j]'(by omega)) := List.getElem?_eq_getElem (by omega)
    have h1 := hf j f hj
    rw [ho, hk] at h1
    have hone' : (cs'.drop j).take 1 = [cs'[j]'(by omega)] := by
      rw [List.drop_eq_getElem_cons (by omega)]
      rfl
    rw [hone'] at h1
    have hys : ys[j]? = some (ys[j]'(by omega)) := List.getElem?_eq_getElem (by omega)
    refine ⟨_, _, ?_, hys, h1.trans hys⟩
    rw [← Go.Deep.add_add, hcell, hv]
end

/-- A frame. -/
structure Fr where
  W : Int
  H : Int
  pix : List Int
def Fr.nought : Fr := ⟨0, 0, []⟩
/-- The slice v reads as the frames fs. -/
def Frames (w : World) (v : Value) (fs : List Fr) : Prop :=
  ∃ (ao : Option Addr) (cap : Nat), v = .slice ao fs.length cap ∧ fs.length ≤ cap ∧ cap ≤ maxLen ∧ (ao = none → cap = 0) ∧
    ∀ j, j < fs.length → ∃ b off p, ao = some ⟨b, off, none⟩ ∧ w.cell? ⟨b, off + j * 3, none⟩ = some (.int .i64 (fs.getD j Fr.nought).W) ∧ w.cell? ⟨b, off + j * 3 + 1, none⟩ = some (.int .i64 (fs.getD j Fr.nought).H) ∧
      w.cell? ⟨b, off + j * 3 + 2, none⟩ = some p ∧ in64 (fs.getD j Fr.nought).W ∧ in64 (fs.getD j Fr.nought).H ∧ Ints w p (fs.getD j Fr.nought).pix
theorem Frames.nil (w : World) : Frames w (.slice none 0 0) [] := ⟨none, 0, rfl, by simp, by simp [maxLen], fun _ => rfl, fun j hj => by simp at hj⟩
theorem Frames.ext {w w' : World} {v : Value} {fs : List Fr} (h : Frames w v fs) (hb : Below w.heap.size w w') : Frames w' v fs := by
  obtain ⟨ao, cap, rfl, h1, h2, h3, h4⟩ := h
  refine ⟨ao, cap, rfl, h1, h2, h3, fun j hj => ?_⟩
  obtain ⟨b, off, p, e, c0, c1, c2, i0, i1, hp⟩ := h4 j hj
  have hlt : b < w.heap.size := World.block_lt_of_cell? w _ c0
  exact ⟨b, off, p, e, by rw [hb.cell (p := ⟨b, _, none⟩) hlt]; exact c0, by rw [hb.cell (p := ⟨b, _, none⟩) hlt]; exact c1, by rw [hb.cell (p := ⟨b, _, none⟩) hlt]; exact c2, i0, i1, hp.ext hb⟩
end Go.Proofs.YtdiaejphgcoknaaGreatDoor
