/- Operations as arguments: a slice of structs of two numbers, two strings, bytes, numbers. -/
import Derived.Test.YtdiaejphgcoknaaGreatDoorDiskAa
import Derived.Test.YtdiaejphgcoknaaGreatDoorFrames
set_option linter.unusedSimpArgs false
set_option linter.unusedVariables false
namespace Go.Proofs.YtdiaejphgcoknaaGreatDoor
open Go.RowKit Go.ChangeShapes Go.WideShapes Go.Deep

set_option maxRecDepth 100000 in
theorem string_of_cell {H : Type} {enc : TypeId × Value → H} {W : World} {v : Value} {y : DataW H × List MemPlace} {fuel : Nat}
    (h : DataW.trod enc Tryz.prog W 0 (fun _ => true) true fuel 9 [v] = some y) : ∃ s : Bs, v = .string ⟨s.toArray⟩ ∧ s.length ≤ maxLen := by
  obtain ⟨s, e, _, hs⟩ := DataW.trod_string Tryz.underlying9 h
  obtain rfl := (List.cons.inj e).1
  refine ⟨s.data.toList, congrArg Value.string (by cases s; simp), ?_⟩
  rw [Array.length_toList]; exact hs
theorem byte_back {z : Int} (h : 0 ≤ z ∧ z ≤ 255) : ((UInt8.ofNat z.toNat).toNat : Int) = z := by
  have : z.toNat < 256 := by omega
  rw [UInt8.toNat_ofNat', Nat.mod_eq_of_lt (by omega)]
  omega
set_option maxRecDepth 100000 in
theorem bytes_of_cell {H : Type} {enc : TypeId × Value → H} {W : World} {v : Value} {y : DataW H × List MemPlace} {fuel : Nat}
    (h : DataW.trod enc Tryz.prog W 0 (fun _ => true) true fuel 31 [v] = some y) : ∃ b, BytesV W v b := by
  rcases open_ints Tryz.underlying31 Tryz.underlying5 (by kernel_rfl) h with ⟨hcs, _⟩ | ⟨a, len', cap', zs, hcs, _, hl, hm, hz, _, hcell, hwz⟩
  · obtain rfl := (List.cons.inj hcs).1
    exact ⟨[], BytesV.nil W⟩
  · obtain rfl := (List.cons.inj hcs).1
    have hzl : zs.length = cap' := by simpa using hz
    have hbl : ((zs.take len').map fun z : Int => UInt8.ofNat z.toNat).length = len' := by simp; omega
    refine ⟨(zs.take len').map fun z : Int => UInt8.ofNat z.toNat, some a, cap', by rw [hbl], by rw [hbl]; exact hl, hm, fun h => (by cases h), fun j hj => ?_⟩
    have hj' : j < len' := by rw [hbl] at hj; exact hj
    obtain ⟨b, off, spot⟩ := a
    have h0 := hcell 0 (by omega)
    have hspot : spot = none := by simpa [Addr.add] using World.cell?_spot h0
    subst hspot
    refine ⟨b, off, rfl, ?_⟩
    have h1 := hcell j (by omega)
    rw [Go.WideShapes.add_plain] at h1
    rw [h1]
    have hm2 : zs.getD j 0 ∈ zs := by rw [List.getD_eq_getElem?_getD, List.getElem?_eq_getElem (by omega)]; exact List.getElem_mem _
    have hbb := byte_back (bounds_u8 (hwz _ hm2))
    have e : (((zs.take len').map fun z : Int => UInt8.ofNat z.toNat).getD j 0) = UInt8.ofNat (zs.getD j 0).toNat := by
      simp [List.getD, hj', List.getElem?_eq_getElem (show j < zs.length by omega)]
    rw [e, hbb]

/-- Six cells hold the operation o. -/
structure OpAt (w : World) (b c : Nat) (o : OpP) (vb vp : Value) : Prop where
  c0 : w.cell? ⟨b, c, none⟩ = some (.int .i64 o.kind)
  c1 : w.cell? ⟨b, c + 1, none⟩ = some (.int .i64 o.n)
  c2 : w.cell? ⟨b, c + 2, none⟩ = some (.string ⟨o.name.toArray⟩)
  c3 : w.cell? ⟨b, c + 3, none⟩ = some (.string ⟨o.to.toArray⟩)
  c4 : w.cell? ⟨b, c + 4, none⟩ = some vb
  c5 : w.cell? ⟨b, c + 5, none⟩ = some vp
  ik : in64 o.kind
  i1 : in64 o.n
  ln : o.name.length ≤ maxLen
  lt : o.to.length ≤ maxLen
  bytes : BytesV w vb o.b
  ints : Ints w vp o.picks
theorem OpAt.ext {w w' : World} {b c : Nat} {o : OpP} {vb vp : Value} (h : OpAt w b c o vb vp) (hb : Below w.heap.size w w') : OpAt w' b c o vb vp := by
  have hlt : b < w.heap.size := World.block_lt_of_cell? w _ h.c0
  have e : ∀ k, w'.cell? ⟨b, k, none⟩ = w.cell? ⟨b, k, none⟩ := fun k => hb.cell (p := ⟨b, k, none⟩) hlt
  exact ⟨(e _).trans h.c0, (e _).trans h.c1, (e _).trans h.c2, (e _).trans h.c3, (e _).trans h.c4, (e _).trans h.c5, h.ik, h.i1, h.ln, h.lt, h.bytes.ext hb, h.ints.ext hb⟩
/-- The slice v reads as the operations l. -/
def OpsV (w : World) (v : Value) (l : List OpP) : Prop :=
  ∃ (ao : Option Addr) (cap : Nat), v = .slice ao l.length cap ∧ l.length ≤ cap ∧ cap ≤ maxLen ∧ (ao = none → cap = 0) ∧
    ∀ j, j < l.length → ∃ b off vb vp, ao = some ⟨b, off, none⟩ ∧ OpAt w b (off + j * 6) (l.getD j OpP.nought) vb vp
theorem OpsV.nil (w : World) : OpsV w (.slice none 0 0) [] := ⟨none, 0, rfl, by simp, by simp [maxLen], fun _ => rfl, fun j hj => by simp at hj⟩
theorem OpsV.ext {w w' : World} {v : Value} {l : List OpP} (h : OpsV w v l) (hb : Below w.heap.size w w') : OpsV w' v l := by
  obtain ⟨ao, cap, rfl, h1, h2, h3, h4⟩ := h
  refine ⟨ao, cap, rfl, h1, h2, h3, fun j hj => ?_⟩
  obtain ⟨b, off, vb, vp, e, ho⟩ := h4 j hj
  exact ⟨b, off, vb, vp, e, ho.ext hb⟩
theorem OpsV.len {w : World} {v : Value} {l : List OpP} (h : OpsV w v l) : l.length ≤ 9223372036854775807 := by
  obtain ⟨ao, cap, _, h1, h2, _⟩ := h; unfold maxLen at h2; omega
theorem OpsV.shape {w : World} {v : Value} {l : List OpP} (h : OpsV w v l) : ∃ ao cap, v = .slice ao l.length cap := by
  obtain ⟨ao, cap, e, _⟩ := h; exact ⟨ao, cap, e⟩
set_option maxRecDepth 100000 in
theorem ops_of_trod {Hd : Type} {enc : TypeId × Value → Hd} {W : World} {base : Nat} {v : Value} {d : DataW Hd} {p : List MemPlace} (hv : Value.okWide Tryz.prog W .any base 22 v)
    (h : DataW.Trod enc Tryz.prog W 0 (fun _ => true) true 22 v d p) : ∃ l, OpsV W v l := by
  obtain ⟨a0, len, cap, rfl⟩ := okWide_slice Tryz.underlying22 hv
  obtain ⟨fuel, hf⟩ := h
  rcases open_slice_fields Tryz.underlying22 Tryz.underlying34 (by kernel_rfl) (by kernel_rfl) hf with ⟨hcs, _⟩ | ⟨a, len', cap', m, D, Pl, hcs, _, hl, hm, hmm, _, hi⟩
  · simp [Value.cells] at hcs
    obtain ⟨rfl, rfl, rfl⟩ := hcs
    exact ⟨[], OpsV.nil W⟩
  · simp [Value.cells] at hcs
    obtain ⟨rfl, rfl, rfl⟩ := hcs
    have hmc : m = cap := by simpa using hmm
    have key : ∀ i, i < len → ∃ (o : OpP) (b off : Nat) (vb vp : Value), a = ⟨b, off, none⟩ ∧ OpAt W b (off + i * 6) o vb vp := by
      intro i hil
      obtain ⟨ys, n, _, _, _, hfs⟩ := hi i (by omega)
      obtain ⟨v0, y0, c0, _, t0⟩ := hfs 0 _ rfl
      obtain ⟨v1, y1, c1, _, t1⟩ := hfs 1 _ rfl
      obtain ⟨v2, y2, c2, _, t2⟩ := hfs 2 _ rfl
      obtain ⟨v3, y3, c3, _, t3⟩ := hfs 3 _ rfl
      obtain ⟨v4, y4, c4, _, t4⟩ := hfs 4 _ rfl
      obtain ⟨v5, y5, c5, _, t5⟩ := hfs 5 _ rfl
      obtain ⟨x0, rfl, b0⟩ := int_of_cell t0
      obtain ⟨x1, rfl, b1⟩ := int_of_cell t1
      obtain ⟨x2, rfl, b2⟩ := string_of_cell t2
      obtain ⟨x3, rfl, b3⟩ := string_of_cell t3
      obtain ⟨x4, hx4⟩ := bytes_of_cell t4
      obtain ⟨x5, hx5⟩ := ints_of_cell t5
      obtain ⟨_, _, _, _, _, hfs0⟩ := hi 0 (by omega)
      obtain ⟨_, _, c00, _, _⟩ := hfs0 0 _ rfl
      obtain ⟨b, off, spot⟩ := a
      have hspot : spot = none := by simpa [Addr.add] using World.cell?_spot c00
      subst hspot
      rw [Go.WideShapes.add_plain] at c0 c1 c2 c3 c4 c5
      exact ⟨⟨x0, x1, x2, x3, x4, x5⟩, b, off, v4, v5, rfl, ⟨c0, c1, c2, c3, c4, c5, b0, b1, b2, b3, hx4, hx5⟩⟩
    refine ⟨(List.range len).map fun i => if h : i < len then Classical.choose (key i h) else OpP.nought, some a, cap, by simp, by simp; omega, hm, fun h => (by cases h), fun j hj => ?_⟩
    have hj' : j < len := by simpa using hj
    obtain ⟨b, off, vb, vp, e, ho⟩ := Classical.choose_spec (key j hj')
    have eg : ((List.range len).map fun i => if h : i < len then Classical.choose (key i h) else OpP.nought).getD j OpP.nought = Classical.choose (key j hj') := by
      simp [List.getD, hj']
    rw [eg]
    exact ⟨b, off, vb, vp, by rw [e], ho⟩
end Go.Proofs.YtdiaejphgcoknaaGreatDoor
