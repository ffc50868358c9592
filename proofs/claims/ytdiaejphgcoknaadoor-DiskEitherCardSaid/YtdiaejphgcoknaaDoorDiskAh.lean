/- A disk that stands: the operations as the laws use them. -/
import Derived.Test.YtdiaejphgcoknaaDoorDiskAg
import Derived.Test.YtdiaejphgcoknaaDoorDiskAc
set_option linter.unusedSimpArgs false
set_option linter.unusedVariables false
namespace Go.Proofs.YtdiaejphgcoknaaDoor
open Go.RowKit Go.Extern.Stop Go.Stop Go.Extern

section
variable {W : World} {p : Nat} {L : Lay} {D : DS} {w : World}
theorem Stand.act (S : Stand W p L D w) {o : OpP} {vb vp : Value} {T b c : Nat} (hI : Inv D T) (hT : T ≤ 100000) (ho : OpAt W b c o vb vp) :
    Calls Tryd.prog 14 #[.pointer (some ⟨p, 0, none⟩), opV o vb vp] w (StandPost W p L (actE D o) (actD D o) w) :=
  (actop_any p L D o vb vp T w S.dp hI hT ho.ln ho.lt (ho.ext S.below).bytes fun w' hk => (ho.ext (S.below.trans (hk.below S.own S.size))).ints).mono fun e w' h => S.op h
theorem Stand.files (S : Stand W p L D w) {T : Nat} (hI : Inv D T) (hT : T ≤ 100000) :
    Calls Tryd.prog 11 #[.pointer (some ⟨p, 0, none⟩)] w fun e w' => ∃ ao cap, e = .returned (.slice ao (filesD D).length cap) ∧ OwnFs w' w.heap.size (.slice ao (filesD D).length cap) (filesD D) ∧ Stand W p L D w' ∧ Below w.heap.size w w' :=
  (files_any p L D T w S.dp hI hT).mono fun e w' ⟨v, he, ho, hb⟩ => by
    obtain ⟨ao, cap, rfl⟩ := ho.shapeN rfl
    exact ⟨ao, cap, he, ho, S.ext hb, hb⟩
theorem Stand.types (S : Stand W p L D w) (hg : TypeIs W) : TypeIs w := hg.ext S.below
/-- Files told ahead of an operation are there behind it. -/
theorem OwnFs.past {w0 w1 w2 : World} {v : Value} {fs : List FV} (h : OwnFs w1 w0.heap.size v fs) (h0 : DP w0 p L D) (hk : Keep (L.has p) w1 w2) : OwnFs w2 w0.heap.size v fs :=
  h.far hk fun k hk1 _ hh => by have := h0.lt hh; omega
end
theorem Inv.acts {r : Int} (hr : 0 ≤ r ∧ r ≤ 16777216) {l : List OpP} (hl : ∀ j, j < l.length → in64 (l.getD j OpP.nought).n) : ∀ k, k ≤ l.length → Inv (actsD (newD r) (l.take k)) (3 * k)
  | 0, _ => Inv.new hr
  | k + 1, h => by
    have e : actsD (newD r) (l.take (k + 1)) = actD (actsD (newD r) (l.take k)) (l.getD k OpP.nought) := by
      unfold actsD
      rw [take_app l OpP.nought (by omega), List.foldl_append]; rfl
    rw [e]
    exact ((Inv.acts hr hl k (by omega)).act _ (hl k (by omega))).mono (by omega)
theorem actsD_succ (D : DS) {l : List OpP} {k : Nat} (h : k < l.length) : actsD D (l.take (k + 1)) = actD (actsD D (l.take k)) (l.getD k OpP.nought) := by
  unfold actsD
  rw [take_app l OpP.nought h, List.foldl_append]; rfl
theorem OpsV.in64 {w : World} {v : Value} {l : List OpP} (h : OpsV w v l) : ∀ j, j < l.length → in64 (l.getD j OpP.nought).n := by
  obtain ⟨ao, cap, _, _, _, _, h4⟩ := h
  intro j hj
  obtain ⟨b, off, vb, vp, _, ho⟩ := h4 j hj
  exact ho.i1
theorem filesD_le {D : DS} {T : Nat} (h : Inv D T) : (filesD D).length ≤ T := by rw [length_filesD]; exact h.nam
theorem few_no {b : Bool} (h : b = false) : (!b) = true := by rw [h]; rfl
end Go.Proofs.YtdiaejphgcoknaaDoor
