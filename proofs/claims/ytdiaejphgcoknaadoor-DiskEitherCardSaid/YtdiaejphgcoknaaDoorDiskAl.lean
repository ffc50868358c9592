/- A disk that stands beside bytes that were read: operations, reading. -/
import Derived.Test.YtdiaejphgcoknaaDoorDiskAj
set_option linter.unusedSimpArgs false
set_option linter.unusedVariables false
namespace Go.Proofs.YtdiaejphgcoknaaDoor
open Go.RowKit Go.Extern.Stop Go.Stop Go.Extern

/-- What an operation leaves, and where its disk's blocks lie. -/
def StandNew (W : World) (p : Nat) (L : Lay) (D' : DS) (w w' : World) : Prop :=
  ∃ L', Stand W p L' D' w' ∧ Keep (L.has p) w w' ∧ ∀ k, L'.has p k → L.has p k ∨ w.heap.size ≤ k
/-- Bytes that are not the disk's. -/
structure Held (L : Lay) (p : Nat) (w : World) (v : Value) (b : Bs) : Prop where
  row : w.ownsRow 0 5 1 v b.length (bcells b)
  off : ∀ k, v.ownBlock = some k → ¬ L.has p k
section
variable {W : World} {p : Nat} {L : Lay} {D : DS} {w : World}
theorem Stand.opN (S : Stand W p L D w) {x : Int} {D' : DS} {e : Ending} {w' : World} (h : OpPost p L x D' w e w') : e = .returned (errV x) ∧ StandNew W p L D' w w' := by
  obtain ⟨he, L', h1, h2, h3⟩ := h
  exact ⟨he, L', S.keep h1 h2 h3, h3, h2⟩
theorem Stand.actN (S : Stand W p L D w) {o : OpP} {vb vp : Value} {T b c : Nat} (hI : Inv D T) (hT : T ≤ 100000) (ho : OpAt W b c o vb vp) :
    Calls Tryd.prog 14 #[.pointer (some ⟨p, 0, none⟩), opV o vb vp] w fun e w' => e = .returned (errV (actE D o)) ∧ StandNew W p L (actD D o) w w' :=
  (actop_any p L D o vb vp T w S.dp hI hT ho.ln ho.lt (ho.ext S.below).bytes fun w' hk => (ho.ext (S.below.trans (hk.below S.own S.size))).ints).mono fun e w' h => S.opN h
theorem Stand.crashN (S : Stand W p L D w) {picks : List Int} {u : Value} {T : Nat} (hI : Inv D T) (hT : T ≤ 100000) (hu : Ints W u picks) :
    Calls Tryd.prog 19 #[.pointer (some ⟨p, 0, none⟩), u] w fun e w' => e = .returned (.tuple #[]) ∧ StandNew W p L (crashD D picks) w w' :=
  (crash_any p L D picks u T w S.dp hI hT fun w' hk => hu.ext (S.below.trans (hk.below S.own S.size))).mono fun e w' ⟨he, L', h1, h2, h3⟩ => ⟨he, L', S.keep h1 h2 h3, h3, h2⟩
theorem Stand.sync (S : Stand W p L D w) {a : Bs} {T : Nat} (hI : Inv D T) (hT : T ≤ 100000) (ha : a.length ≤ maxLen) :
    Calls Tryd.prog 20 #[.pointer (some ⟨p, 0, none⟩), .string ⟨a.toArray⟩] w fun e w' => e = .returned (errV (syncE D a)) ∧ StandNew W p L (syncD D a) w w' :=
  (sync_any p L D a T w S.dp hI hT ha).mono fun e w' h => S.opN h
theorem Stand.sdir (S : Stand W p L D w) {T : Nat} (hI : Inv D T) (hT : T ≤ 100000) :
    Calls Tryd.prog 21 #[.pointer (some ⟨p, 0, none⟩)] w fun e w' => e = .returned (errV (sdirE D)) ∧ StandNew W p L (sdirD D) w w' :=
  (syncdir_any p L D T w S.dp hI hT).mono fun e w' h => S.opN h
theorem Held.ext {v : Value} {b : Bs} {w' : World} (h : Held L p w v b) (hb : Below w.heap.size w w') : Held L p w' v b := ⟨row_ext h.row hb, h.off⟩
theorem Held.keep {v : Value} {b : Bs} {w' : World} {L' : Lay} (h : Held L p w v b) (hk : Keep (L.has p) w w') (hL : ∀ k, L'.has p k → L.has p k ∨ w.heap.size ≤ k) : Held L' p w' v b :=
  ⟨row_of_block h.row fun k e => hk.block k (h.row.lt k e).2 (h.off k e), fun k e hh => by
    rcases hL k hh with h1 | h1
    · exact h.off k e h1
    · have := (h.row.lt k e).2; omega⟩
theorem Stand.read (S : Stand W p L D w) {a : Bs} {T : Nat} (hI : Inv D T) (hT : T ≤ 100000) (ha : a.length ≤ maxLen) :
    Calls Tryd.prog 22 #[.pointer (some ⟨p, 0, none⟩), .string ⟨a.toArray⟩] w fun e w' => ∃ ao cap, e = .returned (.tuple #[.slice ao (readV D a).length cap, errV (readE D a)]) ∧ (readV D a).length ≤ cap ∧ Held L p w' (.slice ao (readV D a).length cap) (readV D a) ∧ Stand W p L D w' ∧ Below w.heap.size w w' :=
  (read_any p L D a T w S.dp hI hT ha).mono fun e w' ⟨v, he, ho, hb⟩ => by
    have hc : ∃ ao cap, v = .slice ao (readV D a).length cap ∧ (readV D a).length ≤ cap := by
      rcases row_head ho with ⟨e, h0⟩ | ⟨g, cap, e, -, -, hc, -⟩
      · exact ⟨none, 0, by rw [e, h0], by omega⟩
      · exact ⟨_, cap, e, hc⟩
    obtain ⟨ao, cap, rfl, hc⟩ := hc
    exact ⟨ao, cap, he, hc, ⟨row_mono ho (Nat.zero_le _), fun k e hh => by have := (ho.lt k e).1; have := S.dp.lt hh; omega⟩, S.ext hb, hb⟩
theorem Held.bytes {v : Value} {b : Bs} (h : Held L p w v b) : BytesV w v b := bytes_of_row h.row
end
end Go.Proofs.YtdiaejphgcoknaaDoor
