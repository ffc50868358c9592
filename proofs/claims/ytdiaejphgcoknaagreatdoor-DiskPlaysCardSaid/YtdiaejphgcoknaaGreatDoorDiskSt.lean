/- A disk that stands, as the laws carry it; strings and bytes as arguments. -/
import Derived.Test.YtdiaejphgcoknaaGreatDoorDiskAg
import Derived.Test.YtdiaejphgcoknaaGreatDoorDiskAc
import Derived.Test.YtdiaejphgcoknaaGreatDoorDiskAb
import Derived.ChangeMaps5
set_option linter.unusedSimpArgs false
set_option linter.unusedVariables false
namespace Go.Proofs.YtdiaejphgcoknaaGreatDoor
section
open Go.RowKit Go.Extern.Stop Go.Stop Go.Extern
section
variable {W : World} {p : Nat} {L : Lay} {D : DS} {w : World}
theorem Stand.act (S : Stand W p L D w) {o : OpP} {vb vp : Value} {T b c : Nat} (hI : Inv D T) (hT : T ≤ 100000) (ho : OpAt W b c o vb vp) :
    Calls Tryz.prog 8 #[.pointer (some ⟨p, 0, none⟩), opV o vb vp] w (StandPost W p L (actE D o) (actD D o) w) :=
  (actop_any p L D o vb vp T w S.dp hI hT ho.ln ho.lt (ho.ext S.below).bytes fun w' hk => (ho.ext (S.below.trans (hk.below S.own S.size))).ints).mono fun e w' h => S.op h
theorem Stand.files (S : Stand W p L D w) {T : Nat} (hI : Inv D T) (hT : T ≤ 100000) :
    Calls Tryz.prog 10 #[.pointer (some ⟨p, 0, none⟩)] w fun e w' => ∃ ao cap, e = .returned (.slice ao (filesD D).length cap) ∧ OwnFs w' w.heap.size (.slice ao (filesD D).length cap) (filesD D) ∧ Stand W p L D w' ∧ Below w.heap.size w w' :=
  (files_any p L D T w S.dp hI hT).mono fun e w' ⟨v, he, ho, hb⟩ => by
    obtain ⟨ao, cap, rfl⟩ := ho.shapeN rfl
    exact ⟨ao, cap, he, ho, S.ext hb, hb⟩
theorem Stand.types (S : Stand W p L D w) (hg : TypeIs W) : TypeIs w := hg.ext S.below
/-- Files told ahead of an operation are there behind it. -/
theorem OwnFs.past {w0 w1 w2 : World} {v : Value} {fs : List FV} (h : OwnFs w1 w0.heap.size v fs) (h0 : DP w0 p L D) (hk : Keep (L.has p) w1 w2) : OwnFs w2 w0.heap.size v fs :=
  h.far hk fun k hk1 _ hh => by have := h0.lt hh; omega
end
theorem Inv.acts {r : Int} (hr : 0 ≤ r ∧ r ≤ 16777216) {l : List OpP} (hl : ∀ j, j < l.length → in64 (l.getD j OpP.nought).n) : ∀ k, k ≤ l.length → Inv (actsD (newD r) (l.take k)) (3 * k)
  | 0, _ => Inv.new hr
  | k + 1, h => by
    have e : actsD (newD r) (l.take (k + 1)) = actD (actsD (newD r) (l.take k)) (l.getD k OpP.nought) := by
      unfold actsD
      rw [take_app l OpP.nought (by omega), List.foldl_append]; rfl
    rw [e]
    exact ((Inv.acts hr hl k (by omega)).act _ (hl k (by omega))).mono (by omega)
theorem actsD_succ (D : DS) {l : List OpP} {k : Nat} (h : k < l.length) : actsD D (l.take (k + 1)) = actD (actsD D (l.take k)) (l.getD k OpP.nought) := by
  unfold actsD
  rw [take_app l OpP.nought h, List.foldl_append]; rfl
theorem OpsV.in64 {w : World} {v : Value} {l : List OpP} (h : OpsV w v l) : ∀ j, j < l.length → in64 (l.getD j OpP.nought).n := by
  obtain ⟨ao, cap, _, _, _, _, h4⟩ := h
  intro j hj
  obtain ⟨b, off, vb, vp, _, ho⟩ := h4 j hj
  exact ho.i1
theorem filesD_le {D : DS} {T : Nat} (h : Inv D T) : (filesD D).length ≤ T := by rw [length_filesD]; exact h.nam
theorem few_no {b : Bool} (h : b = false) : (!b) = true := by rw [h]; rfl
end

section
open Go.RowKit Go.Extern.Stop Go.Stop Go.Extern
section
variable {W : World} {p : Nat} {L : Lay} {D : DS} {w : World}
theorem Stand.crash (S : Stand W p L D w) {picks : List Int} {u : Value} {T : Nat} (hI : Inv D T) (hT : T ≤ 100000) (hu : Ints W u picks) :
    Calls Tryz.prog 18 #[.pointer (some ⟨p, 0, none⟩), u] w fun e w' => e = .returned (.tuple #[]) ∧ ∃ L', Stand W p L' (crashD D picks) w' ∧ Keep (L.has p) w w' :=
  (crash_any p L D picks u T w S.dp hI hT fun w' hk => hu.ext (S.below.trans (hk.below S.own S.size))).mono fun e w' ⟨he, L', h1, h2, h3⟩ => ⟨he, L', S.keep h1 h2 h3, h3⟩
theorem Stand.arm (S : Stand W p L D w) (n : Int) :
    Calls Tryz.prog 27 #[.pointer (some ⟨p, 0, none⟩), .int .i64 n] w fun e w' => e = .returned (.tuple #[]) ∧ Stand W p L (armD D n) w' :=
  (arm_any p L D n w S.dp).mono fun e w' ⟨he, h1, h3⟩ => ⟨he, S.keep h1 (fun _ hk => .inl hk) (Keep.self h3)⟩
end
end

section
open Go.RowKit Go.Extern.Stop Go.Stop Go.Extern
/-- What an operation leaves, and where its disk's blocks lie. -/
def StandNew (W : World) (p : Nat) (L : Lay) (D' : DS) (w w' : World) : Prop :=
  ∃ L', Stand W p L' D' w' ∧ Keep (L.has p) w w' ∧ ∀ k, L'.has p k → L.has p k ∨ w.heap.size ≤ k
/-- Bytes that are not the disk's. -/
structure Held (L : Lay) (p : Nat) (w : World) (v : Value) (b : Bs) : Prop where
  row : w.ownsRow 0 5 1 v b.length (bcells b)
  off : ∀ k, v.ownBlock = some k → ¬ L.has p k
section
variable {W : World} {p : Nat} {L : Lay} {D : DS} {w : World}
theorem Stand.opN (S : Stand W p L D w) {x : Int} {D' : DS} {e : Ending} {w' : World} (h : OpPost p L x D' w e w') : e = .returned (errV x) ∧ StandNew W p L D' w w' := by
  obtain ⟨he, L', h1, h2, h3⟩ := h
  exact ⟨he, L', S.keep h1 h2 h3, h3, h2⟩
theorem Stand.actN (S : Stand W p L D w) {o : OpP} {vb vp : Value} {T b c : Nat} (hI : Inv D T) (hT : T ≤ 100000) (ho : OpAt W b c o vb vp) :
    Calls Tryz.prog 8 #[.pointer (some ⟨p, 0, none⟩), opV o vb vp] w fun e w' => e = .returned (errV (actE D o)) ∧ StandNew W p L (actD D o) w w' :=
  (actop_any p L D o vb vp T w S.dp hI hT ho.ln ho.lt (ho.ext S.below).bytes fun w' hk => (ho.ext (S.below.trans (hk.below S.own S.size))).ints).mono fun e w' h => S.opN h
theorem Stand.crashN (S : Stand W p L D w) {picks : List Int} {u : Value} {T : Nat} (hI : Inv D T) (hT : T ≤ 100000) (hu : Ints W u picks) :
    Calls Tryz.prog 18 #[.pointer (some ⟨p, 0, none⟩), u] w fun e w' => e = .returned (.tuple #[]) ∧ StandNew W p L (crashD D picks) w w' :=
  (crash_any p L D picks u T w S.dp hI hT fun w' hk => hu.ext (S.below.trans (hk.below S.own S.size))).mono fun e w' ⟨he, L', h1, h2, h3⟩ => ⟨he, L', S.keep h1 h2 h3, h3, h2⟩
theorem Stand.sync (S : Stand W p L D w) {a : Bs} {T : Nat} (hI : Inv D T) (hT : T ≤ 100000) (ha : a.length ≤ maxLen) :
    Calls Tryz.prog 23 #[.pointer (some ⟨p, 0, none⟩), .string ⟨a.toArray⟩] w fun e w' => e = .returned (errV (syncE D a)) ∧ StandNew W p L (syncD D a) w w' :=
  (sync_any p L D a T w S.dp hI hT ha).mono fun e w' h => S.opN h
theorem Stand.sdir (S : Stand W p L D w) {T : Nat} (hI : Inv D T) (hT : T ≤ 100000) :
    Calls Tryz.prog 26 #[.pointer (some ⟨p, 0, none⟩)] w fun e w' => e = .returned (errV (sdirE D)) ∧ StandNew W p L (sdirD D) w w' :=
  (syncdir_any p L D T w S.dp hI hT).mono fun e w' h => S.opN h
theorem Held.ext {v : Value} {b : Bs} {w' : World} (h : Held L p w v b) (hb : Below w.heap.size w w') : Held L p w' v b := ⟨row_ext h.row hb, h.off⟩
theorem Held.keep {v : Value} {b : Bs} {w' : World} {L' : Lay} (h : Held L p w v b) (hk : Keep (L.has p) w w') (hL : ∀ k, L'.has p k → L.has p k ∨ w.heap.size ≤ k) : Held L' p w' v b :=
  ⟨row_of_block h.row fun k e => hk.block k (h.row.lt k e).2 (h.off k e), fun k e hh => by
    rcases hL k hh with h1 | h1
    · exact h.off k e h1
    · have := (h.row.lt k e).2; omega⟩
theorem Stand.read (S : Stand W p L D w) {a : Bs} {T : Nat} (hI : Inv D T) (hT : T ≤ 100000) (ha : a.length ≤ maxLen) :
    Calls Tryz.prog 44 #[.pointer (some ⟨p, 0, none⟩), .string ⟨a.toArray⟩] w fun e w' => ∃ ao cap, e = .returned (.tuple #[.slice ao (readV D a).length cap, errV (readE D a)]) ∧ (readV D a).length ≤ cap ∧ Held L p w' (.slice ao (readV D a).length cap) (readV D a) ∧ Stand W p L D w' ∧ Below w.heap.size w w' :=
  (read_any p L D a T w S.dp hI hT ha).mono fun e w' ⟨v, he, ho, hb⟩ => by
    have hc : ∃ ao cap, v = .slice ao (readV D a).length cap ∧ (readV D a).length ≤ cap := by
      rcases row_head ho with ⟨e, h0⟩ | ⟨g, cap, e, -, -, hc, -⟩
      · exact ⟨none, 0, by rw [e, h0], by omega⟩
      · exact ⟨_, cap, e, hc⟩
    obtain ⟨ao, cap, rfl, hc⟩ := hc
    exact ⟨ao, cap, he, hc, ⟨row_mono ho (Nat.zero_le _), fun k e hh => by have := (ho.lt k e).1; have := S.dp.lt hh; omega⟩, S.ext hb, hb⟩
theorem Held.bytes {v : Value} {b : Bs} (h : Held L p w v b) : BytesV w v b := bytes_of_row h.row
end
end

section
open Go.RowKit Go.ChangeShapes Go.WideShapes Go.Deep Go.ChangeMaps
set_option maxRecDepth 100000 in
theorem string_of_trod {Hd : Type} {enc : TypeId × Value → Hd} {W : World} {base : Nat} {v : Value} {d : DataW Hd} {p : List MemPlace} (hv : Value.okWide Tryz.prog W .any base 9 v)
    (h : DataW.Trod enc Tryz.prog W 0 (fun _ => true) true 9 v d p) : ∃ s : Bs, v = .string ⟨s.toArray⟩ ∧ s.length ≤ maxLen := by
  obtain ⟨s, hs1, _, _, hs⟩ := open_string Tryz.underlying9 hv h
  refine ⟨s.data.toList, hs1.trans (congrArg Value.string (by cases s; simp)), ?_⟩
  rw [Array.length_toList]; exact hs
set_option maxRecDepth 100000 in
theorem bytes_of_trod {Hd : Type} {enc : TypeId × Value → Hd} {W : World} {base : Nat} {v : Value} {d : DataW Hd} {p : List MemPlace} (hv : Value.okWide Tryz.prog W .any base 31 v)
    (h : DataW.Trod enc Tryz.prog W 0 (fun _ => true) true 31 v d p) : ∃ b, BytesV W v b := by
  obtain ⟨a0, len, cap, rfl⟩ := okWide_slice Tryz.underlying31 hv
  obtain ⟨fuel, hf⟩ := h
  exact bytes_of_cell (v := .slice a0 len cap) hf
end

section
open Go.RowKit Go.Extern.Stop Go.Stop Go.Extern
section
variable {W : World} {p : Nat} {L : Lay} {D : DS} {w : World}
theorem Stand.armN (S : Stand W p L D w) (n : Int) :
    Calls Tryz.prog 27 #[.pointer (some ⟨p, 0, none⟩), .int .i64 n] w fun e w' => e = .returned (.tuple #[]) ∧ StandNew W p L (armD D n) w w' :=
  (arm_any p L D n w S.dp).mono fun e w' ⟨he, h1, h3⟩ => ⟨he, L, S.keep h1 (fun _ hk => .inl hk) (Keep.self h3), Keep.self h3, fun _ hk => .inl hk⟩
theorem Stand.create (S : Stand W p L D w) {a : Bs} {T : Nat} (hI : Inv D T) (hT : T ≤ 100000) (ha : a.length ≤ maxLen) :
    Calls Tryz.prog 17 #[.pointer (some ⟨p, 0, none⟩), .string ⟨a.toArray⟩] w fun e w' => e = .returned (errV (goesE D (createE D a))) ∧ StandNew W p L (createD D a) w w' :=
  (create_any p L D a T w S.dp hI hT ha).mono fun e w' h => S.opN h
theorem Stand.append (S : Stand W p L D w) {a b : Bs} {u : Value} {T : Nat} (hI : Inv D T) (hT : T ≤ 100000) (ha : a.length ≤ maxLen) (hu : BytesV w u b) :
    Calls Tryz.prog 21 #[.pointer (some ⟨p, 0, none⟩), .string ⟨a.toArray⟩, u] w fun e w' => e = .returned (errV (appE D a b)) ∧ StandNew W p L (appD D a b) w w' :=
  (append_any p L D a u b T w S.dp hu hI hT ha).mono fun e w' h => S.opN h
theorem Stand.rename (S : Stand W p L D w) {a b : Bs} {T : Nat} (hI : Inv D T) (hT : T ≤ 100000) (ha : a.length ≤ maxLen) (hb : b.length ≤ maxLen) :
    Calls Tryz.prog 24 #[.pointer (some ⟨p, 0, none⟩), .string ⟨a.toArray⟩, .string ⟨b.toArray⟩] w fun e w' => e = .returned (errV (renE D a b)) ∧ StandNew W p L (renD D a b) w w' :=
  (rename_any p L D a b T w S.dp hI hT ha hb).mono fun e w' h => S.opN h
theorem Stand.remove (S : Stand W p L D w) {a : Bs} {T : Nat} (hI : Inv D T) (hT : T ≤ 100000) (ha : a.length ≤ maxLen) :
    Calls Tryz.prog 25 #[.pointer (some ⟨p, 0, none⟩), .string ⟨a.toArray⟩] w fun e w' => e = .returned (errV (remE D a)) ∧ StandNew W p L (remD D a) w w' :=
  (remove_any p L D a T w S.dp hI hT ha).mono fun e w' h => S.opN h
end
end
end Go.Proofs.YtdiaejphgcoknaaGreatDoor
