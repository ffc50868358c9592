/- The disk in memory. -/
import Derived.Test.YtdiaejphgcoknaaGreatDoorDiskP
import Derived.Test.YtdiaejphgcoknaaGreatDoorErrs
set_option linter.unusedSimpArgs false
set_option linter.unusedVariables false
namespace Go.Proofs.YtdiaejphgcoknaaGreatDoor
open Go.RowKit

theorem length_flatR {g : Nat → List Value} {m : Nat} (hg : ∀ i, (g i).length = m) (n : Nat) : ((List.range n).flatMap g).length = n * m := by
  induction n with
  | zero => simp
  | succ n ih => rw [List.range_succ, List.flatMap_append, List.length_append, ih, List.flatMap_cons, List.flatMap_nil, List.append_nil, hg, Nat.succ_mul]
theorem flatR_at {g : Nat → List Value} {m : Nat} (hg : ∀ i, (g i).length = m) (n : Nat) {j c : Nat} (hj : j < n) (hc : c < m) : ((List.range n).flatMap g)[j * m + c]? = (g j)[c]? := by
  induction n with
  | zero => omega
  | succ n ih =>
    rw [List.range_succ, List.flatMap_append, List.flatMap_cons, List.flatMap_nil, List.append_nil]
    have hl := length_flatR hg n
    rcases Nat.lt_or_ge j n with h | h
    · rw [List.getElem?_append_left (by rw [hl]; exact Nat.lt_of_lt_of_le (show j * m + c < (j + 1) * m by rw [Nat.succ_mul]; omega) (Nat.mul_le_mul_right m h))]
      exact ih h
    · obtain rfl : j = n := by omega
      rw [List.getElem?_append_right (by rw [hl]; omega), hl, Nat.add_sub_cancel_left]
theorem flatR_congr {g h : Nat → List Value} {n : Nat} (he : ∀ j, j < n → g j = h j) : (List.range n).flatMap g = (List.range n).flatMap h := by
  rw [List.flatMap_def, List.flatMap_def]
  congr 1
  exact List.map_congr_left fun j hj => he j (by simpa using hj)
theorem flatR_set {g h : Nat → List Value} {m n i c : Nat} {u : Value} (hg : ∀ i, (g i).length = m) (hh : ∀ i, (h i).length = m) (hi : i < n) (hc : c < m) (hs : h i = (g i).set c u) (ho : ∀ j, j ≠ i → h j = g j) :
    ((List.range n).flatMap g).set (i * m + c) u = (List.range n).flatMap h := by
  refine List.ext_getElem? fun k => ?_
  rw [List.getElem?_set]
  have hm : 0 < m := by omega
  have hk := Nat.div_add_mod k m
  have hr := Nat.mod_lt k hm
  have e : k = k / m * m + k % m := by rw [Nat.mul_comm]; exact hk.symm
  have hl : i * m + c < n * m := Nat.lt_of_lt_of_le (show i * m + c < (i + 1) * m by rw [Nat.succ_mul]; omega) (Nat.mul_le_mul_right m hi)
  by_cases hkn : k / m < n
  · have a1 := flatR_at hg n hkn hr
    have a2 := flatR_at hh n hkn hr
    rw [← e] at a1 a2
    by_cases hq : k / m = i
    · by_cases hq2 : k % m = c
      · have : i * m + c = k := by rw [e, hq, hq2]
        rw [if_pos this, if_pos (by rw [length_flatR hg]; omega), a2, hq, hq2, hs]
        rw [List.getElem?_set]; simp [hg i, hc]
      · have : i * m + c ≠ k := by rw [e, hq]; omega
        rw [if_neg this, a1, a2, hq, hs, List.getElem?_set, if_neg (fun e => hq2 e.symm)]
    · have : i * m + c ≠ k := by
        intro e2
        apply hq
        rw [← e2, Nat.mul_comm, Nat.mul_add_div hm, Nat.div_eq_of_lt hc, Nat.add_zero]
      rw [if_neg this, a1, a2, ho _ hq]
  · have hkm : n * m ≤ k := by
      have h1 : n * m ≤ k / m * m := Nat.mul_le_mul_right m (by omega)
      omega
    rw [if_neg (by omega), List.getElem?_eq_none (by rw [length_flatR hg]; exact hkm), List.getElem?_eq_none (by rw [length_flatR hh]; exact hkm)]

def bcells (b : Bs) : List Value := b.map fun x => .int .u8 (x.toNat : Int)
def filec (fs : List DF) (fv : List Value) (j : Nat) : List Value := [fv.getD j .nilIface, .int .i64 ((fs.getD j DF.nought).safe : Int)]
def filecells (fs : List DF) (fv : List Value) : List Value := (List.range fs.length).flatMap (filec fs fv)
def stepc (l : List Stp) (j : Nat) : List Value := [.int .i64 ((l.getD j ⟨0, [], [], 0⟩).kind : Int), .string ⟨(l.getD j ⟨0, [], [], 0⟩).name.toArray⟩, .string ⟨(l.getD j ⟨0, [], [], 0⟩).to.toArray⟩, .int .i64 ((l.getD j ⟨0, [], [], 0⟩).file : Int)]
def stepcells (l : List Stp) : List Value := (List.range l.length).flatMap (stepc l)
/-- Where a disk's parts lie. -/
structure Lay where
  va : Value
  vs : Value
  bn : Nat
  bs : Nat
  fv : List Value
def Lay.at (L : Lay) (j : Nat) : Value := L.fv.getD j .nilIface
def dcells (L : Lay) (D : DS) : Array Value := #[.int .i64 D.room, L.va, .map (some L.bn), .map (some L.bs), L.vs, .int .i64 D.armed, .bool D.down, .int .i64 D.done]
def Lay.has (L : Lay) (p : Nat) (k : Nat) : Prop := k = p ∨ L.va.ownBlock = some k ∨ L.vs.ownBlock = some k ∨ k = L.bn ∨ k = L.bs ∨ ∃ j, j < L.fv.length ∧ (L.at j).ownBlock = some k
structure DP (w : World) (p : Nat) (L : Lay) (D : DS) : Prop where
  blk : Blk w p (dcells L D) 62
  all : w.ownsRow 0 68 2 L.va D.all.length (filecells D.all L.fv)
  len : L.fv.length = D.all.length
  dat : ∀ j, j < D.all.length → w.ownsRow 0 5 1 (L.at j) (D.file j).data.length (bcells (D.file j).data)
  apart : ∀ i j k, i < D.all.length → j < D.all.length → i ≠ j → (L.at i).ownBlock = some k → (L.at j).ownBlock ≠ some k
  nam : NamesAt w L.bn D.names
  saf : NamesAt w L.bs D.safe
  ne : L.bn ≠ L.bs
  stp : w.ownsRow 0 73 4 L.vs D.steps.length (stepcells D.steps)
/-- A disk lies at p, all of it in blocks of F. -/
def DiskAt (w : World) (F : Nat → Prop) (p : Nat) (D : DS) : Prop := ∃ L, DP w p L D ∧ ∀ k, L.has p k → F k
/-- Blocks out of F stay as they are. -/
structure Keep (F : Nat → Prop) (w w' : World) : Prop where
  os : w'.os = w.os
  tape : w'.tape = w.tape
  output : w'.output = w.output
  size : w.heap.size ≤ w'.heap.size
  block : ∀ k, k < w.heap.size → ¬ F k → w'.heap[k]? = w.heap[k]?
theorem Keep.refl (F : Nat → Prop) (w : World) : Keep F w w := ⟨rfl, rfl, rfl, Nat.le_refl _, fun _ _ _ => rfl⟩
theorem Keep.of_below {F : Nat → Prop} {w w' : World} (h : Below w.heap.size w w') : Keep F w w' := ⟨h.os, h.tape, h.output, h.size, fun k hk _ => h.block k hk⟩
theorem Keep.below {F : Nat → Prop} {B : Nat} {w w' : World} (h : Keep F w w') (hF : ∀ k, F k → B ≤ k) (hB : B ≤ w.heap.size) : Below B w w' :=
  ⟨h.os, h.tape, h.output, h.size, fun k hk => h.block k (Nat.lt_of_lt_of_le hk hB) fun hf => absurd (hF k hf) (by omega)⟩
theorem Keep.mono {F G : Nat → Prop} {w w' : World} (h : Keep F w w') (hG : ∀ k, k < w.heap.size → F k → G k) : Keep G w w' := ⟨h.os, h.tape, h.output, h.size, fun k hk hn => h.block k hk fun hf => hn (hG k hk hf)⟩
theorem Keep.trans {F : Nat → Prop} {a b c : World} (h : Keep F a b) (k : Keep F b c) : Keep F a c :=
  ⟨k.os.trans h.os, k.tape.trans h.tape, k.output.trans h.output, Nat.le_trans h.size k.size, fun i hi hn => (k.block i (Nat.lt_of_lt_of_le hi h.size) hn).trans (h.block i hi hn)⟩
theorem Keep.grown {w w' : World} {row : Option Nat} {F : Nat → Prop} (h : w.grownBy w' row) (hF : ∀ k, row = some k → F k) : Keep F w w' :=
  ⟨h.os, h.tape, h.output, h.size, fun k hk hn => h.block k hk fun e => hn (hF k e.symm)⟩
/-- F, and what was made from w to w'. -/
def Grow (F : Nat → Prop) (w w' : World) (k : Nat) : Prop := F k ∨ (w.heap.size ≤ k ∧ k < w'.heap.size)

/-! blocks of different kinds are different blocks -/
theorem blk_row {w : World} {b B T T' sz n : Nat} {v : Value} {cs : Array Value} {xs : List Value} (h : Blk w b cs T) (h' : w.ownsRow B T' sz v n xs) (hT : T ≠ T') : v.ownBlock ≠ some b := by
  rcases h'.2 with ⟨rfl, _⟩ | ⟨g, cap, cur, rfl, _, hg, _⟩
  · simp [Value.ownBlock]
  · intro e
    simp only [Value.ownBlock, Option.some.injEq] at e
    subst e
    unfold Blk at h
    rw [h] at hg
    simp only [Option.some.injEq, Obj.cells.injEq] at hg
    exact hT hg.2.1
theorem map_row {w : World} {b B T sz n : Nat} {v : Value} {m : NM} {xs : List Value} (h : NamesAt w b m) (h' : w.ownsRow B T sz v n xs) : v.ownBlock ≠ some b := by
  rcases h'.2 with ⟨rfl, _⟩ | ⟨g, cap, cur, rfl, _, hg, _⟩
  · simp [Value.ownBlock]
  · intro e
    simp only [Value.ownBlock, Option.some.injEq] at e
    subst e
    obtain ⟨es, clock, hb, _⟩ := h
    rw [hb] at hg; cases hg
theorem map_blk {w : World} {b p T : Nat} {cs : Array Value} {m : NM} (h : NamesAt w b m) (h' : Blk w p cs T) : b ≠ p := by
  intro e; subst e
  obtain ⟨es, clock, hb, _⟩ := h
  unfold Blk at h'
  rw [hb] at h'; cases h'
theorem row_lt {w : World} {B T sz n k : Nat} {v : Value} {xs : List Value} (h : w.ownsRow B T sz v n xs) (hk : v.ownBlock = some k) : k < w.heap.size := (h.lt k hk).2
theorem DP.lt {w : World} {p : Nat} {L : Lay} {D : DS} (h : DP w p L D) {k : Nat} (hk : L.has p k) : k < w.heap.size := by
  rcases hk with rfl | hk | hk | rfl | rfl | ⟨j, hj, hk⟩
  · exact h.blk.lt
  · exact row_lt h.all hk
  · exact row_lt h.stp hk
  · exact h.nam.lt
  · exact h.saf.lt
  · exact row_lt (h.dat j (by rw [← h.len]; exact hj)) hk
theorem row_of_block {w w' : World} {B T sz n : Nat} {v : Value} {xs : List Value} (h : w.ownsRow B T sz v n xs) (hb : ∀ k, v.ownBlock = some k → w'.heap[k]? = w.heap[k]?) : w'.ownsRow B T sz v n xs := by
  obtain ⟨hl, h | ⟨g, cap, cur, rfl, hB, hg, hrest⟩⟩ := h
  · exact ⟨hl, .inl h⟩
  · exact ⟨hl, .inr ⟨g, cap, cur, rfl, hB, by rw [hb g rfl]; exact hg, hrest⟩⟩
theorem Blk.of_block {w w' : World} {b : Nat} {cs : Array Value} {T : Nat} (h : Blk w b cs T) (hb : w'.heap[b]? = w.heap[b]?) : Blk w' b cs T := by
  unfold Blk at *; rw [hb]; exact h
/-- Where all its blocks stay the disk stays. -/
theorem DP.stays {w w' : World} {p : Nat} {L : Lay} {D : DS} (h : DP w p L D) (hb : ∀ k, L.has p k → w'.heap[k]? = w.heap[k]?) : DP w' p L D where
  blk := h.blk.of_block (hb p (.inl rfl))
  all := row_of_block h.all fun k hk => hb k (.inr (.inl hk))
  len := h.len
  dat := fun j hj => row_of_block (h.dat j hj) fun k hk => hb k (.inr (.inr (.inr (.inr (.inr ⟨j, by rw [h.len]; exact hj, hk⟩)))))
  apart := h.apart
  nam := h.nam.ext (hb _ (.inr (.inr (.inr (.inl rfl)))))
  saf := h.saf.ext (hb _ (.inr (.inr (.inr (.inr (.inl rfl))))))
  ne := h.ne
  stp := row_of_block h.stp fun k hk => hb k (.inr (.inr (.inl hk)))
theorem DiskAt.ext {w w' : World} {F : Nat → Prop} {p : Nat} {D : DS} (h : DiskAt w F p D) (hb : Below w.heap.size w w') : DiskAt w' F p D := by
  obtain ⟨L, h1, h2⟩ := h
  exact ⟨L, h1.stays fun k hk => hb.block k (h1.lt hk), h2⟩
theorem DiskAt.mono {w : World} {F G : Nat → Prop} {p : Nat} {D : DS} (h : DiskAt w F p D) (hG : ∀ k, k < w.heap.size → F k → G k) : DiskAt w G p D := by
  obtain ⟨L, h1, h2⟩ := h
  exact ⟨L, h1, fun k hk => hG k (h1.lt hk) (h2 k hk)⟩
/-- A disk that another one's turning leaves alone. -/
theorem DiskAt.far {w w' : World} {F G : Nat → Prop} {p : Nat} {D : DS} (h : DiskAt w F p D) (hk : Keep G w w') (hd : ∀ k, F k → ¬ G k) : DiskAt w' F p D := by
  obtain ⟨L, h1, h2⟩ := h
  exact ⟨L, h1.stays fun k hk' => hk.block k (h1.lt hk') (hd k (h2 k hk')), h2⟩
end Go.Proofs.YtdiaejphgcoknaaGreatDoor
