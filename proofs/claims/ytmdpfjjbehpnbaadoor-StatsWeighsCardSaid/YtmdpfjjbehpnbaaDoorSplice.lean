/- copy into a row of the call's own as one step of a region that draws its order: what it leaves of the other blocks too. -/
import Derived.Test.YtmdpfjjbehpnbaaDoorStep
import Derived.Test.YtmdpfjjbehpnbaaDoorPlaneP
import Derived.Laws.CopyOwn
set_option linter.unusedSimpArgs false
set_option linter.unusedVariables false
namespace Go.Proofs.YtmdpfjjbehpnbaaDoor
open Go.RowKit

/-- 'copy' into block g, some cells of it: block g is known behind it, and all others. -/
theorem step_copy_row {P : Program} {ops : Array Oper} {o : Oper} {a : Act} {w : World} {K : Act → World → Prop} {Q : Exit → Act → World → Prop} {E : Prop} (hgd : o.guard = none) (d s : Operand) (T : TypeId)
    (ho : o.op = .call { callee := .builtin .copy, args := #[d, s], argTypes := #[T, T] }) (elem : TypeId) (hu : P.underlying T = some (.slice elem)) (hsz : (P.info? elem).map (·.size) = some 1)
    (g off dLen dCap : Nat) (ad : Addr) (sLen sCap : Nat) (hd : a.eval d = .slice (some ⟨g, off, none⟩) dLen dCap) (hs : a.eval s = .slice (some ad) sLen sCap)
    (cur : List Value) (t : TypeId) (hg : w.heap[g]? = some (.cells cur.toArray t (0, 0))) (cs : List Value) (hn : cs.length = Nat.min sLen dLen)
    (hsrc : ∀ j v, cs[j]? = some v → w.cell? (ad.add j) = some v) (hfit : off + cs.length ≤ cur.length) (h1 : ∀ v ∈ cs, v.oneCell' = true)
    (h : ∀ w', Hid (w'.heap[g]? = some (.cells (splice cur off cs).toArray t (0, 0)) ∧ (∀ k, k ≠ g → w'.heap[k]? = w.heap[k]?) ∧ Below g w w') → K (a.put o.dst (goInt cs.length)) w') :
    if Region.wanted o (yielded ops a.tmps) = true then Oper.wp P o a w K Q else E := by
  have hw : Region.wanted o (yielded ops a.tmps) = true := by simp [Region.wanted, hgd]
  rw [if_pos hw]
  have hrun := run_copy_row (P := P) w T T o.type elem g off dLen dCap ad sLen sCap cur.toArray t cs hu hsz hg hn hsrc (by simpa using hfit) h1
  unfold Oper.wp
  simp [execOp, ho, resolve, invoke, builtin, hd, hs, hrun, Result.andThen]
  exact h _ ⟨by simpa [splice] using setRow_heap w g _ _ t _ hg, fun k hk => setRow_other w g k _ hk, below_setRow (Below.refl _ _) (Nat.le_refl _) _⟩

theorem splice_nil {α : Type} (L : List α) (off : Nat) : splice L off [] = L := by simp [splice]
theorem splice_snoc {α : Type} (L : List α) (off : Nat) (cs : List α) (c : α) (h : off + cs.length < L.length) : splice L off (cs ++ [c]) = (splice L off cs).set (off + cs.length) c := by
  unfold splice
  rw [List.set_append_right _ _ (by rw [List.length_take]; omega), List.length_take, Nat.min_eq_left (by omega), Nat.add_sub_cancel_left, List.set_append_right _ _ (Nat.le_refl _), Nat.sub_self, List.length_append, List.length_singleton, ← Nat.add_assoc]
  generalize hq : off + cs.length = q at *
  rw [show L.drop q = L[q] :: L.drop (q + 1) from List.drop_eq_getElem_cons h, List.set_cons_zero, List.append_assoc cs]
  rfl
theorem splice_take {α : Type} (L : List α) (off : Nat) (cs : List α) {n : Nat} (hn : n ≤ L.length) (h : off + cs.length ≤ n) : (splice L off cs).take n = splice (L.take n) off cs := by
  unfold splice
  have h1 : (L.take off).length = off := by rw [List.length_take]; omega
  have h2 : (L.take off).take n = (L.take n).take off := by rw [List.take_take, List.take_take, Nat.min_comm]
  rw [List.take_append, List.take_append, h1, h2, List.take_of_length_le (l := cs) (by omega), List.drop_take, Nat.sub_sub]
theorem splice_map {α β : Type} (f : α → β) (L : List α) (off : Nat) (cs : List α) : (splice L off cs).map f = splice (L.map f) off (cs.map f) := by
  simp [splice, List.map_take, List.map_drop]
theorem mem_splice {α : Type} {L : List α} {off : Nat} {cs : List α} {x : α} (h : x ∈ splice L off cs) : x ∈ L ∨ x ∈ cs := by
  unfold splice at h
  simp only [List.mem_append] at h
  rcases h with h | h | h
  · exact .inl (List.mem_of_mem_take h)
  · exact .inr h
  · exact .inl (List.mem_of_mem_drop h)
/-- A row of the call's own, whole, and what a copy into it makes of it. -/
theorem OwnInts.row {w : World} {B g n cap : Nat} {xs : List Int} (h : OwnInts w B (.slice (some ⟨g, 0, none⟩) n cap) xs) :
    ∃ cur : List Value, w.heap[g]? = some (.cells cur.toArray 3 (0, 0)) ∧ xs.length ≤ cur.length ∧
      ∀ (off : Nat) (ys : List Int) (w' : World), off + ys.length ≤ xs.length → (∀ y ∈ ys, Proofs.YtmdpfjjbehpnbaaDoor.in64 y) → w'.heap[g]? = some (.cells (splice cur off (ys.map (Value.int .i64))).toArray 3 (0, 0)) →
        OwnInts w' B (.slice (some ⟨g, 0, none⟩) n cap) (splice xs off ys) := by
  have hn : n = xs.length := h.at.1
  subst hn
  obtain ⟨⟨hl, h | ⟨g', cap', cur, e, hb, hg, hnc, hm, hs, ht⟩⟩, hin⟩ := h
  · cases h.1
  · simp only [Value.slice.injEq, Option.some.injEq, Addr.mk.injEq] at e
    obtain ⟨⟨rfl, -, -⟩, -, rfl⟩ := e
    simp only [Nat.mul_one] at *
    have hcl : cur.toList.length = cap := by simpa using hs
    refine ⟨cur.toList, by simpa using hg, by omega, fun off ys w' ho hy hw => ?_⟩
    have hlen : (splice xs off ys).length = xs.length := length_splice xs off ys ho
    refine ⟨⟨?_, .inr ⟨g, cap, _, ?_, hb, hw, ?_, hm, ?_, ?_⟩⟩, ?_⟩
    · rw [List.length_map, hlen, Nat.mul_one]
    · rw [hlen]
    · rw [hlen]; exact hnc
    · have := length_splice cur.toList off (ys.map (Value.int .i64)) (by rw [List.length_map]; omega)
      simp only [List.size_toArray, this, Nat.mul_one]; exact hcl
    · rw [hlen, Nat.mul_one]
      rw [show (splice cur.toList off (ys.map (Value.int .i64))).toArray.toList = splice cur.toList off (ys.map (Value.int .i64)) from by simp]
      rw [splice_take _ _ _ (by omega) (by rw [List.length_map]; exact ho), ht, splice_map]
    · intro z hz
      rcases mem_splice hz with hz | hz
      · exact hin z hz
      · exact hy z hz
/-- A row of a square, laid at once. -/
theorem lay_row {W x y n j : Nat} {b pix : List Int} (hx : x + n ≤ W) (hn : 0 < n) (hj : j < n) (hb : n * n ≤ b.length) (hs : ∀ k, k < n * n → spot W x y n k < pix.length) :
    splice (layTo W x y n (j * n) b pix) ((y + j) * W + x) ((b.drop (j * n)).take n) = layTo W x y n ((j + 1) * n) b pix := by
  have key : ∀ m, m ≤ n → splice (layTo W x y n (j * n) b pix) ((y + j) * W + x) ((b.drop (j * n)).take m) = layTo W x y n (j * n + m) b pix := by
    intro m hm
    have hjn : j * n + n ≤ n * n := by rw [← Nat.succ_mul]; exact Nat.mul_le_mul_right _ hj
    induction m with
    | zero => rw [List.take_zero, splice_nil]; rfl
    | succ m ih =>
      have hk : j * n + m < n * n := by omega
      have hsm := mulmod (n := n) (j := j) (i := m) (by omega)
      have hsp : spot W x y n (j * n + m) = (y + j) * W + x + m := by unfold spot; rw [hsm.1, hsm.2]; omega
      have hlt := hs _ hk
      have hl : ((b.drop (j * n)).take m).length = m := by rw [List.length_take, List.length_drop]; omega
      have hb2 : j * n + m < b.length := by omega
      have hte : (b.drop (j * n)).take (m + 1) = (b.drop (j * n)).take m ++ [b.getD (j * n + m) 0] := by
        rw [List.take_add_one, List.getElem?_drop, List.getElem?_eq_getElem hb2, List.getD_eq_getElem?_getD, List.getElem?_eq_getElem hb2]
        rfl
      rw [hte, splice_snoc _ _ _ _ (by rw [hl, length_layTo, ← hsp]; exact hlt), ih (by omega), hl, ← hsp]
      exact (layTo_succ hx hn hk hlt).symm
  rw [key n (Nat.le_refl _), Nat.succ_mul]
end Go.Proofs.YtmdpfjjbehpnbaaDoor
