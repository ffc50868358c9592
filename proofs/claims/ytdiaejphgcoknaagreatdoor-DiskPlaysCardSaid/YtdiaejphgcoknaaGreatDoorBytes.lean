/- Bytes: read out of a slice; appended to a row of one's own. -/
import Derived.Test.YtdiaejphgcoknaaGreatDoorDiskU
import Derived.Maps.AppendAt
import Derived.Laws.AppendOwnNone
set_option linter.unusedSimpArgs false
set_option linter.unusedVariables false
namespace Go.Proofs.YtdiaejphgcoknaaGreatDoor
open Go.RowKit

/-- The slice v reads as the bytes b. -/
def BytesV (w : World) (v : Value) (b : Bs) : Prop :=
  ∃ (ao : Option Addr) (cap : Nat), v = .slice ao b.length cap ∧ b.length ≤ cap ∧ cap ≤ maxLen ∧ (ao = none → cap = 0) ∧
    ∀ j, j < b.length → ∃ k off, ao = some ⟨k, off, none⟩ ∧ w.cell? ⟨k, off + j, none⟩ = some (.int .u8 ((b.getD j 0).toNat : Int))
theorem BytesV.nil (w : World) : BytesV w (.slice none 0 0) [] := ⟨none, 0, rfl, by simp, by simp [maxLen], fun _ => rfl, fun j hj => by simp at hj⟩
theorem BytesV.ext {w w' : World} {v : Value} {b : Bs} (h : BytesV w v b) (hb : Below w.heap.size w w') : BytesV w' v b := by
  obtain ⟨ao, cap, rfl, h1, h2, h3, h4⟩ := h
  refine ⟨ao, cap, rfl, h1, h2, h3, fun j hj => ?_⟩
  obtain ⟨k, off, e, hc⟩ := h4 j hj
  exact ⟨k, off, e, (hb.cell (p := ⟨k, _, none⟩) (World.block_lt_of_cell? w _ hc)).trans hc⟩
theorem BytesV.shape {w : World} {v : Value} {b : Bs} (h : BytesV w v b) : ∃ ao cap, v = .slice ao b.length cap := by
  obtain ⟨ao, cap, e, _⟩ := h; exact ⟨ao, cap, e⟩
theorem BytesV.len {w : World} {v : Value} {b : Bs} (h : BytesV w v b) : b.length ≤ 9223372036854775807 := by
  obtain ⟨ao, cap, _, h1, h2, _⟩ := h; unfold maxLen at h2; omega
theorem length_bcells (b : Bs) : (bcells b).length = b.length := by simp [bcells]
theorem bcells_app (a b : Bs) : bcells (a ++ b) = bcells a ++ bcells b := by simp [bcells]
theorem bcells_at {b : Bs} {j : Nat} (h : j < b.length) : (bcells b)[j]? = some (.int .u8 ((b.getD j 0).toNat : Int)) := by simp [bcells, h, List.getD]
theorem bcells_one (b : Bs) : ∀ u ∈ bcells b, u.oneCell' = true := by
  intro u hu; unfold bcells at hu
  obtain ⟨x, -, rfl⟩ := List.mem_map.1 hu
  rfl
/-- A row of one's own reads as its bytes. -/
theorem bytes_of_row {w : World} {B : Nat} {v : Value} {b : Bs} (h : w.ownsRow B 5 1 v b.length (bcells b)) : BytesV w v b := by
  rcases row_head h with ⟨e, h0⟩ | ⟨g, cap, e, -, hlt, h1, h2, -⟩
  · obtain rfl := List.length_eq_zero_iff.1 h0
    rw [e]; exact BytesV.nil w
  · rw [e] at h ⊢
    exact ⟨_, cap, rfl, h1, h2, fun h => (by cases h), fun j hj => ⟨g, 0, rfl, by rw [Nat.zero_add]; exact row_cellAt h (bcells_at hj)⟩⟩
/-- The first half of it. -/
theorem BytesV.cut {w : World} {ao : Option Addr} {n cap : Nat} {b : Bs} (h : BytesV w (.slice ao n cap) b) {m : Nat} (hm : m ≤ n) : BytesV w (.slice ao m cap) (b.take m) := by
  obtain ⟨ao', cap', e, h1, h2, h3, h4⟩ := h
  simp only [Value.slice.injEq] at e
  obtain ⟨rfl, rfl, rfl⟩ := e
  have hl : (b.take m).length = m := by rw [List.length_take]; omega
  refine ⟨ao, cap, by rw [hl], by omega, h2, h3, fun j hj => ?_⟩
  obtain ⟨k, off, e, hc⟩ := h4 j (by omega)
  refine ⟨k, off, e, ?_⟩
  rw [hc]
  have : j < m := by omega
  simp [List.getD, List.getElem?_take, this]
theorem infoB : (Tryz.prog.info? 5).map (fun i => (i.zero, i.size, i.bytes)) = some (some (.int .u8 0), 1, 1) := by kernel_rfl
theorem wp_appB {o : Oper} {a : Act} {w : World} {K : Act → World → Prop} {Q : Exit → Act → World → Prop} (s x : Operand)
    (ho : o.op = .call { callee := .builtin .append, args := #[s, x], argTypes := #[31, 31] })
    (B : Nat) (v u : Value) (xs ys : Bs) (hs : a.eval s = v) (hown : w.ownsRow B 5 1 v xs.length (bcells xs)) (hx : a.eval x = u) (hu : BytesV w u ys) (hlen : xs.length + ys.length ≤ 1099511627776) (hB : B ≤ w.heap.size)
    (h : ∀ ao cap w', w'.ownsRow B 5 1 (.slice ao (xs.length + ys.length) cap) (xs ++ ys).length (bcells (xs ++ ys)) → w.grownBy w' v.ownBlock → ((Value.slice ao (xs.length + ys.length) cap).ownBlock = v.ownBlock ∨ (Value.slice ao (xs.length + ys.length) cap).ownBlock = some w.heap.size) → K (a.put o.dst (.slice ao (xs.length + ys.length) cap)) w') : o.wp Tryz.prog a w K Q := by
  obtain ⟨i0, hi, hz0, hz1, hz2⟩ := info_parts infoB
  obtain ⟨ao, cap, rfl, h1, h2, h3, h4⟩ := hu
  have hcell : ∀ ad, ao = some ad → ∀ (j : Nat) (u : Value), (bcells ys)[j]? = some u → w.cell? (ad.add j) = some u := by
    intro ad had j u hj
    have hj' : j < ys.length := by
      rcases Nat.lt_or_ge j ys.length with h | h
      · exact h
      · rw [List.getElem?_eq_none (by rw [length_bcells]; omega)] at hj; cases hj
    obtain ⟨b, off, e, hc⟩ := h4 j hj'
    rw [had] at e
    obtain rfl := Option.some.inj e
    rw [Go.WideShapes.add_plain, hc, ← bcells_at hj', hj]
  cases ao with
  | none =>
    have hl : ys.length = 0 := by
      rcases Nat.eq_zero_or_pos ys.length with h | h
      · exact h
      · obtain ⟨_, _, e, _⟩ := h4 0 h; cases e
    obtain rfl : ys = [] := List.length_eq_zero_iff.1 hl
    obtain rfl := h3 rfl
    have hrun := run_append_owned_none (P := Tryz.prog) (w := w) B 31 o.type 5 i0 1 Tryz.underlying31 hi v xs.length _ hown
    unfold Oper.wp
    simp [execOp, ho, resolve, invoke, builtin, hs, hx, hrun, Result.andThen]
    rw [Oper.upon_value]
    rcases row_head hown with ⟨e, h0⟩ | ⟨g, cap, e, _⟩
    · subst e
      have := h none 0 w (by simp only [List.append_nil, List.length_nil, Nat.add_zero]; rw [h0] at hown ⊢; exact hown) ⟨rfl, rfl, rfl, Nat.le_refl _, fun _ _ _ => rfl⟩ (.inl rfl)
      simpa [h0] using this
    · subst e
      have := h (some ⟨g, 0, none⟩) cap w (by simpa using hown) ⟨rfl, rfl, rfl, Nat.le_refl _, fun _ _ _ => rfl⟩ (.inl rfl)
      simpa using this
  | some ad =>
    obtain ⟨v', w', hr, k1, k2, k3, k4⟩ := run_append_own_at (P := Tryz.prog) w B 31 o.type 5 i0 (.int .u8 0) 1 1 Tryz.underlying31 hi hz0 hz1 hz2 rfl (by decide) v xs.length (bcells xs) hown ad ys.length cap (bcells ys) (by rw [length_bcells]; omega) (hcell ad rfl) (bcells_one ys) (by unfold maxLen; omega) (by omega) hB
    obtain ⟨ao2, cap2, rfl⟩ : ∃ ao cap, v' = .slice ao (xs.length + ys.length) cap := by
      rcases row_head k1 with ⟨e, h0⟩ | ⟨g, cap, e, _⟩
      · exact ⟨none, 0, by rw [e, h0]⟩
      · exact ⟨_, cap, e⟩
    unfold Oper.wp execOp
    simp only [ho, resolve, invoke, builtin, Sem.run_bind, Sem.run_pure, Result.andThen_ok, List.map_toArray, List.map_cons, List.map_nil, hs, hx, hr]
    exact h ao2 cap2 w' (by rw [bcells_app, List.length_append]; exact k1) k2 k4
section
variable {ops : Array Oper} {rest : List Oper} {o : Oper} {a : Act} {Q : Exit → Act → World → Prop} {w : World}
theorem wpList_appB (hgd : o.guard = none) (s x : Operand)
    (ho : o.op = .call { callee := .builtin .append, args := #[s, x], argTypes := #[31, 31] })
    (B : Nat) (v u : Value) (xs ys : Bs) (hs : a.eval s = v) (hown : w.ownsRow B 5 1 v xs.length (bcells xs)) (hx : a.eval x = u) (hu : BytesV w u ys) (hlen : xs.length + ys.length ≤ 1099511627776) (hB : B ≤ w.heap.size)
    (h : ∀ ao cap w', w'.ownsRow B 5 1 (.slice ao (xs.length + ys.length) cap) (xs ++ ys).length (bcells (xs ++ ys)) → w.grownBy w' v.ownBlock → ((Value.slice ao (xs.length + ys.length) cap).ownBlock = v.ownBlock ∨ (Value.slice ao (xs.length + ys.length) cap).ownBlock = some w.heap.size) → wpList Tryz.prog ops Q rest (a.put o.dst (.slice ao (xs.length + ys.length) cap)) w') :
    wpList Tryz.prog ops Q (o :: rest) a w :=
  wpList_plain hgd fun _ hK => wp_appB s x ho B v u xs ys hs hown hx hu hlen hB fun ao cap w' h1 h2 h3 => hK _ _ (h ao cap w' h1 h2 h3)
theorem step_appB {K : Act → World → Prop} {E : Prop} (hgd : o.guard = none) (s x : Operand)
    (ho : o.op = .call { callee := .builtin .append, args := #[s, x], argTypes := #[31, 31] })
    (B : Nat) (v u : Value) (xs ys : Bs) (hs : a.eval s = v) (hown : w.ownsRow B 5 1 v xs.length (bcells xs)) (hx : a.eval x = u) (hu : BytesV w u ys) (hlen : xs.length + ys.length ≤ 1099511627776) (hB : B ≤ w.heap.size)
    (h : ∀ ao cap w', w'.ownsRow B 5 1 (.slice ao (xs.length + ys.length) cap) (xs ++ ys).length (bcells (xs ++ ys)) → w.grownBy w' v.ownBlock → ((Value.slice ao (xs.length + ys.length) cap).ownBlock = v.ownBlock ∨ (Value.slice ao (xs.length + ys.length) cap).ownBlock = some w.heap.size) → K (a.put o.dst (.slice ao (xs.length + ys.length) cap)) w') :
    if Region.wanted o (yielded ops a.tmps) = true then Oper.wp Tryz.prog o a w K Q else E := by
  have hw : Region.wanted o (yielded ops a.tmps) = true := by simp [Region.wanted, hgd]
  rw [if_pos hw]
  exact wp_appB s x ho B v u xs ys hs hown hx hu hlen hB h
end
end Go.Proofs.YtdiaejphgcoknaaGreatDoor
