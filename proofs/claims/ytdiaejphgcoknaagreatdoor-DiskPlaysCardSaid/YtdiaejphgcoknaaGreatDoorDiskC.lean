/- The disk in memory: what each kind of write does to it. -/
import Derived.Test.YtdiaejphgcoknaaGreatDoorDiskB
set_option linter.unusedSimpArgs false
set_option linter.unusedVariables false
namespace Go.Proofs.YtdiaejphgcoknaaGreatDoor
open Go.RowKit

theorem getD_appL {α : Type} {l : List α} {x d : α} {j : Nat} (h : j < l.length) : (l ++ [x]).getD j d = l.getD j d := by
  rw [List.getD_eq_getElem?_getD, List.getElem?_append_left h, ← List.getD_eq_getElem?_getD]
theorem getD_appE {α : Type} {l : List α} {x d : α} : (l ++ [x]).getD l.length d = x := by simp
def stepc1 (s : Stp) : List Value := [.int .i64 (s.kind : Int), .string ⟨s.name.toArray⟩, .string ⟨s.to.toArray⟩, .int .i64 (s.file : Int)]
theorem stepcells_app (l : List Stp) (s : Stp) : stepcells (l ++ [s]) = stepcells l ++ stepc1 s := by
  unfold stepcells
  rw [List.length_append, List.length_singleton, List.range_succ, List.flatMap_append]
  congr 1
  · exact flatR_congr fun j hj => by unfold stepc; rw [getD_appL hj]
  · rw [List.flatMap_cons, List.flatMap_nil, List.append_nil]
    unfold stepc stepc1
    rw [getD_appE]
theorem filecells_app (fs : List DF) (fv : List Value) (f : DF) (v : Value) (hl : fv.length = fs.length) : filecells (fs ++ [f]) (fv ++ [v]) = filecells fs fv ++ [v, .int .i64 (f.safe : Int)] := by
  unfold filecells
  rw [List.length_append, List.length_singleton, List.range_succ, List.flatMap_append]
  congr 1
  · exact flatR_congr fun j hj => by unfold filec; rw [getD_appL hj, getD_appL (by rw [hl]; exact hj)]
  · rw [List.flatMap_cons, List.flatMap_nil, List.append_nil]
    unfold filec
    rw [getD_appE, show (fv ++ [v]).getD fs.length .nilIface = v from by rw [← hl]; exact getD_appE]
section
variable {w w2 : World} {p : Nat} {L : Lay} {D : DS}
theorem grown_at {row : Option Nat} (hg : w.grownBy w2 row) {k : Nat} (hk : k < w.heap.size) (hne : some k ≠ row) : w2.heap[k]? = w.heap[k]? := hg.block k hk hne
theorem row_grown {B T sz n : Nat} {v : Value} {xs : List Value} {row : Option Nat} (h : w.ownsRow B T sz v n xs) (hg : w.grownBy w2 row) (hne : ∀ k, v.ownBlock = some k → some k ≠ row) : w2.ownsRow B T sz v n xs :=
  row_of_block h fun k hk => hg.block k (row_lt h hk) (hne k hk)
/-- Which block a slice lies in is told by a row of another kind. -/
theorem rows_ne {B B' T T' sz sz' n n' : Nat} {v u : Value} {cs cs' : List Value} (h : w.ownsRow B T sz v n cs) (h' : w.ownsRow B' T' sz' u n' cs') (hT : T ≠ T') : ∀ k, u.ownBlock = some k → some k ≠ v.ownBlock := by
  intro k hk e
  rcases row_typesR h h' hT with h1 | h1
  · rw [h1] at hk; cases hk
  · rw [hk] at h1; exact h1 e
/-- A step is written down. -/
theorem DP.steps (h : DP w p L D) {v : Value} {s : Stp} (hg : w.grownBy w2 L.vs.ownBlock) (hrow : w2.ownsRow 0 73 4 v (D.steps.length + 1) (stepcells D.steps ++ stepc1 s)) :
    DP (w2.setCell ⟨p, 4, none⟩ v) p { L with vs := v } { D with steps := D.steps ++ [s] } := by
  obtain ⟨o1, o2, o3, o4, o5⟩ := h.others
  have hB : Blk w2 p (dcells L D) 62 := h.blk.grown hg fun e => o2 e.symm
  have hB2 := hB.set 4 v
  have so := set_other w2 p 4 v
  refine ⟨hB2, ?_, h.len, ?_, h.apart, ?_, ?_, h.ne, ?_⟩
  · exact row_of_block (row_grown h.all hg (rows_ne h.stp h.all (by decide))) fun k hk => so k fun e => o1 (e ▸ hk)
  · exact fun j hj => row_of_block (row_grown (h.dat j hj) hg (rows_ne h.stp (h.dat j hj) (by decide))) fun k hk => so k fun e => o5 j hj (e ▸ hk)
  · exact (h.nam.kept hg fun e => map_row h.nam h.stp e.symm).ext (so _ o3)
  · exact (h.saf.kept hg fun e => map_row h.saf h.stp e.symm).ext (so _ o4)
  · rw [List.length_append, List.length_singleton, stepcells_app]
    exact row_of_block hrow fun k hk => so k fun e => blk_row hB hrow (by decide) (e ▸ hk)
/-- Names are led elsewhere. -/
theorem DP.named (h : DP w p L D) {m : NM} (hg : w.grownBy w2 (some L.bn)) (hn : NamesAt w2 L.bn m) : DP w2 p L { D with names := m } := by
  obtain ⟨o1, o2, o3, o4, o5⟩ := h.others
  refine ⟨h.blk.grown hg fun e => o3 (Option.some.inj e).symm, ?_, h.len, ?_, h.apart, hn, ?_, h.ne, ?_⟩
  · exact row_grown h.all hg fun k hk e => map_row h.nam h.all (by rw [hk, Option.some.inj e])
  · exact fun j hj => row_grown (h.dat j hj) hg fun k hk e => map_row h.nam (h.dat j hj) (by rw [hk, Option.some.inj e])
  · exact h.saf.kept hg fun e => h.ne (Option.some.inj e).symm
  · exact row_grown h.stp hg fun k hk e => map_row h.nam h.stp (by rw [hk, Option.some.inj e])
/-- A file is made. -/
theorem DP.made (h : DP w p L D) {v : Value} (hg : w.grownBy w2 L.va.ownBlock) (hrow : w2.ownsRow 0 68 2 v (D.all.length + 1) (filecells D.all L.fv ++ [.slice none 0 0, .int .i64 0])) :
    DP (w2.setCell ⟨p, 1, none⟩ v) p { L with va := v, fv := L.fv ++ [Value.slice none 0 0] } { D with all := D.all ++ [DF.nought] } := by
  obtain ⟨o1, o2, o3, o4, o5⟩ := h.others
  have hB : Blk w2 p (dcells L D) 62 := h.blk.grown hg fun e => o1 e.symm
  have hB2 := hB.set 1 v
  have so := set_other w2 p 1 v
  have hf : ∀ j, j < D.all.length → (D.all ++ [DF.nought]).getD j DF.nought = D.file j := fun j hj => getD_appL hj
  have hv : ∀ j, j < D.all.length → (L.fv ++ [Value.slice none 0 0]).getD j .nilIface = L.at j := fun j hj => getD_appL (by rw [h.len]; exact hj)
  refine ⟨hB2, ?_, by simp [h.len], ?_, ?_, ?_, ?_, h.ne, ?_⟩
  · rw [List.length_append, List.length_singleton, filecells_app _ _ _ _ h.len]
    exact row_of_block hrow fun k hk => so k fun e => blk_row hB hrow (by decide) (e ▸ hk)
  · intro j hj
    rw [List.length_append, List.length_singleton] at hj
    unfold DS.file Lay.at
    rcases Nat.lt_or_ge j D.all.length with h1 | h1
    · rw [hf j h1, hv j h1]
      exact row_of_block (row_grown (h.dat j h1) hg (rows_ne h.all (h.dat j h1) (by decide))) fun k hk => so k fun e => o5 j h1 (e ▸ hk)
    · obtain rfl : j = D.all.length := by omega
      rw [getD_appE, show (L.fv ++ [Value.slice none 0 0]).getD D.all.length .nilIface = Value.slice none 0 0 from by rw [← h.len]; exact getD_appE]
      exact World.ownsRow_nil _ _ _ 1
  · intro i j k hi hj hne hk
    rw [List.length_append, List.length_singleton] at hi hj
    unfold Lay.at at *
    rcases Nat.lt_or_ge i D.all.length with h1 | h1
    · rcases Nat.lt_or_ge j D.all.length with h2 | h2
      · rw [hv i h1] at hk
        rw [hv j h2]
        exact h.apart i j k h1 h2 hne hk
      · obtain rfl : j = D.all.length := by omega
        rw [show (L.fv ++ [Value.slice none 0 0]).getD D.all.length .nilIface = Value.slice none 0 0 from by rw [← h.len]; exact getD_appE]
        simp [Value.ownBlock]
    · obtain rfl : i = D.all.length := by omega
      rw [show (L.fv ++ [Value.slice none 0 0]).getD D.all.length .nilIface = Value.slice none 0 0 from by rw [← h.len]; exact getD_appE] at hk
      simp [Value.ownBlock] at hk
  · exact (h.nam.kept hg fun e => map_row h.nam h.all e.symm).ext (so _ o3)
  · exact (h.saf.kept hg fun e => map_row h.saf h.all e.symm).ext (so _ o4)
  · exact row_of_block (row_grown h.stp hg (rows_ne h.all h.stp (by decide))) fun k hk => so k fun e => o2 (e ▸ hk)
/-- The names that are safe lie in another map. -/
theorem DP.safed (h : DP w p L D) {b : Nat} {m : NM} (hg : w.grownBy w2 none) (hn : NamesAt w2 b m) (hb : w.heap.size ≤ b) :
    DP (w2.setCell ⟨p, 3, none⟩ (.map (some b))) p { L with bs := b } { D with safe := m } := by
  obtain ⟨o1, o2, o3, o4, o5⟩ := h.others
  have hB : Blk w2 p (dcells L D) 62 := h.blk.grown hg (by simp)
  have hB2 := hB.set 3 (.map (some b))
  have so := set_other w2 p 3 (.map (some b))
  have hpb : b ≠ p := by have := h.blk.lt; omega
  refine ⟨hB2, ?_, h.len, ?_, h.apart, ?_, hn.ext (so _ hpb), ?_, ?_⟩
  · exact row_of_block (row_grown h.all hg (by simp)) fun k hk => so k fun e => o1 (e ▸ hk)
  · exact fun j hj => row_of_block (row_grown (h.dat j hj) hg (by simp)) fun k hk => so k fun e => o5 j hj (e ▸ hk)
  · exact (h.nam.kept hg (by simp)).ext (so _ o3)
  · have := h.nam.lt; show L.bn ≠ b; omega
  · exact row_of_block (row_grown h.stp hg (by simp)) fun k hk => so k fun e => o2 (e ▸ hk)
end
end Go.Proofs.YtdiaejphgcoknaaGreatDoor
