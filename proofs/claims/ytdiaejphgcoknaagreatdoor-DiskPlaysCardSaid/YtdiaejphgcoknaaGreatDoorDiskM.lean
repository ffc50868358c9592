/- Names of files: sorted lists of a name and a number, plain; and as a map in memory. -/
import Derived.Test.YtdiaejphgcoknaaGreatDoorRow1
import Derived.Maps.OwnSet
import Derived.Maps.OwnOps
import Derived.Maps.RangeWalk
import Derived.Sort.KeysCollected
import Derived.StringKeys
set_option linter.unusedSimpArgs false
set_option linter.unusedVariables false
namespace Go.Proofs.YtdiaejphgcoknaaGreatDoor
open Go.RowKit

abbrev Bs := List UInt8
abbrev NM := List (Bs × Nat)
def entry1 (p : Bs × Nat) : Lit × DataW Unit := (.string p.1, .lit (.int .i64 p.2))
def ents (m : NM) : List (Lit × DataW Unit) := m.map entry1
def toD (m : NM) : DataW Unit := .map (ents m)
def nget (m : NM) (k : Bs) : Option Nat := (m.find? fun p => p.1 == k).map (·.2)
def nins (x : Bs × Nat) : NM → NM
  | [] => [x]
  | y :: r => if bytesBefore x.1 y.1 then x :: y :: r else y :: nins x r
def ndel (m : NM) (k : Bs) : NM := m.filter fun p => !(p.1 == k)
def nput (m : NM) (k : Bs) (v : Nat) : NM := nins (k, v) (ndel m k)

theorem ents_nins (x : Bs × Nat) : ∀ m : NM, DataW.insert (entry1 x) (ents m) = ents (nins x m)
  | [] => rfl
  | y :: r => by
    have ih := ents_nins x r
    show (if (entry1 x).1.before (entry1 y).1 then _ else _) = _
    unfold nins
    show (if bytesBefore x.1 y.1 then _ else _) = _
    by_cases h : bytesBefore x.1 y.1 = true
    · rw [if_pos h, if_pos h]; rfl
    · rw [if_neg h, if_neg h]
      show entry1 y :: DataW.insert (entry1 x) (ents r) = _
      rw [ih]; rfl
theorem ents_ndel (m : NM) (k : Bs) : (ents m).filter (fun p => !p.1.sameKey (.string k)) = ents (ndel m k) := by
  unfold ents ndel
  rw [List.filter_map]
  rfl
theorem toD_del (m : NM) (k : Bs) : (toD m).del (.string k) = toD (ndel m k) := by
  show DataW.map _ = DataW.map _
  rw [ents_ndel]
theorem toD_put (m : NM) (k : Bs) (v : Nat) : (toD m).put (.string k) (.lit (.int .i64 v)) = toD (nput m k v) := by
  show DataW.map (DataW.insert (entry1 (k, v)) _) = DataW.map _
  rw [ents_ndel, ents_nins]; rfl
theorem find_ents (m : NM) (k : Bs) : (ents m).find? (fun p => p.1.sameKey (.string k)) = (m.find? fun p => p.1 == k).map entry1 := by
  unfold ents
  rw [List.find?_map]
  rfl
theorem toD_at (m : NM) (k : Bs) : (toD m).atKey (.string k) (.lit (.int .i64 0)) = .lit (.int .i64 (((nget m k).getD 0 : Nat) : Int)) := by
  unfold toD DataW.atKey
  simp only
  rw [find_ents]
  unfold nget
  cases m.find? fun p => p.1 == k <;> rfl
theorem toD_has (m : NM) (k : Bs) : Maps.has (toD m) (.string k) = (nget m k).isSome := by
  show (ents m).any (fun p => p.1.sameKey (.string k)) = _
  have e : (ents m).any (fun p => p.1.sameKey (.string k)) = ((ents m).find? fun p => p.1.sameKey (.string k)).isSome := by rw [Bool.eq_iff_iff]; simp
  rw [e, find_ents]
  unfold nget
  cases m.find? fun p => p.1 == k <;> rfl
theorem toD_size (m : NM) : Maps.size (toD m) = m.length := by simp [toD, ents, Maps.size]

theorem nget_ndel_same (m : NM) (k : Bs) : nget (ndel m k) k = none := by
  unfold nget ndel
  rw [Option.map_eq_none_iff, List.find?_eq_none]
  intro p hp
  have := (List.mem_filter.1 hp).2
  simpa using this
theorem nget_ndel_other (m : NM) {k k' : Bs} (h : k' ≠ k) : nget (ndel m k) k' = nget m k' := by
  unfold nget ndel
  congr 1
  rw [List.find?_filter]
  congr 1
  funext p
  by_cases e : p.1 = k'
  · subst e; simp [h]
  · simp [e]
theorem find_nins_other {x : Bs × Nat} {k' : Bs} (h : x.1 ≠ k') : ∀ m : NM, (nins x m).find? (fun p => p.1 == k') = m.find? (fun p => p.1 == k')
  | [] => by simp [nins, h]
  | y :: r => by
    unfold nins
    split
    · rw [List.find?_cons, show (x.1 == k') = false from by simpa using h]
    · rw [List.find?_cons, List.find?_cons, find_nins_other h r]
theorem find_nins_same {x : Bs × Nat} : ∀ m : NM, (∀ p ∈ m, p.1 ≠ x.1) → (nins x m).find? (fun p => p.1 == x.1) = some x
  | [], _ => by simp [nins]
  | y :: r, h => by
    unfold nins
    split
    · simp
    · rw [List.find?_cons, show (y.1 == x.1) = false from by simpa using h y (by simp)]
      exact find_nins_same r fun p hp => h p (by simp [hp])
theorem nget_nput_same (m : NM) (k : Bs) (v : Nat) : nget (nput m k v) k = some v := by
  unfold nget nput
  rw [find_nins_same (x := (k, v)) _ (fun p hp => by have := (List.mem_filter.1 hp).2; simpa using this)]
  rfl
theorem nget_nput_other (m : NM) {k k' : Bs} (v : Nat) (h : k' ≠ k) : nget (nput m k v) k' = nget m k' := by
  unfold nput
  rw [← nget_ndel_other m h]
  unfold nget
  rw [find_nins_other (x := (k, v)) (fun e => h e.symm)]
theorem length_nins (x : Bs × Nat) : ∀ m : NM, (nins x m).length = m.length + 1
  | [] => rfl
  | y :: r => by
    unfold nins
    split
    · rfl
    · simp [length_nins x r]
theorem length_ndel (m : NM) (k : Bs) : (ndel m k).length ≤ m.length := List.length_filter_le _ _
theorem length_nput (m : NM) (k : Bs) (v : Nat) : (nput m k v).length ≤ m.length + 1 := by
  unfold nput
  rw [length_nins]
  have := length_ndel m k; omega
theorem mem_nins {x p : Bs × Nat} : ∀ {m : NM}, p ∈ nins x m ↔ p = x ∨ p ∈ m
  | [] => by simp [nins]
  | y :: r => by
    unfold nins
    split
    · simp
    · rw [List.mem_cons, mem_nins (m := r), List.mem_cons]
      constructor
      · rintro (h | h | h)
        · exact .inr (.inl h)
        · exact .inl h
        · exact .inr (.inr h)
      · rintro (h | h | h)
        · exact .inr (.inl h)
        · exact .inl h
        · exact .inr (.inr h)
theorem mem_nput {m : NM} {k : Bs} {v : Nat} {p : Bs × Nat} (h : p ∈ nput m k v) : p = (k, v) ∨ p ∈ m := by
  rcases mem_nins.1 h with h | h
  · exact .inl h
  · exact .inr (List.mem_filter.1 h).1
theorem mem_ndel {m : NM} {k : Bs} {p : Bs × Nat} (h : p ∈ ndel m k) : p ∈ m := (List.mem_filter.1 h).1
theorem mem_nget {m : NM} {k : Bs} {v : Nat} (h : nget m k = some v) : (k, v) ∈ m := by
  unfold nget at h
  obtain ⟨p, hp, rfl⟩ := Option.map_eq_some_iff.1 h
  have h1 := List.find?_some hp
  have h2 := List.mem_of_find?_eq_some hp
  simp only [beq_iff_eq] at h1
  obtain ⟨a, b⟩ := p
  simp only at h1
  subst h1; exact h2

/-! in memory -/
theorem strK : Maps.Keyed Tryz.prog 9 := Maps.string_keyed Tryz.underlying9
theorem zeroI (w : World) : (zeroValue 3).run Tryz.prog w = .ok (.int .i64 0) w := by kernel_rfl
/-- Block b is a map that reads as m. -/
def NamesAt (w : World) (b : Nat) (m : NM) : Prop := w.ownsMap Tryz.prog 9 (plainElem Tryz.prog 3) b m.length (toD m)
theorem NamesAt.of {w : World} {b n : Nat} {m : NM} (h : w.ownsMap Tryz.prog 9 (plainElem Tryz.prog 3) b n (toD m)) : NamesAt w b m := by
  obtain ⟨es, clock, hb, F, hs, hD⟩ := h
  refine ⟨es, clock, hb, F, ?_, hD⟩
  have e : (ents m).length = es.size := by
    have h1 : ents m = (es.toList.map (WideElems.rg Tryz.prog 9 (plainElem Tryz.prog 3))).foldr DataW.insert [] := by
      unfold toD at hD; exact DataW.map.inj hD
    rw [h1, length_sorted]; simp
  rw [← e]; simp [ents]
theorem NamesAt.lt {w : World} {b : Nat} {m : NM} (h : NamesAt w b m) : b < w.heap.size := World.ownsMap.lt h
theorem NamesAt.kept {w w' : World} {b : Nat} {m : NM} {row : Option Nat} (h : NamesAt w b m) (hg : w.grownBy w' row) (hne : some b ≠ row) : NamesAt w' b m := World.ownsMap.kept h hg hne
theorem NamesAt.ext {w w' : World} {b : Nat} {m : NM} (h : NamesAt w b m) (hb : w'.heap[b]? = w.heap[b]?) : NamesAt w' b m := by
  obtain ⟨es, clock, h1, h2⟩ := h
  exact ⟨es, clock, hb.trans h1, h2⟩
theorem keyS {s : Bs} (h : s.length ≤ maxLen) : keyOf Tryz.prog 9 (.string ⟨s.toArray⟩) = some (.string s) := by
  have := Go.WideMaps.keyOf_string_mk (P := Tryz.prog) (k := 9) Tryz.underlying9 (s := ⟨s.toArray⟩) (by simpa [ByteArray.size] using h)
  simpa using this
theorem wfN {v : Nat} (h : v ≤ 9223372036854775807) : (Lit.int .i64 (v : Int)).wf = true := WalkArith.wf_i64 (by omega)
/-- 'v, ok := m[k]' -/
theorem NamesAt.look {w : World} {b : Nat} {m : NM} (h : NamesAt w b m) {s : Bs} (hs : s.length ≤ maxLen) :
    (Instr.lookup 58 (.map (some b)) (.string ⟨s.toArray⟩) true).run Tryz.prog w = .ok (.tuple #[.int .i64 (((nget m s).getD 0 : Nat) : Int), .bool (nget m s).isSome]) w := by
  obtain ⟨v, ps, hrun, hv⟩ := World.ownsMap.look_ok h strK Tryz.underlying58 (zeroI w) (plainElem_int Tryz.underlying3 (by decide)) (keyS hs)
  obtain ⟨c, rfl, hc, -⟩ := plainElem_int_inv Tryz.underlying3 hv
  rw [toD_at] at hc
  simp only [Prod.mk.injEq, DataW.lit.injEq, Lit.int.injEq, true_and] at hc
  rw [hrun, toD_has, ← hc.1]
theorem NamesAt.look1 {w : World} {b : Nat} {m : NM} (h : NamesAt w b m) {s : Bs} (hs : s.length ≤ maxLen) :
    (Instr.lookup 58 (.map (some b)) (.string ⟨s.toArray⟩) false).run Tryz.prog w = .ok (.int .i64 (((nget m s).getD 0 : Nat) : Int)) w := by
  obtain ⟨c, hrun, hat, -⟩ := World.ownsMap.lookup_int h strK Tryz.underlying58 Tryz.underlying3 (zeroI w) (keyS hs)
  rw [toD_at] at hat
  simp only [DataW.lit.injEq, Lit.int.injEq, true_and] at hat
  rw [hrun, ← hat]
theorem NamesAt.count {w : World} {b : Nat} {m : NM} (h : NamesAt w b m) (ty : TypeId) : (Builtin.len_ #[58] ty #[.map (some b)]).run Tryz.prog w = .ok (.int .i64 (m.length : Int)) w := by
  rw [World.ownsMap.len h Tryz.underlying58 ty, toD_size]
end Go.Proofs.YtdiaejphgcoknaaGreatDoor
