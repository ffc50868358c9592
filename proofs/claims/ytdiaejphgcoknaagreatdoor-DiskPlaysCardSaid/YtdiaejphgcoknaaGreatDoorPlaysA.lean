/- kinref5: names as a list: good, find, drop: contracts. kinref5.put, done: contracts. kinref5.done: contract; names stay in order. The document's disk in memory: it stands for the same plain disk. falls, down, body, asks: contracts. kinref5: body, asks, at: contracts. The plain law behind DiskRoom. kinref5: at, Used, Read, Arm, Grow, New: contracts. kinref5.step: contract. -/
import Derived.Test.YtdiaejphgcoknaaGreatDoorDiskCp
import Derived.WideAt
import Derived.Test.YtdiaejphgcoknaaGreatDoorDiskAc
set_option linter.unusedSimpArgs false
set_option linter.unusedVariables false
namespace Go.Proofs.YtdiaejphgcoknaaGreatDoor

/-! kinref5: names as a list: good, find, drop: contracts. -/
section
open Go.RowKit Go.Extern.Stop Go.Stop Go.Extern

theorem good_any (s : Bs) (hs : s.length ≤ maxLen) (w : World) : Calls Tryz.prog 82 #[.string ⟨s.toArray⟩] w fun e w' => e = .returned (.bool (namedB s)) ∧ w = w' := by
  obtain ⟨n, hn⟩ : ∃ n, s.length = n := ⟨_, rfl⟩
  have hsz : (⟨s.toArray⟩ : ByteArray).size = n := by simp [ByteArray.size, hn]
  have hb : namedB s = (decide (1 ≤ n) && decide (n ≤ 24)) := by
    unfold namedB
    rw [hn]
    cases s with
    | nil => simp at hn; subst hn; rfl
    | cons x t => simp at hn; simp; omega
  rw [hb]
  unfold maxLen at hs
  rw [hn] at hs
  generalize (⟨s.toArray⟩ : ByteArray) = b at *
  clear hn hb
  by_cases h1 : 1 ≤ n
  · by_cases h2 : n ≤ 24
    · rw [show (decide (1 ≤ n) && decide (n ≤ 24)) = true from by simp [h1, h2]]
      go_enter Tryz.func82, Tryz.ntmps82
      go_wp2
      all_goals go_returns
      all_goals exact ⟨by first | rfl | (simp; omega), rfl⟩
    · rw [show (decide (1 ≤ n) && decide (n ≤ 24)) = false from by simp [h2]]
      go_enter Tryz.func82, Tryz.ntmps82
      go_wp2
      all_goals go_returns
      all_goals exact ⟨by first | rfl | (simp; omega), rfl⟩
  · rw [show (decide (1 ≤ n) && decide (n ≤ 24)) = false from by simp [h1]]
    go_enter Tryz.func82, Tryz.ntmps82
    go_wp2
    all_goals go_returns
    all_goals exact ⟨by first | rfl | (simp; omega), rfl⟩
/-- A list of names, as its cells. -/
def ncell (m : NM) (j : Nat) : List Value := [.string ⟨(m.getD j ([], 0)).1.toArray⟩, .int .i64 ((m.getD j ([], 0)).2 : Int)]
def ncells (m : NM) : List Value := (List.range m.length).flatMap (ncell m)
theorem ncells_app (m : NM) (p : Bs × Nat) : ncells (m ++ [p]) = ncells m ++ [.string ⟨p.1.toArray⟩, .int .i64 (p.2 : Int)] := by
  unfold ncells
  rw [List.length_append, List.length_singleton, List.range_succ, List.flatMap_append]
  congr 1
  · exact flatR_congr fun j hj => by unfold ncell; rw [getD_appL hj]
  · rw [List.flatMap_cons, List.flatMap_nil, List.append_nil]
    unfold ncell
    rw [getD_appE]
theorem infoN : (Tryz.prog.info? 124).map (fun i => (i.zero, i.size, i.bytes)) = some (some (.agg #[.string ⟨#[]⟩, .int .i64 0]), 2, 24) := by kernel_rfl
/-- The row v reads as the names m. -/
def NRow (w : World) (B : Nat) (v : Value) (m : NM) : Prop := w.ownsRow B 124 2 v m.length (ncells m)
theorem NRow.ext {w w' : World} {B : Nat} {v : Value} {m : NM} (h : NRow w B v m) (hb : Below w.heap.size w w') : NRow w' B v m := row_ext h hb
theorem NRow.cellAt {w : World} {B : Nat} {ao : Option Addr} {n cap : Nat} {m : NM} (h : NRow w B (.slice ao n cap) m) (hn : m.length = n) {j : Nat} (hj : j < n) :
    ∃ g, ao = some ⟨g, 0, none⟩ ∧ B ≤ g ∧ g < w.heap.size ∧ n ≤ cap ∧ w.cell? ⟨g, j * 2, none⟩ = some (.string ⟨(m.getD j ([], 0)).1.toArray⟩) ∧ w.cell? ⟨g, j * 2 + 1, none⟩ = some (.int .i64 ((m.getD j ([], 0)).2 : Int)) := by
  unfold NRow at h
  subst hn
  rcases row_head h with ⟨_, h0⟩ | ⟨g, cap', e, hB, hlt, hc, -⟩
  · omega
  · obtain ⟨rfl, -, rfl⟩ := Value.slice.inj e
    have e0 : (ncells m)[j * 2]? = some (.string ⟨(m.getD j ([], 0)).1.toArray⟩) := flatR_at (g := ncell m) (m := 2) (c := 0) (fun _ => rfl) _ hj (by decide)
    have e1 : (ncells m)[j * 2 + 1]? = some (.int .i64 ((m.getD j ([], 0)).2 : Int)) := flatR_at (g := ncell m) (m := 2) (c := 1) (fun _ => rfl) _ hj (by decide)
    exact ⟨g, rfl, hB, hlt, hc, row_cellAt h e0, row_cellAt h e1⟩
/-- The place of a name; -1: none. -/
def findV (m : NM) (s : Bs) : Int := match m.findIdx? fun p => p.1 == s with
  | some i => (i : Int)
  | none => -1
theorem findV_at {m : NM} {s : Bs} {k : Nat} (hk : k < m.length) (h1 : ∀ j, j < k → (m.getD j ([], 0)).1 ≠ s) (h2 : (m.getD k ([], 0)).1 = s) : findV m s = (k : Int) := by
  have : m.findIdx? (fun p => p.1 == s) = some k := by
    rw [List.findIdx?_eq_some_iff_getElem]
    refine ⟨hk, ?_, fun j hj => ?_⟩
    · rw [List.getD_eq_getElem?_getD, List.getElem?_eq_getElem hk] at h2
      simpa using h2
    · have h3 := h1 j hj
      rw [List.getD_eq_getElem?_getD, List.getElem?_eq_getElem (show j < m.length by omega)] at h3
      simpa using h3
  unfold findV; rw [this]
theorem findV_none {m : NM} {s : Bs} (h1 : ∀ j, j < m.length → (m.getD j ([], 0)).1 ≠ s) : findV m s = -1 := by
  have : m.findIdx? (fun p => p.1 == s) = none := by
    rw [List.findIdx?_eq_none_iff]
    intro p hp
    obtain ⟨j, hj, rfl⟩ := List.mem_iff_getElem.1 hp
    have h3 := h1 j hj
    rw [List.getD_eq_getElem?_getD, List.getElem?_eq_getElem hj] at h3
    simpa using h3
  unfold findV; rw [this]
set_option maxRecDepth 100000 in
theorem find_any (v : Value) (m : NM) (s : Bs) (B : Nat) (w : World) (hv : NRow w B v m) (hl : m.length ≤ 1000000) :
    Calls Tryz.prog 83 #[v, .string ⟨s.toArray⟩] w fun e w' => e = .returned (.int .i64 (findV m s)) ∧ Below w.heap.size w w' := by
  have HV := Lib.hid hv
  obtain ⟨ao, cap, rfl⟩ := rowShape hv
  obtain ⟨n, hn⟩ : ∃ n, m.length = n := ⟨_, rfl⟩
  have HN := Lib.hid hn
  rw [hn] at HV hl ⊢
  have HF := Lib.hid (fun k hk h1 h2 => findV_at (m := m) (s := s) (k := k) hk h1 h2)
  have HG := Lib.hid (fun h1 => findV_none (m := m) (s := s) h1)
  clear hv hn
  go_enter Tryz.func83, Tryz.ntmps83
  go_wp2
  go_loopw [5] (fun i wr => ∃ k : Nat, k ≤ n ∧ i = .int .i64 (k : Int) ∧ Below w.heap.size w wr ∧ ∀ j, j < k → (m.getD j ([], 0)).1 ≠ s) (fun i _ => n - (intOf i).toNat)
  case atStart => exact ⟨0, Nat.zero_le _, rfl, Below.refl _ _, fun j hj => absurd hj (Nat.not_lt_zero j)⟩
  case round =>
    obtain ⟨k, hk, rfl, hb, hA⟩ := hrel
    have HA := Lib.hid hA
    clear hA
    by_cases hlt : k < n
    · obtain ⟨g, rfl, -, hgl, hcap, c0, c1⟩ := (HV.out.ext hb).cellAt HN.out hlt
      have HK := Lib.hid (HF.out k (by rw [HN.out]; exact hlt) HA.out)
      have HSU : Hid ((m.getD k ([], 0)).1 ≠ s → ∀ j, j < k + 1 → (m.getD j ([], 0)).1 ≠ s) := fun h j hj => by
        by_cases e : j = k
        · rw [e]; exact h
        · exact HA.out j (by omega)
      generalize (m.getD k ([], 0)).1 = a at *
      have i1 : (0 : Int) ≤ (k : Int) := by omega
      have i2 : (k : Int) < (n : Int) := by omega
      by_cases h : a = s
      · have HE := Lib.hid (HK.out h)
        subst h
        go_wp2
        go_returns
        exact ⟨by rw [HE.out]; rfl, hb⟩
      · have HS2 := Lib.hid (HSU.out h)
        have q : (a == s) = false := by simpa using h
        go_wp2
        go_roundw
        case rel => exact ⟨k + 1, by omega, by go_num, hb, HS2.out⟩
        case measure => simp [intOf]; omega
    · obtain rfl : k = n := by omega
      go_wp2
      go_returns
      exact ⟨by rw [HG.out (fun j hj => HA.out j (by rw [← HN.out]; exact hj))]; rfl, hb⟩
theorem ndel_succ (m : NM) (s : Bs) {k : Nat} (h : k < m.length) : ndel (m.take (k + 1)) s = if (m.getD k ([], 0)).1 = s then ndel (m.take k) s else ndel (m.take k) s ++ [m.getD k ([], 0)] := by
  rw [take_app m ([], 0) h]
  unfold ndel
  rw [List.filter_append]
  split
  · rename_i e; rw [List.filter_cons_of_neg (by rw [e]; simp), List.filter_nil, List.append_nil]
  · rename_i e; rw [List.filter_cons_of_pos (by simpa using e), List.filter_nil]
theorem NRow.nil (w : World) (B : Nat) : NRow w B (.slice none 0 0) [] := World.ownsRow_nil _ _ _ _
theorem NRow.shapeN {w : World} {B : Nat} {v : Value} {m : NM} (h : NRow w B v m) {n : Nat} (hn : m.length = n) : ∃ ao cap, v = .slice ao n cap := by
  obtain ⟨ao, cap, e⟩ := rowShape h
  exact ⟨ao, cap, by rw [e, hn]⟩
theorem NRow.app {w : World} {B dl : Nat} {v : Value} {m : NM} {a : Bs} {x : Nat} (hdl : m.length = dl) (h : w.ownsRow B 124 2 v (dl + 1) (ncells m ++ [.string ⟨a.toArray⟩, .int .i64 (x : Int)])) : NRow w B v (m ++ [(a, x)]) := by
  unfold NRow
  rw [List.length_append, List.length_singleton, hdl, ncells_app]; exact h
theorem NRow.own {w : World} {B dl : Nat} {v : Value} {m : NM} (h : NRow w B v m) (hdl : m.length = dl) : w.ownsRow B 124 2 v dl (ncells m) := by
  unfold NRow at h; rw [hdl] at h; exact h
set_option maxRecDepth 100000 in
set_option maxHeartbeats 1000000 in
theorem drop_any (v : Value) (m : NM) (s : Bs) (B : Nat) (w : World) (hv : NRow w B v m) (hl : m.length ≤ 1000000) :
    Calls Tryz.prog 87 #[v, .string ⟨s.toArray⟩] w fun e w' => ∃ ao cap, e = .returned (.slice ao (ndel m s).length cap) ∧ NRow w' w.heap.size (.slice ao (ndel m s).length cap) (ndel m s) ∧ Below w.heap.size w w' := by
  have HV := Lib.hid hv
  obtain ⟨ao, cap, rfl⟩ := rowShape hv
  obtain ⟨n, hn⟩ : ∃ n, m.length = n := ⟨_, rfl⟩
  have HN := Lib.hid hn
  rw [hn] at HV hl ⊢
  have HT := Lib.hid (show ndel (m.take n) s = ndel m s from by rw [← hn, List.take_length])
  clear hv hn
  go_enter Tryz.func87, Tryz.ntmps87
  go_wp2
  go_loopw [5, 6] (fun o i wr => ∃ k : Nat, k ≤ n ∧ i = .int .i64 (k : Int) ∧ NRow wr w.heap.size o (ndel (m.take k) s) ∧ Below w.heap.size w wr) (fun _ i _ => n - (intOf i).toNat)
  case atStart => exact ⟨0, Nat.zero_le _, rfl, NRow.nil _ _, Below.refl _ _⟩
  case round =>
    obtain ⟨k, hk, rfl, ho, hb⟩ := hrel
    have hdl : (ndel (m.take k) s).length ≤ n := by
      have := length_ndel (m.take k) s
      rw [List.length_take] at this; omega
    obtain ⟨dl, hdl2⟩ : ∃ dl, (ndel (m.take k) s).length = dl := ⟨_, rfl⟩
    obtain ⟨oo, ocap, rfl⟩ := ho.shapeN hdl2
    have HO := Lib.hid ho
    have HDL := Lib.hid hdl2
    rw [hdl2] at hdl
    have HB := Lib.hid hb
    clear ho hdl2
    by_cases hlt : k < n
    · obtain ⟨g, rfl, -, hgl, hcap, c0, c1⟩ := (HV.out.ext hb).cellAt HN.out hlt
      have HSU := Lib.hid (ndel_succ m s (k := k) (by rw [HN.out]; exact hlt))
      have i1 : (0 : Int) ≤ (k : Int) := by omega
      have i2 : (k : Int) < (n : Int) := by omega
      generalize m.getD k ([], 0) = p at *
      obtain ⟨a, x⟩ := p
      simp only at c0 c1
      by_cases h : a = s
      · have HS2 : Hid (ndel (m.take (k + 1)) s = ndel (m.take k) s) := by have := HSU.out; rw [if_pos h] at this; exact this
        subst h
        have q : (a != a) = false := by simp
        go_wp2
        go_roundw
        case rel => exact ⟨k + 1, by omega, by go_num, by rw [HS2.out]; exact HO.out, hb⟩
        case measure => simp [intOf]; omega
      · have HS2 : Hid (ndel (m.take (k + 1)) s = ndel (m.take k) s ++ [(a, x)]) := by have := HSU.out; rw [if_neg h] at this; exact this
        have q : (a != s) = true := by simpa using h
        have q3 : (a == s) = false := by simpa using h
        have HOW := Lib.hid (HO.out.own HDL.out)
        go_wp2_with (at_builtin; refine wpList_row1 78 124 2 24 _ Tryz.underlying78 infoN rfl (by decide) rfl (.tmp 20) (.tmp 25) rfl w.heap.size _ _ _ [.string ⟨a.toArray⟩, .int .i64 (x : Int)] rfl HOW.out rfl (by simp) rfl (by intro u hu; simp at hu; rcases hu with rfl | rfl <;> rfl) (by omega) (by decide) HB.out.size ?_; intro v' w2 hown2 hb2 hg2 hat2; obtain ⟨a2, c2', hv2⟩ := rowShape hown2; subst hv2; have HO2 := Lib.hid (NRow.app HDL.out hown2); have HB2 := Lib.hid (HB.out.trans hb2); clear hown2 hb2 hg2 hat2)
        go_wp2
        go_roundw
        case rel => exact ⟨k + 1, by omega, by go_num, by rw [HS2.out]; exact HO2.out, HB2.out⟩
        case measure => simp [intOf]; omega
    · obtain rfl : k = n := by omega
      have HO2 : Hid (NRow wr w.heap.size (.slice oo dl ocap) (ndel m s)) := by have := HO.out; rw [HT.out] at this; exact this
      have HDL2 : Hid ((ndel m s).length = dl) := by have := HDL.out; rw [HT.out] at this; exact this
      go_wp2
      go_returns
      exact ⟨oo, ocap, by rw [HDL2.out]; rfl, by rw [HDL2.out]; exact HO2.out, hb⟩
end

/-! kinref5.put, done: contracts. -/
section
open Go.RowKit Go.Extern.Stop Go.Stop Go.Extern

theorem less_before : ∀ x y : Bs, Op.bytesLess x y = bytesBefore x y
  | [], [] => rfl
  | [], _ :: _ => rfl
  | _ :: _, [] => rfl
  | a :: r, b :: s => by
    have ih := less_before r s
    unfold Op.bytesLess bytesBefore
    rw [ih]
def Srt (m : NM) : Prop := m.Pairwise fun a b => bytesBefore a.1 b.1 = true
theorem nins_split {x : Bs × Nat} : ∀ {a b : NM}, (∀ y ∈ a, bytesBefore x.1 y.1 = false) → (∀ y, b.head? = some y → bytesBefore x.1 y.1 = true) → nins x (a ++ b) = a ++ x :: b
  | [], [], _, _ => rfl
  | [], y :: r, _, h => by
    rw [List.nil_append, List.nil_append]; unfold nins; rw [if_pos (h y rfl)]
  | z :: a, b, h1, h2 => by
    rw [List.cons_append]
    unfold nins
    rw [if_neg (by rw [h1 z (by simp)]; simp), nins_split (a := a) (fun y hy => h1 y (by simp [hy])) h2]; rfl
theorem before_asymm {a b : Bs} (h : bytesBefore a b = true) : bytesBefore b a = false := by
  cases e : bytesBefore b a with
  | false => rfl
  | true =>
    have := Go.WideShapes.bytes_trans a b a h e
    rw [Go.WideAt.bytes_irrefl] at this; cases this
theorem ndel_self {m : NM} {s : Bs} (h : ∀ p ∈ m, p.1 ≠ s) : ndel m s = m := by
  unfold ndel
  rw [List.filter_eq_self]
  intro p hp
  simpa using h p hp
theorem ndel_append (a b : NM) (s : Bs) : ndel (a ++ b) s = ndel a s ++ ndel b s := by unfold ndel; exact List.filter_append _ _
theorem before_ne {a b : Bs} (h : bytesBefore a b = true) : a ≠ b := fun e => by rw [e, Go.WideAt.bytes_irrefl] at h; cases h
theorem Srt.lt {m : NM} (h : Srt m) {i j : Nat} (hij : i < j) (hj : j < m.length) : bytesBefore (m.getD i ([], 0)).1 (m.getD j ([], 0)).1 = true := by
  have := List.pairwise_iff_getElem.1 h i j (by omega) hj hij
  rw [List.getD_eq_getElem?_getD, List.getD_eq_getElem?_getD, List.getElem?_eq_getElem (show i < m.length by omega), List.getElem?_eq_getElem hj]; exact this
theorem mem_drop_at {m : NM} {k : Nat} {p : Bs × Nat} (h : p ∈ m.drop k) : ∃ j, k ≤ j ∧ j < m.length ∧ m.getD j ([], 0) = p := by
  obtain ⟨i, hi, rfl⟩ := List.mem_iff_getElem.1 h
  rw [List.length_drop] at hi
  exact ⟨k + i, by omega, by omega, by rw [List.getD_eq_getElem?_getD, List.getElem?_eq_getElem (show k + i < m.length by omega), List.getElem_drop]; rfl⟩
theorem mem_take_at {m : NM} {k : Nat} {p : Bs × Nat} (h : p ∈ m.take k) : ∃ j, j < k ∧ j < m.length ∧ m.getD j ([], 0) = p := by
  obtain ⟨i, hi, rfl⟩ := List.mem_iff_getElem.1 h
  rw [List.length_take] at hi
  exact ⟨i, by omega, by omega, by rw [List.getD_eq_getElem?_getD, List.getElem?_eq_getElem (show i < m.length by omega), List.getElem_take]; rfl⟩
theorem drop_cons {m : NM} {k : Nat} (h : k < m.length) : m.drop k = m.getD k ([], 0) :: m.drop (k + 1) := by
  rw [List.drop_eq_getElem_cons h, List.getD_eq_getElem?_getD, List.getElem?_eq_getElem h]; rfl
section
variable {m : NM} {s : Bs} {k : Nat}
theorem put_take (h1 : ∀ j, j < k → bytesBefore (m.getD j ([], 0)).1 s = true) (no : Nat) (b : NM) (hb : ∀ y, b.head? = some y → bytesBefore s y.1 = true) : nins (s, no) (m.take k ++ b) = m.take k ++ (s, no) :: b := by
  refine nins_split (fun y hy => ?_) hb
  obtain ⟨j, h2, h3, rfl⟩ := mem_take_at hy
  exact before_asymm (h1 j h2)
theorem take_self (h1 : ∀ j, j < k → bytesBefore (m.getD j ([], 0)).1 s = true) : ndel (m.take k) s = m.take k := ndel_self fun p hp => by
  obtain ⟨j, h2, h3, rfl⟩ := mem_take_at hp
  exact before_ne (h1 j h2)
theorem put_at (hS : Srt m) (hk : k < m.length) (h1 : ∀ j, j < k → bytesBefore (m.getD j ([], 0)).1 s = true) (h2 : (m.getD k ([], 0)).1 = s) (no : Nat) : nput m s no = m.take k ++ (s, no) :: m.drop (k + 1) := by
  have h3 : ∀ p ∈ m.drop (k + 1), bytesBefore s p.1 = true := fun p hp => by
    obtain ⟨j, hj, hl, rfl⟩ := mem_drop_at hp
    rw [← h2]; exact hS.lt (by omega) hl
  unfold nput
  conv => lhs; rw [← List.take_append_drop k m]
  rw [ndel_append, take_self h1, drop_cons hk]
  have e : ndel (m.getD k ([], 0) :: m.drop (k + 1)) s = m.drop (k + 1) := by
    have e2 : ndel (m.getD k ([], 0) :: m.drop (k + 1)) s = ndel (m.drop (k + 1)) s := by
      unfold ndel; rw [List.filter_cons_of_neg (by rw [h2]; simp)]
    rw [e2]
    exact ndel_self fun p hp => (before_ne (h3 p hp)).symm
  rw [e]
  exact put_take h1 no _ fun y hy => h3 y (List.mem_of_mem_head? hy)
theorem put_new (hS : Srt m) (hk : k ≤ m.length) (h1 : ∀ j, j < k → bytesBefore (m.getD j ([], 0)).1 s = true) (h2 : k < m.length → bytesBefore s (m.getD k ([], 0)).1 = true) (no : Nat) : nput m s no = m.take k ++ (s, no) :: m.drop k := by
  have h3 : ∀ p ∈ m.drop k, bytesBefore s p.1 = true := fun p hp => by
    obtain ⟨j, hj, hl, rfl⟩ := mem_drop_at hp
    by_cases e : j = k
    · subst e; exact h2 hl
    · exact Go.WideShapes.bytes_trans _ _ _ (h2 (by omega)) (hS.lt (show k < j by omega) hl)
  unfold nput
  conv => lhs; rw [← List.take_append_drop k m]
  rw [ndel_append, take_self h1]
  rw [ndel_self (m := m.drop k) fun p hp => (before_ne (h3 p hp)).symm]
  exact put_take h1 no _ fun y hy => h3 y (List.mem_of_mem_head? hy)
end
/-- append of another row, wherever it lies. -/
theorem wpList_appR {ops : Array Oper} {rest : List Oper} {o : Oper} {a : Act} {Q : Exit → Act → World → Prop} {w : World} (S T sz bytes : Nat) (z : Value) (hu : Tryz.prog.underlying S = some (.slice T)) (hi : (Tryz.prog.info? T).map (fun i => (i.zero, i.size, i.bytes)) = some (some z, sz, bytes)) (hz : z.cells.size = sz) (hsz : 0 < sz)
    (hgd : o.guard = none) (s x : Operand) (ho : o.op = .call { callee := .builtin .append, args := #[s, x], argTypes := #[S, S] })
    (B : Nat) (v : Value) (n : Nat) (cs : List Value) (hs : a.eval s = v) (hown : w.ownsRow B T sz v n cs) (ao : Option Addr) (m c : Nat) (news : List Value) (hx : a.eval x = .slice ao m c) (hl : news.length = m * sz)
    (hnone : ao = none → m = 0 ∧ c = 0) (hcell : ∀ ad, ao = some ad → ∀ (j : Nat) (u : Value), news[j]? = some u → w.cell? (ad.add j) = some u) (h1 : ∀ u ∈ news, u.oneCell' = true) (hlen : n + m ≤ 1000000000) (hby : bytes ≤ 10000) (hB : B ≤ w.heap.size)
    (h : ∀ ao' cap' w', w'.ownsRow B T sz (.slice ao' (n + m) cap') (n + m) (cs ++ news) → w.grownBy w' v.ownBlock → wpList Tryz.prog ops Q rest (a.put o.dst (.slice ao' (n + m) cap')) w') : wpList Tryz.prog ops Q (o :: rest) a w := by
  obtain ⟨i0, hi0, hz0, hz1, hz2⟩ := info_parts hi
  cases ao with
  | none =>
    obtain ⟨rfl, rfl⟩ := hnone rfl
    obtain rfl : news = [] := List.length_eq_zero_iff.1 (by omega)
    have hrun := run_append_owned_none (P := Tryz.prog) (w := w) B S o.type T i0 sz hu hi0 v n _ hown
    refine wpList_plain hgd fun K hK => ?_
    unfold Oper.wp
    simp [execOp, ho, resolve, invoke, builtin, hs, hx, hrun, Result.andThen]
    refine hK _ _ ?_
    obtain ⟨ao', cap', rfl⟩ := rowShape hown
    exact h ao' cap' w (by simpa using hown) ⟨rfl, rfl, rfl, Nat.le_refl _, fun _ _ _ => rfl⟩
  | some ad =>
    have hmul : (n + m) * bytes ≤ 140737488355328 := Nat.le_trans (Nat.mul_le_mul hlen hby) (by decide)
    refine wpList_append_own_at w hgd s x S ho B T i0 z sz bytes hu hi0 hz0 hz1 hz2 hz hsz v n cs hs hown ad m c news hx hl (hcell ad rfl) h1 (by unfold maxLen; omega) hmul hB ?_
    intro v' w' hown' hgrow _ _
    obtain ⟨ao', cap', rfl⟩ := rowShape hown'
    exact h ao' cap' w' hown' hgrow
theorem ncells_append : ∀ (b a : NM), ncells (a ++ b) = ncells a ++ ncells b
  | [], a => by rw [List.append_nil]; exact (List.append_nil _).symm
  | x :: r, a => by
    have h1 := ncells_append r (a ++ [x])
    have h2 := ncells_append r [x]
    have h3 := ncells_app a x
    have h4 := ncells_app [] x
    rw [List.append_assoc, List.singleton_append] at h1
    rw [List.singleton_append] at h2
    rw [h1, h3, h2, List.append_assoc]
    rw [List.nil_append] at h4
    rw [h4]; rfl
theorem length_ncells (m : NM) : (ncells m).length = m.length * 2 := length_flatR (m := 2) (fun _ => rfl) _
theorem ncells_drop (m : NM) {t : Nat} (ht : t ≤ m.length) {j : Nat} {u : Value} (h : (ncells (m.drop t))[j]? = some u) : (ncells m)[t * 2 + j]? = some u := by
  conv => lhs; rw [← List.take_append_drop t m]
  rw [ncells_append, List.getElem?_append_right (by rw [length_ncells, List.length_take, Nat.min_eq_left ht]; omega), length_ncells, List.length_take, Nat.min_eq_left ht, Nat.add_sub_cancel_left]
  exact h
theorem ncell_one (m : NM) : ∀ u ∈ ncells m, u.oneCell' = true := by
  intro u hu
  unfold ncells at hu
  obtain ⟨j, -, hu⟩ := List.mem_flatMap.1 hu
  unfold ncell at hu
  simp at hu
  rcases hu with rfl | rfl <;> rfl
theorem NRow.lt {w : World} {B : Nat} {v : Value} {m : NM} (h : NRow w B v m) (j : Nat) (hj : v.ownBlock = some j) : B ≤ j ∧ j < w.heap.size := World.ownsRow.lt h j hj
theorem NRow.fin {w w' : World} {B n m2 : Nat} {L R M : NM} {ao : Option Addr} {cap : Nat} (hM : M = L ++ R) (hL : L.length = n) (hR : R.length = m2) (h : w'.ownsRow B 124 2 (.slice ao (n + m2) cap) (n + m2) (ncells L ++ ncells R)) (hb : Below B w w') :
    ∃ ao' cap', Ending.returned (.slice ao (n + m2) cap) = Ending.returned (.slice ao' M.length cap') ∧ NRow w' B (.slice ao' M.length cap') M ∧ Below B w w' := by
  subst hM
  have e : (L ++ R).length = n + m2 := by rw [List.length_append, hL, hR]
  rw [e]
  refine ⟨ao, cap, rfl, ?_, hb⟩
  unfold NRow
  rw [e, ncells_append]; exact h
set_option maxRecDepth 100000 in
set_option maxHeartbeats 2000000 in
theorem put_any (v : Value) (m : NM) (s : Bs) (no : Nat) (B : Nat) (w : World) (hv : NRow w B v m) (hS : Srt m) (hl : m.length ≤ 1000000) (hno : no ≤ 1000000) :
    Calls Tryz.prog 86 #[v, .string ⟨s.toArray⟩, .int .i64 (no : Int)] w fun e w' => ∃ ao cap, e = .returned (.slice ao (nput m s no).length cap) ∧ NRow w' w.heap.size (.slice ao (nput m s no).length cap) (nput m s no) ∧ Below w.heap.size w w' := by
  have HV := Lib.hid hv
  have HS := Lib.hid hS
  obtain ⟨ao, cap, rfl⟩ := rowShape hv
  obtain ⟨n, hn⟩ : ∃ n, m.length = n := ⟨_, rfl⟩
  have HN := Lib.hid hn
  rw [hn] at HV hl ⊢
  clear hv hn hS
  go_enter Tryz.func86, Tryz.ntmps86
  go_wp2
  go_loopw [7, 8] (fun o i wr => ∃ k : Nat, k ≤ n ∧ i = .int .i64 (k : Int) ∧ NRow wr w.heap.size o (m.take k) ∧ Below w.heap.size w wr ∧ ∀ j, j < k → bytesBefore (m.getD j ([], 0)).1 s = true) (fun _ i _ => n - (intOf i).toNat)
  case atStart => exact ⟨0, Nat.zero_le _, rfl, NRow.nil _ _, Below.refl _ _, fun j hj => absurd hj (Nat.not_lt_zero j)⟩
  case round =>
    obtain ⟨k, hk, rfl, ho, hb, hA⟩ := hrel
    obtain ⟨oo, ocap, rfl⟩ := ho.shapeN (n := k) (by rw [List.length_take, HN.out]; omega)
    have HO := Lib.hid ho
    have HB := Lib.hid hb
    have HA := Lib.hid hA
    clear ho hA
    by_cases hlt : k < n
    · obtain ⟨g, rfl, -, hgl, hcap, cw0, cw1⟩ := HV.out.cellAt HN.out hlt
      have c0 := (hb.cell (p := ⟨g, k * 2, none⟩) hgl).trans cw0
      have c1 := (hb.cell (p := ⟨g, k * 2 + 1, none⟩) hgl).trans cw1
      have i1 : (0 : Int) ≤ (k : Int) := by omega
      have i2 : (k : Int) < (n : Int) := by omega
      generalize hp : m.getD k ([], 0) = p at *
      have HP := Lib.hid hp
      clear hp
      obtain ⟨a, x⟩ := p
      simp only at c0 c1 cw0 cw1
      have HTL : Hid ((m.take k).length = k) := by show _ = _; rw [List.length_take, HN.out]; omega
      have HOW := Lib.hid (HO.out.own HTL.out)
      cases hlss : Op.bytesLess a s with
      | true =>
        have HS1 : Hid (m.take (k + 1) = m.take k ++ [(a, x)]) := by show _ = _; rw [take_app m ([], 0) (by rw [HN.out]; exact hlt), HP.out]
        have HA1 : Hid (∀ j, j < k + 1 → bytesBefore (m.getD j ([], 0)).1 s = true) := fun j hj => by
          by_cases e : j = k
          · rw [e, HP.out, ← less_before]; exact hlss
          · exact HA.out j (by omega)
        go_wp2_with (at_builtin; refine wpList_row1 78 124 2 24 _ Tryz.underlying78 infoN rfl (by decide) rfl (.tmp 22) (.tmp 27) rfl w.heap.size _ _ _ [.string ⟨a.toArray⟩, .int .i64 (x : Int)] rfl HOW.out rfl (by simp) rfl (by intro u hu; simp at hu; rcases hu with rfl | rfl <;> rfl) (by omega) (by decide) HB.out.size ?_; intro v' w2 hown2 hb2 hg2 hat2; obtain ⟨a2, c2', hv2⟩ := rowShape hown2; subst hv2; have HO2 := Lib.hid (NRow.app HTL.out hown2); have HB2 := Lib.hid (HB.out.trans hb2); clear hown2 hb2 hg2 hat2)
        go_wp2
        go_roundw
        case rel => exact ⟨k + 1, by omega, by go_num, by rw [HS1.out]; exact HO2.out, HB2.out, HA1.out⟩
        case measure => simp [intOf]; omega
      | false =>
        have HLS := Lib.hid hlss
        by_cases hq : a = s
        · subst hq
          have q : (a == a) = true := by simp
          obtain ⟨t, ht⟩ : ∃ t, k + 1 = t := ⟨_, rfl⟩
          have i3 : IntKind.i64.wrap ((k : Int) + 1) = (t : Int) := by rw [IntWalk.i64_in _ (by omega)]; omega
          have i4 : (0 : Int) ≤ (t : Int) := by omega
          have i5 : (t : Int) ≤ (n : Int) := by omega
          have i6 : t ≤ n := by omega
          have HTT := Lib.hid ht
          clear ht
          by_cases hct : cap = t
          · have HTL2 : Hid ((m.take k ++ [(a, no)]).length = k + 1) := by show _ = _; rw [List.length_append, List.length_singleton, HTL.out]
            have HDL : Hid ((ncells (m.drop t)).length = (n - t) * 2) := by show _ = _; rw [length_ncells, List.length_drop, HN.out]
            have HDC : Hid (∀ {j : Nat} {u : Value}, (ncells (m.drop t))[j]? = some u → (ncells m)[t * 2 + j]? = some u) := fun h => ncells_drop m (by rw [HN.out]; omega) h
            have HEND : Hid (nput m a no = (m.take k ++ [(a, no)]) ++ m.drop t) := by show _ = _; rw [List.append_assoc]; exact (by rw [← HTT.out]; exact put_at HS.out (by rw [HN.out]; exact hlt) HA.out (by rw [HP.out]) no)
            go_wp2_with (first | (at_builtin; refine wpList_appR 78 124 2 24 _ Tryz.underlying78 infoN rfl (by decide) rfl (.tmp 52) (.tmp 55) rfl w.heap.size _ (k + 1) (ncells (m.take k ++ [(a, no)])) rfl (HO2.out.own HTL2.out) _ (n - t) _ (ncells (m.drop t)) rfl HDL.out (fun e => by cases e) (fun ad e j u hj => by obtain rfl := Option.some.inj e; first | (rw [Go.WideShapes.add_plain]; exact row_cellAt (HV2.out.own HN.out) (HDC.out hj)) | (exfalso; have h9 : m.drop t = [] := List.drop_eq_nil_of_le (by rw [HN.out]; omega); rw [h9] at hj; cases hj)) (ncell_one _) (by omega) (by decide) (Nat.le_trans (Nat.le_refl _) HB2.out.size) ?_; intro ao3 cap3 w3 hown3 hg3; have HO3 := Lib.hid hown3; have HG3 := Lib.hid hg3; clear hown3 hg3) | (at_builtin; refine wpList_row1 78 124 2 24 _ Tryz.underlying78 infoN rfl (by decide) rfl (.tmp 31) (.tmp 35) rfl w.heap.size _ _ _ [.string ⟨a.toArray⟩, .int .i64 (no : Int)] rfl HOW.out rfl (by simp) rfl (by intro u hu; simp at hu; rcases hu with rfl | rfl <;> rfl) (by omega) (by decide) HB.out.size ?_; intro v' w2 hown2 hb2 hg2 hat2; obtain ⟨a2, c2', hv2⟩ := rowShape hown2; subst hv2; have HO2 := Lib.hid (NRow.app HTL.out hown2); have HB2 := Lib.hid (HB.out.trans hb2); have HV2 := Lib.hid (HV.out.ext HB2.out); have d0 := (HB2.out.cell (p := ⟨g, k * 2, none⟩) hgl).trans cw0; clear hown2 hb2 hg2 hat2))
            all_goals
              go_wp2
              go_returns
              exact NRow.fin HEND.out HTL2.out (by rw [List.length_drop, HN.out]) HO3.out (HB2.out.grown HG3.out HB2.out.size (fun j hj => (HO2.out.lt j hj).1))
          · have HTL2 : Hid ((m.take k ++ [(a, no)]).length = k + 1) := by show _ = _; rw [List.length_append, List.length_singleton, HTL.out]
            have HDL : Hid ((ncells (m.drop t)).length = (n - t) * 2) := by show _ = _; rw [length_ncells, List.length_drop, HN.out]
            have HDC : Hid (∀ {j : Nat} {u : Value}, (ncells (m.drop t))[j]? = some u → (ncells m)[t * 2 + j]? = some u) := fun h => ncells_drop m (by rw [HN.out]; omega) h
            have HEND : Hid (nput m a no = (m.take k ++ [(a, no)]) ++ m.drop t) := by show _ = _; rw [List.append_assoc]; exact (by rw [← HTT.out]; exact put_at HS.out (by rw [HN.out]; exact hlt) HA.out (by rw [HP.out]) no)
            go_wp2_with (first | (at_builtin; refine wpList_appR 78 124 2 24 _ Tryz.underlying78 infoN rfl (by decide) rfl (.tmp 52) (.tmp 55) rfl w.heap.size _ (k + 1) (ncells (m.take k ++ [(a, no)])) rfl (HO2.out.own HTL2.out) _ (n - t) _ (ncells (m.drop t)) rfl HDL.out (fun e => by cases e) (fun ad e j u hj => by obtain rfl := Option.some.inj e; first | (rw [Go.WideShapes.add_plain]; exact row_cellAt (HV2.out.own HN.out) (HDC.out hj)) | (exfalso; have h9 : m.drop t = [] := List.drop_eq_nil_of_le (by rw [HN.out]; omega); rw [h9] at hj; cases hj)) (ncell_one _) (by omega) (by decide) (Nat.le_trans (Nat.le_refl _) HB2.out.size) ?_; intro ao3 cap3 w3 hown3 hg3; have HO3 := Lib.hid hown3; have HG3 := Lib.hid hg3; clear hown3 hg3) | (at_builtin; refine wpList_row1 78 124 2 24 _ Tryz.underlying78 infoN rfl (by decide) rfl (.tmp 31) (.tmp 35) rfl w.heap.size _ _ _ [.string ⟨a.toArray⟩, .int .i64 (no : Int)] rfl HOW.out rfl (by simp) rfl (by intro u hu; simp at hu; rcases hu with rfl | rfl <;> rfl) (by omega) (by decide) HB.out.size ?_; intro v' w2 hown2 hb2 hg2 hat2; obtain ⟨a2, c2', hv2⟩ := rowShape hown2; subst hv2; have HO2 := Lib.hid (NRow.app HTL.out hown2); have HB2 := Lib.hid (HB.out.trans hb2); have HV2 := Lib.hid (HV.out.ext HB2.out); have d0 := (HB2.out.cell (p := ⟨g, k * 2, none⟩) hgl).trans cw0; clear hown2 hb2 hg2 hat2))
            all_goals
              go_wp2
              go_returns
              exact NRow.fin HEND.out HTL2.out (by rw [List.length_drop, HN.out]) HO3.out (HB2.out.grown HG3.out HB2.out.size (fun j hj => (HO2.out.lt j hj).1))
        · have q : (a == s) = false := by simpa using hq
          have i5 : (k : Int) ≤ (n : Int) := by omega
          have HGT : Hid (bytesBefore s a = true) := by
            rcases Go.WideAt.bytes_total a s hq with h | h
            · rw [← less_before, HLS.out] at h; cases h
            · exact h
          have HTL2 : Hid ((m.take k ++ [(s, no)]).length = k + 1) := by show _ = _; rw [List.length_append, List.length_singleton, HTL.out]
          have HDL : Hid ((ncells (m.drop k)).length = (n - k) * 2) := by show _ = _; rw [length_ncells, List.length_drop, HN.out]
          have HDC : Hid (∀ {j : Nat} {u : Value}, (ncells (m.drop k))[j]? = some u → (ncells m)[k * 2 + j]? = some u) := fun h => ncells_drop m (by rw [HN.out]; omega) h
          have HEND : Hid (nput m s no = (m.take k ++ [(s, no)]) ++ m.drop k) := by show _ = _; rw [List.append_assoc]; exact put_new HS.out (by rw [HN.out]; omega) HA.out (fun _ => by rw [HP.out]; exact HGT.out) no
          go_wp2_with (first | (at_builtin; refine wpList_appR 78 124 2 24 _ Tryz.underlying78 infoN rfl (by decide) rfl (.tmp 52) (.tmp 55) rfl w.heap.size _ (k + 1) (ncells (m.take k ++ [(s, no)])) rfl (HO2.out.own HTL2.out) _ (n - k) _ (ncells (m.drop k)) rfl HDL.out (fun e => by cases e) (fun ad e j u hj => by obtain rfl := Option.some.inj e; first | (rw [Go.WideShapes.add_plain]; exact row_cellAt (HV2.out.own HN.out) (HDC.out hj)) | (exfalso; have h9 : m.drop k = [] := List.drop_eq_nil_of_le (by rw [HN.out]; omega); rw [h9] at hj; cases hj)) (ncell_one _) (by omega) (by decide) (Nat.le_trans (Nat.le_refl _) HB2.out.size) ?_; intro ao3 cap3 w3 hown3 hg3; have HO3 := Lib.hid hown3; have HG3 := Lib.hid hg3; clear hown3 hg3) | (at_builtin; refine wpList_row1 78 124 2 24 _ Tryz.underlying78 infoN rfl (by decide) rfl (.tmp 31) (.tmp 35) rfl w.heap.size _ _ _ [.string ⟨s.toArray⟩, .int .i64 (no : Int)] rfl HOW.out rfl (by simp) rfl (by intro u hu; simp at hu; rcases hu with rfl | rfl <;> rfl) (by omega) (by decide) HB.out.size ?_; intro v' w2 hown2 hb2 hg2 hat2; obtain ⟨a2, c2', hv2⟩ := rowShape hown2; subst hv2; have HO2 := Lib.hid (NRow.app HTL.out hown2); have HB2 := Lib.hid (HB.out.trans hb2); have HV2 := Lib.hid (HV.out.ext HB2.out); have d0 := (HB2.out.cell (p := ⟨g, k * 2, none⟩) hgl).trans cw0; clear hown2 hb2 hg2 hat2))
          all_goals
            go_wp2
            go_returns
            exact NRow.fin HEND.out HTL2.out (by rw [List.length_drop, HN.out]) HO3.out (HB2.out.grown HG3.out HB2.out.size (fun j hj => (HO2.out.lt j hj).1))
    · obtain rfl : k = n := by omega
      have HTL : Hid ((m.take k).length = k) := by show _ = _; rw [List.length_take, HN.out]; omega
      have HOW := Lib.hid (HO.out.own HTL.out)
      have HTL2 : Hid ((m.take k ++ [(s, no)]).length = k + 1) := by show _ = _; rw [List.length_append, List.length_singleton, HTL.out]
      have HEND : Hid (nput m s no = (m.take k ++ [(s, no)]) ++ []) := by
        have h9 := put_new HS.out (k := k) (by rw [HN.out]; omega) HA.out (fun h => by rw [HN.out] at h; omega) no
        rw [List.drop_eq_nil_of_le (by rw [HN.out]; omega)] at h9
        show _ = _
        rw [List.append_nil]; exact h9
      rcases row_head HV.out with ⟨e, h0⟩ | ⟨g, cap', e, -, -, hcap, -⟩
      · obtain ⟨rfl, h01, rfl⟩ := Value.slice.inj e
        have hk0 : (k : Int) ≤ 0 := by omega
        have hk1 : k ≤ 0 := by omega
        clear h01 h0 e
        go_wp2_with (first | (at_builtin; refine wpList_appR 78 124 2 24 _ Tryz.underlying78 infoN rfl (by decide) rfl (.tmp 52) (.tmp 55) rfl w.heap.size _ (k + 1) (ncells (m.take k ++ [(s, no)])) rfl (HO2.out.own HTL2.out) _ 0 _ [] rfl rfl (fun _ => ⟨rfl, rfl⟩) (fun ad e j u hj => by simp at hj) (fun u hu => by simp at hu) (by omega) (by decide) (Nat.le_trans (Nat.le_refl _) HB2.out.size) ?_; intro ao3 cap3 w3 hown3 hg3; have HO3 := Lib.hid hown3; have HG3 := Lib.hid hg3; clear hown3 hg3) | (at_builtin; refine wpList_row1 78 124 2 24 _ Tryz.underlying78 infoN rfl (by decide) rfl (.tmp 31) (.tmp 35) rfl w.heap.size _ _ _ [.string ⟨s.toArray⟩, .int .i64 (no : Int)] rfl HOW.out rfl (by simp) rfl (by intro u hu; simp at hu; rcases hu with rfl | rfl <;> rfl) (by omega) (by decide) HB.out.size ?_; intro v' w2 hown2 hb2 hg2 hat2; obtain ⟨a2, c2', hv2⟩ := rowShape hown2; subst hv2; have HO2 := Lib.hid (NRow.app HTL.out hown2); have HB2 := Lib.hid (HB.out.trans hb2); clear hown2 hb2 hg2 hat2))
        all_goals
          go_wp2
          go_returns
          exact NRow.fin (R := []) (m2 := 0) HEND.out HTL2.out rfl HO3.out (HB2.out.grown HG3.out HB2.out.size (fun j hj => (HO2.out.lt j hj).1))
      · obtain ⟨rfl, -, rfl⟩ := Value.slice.inj e
        have hcap2 : k ≤ cap := by rw [HN.out] at hcap; exact hcap
        clear hcap e
        by_cases hct : cap = k
        · have hct2 := hct.symm
          clear hct
          subst hct2
          go_wp2_with (first | (at_builtin; refine wpList_appR 78 124 2 24 _ Tryz.underlying78 infoN rfl (by decide) rfl (.tmp 52) (.tmp 55) rfl w.heap.size _ (k + 1) (ncells (m.take k ++ [(s, no)])) rfl (HO2.out.own HTL2.out) _ 0 _ [] rfl rfl (fun e => by cases e) (fun ad e j u hj => by simp at hj) (fun u hu => by simp at hu) (by omega) (by decide) (Nat.le_trans (Nat.le_refl _) HB2.out.size) ?_; intro ao3 cap3 w3 hown3 hg3; have HO3 := Lib.hid hown3; have HG3 := Lib.hid hg3; clear hown3 hg3) | (at_builtin; refine wpList_row1 78 124 2 24 _ Tryz.underlying78 infoN rfl (by decide) rfl (.tmp 31) (.tmp 35) rfl w.heap.size _ _ _ [.string ⟨s.toArray⟩, .int .i64 (no : Int)] rfl HOW.out rfl (by simp) rfl (by intro u hu; simp at hu; rcases hu with rfl | rfl <;> rfl) (by omega) (by decide) HB.out.size ?_; intro v' w2 hown2 hb2 hg2 hat2; obtain ⟨a2, c2', hv2⟩ := rowShape hown2; subst hv2; have HO2 := Lib.hid (NRow.app HTL.out hown2); have HB2 := Lib.hid (HB.out.trans hb2); clear hown2 hb2 hg2 hat2))
          all_goals
            go_wp2
            go_returns
            exact NRow.fin (R := []) (m2 := 0) HEND.out HTL2.out rfl HO3.out (HB2.out.grown HG3.out HB2.out.size (fun j hj => (HO2.out.lt j hj).1))
        · go_wp2_with (first | (at_builtin; refine wpList_appR 78 124 2 24 _ Tryz.underlying78 infoN rfl (by decide) rfl (.tmp 52) (.tmp 55) rfl w.heap.size _ (k + 1) (ncells (m.take k ++ [(s, no)])) rfl (HO2.out.own HTL2.out) _ 0 _ [] rfl rfl (fun e => by cases e) (fun ad e j u hj => by simp at hj) (fun u hu => by simp at hu) (by omega) (by decide) (Nat.le_trans (Nat.le_refl _) HB2.out.size) ?_; intro ao3 cap3 w3 hown3 hg3; have HO3 := Lib.hid hown3; have HG3 := Lib.hid hg3; clear hown3 hg3) | (at_builtin; refine wpList_row1 78 124 2 24 _ Tryz.underlying78 infoN rfl (by decide) rfl (.tmp 31) (.tmp 35) rfl w.heap.size _ _ _ [.string ⟨s.toArray⟩, .int .i64 (no : Int)] rfl HOW.out rfl (by simp) rfl (by intro u hu; simp at hu; rcases hu with rfl | rfl <;> rfl) (by omega) (by decide) HB.out.size ?_; intro v' w2 hown2 hb2 hg2 hat2; obtain ⟨a2, c2', hv2⟩ := rowShape hown2; subst hv2; have HO2 := Lib.hid (NRow.app HTL.out hown2); have HB2 := Lib.hid (HB.out.trans hb2); clear hown2 hb2 hg2 hat2))
          all_goals
            go_wp2
            go_returns
            exact NRow.fin (R := []) (m2 := 0) HEND.out HTL2.out rfl HO3.out (HB2.out.grown HG3.out HB2.out.size (fun j hj => (HO2.out.lt j hj).1))
end

/-! kinref5.done: contract; names stay in order. -/
section
open Go.RowKit Go.Extern.Stop Go.Stop Go.Extern

theorem Srt.ndel {m : NM} (h : Srt m) (k : Bs) : Srt (ndel m k) := List.Pairwise.sublist List.filter_sublist h
theorem Srt.nput {m : NM} (h : Srt m) (k : Bs) (v : Nat) : Srt (nput m k v) := by
  unfold Go.Proofs.YtdiaejphgcoknaaGreatDoor.nput
  have h1 := h.ndel k
  have h2 : ∀ p ∈ Go.Proofs.YtdiaejphgcoknaaGreatDoor.ndel m k, p.1 ≠ k := fun p hp => by have := (List.mem_filter.1 hp).2; simpa using this
  generalize Go.Proofs.YtdiaejphgcoknaaGreatDoor.ndel m k = l at *
  induction l with
  | nil => exact List.pairwise_singleton _ _
  | cons y r ih =>
    obtain ⟨h3, h4⟩ := List.pairwise_cons.1 h1
    unfold nins
    split
    · rename_i hb
      refine List.pairwise_cons.2 ⟨fun p hp => ?_, h1⟩
      rcases List.mem_cons.1 hp with rfl | hp
      · exact hb
      · exact Go.WideShapes.bytes_trans _ _ _ hb (h3 p hp)
    · rename_i hb
      refine List.pairwise_cons.2 ⟨fun p hp => ?_, ih h4 fun p hp => h2 p (by simp [hp])⟩
      rcases mem_nins.1 hp with rfl | hp
      · rcases Go.WideAt.bytes_total k y.1 (fun e => h2 y (by simp) e.symm) with h5 | h5
        · exact absurd h5 hb
        · exact h5
      · exact h3 p hp
theorem Srt.actN {m : NM} (h : Srt m) (s : Stp) : Srt (actN m s) := by
  unfold Go.Proofs.YtdiaejphgcoknaaGreatDoor.actN
  split
  · exact h.nput _ _
  · split
    · exact (h.ndel _).nput _ _
    · exact h.ndel _
theorem Srt.acts : ∀ (l : List Stp) {m : NM}, Srt m → Srt (l.foldl Go.Proofs.YtdiaejphgcoknaaGreatDoor.actN m)
  | [], _, h => h
  | s :: r, _, h => Srt.acts r (h.actN s)
/-- What kinref5.done does, the file's number written out. -/
def doneV (m : NM) (s : Stp) (no : Nat) : NM := if s.kind = 0 then nput m s.name no else if s.kind = 1 then nput (ndel m s.name) s.to no else ndel m s.name
def kstepV (s : Stp) (no : Nat) : Value := .agg #[.int .i64 ((s.kind : Int) + 1), .string ⟨s.name.toArray⟩, .string ⟨s.to.toArray⟩, .int .i64 (no : Int)]
def NPost (w : World) (M : NM) (e : Ending) (w' : World) : Prop := ∃ ao cap, e = .returned (.slice ao M.length cap) ∧ NRow w' w.heap.size (.slice ao M.length cap) M ∧ Below w.heap.size w w'
theorem NRow.mono {w : World} {B B' : Nat} {v : Value} {m : NM} (h : NRow w B v m) (hB : B' ≤ B) : NRow w B' v m := row_mono h hB
set_option maxRecDepth 100000 in
set_option maxHeartbeats 1000000 in
theorem done_any (v : Value) (m : NM) (s : Stp) (no : Nat) (B : Nat) (w : World) (hv : NRow w B v m) (hS : Srt m) (hl : m.length ≤ 1000000) (hno : no ≤ 1000000) (hk : s.kind ≤ 2) :
    Calls Tryz.prog 72 #[v, kstepV s no] w (NPost w (doneV m s no)) := by
  have HV := Lib.hid hv
  obtain ⟨kd, nm, to, fl⟩ := s
  simp only at hk
  have hk3 : kd = 0 ∨ kd = 1 ∨ kd = 2 := by omega
  unfold kstepV
  rcases hk3 with rfl | rfl | rfl
  · have C := Lib.hid (fun w' (h : Below w.heap.size w w') => put_any v m nm no B w' (hv.ext h) hS hl hno)
    have e : doneV m ⟨0, nm, to, fl⟩ no = nput m nm no := rfl
    rw [e]
    clear hv hS e
    generalize nput m nm no = M at *
    go_enter Tryz.func72, Tryz.ntmps72
    go_wp2_with (go_at_call 86; refine (C.out _ (by go_grown)).mono ?_; rintro e w1 ⟨ao1, cap1, rfl, ho1, hb1⟩; have HO := Lib.hid ho1; have HB := Lib.hid hb1; clear ho1 hb1)
    go_returns
    exact ⟨ao1, cap1, rfl, HO.out.mono (show Below w.heap.size w _ from by go_grown).size, ext (by go_grown) HB.out⟩
  · have C := Lib.hid (fun w' (h : Below w.heap.size w w') => drop_any v m nm B w' (hv.ext h) hl)
    have C2 := Lib.hid (fun w' B' v' (h : NRow w' B' v' (ndel m nm)) => put_any v' (ndel m nm) to no B' w' h (hS.ndel nm) (by have := length_ndel m nm; omega) hno)
    have e : doneV m ⟨1, nm, to, fl⟩ no = nput (ndel m nm) to no := rfl
    rw [e]
    clear hv hS e
    generalize nput (ndel m nm) to no = M at *
    generalize ndel m nm = M1 at *
    go_enter Tryz.func72, Tryz.ntmps72
    obtain ⟨wb, hwb⟩ : ∃ wb, wb = w.alloc (.cells #[.int .i64 2, .string ⟨nm.toArray⟩, .string ⟨to.toArray⟩, .int .i64 (no : Int)] 122) := ⟨_, rfl⟩
    have BQ : Blk wb w.heap.size #[.int .i64 2, .string ⟨nm.toArray⟩, .string ⟨to.toArray⟩, .int .i64 (no : Int)] 122 := by rw [hwb]; exact Blk.new w _ _
    have HP : Hid (∀ wx, Below wb.heap.size wb wx → wx.cell? ⟨w.heap.size, 1, none⟩ = some (.string ⟨nm.toArray⟩) ∧ wx.cell? ⟨w.heap.size, 2, none⟩ = some (.string ⟨to.toArray⟩) ∧ wx.cell? ⟨w.heap.size, 3, none⟩ = some (.int .i64 (no : Int))) := fun wx hb => ⟨(BQ.ext hb).cell 1, (BQ.ext hb).cell 2, (BQ.ext hb).cell 3⟩
    have SA := Lib.hid (HP.out wb.drew (Below.refl _ _).drew)
    have HBW := Lib.hid (show Below w.heap.size w wb from by rw [hwb]; exact (Below.refl _ _).alloc (Nat.le_refl _) _)
    have z1 : wb.cell? ⟨w.heap.size, 1, none⟩ = some (.string ⟨nm.toArray⟩) := BQ.cell 1
    have z0 : wb.cell? ⟨w.heap.size, 0, none⟩ = some (.int .i64 2) := BQ.cell 0
    have HWB := Lib.hid hwb
    clear BQ
    go_wp2
    rw [← HWB.out]
    clear hwb
    go_region_held3 (fun w' => w'.cell? ⟨w.heap.size, 1, none⟩ = some (.string ⟨nm.toArray⟩) ∧ w'.cell? ⟨w.heap.size, 2, none⟩ = some (.string ⟨to.toArray⟩) ∧ w'.cell? ⟨w.heap.size, 3, none⟩ = some (.int .i64 (no : Int)))
      (first | with_reducible exact SA.out | with_reducible exact SB.out | with_reducible exact SC.out | go_keep)
      (first
        | (go_at_call 86; refine (C2.out _ _ _ HO.out).mono ?_; rintro e w2 ⟨ao2, cap2, rfl, ho2, hb2⟩; have HO2 := Lib.hid ho2; have HB2 := Lib.hid (ext HB.out hb2); have HS1 := Lib.hid HB.out.size; have SC := Lib.hid (HP.out w2 HB2.out); clear ho2 hb2)
        | (go_at_call 87; refine (C.out _ (ext HBW.out (by go_grown))).mono ?_; rintro e w1 ⟨ao1, cap1, rfl, ho1, hb1⟩; have HO := Lib.hid ho1; have HB : Hid (Below wb.heap.size wb w1) := Lib.hid (ext (by go_grown) hb1); have SB := Lib.hid (HP.out w1 HB.out); clear ho1 hb1))
    all_goals
      go_wp2
      go_returns
      exact ⟨ao2, cap2, rfl, HO2.out.mono (Nat.le_trans HBW.out.size HS1.out), ext HBW.out HB2.out⟩
  · have C := Lib.hid (fun w' (h : Below w.heap.size w w') => drop_any v m nm B w' (hv.ext h) hl)
    have e : doneV m ⟨2, nm, to, fl⟩ no = ndel m nm := rfl
    rw [e]
    clear hv hS e
    generalize ndel m nm = M at *
    go_enter Tryz.func72, Tryz.ntmps72
    go_wp2_with (go_at_call 87; refine (C.out _ (by go_grown)).mono ?_; rintro e w1 ⟨ao1, cap1, rfl, ho1, hb1⟩; have HO := Lib.hid ho1; have HB := Lib.hid hb1; clear ho1 hb1)
    go_returns
    exact ⟨ao1, cap1, rfl, HO.out.mono (show Below w.heap.size w _ from by go_grown).size, ext (by go_grown) HB.out⟩
end

/-! The document's disk in memory: it stands for the same plain disk. falls, down, body, asks: contracts. -/
section
open Go.RowKit Go.Extern.Stop Go.Stop Go.Extern

/-- Where its parts lie: bodies, names, sure names, steps, each body's bytes. -/
structure XLay where
  vb : Value
  vn : Value
  vu : Value
  vt : Value
  dv : List Value
def XLay.at (X : XLay) (j : Nat) : Value := X.dv.getD j .nilIface
def xcells (X : XLay) (D : DS) : Array Value := #[.int .i64 D.room, X.vb, X.vn, X.vu, X.vt, .int .i64 (D.all.length : Int), .int .i64 D.armed, .bool D.down, .int .i64 D.done]
def bodyc (D : DS) (bs : List Nat) (dv : List Value) (j : Nat) : List Value := [.int .i64 ((bs.getD j 0 : Nat) : Int), dv.getD j .nilIface, .int .i64 ((D.file (bs.getD j 0)).safe : Int)]
def bodycells (D : DS) (bs : List Nat) (dv : List Value) : List Value := (List.range bs.length).flatMap (bodyc D bs dv)
def kstepc (l : List Stp) (ns : List Nat) (j : Nat) : List Value := [.int .i64 (((l.getD j ⟨0, [], [], 0⟩).kind : Int) + 1), .string ⟨(l.getD j ⟨0, [], [], 0⟩).name.toArray⟩, .string ⟨(l.getD j ⟨0, [], [], 0⟩).to.toArray⟩, .int .i64 ((ns.getD j 0 : Nat) : Int)]
def kstepcells (l : List Stp) (ns : List Nat) : List Value := (List.range l.length).flatMap (kstepc l ns)
def XLay.has (X : XLay) (x k : Nat) : Prop := k = x ∨ X.vb.ownBlock = some k ∨ X.vn.ownBlock = some k ∨ X.vu.ownBlock = some k ∨ X.vt.ownBlock = some k ∨ ∃ j, j < X.dv.length ∧ (X.at j).ownBlock = some k
/-- The document's disk at x holds what D holds: bodies of the numbers bs; the steps' files are ns. -/
structure XP (w : World) (x : Nat) (X : XLay) (D : DS) (bs ns : List Nat) : Prop where
  blk : Blk w x (xcells X D) 81
  bod : w.ownsRow 0 116 3 X.vb bs.length (bodycells D bs X.dv)
  len : X.dv.length = bs.length
  dat : ∀ j, j < bs.length → w.ownsRow 0 5 1 (X.at j) (D.file (bs.getD j 0)).data.length (bcells (D.file (bs.getD j 0)).data)
  nam : NRow w 0 X.vn D.names
  sur : NRow w 0 X.vu D.safe
  stp : w.ownsRow 0 122 4 X.vt D.steps.length (kstepcells D.steps ns)
section
variable {w w' : World} {x : Nat} {X : XLay} {D D' : DS} {bs ns : List Nat}
theorem XP.lt (h : XP w x X D bs ns) {k : Nat} (hk : X.has x k) : k < w.heap.size := by
  rcases hk with rfl | hk | hk | hk | hk | ⟨j, hj, hk⟩
  · exact h.blk.lt
  · exact row_lt h.bod hk
  · exact row_lt h.nam hk
  · exact row_lt h.sur hk
  · exact row_lt h.stp hk
  · exact row_lt (h.dat j (by rw [← h.len]; exact hj)) hk
theorem XP.stays (h : XP w x X D bs ns) (hb : ∀ k, X.has x k → w'.heap[k]? = w.heap[k]?) : XP w' x X D bs ns where
  blk := h.blk.of_block (hb x (.inl rfl))
  bod := row_of_block h.bod fun k hk => hb k (.inr (.inl hk))
  len := h.len
  dat := fun j hj => row_of_block (h.dat j hj) fun k hk => hb k (.inr (.inr (.inr (.inr (.inr ⟨j, by rw [h.len]; exact hj, hk⟩)))))
  nam := row_of_block h.nam fun k hk => hb k (.inr (.inr (.inl hk)))
  sur := row_of_block h.sur fun k hk => hb k (.inr (.inr (.inr (.inl hk))))
  stp := row_of_block h.stp fun k hk => hb k (.inr (.inr (.inr (.inr (.inl hk)))))
theorem XP.ext (h : XP w x X D bs ns) (hb : Below w.heap.size w w') : XP w' x X D bs ns := h.stays fun k hk => hb.block k (h.lt hk)
theorem XP.cell (h : XP w x X D bs ns) (o : Nat) : w.cell? ⟨x, o, none⟩ = (xcells X D)[o]? := Blk.cell h.blk o
theorem XP.free (h : XP w x X D bs ns) (o : Nat) : w.frozen? ⟨x, o, none⟩ = false := Blk.free h.blk o
theorem XP.others (h : XP w x X D bs ns) : X.vb.ownBlock ≠ some x ∧ X.vn.ownBlock ≠ some x ∧ X.vu.ownBlock ≠ some x ∧ X.vt.ownBlock ≠ some x ∧ ∀ j, j < bs.length → (X.at j).ownBlock ≠ some x :=
  ⟨blk_row h.blk h.bod (by decide), blk_row h.blk h.nam (by decide), blk_row h.blk h.sur (by decide), blk_row h.blk h.stp (by decide), fun j hj => blk_row h.blk (h.dat j hj) (by decide)⟩
/-- The struct's own block alone has turned. -/
theorem XP.scalars (h : XP w x X D bs ns) (hB : Blk w' x (xcells X D') 81) (ho : ∀ k, k ≠ x → w'.heap[k]? = w.heap[k]?)
    (ha : D'.all = D.all) (hn : D'.names = D.names) (hs : D'.safe = D.safe) (hst : D'.steps = D.steps) : XP w' x X D' bs ns := by
  obtain ⟨o1, o2, o3, o4, o5⟩ := h.others
  have hf : D'.file = D.file := by funext j; unfold DS.file; rw [ha]
  have hbc : bodycells D' bs X.dv = bodycells D bs X.dv := by unfold bodycells bodyc; rw [hf]
  refine ⟨hB, ?_, h.len, ?_, ?_, ?_, ?_⟩
  · rw [hbc]; exact row_of_block h.bod fun k hk => ho k fun e => o1 (e ▸ hk)
  · rw [hf]; exact fun j hj => row_of_block (h.dat j hj) fun k hk => ho k fun e => o5 j hj (e ▸ hk)
  · rw [hn]; exact row_of_block h.nam fun k hk => ho k fun e => o2 (e ▸ hk)
  · rw [hs]; exact row_of_block h.sur fun k hk => ho k fun e => o3 (e ▸ hk)
  · rw [hst]; exact row_of_block h.stp fun k hk => ho k fun e => o4 (e ▸ hk)
end
/-- Numbers of the steps' files. -/
def Ann (bs : List Nat) : NM → List Stp → List Nat → Prop
  | _, [], [] => True
  | m, s :: r, n :: t => n ∈ bs ∧ (s.kind = 0 → n = s.file) ∧ (s.kind ≠ 0 → nget m s.name = some n) ∧ Ann bs (actN m s) r t
  | _, _, _ => False
/-- What always holds of the numbers. -/
structure XI (D : DS) (bs ns : List Nat) : Prop where
  srtN : Srt D.names
  srtS : Srt D.safe
  asc : bs.Pairwise (· < ·)
  lt : ∀ b ∈ bs, b < D.all.length
  valN : ∀ q ∈ D.names, q.2 ∈ bs
  valS : ∀ q ∈ D.safe, q.2 ∈ bs
  ann : Ann bs D.safe D.steps ns

set_option maxRecDepth 100000 in
theorem xfalls_any (x : Nat) (X : XLay) (D : DS) (bs ns : List Nat) (w : World) (h : XP w x X D bs ns) (hd0 : 0 ≤ D.done) (hd1 : D.done ≤ 1000000000) (ha : D.armed ≤ 9223372036854775807) :
    Calls Tryz.prog 85 #[.pointer (some ⟨x, 0, none⟩)] w fun e w' => e = .returned (.bool (downF D)) ∧ XP w' x X (fallD D) bs ns ∧ w.grownBy w' (some x) := by
  have H := Lib.hid h
  have c6 : w.cell? ⟨x, 6, none⟩ = some (.int .i64 D.armed) := h.cell 6
  have c7 : w.cell? ⟨x, 7, none⟩ = some (.bool D.down) := h.cell 7
  have c8 : w.cell? ⟨x, 8, none⟩ = some (.int .i64 D.done) := h.cell 8
  have f6 := h.free 6
  have f7 := h.free 7
  have f8 := h.free 8
  have q7 : IntKind.i64.wrap (D.done + 1) = D.done + 1 := IntWalk.i64_in _ (by omega)
  clear h
  by_cases hp : 0 < D.armed
  · have q5 : IntKind.i64.wrap (D.armed - 1) = D.armed - 1 := IntWalk.i64_in _ (by omega)
    go_enter Tryz.func85, Tryz.ntmps85
    go_wp2
    go_returns
    refine ⟨by unfold downF; rw [if_pos hp]; rfl, ?_, ?_⟩
    · have e : xcells X (fallD D) = (((xcells X D).setIfInBounds 8 (.int .i64 (D.done + 1))).setIfInBounds 6 (.int .i64 (D.armed - 1))).setIfInBounds 7 (.bool (D.armed - 1 == 0)) := by simp [xcells, fallD, armedF, downF, hp]
      refine H.out.scalars (by rw [e]; exact (((H.out.blk.set 8 _).set 6 _).set 7 _)) ?_ rfl rfl rfl rfl
      intro k hk
      rw [set_other _ _ _ _ k hk, set_other _ _ _ _ k hk, set_other _ _ _ _ k hk]
    · exact ((grown_set _ _ _ _).trans (grown_set _ _ _ _)).trans (grown_set _ _ _ _)
  · go_enter Tryz.func85, Tryz.ntmps85
    go_wp2
    go_returns
    have hp2 : ¬ 0 < D.armed := by omega
    refine ⟨by unfold downF; rw [if_neg hp2]; rfl, ?_, ?_⟩
    · have e : xcells X (fallD D) = (xcells X D).setIfInBounds 8 (.int .i64 (D.done + 1)) := by simp [xcells, fallD, armedF, downF, hp2]
      refine H.out.scalars (by rw [e]; exact H.out.blk.set 8 _) ?_ rfl rfl rfl rfl
      intro k hk
      exact set_other _ _ _ _ k hk
    · exact grown_set _ _ _ _
theorem xdown_any (w : World) : Calls Tryz.prog 73 #[] w fun e w' => e = .returned (.agg #[.int .i64 10, .slice none 0 0]) ∧ Below w.heap.size w w' := by
  have BQ := Lib.hid (Blk.new w #[.int .i64 0, .slice none 0 0] 45)
  go_enter Tryz.func73, Tryz.ntmps73
  go_wp2_with (go_at_call 22; refine (fail_any _ _).mono ?_; rintro e w1 ⟨rfl, hb1⟩; have B1 := Lib.hid (BQ.out.ext hb1); have HB := Lib.hid hb1; obtain ⟨x0, x1, x2, x3⟩ := B1.out.two; clear hb1)
  obtain ⟨r0, r1, r2, r3⟩ := (B1.out.set2 (.int .i64 10) (.slice none 0 0)).two
  refine bodyPost_ret (by simp [results, Tryz.results73, go_sem, r0, r1, r2, r3]; try rfl) rfl ?_
  exact ⟨rfl, below_set (below_set (ext (by go_grown) HB.out) (Nat.le_refl _) _) (Nat.le_refl _) _⟩
end

/-! kinref5: body, asks, at: contracts. -/
section
open Go.RowKit Go.Extern.Stop Go.Stop Go.Extern

def errX (k : Int) : Value := .agg #[.int .i64 k, .slice none 0 0]
theorem findV_cases (m : NM) (s : Bs) : (nget m s = none ∧ findV m s = -1) ∨ ∃ k v, k < m.length ∧ nget m s = some v ∧ findV m s = (k : Int) ∧ m.getD k ([], 0) = (s, v) := by
  unfold nget findV
  cases h : m.findIdx? fun p => p.1 == s with
  | none =>
    refine .inl ⟨?_, rfl⟩
    rw [List.findIdx?_eq_none_iff] at h
    rw [Option.map_eq_none_iff, List.find?_eq_none]
    intro p hp
    have := h p hp
    simpa using this
  | some k =>
    obtain ⟨hk, h1, h2⟩ := List.findIdx?_eq_some_iff_getElem.1 h
    have hf : m.find? (fun p => p.1 == s) = some m[k] := by
      rw [List.find?_eq_some_iff_getElem]
      exact ⟨h1, k, hk, rfl, fun j hj => by have := h2 j hj; simpa using this⟩
    refine .inr ⟨k, m[k].2, hk, by rw [hf]; rfl, rfl, ?_⟩
    rw [List.getD_eq_getElem?_getD, List.getElem?_eq_getElem hk]
    have h3 : m[k].1 = s := by simpa using h1
    show m[k] = (s, m[k].2)
    rw [← h3]
section
variable {w : World} {x : Nat} {X : XLay} {D : DS} {bs ns : List Nat}
theorem XP.bodyAt (h : XP w x X D bs ns) {n : Nat} (hn : bs.length = n) {j : Nat} (hj : j < n) : ∃ g cap, X.vb = .slice (some ⟨g, 0, none⟩) n cap ∧ g < w.heap.size ∧ g ≠ x ∧ w.cell? ⟨g, j * 3, none⟩ = some (.int .i64 ((bs.getD j 0 : Nat) : Int)) ∧ w.cell? ⟨g, j * 3 + 1, none⟩ = some (X.at j) ∧
    w.cell? ⟨g, j * 3 + 2, none⟩ = some (.int .i64 ((D.file (bs.getD j 0)).safe : Int)) ∧ ∀ k, w.frozen? ⟨g, k, none⟩ = false := by
  subst hn
  rcases row_head h.bod with ⟨e, h0⟩ | ⟨g, cap, e, -, hlt, -, -, hf, -⟩
  · omega
  · have ha := h.bod
    rw [e] at ha
    have e0 : (bodycells D bs X.dv)[j * 3]? = some (.int .i64 ((bs.getD j 0 : Nat) : Int)) := flatR_at (g := bodyc D bs X.dv) (m := 3) (c := 0) (fun _ => rfl) _ hj (by decide)
    have e1 : (bodycells D bs X.dv)[j * 3 + 1]? = some (X.at j) := flatR_at (g := bodyc D bs X.dv) (m := 3) (c := 1) (fun _ => rfl) _ hj (by decide)
    have e2 : (bodycells D bs X.dv)[j * 3 + 2]? = some (.int .i64 ((D.file (bs.getD j 0)).safe : Int)) := flatR_at (g := bodyc D bs X.dv) (m := 3) (c := 2) (fun _ => rfl) _ hj (by decide)
    exact ⟨g, cap, e, hlt, fun e3 => h.others.1 (by rw [e, e3]; rfl), row_cellAt ha e0, row_cellAt ha e1, row_cellAt ha e2, hf⟩
end
set_option maxRecDepth 100000 in
theorem xbody_any (x : Nat) (X : XLay) (D : DS) (bs ns : List Nat) (k no : Nat) (w : World) (h : XP w x X D bs ns) (hl : bs.length ≤ 1000000) (hk : k < bs.length) (hb : bs.getD k 0 = no) (hne : ∀ j, j < k → bs.getD j 0 ≠ no) :
    Calls Tryz.prog 74 #[.pointer (some ⟨x, 0, none⟩), .int .i64 (no : Int)] w fun e w' => e = .returned (.int .i64 (k : Int)) ∧ Below w.heap.size w w' := by
  have H := Lib.hid h
  obtain ⟨n, hn⟩ : ∃ n, bs.length = n := ⟨_, rfl⟩
  have HN := Lib.hid hn
  rw [hn] at hl hk
  have HB := Lib.hid hb
  have HNE := Lib.hid hne
  obtain ⟨g, cap, hvb, hgl, -, -, -, -, -⟩ := h.bodyAt hn hk
  have HVB := Lib.hid hvb
  have c1 : w.cell? ⟨x, 1, none⟩ = some (.slice (some ⟨g, 0, none⟩) n cap) := (h.cell 1).trans (congrArg some hvb)
  have lx := h.blk.lt
  clear h hn hb hne hvb
  go_enter Tryz.func74, Tryz.ntmps74
  go_wp2
  go_loopw [5] (fun i wr => ∃ j : Nat, j ≤ k ∧ i = .int .i64 (j : Int) ∧ Below w.heap.size w wr) (fun i _ => n - (intOf i).toNat)
  case atStart => exact ⟨0, Nat.zero_le _, rfl, Below.refl _ _⟩
  case round =>
    obtain ⟨j, hj, rfl, hb⟩ := hrel
    have d1 : wr.cell? ⟨x, 1, none⟩ = some (.slice (some ⟨g, 0, none⟩) n cap) := (hb.cell (p := ⟨x, 1, none⟩) lx).trans c1
    obtain ⟨g2, cap2, hvb2, -, -, e0, -, -, -⟩ := (H.out.ext hb).bodyAt HN.out (show j < n by omega)
    have e9 := hvb2.symm.trans HVB.out
    simp only [Value.slice.injEq, Option.some.injEq, Addr.mk.injEq, and_true, true_and] at e9
    obtain ⟨rfl, rfl⟩ := e9
    clear hvb2 c1
    have i1 : (0 : Int) ≤ (j : Int) := by omega
    have i2 : (j : Int) < (n : Int) := by omega
    by_cases he : j = k
    · subst he
      rw [HB.out] at e0
      have q : ((no : Int) == (no : Int)) = true := by simp
      go_wp2
      go_returns
      exact ⟨rfl, hb⟩
    · have hne2 : ¬ bs.getD j 0 = no := HNE.out j (by omega)
      generalize bs.getD j 0 = b at *
      have q : ((b : Int) == (no : Int)) = false := by
        have : ¬ (b : Int) = (no : Int) := by omega
        simpa using this
      have q2 : ¬ (b : Int) = (no : Int) := by omega
      go_wp2
      go_roundw
      case rel => exact ⟨j + 1, by omega, by go_num, hb⟩
      case measure => simp [intOf]; omega
theorem readE_cases (D : DS) (a : Bs) : (D.down = true ∧ readE D a = 10) ∨ (D.down = false ∧ namedB a = false ∧ readE D a = 6) ∨ (D.down = false ∧ namedB a = true ∧ nget D.names a = none ∧ readE D a = 7) ∨ (D.down = false ∧ namedB a = true ∧ ∃ v, nget D.names a = some v ∧ readE D a = 0) := by
  unfold readE thereE
  cases h1 : D.down with
  | true => exact .inl ⟨rfl, rfl⟩
  | false =>
    cases h2 : namedB a with
    | false => exact .inr (.inl ⟨rfl, rfl, rfl⟩)
    | true =>
      cases h3 : nget D.names a with
      | none => exact .inr (.inr (.inl ⟨rfl, rfl, rfl, rfl⟩))
      | some v => exact .inr (.inr (.inr ⟨rfl, rfl, v, rfl, rfl⟩))
set_option maxRecDepth 100000 in
set_option maxHeartbeats 1000000 in
theorem xasks_any (x : Nat) (X : XLay) (D : DS) (bs ns : List Nat) (a : Bs) (w : World) (h : XP w x X D bs ns) (hl : D.names.length ≤ 1000000) (ha : a.length ≤ maxLen) :
    Calls Tryz.prog 68 #[.pointer (some ⟨x, 0, none⟩), .string ⟨a.toArray⟩] w fun e w' => e = .returned (errX (readE D a)) ∧ Below w.heap.size w w' := by
  have H := Lib.hid h
  have BQ := Lib.hid (Blk.new w #[.int .i64 0, .slice none 0 0] 45)
  have c7 : w.cell? ⟨x, 7, none⟩ = some (.bool D.down) := h.cell 7
  obtain ⟨no', ncap, hvn⟩ := rowShape h.nam
  obtain ⟨n, hn⟩ : ∃ n, D.names.length = n := ⟨_, rfl⟩
  rw [hn] at hvn
  have c2 : w.cell? ⟨x, 2, none⟩ = some (.slice no' n ncap) := (h.cell 2).trans (congrArg some hvn)
  have lx := h.blk.lt
  have CG := Lib.hid (fun w' => good_any a ha w')
  have HNR := Lib.hid (show NRow w 0 (.slice no' n ncap) D.names from hvn ▸ h.nam)
  have CFD := Lib.hid (fun w' (hb : Below w.heap.size w w') => find_any (.slice no' n ncap) D.names a 0 w' (HNR.out.ext hb) hl)
  have hfv := findV_cases D.names a
  clear h hn hvn ha
  rcases readE_cases D a with ⟨h1, h2⟩ | ⟨h1, h3, h2⟩ | ⟨h1, h3, h4, h2⟩ | ⟨h1, h3, v, h4, h2⟩
  · rw [h2]
    rw [h1] at c7
    clear h1 h2 hfv
    go_enter Tryz.func68, Tryz.ntmps68
    go_wp2_with (go_at_call 73; refine (xdown_any _).mono ?_; rintro e w1 ⟨rfl, hb1⟩; have B1 := Lib.hid (BQ.out.ext hb1); have HB := Lib.hid hb1; obtain ⟨x0, x1, x2, x3⟩ := B1.out.two; clear hb1)
    obtain ⟨r0, r1, r2, r3⟩ := (B1.out.set2 (.int .i64 10) (.slice none 0 0)).two
    refine bodyPost_ret (by simp [results, Tryz.results68, go_sem, r0, r1, r2, r3]; try rfl) rfl ?_
    exact ⟨rfl, below_set (below_set (ext (by go_grown) HB.out) (Nat.le_refl _) _) (Nat.le_refl _) _⟩
  · rw [h2]
    rw [h1] at c7
    rw [h3] at CG
    clear h1 h2 h3 hfv
    go_enter Tryz.func68, Tryz.ntmps68
    go_wp2_with (first | (go_at_call 82; refine (CG.out _).mono ?_; rintro e w' ⟨rfl, rfl⟩) | (go_at_call 22; refine (fail_any _ _).mono ?_; rintro e w1 ⟨rfl, hb1⟩; have B1 := Lib.hid (BQ.out.ext hb1); have HB := Lib.hid hb1; obtain ⟨x0, x1, x2, x3⟩ := B1.out.two; clear hb1))
    obtain ⟨r0, r1, r2, r3⟩ := (B1.out.set2 (.int .i64 6) (.slice none 0 0)).two
    refine bodyPost_ret (by simp [results, Tryz.results68, go_sem, r0, r1, r2, r3]; try rfl) rfl ?_
    exact ⟨rfl, below_set (below_set (ext (by go_grown) HB.out) (Nat.le_refl _) _) (Nat.le_refl _) _⟩
  · rw [h2]
    rw [h1] at c7
    rw [h3] at CG
    have hf : findV D.names a = -1 := by
      rcases hfv with ⟨_, h9⟩ | ⟨k, v, _, h9, _⟩
      · exact h9
      · rw [h4] at h9; cases h9
    rw [hf] at CFD
    clear h1 h2 h3 h4 hfv hf
    go_enter Tryz.func68, Tryz.ntmps68
    go_wp2_with (first
      | (go_at_call 82; refine (CG.out _).mono ?_; rintro e w' ⟨rfl, rfl⟩)
      | (go_at_call 83; refine (CFD.out _ (by go_grown)).mono ?_; rintro e w0 ⟨rfl, hb0⟩; have HB0 := Lib.hid hb0; clear hb0)
      | (go_at_call 22; refine (fail_any _ _).mono ?_; rintro e w1 ⟨rfl, hb1⟩; have HB := Lib.hid (ext HB0.out hb1); have B1 := Lib.hid (BQ.out.ext HB.out); obtain ⟨x0, x1, x2, x3⟩ := B1.out.two; clear hb1))
    obtain ⟨r0, r1, r2, r3⟩ := (B1.out.set2 (.int .i64 7) (.slice none 0 0)).two
    refine bodyPost_ret (by simp [results, Tryz.results68, go_sem, r0, r1, r2, r3]; try rfl) rfl ?_
    exact ⟨rfl, below_set (below_set (ext (by go_grown) HB.out) (Nat.le_refl _) _) (Nat.le_refl _) _⟩
  · rw [h2]
    rw [h1] at c7
    rw [h3] at CG
    obtain ⟨k, hk⟩ : ∃ k : Nat, findV D.names a = (k : Int) := by
      rcases hfv with ⟨h9, _⟩ | ⟨k, v', _, _, h9, _⟩
      · rw [h4] at h9; cases h9
      · exact ⟨k, h9⟩
    rw [hk] at CFD
    clear h1 h2 h3 h4 hfv hk
    go_enter Tryz.func68, Tryz.ntmps68
    go_wp2_with (first
      | (go_at_call 82; refine (CG.out _).mono ?_; rintro e w' ⟨rfl, rfl⟩)
      | (go_at_call 83; refine (CFD.out _ (by go_grown)).mono ?_; rintro e w0 ⟨rfl, hb0⟩; have HB := Lib.hid hb0; have B1 := Lib.hid (BQ.out.ext HB.out); obtain ⟨x0, x1, x2, x3⟩ := B1.out.two; clear hb0))
    obtain ⟨r0, r1, r2, r3⟩ := (B1.out.set2 (.int .i64 0) (.slice none 0 0)).two
    refine bodyPost_ret (by simp [results, Tryz.results68, go_sem, r0, r1, r2, r3]; try rfl) rfl ?_
    exact ⟨rfl, below_set (below_set (ext (by go_grown) HB.out) (Nat.le_refl _) _) (Nat.le_refl _) _⟩
end

/-! The plain law behind DiskRoom. -/
section
open Go.RowKit

def sizeF (all : List DF) (p : Bs × Nat) : Nat := (all.getD p.2 DF.nought).data.length
def usedE (all : List DF) (m : NM) : Nat := (m.map (sizeF all)).sum
theorem nget_mem : ∀ {m : NM}, (keysN m).Nodup → ∀ {p : Bs × Nat}, p ∈ m → nget m p.1 = some p.2
  | [], _, p, h => by simp at h
  | q :: r, hn, p, h => by
    obtain ⟨h1, h2⟩ := List.nodup_cons.1 (show ((q.1) :: keysN r).Nodup from hn)
    rcases List.mem_cons.1 h with rfl | h
    · unfold nget; simp
    · have hne : q.1 ≠ p.1 := fun e => h1 (by rw [e]; exact List.mem_map.2 ⟨p, h, rfl⟩)
      have := nget_mem h2 h
      unfold nget at this ⊢
      rw [List.find?_cons, show (q.1 == p.1) = false from by simpa using hne]
      exact this
theorem used_eq {D : DS} (hn : (keysN D.names).Nodup) : usedD D = usedE D.all D.names := by
  unfold usedD usedE keysN
  rw [List.map_map]
  congr 1
  refine List.map_congr_left fun p hp => ?_
  show (D.file (fileN D.names p.1)).data.length = _
  unfold fileN
  rw [nget_mem hn hp]; rfl
theorem usedE_congr {all all' : List DF} {m : NM} (h : ∀ p ∈ m, sizeF all' p = sizeF all p) : usedE all' m = usedE all m := by
  unfold usedE; rw [List.map_congr_left h]
theorem usedE_filter (all : List DF) (f : Bs × Nat → Bool) : ∀ m : NM, usedE all (m.filter f) + usedE all (m.filter fun p => !f p) = usedE all m
  | [] => rfl
  | p :: r => by
    have ih := usedE_filter all f r
    unfold usedE at ih ⊢
    cases h : f p with
    | true => rw [List.filter_cons_of_pos h, List.filter_cons_of_neg (by simp [h]), List.map_cons, List.sum_cons, List.map_cons, List.sum_cons]; omega
    | false => rw [List.filter_cons_of_neg (by simp [h]), List.filter_cons_of_pos (by simp [h]), List.map_cons, List.sum_cons, List.map_cons, List.sum_cons]; omega
theorem usedE_ndel (all : List DF) (m : NM) (k : Bs) : usedE all (ndel m k) ≤ usedE all m := by
  have := usedE_filter all (fun p => !(p.1 == k)) m
  unfold ndel; omega
theorem usedE_mem {all : List DF} : ∀ {m : NM} {p : Bs × Nat}, p ∈ m → sizeF all p ≤ usedE all m
  | q :: r, p, h => by
    unfold usedE
    rw [List.map_cons, List.sum_cons]
    rcases List.mem_cons.1 h with rfl | h
    · omega
    · have := usedE_mem (all := all) h; unfold usedE at this; omega
theorem usedE_ndel_mem {all : List DF} {m : NM} {k : Bs} {v : Nat} (h : (k, v) ∈ m) : usedE all (ndel m k) + sizeF all (k, v) ≤ usedE all m := by
  have h1 := usedE_filter all (fun p => !(p.1 == k)) m
  have h2 : sizeF all (k, v) ≤ usedE all (m.filter fun p => !!(p.1 == k)) := usedE_mem (List.mem_filter.2 ⟨h, by simp⟩)
  unfold ndel; omega
theorem usedE_nins (all : List DF) (x : Bs × Nat) : ∀ m : NM, usedE all (nins x m) = sizeF all x + usedE all m
  | [] => rfl
  | y :: r => by
    unfold nins
    split
    · unfold usedE; rw [List.map_cons, List.sum_cons]
    · have ih := usedE_nins all x r
      unfold usedE at ih ⊢
      rw [List.map_cons, List.sum_cons, ih, List.map_cons, List.sum_cons]; omega
theorem perm_nins (x : Bs × Nat) : ∀ m : NM, (nins x m).Perm (x :: m)
  | [] => List.Perm.refl _
  | y :: r => by
    unfold nins
    split
    · exact List.Perm.refl _
    · exact ((perm_nins x r).cons y).trans (List.Perm.swap x y r)
theorem ndel_none {m : NM} {k : Bs} (h : nget m k = none) : ndel m k = m := by
  unfold nget at h
  rw [Option.map_eq_none_iff, List.find?_eq_none] at h
  unfold ndel
  rw [List.filter_eq_self]
  intro p hp
  have := h p hp
  simpa using this
theorem length_ndel_mem {m : NM} {k : Bs} {v : Nat} (h : (k, v) ∈ m) : (ndel m k).length + 1 ≤ m.length := by
  unfold ndel
  have h1 : (m.filter fun p => !(p.1 == k)).length < m.length := List.length_filter_lt_length_iff_exists.2 ⟨(k, v), h, by simp⟩
  omega
/-- Names apart, files apart. -/
structure Sole (m : NM) : Prop where
  keys : (m.map fun p => p.1).Nodup
  vals : (m.map fun p => p.2).Nodup
theorem Sole.ndel {m : NM} (h : Sole m) (k : Bs) : Sole (ndel m k) := ⟨h.keys.sublist (List.Sublist.map _ List.filter_sublist), h.vals.sublist (List.Sublist.map _ List.filter_sublist)⟩
theorem Sole.nins {m : NM} (h : Sole m) {x : Bs × Nat} (h1 : ∀ p ∈ m, p.1 ≠ x.1) (h2 : ∀ p ∈ m, p.2 ≠ x.2) : Sole (nins x m) := by
  refine ⟨((perm_nins x m).map _).nodup_iff.2 ?_, ((perm_nins x m).map _).nodup_iff.2 ?_⟩
  · rw [List.map_cons, List.nodup_cons]
    exact ⟨fun hm => by obtain ⟨p, hp, e⟩ := List.mem_map.1 hm; exact h1 p hp e, h.keys⟩
  · rw [List.map_cons, List.nodup_cons]
    exact ⟨fun hm => by obtain ⟨p, hp, e⟩ := List.mem_map.1 hm; exact h2 p hp e, h.vals⟩
theorem mem_ndel_ne {m : NM} {k : Bs} {p : Bs × Nat} (h : p ∈ ndel m k) : p.1 ≠ k := by
  have := (List.mem_filter.1 h).2
  simpa using this
theorem sole_val : ∀ {m : NM}, (m.map fun p => p.2).Nodup → ∀ {p q : Bs × Nat}, p ∈ m → q ∈ m → p.2 = q.2 → p = q
  | x :: r, hn, p, q, hp, hq, e => by
    obtain ⟨h1, h2⟩ := List.nodup_cons.1 (show (x.2 :: r.map fun p => p.2).Nodup from hn)
    rcases List.mem_cons.1 hp with e1 | hp2
    · rcases List.mem_cons.1 hq with e2 | hq2
      · rw [e1, e2]
      · exact absurd (List.mem_map.2 ⟨q, hq2, by rw [← e, e1]⟩) h1
    · rcases List.mem_cons.1 hq with e2 | hq2
      · exact absurd (List.mem_map.2 ⟨p, hp2, by rw [e, e2]⟩) h1
      · exact sole_val h2 hp2 hq2 e
theorem usedE_set {all : List DF} {f : DF} : ∀ {m : NM}, (m.map fun p => p.2).Nodup → ∀ {p : Bs × Nat}, p ∈ m → p.2 < all.length → usedE (setF all p.2 f) m + (all.getD p.2 DF.nought).data.length = usedE all m + f.data.length
  | x :: r, hn, p, hp, hl => by
    obtain ⟨h1, h2⟩ := List.nodup_cons.1 (show (x.2 :: r.map fun p => p.2).Nodup from hn)
    unfold usedE
    rw [List.map_cons, List.sum_cons, List.map_cons, List.sum_cons]
    rcases List.mem_cons.1 hp with rfl | hp
    · have e : usedE (setF all p.2 f) r = usedE all r := usedE_congr fun q hq => by
        unfold sizeF
        rw [getD_setF, if_neg (fun e => h1 (List.mem_map.2 ⟨q, hq, e.1.symm⟩))]
      unfold usedE at e
      have e2 : sizeF (setF all p.2 f) p = f.data.length := by unfold sizeF; rw [getD_setF, if_pos ⟨rfl, hl⟩]
      have e3 : sizeF all p = (all.getD p.2 DF.nought).data.length := rfl
      rw [e2, e, e3]; omega
    · have ih := usedE_set (f := f) h2 hp hl
      unfold usedE at ih
      have hne : p.2 ≠ x.2 := fun e => h1 (by rw [← e]; exact List.mem_map.2 ⟨p, hp, rfl⟩)
      have e2 : sizeF (setF all p.2 f) x = sizeF all x := by unfold sizeF; rw [getD_setF, if_neg (fun e => hne e.1)]
      rw [e2]; omega
structure Full (D : DS) (size : Int) : Prop where
  sole : Sole D.names
  few : D.names.length ≤ 64
  used : (usedE D.all D.names : Int) ≤ D.room
  up : D.down = false
  calm : D.armed = 0
  room : D.room = size
section
variable {D : DS} {size : Int} {T : Nat}
theorem Full.calmF (h : Full D size) : downF D = false ∧ armedF D = 0 := by
  unfold downF armedF
  rw [h.calm]
  exact ⟨h.up, rfl⟩
theorem Full.fall (h : Full D size) : Full (fallD D) size := ⟨h.sole, h.few, h.used, h.calmF.1, h.calmF.2, h.room⟩
theorem Full.goesD (h : Full D size) (x : Int) : Full (goesD D x) size := by
  rcases goesD_of (D := D) (x := x) with ⟨e, _⟩ | ⟨_, e, _⟩
  · rw [e]; exact h
  · rw [e]; exact h.fall
theorem Full.setFile (h : Full D size) {k : Bs} {v : Nat} (hg : nget D.names k = some v) (hv : v < D.all.length) (f : DF) (hf : (usedE D.all D.names : Int) + f.data.length - (D.file v).data.length ≤ D.room) : Full { D with all := setF D.all v f } size := by
  refine ⟨h.sole, h.few, ?_, h.up, h.calm, h.room⟩
  have e := usedE_set (f := f) h.sole.vals (mem_nget hg) hv
  have e2 : (D.file v).data.length = (D.all.getD v DF.nought).data.length := rfl
  show (usedE (setF D.all v f) D.names : Int) ≤ D.room
  have e3 : usedE (setF D.all v f) D.names + (D.all.getD v DF.nought).data.length = usedE D.all D.names + f.data.length := e
  omega
theorem full_new (hs : 0 ≤ size) : Full (newD size) size := ⟨⟨List.nodup_nil, List.nodup_nil⟩, Nat.zero_le _, hs, rfl, rfl, rfl⟩
theorem Full.create (h : Full D size) (hI : Inv D T) (n : Bs) : Full (createD D n) size := by
  unfold createD
  split
  · rename_i hg
    obtain ⟨-, h0, -, hd⟩ := goesE_zero hg
    obtain ⟨h1, h2, h3⟩ := createE_zero h0
    rw [hd]
    have e : actN D.names ⟨0, n, [], D.all.length⟩ = nins (n, D.all.length) D.names := by
      show nput D.names n D.all.length = _
      unfold nput
      rw [ndel_none h2]
    refine ⟨?_, ?_, ?_, h.calmF.1, h.calmF.2, h.room⟩
    · show Sole (actN D.names ⟨0, n, [], D.all.length⟩)
      rw [e]
      refine h.sole.nins (fun p hp e2 => ?_) (fun p hp e2 => ?_)
      · have := nget_mem h.sole.keys hp
        have e3 : p.1 = n := e2
        rw [e3, h2] at this; cases this
      · have := hI.vals p hp
        have e3 : p.2 = D.all.length := e2
        omega
    · show (actN D.names ⟨0, n, [], D.all.length⟩).length ≤ 64
      rw [e, length_nins]; omega
    · show (usedE (D.all ++ [DF.nought]) (actN D.names ⟨0, n, [], D.all.length⟩) : Int) ≤ D.room
      rw [e, usedE_nins]
      have e1 : sizeF (D.all ++ [DF.nought]) (n, D.all.length) = 0 := by
        unfold sizeF
        show ((D.all ++ [DF.nought]).getD D.all.length DF.nought).data.length = 0
        rw [getD_appE]; rfl
      have e2 : usedE (D.all ++ [DF.nought]) D.names = usedE D.all D.names := usedE_congr fun p hp => by
        unfold sizeF
        rw [getD_appL (hI.vals p hp)]
      rw [e1, e2, Nat.zero_add]; exact h.used
  · exact h.goesD _
theorem Full.app (h : Full D size) (hI : Inv D T) (n b : Bs) : Full (appD D n b) size := by
  unfold appD
  split
  · exact h
  · rename_i h0
    have h0 : appE0 D n b = 0 := by omega
    obtain ⟨-, ht, hb⟩ := appE0_zero h0
    obtain ⟨-, hg⟩ := thereE_zero ht
    refine Full.setFile (D := fallD D) h.fall hg (hI.fileN_lt ht) _ ?_
    have hd : (appF D n b).data = (D.file (fileN D.names n)).data ++ b := by
      unfold appF; rw [h.calmF.1]; rfl
    rw [hd, List.length_append]
    show (usedE D.all D.names : Int) + (((D.file (fileN D.names n)).data.length + b.length : Nat) : Int) - ((D.file (fileN D.names n)).data.length : Int) ≤ D.room
    by_cases e : b = []
    · have hl0 : b.length = 0 := by rw [e]; rfl
      have := h.used; omega
    · have hb2 : ¬ D.room - usedD D < b.length := fun h2 => hb ⟨e, h2⟩
      rw [used_eq h.sole.keys] at hb2
      omega
theorem Full.sync (h : Full D size) (hI : Inv D T) (n : Bs) : Full (syncD D n) size := by
  unfold syncD
  split
  · rename_i hg
    obtain ⟨-, ht, -, -⟩ := goesE_zero hg
    obtain ⟨-, hg2⟩ := thereE_zero ht
    refine Full.setFile (D := fallD D) h.fall hg2 (hI.fileN_lt ht) _ ?_
    show (usedE D.all D.names : Int) + ((D.file (fileN D.names n)).data.length : Int) - ((D.file (fileN D.names n)).data.length : Int) ≤ D.room
    have := h.used; omega
  · exact h.goesD _
theorem Full.ren (h : Full D size) (a b : Bs) : Full (renD D a b) size := by
  unfold renD
  split
  · rename_i hg
    obtain ⟨-, h0, -, -⟩ := goesE_zero hg
    unfold renE0 at h0
    cases hb : namedB b with
    | false => rw [hb] at h0; simp at h0
    | true =>
      rw [hb] at h0
      obtain ⟨ha, hn⟩ := thereE_zero (h0 : thereE D a = 0)
      have hm := mem_nget hn
      have e : actN D.names ⟨1, a, b, 0⟩ = nins (b, fileN D.names a) (ndel (ndel D.names a) b) := rfl
      have hl := length_ndel_mem hm
      have hl2 := length_ndel (ndel D.names a) b
      have hf := h.few
      refine ⟨?_, ?_, ?_, h.calmF.1, h.calmF.2, h.room⟩
      · show Sole (actN D.names ⟨1, a, b, 0⟩)
        rw [e]
        refine ((h.sole.ndel a).ndel b).nins (fun p hp => mem_ndel_ne hp) (fun p hp e2 => ?_)
        have h1 := mem_ndel hp
        have h2 := mem_ndel_ne h1
        have h3 := sole_val h.sole.vals (mem_ndel h1) hm e2
        rw [h3] at h2; exact h2 rfl
      · show (actN D.names ⟨1, a, b, 0⟩).length ≤ 64
        rw [e, length_nins]; omega
      · show (usedE D.all (actN D.names ⟨1, a, b, 0⟩) : Int) ≤ D.room
        rw [e, usedE_nins]
        have u1 := usedE_ndel_mem (all := D.all) hm
        have u2 := usedE_ndel D.all (ndel D.names a) b
        have u3 : sizeF D.all (b, fileN D.names a) = sizeF D.all (a, fileN D.names a) := rfl
        have := h.used
        rw [u3]; omega
  · exact h.goesD _
theorem Full.rem (h : Full D size) (n : Bs) : Full (remD D n) size := by
  unfold remD
  split
  · have e : actN D.names ⟨2, n, [], 0⟩ = ndel D.names n := rfl
    refine ⟨?_, ?_, ?_, h.calmF.1, h.calmF.2, h.room⟩
    · show Sole (actN D.names ⟨2, n, [], 0⟩); rw [e]; exact h.sole.ndel n
    · show (actN D.names ⟨2, n, [], 0⟩).length ≤ 64
      rw [e]; have := length_ndel D.names n; have := h.few; omega
    · show (usedE D.all (actN D.names ⟨2, n, [], 0⟩) : Int) ≤ D.room
      rw [e]; have := usedE_ndel D.all D.names n; have := h.used; omega
  · exact h.goesD _
theorem Full.act (h : Full D size) (hI : Inv D T) {o : OpP} (hk : o.kind < 6) : Full (actD D o) size := by
  unfold actD
  split
  · exact h.create hI _
  split
  · exact h.app hI _ _
  split
  · exact h.sync hI _
  split
  · exact h.ren _ _
  split
  · exact h.rem _
  split
  · unfold sdirD
    split
    · exact ⟨h.sole, h.few, h.used, h.calmF.1, h.calmF.2, h.room⟩
    · exact h.goesD _
  split
  · omega
  split
  · omega
  exact h
theorem Full.says (h : Full D size) : (usedD D : Int) ≤ size ∧ (listD D).length ≤ 64 := by
  rw [used_eq h.sole.keys, ← h.room, length_listD]
  exact ⟨h.used, h.few⟩
/-- As many bytes as are left, and one more. -/
theorem full_ends (h : Full D size) (hI : Inv D T) {n : Bs} (h0 : appE D n [] = 0) {left : Nat} (hl : (left : Int) = size - usedD D) :
    appE D n (List.replicate (left + 1) 0) = 9 ∧ appE (appD D n []) n (List.replicate left 0) = 0 ∧ (usedD (appD (appD D n []) n (List.replicate left 0)) : Int) = size := by
  have hz : appE0 D n [] = 0 := by
    unfold appE at h0
    split at h0
    · rename_i h1; exact absurd h0 h1
    · rename_i h1; omega
  obtain ⟨hd, ht, -⟩ := appE0_zero hz
  obtain ⟨hnb, hg⟩ := thereE_zero ht
  have hlt := hI.fileN_lt ht
  have h1 := h.app hI n []
  have hI1 := hI.appD n []
  have e1 : appD D n [] = { fallD D with all := setF D.all (fileN D.names n) (appF D n []) } := by unfold appD; rw [if_neg (by omega)]
  have hnm : (appD D n []).names = D.names := by rw [e1]; rfl
  have hal : (appD D n []).all = setF D.all (fileN D.names n) (appF D n []) := by rw [e1]
  have hfd : (appF D n []).data = (D.file (fileN D.names n)).data := by
    unfold appF; simp
  have hu1 : usedD (appD D n []) = usedD D := by
    rw [used_eq h1.sole.keys, used_eq h.sole.keys, hnm, hal]
    have := usedE_set (f := appF D n []) h.sole.vals (mem_nget hg) hlt
    rw [hfd] at this
    have e2 : (D.file (fileN D.names n)).data.length = (D.all.getD (fileN D.names n) DF.nought).data.length := rfl
    rw [e2] at this
    have this2 : usedE (setF D.all (fileN D.names n) (appF D n [])) D.names + (D.all.getD (fileN D.names n) DF.nought).data.length = usedE D.all D.names + (D.all.getD (fileN D.names n) DF.nought).data.length := this
    omega
  have hr := h.room
  have hr1 := h1.room
  refine ⟨?_, ?_⟩
  · have e : appE0 D n (List.replicate (left + 1) 0) = 9 := by
      unfold appE0
      rw [hd, if_neg (by simp), if_neg (by rw [ht]; simp), if_pos ⟨by simp, by rw [List.length_replicate]; omega⟩]
    unfold appE
    rw [e, if_pos (by decide)]
  · have ht1 : thereE (appD D n []) n = 0 := by
      unfold thereE; rw [hnb, hnm, hg]; rfl
    have e : appE0 (appD D n []) n (List.replicate left 0) = 0 := by
      unfold appE0
      rw [h1.up, if_neg (by simp), if_neg (by rw [ht1]; simp), if_neg (fun hh => by have := hh.2; rw [List.length_replicate, hu1] at this; omega)]
    have e3 : appE (appD D n []) n (List.replicate left 0) = 0 := by
      unfold appE
      rw [e, if_neg (by simp), h1.calmF.1]; rfl
    refine ⟨e3, ?_⟩
    have h2 := h1.app hI1 n (List.replicate left 0)
    have hlt1 := hI1.fileN_lt ht1
    obtain ⟨-, hg1⟩ := thereE_zero ht1
    have e5 : appD (appD D n []) n (List.replicate left 0) = { fallD (appD D n []) with all := setF (appD D n []).all (fileN (appD D n []).names n) (appF (appD D n []) n (List.replicate left 0)) } := by unfold appD; rw [if_neg (by unfold appD at e; omega)]
    have hnm2 : (appD (appD D n []) n (List.replicate left 0)).names = (appD D n []).names := by rw [e5]; rfl
    have hal2 : (appD (appD D n []) n (List.replicate left 0)).all = setF (appD D n []).all (fileN (appD D n []).names n) (appF (appD D n []) n (List.replicate left 0)) := by rw [e5]
    have hfd2 : (appF (appD D n []) n (List.replicate left 0)).data.length = ((appD D n []).file (fileN (appD D n []).names n)).data.length + left := by
      unfold appF; rw [h1.calmF.1]; simp
    have hu2 : usedD (appD (appD D n []) n (List.replicate left 0)) = usedD (appD D n []) + left := by
      rw [used_eq h2.sole.keys, used_eq h1.sole.keys, hnm2, hal2]
      have := usedE_set (f := appF (appD D n []) n (List.replicate left 0)) h1.sole.vals (mem_nget hg1) hlt1
      rw [hfd2] at this
      have this2 : usedE (setF (appD D n []).all (fileN (appD D n []).names n) (appF (appD D n []) n (List.replicate left 0))) (appD D n []).names + ((appD D n []).all.getD (fileN (appD D n []).names n) DF.nought).data.length = usedE (appD D n []).all (appD D n []).names + (((appD D n []).all.getD (fileN (appD D n []).names n) DF.nought).data.length + left) := this
      omega
    rw [hu2, hu1]; omega
end
end

/-! kinref5: at, Used, Read, Arm, Grow, New: contracts. -/
section
open Go.RowKit Go.Extern.Stop Go.Stop Go.Extern

theorem bs_at {bs : List Nat} (h : bs.Pairwise (· < ·)) {v : Nat} (hv : v ∈ bs) : ∃ k, k < bs.length ∧ bs.getD k 0 = v ∧ ∀ j, j < k → bs.getD j 0 ≠ v := by
  obtain ⟨k, hk, rfl⟩ := List.mem_iff_getElem.1 hv
  refine ⟨k, hk, by rw [List.getD_eq_getElem?_getD, List.getElem?_eq_getElem hk]; rfl, fun j hj => ?_⟩
  have := List.pairwise_iff_getElem.1 h j k (by omega) hk hj
  rw [List.getD_eq_getElem?_getD, List.getElem?_eq_getElem (show j < bs.length by omega)]
  show bs[j] ≠ bs[k]
  omega
theorem bs_len {bs : List Nat} {N : Nat} (h : bs.Pairwise (· < ·)) (hl : ∀ b ∈ bs, b < N) : bs.length ≤ N := by
  have hn : bs.Nodup := h.imp fun h => by omega
  have hs : bs ⊆ List.range N := fun b hb => List.mem_range.2 (hl b hb)
  have := List.Nodup.length_le_of_subset hn hs
  simpa using this
set_option maxRecDepth 100000 in
set_option maxHeartbeats 1000000 in
theorem xat_any (x : Nat) (X : XLay) (D : DS) (bs ns : List Nat) (a : Bs) (v kb : Nat) (w : World) (h : XP w x X D bs ns) (hl : D.names.length ≤ 1000000) (hlb : bs.length ≤ 1000000) (hg : nget D.names a = some v) (hv : v ≤ 1000000) (hk : kb < bs.length) (hb : bs.getD kb 0 = v) (hne : ∀ j, j < kb → bs.getD j 0 ≠ v) :
    Calls Tryz.prog 69 #[.pointer (some ⟨x, 0, none⟩), .string ⟨a.toArray⟩] w fun e w' => e = .returned (.int .i64 (kb : Int)) ∧ Below w.heap.size w w' := by
  have H := Lib.hid h
  obtain ⟨no', ncap, hvn⟩ := rowShape h.nam
  obtain ⟨n, hn⟩ : ∃ n, D.names.length = n := ⟨_, rfl⟩
  rw [hn] at hvn
  have c2 : w.cell? ⟨x, 2, none⟩ = some (.slice no' n ncap) := (h.cell 2).trans (congrArg some hvn)
  have lx := h.blk.lt
  have HNR := Lib.hid (show NRow w 0 (.slice no' n ncap) D.names from hvn ▸ h.nam)
  have CFD := Lib.hid (fun w' (hb : Below w.heap.size w w') => find_any (.slice no' n ncap) D.names a 0 w' (HNR.out.ext hb) hl)
  have CB := Lib.hid (fun w' (hb' : Below w.heap.size w w') => xbody_any x X D bs ns kb v w' (h.ext hb') hlb hk hb hne)
  obtain ⟨k, hkn, hfv, hat⟩ : ∃ k, k < n ∧ findV D.names a = (k : Int) ∧ D.names.getD k ([], 0) = (a, v) := by
    rcases findV_cases D.names a with ⟨h9, _⟩ | ⟨k, v', h1, h2, h3, h4⟩
    · rw [hg] at h9; cases h9
    · rw [hg] at h2; obtain rfl := Option.some.inj h2
      exact ⟨k, by omega, h3, h4⟩
  obtain ⟨g, rfl, -, hgl, hcap, d0, d1⟩ := HNR.out.cellAt hn hkn
  rw [hat] at d0 d1
  simp only at d0 d1
  rw [hfv] at CFD
  have i1 : (0 : Int) ≤ (k : Int) := by omega
  have i2 : (k : Int) < (n : Int) := by omega
  have HP : Hid (∀ wx, Below w.heap.size w wx → wx.cell? ⟨x, 2, none⟩ = some (.slice (some ⟨g, 0, none⟩) n ncap) ∧ wx.cell? ⟨g, k * 2 + 1, none⟩ = some (.int .i64 (v : Int))) := fun wx hb => ⟨(hb.cell (p := ⟨x, 2, none⟩) lx).trans c2, (hb.cell (p := ⟨g, k * 2 + 1, none⟩) hgl).trans d1⟩
  have SA := Lib.hid (HP.out w.drew (Below.refl _ _).drew)
  clear h hn hvn hg hk hb hne hfv hat d0 hl hlb hcap
  go_enter Tryz.func69, Tryz.ntmps69
  go_wp2
  go_region_held3 (fun w' => w'.cell? ⟨x, 2, none⟩ = some (.slice (some ⟨g, 0, none⟩) n ncap) ∧ w'.cell? ⟨g, k * 2 + 1, none⟩ = some (.int .i64 (v : Int)))
    (first | with_reducible exact SA.out | with_reducible exact SB.out | with_reducible exact SC.out | go_keep)
    (first
      | (go_at_call 74; refine (CB.out _ HB1.out).mono ?_; rintro e w2 ⟨rfl, hb2⟩; have HB2 := Lib.hid (HB1.out.trans (hb2.mono HB1.out.size)); have SC := Lib.hid (HP.out w2 HB2.out); clear hb2)
      | (go_at_call 83; refine (CFD.out _ (by go_grown)).mono ?_; rintro e w1 ⟨rfl, hb1⟩; have HB1 : Hid (Below w.heap.size w w1) := Lib.hid (ext (by go_grown) hb1); have SB := Lib.hid (HP.out w1 HB1.out); clear hb1))
  all_goals
    go_wp2
    go_returns
    exact ⟨rfl, HB2.out⟩
theorem Srt.keys {m : NM} (h : Srt m) : (keysN m).Nodup := by
  unfold keysN
  exact List.pairwise_map.2 (h.imp fun h => before_ne h)
theorem usedE_succ (all : List DF) (m : NM) {k : Nat} (h : k < m.length) : usedE all (m.take (k + 1)) = usedE all (m.take k) + sizeF all (m.getD k ([], 0)) := by
  unfold usedE
  rw [take_app m ([], 0) h, List.map_append, List.sum_append, List.map_cons, List.map_nil, List.sum_cons, List.sum_nil, Nat.add_zero]
theorem usedE_bound {all : List DF} {M : Nat} (hM : ∀ j, (all.getD j DF.nought).data.length ≤ M) : ∀ m : NM, usedE all m ≤ m.length * M
  | [] => Nat.zero_le _
  | p :: r => by
    have ih := usedE_bound hM r
    have := hM p.2
    unfold usedE at ih ⊢
    rw [List.map_cons, List.sum_cons, List.length_cons, Nat.succ_mul]
    unfold sizeF
    unfold sizeF at ih
    omega
set_option maxRecDepth 100000 in
set_option maxHeartbeats 1000000 in
theorem xused_any (x : Nat) (X : XLay) (D : DS) (bs ns : List Nat) (T : Nat) (w : World) (h : XP w x X D bs ns) (hI : Inv D T) (hT : T ≤ 100000) (hX : XI D bs ns) :
    Calls Tryz.prog 53 #[.pointer (some ⟨x, 0, none⟩)] w fun e w' => e = .returned (.int .i64 (usedD D : Int)) ∧ Below w.heap.size w w' := by
  have H := Lib.hid h
  have HI := Lib.hid hI
  have HX := Lib.hid hX
  obtain ⟨no', ncap, hvn⟩ := rowShape h.nam
  obtain ⟨n, hn⟩ : ∃ n, D.names.length = n := ⟨_, rfl⟩
  obtain ⟨bn, hbn⟩ : ∃ bn, bs.length = bn := ⟨_, rfl⟩
  rw [hn] at hvn
  have hn1 : n ≤ 100000 := by have := hI.nam; omega
  have hbn1 : bn ≤ 100000 := by have := bs_len hX.asc hX.lt; have := hI.cnt; omega
  have c2 : w.cell? ⟨x, 2, none⟩ = some (.slice no' n ncap) := (h.cell 2).trans (congrArg some hvn)
  have lx := h.blk.lt
  have HNR := Lib.hid (show NRow w 0 (.slice no' n ncap) D.names from hvn ▸ h.nam)
  have HN := Lib.hid hn
  have HBN := Lib.hid hbn
  have HUE := Lib.hid (used_eq (D := D) hX.srtN.keys)
  have HTK := Lib.hid (show D.names.take n = D.names from by rw [← hn]; exact List.take_length)
  clear h hI hX hvn hn hbn
  go_enter Tryz.func53, Tryz.ntmps53
  go_wp2
  go_loopw [3, 4] (fun s i wr => ∃ k : Nat, k ≤ n ∧ i = .int .i64 (k : Int) ∧ s = .int .i64 ((usedE D.all (D.names.take k) : Nat) : Int) ∧ Below w.heap.size w wr) (fun _ i _ => n - (intOf i).toNat)
  case atStart => exact ⟨0, Nat.zero_le _, rfl, by rw [List.take_zero]; rfl, Below.refl _ _⟩
  case round =>
    obtain ⟨k, hk, rfl, rfl, hb⟩ := hrel
    have e2 : wr.cell? ⟨x, 2, none⟩ = some (.slice no' n ncap) := (hb.cell (p := ⟨x, 2, none⟩) lx).trans c2
    have hub := usedE_bound (all := D.all) (M := 16777216) (fun j => (HI.out.file j).2) (D.names.take k)
    rw [List.length_take, HN.out, Nat.min_eq_left hk] at hub
    by_cases hlt : k < n
    · have HS1 := Lib.hid (usedE_succ D.all D.names (k := k) (by rw [HN.out]; exact hlt))
      obtain ⟨g, rfl, -, hgl, hcap, d0, d1⟩ := (HNR.out.ext hb).cellAt HN.out hlt
      have hmem : D.names.getD k ([], 0) ∈ D.names := by rw [List.getD_eq_getElem?_getD, List.getElem?_eq_getElem (by rw [HN.out]; exact hlt)]; exact List.getElem_mem _
      obtain ⟨kb, hkb, hbv, hbne⟩ := bs_at HX.out.asc (HX.out.valN _ hmem)
      have hvlt := HX.out.lt _ (HX.out.valN _ hmem)
      have hcnt := HI.out.cnt
      have hdl := (HI.out.file (D.names.getD k ([], 0)).2).2
      have HSF : Hid (sizeF D.all (D.names.getD k ([], 0)) = (D.file (D.names.getD k ([], 0)).2).data.length) := rfl
      generalize D.names.getD k ([], 0) = p at *
      obtain ⟨nm, v⟩ := p
      simp only at d0 d1 hbv hbne hdl hvlt HSF
      have CB := Lib.hid (fun w' (hb' : Below wr.heap.size wr w') => xbody_any x X D bs ns kb v w' ((H.out.ext hb).ext (by have := hb.size; exact hb')) (by rw [HBN.out]; omega) hkb hbv hbne)
      obtain ⟨g2, bcap, hvb, hgl2, -, b0, b1, b2, -⟩ := (H.out.ext hb).bodyAt HBN.out (by rw [← HBN.out]; exact hkb)
      obtain ⟨dao, dcap, hdv⟩ := rowShape ((H.out.ext hb).dat kb hkb)
      rw [hbv] at hdv
      obtain ⟨dl, hdl2⟩ : ∃ dl, (D.file v).data.length = dl := ⟨_, rfl⟩
      rw [hdl2] at hdv hdl HSF
      rw [hdv] at b1
      have e1 : wr.cell? ⟨x, 1, none⟩ = some (.slice (some ⟨g2, 0, none⟩) bn bcap) := ((H.out.ext hb).cell 1).trans (congrArg some hvb)
      have lx2 : x < wr.heap.size := Nat.lt_of_lt_of_le lx hb.size
      obtain ⟨u, hu⟩ : ∃ u, usedE D.all (D.names.take k) = u := ⟨_, rfl⟩
      rw [hu] at hub HS1 ⊢
      have hkb2 : kb < bn := by rw [← HBN.out]; exact hkb
      have i1 : (0 : Int) ≤ (k : Int) := by omega
      have i2 : (k : Int) < (n : Int) := by omega
      have i3 : (0 : Int) ≤ (kb : Int) := by omega
      have i4 : (kb : Int) < (bn : Int) := by omega
      have hmm : k * 16777216 ≤ 100000 * 16777216 := Nat.mul_le_mul_right _ (by omega)
      have q1 : IntKind.i64.wrap ((u : Int) + (dl : Int)) = ((u + dl : Nat) : Int) := by rw [IntWalk.i64_in _ (by omega)]; omega
      have HP : Hid (∀ wx, Below wr.heap.size wr wx → wx.cell? ⟨x, 1, none⟩ = some (.slice (some ⟨g2, 0, none⟩) bn bcap) ∧ wx.cell? ⟨x, 2, none⟩ = some (.slice (some ⟨g, 0, none⟩) n ncap) ∧ wx.cell? ⟨g, k * 2 + 1, none⟩ = some (.int .i64 (v : Int)) ∧ wx.cell? ⟨g2, kb * 3 + 1, none⟩ = some (.slice dao dl dcap)) := fun wx hb' => ⟨(hb'.cell (p := ⟨x, 1, none⟩) lx2).trans e1, (hb'.cell (p := ⟨x, 2, none⟩) lx2).trans e2, (hb'.cell (p := ⟨g, k * 2 + 1, none⟩) hgl).trans d1, (hb'.cell (p := ⟨g2, kb * 3 + 1, none⟩) hgl2).trans b1⟩
      have SA := Lib.hid (HP.out wr.drew (Below.refl _ _).drew)
      have HBX := Lib.hid hb
      clear hmem hbv hbne hvlt hcnt hdl hvb hdv hdl2 hu hub hmm hkb b0 b2 d0
      go_wp2
      go_region_held3 (fun w' => w'.cell? ⟨x, 1, none⟩ = some (.slice (some ⟨g2, 0, none⟩) bn bcap) ∧ w'.cell? ⟨x, 2, none⟩ = some (.slice (some ⟨g, 0, none⟩) n ncap) ∧ w'.cell? ⟨g, k * 2 + 1, none⟩ = some (.int .i64 (v : Int)) ∧ w'.cell? ⟨g2, kb * 3 + 1, none⟩ = some (.slice dao dl dcap))
        (first | with_reducible exact SA.out | with_reducible exact SB.out | go_keep)
        (first
          | (go_at_call 74; refine (CB.out _ (by go_grown)).mono ?_; rintro e w1 ⟨rfl, hb1⟩; have HB1 : Hid (Below wr.heap.size wr w1) := Lib.hid (ext (by go_grown) hb1); have SB := Lib.hid (HP.out w1 HB1.out); clear hb1))
      all_goals
        go_wp2
        go_roundw
        case rel => exact ⟨k + 1, by omega, by go_num, by rw [HS1.out, HSF.out]; exact int_eq (by omega), by first | exact ext HBX.out HB1.out | exact (ext HBX.out HB1.out).drew⟩
        case measure => simp [intOf]; omega
    · obtain rfl : k = n := by omega
      have HU2 : Hid (usedE D.all (D.names.take k) = usedD D) := by show _ = _; rw [HTK.out, HUE.out]
      generalize usedE D.all (D.names.take k) = u at *
      go_wp2
      go_returns
      exact ⟨by rw [← HU2.out]; rfl, hb⟩
end

/-! kinref5.step: contract. -/
section
open Go.RowKit Go.Extern.Stop Go.Stop Go.Extern

theorem infoKS : (Tryz.prog.info? 122).map (fun i => (i.zero, i.size, i.bytes)) = some (some (.agg #[.int .i64 0, .string ⟨#[]⟩, .string ⟨#[]⟩, .int .i64 0]), 4, 48) := by kernel_rfl
def kstep1 (s : Stp) (no : Nat) : List Value := [.int .i64 ((s.kind : Int) + 1), .string ⟨s.name.toArray⟩, .string ⟨s.to.toArray⟩, .int .i64 (no : Int)]
theorem kstep1_one (s : Stp) (no : Nat) : ∀ u ∈ kstep1 s no, u.oneCell' = true := by
  intro u hu; unfold kstep1 at hu; simp at hu; rcases hu with rfl | rfl | rfl | rfl <;> rfl
theorem kstepcells_app (l : List Stp) (ns : List Nat) (s : Stp) (no : Nat) (hl : ns.length = l.length) : kstepcells (l ++ [s]) (ns ++ [no]) = kstepcells l ns ++ kstep1 s no := by
  unfold kstepcells
  rw [List.length_append, List.length_singleton, List.range_succ, List.flatMap_append]
  congr 1
  · exact flatR_congr fun j hj => by unfold kstepc; rw [getD_appL hj, getD_appL (by rw [hl]; exact hj)]
  · rw [List.flatMap_cons, List.flatMap_nil, List.append_nil]
    unfold kstepc kstep1
    rw [getD_appE, show (ns ++ [no]).getD l.length 0 = no from by rw [← hl]; exact getD_appE]
theorem Ann.len {bs : List Nat} : ∀ {l : List Stp} {m : NM} {ns : List Nat}, Ann bs m l ns → ns.length = l.length
  | [], _, [], _ => rfl
  | [], _, _ :: _, h => h.elim
  | _ :: _, _, [], h => h.elim
  | _ :: r, _, _ :: t, h => by
    have := Ann.len (l := r) (ns := t) h.2.2.2
    simp [this]
section
variable {w w2 : World} {x : Nat} {X : XLay} {D : DS} {bs ns : List Nat}
/-- Names are led elsewhere: another row. -/
theorem XP.named (h : XP w x X D bs ns) {v : Value} {m : NM} (hb : Below w.heap.size w w2) (hn : NRow w2 w.heap.size v m) : XP (w2.setCell ⟨x, 2, none⟩ v) x { X with vn := v } { D with names := m } bs ns := by
  obtain ⟨o1, o2, o3, o4, o5⟩ := h.others
  have h2 := h.ext hb
  have so := set_other w2 x 2 v
  have lx := h.blk.lt
  refine ⟨h2.blk.set 2 v, row_of_block h2.bod fun k hk => so k fun e => o1 (e ▸ hk), h.len, fun j hj => row_of_block (h2.dat j hj) fun k hk => so k fun e => o5 j hj (e ▸ hk), ?_, row_of_block h2.sur fun k hk => so k fun e => o3 (e ▸ hk), row_of_block h2.stp fun k hk => so k fun e => o4 (e ▸ hk)⟩
  exact row_of_block (row_mono hn (Nat.zero_le _)) fun k hk => so k fun e => by have := (hn.lt k hk).1; omega
/-- A step is written down. -/
theorem XP.steps (h : XP w x X D bs ns) {v : Value} {s : Stp} {no : Nat} (hl : ns.length = D.steps.length) (hg : w.grownBy w2 X.vt.ownBlock) (hrow : w2.ownsRow 0 122 4 v (D.steps.length + 1) (kstepcells D.steps ns ++ kstep1 s no)) :
    XP (w2.setCell ⟨x, 4, none⟩ v) x { X with vt := v } { D with steps := D.steps ++ [s] } bs (ns ++ [no]) := by
  obtain ⟨o1, o2, o3, o4, o5⟩ := h.others
  have hB : Blk w2 x (xcells X D) 81 := h.blk.grown hg fun e => o4 e.symm
  have so := set_other w2 x 4 v
  have keep : ∀ {T sz n : Nat} {u : Value} {cs : List Value}, w.ownsRow 0 T sz u n cs → T ≠ 122 → u.ownBlock ≠ some x → (w2.setCell ⟨x, 4, none⟩ v).ownsRow 0 T sz u n cs := fun hr hT hx => row_of_block (row_grown hr hg (rows_ne h.stp hr (Ne.symm hT))) fun k hk => so k fun e => hx (e ▸ hk)
  refine ⟨hB.set 4 v, keep h.bod (by decide) o1, h.len, fun j hj => keep (h.dat j hj) (by decide) (o5 j hj), keep h.nam (by decide) o2, keep h.sur (by decide) o3, ?_⟩
  rw [List.length_append, List.length_singleton, kstepcells_app _ _ _ _ hl]
  exact row_of_block hrow fun k hk => so k fun e => blk_row hB hrow (by decide) (e ▸ hk)
theorem xhas_vn {v : Value} {N k : Nat} (h : ({ X with vn := v } : XLay).has x k) (hv : ∀ k, v.ownBlock = some k → N ≤ k) : X.has x k ∨ N ≤ k := by
  rcases h with h | h | h | h | h | h
  · exact .inl (.inl h)
  · exact .inl (.inr (.inl h))
  · exact .inr (hv k h)
  · exact .inl (.inr (.inr (.inr (.inl h))))
  · exact .inl (.inr (.inr (.inr (.inr (.inl h)))))
  · exact .inl (.inr (.inr (.inr (.inr (.inr h)))))
theorem xhas_vt {v : Value} {N k : Nat} (h : ({ X with vt := v } : XLay).has x k) (hv : ∀ k, v.ownBlock = some k → X.vt.ownBlock = some k ∨ N ≤ k) : X.has x k ∨ N ≤ k := by
  rcases h with h | h | h | h | h | h
  · exact .inl (.inl h)
  · exact .inl (.inr (.inl h))
  · exact .inl (.inr (.inr (.inl h)))
  · exact .inl (.inr (.inr (.inr (.inl h))))
  · rcases hv k h with h | h
    · exact .inl (.inr (.inr (.inr (.inr (.inl h)))))
    · exact .inr h
  · exact .inl (.inr (.inr (.inr (.inr (.inr h)))))
end
theorem XP.not_err {w : World} {x q : Nat} {X : XLay} {D : DS} {bs ns : List Nat} {cs : Array Value} (h : XP w x X D bs ns) (hB : Blk w q cs 45) (hq : q ≠ x) : ∀ k, X.has x k → k ≠ q := by
  intro k hk e
  subst e
  rcases hk with hk | hk | hk | hk | hk | ⟨j, hj, hk⟩
  · exact hq hk
  · exact blk_row hB h.bod (by decide) hk
  · exact blk_row hB h.nam (by decide) hk
  · exact blk_row hB h.sur (by decide) hk
  · exact blk_row hB h.stp (by decide) hk
  · exact blk_row hB (h.dat j (by rw [← h.len]; exact hj)) (by decide) hk
/-- What an operation of the document's disk leaves. -/
def XPost (x : Nat) (X : XLay) (k : Int) (D' : DS) (bs' ns' : List Nat) (w : World) (e : Ending) (w' : World) : Prop :=
  e = .returned (errX k) ∧ ∃ X', XP w' x X' D' bs' ns' ∧ (∀ j, X'.has x j → X.has x j ∨ w.heap.size ≤ j) ∧ Keep (X.has x) w w'
theorem XKeep.self {x : Nat} {X : XLay} {w w' : World} (h : w.grownBy w' (some x)) : Keep (X.has x) w w' := Keep.grown h fun k hk => .inl (Option.some.inj hk).symm
/-- A store into a block that the call made. -/
theorem Keep.set_new {F : Nat → Prop} {w w' : World} (h : Keep F w w') {g o : Nat} (hg : w.heap.size ≤ g) (u : Value) : Keep F w (w'.setCell ⟨g, o, none⟩ u) :=
  ⟨h.os, h.tape, h.output, by have := h.size; simp; exact this, fun k hk hn => (set_other w' g o u k (by omega)).trans (h.block k hk hn)⟩
set_option maxRecDepth 100000 in
set_option maxHeartbeats 1000000 in
theorem xstep_down (x : Nat) (X : XLay) (D : DS) (bs ns : List Nat) (s : Stp) (no : Nat) (T : Nat) (w : World) (h : XP w x X D bs ns) (hI : Inv D T) (hT : T ≤ 100000) (hd : downF D = true) :
    Calls Tryz.prog 84 #[.pointer (some ⟨x, 0, none⟩), kstepV s no] w (XPost x X 10 (fallD D) bs ns w) := by
  obtain ⟨d0, d1⟩ := hI.done
  have lx := h.blk.lt
  have CF := Lib.hid (fun w' (hb : Below w.heap.size w w') => xfalls_any x X D bs ns w' (h.ext hb) d0 (by omega) hI.armed.2)
  rw [hd] at CF
  obtain ⟨kd, nm, to, fl⟩ := s
  unfold kstepV
  obtain ⟨wb, hwb⟩ : ∃ wb, wb = (w.alloc (.cells #[.int .i64 ((kd : Int) + 1), .string ⟨nm.toArray⟩, .string ⟨to.toArray⟩, .int .i64 (no : Int)] 122)).alloc (.cells #[.int .i64 0, .slice none 0 0] 45) := ⟨_, rfl⟩
  have BQ := Lib.hid (show Blk wb (w.heap.size + 1) #[.int .i64 0, .slice none 0 0] 45 from by rw [hwb]; have := Blk.new (w.alloc (.cells #[.int .i64 ((kd : Int) + 1), .string ⟨nm.toArray⟩, .string ⟨to.toArray⟩, .int .i64 (no : Int)] 122)) #[.int .i64 0, .slice none 0 0] 45; simpa using this)
  have HBW := Lib.hid (show Below w.heap.size w wb from by rw [hwb]; go_grown)
  have hxq : x ≠ w.heap.size + 1 := by omega
  have H := Lib.hid h
  clear h hI hd
  subst hwb
  go_enter Tryz.func84, Tryz.ntmps84
  go_wp2_with (first
    | (go_at_call 85; refine (CF.out _ (by go_grown)).mono ?_; rintro e w1 ⟨rfl, hX1, hg1⟩; have HX1 := Lib.hid hX1; have HG1 := Lib.hid hg1; have B1 := Lib.hid (BQ.out.grown hg1 (by intro e; exact hxq (Option.some.inj e).symm)); clear hX1 hg1)
    | (go_at_call 73; refine (xdown_any _).mono ?_; rintro e w2 ⟨rfl, hb2⟩; have B2 := Lib.hid (B1.out.ext hb2); have HB2 := Lib.hid hb2; obtain ⟨x0, x1, x2, x3⟩ := B2.out.two; clear hb2))
  obtain ⟨r0, r1, r2, r3⟩ := (B2.out.set2 (.int .i64 10) (.slice none 0 0)).two
  refine bodyPost_ret (by simp [results, Tryz.results84, go_sem, r0, r1, r2, r3]; try rfl) rfl ?_
  have hX2 := HX1.out.ext HB2.out
  have hxlt : ∀ k, X.has x k → k ≠ w.heap.size + 1 := fun k hk e => by
    have := H.out.lt hk; omega
  refine ⟨rfl, X, ?_, fun j hj => .inl hj, ?_⟩
  · exact hX2.stays fun k hk => by rw [set_other _ _ _ _ k (hxlt k hk), set_other _ _ _ _ k (hxlt k hk)]
  · refine Keep.set_new (Keep.set_new ?_ (by omega) _) (by omega) _
    exact (Keep.of_below HBW.out).trans ((XKeep.self HG1.out).trans ((Keep.of_below HB2.out).mono fun k _ hk => hk))
def stepXD (D : DS) (s : Stp) (no : Nat) : DS := { fallD D with names := doneV D.names s no, steps := D.steps ++ [s] }
set_option maxRecDepth 100000 in
set_option maxHeartbeats 2000000 in
theorem xstep_up (x : Nat) (X : XLay) (D : DS) (bs ns : List Nat) (s : Stp) (no : Nat) (T : Nat) (w : World) (h : XP w x X D bs ns) (hI : Inv D T) (hT : T ≤ 100000) (hX : XI D bs ns) (hk : s.kind ≤ 2) (hno : no ≤ 1000000) (hd : downF D = false) :
    Calls Tryz.prog 84 #[.pointer (some ⟨x, 0, none⟩), kstepV s no] w (XPost x X 0 (stepXD D s no) bs (ns ++ [no]) w) := by
  obtain ⟨d0, d1⟩ := hI.done
  have lx := h.blk.lt
  have CF := Lib.hid (fun w' (hb : Below w.heap.size w w') => xfalls_any x X D bs ns w' (h.ext hb) d0 (by omega) hI.armed.2)
  rw [hd] at CF
  have CD := Lib.hid (fun w' v B (hv : NRow w' B v D.names) => done_any v D.names s no B w' hv hX.srtN (by have := hI.nam; omega) hno hk)
  have HNL := Lib.hid hX.ann.len
  have hsl : D.steps.length ≤ 100000 := by have := hI.stp; omega
  obtain ⟨wb, hwb⟩ : ∃ wb, wb = (w.alloc (.cells (kstep1 s no).toArray 122)).alloc (.cells #[.int .i64 0, .slice none 0 0] 45) := ⟨_, rfl⟩
  have BS := Lib.hid (show Blk wb w.heap.size (kstep1 s no).toArray 122 from by rw [hwb]; exact (Blk.new w _ _).ext (by go_grown))
  have BQ := Lib.hid (show Blk wb (w.heap.size + 1) #[.int .i64 0, .slice none 0 0] 45 from by rw [hwb]; have := Blk.new (w.alloc (.cells (kstep1 s no).toArray 122)) #[.int .i64 0, .slice none 0 0] 45; simpa using this)
  have HBW := Lib.hid (show Below w.heap.size w wb from by rw [hwb]; go_grown)
  have hxq : x ≠ w.heap.size + 1 := by omega
  have hxq0 : x ≠ w.heap.size := by omega
  have H := Lib.hid h
  obtain ⟨no2, ncap, hvn⟩ := rowShape h.nam
  obtain ⟨n, hn⟩ : ∃ n, D.names.length = n := ⟨_, rfl⟩
  rw [hn] at hvn
  have HVN := Lib.hid hvn
  obtain ⟨vto, vtc, hvt⟩ := rowShape h.stp
  obtain ⟨sl, hsl2⟩ : ∃ sl, D.steps.length = sl := ⟨_, rfl⟩
  rw [hsl2] at hvt hsl
  have HVT := Lib.hid hvt
  have HSL := Lib.hid hsl2
  obtain ⟨M, hM⟩ : ∃ M, doneV D.names s no = M := ⟨_, rfl⟩
  have HMM := Lib.hid hM
  rw [hM] at CD
  obtain ⟨kd, nm, to, fl⟩ := s
  clear h hI hd hX hvn hn hvt hsl2 hM
  unfold kstep1 at hwb BS BQ
  unfold kstepV at CD ⊢
  simp only at hwb BS BQ CD ⊢
  go_enter Tryz.func84, Tryz.ntmps84
  go_wp2_with (first
    | (go_at_call 85; refine (CF.out _ (by go_grown)).mono ?_; rintro e w1 ⟨rfl, hX1, hg1⟩; have HX1 := Lib.hid hX1; rw [← hwb] at hg1; have HG1 := Lib.hid hg1; have B1 := Lib.hid (BQ.out.grown hg1 (by intro e; exact hxq (Option.some.inj e).symm)); have S1 := Lib.hid (BS.out.grown hg1 (by intro e; exact hxq0 (Option.some.inj e).symm)); clear hX1 hg1))
  have y2 : w1.cell? ⟨x, 2, none⟩ = some (.slice no2 n ncap) := (HX1.out.cell 2).trans (congrArg some HVN.out)
  have t0 : w1.cell? ⟨w.heap.size, 0, none⟩ = some (.int .i64 ((kd : Int) + 1)) := S1.out.cell 0
  have t1 : w1.cell? ⟨w.heap.size, 1, none⟩ = some (.string ⟨nm.toArray⟩) := S1.out.cell 1
  have t2 : w1.cell? ⟨w.heap.size, 2, none⟩ = some (.string ⟨to.toArray⟩) := S1.out.cell 2
  have t3 : w1.cell? ⟨w.heap.size, 3, none⟩ = some (.int .i64 (no : Int)) := S1.out.cell 3
  have HN1 := Lib.hid (show NRow w1 0 (.slice no2 n ncap) D.names from by have := HX1.out.nam; rw [HVN.out] at this; exact this)
  have lx1 : x < w1.heap.size := HX1.out.blk.lt
  go_region_with ((go_at_call 72; refine (CD.out _ _ _ (HN1.out.ext (by go_grown))).mono ?_; rintro e w2 ⟨ao2, cap2, rfl, ho2, hb2⟩; have HB2 : Hid (Below w1.heap.size w1 w2) := Lib.hid (ext (by go_grown) hb2); have HO2 := Lib.hid (ho2.mono (show Below w1.heap.size w1 _ from by go_grown).size); have HX2 := Lib.hid (HX1.out.ext HB2.out); have z2 : w2.cell? ⟨x, 2, none⟩ = some (.slice no2 n ncap) := (HX2.out.cell 2).trans (congrArg some HVN.out); have zf2 := HX2.out.free 2; clear ho2 hb2))
  all_goals
    have HX3 := Lib.hid (HX1.out.named HB2.out HO2.out)
    have B3 := Lib.hid ((B1.out.ext HB2.out).of_block (set_other w2 x 2 (.slice ao2 M.length cap2) (w.heap.size + 1) (fun e => hxq e.symm)))
    have S3 := Lib.hid ((S1.out.ext HB2.out).of_block (set_other w2 x 2 (.slice ao2 M.length cap2) w.heap.size (fun e => hxq0 e.symm)))
    have K3 := Lib.hid (show Keep (X.has x) w (w2.setCell ⟨x, 2, none⟩ (.slice ao2 M.length cap2)) from (((Keep.of_below HBW.out).trans (XKeep.self HG1.out)).trans (Keep.of_below HB2.out)).trans (XKeep.self (grown_set _ _ _ _)))
    have hz1 : w.heap.size ≤ w1.heap.size := Nat.le_trans HBW.out.size HG1.out.size
    have HNV := Lib.hid (fun j (hj : ({ X with vn := .slice ao2 M.length cap2 } : XLay).has x j) => xhas_vn (N := w.heap.size) hj (fun k hk => Nat.le_trans hz1 (HO2.out.lt k hk).1))
    obtain ⟨w4, hw4⟩ : ∃ w4, w2.setCell ⟨x, 2, none⟩ (.slice ao2 M.length cap2) = w4 := ⟨_, rfl⟩
    rw [hw4] at HX3 B3 S3 K3
    rw [hw4]
    clear y2 t0 t1 t2 t3 z2 zf2 hw4
    have s4 : w4.cell? ⟨x, 4, none⟩ = some (.slice vto sl vtc) := (HX3.out.cell 4).trans (congrArg some HVT.out)
    have f4 := HX3.out.free 4
    have b0 : w4.cell? ⟨w.heap.size, 0, none⟩ = some (.int .i64 ((kd : Int) + 1)) := S3.out.cell 0
    have b1 : w4.cell? ⟨w.heap.size, 1, none⟩ = some (.string ⟨nm.toArray⟩) := S3.out.cell 1
    have b2 : w4.cell? ⟨w.heap.size, 2, none⟩ = some (.string ⟨to.toArray⟩) := S3.out.cell 2
    have b3 : w4.cell? ⟨w.heap.size, 3, none⟩ = some (.int .i64 (no : Int)) := S3.out.cell 3
    have lx4 := HX3.out.blk.lt
    have ls4 := S3.out.lt
    have HST := Lib.hid (show w4.ownsRow 0 122 4 (.slice vto sl vtc) sl (kstepcells D.steps ns) from by have h9 : w4.ownsRow 0 122 4 X.vt D.steps.length (kstepcells D.steps ns) := HX3.out.stp; rw [HVT.out, HSL.out] at h9; exact h9)
    have hvx : some x ≠ (Value.slice vto sl vtc).ownBlock := fun e => HX3.out.others.2.2.2.1 (by show X.vt.ownBlock = some x; rw [HVT.out]; exact e.symm)
    have hvN1 : some (w.heap.size + 1) ≠ (Value.slice vto sl vtc).ownBlock := fun e => blk_row B3.out HST.out (by decide) e.symm
    go_wp2
    go_region_law ((refine step_row1L 79 122 4 48 _ Tryz.underlying79 infoKS rfl (by decide) (by rfl) _ _ (by rfl) w4 0 (.slice vto sl vtc) sl (kstepcells D.steps ns) (kstep1 ⟨kd, nm, to, fl⟩ no) (by rfl) HST.out _ (by rfl) (heap_alloc_new _ _) (grown_of _) (by rfl) (kstep1_one _ _) (by omega) (by decide) (Nat.zero_le _) ?_; intro g5 cap5 w5 hown5 hg5 hat5; have HG5 := Lib.hid hg5; have HO5 := Lib.hid hown5; have HA5 := Lib.hid hat5; have z4 : w5.cell? ⟨x, 4, none⟩ = some (.slice vto sl vtc) := hg5.cell s4 hvx; have zf : w5.frozen? ⟨x, 4, none⟩ = false := (World.frozen?_of_block (a := ⟨x, 4, none⟩) (hg5.block x lx4 hvx)).trans f4; clear hown5 hg5 hat5))
    all_goals
      obtain ⟨v5, hv5⟩ : ∃ v5, v5 = Value.slice (some ⟨g5, 0, none⟩) (sl + 1) cap5 := ⟨_, rfl⟩
      have HV5 := Lib.hid hv5
      have HX6 := Lib.hid (HX3.out.steps (v := v5) (s := ⟨kd, nm, to, fl⟩) (no := no) HNL.out (by show w4.grownBy w5 X.vt.ownBlock; rw [HVT.out]; exact HG5.out) (by show w5.ownsRow 0 122 4 v5 (D.steps.length + 1) (kstepcells D.steps ns ++ kstep1 ⟨kd, nm, to, fl⟩ no); rw [HSL.out, HV5.out]; exact HO5.out))
      have B5 := Lib.hid ((B3.out.grown HG5.out hvN1).of_block (set_other w5 x 4 v5 (w.heap.size + 1) (fun e => hxq e.symm)))
      have hg45 : w4.heap.size ≤ w5.heap.size := HG5.out.size
      have K5 : Hid (Keep (X.has x) w (w5.setCell ⟨x, 4, none⟩ v5)) := (K3.out.trans (Keep.grown HG5.out fun k hk => .inr (.inr (.inr (.inr (.inl (by rw [HVT.out]; exact hk.symm ▸ rfl))))))).trans (XKeep.self (grown_set _ _ _ _))
      rw [← hv5]
      obtain ⟨w6, hw6⟩ : ∃ w6, w5.setCell ⟨x, 4, none⟩ v5 = w6 := ⟨_, rfl⟩
      rw [hw6] at HX6 B5 K5
      rw [hw6]
      clear hv5 hw6 z4 zf s4 f4 b0 b1 b2 b3
      obtain ⟨x0, x1, x2, x3⟩ := B5.out.two
      go_wp2
      obtain ⟨r0, r1, r2, r3⟩ := (B5.out.set2 (.int .i64 0) (.slice none 0 0)).two
      refine bodyPost_ret (by simp [results, Tryz.results84, go_sem, r0, r1, r2, r3]; try rfl) rfl ?_
      have hxlt := HX6.out.not_err B5.out (fun e => hxq e.symm)
      refine ⟨rfl, ⟨X.vb, .slice ao2 M.length cap2, X.vu, v5, X.dv⟩, ?_, fun j hj => ?_, Keep.set_new (Keep.set_new K5.out (by omega) _) (by omega) _⟩
      · have h9 := HX6.out.stays (w' := (w6.setCell ⟨w.heap.size + 1, 0, none⟩ (.int .i64 0)).setCell ⟨w.heap.size + 1, 1, none⟩ (.slice none 0 0)) fun k hk => by rw [set_other _ _ _ _ k (hxlt k hk), set_other _ _ _ _ k (hxlt k hk)]
        unfold stepXD
        rw [HMM.out]; exact h9
      · rcases xhas_vt (X := { X with vn := .slice ao2 M.length cap2 }) (N := w.heap.size) hj (fun k hk => by
          rw [HV5.out] at hk
          obtain rfl : g5 = k := Option.some.inj hk
          rcases HA5.out with h1 | h1
          · exact .inl (by show X.vt.ownBlock = some g5; rw [HVT.out]; exact h1)
          · exact .inr (Nat.le_trans K3.out.size h1)) with h1 | h1
        · exact HNV.out j h1
        · exact .inr h1
end
end Go.Proofs.YtdiaejphgcoknaaGreatDoor
