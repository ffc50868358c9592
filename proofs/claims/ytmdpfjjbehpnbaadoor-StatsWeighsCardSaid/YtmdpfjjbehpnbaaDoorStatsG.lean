/- stats.row, stats.Weights: contracts. -/
import Derived.Test.YtmdpfjjbehpnbaaDoorStatsI
import Derived.Test.YtmdpfjjbehpnbaaDoorGroups
import Derived.Deep.DeepCutAuto
set_option linter.unusedSimpArgs false
set_option linter.unusedVariables false
namespace Go.Proofs.YtmdpfjjbehpnbaaDoor
open Go.RowKit Go.Extern.Stop Go.Stop Go.Extern

def atT (gs : List (Int × Int)) (k : Nat) : Int := sumOf k fun j => (gs.getD j (0, 0)).2
theorem atT_succ (gs : List (Int × Int)) (k : Nat) : atT gs (k + 1) = atT gs k + (gs.getD k (0, 0)).2 := rfl
/-- Groups lie one behind the other over n frames, up to number k. -/
def TileTo (gs : List (Int × Int)) (n k : Nat) : Prop := ∀ j, j < k → (gs.getD j (0, 0)).1 = atT gs j ∧ 1 ≤ (gs.getD j (0, 0)).2 ∧ (gs.getD j (0, 0)).2 ≤ n - atT gs j
def Tiles (gs : List (Int × Int)) (n : Nat) : Prop := TileTo gs n gs.length ∧ atT gs gs.length = n ∧ 1 ≤ n ∧ n ≤ 16
theorem TileTo.bd {gs : List (Int × Int)} {n : Nat} : ∀ {k : Nat}, TileTo gs n k → 0 ≤ atT gs k ∧ atT gs k ≤ n
  | 0, _ => ⟨Int.le_refl 0, by show (0 : Int) ≤ n; omega⟩
  | k + 1, h => by
    have ih := TileTo.bd (k := k) fun j hj => h j (by omega)
    have hk := h k (by omega)
    rw [atT_succ]; omega
theorem TileTo.snoc {gs : List (Int × Int)} {n k : Nat} (h : TileTo gs n k) (h1 : (gs.getD k (0, 0)).1 = atT gs k) (h2 : 1 ≤ (gs.getD k (0, 0)).2) (h3 : (gs.getD k (0, 0)).2 ≤ n - atT gs k) : TileTo gs n (k + 1) := by
  intro j hj
  rcases Nat.lt_or_ge j k with hjk | hjk
  · exact h j hjk
  · obtain rfl : j = k := by omega
    exact ⟨h1, h2, h3⟩
theorem atT_mono {gs : List (Int × Int)} {n : Nat} {a : Nat} : ∀ {b : Nat}, TileTo gs n b → a < b → atT gs a + (gs.getD a (0, 0)).2 ≤ atT gs b
  | 0, _, h => by omega
  | b + 1, ht, h => by
    have hb := ht b (by omega)
    rw [atT_succ]
    rcases Nat.lt_or_ge a b with hab | hab
    · have := atT_mono (b := b) (fun j hj => ht j (by omega)) hab
      omega
    · obtain rfl : a = b := by omega
      omega
/-- Does a frame begin a group? -/
def begB (gs : List (Int × Int)) (i : Nat) : Bool := gs.any fun p => p.1 == (i : Int)
theorem begB_iff {gs : List (Int × Int)} {i : Nat} : begB gs i = true ↔ ∃ j, j < gs.length ∧ (gs.getD j (0, 0)).1 = i := by
  unfold begB
  rw [List.any_eq_true]
  constructor
  · rintro ⟨p, hp, he⟩
    obtain ⟨j, hj, e⟩ := List.getElem_of_mem hp
    exact ⟨j, hj, by rw [List.getD_eq_getElem?_getD, List.getElem?_eq_getElem hj, Option.getD_some, e]; simpa using he⟩
  · rintro ⟨j, hj, e⟩
    refine ⟨gs[j], List.getElem_mem hj, ?_⟩
    rw [List.getD_eq_getElem?_getD, List.getElem?_eq_getElem hj, Option.getD_some] at e
    simpa using e
theorem beg_yes {gs : List (Int × Int)} {n k i : Nat} (h : TileTo gs n gs.length) (hk : k < gs.length) (hi : (i : Int) = atT gs k) : begB gs i = true := begB_iff.2 ⟨k, hk, by rw [(h k hk).1, hi]⟩
theorem beg_no {gs : List (Int × Int)} {n k i : Nat} (h : TileTo gs n gs.length) (hk : k < gs.length) (h1 : atT gs k < i) (h2 : (i : Int) < atT gs k + (gs.getD k (0, 0)).2) : begB gs i = false := by
  cases e : begB gs i with
  | false => rfl
  | true =>
    obtain ⟨j, hj, e⟩ := begB_iff.1 e
    have hjj := (h j hj).1
    have hjc := (h j hj).2.1
    exfalso
    rcases Nat.lt_trichotomy j k with hl | hl | hl
    · have := atT_mono (fun m hm => h m (by omega)) hl
      omega
    · subst hl; omega
    · have := atT_mono (fun m hm => h m (by omega)) hl
      omega
def wE (fs : List Fr) (gs : List (Int × Int)) (i : Nat) : Int := if begB gs i then innE (frA fs i) else unlE (frA fs i) (frA fs (i - 1))
def wV (fs : List Fr) (gs : List (Int × Int)) (i : Nat) : Int := 64 + (if begB gs i then innV (frA fs i) * 2 else outV (frA fs i) (frA fs (i - 1)))
theorem blk_ne {w : World} {b B T T' sz n : Nat} {cs : Array Value} {v : Value} {xs : List Value} (h : Blk w b cs T) (h' : w.ownsRow B T' sz v n xs) (hT : T ≠ T') : some b ≠ v.ownBlock := by
  intro e
  rcases h'.2 with ⟨rfl, _⟩ | ⟨g, cap, cur, rfl, _, hg, _⟩
  · cases e
  · simp only [Value.ownBlock, Option.some.injEq] at e
    subst e
    unfold Blk at h
    rw [h] at hg
    simp only [Option.some.injEq, Obj.cells.injEq] at hg
    exact hT hg.2.1
set_option maxRecDepth 100000 in
set_option maxHeartbeats 4000000 in
theorem prow_any (v : Value) (gs : List (Int × Int)) (n : Nat) (w : World) (hv : Grps w v gs) (hn : (n : Int) ≤ 9223372036854775807) (r : Bool) (hr : r = true ↔ Tiles gs n) :
    Calls Tryd.prog 38 #[v, .int .i64 n] w fun e w' => e = .returned (.bool r) ∧ Below w.heap.size w w' := by
  have HV := Lib.hid hv
  have HI := Lib.hid (fun j => hv.in64 j)
  have HR := Lib.hid hr
  obtain ⟨L, hL⟩ : ∃ L, gs.length = L := ⟨_, rfl⟩
  have LG := Lib.hid hL
  have hl := hv.len
  rw [hL] at hl
  obtain ⟨ao, cap, rfl⟩ := hv.shapeN hL
  clear hv hr hL
  go_enter Tryd.func38, Tryd.ntmps38
  go_wp2
  go_loopw [5, 10] (fun at_ i wr => ∃ k : Nat, k ≤ L ∧ i = .int .i64 k ∧ at_ = .int .i64 (atT gs k) ∧ TileTo gs n k ∧ Below w.heap.size w wr) (fun _ i _ => L - (intOf i).toNat)
  case atStart => exact ⟨0, Nat.zero_le _, rfl, rfl, fun j h => by omega, Below.refl _ _⟩
  case round =>
    obtain ⟨k, hk, rfl, rfl, ht, hbr⟩ := hrel
    obtain ⟨t1, t2⟩ := ht.bd
    have s1 := hbr.size
    have HT := Lib.hid ht
    clear ht
    by_cases hlt : k < L
    · obtain ⟨b, off, rfl, lb, c0, c1⟩ := (HV.out.ext hbr).cellAt (j := k) (by rw [LG.out]; exact hlt)
      obtain ⟨i1, i2⟩ := HI.out k
      unfold in64 at i1 i2
      have HS := Lib.hid (atT_succ gs k)
      have HSN := Lib.hid (fun h1 h2 h3 => HT.out.snoc h1 h2 h3)
      have HNO : Hid (∀ (h : ¬ ((gs.getD k (0, 0)).1 = atT gs k ∧ 1 ≤ (gs.getD k (0, 0)).2 ∧ (gs.getD k (0, 0)).2 ≤ n - atT gs k)), r = false) := fun h => by
        cases hrr : r with
        | false => rfl
        | true => exact absurd ((HR.out.1 hrr).1 k (by rw [LG.out]; exact hlt)) h
      generalize (gs.getD k (0, 0)).1 = f at *
      generalize (gs.getD k (0, 0)).2 = c at *
      generalize atT gs k = a at *
      obtain ⟨i3, i4⟩ := i1
      obtain ⟨i5, i6⟩ := i2
      have q1 : IntKind.i64.wrap ((n : Int) - a) = (n : Int) - a := IntWalk.i64_in _ (by omega)
      by_cases h1 : f = a
      · have p1 : (f != a) = false := by simp; exact h1
        by_cases h2 : c < 1
        · have hrf := Lib.hid (HNO.out (by omega))
          clear h1
          go_wp2
          go_returns
          exact ⟨by rw [hrf.out]; rfl, by go_grown⟩
        · by_cases h3 : (n : Int) - a < c
          · have hrf := Lib.hid (HNO.out (by omega))
            clear h1
            go_wp2
            go_returns
            exact ⟨by rw [hrf.out]; rfl, by go_grown⟩
          · have HT2 := Lib.hid (HSN.out h1 (by omega) (by omega))
            have q2 : IntKind.i64.wrap (a + c) = a + c := IntWalk.i64_in _ (by omega)
            clear h1
            go_wp2
            go_roundw
            case rel => exact ⟨k + 1, by omega, by go_num, int_eq HS.out.symm, HT2.out, by go_grown⟩
            case measure => simp [intOf]; omega
      · have p1 : (f != a) = true := by simp; exact h1
        have hrf := Lib.hid (HNO.out (by omega))
        go_wp2
        go_returns
        exact ⟨by rw [hrf.out]; rfl, by go_grown⟩
    · obtain rfl : k = L := by omega
      have HE : Hid (r = true ↔ (atT gs k = n ∧ 1 ≤ n ∧ n ≤ 16)) := by
        have h := HR.out
        have ht := HT.out
        unfold Tiles at h
        rw [LG.out] at h
        exact ⟨fun q => (h.1 q).2, fun q => h.2 ⟨ht, q⟩⟩
      generalize atT gs k = a at *
      clear HR HT
      by_cases h1 : a = (n : Int)
      · have p1 : (a == (n : Int)) = true := by simp; exact h1
        by_cases h2 : 1 ≤ n
        · by_cases h3 : n ≤ 16
          · have hr := Lib.hid (HE.out.2 ⟨h1, h2, h3⟩)
            clear h1
            go_wp2
            go_returns
            exact ⟨by rw [hr.out]; first | rfl | (simp; omega), hbr⟩
          · have hr : Hid (r = false) := by cases e : r with | false => rfl | true => exact absurd (HE.out.1 e).2.2 h3
            clear h1
            go_wp2
            go_returns
            exact ⟨by rw [hr.out]; first | rfl | (simp; omega), hbr⟩
        · have hr : Hid (r = false) := by cases e : r with | false => rfl | true => exact absurd (HE.out.1 e).2.1 h2
          clear h1
          go_wp2
          go_returns
          exact ⟨by rw [hr.out]; first | rfl | (simp; omega), hbr⟩
      · have p1 : (a == (n : Int)) = false := by rw [beq_eq_false_iff_ne]; exact h1
        have hr : Hid (r = false) := by cases e : r with | false => rfl | true => exact absurd (HE.out.1 e).1 h1
        go_wp2
        go_returns
        exact ⟨by rw [hr.out]; first | rfl | (simp; omega), hbr⟩
end Go.Proofs.YtmdpfjjbehpnbaaDoor
