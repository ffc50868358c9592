/- kinref.Within, Ints, CopyInts; slices.Clone, IndexFunc, ContainsFunc on ints: contracts. -/
import Derived.Test.YtkiigodkbmcpfaaDoorInts
import Derived.Test.YtkiigodkbmcpfaaDoorErrs
import Derived.BigQuiet
import Derived.Deep.QuietTactic
import Derived.Laws.AppendOwnNone
import Derived.WalkSpells
import Derived.WalkSmall
import Derived.Laws.CopyOwn
set_option linter.unusedSimpArgs false
set_option linter.unusedVariables false
namespace Go.Proofs.YtkiigodkbmcpfaaDoor
open Go.RowKit

/-! ### Within -/
def withinB (xs : List Int) (a b : Int) : Bool := xs.all fun x => decide (a ≤ x) && decide (x ≤ b)
theorem within_take {xs : List Int} {a b : Int} {k : Nat} (h : withinB (xs.take k) a b = true) (hk : k < xs.length) (h1 : a ≤ xs.getD k 0) (h2 : xs.getD k 0 ≤ b) : withinB (xs.take (k + 1)) a b = true := by
  unfold withinB at *
  rw [List.take_succ_eq_append_getElem hk, List.all_append, h]
  simp [List.getD, hk] at h1 h2
  simp [h1, h2]
theorem within_not {xs : List Int} {a b : Int} {k : Nat} (hk : k < xs.length) (h : xs.getD k 0 < a ∨ b < xs.getD k 0) : withinB xs a b = false := by
  unfold withinB
  rw [List.all_eq_false]
  simp [List.getD, hk] at h
  refine ⟨xs[k], List.getElem_mem hk, ?_⟩
  simp; omega
theorem within_any (v : Value) (xs : List Int) (a b : Int) (w : World) (hv : Ints w v xs) :
    Calls Tryd.prog 25 #[v, .int .i64 a, .int .i64 b] w fun e w' => e = .returned (.bool (withinB xs a b)) ∧ w = w' := by
  have hlen := hv.len
  obtain ⟨ao, cap, rfl, h1, h2, h3, h5, h4⟩ := hv
  have H4 := Lib.hid h4
  clear h1 h2 h3 h4 h5
  go_enter Tryd.func25, Tryd.ntmps25
  go_wp2
  go_loop [7] (fun i => ∃ k : Nat, k ≤ xs.length ∧ i = .int .i64 k ∧ withinB (xs.take k) a b = true) (fun i => xs.length - (intOf i).toNat)
  case atStart => exact ⟨0, Nat.zero_le _, rfl, rfl⟩
  case round =>
    obtain ⟨k, hk, rfl, hw⟩ := hrel
    have Hw := Lib.hid hw
    clear hw
    by_cases hlt : k < xs.length
    · obtain ⟨bb, off, rfl, hcell⟩ := H4.out k hlt
      clear H4
      generalize hx : xs.getD k 0 = x at hcell
      have Hx := Lib.hid hx
      clear hx
      by_cases hlo : x < a
      · go_wp2
        go_returns
        exact ⟨by rw [within_not hlt (.inl (by rw [Hx.out]; exact hlo))]; rfl, rfl⟩
      · by_cases hhi : b < x
        · go_wp2
          go_returns
          exact ⟨by rw [within_not hlt (.inr (by rw [Hx.out]; exact hhi))]; rfl, rfl⟩
        · go_wp2
          go_round
          case rel => exact ⟨k + 1, by omega, by go_num, within_take Hw.out hlt (by rw [Hx.out]; omega) (by rw [Hx.out]; omega)⟩
          case measure => simp [intOf]; omega
    · go_wp2
      go_returns
      have e : k = xs.length := by omega
      have hw' := Hw.out
      rw [e, List.take_length] at hw'
      exact ⟨by rw [hw']; rfl, rfl⟩

/-! ### kinref.Ints -/
theorem take_same {xs ys : List Int} {k : Nat} (h : xs.take k = ys.take k) (hx : k < xs.length) (hy : k < ys.length) (e : xs.getD k 0 = ys.getD k 0) : xs.take (k + 1) = ys.take (k + 1) := by
  rw [List.take_succ_eq_append_getElem hx, List.take_succ_eq_append_getElem hy, h]
  simp [List.getD, hx, hy] at e
  rw [e]
theorem not_same {xs ys : List Int} {k : Nat} (e : ¬ xs.getD k 0 = ys.getD k 0) : decide (xs = ys) = false := by
  simp only [decide_eq_false_iff_not]; intro h; rw [h] at e; exact e rfl
theorem ints_any (v u : Value) (xs ys : List Int) (w : World) (hv : Ints w v xs) (hu : Ints w u ys) :
    Calls Tryd.prog 24 #[v, u] w fun e w' => e = .returned (.bool (decide (xs = ys))) ∧ Below w.heap.size w w' := by
  have hlen := hv.len
  have hlen2 := hu.len
  obtain ⟨ao, cap, rfl, h1, h2, h3, h5, h4⟩ := hv
  obtain ⟨ao2, cap2, rfl, g1, g2, g3, g5, g4⟩ := hu
  have H4 := Lib.hid h4
  have G4 := Lib.hid g4
  clear h1 h2 h3 h5 g1 g2 g3 g5 h4 g4
  by_cases hl : xs.length = ys.length
  · have hl1 : ((xs.length : Int) != (ys.length : Int)) = false := by simp [hl]
    have Hl := Lib.hid hl
    have hl2 : xs.length ≤ ys.length := by omega
    have hl3 : ys.length ≤ xs.length := by omega
    clear hl
    go_enter Tryd.func24, Tryd.ntmps24
    go_wp2
    go_loopw [5] (fun i wr => ∃ k : Nat, k ≤ xs.length ∧ i = .int .i64 k ∧ xs.take k = ys.take k ∧ Below w.heap.size w wr) (fun i _ => xs.length - (intOf i).toNat)
    case atStart => exact ⟨0, Nat.zero_le _, rfl, rfl, Below.refl _ _⟩
    case round =>
      obtain ⟨k, hk, rfl, hw, hb⟩ := hrel
      have Hw := Lib.hid hw
      clear hw
      by_cases hlt : k < xs.length
      · obtain ⟨bb, off, rfl, hcell⟩ := H4.out k hlt
        obtain ⟨bb2, off2, rfl, hcell2⟩ := G4.out k (by omega)
        clear H4 G4
        replace hcell := (hb.cell (p := ⟨bb, off + k, none⟩) (World.block_lt_of_cell? w _ hcell)).trans hcell
        replace hcell2 := (hb.cell (p := ⟨bb2, off2 + k, none⟩) (World.block_lt_of_cell? w _ hcell2)).trans hcell2
        generalize hx : xs.getD k 0 = x at hcell
        generalize hy : ys.getD k 0 = y at hcell2
        have Hx := Lib.hid hx
        have Hy := Lib.hid hy
        clear hx hy
        by_cases he : x = y
        · have he1 : (x != y) = false := by simp [he]
          have He := Lib.hid he
          clear he
          go_wp2
          go_quiet (fail)
          go_wp2
          go_roundw
          case rel => exact ⟨k + 1, by omega, by go_num, take_same Hw.out hlt (by omega) (by rw [Hx.out, Hy.out, He.out]), by first | exact hb | exact hb.drew | exact below_drewN hb _⟩
          case measure => simp [intOf]; omega
        · have he1 : (x != y) = true := by simp [he]
          go_wp2
          go_quiet (fail)
          go_wp2
          go_returns
          have He : Hid (¬ x = y) := he
          rw [← Hx.out, ← Hy.out] at he
          exact ⟨by rw [not_same he]; rfl, by first | exact hb | exact hb.drew | exact below_drewN hb _⟩
      · go_wp2
        go_returns
        have e : k = xs.length := by omega
        have hw' := Hw.out
        rw [e, List.take_length, Hl.out, List.take_length] at hw'
        exact ⟨by rw [hw']; simp, hb⟩
  · have hl1 : ((xs.length : Int) != (ys.length : Int)) = true := by simp; omega
    go_enter Tryd.func24, Tryd.ntmps24
    go_wp2
    go_returns
    exact ⟨by rw [show decide (xs = ys) = false from by simp; intro h; rw [h] at hl; exact hl rfl]; rfl, Below.refl _ _⟩

/-! ### kinref.CopyInts, slices.Clone -/
theorem own_empty (w : World) : OwnInts (w.alloc (.cells #[] 3)) w.heap.size (.slice (some ⟨w.heap.size, 0, none⟩) 0 0) [] :=
  ⟨World.ownsRow_lit w #[] 0 (Nat.le_refl _) (by simp [maxLen]) (by simp), by simp⟩
theorem copy_any (v : Value) (xs : List Int) (w : World) (hv : Ints w v xs) (hl : xs.length ≤ 1099511627776) :
    Calls Tryd.prog 19 #[v] w fun e w' => ∃ v', e = .returned v' ∧ OwnInts w' w.heap.size v' xs ∧ Below w.heap.size w w' := by
  have hv' : Ints (w.alloc (.cells #[] 3)) v xs := hv.ext (by go_grown)
  have HV := Lib.hid hv'
  clear hv hv'
  go_enter Tryd.func19, Tryd.ntmps19
  go_wp2_with (at_builtin; refine wpList_appl rfl (.tmp 3) (.tmp 4) rfl w.heap.size _ _ [] xs rfl (own_empty w) rfl HV.out (by simpa using hl) (by simp) ?_)
  intro v' w' hown hb _
  go_wp2
  go_returns
  exact ⟨_, rfl, by simpa using hown, ((Below.refl _ _).alloc (Nat.le_refl _) _).trans hb⟩
theorem clone_any (v : Value) (xs : List Int) (w : World) (hv : Ints w v xs) (hl : xs.length ≤ 1099511627776) (hp : 0 < xs.length) :
    Calls Tryd.prog 39 #[v] w fun e w' => ∃ v', e = .returned v' ∧ OwnInts w' w.heap.size v' xs ∧ Below w.heap.size w w' := by
  have hv' : Ints (w.alloc (.cells #[] 3)) v xs := hv.ext (by go_grown)
  have hs : ∃ b off cap, v = .slice (some ⟨b, off, none⟩) xs.length cap := by
    obtain ⟨ao, cap, rfl, h1, h2, h3, h5, h4⟩ := hv
    obtain ⟨b, off, rfl, _⟩ := h4 0 hp
    exact ⟨b, off, cap, rfl⟩
  obtain ⟨b, off, cap, rfl⟩ := hs
  have HV := Lib.hid hv'
  clear hv hv'
  have hn := fun (w : World) => Lib.run_eql_slice_nil (P := Tryd.prog) w 39 3 (some ⟨b, off, none⟩) xs.length cap 0 0 Tryd.underlying39
  go_enter Tryd.func39, Tryd.ntmps39
  go_wp2_with (at_builtin; refine wpList_appl rfl (.tmp 5) (.tmp 6) rfl w.heap.size _ _ [] xs rfl (own_empty w) rfl HV.out (by simpa using hl) (by simp) ?_)
  intro v' w' hown hb _
  go_wp2
  go_returns
  exact ⟨_, rfl, by simpa using hown, ((Below.refl _ _).alloc (Nat.le_refl _) _).trans hb⟩

/-! ### slices.IndexFunc, ContainsFunc -/
theorem run_callFunc_enter {f : Nat} {fn : Func} (hf : Tryd.prog.funcs[f]? = some fn) (hn : (fn.name == "runtime.NumGoroutine") = false) (hb : fn.body.isNone = false) (args : Array Value) (w : World) :
    (callFunc f args).run Tryd.prog w = .ok (.enter f args) w := by
  have hn' : ¬ fn.name = "runtime.NumGoroutine" := by simpa using hn
  have hb' : ¬ fn.body = none := by intro h; rw [h] at hb; simp at hb
  simp [callFunc, hf, hn', hb']
/-- Where the first element lies for which p holds; -1: nowhere. -/
def firstAt (p : Int → Bool) (xs : List Int) : Int := match xs.findIdx? p with | some i => i | none => -1
theorem firstAt_hit {p : Int → Bool} {xs : List Int} {k : Nat} (hk : k < xs.length) (hn : (xs.take k).any p = false) (hp : p (xs.getD k 0) = true) : firstAt p xs = k := by
  have : xs.findIdx? p = some k := by
    rw [List.findIdx?_eq_some_iff_getElem]
    simp [List.getD, hk] at hp
    refine ⟨hk, hp, fun j hj => ?_⟩
    rw [List.any_eq_false] at hn
    have := hn xs[j] (by rw [List.mem_take_iff_getElem]; exact ⟨j, by omega, rfl⟩)
    simpa using this
  simp [firstAt, this]
theorem firstAt_none {p : Int → Bool} {xs : List Int} (hn : xs.any p = false) : firstAt p xs = -1 := by
  have : xs.findIdx? p = none := by
    rw [List.findIdx?_eq_none_iff]
    rw [List.any_eq_false] at hn
    intro x hx; simpa using hn x hx
  simp [firstAt, this]
theorem any_take {p : Int → Bool} {xs : List Int} {k : Nat} (hk : k < xs.length) (hn : (xs.take k).any p = false) (hp : p (xs.getD k 0) = false) : (xs.take (k + 1)).any p = false := by
  rw [List.take_succ_eq_append_getElem hk, List.any_append, hn]
  simp [List.getD, hk] at hp
  simp [hp]
theorem index_any (f : Nat) (fn : Func) (hf : Tryd.prog.funcs[f]? = some fn) (hn : (fn.name == "runtime.NumGoroutine") = false) (hb : fn.body.isNone = false) (cs : Array Value) (p : Int → Bool)
    (v : Value) (xs : List Int) (w : World) (hv : Ints w v xs)
    (hc : ∀ x, in64 x → Calls Tryd.prog f (#[.int .i64 x] ++ cs) w fun e w' => e = .returned (.bool (p x)) ∧ w = w') :
    Calls Tryd.prog 46 #[v, .func (.func f) #[] cs] w fun e w' => e = .returned (.int .i64 (firstAt p xs)) ∧ w = w' := by
  have hlen := hv.len
  have hin := Lib.hid (getD_in64 hv.in64)
  obtain ⟨ao, cap, rfl, h1, h2, h3, h5, h4⟩ := hv
  have H4 := Lib.hid h4
  have HC := Lib.hid hc
  have hrun := fun (args : Array Value) (w : World) => run_callFunc_enter hf hn hb args w
  clear h1 h2 h3 h4 h5 hc hf hn hb
  go_enter Tryd.func46, Tryd.ntmps46
  go_wp2
  go_loop [8] (fun i => ∃ k : Nat, k ≤ xs.length ∧ i = .int .i64 k ∧ (xs.take k).any p = false) (fun i => xs.length - (intOf i).toNat)
  case atStart => exact ⟨0, Nat.zero_le _, rfl, rfl⟩
  case round =>
    obtain ⟨k, hk, rfl, hw⟩ := hrel
    have Hw := Lib.hid hw
    clear hw
    by_cases hlt : k < xs.length
    · obtain ⟨bb, off, rfl, hcell⟩ := H4.out k hlt
      clear H4
      have hi := hin.out k
      generalize hx : xs.getD k 0 = x at hcell hi
      have Hx := Lib.hid hx
      clear hx
      go_wp2_with fail
      cases hp : p x with
      | true =>
        refine (HC.out x hi).mono ?_
        rintro e w' ⟨rfl, rfl⟩
        rw [hp]
        go_wp2
        go_returns
        exact ⟨by rw [firstAt_hit hlt Hw.out (by rw [Hx.out]; exact hp)]; rfl, rfl⟩
      | false =>
        refine (HC.out x hi).mono ?_
        rintro e w' ⟨rfl, rfl⟩
        rw [hp]
        go_wp2
        go_round
        case rel => exact ⟨k + 1, by omega, by go_num, any_take hlt Hw.out (by rw [Hx.out]; exact hp)⟩
        case measure => simp [intOf]; omega
    · go_wp2
      go_returns
      have e : k = xs.length := by omega
      have hw' := Hw.out
      rw [e, List.take_length] at hw'
      exact ⟨by rw [firstAt_none hw']; rfl, rfl⟩
theorem contains_any (f : Nat) (fn : Func) (hf : Tryd.prog.funcs[f]? = some fn) (hn : (fn.name == "runtime.NumGoroutine") = false) (hb : fn.body.isNone = false) (cs : Array Value) (p : Int → Bool)
    (v : Value) (xs : List Int) (w : World) (hv : Ints w v xs)
    (hc : ∀ x, in64 x → Calls Tryd.prog f (#[.int .i64 x] ++ cs) w fun e w' => e = .returned (.bool (p x)) ∧ w = w') :
    Calls Tryd.prog 37 #[v, .func (.func f) #[] cs] w fun e w' => e = .returned (.bool (xs.any p)) ∧ w = w' := by
  have hi := Lib.hid (index_any f fn hf hn hb cs p v xs w hv hc)
  cases hp : xs.any p with
  | false =>
    have e1 : firstAt p xs = -1 := firstAt_none hp
    rw [e1] at hi
    clear e1 hf hn hb hc hv hp
    go_enter Tryd.func37, Tryd.ntmps37
    go_wp2_with (go_at_call 46; refine hi.out.mono ?_; rintro e w' ⟨rfl, rfl⟩)
    go_returns
    exact ⟨rfl, rfl⟩
  | true =>
    have e1 : 0 ≤ firstAt p xs := by
      unfold firstAt
      split
      · omega
      · rename_i h
        rw [List.findIdx?_eq_none_iff] at h
        rw [List.any_eq_true] at hp
        obtain ⟨x, hx, hpx⟩ := hp
        have := h x hx
        simp [this] at hpx
    generalize firstAt p xs = i at hi e1
    clear hf hn hb hc hv hp
    go_enter Tryd.func37, Tryd.ntmps37
    go_wp2_with (go_at_call 46; refine hi.out.mono ?_; rintro e w' ⟨rfl, rfl⟩)
    go_returns
    exact ⟨rfl, rfl⟩
end Go.Proofs.YtkiigodkbmcpfaaDoor
