/- disk.New, kinlaw5.act: contracts. -/
import Derived.Test.YtdiaejphgcoknaaGreatDoorDiskZ
import Derived.Test.YtdiaejphgcoknaaGreatDoorDiskAb
set_option linter.unusedSimpArgs false
set_option linter.unusedVariables false
namespace Go.Proofs.YtdiaejphgcoknaaGreatDoor
open Go.RowKit Go.Extern.Stop Go.Stop Go.Extern

theorem NamesAt.made (w : World) : NamesAt (w.alloc (.map #[] 0)) w.heap.size [] := World.ownsMap_made w _ _ _
set_option maxRecDepth 100000 in
theorem new_any (r : Int) (hr : 0 ≤ r ∧ r ≤ 16777216) (w : World) :
    Calls Tryz.prog 6 #[.int .i64 r] w fun e w' => e = .returned (.tuple #[.pointer (some ⟨w.heap.size + 2, 0, none⟩), .nilIface]) ∧ DP w' (w.heap.size + 2) ⟨.slice none 0 0, .slice none 0 0, w.heap.size, w.heap.size + 1, []⟩ (newD r) ∧ Below w.heap.size w w' := by
  have hmm := @run_makeMap Tryz.prog
  obtain ⟨h1, h2⟩ := hr
  go_enter Tryz.func6, Tryz.ntmps6
  go_wp2
  go_returns
  refine ⟨rfl, ?_, by go_grown⟩
  have hB := Blk.new ((w.alloc (.map #[] 0)).alloc (.map #[] 0)) (dcells ⟨.slice none 0 0, .slice none 0 0, w.heap.size, w.heap.size + 1, []⟩ (newD r)) 62
  have e : ((w.alloc (.map #[] 0)).alloc (.map #[] 0)).heap.size = w.heap.size + 2 := by simp
  rw [e] at hB
  refine ⟨hB, World.ownsRow_nil _ _ _ 2, rfl, fun j hj => by simp [newD] at hj, fun i j k hi => by simp [newD] at hi, ?_, ?_, by show w.heap.size ≠ w.heap.size + 1; omega, World.ownsRow_nil _ _ _ 4⟩
  · exact (NamesAt.made w).kept (row := none) ((World.grownBy_alloc _ _ none).trans (World.grownBy_alloc _ _ none)) (by simp)
  · have h9 := (NamesAt.made (w.alloc (.map #[] 0))).kept (row := none) (World.grownBy_alloc _ (.cells (dcells ⟨.slice none 0 0, .slice none 0 0, w.heap.size, w.heap.size + 1, []⟩ (newD r)) 62) none) (by simp)
    have e1 : (w.alloc (.map #[] 0)).heap.size = w.heap.size + 1 := by simp
    rw [e1] at h9
    exact h9
set_option maxRecDepth 100000 in
theorem new_not (r : Int) (hr : ¬ (0 ≤ r ∧ r ≤ 16777216)) (w : World) :
    Calls Tryz.prog 6 #[.int .i64 r] w fun e w' => e = .returned (.tuple #[.pointer none, errV 3]) ∧ Below w.heap.size w w' := by
  rw [errV_ne (k := 3) (by decide)]
  by_cases h1 : r < 0
  · clear hr
    go_enter Tryz.func6, Tryz.ntmps6
    go_wp2
    go_returns
    exact ⟨rfl, by go_grown⟩
  · have h2 : r > 16777216 := by omega
    clear hr
    go_enter Tryz.func6, Tryz.ntmps6
    go_wp2
    go_returns
    exact ⟨rfl, by go_grown⟩

def opV (o : OpP) (vb vp : Value) : Value := .agg #[.int .i64 o.kind, .int .i64 o.n, .string ⟨o.name.toArray⟩, .string ⟨o.to.toArray⟩, vb, vp]
theorem Keep.of_alloc (F : Nat → Prop) (w : World) (o : Obj) : Keep F w (w.alloc o) := Keep.of_below ((Below.refl _ _).alloc (Nat.le_refl _) _)
theorem OpPost.of_alloc {p : Nat} {L : Lay} {x : Int} {D' : DS} {w w' : World} {o : Obj} {e : Ending} (h : OpPost p L x D' (w.alloc o) e w') : OpPost p L x D' w e w' := h.after (Keep.of_alloc _ _ _) fun _ hk => .inl hk

set_option maxRecDepth 100000 in
set_option maxHeartbeats 1000000 in
theorem actop_create (p : Nat) (L : Lay) (D : DS) (n : Int) (a t b : Bs) (pk : List Int) (vb vp : Value) (T : Nat) (w : World) (h : DP w p L D) (hI : Inv D T) (hT : T ≤ 100000) (hn : a.length ≤ maxLen) (ht : t.length ≤ maxLen) (hb : BytesV w vb b) (hp : ∀ w', Keep (L.has p) w w' → Ints w' vp pk) :
    Calls Tryz.prog 8 #[.pointer (some ⟨p, 0, none⟩), opV ⟨0, n, a, t, b, pk⟩ vb vp] w (OpPost p L (actE D ⟨0, n, a, t, b, pk⟩) (actD D ⟨0, n, a, t, b, pk⟩) w) := by
  obtain ⟨wa, hwa⟩ : ∃ wa, wa = w.alloc (.cells #[.int .i64 0, .int .i64 n, .string ⟨a.toArray⟩, .string ⟨t.toArray⟩, vb, vp] 34) := ⟨_, rfl⟩
  have h1 : DP wa p L D := by rw [hwa]; exact h.stays fun k hk => heap_alloc_old w _ (h.lt hk)
  have hbw : Below w.heap.size w wa := by rw [hwa]; exact (Below.refl _ _).alloc (Nat.le_refl _) _
  have HA : Hid (∀ x D' e w', OpPost p L x D' wa e w' → OpPost p L x D' w e w') := fun x D' e w' h => h.after (Keep.of_below hbw) fun _ hk => .inl hk
  have e1 : actE D ⟨0, n, a, t, b, pk⟩ = goesE D (createE D a) := by simp [actE]
  have e2 : actD D ⟨0, n, a, t, b, pk⟩ = createD D a := by simp [actD]
  rw [e1, e2]
  have C := Lib.hid (create_any p L D a T wa h1 hI hT hn)
  clear h h1 hI hT hn ht hb hp e1 e2 hbw
  unfold opV
  generalize goesE D (createE D a) = x at *
  generalize createD D a = D2 at *
  subst hwa
  go_enter Tryz.func8, Tryz.ntmps8
  go_wp2_with (go_at_call 17; refine C.out.mono ?_; rintro e w1 hq; obtain ⟨rfl, hq2⟩ := id hq; have HQ := Lib.hid hq; clear hq hq2)
  go_returns
  exact HA.out _ _ _ _ HQ.out

set_option maxRecDepth 100000 in
set_option maxHeartbeats 1000000 in
theorem actop_append (p : Nat) (L : Lay) (D : DS) (n : Int) (a t b : Bs) (pk : List Int) (vb vp : Value) (T : Nat) (w : World) (h : DP w p L D) (hI : Inv D T) (hT : T ≤ 100000) (hn : a.length ≤ maxLen) (ht : t.length ≤ maxLen) (hb : BytesV w vb b) (hp : ∀ w', Keep (L.has p) w w' → Ints w' vp pk) :
    Calls Tryz.prog 8 #[.pointer (some ⟨p, 0, none⟩), opV ⟨1, n, a, t, b, pk⟩ vb vp] w (OpPost p L (actE D ⟨1, n, a, t, b, pk⟩) (actD D ⟨1, n, a, t, b, pk⟩) w) := by
  obtain ⟨wa, hwa⟩ : ∃ wa, wa = w.alloc (.cells #[.int .i64 1, .int .i64 n, .string ⟨a.toArray⟩, .string ⟨t.toArray⟩, vb, vp] 34) := ⟨_, rfl⟩
  have h1 : DP wa p L D := by rw [hwa]; exact h.stays fun k hk => heap_alloc_old w _ (h.lt hk)
  have hbw : Below w.heap.size w wa := by rw [hwa]; exact (Below.refl _ _).alloc (Nat.le_refl _) _
  have HA : Hid (∀ x D' e w', OpPost p L x D' wa e w' → OpPost p L x D' w e w') := fun x D' e w' h => h.after (Keep.of_below hbw) fun _ hk => .inl hk
  have e1 : actE D ⟨1, n, a, t, b, pk⟩ = appE D a b := by simp [actE]
  have e2 : actD D ⟨1, n, a, t, b, pk⟩ = appD D a b := by simp [actD]
  rw [e1, e2]
  have C := Lib.hid (append_any p L D a vb b T wa h1 (hb.ext hbw) hI hT hn)
  clear h h1 hI hT hn ht hb hp e1 e2 hbw
  unfold opV
  generalize appE D a b = x at *
  generalize appD D a b = D2 at *
  subst hwa
  go_enter Tryz.func8, Tryz.ntmps8
  go_wp2_with (go_at_call 21; refine C.out.mono ?_; rintro e w1 hq; obtain ⟨rfl, hq2⟩ := id hq; have HQ := Lib.hid hq; clear hq hq2)
  go_returns
  exact HA.out _ _ _ _ HQ.out

set_option maxRecDepth 100000 in
set_option maxHeartbeats 1000000 in
theorem actop_sync (p : Nat) (L : Lay) (D : DS) (n : Int) (a t b : Bs) (pk : List Int) (vb vp : Value) (T : Nat) (w : World) (h : DP w p L D) (hI : Inv D T) (hT : T ≤ 100000) (hn : a.length ≤ maxLen) (ht : t.length ≤ maxLen) (hb : BytesV w vb b) (hp : ∀ w', Keep (L.has p) w w' → Ints w' vp pk) :
    Calls Tryz.prog 8 #[.pointer (some ⟨p, 0, none⟩), opV ⟨2, n, a, t, b, pk⟩ vb vp] w (OpPost p L (actE D ⟨2, n, a, t, b, pk⟩) (actD D ⟨2, n, a, t, b, pk⟩) w) := by
  obtain ⟨wa, hwa⟩ : ∃ wa, wa = w.alloc (.cells #[.int .i64 2, .int .i64 n, .string ⟨a.toArray⟩, .string ⟨t.toArray⟩, vb, vp] 34) := ⟨_, rfl⟩
  have h1 : DP wa p L D := by rw [hwa]; exact h.stays fun k hk => heap_alloc_old w _ (h.lt hk)
  have hbw : Below w.heap.size w wa := by rw [hwa]; exact (Below.refl _ _).alloc (Nat.le_refl _) _
  have HA : Hid (∀ x D' e w', OpPost p L x D' wa e w' → OpPost p L x D' w e w') := fun x D' e w' h => h.after (Keep.of_below hbw) fun _ hk => .inl hk
  have e1 : actE D ⟨2, n, a, t, b, pk⟩ = syncE D a := by simp [actE]
  have e2 : actD D ⟨2, n, a, t, b, pk⟩ = syncD D a := by simp [actD]
  rw [e1, e2]
  have C := Lib.hid (sync_any p L D a T wa h1 hI hT hn)
  clear h h1 hI hT hn ht hb hp e1 e2 hbw
  unfold opV
  generalize syncE D a = x at *
  generalize syncD D a = D2 at *
  subst hwa
  go_enter Tryz.func8, Tryz.ntmps8
  go_wp2_with (go_at_call 23; refine C.out.mono ?_; rintro e w1 hq; obtain ⟨rfl, hq2⟩ := id hq; have HQ := Lib.hid hq; clear hq hq2)
  go_returns
  exact HA.out _ _ _ _ HQ.out

set_option maxRecDepth 100000 in
set_option maxHeartbeats 1000000 in
theorem actop_rename (p : Nat) (L : Lay) (D : DS) (n : Int) (a t b : Bs) (pk : List Int) (vb vp : Value) (T : Nat) (w : World) (h : DP w p L D) (hI : Inv D T) (hT : T ≤ 100000) (hn : a.length ≤ maxLen) (ht : t.length ≤ maxLen) (hb : BytesV w vb b) (hp : ∀ w', Keep (L.has p) w w' → Ints w' vp pk) :
    Calls Tryz.prog 8 #[.pointer (some ⟨p, 0, none⟩), opV ⟨3, n, a, t, b, pk⟩ vb vp] w (OpPost p L (actE D ⟨3, n, a, t, b, pk⟩) (actD D ⟨3, n, a, t, b, pk⟩) w) := by
  obtain ⟨wa, hwa⟩ : ∃ wa, wa = w.alloc (.cells #[.int .i64 3, .int .i64 n, .string ⟨a.toArray⟩, .string ⟨t.toArray⟩, vb, vp] 34) := ⟨_, rfl⟩
  have h1 : DP wa p L D := by rw [hwa]; exact h.stays fun k hk => heap_alloc_old w _ (h.lt hk)
  have hbw : Below w.heap.size w wa := by rw [hwa]; exact (Below.refl _ _).alloc (Nat.le_refl _) _
  have HA : Hid (∀ x D' e w', OpPost p L x D' wa e w' → OpPost p L x D' w e w') := fun x D' e w' h => h.after (Keep.of_below hbw) fun _ hk => .inl hk
  have e1 : actE D ⟨3, n, a, t, b, pk⟩ = renE D a t := by simp [actE]
  have e2 : actD D ⟨3, n, a, t, b, pk⟩ = renD D a t := by simp [actD]
  rw [e1, e2]
  have C := Lib.hid (rename_any p L D a t T wa h1 hI hT hn ht)
  clear h h1 hI hT hn ht hb hp e1 e2 hbw
  unfold opV
  generalize renE D a t = x at *
  generalize renD D a t = D2 at *
  subst hwa
  go_enter Tryz.func8, Tryz.ntmps8
  go_wp2_with (go_at_call 24; refine C.out.mono ?_; rintro e w1 hq; obtain ⟨rfl, hq2⟩ := id hq; have HQ := Lib.hid hq; clear hq hq2)
  go_returns
  exact HA.out _ _ _ _ HQ.out

set_option maxRecDepth 100000 in
set_option maxHeartbeats 1000000 in
theorem actop_remove (p : Nat) (L : Lay) (D : DS) (n : Int) (a t b : Bs) (pk : List Int) (vb vp : Value) (T : Nat) (w : World) (h : DP w p L D) (hI : Inv D T) (hT : T ≤ 100000) (hn : a.length ≤ maxLen) (ht : t.length ≤ maxLen) (hb : BytesV w vb b) (hp : ∀ w', Keep (L.has p) w w' → Ints w' vp pk) :
    Calls Tryz.prog 8 #[.pointer (some ⟨p, 0, none⟩), opV ⟨4, n, a, t, b, pk⟩ vb vp] w (OpPost p L (actE D ⟨4, n, a, t, b, pk⟩) (actD D ⟨4, n, a, t, b, pk⟩) w) := by
  obtain ⟨wa, hwa⟩ : ∃ wa, wa = w.alloc (.cells #[.int .i64 4, .int .i64 n, .string ⟨a.toArray⟩, .string ⟨t.toArray⟩, vb, vp] 34) := ⟨_, rfl⟩
  have h1 : DP wa p L D := by rw [hwa]; exact h.stays fun k hk => heap_alloc_old w _ (h.lt hk)
  have hbw : Below w.heap.size w wa := by rw [hwa]; exact (Below.refl _ _).alloc (Nat.le_refl _) _
  have HA : Hid (∀ x D' e w', OpPost p L x D' wa e w' → OpPost p L x D' w e w') := fun x D' e w' h => h.after (Keep.of_below hbw) fun _ hk => .inl hk
  have e1 : actE D ⟨4, n, a, t, b, pk⟩ = remE D a := by simp [actE]
  have e2 : actD D ⟨4, n, a, t, b, pk⟩ = remD D a := by simp [actD]
  rw [e1, e2]
  have C := Lib.hid (remove_any p L D a T wa h1 hI hT hn)
  clear h h1 hI hT hn ht hb hp e1 e2 hbw
  unfold opV
  generalize remE D a = x at *
  generalize remD D a = D2 at *
  subst hwa
  go_enter Tryz.func8, Tryz.ntmps8
  go_wp2_with (go_at_call 25; refine C.out.mono ?_; rintro e w1 hq; obtain ⟨rfl, hq2⟩ := id hq; have HQ := Lib.hid hq; clear hq hq2)
  go_returns
  exact HA.out _ _ _ _ HQ.out

set_option maxRecDepth 100000 in
set_option maxHeartbeats 1000000 in
theorem actop_syncdir (p : Nat) (L : Lay) (D : DS) (n : Int) (a t b : Bs) (pk : List Int) (vb vp : Value) (T : Nat) (w : World) (h : DP w p L D) (hI : Inv D T) (hT : T ≤ 100000) (hn : a.length ≤ maxLen) (ht : t.length ≤ maxLen) (hb : BytesV w vb b) (hp : ∀ w', Keep (L.has p) w w' → Ints w' vp pk) :
    Calls Tryz.prog 8 #[.pointer (some ⟨p, 0, none⟩), opV ⟨5, n, a, t, b, pk⟩ vb vp] w (OpPost p L (actE D ⟨5, n, a, t, b, pk⟩) (actD D ⟨5, n, a, t, b, pk⟩) w) := by
  obtain ⟨wa, hwa⟩ : ∃ wa, wa = w.alloc (.cells #[.int .i64 5, .int .i64 n, .string ⟨a.toArray⟩, .string ⟨t.toArray⟩, vb, vp] 34) := ⟨_, rfl⟩
  have h1 : DP wa p L D := by rw [hwa]; exact h.stays fun k hk => heap_alloc_old w _ (h.lt hk)
  have hbw : Below w.heap.size w wa := by rw [hwa]; exact (Below.refl _ _).alloc (Nat.le_refl _) _
  have HA : Hid (∀ x D' e w', OpPost p L x D' wa e w' → OpPost p L x D' w e w') := fun x D' e w' h => h.after (Keep.of_below hbw) fun _ hk => .inl hk
  have e1 : actE D ⟨5, n, a, t, b, pk⟩ = sdirE D := by simp [actE]
  have e2 : actD D ⟨5, n, a, t, b, pk⟩ = sdirD D := by simp [actD]
  rw [e1, e2]
  have C := Lib.hid (syncdir_any p L D T wa h1 hI hT)
  clear h h1 hI hT hn ht hb hp e1 e2 hbw
  unfold opV
  generalize sdirE D = x at *
  generalize sdirD D = D2 at *
  subst hwa
  go_enter Tryz.func8, Tryz.ntmps8
  go_wp2_with (go_at_call 26; refine C.out.mono ?_; rintro e w1 hq; obtain ⟨rfl, hq2⟩ := id hq; have HQ := Lib.hid hq; clear hq hq2)
  go_returns
  exact HA.out _ _ _ _ HQ.out

set_option maxRecDepth 100000 in
set_option maxHeartbeats 1000000 in
theorem actop_arm (p : Nat) (L : Lay) (D : DS) (n : Int) (a t b : Bs) (pk : List Int) (vb vp : Value) (T : Nat) (w : World) (h : DP w p L D) (hI : Inv D T) (hT : T ≤ 100000) (hn : a.length ≤ maxLen) (ht : t.length ≤ maxLen) (hb : BytesV w vb b) (hp : ∀ w', Keep (L.has p) w w' → Ints w' vp pk) :
    Calls Tryz.prog 8 #[.pointer (some ⟨p, 0, none⟩), opV ⟨7, n, a, t, b, pk⟩ vb vp] w (OpPost p L (actE D ⟨7, n, a, t, b, pk⟩) (actD D ⟨7, n, a, t, b, pk⟩) w) := by
  obtain ⟨wa, hwa⟩ : ∃ wa, wa = w.alloc (.cells #[.int .i64 7, .int .i64 n, .string ⟨a.toArray⟩, .string ⟨t.toArray⟩, vb, vp] 34) := ⟨_, rfl⟩
  have h1 : DP wa p L D := by rw [hwa]; exact h.stays fun k hk => heap_alloc_old w _ (h.lt hk)
  have hbw : Below w.heap.size w wa := by rw [hwa]; exact (Below.refl _ _).alloc (Nat.le_refl _) _
  have HA : Hid (∀ x D' e w', OpPost p L x D' wa e w' → OpPost p L x D' w e w') := fun x D' e w' h => h.after (Keep.of_below hbw) fun _ hk => .inl hk
  have e1 : actE D ⟨7, n, a, t, b, pk⟩ = 0 := by simp [actE]
  have e2 : actD D ⟨7, n, a, t, b, pk⟩ = armD D n := by simp [actD]
  rw [e1, e2]
  have C := Lib.hid (arm_any p L D n wa h1)
  clear h h1 hI hT hn ht hb hp e1 e2 hbw
  unfold opV
  generalize armD D n = D2 at *
  subst hwa
  go_enter Tryz.func8, Tryz.ntmps8
  go_wp2_with (go_at_call 27; refine C.out.mono ?_; rintro e w1 ⟨rfl, hD, hg⟩; have HD := Lib.hid hD; have HG := Lib.hid hg; clear hD hg)
  go_returns
  exact HA.out _ _ _ _ ⟨by rw [errV_zero]; rfl, L, HD.out, fun k hk => .inl hk, Keep.self HG.out⟩

set_option maxRecDepth 100000 in
set_option maxHeartbeats 1000000 in
theorem actop_crash (p : Nat) (L : Lay) (D : DS) (n : Int) (a t b : Bs) (pk : List Int) (vb vp : Value) (T : Nat) (w : World) (h : DP w p L D) (hI : Inv D T) (hT : T ≤ 100000) (hn : a.length ≤ maxLen) (ht : t.length ≤ maxLen) (hb : BytesV w vb b) (hp : ∀ w', Keep (L.has p) w w' → Ints w' vp pk) :
    Calls Tryz.prog 8 #[.pointer (some ⟨p, 0, none⟩), opV ⟨8, n, a, t, b, pk⟩ vb vp] w (OpPost p L (actE D ⟨8, n, a, t, b, pk⟩) (actD D ⟨8, n, a, t, b, pk⟩) w) := by
  obtain ⟨wa, hwa⟩ : ∃ wa, wa = w.alloc (.cells #[.int .i64 8, .int .i64 n, .string ⟨a.toArray⟩, .string ⟨t.toArray⟩, vb, vp] 34) := ⟨_, rfl⟩
  have h1 : DP wa p L D := by rw [hwa]; exact h.stays fun k hk => heap_alloc_old w _ (h.lt hk)
  have hbw : Below w.heap.size w wa := by rw [hwa]; exact (Below.refl _ _).alloc (Nat.le_refl _) _
  have HA : Hid (∀ x D' e w', OpPost p L x D' wa e w' → OpPost p L x D' w e w') := fun x D' e w' h => h.after (Keep.of_below hbw) fun _ hk => .inl hk
  have e1 : actE D ⟨8, n, a, t, b, pk⟩ = 0 := by simp [actE]
  have e2 : actD D ⟨8, n, a, t, b, pk⟩ = crashD D pk := by simp [actD]
  rw [e1, e2]
  have C := Lib.hid (crash_any p L D pk vp T wa h1 hI hT fun w' hk => hp w' ((Keep.of_below hbw).trans hk))
  clear h h1 hI hT hn ht hb hp e1 e2 hbw
  unfold opV
  generalize crashD D pk = D2 at *
  subst hwa
  go_enter Tryz.func8, Tryz.ntmps8
  go_wp2_with (go_at_call 18; refine C.out.mono ?_; rintro e w1 ⟨rfl, hq⟩; have HQ := Lib.hid hq; clear hq)
  go_returns
  exact HA.out _ _ _ _ ⟨by rw [errV_zero]; rfl, HQ.out⟩

set_option maxRecDepth 100000 in
set_option maxHeartbeats 1000000 in
theorem actop_else (p : Nat) (L : Lay) (D : DS) (kd : Int) (n : Int) (a t b : Bs) (pk : List Int) (vb vp : Value) (T : Nat) (w : World) (h : DP w p L D) (hI : Inv D T) (hT : T ≤ 100000) (hn : a.length ≤ maxLen) (ht : t.length ≤ maxLen) (hb : BytesV w vb b) (hp : ∀ w', Keep (L.has p) w w' → Ints w' vp pk) (hk : ¬ (0 ≤ kd ∧ kd ≤ 5) ∧ kd ≠ 7 ∧ kd ≠ 8) :
    Calls Tryz.prog 8 #[.pointer (some ⟨p, 0, none⟩), opV ⟨kd, n, a, t, b, pk⟩ vb vp] w (OpPost p L (actE D ⟨kd, n, a, t, b, pk⟩) (actD D ⟨kd, n, a, t, b, pk⟩) w) := by
  obtain ⟨wa, hwa⟩ : ∃ wa, wa = w.alloc (.cells #[.int .i64 kd, .int .i64 n, .string ⟨a.toArray⟩, .string ⟨t.toArray⟩, vb, vp] 34) := ⟨_, rfl⟩
  have h1 : DP wa p L D := by rw [hwa]; exact h.stays fun k hk => heap_alloc_old w _ (h.lt hk)
  have hbw : Below w.heap.size w wa := by rw [hwa]; exact (Below.refl _ _).alloc (Nat.le_refl _) _
  have HA : Hid (∀ x D' e w', OpPost p L x D' wa e w' → OpPost p L x D' w e w') := fun x D' e w' h => h.after (Keep.of_below hbw) fun _ hk => .inl hk
  obtain ⟨h6, h7, h8⟩ := hk
  have k0 : kd ≠ 0 := by omega
  have k1 : kd ≠ 1 := by omega
  have k2 : kd ≠ 2 := by omega
  have k3 : kd ≠ 3 := by omega
  have k4 : kd ≠ 4 := by omega
  have k5 : kd ≠ 5 := by omega
  have e1 : actE D ⟨kd, n, a, t, b, pk⟩ = 0 := by simp [actE, k0, k1, k2, k3, k4, k5]
  have e2 : actD D ⟨kd, n, a, t, b, pk⟩ = D := by simp [actD, k0, k1, k2, k3, k4, k5, h7, h8]
  rw [e1, e2]
  have H1 := Lib.hid h1
  have q0 := err_ne (k := kd) k0
  have q1 : (kd == 1) = false := by simpa using k1
  have q2 : (kd == 2) = false := by simpa using k2
  have q3 : (kd == 3) = false := by simpa using k3
  have q4 : (kd == 4) = false := by simpa using k4
  have q5 : (kd == 5) = false := by simpa using k5
  have q7 : (kd == 7) = false := by simpa using h7
  have q8 : (kd == 8) = false := by simpa using h8
  clear h h1 hI hT hn ht hb hp e1 e2 hbw h6 k0 k1 k2 k3 k4 k5 h7 h8
  unfold opV
  subst hwa
  go_enter Tryz.func8, Tryz.ntmps8
  go_wp2
  go_returns
  exact HA.out _ _ _ _ ⟨by rw [errV_zero]; rfl, L, H1.out, fun k hk => .inl hk, Keep.refl _ _⟩
theorem actop_any (p : Nat) (L : Lay) (D : DS) (o : OpP) (vb vp : Value) (T : Nat) (w : World) (h : DP w p L D) (hI : Inv D T) (hT : T ≤ 100000) (hn : o.name.length ≤ maxLen) (ht : o.to.length ≤ maxLen) (hb : BytesV w vb o.b) (hp : ∀ w', Keep (L.has p) w w' → Ints w' vp o.picks) :
    Calls Tryz.prog 8 #[.pointer (some ⟨p, 0, none⟩), opV o vb vp] w (OpPost p L (actE D o) (actD D o) w) := by
  obtain ⟨kd, n, a, t, b, pk⟩ := o
  by_cases h6 : 0 ≤ kd ∧ kd ≤ 5
  · have : kd = 0 ∨ kd = 1 ∨ kd = 2 ∨ kd = 3 ∨ kd = 4 ∨ kd = 5 := by omega
    rcases this with rfl | rfl | rfl | rfl | rfl | rfl
    · exact actop_create p L D n a t b pk vb vp T w h hI hT hn ht hb hp
    · exact actop_append p L D n a t b pk vb vp T w h hI hT hn ht hb hp
    · exact actop_sync p L D n a t b pk vb vp T w h hI hT hn ht hb hp
    · exact actop_rename p L D n a t b pk vb vp T w h hI hT hn ht hb hp
    · exact actop_remove p L D n a t b pk vb vp T w h hI hT hn ht hb hp
    · exact actop_syncdir p L D n a t b pk vb vp T w h hI hT hn ht hb hp
  · by_cases h7 : kd = 7
    · subst h7; exact actop_arm p L D n a t b pk vb vp T w h hI hT hn ht hb hp
    · by_cases h8 : kd = 8
      · subst h8; exact actop_crash p L D n a t b pk vb vp T w h hI hT hn ht hb hp
      · exact actop_else p L D kd n a t b pk vb vp T w h hI hT hn ht hb hp ⟨h6, h7, h8⟩
end Go.Proofs.YtdiaejphgcoknaaGreatDoor
