/- The plain law behind DiskRoom. -/
import Derived.Test.YtdiaejphgcoknaaDoorDiskAc
set_option linter.unusedSimpArgs false
set_option linter.unusedVariables false
namespace Go.Proofs.YtdiaejphgcoknaaDoor
open Go.RowKit

def sizeF (all : List DF) (p : Bs × Nat) : Nat := (all.getD p.2 DF.nought).data.length
def usedE (all : List DF) (m : NM) : Nat := (m.map (sizeF all)).sum
theorem nget_mem : ∀ {m : NM}, (keysN m).Nodup → ∀ {p : Bs × Nat}, p ∈ m → nget m p.1 = some p.2
  | [], _, p, h => by simp at h
  | q :: r, hn, p, h => by
    obtain ⟨h1, h2⟩ := List.nodup_cons.1 (show ((q.1) :: keysN r).Nodup from hn)
    rcases List.mem_cons.1 h with rfl | h
    · unfold nget; simp
    · have hne : q.1 ≠ p.1 := fun e => h1 (by rw [e]; exact List.mem_map.2 ⟨p, h, rfl⟩)
      have := nget_mem h2 h
      unfold nget at this ⊢
      rw [List.find?_cons, show (q.1 == p.1) = false from by simpa using hne]
      exact this
theorem used_eq {D : DS} (hn : (keysN D.names).Nodup) : usedD D = usedE D.all D.names := by
  unfold usedD usedE keysN
  rw [List.map_map]
  congr 1
  refine List.map_congr_left fun p hp => ?_
  show (D.file (fileN D.names p.1)).data.length = _
  unfold fileN
  rw [nget_mem hn hp]; rfl
theorem usedE_congr {all all' : List DF} {m : NM} (h : ∀ p ∈ m, sizeF all' p = sizeF all p) : usedE all' m = usedE all m := by
  unfold usedE; rw [List.map_congr_left h]
theorem usedE_filter (all : List DF) (f : Bs × Nat → Bool) : ∀ m : NM, usedE all (m.filter f) + usedE all (m.filter fun p => !f p) = usedE all m
  | [] => rfl
  | p :: r => by
    have ih := usedE_filter all f r
    unfold usedE at ih ⊢
    cases h : f p with
    | true => rw [List.filter_cons_of_pos h, List.filter_cons_of_neg (by simp [h]), List.map_cons, List.sum_cons, List.map_cons, List.sum_cons]; omega
    | false => rw [List.filter_cons_of_neg (by simp [h]), List.filter_cons_of_pos (by simp [h]), List.map_cons, List.sum_cons, List.map_cons, List.sum_cons]; omega
theorem usedE_ndel (all : List DF) (m : NM) (k : Bs) : usedE all (ndel m k) ≤ usedE all m := by
  have := usedE_filter all (fun p => !(p.1 == k)) m
  unfold ndel; omega
theorem usedE_mem {all : List DF} : ∀ {m : NM} {p : Bs × Nat}, p ∈ m → sizeF all p ≤ usedE all m
  | q :: r, p, h => by
    unfold usedE
    rw [List.map_cons, List.sum_cons]
    rcases List.mem_cons.1 h with rfl | h
    · omega
    · have := usedE_mem (all := all) h; unfold usedE at this; omega
theorem usedE_ndel_mem {all : List DF} {m : NM} {k : Bs} {v : Nat} (h : (k, v) ∈ m) : usedE all (ndel m k) + sizeF all (k, v) ≤ usedE all m := by
  have h1 := usedE_filter all (fun p => !(p.1 == k)) m
  have h2 : sizeF all (k, v) ≤ usedE all (m.filter fun p => !!(p.1 == k)) := usedE_mem (List.mem_filter.2 ⟨h, by simp⟩)
  unfold ndel; omega
theorem usedE_nins (all : List DF) (x : Bs × Nat) : ∀ m : NM, usedE all (nins x m) = sizeF all x + usedE all m
  | [] => rfl
  | y :: r => by
    unfold nins
    split
    · unfold usedE; rw [List.map_cons, List.sum_cons]
    · have ih := usedE_nins all x r
      unfold usedE at ih ⊢
      rw [List.map_cons, List.sum_cons, ih, List.map_cons, List.sum_cons]; omega
theorem perm_nins (x : Bs × Nat) : ∀ m : NM, (nins x m).Perm (x :: m)
  | [] => List.Perm.refl _
  | y :: r => by
    unfold nins
    split
    · exact List.Perm.refl _
    · exact ((perm_nins x r).cons y).trans (List.Perm.swap x y r)
theorem ndel_none {m : NM} {k : Bs} (h : nget m k = none) : ndel m k = m := by
  unfold nget at h
  rw [Option.map_eq_none_iff, List.find?_eq_none] at h
  unfold ndel
  rw [List.filter_eq_self]
  intro p hp
  have := h p hp
  simpa using this
theorem length_ndel_mem {m : NM} {k : Bs} {v : Nat} (h : (k, v) ∈ m) : (ndel m k).length + 1 ≤ m.length := by
  unfold ndel
  have h1 : (m.filter fun p => !(p.1 == k)).length < m.length := List.length_filter_lt_length_iff_exists.2 ⟨(k, v), h, by simp⟩
  omega
/-- Names apart, files apart. -/
structure Sole (m : NM) : Prop where
  keys : (m.map fun p => p.1).Nodup
  vals : (m.map fun p => p.2).Nodup
theorem Sole.ndel {m : NM} (h : Sole m) (k : Bs) : Sole (ndel m k) := ⟨h.keys.sublist (List.Sublist.map _ List.filter_sublist), h.vals.sublist (List.Sublist.map _ List.filter_sublist)⟩
theorem Sole.nins {m : NM} (h : Sole m) {x : Bs × Nat} (h1 : ∀ p ∈ m, p.1 ≠ x.1) (h2 : ∀ p ∈ m, p.2 ≠ x.2) : Sole (nins x m) := by
  refine ⟨((perm_nins x m).map _).nodup_iff.2 ?_, ((perm_nins x m).map _).nodup_iff.2 ?_⟩
  · rw [List.map_cons, List.nodup_cons]
    exact ⟨fun hm => by obtain ⟨p, hp, e⟩ := List.mem_map.1 hm; exact h1 p hp e, h.keys⟩
  · rw [List.map_cons, List.nodup_cons]
    exact ⟨fun hm => by obtain ⟨p, hp, e⟩ := List.mem_map.1 hm; exact h2 p hp e, h.vals⟩
theorem mem_ndel_ne {m : NM} {k : Bs} {p : Bs × Nat} (h : p ∈ ndel m k) : p.1 ≠ k := by
  have := (List.mem_filter.1 h).2
  simpa using this
theorem sole_val : ∀ {m : NM}, (m.map fun p => p.2).Nodup → ∀ {p q : Bs × Nat}, p ∈ m → q ∈ m → p.2 = q.2 → p = q
  | x :: r, hn, p, q, hp, hq, e => by
    obtain ⟨h1, h2⟩ := List.nodup_cons.1 (show (x.2 :: r.map fun p => p.2).Nodup from hn)
    rcases List.mem_cons.1 hp with e1 | hp2
    · rcases List.mem_cons.1 hq with e2 | hq2
      · rw [e1, e2]
      · exact absurd (List.mem_map.2 ⟨q, hq2, by rw [← e, e1]⟩) h1
    · rcases List.mem_cons.1 hq with e2 | hq2
      · exact absurd (List.mem_map.2 ⟨p, hp2, by rw [e, e2]⟩) h1
      · exact sole_val h2 hp2 hq2 e
theorem usedE_set {all : List DF} {f : DF} : ∀ {m : NM}, (m.map fun p => p.2).Nodup → ∀ {p : Bs × Nat}, p ∈ m → p.2 < all.length → usedE (setF all p.2 f) m + (all.getD p.2 DF.nought).data.length = usedE all m + f.data.length
  | x :: r, hn, p, hp, hl => by
    obtain ⟨h1, h2⟩ := List.nodup_cons.1 (show (x.2 :: r.map fun p => p.2).Nodup from hn)
    unfold usedE
    rw [List.map_cons, List.sum_cons, List.map_cons, List.sum_cons]
    rcases List.mem_cons.1 hp with rfl | hp
    · have e : usedE (setF all p.2 f) r = usedE all r := usedE_congr fun q hq => by
        unfold sizeF
        rw [getD_setF, if_neg (fun e => h1 (List.mem_map.2 ⟨q, hq, e.1.symm⟩))]
      unfold usedE at e
      have e2 : sizeF (setF all p.2 f) p = f.data.length := by unfold sizeF; rw [getD_setF, if_pos ⟨rfl, hl⟩]
      have e3 : sizeF all p = (all.getD p.2 DF.nought).data.length := rfl
      rw [e2, e, e3]; omega
    · have ih := usedE_set (f := f) h2 hp hl
      unfold usedE at ih
      have hne : p.2 ≠ x.2 := fun e => h1 (by rw [← e]; exact List.mem_map.2 ⟨p, hp, rfl⟩)
      have e2 : sizeF (setF all p.2 f) x = sizeF all x := by unfold sizeF; rw [getD_setF, if_neg (fun e => hne e.1)]
      rw [e2]; omega
structure Full (D : DS) (size : Int) : Prop where
  sole : Sole D.names
  few : D.names.length ≤ 64
  used : (usedE D.all D.names : Int) ≤ D.room
  up : D.down = false
  calm : D.armed = 0
  room : D.room = size
section
variable {D : DS} {size : Int} {T : Nat}
theorem Full.calmF (h : Full D size) : downF D = false ∧ armedF D = 0 := by
  unfold downF armedF
  rw [h.calm]
  exact ⟨h.up, rfl⟩
theorem Full.fall (h : Full D size) : Full (fallD D) size := ⟨h.sole, h.few, h.used, h.calmF.1, h.calmF.2, h.room⟩
theorem Full.goesD (h : Full D size) (x : Int) : Full (goesD D x) size := by
  rcases goesD_of (D := D) (x := x) with ⟨e, _⟩ | ⟨_, e, _⟩
  · rw [e]; exact h
  · rw [e]; exact h.fall
theorem Full.setFile (h : Full D size) {k : Bs} {v : Nat} (hg : nget D.names k = some v) (hv : v < D.all.length) (f : DF) (hf : (usedE D.all D.names : Int) + f.data.length - (D.file v).data.length ≤ D.room) : Full { D with all := setF D.all v f } size := by
  refine ⟨h.sole, h.few, ?_, h.up, h.calm, h.room⟩
  have e := usedE_set (f := f) h.sole.vals (mem_nget hg) hv
  have e2 : (D.file v).data.length = (D.all.getD v DF.nought).data.length := rfl
  show (usedE (setF D.all v f) D.names : Int) ≤ D.room
  have e3 : usedE (setF D.all v f) D.names + (D.all.getD v DF.nought).data.length = usedE D.all D.names + f.data.length := e
  omega
theorem full_new (hs : 0 ≤ size) : Full (newD size) size := ⟨⟨List.nodup_nil, List.nodup_nil⟩, Nat.zero_le _, hs, rfl, rfl, rfl⟩
theorem Full.create (h : Full D size) (hI : Inv D T) (n : Bs) : Full (createD D n) size := by
  unfold createD
  split
  · rename_i hg
    obtain ⟨-, h0, -, hd⟩ := goesE_zero hg
    obtain ⟨h1, h2, h3⟩ := createE_zero h0
    rw [hd]
    have e : actN D.names ⟨0, n, [], D.all.length⟩ = nins (n, D.all.length) D.names := by
      show nput D.names n D.all.length = _
      unfold nput
      rw [ndel_none h2]
    refine ⟨?_, ?_, ?_, h.calmF.1, h.calmF.2, h.room⟩
    · show Sole (actN D.names ⟨0, n, [], D.all.length⟩)
      rw [e]
      refine h.sole.nins (fun p hp e2 => ?_) (fun p hp e2 => ?_)
      · have := nget_mem h.sole.keys hp
        have e3 : p.1 = n := e2
        rw [e3, h2] at this; cases this
      · have := hI.vals p hp
        have e3 : p.2 = D.all.length := e2
        omega
    · show (actN D.names ⟨0, n, [], D.all.length⟩).length ≤ 64
      rw [e, length_nins]; omega
    · show (usedE (D.all ++ [DF.nought]) (actN D.names ⟨0, n, [], D.all.length⟩) : Int) ≤ D.room
      rw [e, usedE_nins]
      have e1 : sizeF (D.all ++ [DF.nought]) (n, D.all.length) = 0 := by
        unfold sizeF
        show ((D.all ++ [DF.nought]).getD D.all.length DF.nought).data.length = 0
        rw [getD_appE]; rfl
      have e2 : usedE (D.all ++ [DF.nought]) D.names = usedE D.all D.names := usedE_congr fun p hp => by
        unfold sizeF
        rw [getD_appL (hI.vals p hp)]
      rw [e1, e2, Nat.zero_add]; exact h.used
  · exact h.goesD _
theorem Full.app (h : Full D size) (hI : Inv D T) (n b : Bs) : Full (appD D n b) size := by
  unfold appD
  split
  · exact h
  · rename_i h0
    have h0 : appE0 D n b = 0 := by omega
    obtain ⟨-, ht, hb⟩ := appE0_zero h0
    obtain ⟨-, hg⟩ := thereE_zero ht
    refine Full.setFile (D := fallD D) h.fall hg (hI.fileN_lt ht) _ ?_
    have hd : (appF D n b).data = (D.file (fileN D.names n)).data ++ b := by
      unfold appF; rw [h.calmF.1]; rfl
    rw [hd, List.length_append]
    show (usedE D.all D.names : Int) + (((D.file (fileN D.names n)).data.length + b.length : Nat) : Int) - ((D.file (fileN D.names n)).data.length : Int) ≤ D.room
    by_cases e : b = []
    · have hl0 : b.length = 0 := by rw [e]; rfl
      have := h.used; omega
    · have hb2 : ¬ D.room - usedD D < b.length := fun h2 => hb ⟨e, h2⟩
      rw [used_eq h.sole.keys] at hb2
      omega
theorem Full.sync (h : Full D size) (hI : Inv D T) (n : Bs) : Full (syncD D n) size := by
  unfold syncD
  split
  · rename_i hg
    obtain ⟨-, ht, -, -⟩ := goesE_zero hg
    obtain ⟨-, hg2⟩ := thereE_zero ht
    refine Full.setFile (D := fallD D) h.fall hg2 (hI.fileN_lt ht) _ ?_
    show (usedE D.all D.names : Int) + ((D.file (fileN D.names n)).data.length : Int) - ((D.file (fileN D.names n)).data.length : Int) ≤ D.room
    have := h.used; omega
  · exact h.goesD _
theorem Full.ren (h : Full D size) (a b : Bs) : Full (renD D a b) size := by
  unfold renD
  split
  · rename_i hg
    obtain ⟨-, h0, -, -⟩ := goesE_zero hg
    unfold renE0 at h0
    cases hb : namedB b with
    | false => rw [hb] at h0; simp at h0
    | true =>
      rw [hb] at h0
      obtain ⟨ha, hn⟩ := thereE_zero (h0 : thereE D a = 0)
      have hm := mem_nget hn
      have e : actN D.names ⟨1, a, b, 0⟩ = nins (b, fileN D.names a) (ndel (ndel D.names a) b) := rfl
      have hl := length_ndel_mem hm
      have hl2 := length_ndel (ndel D.names a) b
      have hf := h.few
      refine ⟨?_, ?_, ?_, h.calmF.1, h.calmF.2, h.room⟩
      · show Sole (actN D.names ⟨1, a, b, 0⟩)
        rw [e]
        refine ((h.sole.ndel a).ndel b).nins (fun p hp => mem_ndel_ne hp) (fun p hp e2 => ?_)
        have h1 := mem_ndel hp
        have h2 := mem_ndel_ne h1
        have h3 := sole_val h.sole.vals (mem_ndel h1) hm e2
        rw [h3] at h2; exact h2 rfl
      · show (actN D.names ⟨1, a, b, 0⟩).length ≤ 64
        rw [e, length_nins]; omega
      · show (usedE D.all (actN D.names ⟨1, a, b, 0⟩) : Int) ≤ D.room
        rw [e, usedE_nins]
        have u1 := usedE_ndel_mem (all := D.all) hm
        have u2 := usedE_ndel D.all (ndel D.names a) b
        have u3 : sizeF D.all (b, fileN D.names a) = sizeF D.all (a, fileN D.names a) := rfl
        have := h.used
        rw [u3]; omega
  · exact h.goesD _
theorem Full.rem (h : Full D size) (n : Bs) : Full (remD D n) size := by
  unfold remD
  split
  · have e : actN D.names ⟨2, n, [], 0⟩ = ndel D.names n := rfl
    refine ⟨?_, ?_, ?_, h.calmF.1, h.calmF.2, h.room⟩
    · show Sole (actN D.names ⟨2, n, [], 0⟩); rw [e]; exact h.sole.ndel n
    · show (actN D.names ⟨2, n, [], 0⟩).length ≤ 64
      rw [e]; have := length_ndel D.names n; have := h.few; omega
    · show (usedE D.all (actN D.names ⟨2, n, [], 0⟩) : Int) ≤ D.room
      rw [e]; have := usedE_ndel D.all D.names n; have := h.used; omega
  · exact h.goesD _
theorem Full.act (h : Full D size) (hI : Inv D T) {o : OpP} (hk : o.kind < 6) : Full (actD D o) size := by
  unfold actD
  split
  · exact h.create hI _
  split
  · exact h.app hI _ _
  split
  · exact h.sync hI _
  split
  · exact h.ren _ _
  split
  · exact h.rem _
  split
  · unfold sdirD
    split
    · exact ⟨h.sole, h.few, h.used, h.calmF.1, h.calmF.2, h.room⟩
    · exact h.goesD _
  split
  · omega
  split
  · omega
  exact h
theorem Full.says (h : Full D size) : (usedD D : Int) ≤ size ∧ (listD D).length ≤ 64 := by
  rw [used_eq h.sole.keys, ← h.room, length_listD]
  exact ⟨h.used, h.few⟩
/-- As many bytes as are left, and one more. -/
theorem full_ends (h : Full D size) (hI : Inv D T) {n : Bs} (h0 : appE D n [] = 0) {left : Nat} (hl : (left : Int) = size - usedD D) :
    appE D n (List.replicate (left + 1) 0) = 9 ∧ appE (appD D n []) n (List.replicate left 0) = 0 ∧ (usedD (appD (appD D n []) n (List.replicate left 0)) : Int) = size := by
  have hz : appE0 D n [] = 0 := by
    unfold appE at h0
    split at h0
    · rename_i h1; exact absurd h0 h1
    · rename_i h1; omega
  obtain ⟨hd, ht, -⟩ := appE0_zero hz
  obtain ⟨hnb, hg⟩ := thereE_zero ht
  have hlt := hI.fileN_lt ht
  have h1 := h.app hI n []
  have hI1 := hI.appD n []
  have e1 : appD D n [] = { fallD D with all := setF D.all (fileN D.names n) (appF D n []) } := by unfold appD; rw [if_neg (by omega)]
  have hnm : (appD D n []).names = D.names := by rw [e1]; rfl
  have hal : (appD D n []).all = setF D.all (fileN D.names n) (appF D n []) := by rw [e1]
  have hfd : (appF D n []).data = (D.file (fileN D.names n)).data := by
    unfold appF; simp
  have hu1 : usedD (appD D n []) = usedD D := by
    rw [used_eq h1.sole.keys, used_eq h.sole.keys, hnm, hal]
    have := usedE_set (f := appF D n []) h.sole.vals (mem_nget hg) hlt
    rw [hfd] at this
    have e2 : (D.file (fileN D.names n)).data.length = (D.all.getD (fileN D.names n) DF.nought).data.length := rfl
    rw [e2] at this
    have this2 : usedE (setF D.all (fileN D.names n) (appF D n [])) D.names + (D.all.getD (fileN D.names n) DF.nought).data.length = usedE D.all D.names + (D.all.getD (fileN D.names n) DF.nought).data.length := this
    omega
  have hr := h.room
  have hr1 := h1.room
  refine ⟨?_, ?_⟩
  · have e : appE0 D n (List.replicate (left + 1) 0) = 9 := by
      unfold appE0
      rw [hd, if_neg (by simp), if_neg (by rw [ht]; simp), if_pos ⟨by simp, by rw [List.length_replicate]; omega⟩]
    unfold appE
    rw [e, if_pos (by decide)]
  · have ht1 : thereE (appD D n []) n = 0 := by
      unfold thereE; rw [hnb, hnm, hg]; rfl
    have e : appE0 (appD D n []) n (List.replicate left 0) = 0 := by
      unfold appE0
      rw [h1.up, if_neg (by simp), if_neg (by rw [ht1]; simp), if_neg (fun hh => by have := hh.2; rw [List.length_replicate, hu1] at this; omega)]
    have e3 : appE (appD D n []) n (List.replicate left 0) = 0 := by
      unfold appE
      rw [e, if_neg (by simp), h1.calmF.1]; rfl
    refine ⟨e3, ?_⟩
    have h2 := h1.app hI1 n (List.replicate left 0)
    have hlt1 := hI1.fileN_lt ht1
    obtain ⟨-, hg1⟩ := thereE_zero ht1
    have e5 : appD (appD D n []) n (List.replicate left 0) = { fallD (appD D n []) with all := setF (appD D n []).all (fileN (appD D n []).names n) (appF (appD D n []) n (List.replicate left 0)) } := by unfold appD; rw [if_neg (by unfold appD at e; omega)]
    have hnm2 : (appD (appD D n []) n (List.replicate left 0)).names = (appD D n []).names := by rw [e5]; rfl
    have hal2 : (appD (appD D n []) n (List.replicate left 0)).all = setF (appD D n []).all (fileN (appD D n []).names n) (appF (appD D n []) n (List.replicate left 0)) := by rw [e5]
    have hfd2 : (appF (appD D n []) n (List.replicate left 0)).data.length = ((appD D n []).file (fileN (appD D n []).names n)).data.length + left := by
      unfold appF; rw [h1.calmF.1]; simp
    have hu2 : usedD (appD (appD D n []) n (List.replicate left 0)) = usedD (appD D n []) + left := by
      rw [used_eq h2.sole.keys, used_eq h1.sole.keys, hnm2, hal2]
      have := usedE_set (f := appF (appD D n []) n (List.replicate left 0)) h1.sole.vals (mem_nget hg1) hlt1
      rw [hfd2] at this
      have this2 : usedE (setF (appD D n []).all (fileN (appD D n []).names n) (appF (appD D n []) n (List.replicate left 0))) (appD D n []).names + ((appD D n []).all.getD (fileN (appD D n []).names n) DF.nought).data.length = usedE (appD D n []).all (appD D n []).names + (((appD D n []).all.getD (fileN (appD D n []).names n) DF.nought).data.length + left) := this
      omega
    rw [hu2, hu1]; omega
end
end Go.Proofs.YtdiaejphgcoknaaDoor
