/- disk: Used: contract. -/
import Derived.Test.YtdiaejphgcoknaaGreatDoorDiskH
import Derived.Sort.OwnSorted
set_option linter.unusedSimpArgs false
set_option linter.unusedVariables false
namespace Go.Proofs.YtdiaejphgcoknaaGreatDoor
open Go.RowKit Go.Extern.Stop Go.Stop Go.Extern Go.Maps

theorem strKeys_toD (m : NM) : strKeys (toD m) = keysN m := by
  show List.map (fun p => strOf p.1) (List.map entry1 m) = _
  rw [List.map_map]; rfl
theorem perm_sum {l l' : List Nat} (h : l.Perm l') : l.sum = l'.sum := by
  induction h with
  | nil => rfl
  | cons x _ ih => simp [ih]
  | swap x y l => simp; omega
  | trans _ _ h1 h2 => exact h1.trans h2
theorem sum_le {f : Bs → Nat} {M : Nat} : ∀ {l : List Bs}, (∀ x ∈ l, f x ≤ M) → (l.map f).sum ≤ l.length * M
  | [], _ => by simp
  | x :: r, h => by
    have h1 := h x (by simp)
    have h2 := sum_le (l := r) (M := M) fun y hy => h y (by simp [hy])
    simp only [List.map_cons, List.sum_cons, List.length_cons, Nat.succ_mul]
    omega
theorem nget_of_at {m : NM} {x : Bs} {y : DataW Unit} (h : ∀ zd, (toD m).atKey (.string x) zd = y) {c : Int} (hy : y = .lit (.int .i64 c)) : c = ((fileN m x : Nat) : Int) ∧ ∃ v, nget m x = some v := by
  have h1 := h (.lit (.int .i64 0))
  rw [toD_at, hy] at h1
  simp only [DataW.lit.injEq, Lit.int.injEq, true_and] at h1
  have h2 := has_true_of_atKey h
  rw [toD_has] at h2
  exact ⟨h1.symm, Option.isSome_iff_exists.1 h2⟩
theorem sizeN_le {D : DS} {T : Nat} (hI : Inv D T) (x : Bs) : sizeN D x ≤ 16777216 := by
  unfold sizeN
  by_cases h : fileN D.names x < D.all.length
  · exact (hI.data _ h).2
  · unfold DS.file
    rw [List.getD_eq_getElem?_getD, List.getElem?_eq_none (by omega)]
    simp [DF.nought]
set_option maxRecDepth 100000 in
set_option maxHeartbeats 1000000 in
theorem used_any (p : Nat) (L : Lay) (D : DS) (T : Nat) (w : World) (h : DP w p L D) (hI : Inv D T) (hT : T ≤ 100000) :
    Calls Tryz.prog 14 #[.pointer (some ⟨p, 0, none⟩)] w fun e w' => e = .returned (.int .i64 (usedD D : Int)) ∧ Below w.heap.size w w' := by
  have H := Lib.hid h
  have HI := Lib.hid hI
  have HNM := Lib.hid (show w.ownsMap Tryz.prog 9 (plainElem Tryz.prog 3) L.bn D.names.length (toD D.names) from h.nam)
  have hnl : D.names.length ≤ 100000 := by have := hI.nam; omega
  have c2 : w.cell? ⟨p, 2, none⟩ = some (.map (some L.bn)) := h.cell 2
  clear h hI hT
  go_enter Tryz.func14, Tryz.ntmps14
  go_wp2_with (at_range; refine wpList_range_own _ rfl _ 58 rfl 9 3 strK Tryz.underlying58 _ L.bn _ _ rfl HNM.out ?_; intro w0 hrg0 hg0 hs0)
  go_frame
  have HR0 := Lib.hid hrg0
  have hb0 : Below w.heap.size w w0 := ⟨hg0.os, hg0.tape, hg0.output, hg0.size, fun k hk => hg0.block k hk (by simp)⟩
  clear hrg0 hg0 hs0
  go_loopw [3] (fun s wr => ∃ (left : Lit → Bool) (cnt : Nat) (ks : List Bs), wr.ranges Tryz.prog 9 (plainElem Tryz.prog 3) L.bn w.heap.size D.names.length (toD D.names) left cnt ∧ ks.length + cnt ≤ D.names.length ∧ Collected (toD D.names) left ks ∧ s = .int .i64 ((((ks.map (sizeN D)).sum : Nat)) : Int) ∧ Below w.heap.size w wr)
    (fun _ wr => wr.rangeLeft L.bn w.heap.size)
  case atStart => exact ⟨_, _, [], HR0.out, by simp [toD_size], Collected.start _, rfl, hb0⟩
  case round =>
    obtain ⟨left, cnt, ks, hrg, hcs, hC, rfl, hb⟩ := hrel
    have HRG := Lib.hid hrg
    have HC := Lib.hid hC
    have hb8 := sum_le (f := sizeN D) (l := ks) (M := 16777216) (fun x _ => sizeN_le HI.out x)
    have HSS : Hid (∀ x, ((ks ++ [x]).map (sizeN D)).sum = (ks.map (sizeN D)).sum + sizeN D x) := fun x => by simp
    have HPS : Hid (∀ (hp : ks.Perm (keysN D.names)), (ks.map (sizeN D)).sum = usedD D) := fun hp => perm_sum (hp.map _)
    obtain ⟨sm, hsm⟩ : ∃ sm, (ks.map (sizeN D)).sum = sm := ⟨_, rfl⟩
    rw [hsm] at hb8 HSS HPS ⊢
    have hb9 : sm ≤ 1677721600000 := by
      have : ks.length * 16777216 ≤ 100000 * 16777216 := Nat.mul_le_mul_right _ (by omega)
      omega
    clear hsm hb8 hrg hC
    go_wp2_with (at_next; refine wpList_next_ranges _ rfl _ rfl 9 strK (plainElem Tryz.prog 3) Go.Proofs.encStr (Value.int .i64) (fun key kl hk => by obtain ⟨x, hx, _⟩ := Maps.keyOf_str Tryz.underlying9 hk; exact ⟨x, hx⟩) (fun v y hv => by obtain ⟨c, rfl, _⟩ := plainElem_int_inv Tryz.underlying3 hv; exact ⟨c, rfl⟩) L.bn w.heap.size _ _ _ _ rfl HRG.out ?_ ?_)
    · intro hc0 hl0
      go_wp2
      go_returns
      have hp := HC.out.perm HNM.out strK Tryz.underlying9 hl0
      rw [strKeys_toD] at hp
      exact ⟨by rw [HPS.out hp]; rfl, hb⟩
    · intro x c kl yd yp w2 cnt2 hkey hlk hv hat hrg2 hlt hg2 hs2 hen
      obtain ⟨x', ex, rfl, _⟩ := Maps.keyOf_str Tryz.underlying9 hkey
      obtain rfl : x = x' := encStr_inj ex
      obtain ⟨c', ec, hyd, -⟩ := plainElem_int_inv Tryz.underlying3 hv
      obtain rfl : c = c' := by simpa using ec
      obtain ⟨hc, v, hgv⟩ := nget_of_at hat (congrArg Prod.fst hyd)
      have hfn : fileN D.names x = v := by unfold fileN; rw [hgv]; rfl
      have hno : v < D.all.length := HI.out.vals _ (mem_nget hgv)
      rw [hfn] at hc
      subst hc
      have HSZ : Hid (sizeN D x = (D.file v).data.length) := by show _ = _; unfold sizeN; rw [hfn]
      have hb2 : Below w.heap.size w w2 := hb.grown hg2 hb.size (fun j hj => by cases hj; exact Nat.le_refl _)
      have HD2 := Lib.hid (H.out.stays fun k hk => hb2.block k (H.out.lt hk))
      obtain ⟨g, cap, hva, hgl, hgp, k0, k1, kf⟩ := HD2.out.head (j := v) hno
      obtain ⟨ao2, dcap, hdv⟩ := rowShape (HD2.out.dat v hno)
      have hdl := (HI.out.data _ hno).2
      rw [hdv] at k0
      have c1 : w2.cell? ⟨p, 1, none⟩ = some (.slice (some ⟨g, 0, none⟩) D.all.length cap) := (HD2.out.cell 1).trans (congrArg some hva)
      have HC2 := Lib.hid (HC.out.step hlk hat)
      have HR2 := Lib.hid hrg2
      obtain ⟨len, hlen⟩ : ∃ len, (D.file v).data.length = len := ⟨_, rfl⟩
      have HLE : Hid (sizeN D x = len) := by show _ = _; rw [HSZ.out, hlen]
      rw [hlen] at k0 hdl
      have hal := HI.out.cnt
      obtain ⟨nn, hnn⟩ : ∃ nn, D.all.length = nn := ⟨_, rfl⟩
      rw [hnn] at hno c1
      have i1 : (0 : Int) ≤ (v : Int) := by omega
      have i2 : (v : Int) < (nn : Int) := by omega
      have q : IntKind.i64.wrap ((sm : Int) + (len : Int)) = ((sm + len : Nat) : Int) := by rw [IntWalk.i64_in _ (by omega)]; omega
      have HLT := Lib.hid hlt
      clear hkey hlk hv hat hrg2 hlt hg2 hs2 hyd hgv hfn hdv k1 kf hva hlen hnn hal hgl hgp HSZ ec
      go_wp2
      go_roundw
      case rel => exact ⟨_, cnt2, ks ++ [x], HR2.out, by rw [List.length_append, List.length_singleton]; have := HLT.out; omega, HC2.out, by rw [HSS.out x, HLE.out]; exact int_eq (by omega), hb2⟩
      case measure => rw [HR2.out.left_eq, HRG.out.left_eq]; exact HLT.out
end Go.Proofs.YtdiaejphgcoknaaGreatDoor
