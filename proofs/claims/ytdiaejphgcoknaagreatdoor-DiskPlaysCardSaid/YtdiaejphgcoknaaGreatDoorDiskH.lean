/- disk: Sync, Used: contracts. -/
import Derived.Test.YtdiaejphgcoknaaGreatDoorDiskG
set_option linter.unusedSimpArgs false
set_option linter.unusedVariables false
namespace Go.Proofs.YtdiaejphgcoknaaGreatDoor
open Go.RowKit Go.Extern.Stop Go.Stop Go.Extern

theorem thereE_zero {D : DS} {n : Bs} (h : thereE D n = 0) : namedB n = true ∧ nget D.names n = some (fileN D.names n) := by
  unfold thereE at h
  cases h1 : namedB n with
  | false => rw [h1] at h; simp at h
  | true =>
    refine ⟨rfl, ?_⟩
    rw [h1] at h
    cases h2 : nget D.names n with
    | none => rw [h2] at h; simp at h
    | some v => unfold fileN; rw [h2]; rfl
theorem Inv.fileN_lt {D : DS} {T : Nat} (hI : Inv D T) {n : Bs} (h : thereE D n = 0) : fileN D.names n < D.all.length := hI.vals _ (mem_nget (thereE_zero h).2)
theorem DP.drewN {w : World} {p : Nat} {L : Lay} {D : DS} (h : DP w p L D) (n : Nat) : DP (w.drewN n) p L D := h.stays fun k hk => (below_drewN' (Below.refl w.heap.size w) n).block k (h.lt hk)
theorem grown_drewN (w : World) (n : Nat) (r : Option Nat) : w.grownBy (w.drewN n) r := ⟨(below_drewN' (Below.refl w.heap.size w) n).os, (below_drewN' (Below.refl w.heap.size w) n).tape, (below_drewN' (Below.refl w.heap.size w) n).output, (below_drewN' (Below.refl w.heap.size w) n).size, fun k hk _ => (below_drewN' (Below.refl w.heap.size w) n).block k hk⟩
set_option maxRecDepth 100000 in
theorem sync_any (p : Nat) (L : Lay) (D : DS) (a : Bs) (T : Nat) (w : World) (h : DP w p L D) (hI : Inv D T) (hT : T ≤ 100000) (ha : a.length ≤ maxLen) :
    Calls Tryz.prog 23 #[.pointer (some ⟨p, 0, none⟩), .string ⟨a.toArray⟩] w fun e w' => OpPost p L (syncE D a) (syncD D a) w e w' := by
  have CT := Lib.hid (there_any p L D a ha w h)
  have CG := Lib.hid (hI.goes hT p L (thereE D a) w h)
  have e1 : syncE D a = goesE D (thereE D a) := rfl
  by_cases hg0 : goesE D (thereE D a) = 0
  · obtain ⟨-, ht0, -, hgd⟩ := goesE_zero hg0
    have e2 : syncD D a = { fallD D with all := setF D.all (fileN D.names a) (syncF D a) } := by unfold syncD; rw [if_pos (by rw [e1]; exact hg0)]
    have hno := hI.fileN_lt ht0
    have hnog : (nget D.names a).getD 0 = fileN D.names a := rfl
    have hn100 : D.all.length ≤ 100000 := by have := hI.cnt; omega
    have hdl := (hI.data _ hno).2
    rw [hg0, hgd] at CG
    rw [e1, e2, hg0]
    have HA := Lib.hid ha
    have hsf : syncF D a = ⟨(D.file (fileN D.names a)).data, (D.file (fileN D.names a)).data.length⟩ := rfl
    rw [hsf]
    rw [ht0] at CT CG
    generalize hfn : fileN D.names a = no at *
    obtain ⟨len, hlen⟩ : ∃ len, (D.file no).data.length = len := ⟨_, rfl⟩
    have HLE := Lib.hid hlen
    rw [hlen] at hdl ⊢
    have HNG := Lib.hid hnog
    have HNO := Lib.hid hno
    obtain ⟨nn, hnn⟩ : ∃ nn, D.all.length = nn := ⟨_, rfl⟩
    have HNN := Lib.hid hnn
    rw [hnn] at hno hn100
    have i1 : (0 : Int) ≤ (no : Int) := by omega
    have i2 : (no : Int) < (nn : Int) := by omega
    clear h hI hT hg0 hgd e1 e2 ht0 hsf hfn hlen hnog hnn ha
    go_enter Tryz.func23, Tryz.ntmps23
    go_wp2_with (first | (go_at_call 55; refine CT.out.mono ?_; rintro e w' ⟨rfl, rfl⟩) | (go_at_call 38; refine CG.out.mono ?_; rintro e w1 ⟨rfl, hD1, hg1⟩; have HD1 := Lib.hid hD1; have HG1 := Lib.hid hg1; clear hD1 hg1))
    obtain ⟨g, cap, hva, hgl, hgp, k0, k1, kf⟩ := HD1.out.head (j := no) HNO.out
    have HVA := Lib.hid hva
    have hva2 : L.va = .slice (some ⟨g, 0, none⟩) nn cap := by rw [hva]; exact congrArg (fun x => Value.slice _ x _) HNN.out
    have c1 : w1.cell? ⟨p, 1, none⟩ = some (.slice (some ⟨g, 0, none⟩) nn cap) := (HD1.out.cell 1).trans (congrArg some hva2)
    have c2 : w1.cell? ⟨p, 2, none⟩ = some (.map (some L.bn)) := HD1.out.cell 2
    have hlk := HD1.out.nam.look1 HA.out
    have hlk2 : (Instr.lookup 58 (.map (some L.bn)) (.string ⟨a.toArray⟩) false).run Tryz.prog w1 = .ok (.int .i64 (no : Int)) w1 := by rw [hlk]; exact congrArg (fun x : Nat => Result.ok (Value.int .i64 (x : Int)) w1) HNG.out
    clear hlk hva hva2
    have hlk3 : (Instr.lookup 58 (.map (some L.bn)) (.string ⟨a.toArray⟩) false).run Tryz.prog w1.drew = .ok (.int .i64 (no : Int)) w1.drew := by
      rw [NamesAt.look1 (w := w1.drew) HD1.out.nam HA.out]; exact congrArg (fun x : Nat => Result.ok (Value.int .i64 (x : Int)) w1.drew) HNG.out
    have SA := Lib.hid (show w1.drew.cell? ⟨p, 1, none⟩ = some (.slice (some ⟨g, 0, none⟩) nn cap) ∧ w1.drew.cell? ⟨p, 2, none⟩ = some (.map (some L.bn)) ∧ (Instr.lookup 58 (.map (some L.bn)) (.string ⟨a.toArray⟩) false).run Tryz.prog w1.drew = .ok (.int .i64 (no : Int)) w1.drew from ⟨c1, c2, hlk3⟩)
    clear hlk3
    go_region_held3 (fun w' => w'.cell? ⟨p, 1, none⟩ = some (.slice (some ⟨g, 0, none⟩) nn cap) ∧ w'.cell? ⟨p, 2, none⟩ = some (.map (some L.bn)) ∧ (Instr.lookup 58 (.map (some L.bn)) (.string ⟨a.toArray⟩) false).run Tryz.prog w' = .ok (.int .i64 (no : Int)) w')
      (first | with_reducible exact SA.out | exact SA.out | go_keep)
      (fail)
    obtain ⟨ao2, dcap, hdv⟩ := rowShape (HD1.out.dat no HNO.out)
    have hdv2 : L.at no = .slice ao2 len dcap := by rw [hdv]; exact congrArg (fun x => Value.slice ao2 x dcap) HLE.out
    rw [hdv2] at k0
    have kf1 := kf (no * 2 + 1)
    clear hdv hdv2 kf c1 c2 hlk2 SA
    go_wp2
    go_returns
    have hD : DP w1.drew p L (fallD D) := HD1.out.stays fun _ _ => rfl
    refine ⟨by rw [errV_zero]; rfl, L, hD.safeSet (s := len) HNO.out HVA.out, fun k hk => .inl hk, ?_⟩
    refine (Keep.self HG1.out).trans ?_
    refine Keep.trans (b := w1.drew) ⟨rfl, rfl, rfl, Nat.le_refl _, fun _ _ _ => rfl⟩ (Keep.grown (grown_set _ _ _ _) fun k hk => .inr (.inl ?_))
    rw [HVA.out]; exact hk
  · have e2 : syncD D a = goesD D (thereE D a) := by unfold syncD; rw [if_neg (by rw [e1]; exact hg0)]
    rw [e1, e2]
    generalize thereE D a = th at *
    have q := err_ne hg0
    clear h hI hT ha hg0 e1 e2
    go_enter Tryz.func23, Tryz.ntmps23
    go_wp2_with (first | (go_at_call 55; refine CT.out.mono ?_; rintro e w' ⟨rfl, rfl⟩) | (go_at_call 38; refine CG.out.mono ?_; rintro e w1 ⟨rfl, hD1, hg1⟩))
    go_returns
    exact ⟨rfl, L, hD1, fun k hk => .inl hk, Keep.self hg1⟩
end Go.Proofs.YtdiaejphgcoknaaGreatDoor
