/- block.Quarter, kinref7.Quarter: contracts. -/
import Derived.Test.YtceobpoibiffhaaDoorRowsL
import Derived.Test.YtceobpoibiffhaaDoorWhole
import Derived.Test.YtceobpoibiffhaaDoorErrs
set_option linter.unusedSimpArgs false
set_option linter.unusedVariables false
namespace Go.Proofs.YtceobpoibiffhaaDoor
open Go.RowKit

theorem mk4 (w : World) : (Instr.makeSlice 45 (.int .i64 4) (.int .i64 4)).run Tryd.prog w = .ok (.slice (some ⟨w.heap.size, 0, none⟩) 4 4) (w.alloc (.cells #[.slice none 0 0, .slice none 0 0, .slice none 0 0, .slice none 0 0] 22)) := by kernel_rfl
set_option maxRecDepth 100000 in
set_option maxHeartbeats 4000000 in
theorem pquarter_ok (v : Value) (b : List Int) (w : World) (hv : Ints w v b) (hl : b.length = 64) :
    Calls Tryd.prog 21 #[v] w fun e w' => ∃ L, e = .returned (.tuple #[.slice (some ⟨L, 0, none⟩) 4 4, .nilIface]) ∧ Rows w' (.slice (some ⟨L, 0, none⟩) 4 4) [quarterL b 0, quarterL b 1, quarterL b 2, quarterL b 3] ∧ Below w.heap.size w w' := by
  obtain ⟨ao, cap, rfl⟩ := hv.shape
  have HIN := Lib.hid hv.in64
  have HV := Lib.hid hv
  have HL := Lib.hid hl
  have hq : ((b.length : Int) != 64) = false := by simp [hl]
  have hb64 : b.length ≤ 64 := by omega
  have hmk := mk4
  clear hv hl
  go_enter Tryd.func21, Tryd.ntmps21
  go_wp2
  clear hmk
  go_loopw [15] (fun i wr => ∃ (n : Nat) (p : Nat → Value), n ≤ b.length ∧ i = .int .i64 n ∧ Quads wr w.heap.size p b (w.heap.size + 1) n ∧ Below w.heap.size w wr ∧ w.heap.size + 1 ≤ wr.heap.size) (fun i _ => b.length - (intOf i).toNat)
  case atStart => exact ⟨0, _, Nat.zero_le _, rfl, Quads.start w b, by go_grown, by simp⟩
  case round =>
    obtain ⟨n, p, hn, rfl, hQ, hb, hsz⟩ := hrel
    have HQ := Lib.hid hQ
    clear hQ
    by_cases hlt : n < b.length
    · obtain ⟨ao1, cap1, e1, _, _, _, _, h4⟩ := HV.out.ext hb
      simp only [Value.slice.injEq] at e1
      obtain ⟨rfl, -, rfl⟩ := e1
      obtain ⟨b1, o1, rfl, c1⟩ := h4 n hlt
      have hx64 := getD_in64 HIN.out n
      have Hstep := Lib.hid (fun (w' : World) v' h1 h2 h3 => HQ.out.step (w' := w') (v' := v') (by omega) hsz rfl (kq_lt (show n < 64 by omega)) h1 h2 h3)
      obtain ⟨hcp, hfp⟩ := HQ.out.cell (kq_lt (show n < 64 by omega))
      have Hown := Lib.hid (HQ.out.own _ (kq_lt (show n < 64 by omega)))
      have Hlen := Lib.hid (length_quarterTo b (kq n) n)
      have hk4 := kq_lt (show n < 64 by omega)
      have hkq := kq_int n
      have HR := Lib.hid HQ.out
      generalize kq n = k at *
      generalize hx : b.getD n 0 = x at *
      have Hx64 := Lib.hid hx64
      clear h4 hx64 hx HQ
      go_wp2_with (at_builtin; refine wpList_app1L rfl (.tmp 32) (.tmp 34) rfl (w.heap.size + 1) _ _ x rfl Hown.out rfl (by simp) Hx64.out (by have := Hlen.out; omega) hsz ?_)
      intro v' w' hown' hg' hv'
      obtain ⟨va, ln, vc, rfl⟩ : ∃ va ln vc, v' = Value.slice va ln vc := by obtain ⟨x1, x2, e⟩ := hown'.shape; exact ⟨x1, _, x2, e⟩
      have HS := Lib.hid (Hstep.out w' _ hown' hg' hv')
      have hne := Hown.out.ownNe (b := w.heap.size) (.inl (by omega))
      have hc2 : w'.cell? ⟨w.heap.size, k, none⟩ = some (p k) := hg'.cell hcp hne
      have hf2 : w'.frozen? ⟨w.heap.size, k, none⟩ = false := (World.frozen?_of_block (a := ⟨w.heap.size, k, none⟩) (hg'.block w.heap.size (by omega) hne)).trans hfp
      have hbw : Below w.heap.size w w' := hb.grown hg' hb.size (fun g hg => by have := (Hown.out.1.lt g hg).1; omega)
      have hs3 := hg'.size
      clear hown' hg' hv' Hstep Hown HR hcp hfp hne c1
      go_wp2
      go_roundw
      case rel => exact ⟨n + 1, _, by omega, by go_num, HS.out, hbw.setCell (by simp) _, by simp; omega⟩
      case measure => simp [intOf]; omega
    · have e : n = 64 := by have := HL.out; omega
      have HR := Lib.hid (show Quads wr w.heap.size p b (w.heap.size + 1) 64 from e ▸ HQ.out)
      clear e HQ
      go_wp2
      go_returns
      exact ⟨_, rfl, HR.out.rows, hb⟩
theorem pquarter_no (v : Value) (b : List Int) (w : World) (hv : Ints w v b) (hl : b.length ≠ 64) :
    Calls Tryd.prog 21 #[v] w fun e w' => e = .returned (.tuple #[.slice none 0 0, .iface 29 (.int .i64 14)]) ∧ Below w.heap.size w w' := by
  have hn := hv.len
  obtain ⟨ao, cap, rfl⟩ := hv.shape
  have hq : ((b.length : Int) != 64) = true := by simp; omega
  clear hv hl
  go_enter Tryd.func21, Tryd.ntmps21
  go_wp2
  go_returns
  exact ⟨rfl, Below.refl _ _⟩
set_option maxRecDepth 100000 in
set_option maxHeartbeats 4000000 in
theorem rquarter_ok (v : Value) (b : List Int) (w : World) (hv : Ints w v b) (hl : b.length = 64) :
    Calls Tryd.prog 22 #[v] w fun e w' => ∃ L, e = .returned (.tuple #[.slice (some ⟨L, 0, none⟩) 4 4, .agg #[.int .i64 0, .slice none 0 0]]) ∧ Rows w' (.slice (some ⟨L, 0, none⟩) 4 4) [quarterL b 0, quarterL b 1, quarterL b 2, quarterL b 3] ∧ Below w.heap.size w w' := by
  obtain ⟨ao, cap, rfl⟩ := hv.shape
  have HIN := Lib.hid hv.in64
  have HV := Lib.hid hv
  have HL := Lib.hid hl
  have hq : ((b.length : Int) != 64) = false := by simp [hl]
  have hb64 : b.length ≤ 64 := by omega
  have hb64' : 64 ≤ b.length := by omega
  have hmk := mk4
  have R0 := Lib.hid ((Blk.new w #[.int .i64 0, .slice none 0 0] 32).alloc (.cells #[.slice none 0 0, .slice none 0 0, .slice none 0 0, .slice none 0 0] 22))
  clear hv hl
  go_enter Tryd.func22, Tryd.ntmps22
  go_wp2
  clear hmk
  have Q0 := Lib.hid (Quads.start (w.alloc (.cells #[.int .i64 0, .slice none 0 0] 32)) b)
  simp only [World.size_alloc] at Q0
  go_loopw [5] (fun i wr => ∃ (n : Nat) (p : Nat → Value), n ≤ 64 ∧ i = .int .i64 n ∧ Quads wr (w.heap.size + 1) p b (w.heap.size + 2) n ∧ Below w.heap.size w wr ∧ w.heap.size + 2 ≤ wr.heap.size ∧ Blk wr w.heap.size #[.int .i64 0, .slice none 0 0] 32) (fun i _ => 64 - (intOf i).toNat)
  case atStart => exact ⟨0, _, Nat.zero_le _, rfl, Q0.out, by go_grown, by simp, R0.out⟩
  case round =>
    obtain ⟨n, p, hn, rfl, hQ, hb, hsz, hR⟩ := hrel
    have HQ := Lib.hid hQ
    have RR := Lib.hid hR
    clear hQ hR
    by_cases hlt : n < 64
    · obtain ⟨ao1, cap1, e1, _, _, _, _, h4⟩ := HV.out.ext hb
      simp only [Value.slice.injEq] at e1
      obtain ⟨rfl, -, rfl⟩ := e1
      have hltb : n < b.length := by omega
      obtain ⟨b1, o1, rfl, c1⟩ := h4 n hltb
      have hx64 := getD_in64 HIN.out n
      have Hstep := Lib.hid (fun (w' : World) v' h1 h2 h3 => HQ.out.step (w' := w') (v' := v') (by omega) hsz rfl (kq_lt hlt) h1 h2 h3)
      obtain ⟨hcp, hfp⟩ := HQ.out.cell (kq_lt hlt)
      have Hown := Lib.hid (HQ.out.own _ (kq_lt hlt))
      have Hlen := Lib.hid (show (quarterTo b (kq n) n).length ≤ 1099511627776 from by have := length_quarterTo b (kq n) n; omega)
      have hk4 := kq_lt hlt
      have hkq := kq_int n
      have Hsz := Lib.hid hsz
      have hk4' : ((kq n : Nat) : Int) < 4 := by omega
      generalize kq n = k at *
      generalize hx : b.getD n 0 = x at *
      have Hx64 := Lib.hid hx64
      have hlt1 : w.heap.size + 1 < wr.heap.size := by omega
      have hcp2 : (wr.alloc (.cells #[.int .i64 x] 3)).cell? ⟨w.heap.size + 1, k, none⟩ = some (p k) := (World.cell?_alloc_lt _ _ _ hlt1).trans hcp
      clear h4 hx64 hx HQ
      go_wp2
      go_region_law (refine step_app1L (by rfl) _ _ (by rfl) wr (w.heap.size + 2) _ _ x (by rfl) Hown.out (by rfl) (heap_alloc_new _ _) (grown_of _) (grown_sz _) Hx64.out Hlen.out Hsz.out ?_; intro va ln vc w' hown' hg' hv'; have HS := Lib.hid (Hstep.out w' _ hown' hg' hv'); have hne := Hown.out.ownNe (b := w.heap.size + 1) (.inl (by omega)); have hc2 : w'.cell? ⟨w.heap.size + 1, k, none⟩ = some (p k) := hg'.cell hcp hne; have hf2 : w'.frozen? ⟨w.heap.size + 1, k, none⟩ = false := (World.frozen?_of_block (a := ⟨w.heap.size + 1, k, none⟩) (hg'.block (w.heap.size + 1) (by omega) hne)).trans hfp; have hbw : Below w.heap.size w w' := hb.grown hg' hb.size (fun g hg => by have := (Hown.out.1.lt g hg).1; omega); have RW := Lib.hid (RR.out.grown hg' (Hown.out.ownNe (b := w.heap.size) (.inl (by omega)))); have hs3 := hg'.size)
      all_goals
        clear hown' hg' hv' Hstep Hown hcp hcp2 hfp hne c1
        go_wp2
        go_roundw
        case rel => exact ⟨n + 1, _, by omega, by go_num, HS.out, hbw.setCell (by simp) _, by simp; omega, RW.out.setOther ⟨w.heap.size + 1, k, none⟩ _ (by show w.heap.size ≠ w.heap.size + 1; omega)⟩
        case measure => simp [intOf]; omega
    · have e : n = 64 := by omega
      have HR := Lib.hid (show Quads wr (w.heap.size + 1) p b (w.heap.size + 2) 64 from e ▸ HQ.out)
      obtain ⟨r0, r1, r2, r3⟩ := RR.out.two
      clear e HQ
      go_wp2
      refine bodyPost_ret (by simp [results, Tryd.results22, go_sem, r0, r1, r2, r3]; try rfl) rfl ?_
      exact ⟨_, rfl, ((HR.out.setOther (by simp) (by simp) _).setOther (by simp) (by simp) _).rows, by go_grown⟩
end Go.Proofs.YtceobpoibiffhaaDoor
