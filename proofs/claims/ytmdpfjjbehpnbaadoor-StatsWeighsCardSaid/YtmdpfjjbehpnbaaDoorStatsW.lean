/- stats.within, kinref16.inside, stats.squares: contracts. -/
import Derived.Test.YtmdpfjjbehpnbaaDoorStatsP
import Derived.Test.YtmdpfjjbehpnbaaDoorOwnRows
import Derived.Test.YtmdpfjjbehpnbaaDoorPlaneG
import Derived.Laws.Cover1
set_option linter.unusedSimpArgs false
set_option linter.unusedVariables false
namespace Go.Proofs.YtmdpfjjbehpnbaaDoor
open Go.RowKit Go.Extern.Stop Go.Stop Go.Extern
theorem absD_max {x y : Int} : (if y - x > x - y then y - x else x - y) = absD x y := by unfold absD; split <;> omega
set_option maxRecDepth 100000 in
set_option maxHeartbeats 4000000 in
theorem pwithin_any (v : Value) (b : List Int) (w : World) (hv : Ints w v b) (hb : withinB b 0 255 = true) (hl : b.length = 64) :
    Calls Tryd.prog 27 #[v] w fun e w' => e = .returned (.int .i64 (inV b)) ∧ Below w.heap.size w w' := by
  have HV := Lib.hid hv
  have HL := Lib.hid hl
  obtain ⟨ao, cap, rfl⟩ : ∃ ao cap, v = .slice ao 64 cap := by obtain ⟨ao, cap, e, _⟩ := hv; exact ⟨ao, cap, by rw [e, hl]⟩
  have HW := Lib.hid (fun k => within_get hb (show (0 : Int) ≤ 0 by omega) (show (0 : Int) ≤ 255 by omega) k)
  have HS := Lib.hid (fun k => sumB_bd hb k)
  have HT := Lib.hid (fun k => inTo_bd hb (by omega) k)
  have HM := Lib.hid (meanV_bd hb (by omega))
  have HE : Hid (inV b = sumOf 64 fun i => absD (b.getD i 0) (meanV b)) := by show _ = _; unfold inV; rw [hl]
  have HF : Hid (meanV b = (32 + sumOf 64 fun i => b.getD i 0) / 64) := by show _ = _; unfold meanV; rw [hl]
  clear hv hb hl
  go_enter Tryd.func27, Tryd.ntmps27
  go_wp2
  go_loopw [3, 11] (fun m i wr => ∃ k : Nat, k ≤ 64 ∧ i = .int .i64 k ∧ m = .int .i64 (32 + sumOf k fun i => b.getD i 0) ∧ Below w.heap.size w wr) (fun _ i _ => 64 - (intOf i).toNat)
  case atStart => exact ⟨0, Nat.zero_le _, rfl, rfl, Below.refl _ _⟩
  case round =>
    obtain ⟨k, hk, rfl, rfl, hbr⟩ := hrel
    obtain ⟨h1, h2⟩ := HS.out k
    by_cases hlt : k < 64
    · obtain ⟨b1, o1, rfl, ca, lb1⟩ := (HV.out.ext hbr).cellN (j := k) (by rw [HL.out]; exact hlt)
      obtain ⟨x1, x2⟩ := HW.out k
      have he := sumOf_succ k fun i => b.getD i 0
      generalize (sumOf k fun i => b.getD i 0) = s at *
      generalize b.getD k 0 = x at *
      have HQ := Lib.hid he
      clear he
      have q1 : IntKind.i64.wrap (32 + s + x) = 32 + s + x := IntWalk.i64_in _ (by omega)
      go_wp2
      go_roundw
      case rel => exact ⟨k + 1, by omega, by go_num, int_eq (by rw [HQ.out]; omega), hbr⟩
      case measure => simp [intOf]; omega
    · obtain rfl : k = 64 := by omega
      have hm : meanV b = (32 + sumOf 64 fun i => b.getD i 0) / 64 := HF.out
      obtain ⟨m1, m2⟩ := HM.out
      generalize (sumOf 64 fun i => b.getD i 0) = s at *
      have q2 : Int.tdiv (32 + s) 64 = meanV b := by rw [hm, Int.tdiv_eq_ediv_of_nonneg (by omega)]
      clear hm HF
      generalize meanV b = M at *
      have q3 : IntKind.i64.wrap M = M := IntWalk.i64_in _ (by omega)
      obtain ⟨wo, rfl⟩ : ∃ wo : World, wo = wr := ⟨_, rfl⟩
      have hbo := hbr
      clear hbr
      go_wp2
      go_loopw [6, 23] (fun n i wr => ∃ k : Nat, k ≤ 64 ∧ i = .int .i64 k ∧ n = .int .i64 (sumOf k fun i => absD (b.getD i 0) M) ∧ Below w.heap.size w wr) (fun _ i _ => 64 - (intOf i).toNat)
      case atStart => exact ⟨0, Nat.zero_le _, rfl, rfl, hbo⟩
      case round =>
        obtain ⟨k, hk, rfl, rfl, hbr⟩ := hrel
        obtain ⟨t1, t2⟩ := HT.out k
        by_cases hlt : k < 64
        · obtain ⟨b1, o1, rfl, ca, lb1⟩ := (HV.out.ext hbr).cellN (j := k) (by rw [HL.out]; exact hlt)
          obtain ⟨x1, x2⟩ := HW.out k
          have he := sumOf_succ k fun i => absD (b.getD i 0) M
          generalize (sumOf k fun i => absD (b.getD i 0) M) = n at *
          generalize b.getD k 0 = x at *
          have HQ := Lib.hid he
          have ha := absD_bd (x := x) (y := M) ⟨x1, x2⟩ ⟨m1, m2⟩
          have hx := absD_max (x := x) (y := M)
          clear he q2
          have q4 : IntKind.i64.wrap (x - M) = x - M := IntWalk.i64_in _ (by omega)
          have q5 : IntKind.i64.wrap (M - x) = M - x := IntWalk.i64_in _ (by omega)
          have q6 : IntKind.i64.wrap (n + absD x M) = n + absD x M := IntWalk.i64_in _ (by omega)
          by_cases q7 : x - M < M - x
          · have e : absD x M = M - x := by unfold absD; omega
            rw [e] at q6 HQ
            clear hx ha e
            go_wp2
            go_roundw
            case rel => exact ⟨k + 1, by omega, by go_num, int_eq HQ.out.symm, hbr⟩
            case measure => simp [intOf]; omega
          · have e : absD x M = x - M := by unfold absD; omega
            rw [e] at q6 HQ
            clear hx ha e
            go_wp2
            go_roundw
            case rel => exact ⟨k + 1, by omega, by go_num, int_eq HQ.out.symm, hbr⟩
            case measure => simp [intOf]; omega
        · obtain rfl : k = 64 := by omega
          have HE2 := Lib.hid HE.out.symm
          generalize (sumOf 64 fun i => absD (b.getD i 0) M) = n at *
          clear HE
          go_wp2
          go_returns
          exact ⟨by rw [← HE2.out]; rfl, hbr⟩
set_option maxRecDepth 100000 in
set_option maxHeartbeats 4000000 in
theorem rinside_any (v : Value) (b : List Int) (w : World) (hv : Ints w v b) (hb : withinB b 0 255 = true) (hl : b.length = 64) :
    Calls Tryd.prog 29 #[v] w fun e w' => e = .returned (.int .i64 (inV b)) ∧ Below w.heap.size w w' := by
  have HV := Lib.hid hv
  have HL := Lib.hid hl
  obtain ⟨ao, cap, rfl⟩ : ∃ ao cap, v = .slice ao 64 cap := by obtain ⟨ao, cap, e, _⟩ := hv; exact ⟨ao, cap, by rw [e, hl]⟩
  have HW := Lib.hid (fun k => within_get hb (show (0 : Int) ≤ 0 by omega) (show (0 : Int) ≤ 255 by omega) k)
  have HS := Lib.hid (fun k => sumB_bd hb k)
  have HT := Lib.hid (fun k => inTo_bd hb (by omega) k)
  have HM := Lib.hid (meanV_bd hb (by omega))
  have HE : Hid (inV b = sumOf 64 fun i => absD (b.getD i 0) (meanV b)) := by show _ = _; unfold inV; rw [hl]
  have HF : Hid (meanV b = (32 + sumOf 64 fun i => b.getD i 0) / 64) := by show _ = _; unfold meanV; rw [hl]
  clear hv hb hl
  go_enter Tryd.func29, Tryd.ntmps29
  go_wp2
  go_loopw [3, 4] (fun m i wr => ∃ k : Nat, k ≤ 64 ∧ i = .int .i64 k ∧ m = .int .i64 (32 + sumOf k fun i => b.getD i 0) ∧ Below w.heap.size w wr) (fun _ i _ => 64 - (intOf i).toNat)
  case atStart => exact ⟨0, Nat.zero_le _, rfl, rfl, Below.refl _ _⟩
  case round =>
    obtain ⟨k, hk, rfl, rfl, hbr⟩ := hrel
    obtain ⟨h1, h2⟩ := HS.out k
    by_cases hlt : k < 64
    · obtain ⟨b1, o1, rfl, ca, lb1⟩ := (HV.out.ext hbr).cellN (j := k) (by rw [HL.out]; exact hlt)
      obtain ⟨x1, x2⟩ := HW.out k
      have he := sumOf_succ k fun i => b.getD i 0
      generalize (sumOf k fun i => b.getD i 0) = s at *
      generalize b.getD k 0 = x at *
      have HQ := Lib.hid he
      clear he
      have q1 : IntKind.i64.wrap (32 + s + x) = 32 + s + x := IntWalk.i64_in _ (by omega)
      go_wp2
      go_roundw
      case rel => exact ⟨k + 1, by omega, by go_num, int_eq (by rw [HQ.out]; omega), hbr⟩
      case measure => simp [intOf]; omega
    · obtain rfl : k = 64 := by omega
      have hm : meanV b = (32 + sumOf 64 fun i => b.getD i 0) / 64 := HF.out
      obtain ⟨m1, m2⟩ := HM.out
      generalize (sumOf 64 fun i => b.getD i 0) = s at *
      have q2 : Int.tdiv (32 + s) 64 = meanV b := by rw [hm, Int.tdiv_eq_ediv_of_nonneg (by omega)]
      clear hm HF
      generalize meanV b = M at *
      have q3 : IntKind.i64.wrap M = M := IntWalk.i64_in _ (by omega)
      obtain ⟨wo, rfl⟩ : ∃ wo : World, wo = wr := ⟨_, rfl⟩
      have hbo := hbr
      clear hbr
      go_wp2
      go_loopw [5, 6] (fun n i wr => ∃ k : Nat, k ≤ 64 ∧ i = .int .i64 k ∧ n = .int .i64 (sumOf k fun i => absD (b.getD i 0) M) ∧ Below w.heap.size w wr) (fun _ i _ => 64 - (intOf i).toNat)
      case atStart => exact ⟨0, Nat.zero_le _, rfl, rfl, hbo⟩
      case round =>
        obtain ⟨k, hk, rfl, rfl, hbr⟩ := hrel
        obtain ⟨t1, t2⟩ := HT.out k
        by_cases hlt : k < 64
        · obtain ⟨b1, o1, rfl, ca, lb1⟩ := (HV.out.ext hbr).cellN (j := k) (by rw [HL.out]; exact hlt)
          obtain ⟨x1, x2⟩ := HW.out k
          have he := sumOf_succ k fun i => absD (b.getD i 0) M
          generalize (sumOf k fun i => absD (b.getD i 0) M) = n at *
          generalize b.getD k 0 = x at *
          have HQ := Lib.hid he
          have ha := absD_bd (x := x) (y := M) ⟨x1, x2⟩ ⟨m1, m2⟩
          have hx := absD_max (x := x) (y := M)
          clear he q2
          have q4 : IntKind.i64.wrap (x - M) = x - M := IntWalk.i64_in _ (by omega)
          have q5 : IntKind.i64.wrap (M - x) = M - x := IntWalk.i64_in _ (by omega)
          have q6 : IntKind.i64.wrap (n + absD x M) = n + absD x M := IntWalk.i64_in _ (by omega)
          have hx2 : (if x - M < M - x then M - x else x - M) = absD x M := hx
          clear ha
          go_wp2
          go_quiet (fail)
          go_wp2
          go_roundw
          case rel => exact ⟨k + 1, by omega, by go_num, int_eq HQ.out.symm, by first | exact hbr | exact below_drewN' hbr _⟩
          case measure => simp [intOf]; omega
        · obtain rfl : k = 64 := by omega
          have HE2 := Lib.hid HE.out.symm
          generalize (sumOf 64 fun i => absD (b.getD i 0) M) = n at *
          clear HE
          go_wp2
          go_returns
          exact ⟨by rw [← HE2.out]; rfl, hbr⟩

theorem sq_get {W H : Int} {pix : List Int} (hm : May W H pix) {C i j : Nat} (hC : W.toNat / 8 = C) (hi : i < C) (hi4 : i ≤ 4) (hj : j ≤ 4) : getA W H pix ((i : Int) * 8) ((j : Int) * 8) 8 = sqA W H pix (j * C + i) := by
  have hg : getB W H pix ((i : Int) * 8) ((j : Int) * 8) 8 = true := getB_iff.2 ⟨hm, by omega, by omega, by omega, by omega, by omega, by omega⟩
  unfold getA sqA
  rw [if_pos hg, hC, (mulmod hi).1, (mulmod hi).2, show ((i * 8 : Nat) : Int) = (i : Int) * 8 from by omega, show ((j * 8 : Nat) : Int) = (j : Int) * 8 from by omega]
  rfl
set_option maxRecDepth 100000 in
set_option maxHeartbeats 8000000 in
theorem psquares_any (v : Value) (W H : Int) (pix : List Int) (w : World) (hv : FrameV w v W H pix) (hm : May W H pix) :
    Calls Tryd.prog 26 #[v] w fun e w' => ∃ v', e = .returned v' ∧ OwnRows w' w.heap.size v' (sqL W H pix (sqN W H)) ∧ Below w.heap.size w w' := by
  obtain ⟨C, R, hW, hH, c1, c2, r1, r2, hC, hN, hCR⟩ := hm.sides
  have HV := Lib.hid hv
  obtain ⟨ao, cap, rfl, -⟩ := hv.cells
  have hP := Lib.hid (fun fv i j w (h : FrameV w fv W H pix) => pget_any fv W H pix ((i : Int) * 8) ((j : Int) * 8) 8 w h)
  have HSQ := Lib.hid (fun i j (hi : i < C) (hj : j ≤ 4) => sq_get (pix := pix) hm hC hi (by omega) hj)
  have HLN := Lib.hid (length_sqL W H pix)
  have HSU := Lib.hid (sqL_succ W H pix)
  have HN := Lib.hid hN
  have HWH := Lib.hid (And.intro hW hH)
  have BF := Lib.hid (Blk.new w #[.int .i64 W, .int .i64 H, .slice ao pix.length cap] 24)
  clear hv hm hC hN hW hH
  go_enter Tryd.func26, Tryd.ntmps26
  go_wp2
  go_loopw [3, 4] (fun l y wr => ∃ j : Nat, j ≤ R ∧ y = .int .i64 ((j : Int) * 8) ∧ OwnRows wr (w.heap.size + 1) l (sqL W H pix (j * C)) ∧ Below w.heap.size w wr ∧ w.heap.size + 1 ≤ wr.heap.size ∧ Blk wr w.heap.size #[.int .i64 W, .int .i64 H, .slice ao pix.length cap] 24) (fun _ y _ => 40 - (intOf y).toNat)
  case atStart => exact ⟨0, Nat.zero_le _, by simp, by rw [Nat.zero_mul]; exact OwnRows.nil _ _, by go_grown, by simp, BF.out⟩
  case round =>
    clear BF
    obtain ⟨j, hj, rfl, hown, hbr, hsz, hF⟩ := hrel
    have HO := Lib.hid hown
    have FF := Lib.hid hF
    clear hown hF
    obtain ⟨wo, rfl⟩ : ∃ wo : World, wo = wr := ⟨_, rfl⟩
    have lF := FF.out.lt
    obtain ⟨f0, f1, f2, -, -, -⟩ := FF.out.three
    by_cases hlt : j < R
    · have q : decide ((j : Int) * 8 < H) = true := by have := HWH.out; simp; omega
      go_wp2
      clear f0 f1 f2
      go_loopw [3, 5] (fun l x wr => ∃ i : Nat, i ≤ C ∧ x = .int .i64 ((i : Int) * 8) ∧ OwnRows wr (w.heap.size + 1) l (sqL W H pix (j * C + i)) ∧ Below w.heap.size w wr ∧ w.heap.size + 1 ≤ wr.heap.size ∧ Blk wr w.heap.size #[.int .i64 W, .int .i64 H, .slice ao pix.length cap] 24) (fun _ x _ => 40 - (intOf x).toNat)
      case atStart => exact ⟨0, Nat.zero_le _, by simp, HO.out, hbr, hsz, FF.out⟩
      case round =>
        clear HO FF hbr hsz lF
        obtain ⟨i, hi, rfl, hown, hbr, hsz, hF⟩ := hrel
        have HO := Lib.hid hown
        have FF := Lib.hid hF
        clear hown hF
        have lF := FF.out.lt
        obtain ⟨f0, f1, f2, -, -, -⟩ := FF.out.three
        by_cases hli : i < C
        · have q2 : decide ((i : Int) * 8 < W) = true := by have := HWH.out; simp; omega
          have hk : j * C + i < 16 := by
            have : (j + 1) * C ≤ R * C := Nat.mul_le_mul (by omega) (Nat.le_refl C)
            have h2 : (j + 1) * C = j * C + C := by rw [Nat.add_mul, Nat.one_mul]
            have h3 : R * C = C * R := Nat.mul_comm R C
            omega
          have q3 : IntKind.i64.wrap (((i : Int) * 8) + 8) = (i : Int) * 8 + 8 := IntWalk.i64_in _ (by omega)
          have CP := Lib.hid (hP.out (.agg #[.int .i64 W, .int .i64 H, .slice ao pix.length cap]) i j)
          go_wp2_with fail
          clear f0 f1 f2
          refine (CP.out _ (HV.out.ext (ext hbr (by go_grown)))).mono ?_
          rintro e w5 ⟨p, rfl, hp, hb5⟩
          have j5 : Below wr.heap.size wr w5 := ext (by go_grown) hb5
          have g5 : Below w.heap.size w w5 := ext hbr j5
          have s5 := j5.size
          rw [HSQ.out i j hli (by omega)] at hp
          obtain ⟨pa, pl, pc, rfl⟩ : ∃ pa pl pc, p = .slice pa pl pc := by obtain ⟨pa, pc, e⟩ := hp.shape; exact ⟨pa, _, pc, e⟩
          have HP := Lib.hid (hp.mono (B' := w.heap.size + 1) hsz)
          have HO5 := Lib.hid (HO.out.ext j5)
          have FF5 := Lib.hid (FF.out.ext j5)
          clear hp HO FF
          go_wp2_with (at_builtin; refine wpList_appRow rfl (.tmp 18) (.tmp 23) rfl (w.heap.size + 1) _ _ _ _ rfl HO5.out HP.out rfl (by simp) (by rw [HLN.out]; omega) (by omega) ?_)
          intro v' w' hown' hb'
          have FF6 := Lib.hid (FF5.out.below hb' (by omega))
          have g6 : Below w.heap.size w w' := g5.trans (hb'.mono (by omega))
          have s6 := hb'.size
          have HO6 := Lib.hid hown'
          clear hown' hb' HO5 FF5
          go_wp2
          go_roundw
          case rel => exact ⟨i + 1, by omega, int_eq (by omega), by rw [show j * C + (i + 1) = (j * C + i) + 1 from rfl, HSU.out]; exact HO6.out, g6, by omega, FF6.out⟩
          case measure => simp [intOf]; omega
        · obtain rfl : i = C := by omega
          have q2 : decide ((i : Int) * 8 < W) = false := by have := HWH.out; simp; omega
          have q3 : IntKind.i64.wrap (((j : Int) * 8) + 8) = (j : Int) * 8 + 8 := IntWalk.i64_in _ (by omega)
          have HO6 := Lib.hid (show OwnRows wr (w.heap.size + 1) _ (sqL W H pix ((j + 1) * i)) from by rw [show (j + 1) * i = j * i + i from by rw [Nat.add_mul, Nat.one_mul]]; exact HO.out)
          clear HO
          go_wp2
          go_roundw
          case rel => exact ⟨j + 1, by omega, int_eq (by omega), HO6.out, hbr, hsz, FF.out⟩
          case measure => simp [intOf]; omega
    · obtain rfl : j = R := by omega
      have q : decide ((j : Int) * 8 < H) = false := by have := HWH.out; simp; omega
      have HO6 := Lib.hid (show OwnRows wo (w.heap.size + 1) _ (sqL W H pix (sqN W H)) from by rw [HN.out, Nat.mul_comm]; exact HO.out)
      clear HO
      go_wp2
      go_returns
      exact ⟨_, rfl, HO6.out.mono (by omega), hbr⟩
end Go.Proofs.YtmdpfjjbehpnbaaDoor
