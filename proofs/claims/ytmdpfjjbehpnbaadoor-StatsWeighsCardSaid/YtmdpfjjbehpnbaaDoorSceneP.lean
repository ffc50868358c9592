/- Scenes in plain Lean: how unlike two frames are; groups. -/
import Derived.Test.YtmdpfjjbehpnbaaDoorPlaneC
import Derived.Test.YtmdpfjjbehpnbaaDoorFrames
set_option linter.unusedSimpArgs false
set_option linter.unusedVariables false
namespace Go.Proofs.YtmdpfjjbehpnbaaDoor

def unlE (a b : Fr) : Int := fbothE a.W a.H a.pix b.W b.H b.pix
def unlV (a b : Fr) : Int := if unlE a b = 0 then 64 * sadV a.pix b.pix / a.pix.length else 0
theorem fboth_zero {W H W2 H2 : Int} {a b : List Int} (h : fbothE W H a W2 H2 b = 0) : May W H a ∧ May W2 H2 b ∧ W = W2 ∧ H = H2 := by
  unfold fbothE at h
  split at h
  · rename_i hm
    rw [Bool.and_eq_true, mayB_iff, mayB_iff] at hm
    split at h
    · rename_i he; exact ⟨hm.1, hm.2, he.1, he.2⟩
    · omega
  · omega
theorem fboth_comm (W H W2 H2 : Int) (a b : List Int) : fbothE W H a W2 H2 b = fbothE W2 H2 b W H a := by
  unfold fbothE
  rw [Bool.and_comm]
  split
  · by_cases h : W = W2 ∧ H = H2
    · rw [if_pos h, if_pos ⟨h.1.symm, h.2.symm⟩]
    · rw [if_neg h, if_neg (fun q => h ⟨q.1.symm, q.2.symm⟩)]
  · rfl
theorem fboth_self {W H W2 H2 : Int} {a b : List Int} (h : fbothE W H a W2 H2 b = 0) : fbothE W H a W H a = 0 := by
  have hm := mayB_iff.2 (fboth_zero h).1
  unfold fbothE; rw [hm]; simp
theorem fboth_len {W H W2 H2 : Int} {a b : List Int} (h : fbothE W H a W2 H2 b = 0) : a.length = b.length ∧ 64 ≤ a.length ∧ a.length ≤ 1024 := by
  obtain ⟨h1, h2, rfl, rfl⟩ := fboth_zero h
  have e1 := h1.len; have e2 := h2.len; have := h1.bd
  refine ⟨?_, this⟩
  have : (a.length : Int) = b.length := by rw [e1, e2]
  omega
theorem unlE_comm (a b : Fr) : unlE a b = unlE b a := fboth_comm ..
theorem sadV_comm {a b : List Int} (h : a.length = b.length) : sadV a b = sadV b a := by
  unfold sadV; rw [h]; exact sumOf_congr fun i _ => absD_comm _ _
theorem unlE_bd (a b : Fr) : unlE a b = 0 ∨ unlE a b = 2 ∨ unlE a b = 14 := by
  unfold unlE fbothE; split
  · split <;> simp
  · simp
theorem usad_bd {a b : Fr} (h : unlE a b = 0) : 0 ≤ sadV a.pix b.pix ∧ sadV a.pix b.pix ≤ a.pix.length * 255 := fsum_bd (fboth_zero h).1.pix (fboth_zero h).2.1.pix _
theorem unlV_bd (a b : Fr) : 0 ≤ unlV a b ∧ unlV a b ≤ 16320 := by
  unfold unlV; split
  · rename_i h
    obtain ⟨h1, h2⟩ := usad_bd h
    obtain ⟨-, h3, -⟩ := fboth_len h
    exact ⟨Int.ediv_nonneg (by omega) (by omega), Int.ediv_le_of_le_mul (by omega) (by omega)⟩
  · omega
theorem unlV_comm (a b : Fr) : unlV a b = unlV b a := by
  unfold unlV
  rw [unlE_comm b a]
  split
  · rename_i h
    have := (fboth_len h).1
    rw [sadV_comm this, this]
  · rfl
theorem unlV_self (a : Fr) : unlV a a = 0 := by
  unfold unlV; split
  · have : sadV a.pix a.pix = 0 := by
      unfold sadV
      rw [sumOf_congr (g := fun _ => 0) fun i _ => absD_zero.2 rfl]
      generalize a.pix.length = n
      induction n with
      | zero => rfl
      | succ n ih => rw [sumOf_succ, ih]; rfl
    rw [this]; simp
  · rfl
/-! ### groups -/
def frA (fs : List Fr) (i : Nat) : Fr := fs.getD i Fr.nought
def ueA (fs : List Fr) (i : Nat) : Int := unlE (frA fs (i - 1)) (frA fs i)
def uvA (fs : List Fr) (i : Nat) : Int := unlV (frA fs (i - 1)) (frA fs i)
def argE (cut gop : Int) (n : Nat) : Int := if 0 ≤ cut ∧ cut ≤ 16320 ∧ 1 ≤ gop ∧ gop ≤ 16 then (if n = 0 ∨ 16 < n then 2 else 0) else 3
def lastG (g : List (Int × Int)) : Int × Int := g.getD (g.length - 1) (0, 0)
def joins (cut gop : Int) (g : List (Int × Int)) (u : Int) : Bool := decide (0 < g.length) && (decide (u ≤ cut) && decide ((lastG g).2 < gop))
def stepG (cut gop : Int) (g : List (Int × Int)) (i : Nat) (u : Int) : List (Int × Int) :=
  if joins cut gop g u then g.set (g.length - 1) ((lastG g).1, (lastG g).2 + 1) else g ++ [((i : Int), 1)]
def grpTo (fs : List Fr) (cut gop : Int) : Nat → List (Int × Int)
  | 0 => []
  | k + 1 => stepG cut gop (grpTo fs cut gop k) k (uvA fs k)
theorem grpTo_succ (fs : List Fr) (cut gop : Int) (k : Nat) : grpTo fs cut gop (k + 1) = stepG cut gop (grpTo fs cut gop k) k (uvA fs k) := rfl
/-- What holds of groups over the first k frames. -/
structure GInv (fs : List Fr) (cut gop : Int) (g : List (Int × Int)) (k : Nat) : Prop where
  le : g.length ≤ k
  pos : 0 < k → 0 < g.length
  cnt : ∀ j, j < g.length → 1 ≤ (g.getD j (0, 0)).2 ∧ (g.getD j (0, 0)).2 ≤ gop
  zero : 0 < g.length → (g.getD 0 (0, 0)).1 = 0
  next : ∀ j, j + 1 < g.length → (g.getD (j + 1) (0, 0)).1 = (g.getD j (0, 0)).1 + (g.getD j (0, 0)).2
  last : 0 < g.length → (lastG g).1 + (lastG g).2 = k
  cut : ∀ j, j + 1 < g.length → ∃ i : Nat, (g.getD (j + 1) (0, 0)).1 = i ∧ i < k ∧ (cut < uvA fs i ∨ (g.getD j (0, 0)).2 = gop)
  fst : ∀ j, j < g.length → 0 ≤ (g.getD j (0, 0)).1 ∧ (g.getD j (0, 0)).1 + (g.getD j (0, 0)).2 ≤ k
theorem getD_app_lt {g : List (Int × Int)} {p : Int × Int} {j : Nat} (h : j < g.length) : (g ++ [p]).getD j (0, 0) = g.getD j (0, 0) := by
  rw [List.getD_eq_getElem?_getD, List.getD_eq_getElem?_getD, List.getElem?_append_left h]
theorem getD_app_at {g : List (Int × Int)} {p : Int × Int} : (g ++ [p]).getD g.length (0, 0) = p := by simp
theorem getD_set_ne {g : List (Int × Int)} {p : Int × Int} {j i : Nat} (h : i ≠ j) : (g.set i p).getD j (0, 0) = g.getD j (0, 0) := by
  rw [List.getD_eq_getElem?_getD, List.getD_eq_getElem?_getD, List.getElem?_set_ne h]
theorem getD_set_eq {g : List (Int × Int)} {p : Int × Int} {i : Nat} (h : i < g.length) : (g.set i p).getD i (0, 0) = p := by
  rw [List.getD_eq_getElem?_getD, List.getElem?_set_self h]; rfl
theorem GInv.step {fs : List Fr} {cut gop : Int} {g : List (Int × Int)} {k : Nat} (hg : 1 ≤ gop) (h : GInv fs cut gop g k) : GInv fs cut gop (stepG cut gop g k (uvA fs k)) (k + 1) := by
  unfold stepG
  cases hjo : joins cut gop g (uvA fs k) with
  | true =>
    unfold joins at hjo
    simp only [Bool.and_eq_true, decide_eq_true_eq] at hjo
    obtain ⟨hp, hu, hc⟩ := hjo
    have hl := h.last hp
    have hb : g.length - 1 < g.length := by omega
    rw [if_pos rfl]
    have hlen : (g.set (g.length - 1) ((lastG g).1, (lastG g).2 + 1)).length = g.length := List.length_set ..
    have hlast : lastG (g.set (g.length - 1) ((lastG g).1, (lastG g).2 + 1)) = ((lastG g).1, (lastG g).2 + 1) := by
      unfold lastG
      rw [List.length_set, getD_set_eq hb]
    have hcl := h.cnt _ hb
    have at_ : ∀ j, j < g.length → (j = g.length - 1 ∧ (g.set (g.length - 1) ((lastG g).1, (lastG g).2 + 1)).getD j (0, 0) = ((lastG g).1, (lastG g).2 + 1)) ∨ (j < g.length - 1 ∧ (g.set (g.length - 1) ((lastG g).1, (lastG g).2 + 1)).getD j (0, 0) = g.getD j (0, 0)) := by
      intro j hj
      by_cases e : j = g.length - 1
      · left; subst e; exact ⟨rfl, getD_set_eq hb⟩
      · right; exact ⟨by omega, getD_set_ne (fun q => e q.symm)⟩
    refine ⟨by rw [hlen]; have := h.le; omega, fun _ => by rw [hlen]; exact hp, ?_, ?_, ?_, ?_, ?_, ?_⟩
    · intro j hj
      rw [hlen] at hj
      rcases at_ j hj with ⟨-, e⟩ | ⟨-, e⟩
      · rw [e]
        have : lastG g = g.getD (g.length - 1) (0, 0) := rfl
        rw [← this] at hcl
        show 1 ≤ (lastG g).2 + 1 ∧ (lastG g).2 + 1 ≤ gop
        omega
      · rw [e]; exact h.cnt j hj
    · intro h0
      rw [hlen] at h0
      rcases at_ 0 h0 with ⟨e0, e⟩ | ⟨-, e⟩
      · rw [e]
        show (lastG g).1 = 0
        unfold lastG
        rw [← e0]; exact h.zero hp
      · rw [e]; exact h.zero hp
    · intro j hj
      rw [hlen] at hj
      have hn := h.next j hj
      rcases at_ j (by omega) with ⟨e0, -⟩ | ⟨-, e⟩
      · omega
      · rw [e]
        rcases at_ (j + 1) hj with ⟨e0, e2⟩ | ⟨-, e2⟩
        · rw [e2]
          show (lastG g).1 = _
          unfold lastG
          rw [← e0]; exact hn
        · rw [e2]; exact hn
    · intro _
      rw [hlast]
      show (lastG g).1 + ((lastG g).2 + 1) = ((k + 1 : Nat) : Int)
      omega
    · intro j hj
      rw [hlen] at hj
      obtain ⟨i, h1, h2, h3⟩ := h.cut j hj
      refine ⟨i, ?_, by omega, ?_⟩
      · rcases at_ (j + 1) hj with ⟨e0, e2⟩ | ⟨-, e2⟩
        · rw [e2]
          show (lastG g).1 = _
          unfold lastG
          rw [← e0]; exact h1
        · rw [e2]; exact h1
      · rcases at_ j (by omega) with ⟨e0, -⟩ | ⟨-, e⟩
        · omega
        · rw [e]; exact h3
    · intro j hj
      rw [hlen] at hj
      have hf := h.fst j hj
      rcases at_ j hj with ⟨e0, e⟩ | ⟨-, e⟩
      · rw [e]
        show 0 ≤ (lastG g).1 ∧ (lastG g).1 + ((lastG g).2 + 1) ≤ ((k + 1 : Nat) : Int)
        rw [e0] at hf
        have : (lastG g) = g.getD (g.length - 1) (0, 0) := rfl
        rw [← this] at hf
        omega
      · rw [e]; omega
  | false =>
    rw [if_neg (by simp)]
    have hlen : (g ++ [((k : Int), (1 : Int))]).length = g.length + 1 := by simp
    have hlast : lastG (g ++ [((k : Int), (1 : Int))]) = ((k : Int), 1) := by
      unfold lastG
      rw [hlen, Nat.add_sub_cancel]; exact getD_app_at
    have at_ : ∀ j, j < g.length + 1 → (j = g.length ∧ (g ++ [((k : Int), (1 : Int))]).getD j (0, 0) = ((k : Int), 1)) ∨ (j < g.length ∧ (g ++ [((k : Int), (1 : Int))]).getD j (0, 0) = g.getD j (0, 0)) := by
      intro j hj
      by_cases e : j = g.length
      · left; subst e; exact ⟨rfl, getD_app_at⟩
      · right; exact ⟨by omega, getD_app_lt (by omega)⟩
    refine ⟨by rw [hlen]; have := h.le; omega, fun _ => by rw [hlen]; omega, ?_, ?_, ?_, ?_, ?_, ?_⟩
    · intro j hj
      rw [hlen] at hj
      rcases at_ j hj with ⟨-, e⟩ | ⟨hl, e⟩
      · rw [e]; exact ⟨Int.le_refl 1, hg⟩
      · rw [e]; exact h.cnt j hl
    · intro _
      rcases at_ 0 (by omega) with ⟨e0, e⟩ | ⟨hl, e⟩
      · rw [e]
        show (k : Int) = 0
        rcases Nat.eq_zero_or_pos k with hk | hk
        · omega
        · have := h.pos hk; omega
      · rw [e]; exact h.zero hl
    · intro j hj
      rw [hlen] at hj
      rcases at_ j (by omega) with ⟨e0, -⟩ | ⟨hl, e⟩
      · omega
      · rw [e]
        rcases at_ (j + 1) hj with ⟨e0, e2⟩ | ⟨hl2, e2⟩
        · rw [e2]
          have := h.last (by omega)
          unfold lastG at this
          rw [show g.length - 1 = j from by omega] at this
          exact this.symm
        · rw [e2]; exact h.next j hl2
    · intro _
      rw [hlast]
      show (k : Int) + 1 = ((k + 1 : Nat) : Int)
      omega
    · intro j hj
      rw [hlen] at hj
      rcases at_ j (by omega) with ⟨e0, -⟩ | ⟨hl, e⟩
      · omega
      · rw [e]
        rcases at_ (j + 1) hj with ⟨e0, e2⟩ | ⟨hl2, e2⟩
        · rw [e2]
          refine ⟨k, rfl, by omega, ?_⟩
          have hcl := (h.cnt j hl).2
          by_cases hu : uvA fs k ≤ cut
          · right
            by_cases hc : (g.getD j (0, 0)).2 < gop
            · exfalso
              have : lastG g = g.getD j (0, 0) := by unfold lastG; rw [show g.length - 1 = j from by omega]
              unfold joins at hjo
              rw [this, decide_eq_true hu, decide_eq_true hc, decide_eq_true (show 0 < g.length by omega)] at hjo
              cases hjo
            · omega
          · left; omega
        · rw [e2]
          obtain ⟨i, h1, h2, h3⟩ := h.cut j hl2
          exact ⟨i, h1, by omega, h3⟩
    · intro j hj
      rw [hlen] at hj
      rcases at_ j hj with ⟨-, e⟩ | ⟨hl, e⟩
      · rw [e]
        show 0 ≤ (k : Int) ∧ (k : Int) + 1 ≤ ((k + 1 : Nat) : Int)
        omega
      · rw [e]; have := h.fst j hl; omega
theorem GInv.zero_ (fs : List Fr) (cut gop : Int) : GInv fs cut gop [] 0 := ⟨by simp, fun h => by omega, fun j h => by simp at h, fun h => by simp at h, fun j h => by simp at h, fun h => by simp at h, fun j h => by simp at h, fun j h => by simp at h⟩
theorem ginv (fs : List Fr) {cut gop : Int} (hg : 1 ≤ gop) : ∀ k, GInv fs cut gop (grpTo fs cut gop k) k
  | 0 => GInv.zero_ ..
  | k + 1 => (ginv fs hg k).step hg
end Go.Proofs.YtmdpfjjbehpnbaaDoor
