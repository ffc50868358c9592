/- kinref11.Search: one contract over all cases. -/
import Derived.Test.YtjmkcbagedflkaaDoorMotionU
set_option linter.unusedSimpArgs false
set_option linter.unusedVariables false
namespace Go.Proofs.YtjmkcbagedflkaaDoor
open Go.RowKit
theorem rsearch_any (fv bv : Value) (W H : Int) (pix bl : List Int) (x y r : Int) (w : World) (hv : FrameV w fv W H pix) (hu : Ints w bv bl) :
    Calls Tryd.prog 22 #[fv, bv, .int .i64 x, .int .i64 y, .int .i64 r] w fun e w' => e = .returned (.tuple #[.agg #[.int .i64 (srchR W H pix bl x y r).1, .int .i64 (srchR W H pix bl x y r).2], .agg #[.int .i64 (srchE W H pix bl x y r), .slice none 0 0]]) ∧ Below w.heap.size w w' := by
  cases hb : mayB W H pix with
  | false => have he := srchE_1 (b := bl) (x := x) (y := y) (r := r) hb; rw [srchR_no (by omega), he]; exact rsearch_w0 fv bv W H pix bl x y r w hv hu hb
  | true =>
    by_cases k0 : r < 0
    · have he := srchE_2 (b := bl) (x := x) (y := y) (r := r) hb (by omega); rw [srchR_no (by omega), he]; exact rsearch_w1 fv bv W H pix bl x y r w hv hu hb k0
    · by_cases k1 : 7 < r
      · have he := srchE_2 (b := bl) (x := x) (y := y) (r := r) hb (by omega); rw [srchR_no (by omega), he]; exact rsearch_w2 fv bv W H pix bl x y r w hv hu hb k0 k1
      · cases k2 : inB W H x y 8 with
        | false => have he := srchE_2 (b := bl) (x := x) (y := y) (r := r) hb (by rw [k2]; simp); rw [srchR_no (by omega), he]; exact rsearch_w3 fv bv W H pix bl x y r w hv hu hb k0 k1 k2
        | true =>
          by_cases k3 : bl.length = 64
          · cases k4 : withinB bl 0 255 with
            | false => have he := srchE_4 (b := bl) (x := x) (y := y) (r := r) hb ⟨by omega, k2⟩ k3 k4; rw [srchR_no (by omega), he]; exact rsearch_w5 fv bv W H pix bl x y r w hv hu hb k0 k1 k2 k3 k4
            | true =>
              have he := srchE_ok (b := bl) (mayB_iff.1 hb) (r := r) (by omega) k2 k3 k4
              rw [srchR_ok he, he]
              obtain ⟨n, rfl⟩ : ∃ n : Nat, r = n := ⟨r.toNat, by omega⟩
              rw [Int.toNat_natCast]
              exact rsearch_ok fv bv W H pix bl x y n w hv hu (mayB_iff.1 hb) (by omega) k2 k3 k4
          · have he := srchE_3 (b := bl) (x := x) (y := y) (r := r) hb ⟨by omega, k2⟩ k3; rw [srchR_no (by omega), he]; exact rsearch_w4 fv bv W H pix bl x y r w hv hu hb k0 k1 k2 k3
end Go.Proofs.YtjmkcbagedflkaaDoor
