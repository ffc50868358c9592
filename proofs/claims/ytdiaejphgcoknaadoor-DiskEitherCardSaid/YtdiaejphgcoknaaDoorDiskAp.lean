/- A disk that stands: more operations. -/
import Derived.Test.YtdiaejphgcoknaaDoorDiskAl
import Derived.Test.YtdiaejphgcoknaaDoorDiskAn
set_option linter.unusedSimpArgs false
set_option linter.unusedVariables false
namespace Go.Proofs.YtdiaejphgcoknaaDoor
open Go.RowKit Go.Extern.Stop Go.Stop Go.Extern

section
variable {W : World} {p : Nat} {L : Lay} {D : DS} {w : World}
theorem Stand.armN (S : Stand W p L D w) (n : Int) :
    Calls Tryd.prog 18 #[.pointer (some ⟨p, 0, none⟩), .int .i64 n] w fun e w' => e = .returned (.tuple #[]) ∧ StandNew W p L (armD D n) w w' :=
  (arm_any p L D n w S.dp).mono fun e w' ⟨he, h1, h3⟩ => ⟨he, L, S.keep h1 (fun _ hk => .inl hk) (Keep.self h3), Keep.self h3, fun _ hk => .inl hk⟩
theorem Stand.create (S : Stand W p L D w) {a : Bs} {T : Nat} (hI : Inv D T) (hT : T ≤ 100000) (ha : a.length ≤ maxLen) :
    Calls Tryd.prog 25 #[.pointer (some ⟨p, 0, none⟩), .string ⟨a.toArray⟩] w fun e w' => e = .returned (errV (goesE D (createE D a))) ∧ StandNew W p L (createD D a) w w' :=
  (create_any p L D a T w S.dp hI hT ha).mono fun e w' h => S.opN h
theorem Stand.append (S : Stand W p L D w) {a b : Bs} {u : Value} {T : Nat} (hI : Inv D T) (hT : T ≤ 100000) (ha : a.length ≤ maxLen) (hu : BytesV w u b) :
    Calls Tryd.prog 26 #[.pointer (some ⟨p, 0, none⟩), .string ⟨a.toArray⟩, u] w fun e w' => e = .returned (errV (appE D a b)) ∧ StandNew W p L (appD D a b) w w' :=
  (append_any p L D a u b T w S.dp hu hI hT ha).mono fun e w' h => S.opN h
theorem Stand.rename (S : Stand W p L D w) {a b : Bs} {T : Nat} (hI : Inv D T) (hT : T ≤ 100000) (ha : a.length ≤ maxLen) (hb : b.length ≤ maxLen) :
    Calls Tryd.prog 27 #[.pointer (some ⟨p, 0, none⟩), .string ⟨a.toArray⟩, .string ⟨b.toArray⟩] w fun e w' => e = .returned (errV (renE D a b)) ∧ StandNew W p L (renD D a b) w w' :=
  (rename_any p L D a b T w S.dp hI hT ha hb).mono fun e w' h => S.opN h
theorem Stand.remove (S : Stand W p L D w) {a : Bs} {T : Nat} (hI : Inv D T) (hT : T ≤ 100000) (ha : a.length ≤ maxLen) :
    Calls Tryd.prog 24 #[.pointer (some ⟨p, 0, none⟩), .string ⟨a.toArray⟩] w fun e w' => e = .returned (errV (remE D a)) ∧ StandNew W p L (remD D a) w w' :=
  (remove_any p L D a T w S.dp hI hT ha).mono fun e w' h => S.opN h
end
end Go.Proofs.YtdiaejphgcoknaaDoor
