/- Facts laid behind a word; closing steps; an address and a size read as what they stand for. -/
import Derived.Test.YtajkpgaheechmaaGreatDoorProg
import Derived.Lib.Hide
import Derived.Handy
set_option linter.unusedVariables false
namespace Go.Proofs.YtajkpgaheechmaaGreatDoor
def Hd(p:Prop):Prop:=p
theorem E{p:Prop}(h:p):Hd p:=h
theorem η{p:Prop}(h:p):Hd p:=h
theorem Hd.o{p:Prop}(h:Hd p):p:=h
theorem O{p:Prop}(h:p:=by omega):p:=h
theorem B{p:Prop}(h:p:=by kernel_rfl):p:=h
theorem N{p:Prop}(h:p:=by go_grown):p:=h
theorem H{p:Prop}(h:p:=by decide):p:=h
theorem Y{p:Prop}(h:p:=by simp):p:=h
theorem S{p:Prop}(h:p:=by go_num):p:=h
theorem Zd{p:Prop}(h:p:=by assumption):p:=h
instance:Coe World Nat:=⟨fun w=>w.heap.size⟩
instance:Coe Nat Addr:=⟨fun b=>⟨b,0,none⟩⟩
end Go.Proofs.YtajkpgaheechmaaGreatDoor
