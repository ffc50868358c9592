/- Step -/
import Derived.Test.YtajkpgaheechmaaGreatDoorZAA
import Derived.RegionTactic
import Derived.BigRegion
import Derived.Deep.RegionHeld3
import Derived.IntWalk
set_option maxRecDepth 100000
set_option maxHeartbeats 16000000
set_option linter.unusedSimpArgs false
set_option linter.unusedVariables false
set_option linter.unusedSectionVars false
namespace Go.Proofs.YtajkpgaheechmaaGreatDoor
open _root_.Go.Proofs.Tryz
open Go.Value renaming int->A,slice->U,pointer->Q
open Go.IntKind renaming i64->G
open Option renaming none->I,some->K
open Go renaming World->V,Value->Z,Addr->Yi
open Go.RowKit renaming Below->X
open Go.World renaming cell?_of_block->YS
open Nat renaming le_refl->Yk
open Go.RowKit.Below renaming refl->Yn,heap_setCell->Yt
open Go.Value.slice renaming injEq->Yy
open Go.RowKit
theorem aY.shape{h:V}{b:Z}{c:List Int}(g:aY h b c):∃a cap,b=U a c.length cap:=by
 obtain⟨a,cap,f,_⟩:=g;exact⟨a,cap,f⟩
section
variable {ops:Array Oper} {rest:List Oper} {o:Oper} {a:Act} {Q:Exit->Act->V->Prop}
theorem fU{b:Nat}{c f:V}(a:X b c.drew f):X b c f:=⟨a.os,a.tape,a.output,a.size,a.block⟩
end
theorem iQ{a:V}(o:Obj):X a a (a.drew.alloc o):=((Yn _ _).drew).alloc (Yk _) _
theorem Vc{a:V}{b c o:Nat}{h j g:Z}(f:c≠b)(i:a.cell? ⟨c,o,I⟩=K g):((a.setCell b h).setCell ⟨b,1,I⟩ j).cell? ⟨c,o,I⟩=K g:=by
 rw [YS (w:=a.setCell b h) (Yt _ _ _ _ f),YS (w:=a) (Yt _ _ _ _ f)];exact i
theorem ag{b:Nat}{c f:V}(a:X b c f)(g:Nat):X b c (f.drewN g):=⟨a.os,a.tape,a.output,a.size,a.block⟩
theorem int_eq{a b:Int}(c:a=b):A G a=A G b:=by rw [c]
theorem lH{g wr:V}{j l:Option Yi}{z y cap r:Nat}{h i:List Int}(x:aY g (U j z cap) h)(w:aY g (U l y r) i)(o:X g g wr){k:Nat}(t:k<h.length)(u:k<i.length):
  ∃a c b f,j=K ⟨a,c,I⟩/\l=K ⟨b,f,I⟩/\wr.cell? ⟨a,c+k,I⟩=K (A G (h.getD k 0))/\wr.cell? ⟨b,f+k,I⟩=K (A G (i.getD k 0)):=by
 obtain⟨C,F,m,_,_,_,_,v⟩:=x.ext o;obtain⟨D,J,n,_,_,_,_,s⟩:=w.ext o;simp only [Yy] at m n;obtain⟨rfl, -,rfl⟩:=m;obtain⟨rfl, -,rfl⟩:=n;obtain⟨a,c,rfl,p⟩:=v k t;obtain⟨b,f,rfl,q⟩:=s k u;exact⟨a,c,b,f,rfl,rfl,p,q⟩
end Go.Proofs.YtajkpgaheechmaaGreatDoor
