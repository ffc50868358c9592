/- Row1 -/
import Derived.Test.YtajkpgaheechmaaGreatDoorZAD
set_option maxRecDepth 100000
set_option maxHeartbeats 16000000
set_option linter.unusedSimpArgs false
set_option linter.unusedVariables false
set_option linter.unusedSectionVars false
namespace Go.Proofs.YtajkpgaheechmaaGreatDoor
open _root_.Go.Proofs.Tryz
open Go.Value renaming slice->U,ownBlock->YT
open Option renaming none->I,some->K
open Go.Obj renaming cells->M
open Go renaming World->V,Value->Z,maxLen->YO
open Go.RowKit renaming Below->X
open Or renaming inl->Yg
open Nat renaming le_trans->Yl,lt_of_lt_of_le->Yv
open Go.RowKit.Below renaming refl->Yn
open Option.some renaming injEq->YQ
open Go.RowKit
theorem pr{c1:Array Oper}{o:Oper}{k:Act}{p:V}{z:Act->V->Prop}{P:Exit->Act->V->Prop}{L:Prop}
  (r g h bytes:Nat)(y:Z)(b3:prog.underlying r=K (.slice g))(a2:(prog.info? g).map (λv=>(v.zero,v.size,v.bytes))=K (K y,h,bytes))(b5:y.cells.size=h)(b2:0<h)
  (a1:o.guard=I)(w x:Operand)(a9:o.op= .call {callee:= .builtin .append,args:=#[w,x],argTypes:=#[r,r]})
  (a:V)(i:Nat)(n:Z)(c:Nat)(u j:List Z)(b1:k.eval w=n)(F:a.ownsRow i g h n c u)(q:Nat)(b4:k.eval x=U (K q) 1 1)
  (W:p.heap[q]? =K (M j.toArray g (0,0)))(b:X a a p)(c3:j.length=h)(R:∀J∈j,J.oneCell'=true)(c4:c<=1000000)(a0:bytes<=1000000)(C:i<=a.heap.size)
  (T:∀l cap f,f.ownsRow i g h (U (K ⟨l,0,I⟩) (c+1) cap) (c+1) (u++j)->X i a f->a.grownBy f n.ownBlock->l<f.heap.size->z (k.put o.dst (U (K ⟨l,0,I⟩) (c+1) cap)) f):
  if Region.wanted o (yielded c1 k.tmps)=true then Oper.wp prog o k p z P else L:=by
 obtain⟨b9,a3,b6,b7,b8⟩:=info_parts a2;have a7:(c+1)*bytes<=140737488355328:=Yl (Nat.mul_le_mul (O:c+1<=1000001) a0) H;refine step_append_lies p a1 w x r a9 i g b9 y h bytes b3 a3 b6 b7 b8 b5 b2 n c u b1 (aG F b) q 1 1 j b4 O ?_ R O (by unfold YO;omega) a7 (Yl C b.size) p rfl ?_
 .intro c0 J a5
  rw [Go.WideShapes.add_plain,Nat.zero_add,cell_of_row _ q c0 j.toArray g (0,0) W]
  simpa using a5
 .intro l cap f b0 m c2 a6
  have D:a.grownBy f n.ownBlock:=⟨m.os.trans b.os,m.tape.trans b.tape,m.output.trans b.output,Yl b.size m.size,λt s a8=>(m.block t (Yv s b.size) a8).trans (b.block t s)⟩;exact T l cap f b0 ((Yn i a).grown D C λt s=>(F.lt t s).1) D a6
theorem kQ{i:V}{j k c f t u r s:Nat}{h b:Z}{l m:List Z}(n:i.ownsRow j c t h r l)(o:i.ownsRow k f u b s m)(p:c≠f):b.ownBlock=I∨b.ownBlock≠h.ownBlock:=by
 rcases o.2 with⟨rfl,_⟩|⟨z,v,x,rfl,_,a,_⟩
 .exact Yg rfl
 .right
  rcases n.2 with⟨rfl,_⟩|⟨y,cap,w,rfl,_,q,_⟩
  .simp [YT]
  .intro g
   simp only [YT,YQ] at g;rw [g,q] at a;simp only [YQ,Obj.cells.injEq] at a;exact p a.2.1
end Go.Proofs.YtajkpgaheechmaaGreatDoor
