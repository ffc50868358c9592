/- Own Frames -/
import Derived.Test.YtajkpgaheechmaaGreatDoorZAC
import Derived.Lib.SmallJoins
import Derived.Deep.Slices
import Derived.Deep.Fields
set_option maxRecDepth 100000
set_option maxHeartbeats 16000000
set_option linter.unusedSimpArgs false
set_option linter.unusedVariables false
set_option linter.unusedSectionVars false
namespace Go.Proofs.YtajkpgaheechmaaGreatDoor
open _root_.Go.Proofs.Tryz
open Go.Value renaming int->A,slice->U,pointer->Q,agg->Yc
open Go.IntKind renaming i64->G
open Option renaming none->I,some->K
open Go.Obj renaming cells->M
open Go.Ending renaming returned->e
open Go renaming World->V,Value->Z,Addr->Yi,maxLen->YO
open Go.RowKit renaming Below->X
open Or renaming inl->Yg,inr->Yh
open Go.World renaming block_lt_of_cell?->Yj
open Nat renaming le_trans->Yl
open Go.RowKit.Below renaming refl->Yn
open List renaming getD->YR
section
open Go.RowKit
theorem aG{b n:V}{c f l k:Nat}{m:Z}{g:List Z}(a:b.ownsRow c f l m k g)(q:X b b n):n.ownsRow c f l m k g:=by
 obtain⟨j,a|⟨h,cap,o,rfl,p,i,r⟩⟩:=a
 .exact⟨j,Yg a⟩
 .exact⟨j,Yh ⟨h,cap,o,rfl,p,by rw [q.block h (Array.getElem?_eq_some_iff.1 i).1];exact i,r⟩⟩
theorem aA{l:V}{b c f j i:Nat}{k:Z}{g:List Z}(a:l.ownsRow b f j k i g)(p:c<=b):l.ownsRow c f j k i g:=by
 obtain⟨h,a|⟨n,cap,m,rfl,o,q⟩⟩:=a
 .exact⟨h,Yg a⟩
 .exact⟨h,Yh ⟨n,cap,m,rfl,Yl p o,q⟩⟩
theorem au{f:V}{g h l n a cap:Nat}{c:List Z}(i:f.ownsRow g h l (U (K a) n cap) n c){j:Nat}{b:Z}(k:c[j]? =K b):f.cell? ⟨a,j,I⟩=K b:=by
 have:=i.cells (g:=a) rfl j b k
 rwa [Go.WideShapes.add_plain,Nat.zero_add] at this
theorem aV{c:V}{j k q b:Nat}{i:Z}{m:List Z}(g:c.ownsRow j k q i b m):(i=U I 0 0/\b=0)∨∃a cap,i=U (K ⟨a,0,I⟩) b cap/\j<=a/\a<c.heap.size/\b<=cap/\cap<=YO/\(∀l,c.frozen? ⟨a,l,I⟩=false)/\∃f,c.heap[a]? =K (M f k (0,0)):=by
 rcases g.2 with g|⟨a,cap,f,rfl,p,h,n,o,_⟩
 .exact Yg g
 .refine Yh ⟨a,cap,rfl,p,(Array.getElem?_eq_some_iff.1 h).1,n,o,λl=>?_,f,h⟩
  simp [World.frozen?,h]
section
variable {ops:Array Oper} {rest:List Oper} {o:Oper} {a:Act} {Q:Exit->Act->V->Prop}
theorem aX{W:V}(m b c bytes:Nat)(v:Z)(a8:prog.underlying m=K (.slice b))(R:(prog.info? b).map (λr=>(r.zero,r.size,r.bytes))=K (K v,c,bytes))(b0:v.cells.size=c)(a7:0<c)
  (P:o.guard=I)(t u:Operand)(a3:o.op= .call {callee:= .builtin .append,args:=#[t,u],argTypes:=#[m,m]})
  (g:Nat)(j:Z)(h:Nat)(p i:List Z)(a6:a.eval t=j)(y:W.ownsRow g b c j h p){w:Nat}(a9:a.eval u=U (K w) 1 1)(F:w=W.heap.size)
  (b7:i.length=c)(k:∀z∈i,z.oneCell'=true)(b8:h<=1000000)(L:bytes<=1000000)(D:g<=W.heap.size)
  (C:∀n f,f.ownsRow g b c n (h+1) (p++i)->X g W f->W.grownBy f j.ownBlock->(j.ownBlock=n.ownBlock∨n.ownBlock=K (W.heap.size+1))->wpList prog ops Q rest (a.put o.dst n) f):wpList prog ops Q (o::rest) a (W.alloc (M i.toArray b)):=by
 subst F;obtain⟨b4,T,b1,b2,b3⟩:=info_parts R;have a1:(h+1)*bytes<=140737488355328:=Yl (Nat.mul_le_mul (O:h+1<=1000001) L) H;refine wpList_append_lies _ P t u m a3 g b b4 v c bytes a8 T b1 b2 b3 b0 a7 j h p a6 (y.alloc _) W 1 1 i a9 O ?_ k O (by unfold YO;omega) a1 (by simp;omega) (W.heap.size+1) Y ?_
 .intro b5 z a0
  rw [Go.WideShapes.add_plain,Nat.zero_add,cell_of_row _ W b5 i.toArray b (0,0) (heap_alloc_new W _)]
  simpa using a0
 .intro b6 cap f a5 l J _
  have x:W.grownBy f j.ownBlock:=⟨l.os,l.tape,l.output,by have:=l.size;simp at this;omega,λs q a2=>(l.block s (by simp;omega) a2).trans (heap_alloc_old W _ q)⟩;refine C _ f a5 ((Yn g W).grown x D λs q=>(y.lt s q).1) x ?_
  rcases J with k|k
  .left;rw [k];rfl
  .right;rw [k];rfl
end
end
section
open Go.RowKit Go.ChangeShapes Go.WideShapes Go.Deep
def aO(h:V)(g:Z)(b a:Int)(f:List Int):Prop:=∃c,g=Yc #[A G b,A G a,c]/\bh b/\bh a/\aY h c f
theorem aO.ext{a h:V}{g:Z}{c b:Int}{f:List Int}(i:aO a g c b f)(m:X a a h):aO h g c b f:=by
 obtain⟨n,rfl,j,k,l⟩:=i;exact⟨n,rfl,j,k,l.ext m⟩
theorem zo{f:Type}{n:TypeId×Z->f}{a:V}{j:Z}{z:DataW f×List MemPlace}{o:Nat}
  (b:DataW.trod n prog a 0 (λ_=>true) true o 26 [j]=K z):∃y,aY a j y:=by
 rcases open_ints underlying26 underlying3 B b with⟨c,_⟩|⟨l,i,g,k,c,_,C,t,w,_,q,u⟩
 .obtain rfl:=(List.cons.inj c).1
  exact⟨[],aY.nil a⟩
 .obtain rfl:=(List.cons.inj c).1
  have D:k.length=g:=by simpa using w
  refine⟨k.take i,K l,g,by simp;omega,by simp;omega,t,λx v=>bounds_i64 (u x (List.mem_of_mem_take v)),λb=>(by cases b),λh r=>?_⟩
  have s:h<i:=by simp at r;omega
  obtain⟨m,off,rfl,p⟩:=ints_at q O;refine⟨m,off,rfl,?_⟩;rw [p h O];simp [YR,s]
theorem ef{a:Type}{g:TypeId×Z->a}{c:V}{v:Z}{y:DataW a×List MemPlace}{h:Nat}
  (i:DataW.trod g prog c 0 (λ_=>true) true h 3 [v]=K y):∃b,v=A G b/\bh b:=by
 obtain⟨k,f,_,j⟩:=DataW.trod_int underlying3 i;obtain rfl:=(List.cons.inj f).1;exact⟨k,rfl,bounds_i64 j⟩
section
variable {H:Type} {enc:TypeId×Z->H} {P:Program} {w:V} {base:Nat} {spare:Nat->Bool} {held:Bool}
theorem rr{t e:TypeId}{fs:Array Field}{fuel:Nat}{cs:List Value}{x:DataW H×List MemPlace}(ht:P.underlying t=some (.slice e))(he:P.underlying e=some (.struct fs))
  (hone:oneCellFields P fs=true)(hC:P.cellsOf e=fs.size)(h:DataW.trod enc P w base spare held fuel t cs=some x):
  (cs=[.slice none 0 0]/\x=(.nil,[]))∨
  ∃(a:Addr) (len cap m:Nat) (D:Nat->DataW H) (Pl:Nat->List MemPlace),cs=[.slice (some a) len cap]/\base<=a.block/\len<=cap/\cap<=maxLen/\m=(if spare a.block then cap else len)/\
   x=(.slice ((List.range len).map D) ((List.range (m - len)).map λj=>D (len+j)),MemPlace.row a (m*fs.size)++(List.range m).flatMap Pl)/\
   ∀i,i<m->∃(ys:List (DataW H×List MemPlace)) (n:Nat),D i= .agg (ys.map (·.1))/\Pl i=ys.flatMap (·.2)/\ys.length=fs.size/\
    ∀(j:Nat) (f:Field),fs[j]? =some f->∃(v:Value) (y:DataW H×List MemPlace),w.cell? (a.add (i*fs.size+j))=some v/\ys[j]? =some y/\DataW.trod enc P w base spare held n f.type [v]=some y:=by
 rcases open_slice ht h with h0|⟨a,len,cap,m,n,D,Pl,hcs,hb,hl,hm,hmm,hx,hi⟩
 .exact .inl h0
 .refine .inr ⟨a,len,cap,m,D,Pl,hcs,hb,hl,hm,hmm,by rw [hC] at hx;exact hx,λi him=>?_⟩
  obtain⟨cs',hc,ht'⟩:=hi i him;rw [hC] at hc;obtain⟨ys,n',hn',hy,hlen,hyl,hf⟩:=DataW.trod_struct he ht';obtain⟨_,hcl,hat⟩:=World.cells?_some hc;simp only [Prod.mk.injEq] at hy;refine⟨ys,n',hy.1,hy.2,hyl,λj f hj=>?_⟩;obtain⟨ho,hk⟩:=hone_of hone j f hj;have hjl:j<fs.size:=(Array.getElem?_eq_some_iff.1 hj).1;have hcell:=hat j hjl;have hv:cs'[j]? =some (cs'[j]'(by omega)):=List.getElem?_eq_getElem (by omega);have h1:=hf j f hj;rw [ho,hk] at h1
  have hone':(cs'.drop j).take 1=[cs'[j]'(by omega)]:=by
   rw [List.drop_eq_getElem_cons (by omega)];rfl
  rw [hone'] at h1;have hys:ys[j]? =some (ys[j]'(by omega)):=List.getElem?_eq_getElem (by omega);refine⟨_,_,?_,hys,h1.trans hys⟩;rw [<-Go.Deep.add_add,hcell,hv]
end
structure Fr where
 W:Int
 H:Int
 pix:List Int
def Fr.ae:Fr:=⟨0,0,[]⟩
def Frames(f:V)(i:Z)(b:List Fr):Prop:=
 ∃(g:Option Yi) (cap:Nat),i=U g b.length cap/\b.length<=cap/\cap<=YO/\(g=I->cap=0)/\
  ∀a,a<b.length->∃c off h,g=K ⟨c,off,I⟩/\f.cell? ⟨c,off+a*3,I⟩=K (A G (b.getD a Fr.ae).W)/\f.cell? ⟨c,off+a*3+1,I⟩=K (A G (b.getD a Fr.ae).H)/\
   f.cell? ⟨c,off+a*3+2,I⟩=K h/\bh (b.getD a Fr.ae).W/\bh (b.getD a Fr.ae).H/\aY f h (b.getD a Fr.ae).pix
theorem Frames.nil(b:V):Frames b (U I 0 0) []:=⟨I,0,rfl,Y,by simp [YO],λ_=>rfl,λc a=>by simp at a⟩
theorem Frames.ext{b k:V}{j:Z}{i:List Fr}(p:Frames b j i)(c:X b b k):Frames k j i:=by
 obtain⟨l,cap,rfl,q,r,s,t⟩:=p;refine⟨l,cap,rfl,q,r,s,λy u=>?_⟩;obtain⟨a,off,f,o,h,m,n,w,x,v⟩:=t y u;have g:a<b.heap.size:=Yj b _ h;exact⟨a,off,f,o,by rw [c.cell (p:=⟨a,_,I⟩) g];exact h,by rw [c.cell (p:=⟨a,_,I⟩) g];exact m,by rw [c.cell (p:=⟨a,_,I⟩) g];exact n,w,x,v.ext c⟩
end
end Go.Proofs.YtajkpgaheechmaaGreatDoor
