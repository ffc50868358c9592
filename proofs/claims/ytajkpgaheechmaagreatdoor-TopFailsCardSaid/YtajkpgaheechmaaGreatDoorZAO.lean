/- VbA SrcP SrcA SrcB SrcC SrcD SrcE SrcF SrcG SrcH -/
import Derived.Test.YtajkpgaheechmaaGreatDoorZAN
import Derived.Test.YtajkpgaheechmaaGreatDoorZAL
import Derived.Laws.ShiftsVarLaws
set_option maxRecDepth 100000
set_option maxHeartbeats 16000000
set_option linter.unusedSimpArgs false
set_option linter.unusedVariables false
set_option linter.unusedSectionVars false
namespace Go.Proofs.YtajkpgaheechmaaGreatDoor
open _root_.Go.Proofs.Tryz
open Go.Value renaming int->A,slice->U,pointer->Q,nilIface->Ya,string->Yb,agg->Yc,iface->Yd,tuple->Ye,ownBlock->YT
open Go.IntKind renaming i64->G,u8->Yf,wrap_i64->Yo,wrap->Zc
open Option renaming none->I,some->K
open Go.Obj renaming cells->M
open Go.Ending renaming returned->e
open Go renaming World->V,Value->Z,Calls->d,Addr->Yi,bodyPost_ret->YD,results->YU
open Go.RowKit renaming Below->X,intOf->Yz
open Or renaming inl->Yg,inr->Yh
open Go.World renaming block_lt_of_cell?->Yj,cell?_of_block->YS
open Nat renaming le_refl->Yk,le_trans->Yl,zero_le->Yr,lt_of_lt_of_le->Yv,add_assoc->YW
open Go.RowKit.Below renaming refl->Yn,heap_setCell->Yt
open List renaming getD_eq_getElem?_getD->Yp,length_append->Yq,replicate->YA,set_cons_zero->YJ,getElem?_eq_getElem->YM
open Go.Value.slice renaming injEq->Yy
open Option.some renaming inj->YG,injEq->YQ
section
open Go.RowKit Go.Extern.Stop Go.Stop Go.Extern
structure cF where
 fq:Int
 eC:Int
 reach:Int
 cut:Int
 gop:Int
 bX:Int
 room:Int
 fill:Int
def cF.cells(a:cF):Array Z:=#[A G a.fq,A G a.eC,A G a.reach,A G a.cut,A G a.gop,A G a.bX,A G a.room,A G a.fill]
def cF.val(a:cF):Z:=Yc a.cells
def gu(a b c:Int):Bool:=decide (b<=a)&&decide (a<=c)
def QL(a:cF):Bool:=gu a.fq 0 a.eC&&decide (a.eC<=15)
def QN(a:cF):Bool:=gu a.reach 0 7&&gu a.cut 0 16320&&gu a.gop 1 16
def QM(a:cF):Bool:=gu a.bX 8 a.room&&decide (a.room<=16384)&&gu a.fill 8 a.room
def iB(a:cF):Bool:=QL a&&QN a&&QM a
theorem kF(a b c:Int)(i:V):
  d prog 140 #[A G a,A G b,A G c] i λf j=>f=e (.bool (gu a b c))/\i=j:=by
 have f:gu a b c=(decide (b<=a)&&decide (a<=c)):=rfl;rw [f];clear f;by_cases g:b<=a
 .by_cases h:a<=c
  .go_enter func140,ntmps140
   go_wp2;go_returns;exact⟨by simp [g,h],rfl⟩
  .go_enter func140,ntmps140
   go_wp2;go_returns;exact⟨by simp [g,h]<;>omega,rfl⟩
 .go_enter func140,ntmps140
  go_wp2;go_returns;exact⟨by simp [g]<;>omega,rfl⟩
theorem PT(c:cF)(f:V):
  d prog 97 #[c.val] f λa b=>a=e (.bool (iB c))/\X f f b:=by
 have h:=E (λf=>kF c.fq 0 c.eC f);have i:=E (λf=>kF c.reach 0 7 f);have j:=E (λf=>kF c.cut 0 16320 f);have k:=E (λf=>kF c.gop 1 16 f);have l:=E (λf=>kF c.bX 8 c.room f);have m:=E (λf=>kF c.fill 8 c.room f);have a:iB c=((gu c.fq 0 c.eC&&decide (c.eC<=15))&&(gu c.reach 0 7&&gu c.cut 0 16320&&gu c.gop 1 16)&&(gu c.bX 8 c.room&&decide (c.room<=16384)&&gu c.fill 8 c.room)):=rfl;rw [a];clear a;obtain⟨y,q,C,cut,u,z,g,t⟩:=c;simp only at h i j k l m⊢;generalize gu y 0 q=r at*;generalize gu C 0 7=n at*;generalize gu cut 0 16320=s at*;generalize gu u 1 16=w at*;generalize gu z 8 g=p at*;generalize gu t 8 g=x at*;have R:=E (ai.new f #[A G y,A G q,A G C,A G cut,A G u,A G z,A G g,A G t] 23)
 have P:r=false∨(r=true/\¬q<=15)∨(r=true/\q<=15):=by cases r<;>simp;omega
 have v:n=false∨(n=true/\s=false)∨(n=true/\s=true/\w=false)∨(n=true/\s=true/\w=true):=by cases n<;>cases s<;>cases w<;>simp
 have F:p=false∨(p=true/\¬g<=16384)∨(p=true/\g<=16384/\x=false)∨(p=true/\g<=16384/\x=true):=by cases p<;>cases x<;>simp<;>omega
 have J:=E F;clear F
 show d prog 97 #[Yc #[A G y,A G q,A G C,A G cut,A G u,A G z,A G g,A G t]] f _
 rcases P with rfl|⟨rfl,L⟩|⟨rfl,L⟩
 .rcases v with rfl|⟨rfl,rfl⟩|⟨rfl,rfl,rfl⟩|⟨rfl,rfl,rfl⟩
  all_goals
   go_enter func97,ntmps97
   go_wp2_with (go_at_call 140;first|(with_reducible refine(h.o _).mono ?_;rintro a b ⟨rfl,rfl⟩)|(with_reducible refine(i.o _).mono ?_;rintro a b ⟨rfl,rfl⟩)|(with_reducible refine(j.o _).mono ?_;rintro a b ⟨rfl,rfl⟩)|(with_reducible refine(k.o _).mono ?_;rintro a b ⟨rfl,rfl⟩)|(with_reducible refine(l.o _).mono ?_;rintro a b ⟨rfl,rfl⟩)|(with_reducible refine(m.o _).mono ?_;rintro a b ⟨rfl,rfl⟩))
   go_returns;exact⟨Y,N⟩
 .rcases v with rfl|⟨rfl,rfl⟩|⟨rfl,rfl,rfl⟩|⟨rfl,rfl,rfl⟩
  all_goals
   go_enter func97,ntmps97
   go_wp2_with (go_at_call 140;first|(with_reducible refine(h.o _).mono ?_;rintro a b ⟨rfl,rfl⟩)|(with_reducible refine(i.o _).mono ?_;rintro a b ⟨rfl,rfl⟩)|(with_reducible refine(j.o _).mono ?_;rintro a b ⟨rfl,rfl⟩)|(with_reducible refine(k.o _).mono ?_;rintro a b ⟨rfl,rfl⟩)|(with_reducible refine(l.o _).mono ?_;rintro a b ⟨rfl,rfl⟩)|(with_reducible refine(m.o _).mono ?_;rintro a b ⟨rfl,rfl⟩))
   go_returns;exact⟨by simp<;>intros<;>omega,N⟩
 .rcases v with rfl|⟨rfl,rfl⟩|⟨rfl,rfl,rfl⟩|⟨rfl,rfl,rfl⟩
  iterate 3
   .go_enter func97,ntmps97
    go_wp2_with (go_at_call 140;first|(with_reducible refine(h.o _).mono ?_;rintro a b ⟨rfl,rfl⟩)|(with_reducible refine(i.o _).mono ?_;rintro a b ⟨rfl,rfl⟩)|(with_reducible refine(j.o _).mono ?_;rintro a b ⟨rfl,rfl⟩)|(with_reducible refine(k.o _).mono ?_;rintro a b ⟨rfl,rfl⟩)|(with_reducible refine(l.o _).mono ?_;rintro a b ⟨rfl,rfl⟩)|(with_reducible refine(m.o _).mono ?_;rintro a b ⟨rfl,rfl⟩))
    go_returns;exact⟨Y,N⟩
  rcases J.o with rfl|⟨rfl,D⟩|⟨rfl,D,rfl⟩|⟨rfl,D,rfl⟩
  all_goals
   go_enter func97,ntmps97
   go_wp2_with (go_at_call 140;first|(with_reducible refine(h.o _).mono ?_;rintro a b ⟨rfl,rfl⟩)|(with_reducible refine(i.o _).mono ?_;rintro a b ⟨rfl,rfl⟩)|(with_reducible refine(j.o _).mono ?_;rintro a b ⟨rfl,rfl⟩)|(with_reducible refine(k.o _).mono ?_;rintro a b ⟨rfl,rfl⟩)|(with_reducible refine(l.o _).mono ?_;rintro a b ⟨rfl,rfl⟩)|(with_reducible refine(m.o _).mono ?_;rintro a b ⟨rfl,rfl⟩))
   go_returns;exact⟨by simp<;>intros<;>omega,N⟩
theorem fV(c:cF)(w:V):
  d prog 63 #[c.val] w λe w'=>e= .returned (bj (if iB c then 0 else 11))/\X w.heap.size w w':=by
 have C1:=E (λw=>PT c w);generalize iB c=m at C1⊢;have hv:c.val=Yc #[A G c.fq,A G c.eC,A G c.reach,A G c.cut,A G c.gop,A G c.bX,A G c.room,A G c.fill]:=rfl;rw [hv] at C1⊢;clear hv;cases m
 all_goals
  go_enter func63,ntmps63
  go_wp2_with (go_at_call 97;with_reducible refine(C1.o _).mono ?_;rintro e w1 ⟨rfl,hb1⟩)
  go_returns;exact⟨rfl,ext N hb1⟩
end
section
def gP(b:Bs)(a:Nat):Nat:=(b.getD (a / 8) 0).toNat / 2^(7 - a%8)%2
def bI(a:Bs)(c:Nat):Nat->Nat
 |0=>0
 |b+1=>2*bI a c b+gP a (c+b)
theorem mc(a:Bs)(b:Nat):gP a b<2:=Nat.mod_lt _ H
theorem Es(a:Bs)(b:Nat)(c:8*a.length<=b):gP a b=0:=by
 unfold gP;rw [Yp,List.getElem?_eq_none O];simp
theorem ji(b:Bs)(c:Nat):∀a,bI b c a<2^a
 |0=>by simp [bI]
 |a+1=>by
  have f:=ji b c a;have g:=mc b (c+a);unfold bI;rw [Nat.pow_succ];omega
theorem k_(b:Bs)(c a:Nat)(f:a<=32):bI b c a<4294967296:=
 Yv (ji b c a) (by have:=Nat.pow_le_pow_right (O:0<2) f;omega)
def gk(a:Bs)(b:Nat):Nat->Nat
 |0=>0
 |c+1=>if gP a b=1 then gk a (b+1) c+1 else 0
def im(b:Bs)(h c i:Nat):Except Int (Nat×Nat):=
 let q:=gk b h 24
 if q<24/\8*b.length<=h+q then .error 1 else
 let g:=if q<24 then h+q+1 else h+q;let f:=if q<24 then c else 31
 if 8*b.length<g+f then .error 1 else
 let a:=bI b g f
 if q<24 then (if i<a+q*2^c then .error 3 else .ok (a+q*2^c,g+f))
 else if a / 2^c<24∨i<a then .error 3 else .ok (a,g+f)
def dX(c:Nat)(b:List Int)(a:Nat):Int:=
 if a=0 then 128 else if a / c=0 then b.getD (a - 1) 0 else if a%c=0 then b.getD (a - c) 0 else eF (b.getD (a - 1) 0+b.getD (a - c) 0 - b.getD (a - c - 1) 0)
def eR(a:Nat):Int:=if a%2=1 then (a:Int) / 2+1 else -((a:Int) / 2)
def fA(h:Bs)(c i j:Nat):Nat->Except Int (List Int×Nat)
 |0=> .ok ([],j)
 |a+1=>match fA h c i j a with
  |.error f=> .error f
  |.ok (b,k)=>match im h k i 510 with
   |.error f=> .error f
   |.ok (g,l)=>if dX c b a+eR g<0∨255<dX c b a+eR g then .error 3 else .ok (b++[dX c b a+eR g],l)
def j_(a:Bs)(c f b:Nat):Except Int (List Int×Nat):=
 if 8*a.length<b+3 then .error 1 else fA a c (bI a b 3) (b+3) (c*f)
def ia(f:Bs)(c b g:Nat):Nat->Except Int (List Fr×Nat)
 |0=> .ok ([],g)
 |h+1=>match ia f c b g h with
  |.error a=> .error a
  |.ok (i,j)=>match j_ f c b j with
   |.error a=> .error a
   |.ok (l,k)=> .ok (i++[⟨c,b,l⟩],k)
def rV(b:Bs)(a:Nat):Int:=if bI b a ((8 - a%8)%8)≠0 then 2 else if (a+7) / 8<b.length then 5 else 0
def dU(a:Nat):Bool:=decide (1<=a)&&decide (a<=4)
def av(a:Bs)(b:Nat):Nat:=(a.getD b 0).toNat
def jq(a:Bs):Except Int (List Fr):=
 if a.length<5 then .error 1 else if av a 0≠75∨av a 1≠83 then .error 2 else if dU (av a 2)=false∨dU (av a 3)=false∨av a 4<1∨16<av a 4 then .error 3
 else match ia (a.drop 5) (8*av a 2) (8*av a 3) 0 (av a 4) with
  |.error c=> .error c
  |.ok (f,b)=>if rV (a.drop 5) b≠0 then .error (rV (a.drop 5) b) else .ok f
end
section
open Go.RowKit Go.Extern.Stop Go.Stop Go.Extern
def yO(h:Nat)(g:V)(f:Nat)(b:Bs)(i:Nat):Prop:=
 ∃a cap,ai g f #[U a b.length cap,A G i] h/\ah g (U a b.length cap) b/\∀c,a=K c->c.block<f
theorem yO.ext{b:Nat}{a i:V}{h g:Nat}{c:Bs}(k:yO b a h c g)(f:X a a i):yO b i h c g:=by
 obtain⟨j,cap,l,m,n⟩:=k;exact⟨j,cap,l.ext f,m.ext f,n⟩
theorem yO.lt{c:Nat}{b:V}{a i:Nat}{f:Bs}(g:yO c b a f i):a<b.heap.size:=by
 obtain⟨j,cap,h,k,l⟩:=g;exact h.lt
theorem ah.mh{b:V}{c:Option Yi}{h cap:Nat}{g:Bs}(j:ah b (U c h cap) g){i:Nat}(r:∀f,c=K f->f.block≠i)(o:Nat)(u:Z):ah (b.setCell ⟨i,o,I⟩ u) (U c h cap) g:=by
 obtain⟨v,w,a,k,l,m,n⟩:=j;simp only [Yy] at a;obtain⟨rfl,rfl,rfl⟩:=a;refine⟨_,_,rfl,k,l,m,λs q=>?_⟩;obtain⟨t,off,a,p⟩:=n s q;refine⟨t,off,a,?_⟩;rw [YS (w:=b) (Yt _ _ _ _ (r _ a))];exact p
theorem yO.set{b:Nat}{h:V}{a o g:Nat}{c:Bs}(l:yO b h a c o):yO b (h.setCell ⟨a,1,I⟩ (A G g)) a c g:=by
 obtain⟨j,cap,m,n,f⟩:=l;exact⟨j,cap,m.set 1 _,n.mh (λi k=>Nat.ne_of_lt (f i k)) 1 _,f⟩
theorem yO.iL{h:Nat}{f:V}{c k:Nat}{i:Bs}{a:Yi}{u:Z}(q:yO h f c i k)(t:c<a.block):yO h (f.setCell a u) c i k:=by
 obtain⟨l,cap,r,s,j⟩:=q;refine⟨l,cap,r.ab a u (Nat.ne_of_lt t),?_,j⟩;obtain⟨y,z,b,m,n,o,p⟩:=s;simp only [Yy] at b;obtain⟨rfl, -,rfl⟩:=b;refine⟨_,_,rfl,m,n,o,λx w=>?_⟩;obtain⟨g,off,b,v⟩:=p x w;have C:g<c:=j _ b;exact⟨g,off,b,(YS (w:=f) (Yt _ _ _ _ (O:g≠a.block))).trans v⟩
theorem yO.up{c:Nat}{h:V}{b g R:Nat}{f:Bs}(i:yO c h b f g)(a:b<R)(j k l:Z):yO c (((h.setCell R j).setCell ⟨R,1,I⟩ k).setCell ⟨R,2,I⟩ l) b f g:=((i.iL a).iL a).iL a
abbrev Rd:=yO 146
abbrev l_:=yO 186
theorem dT{f g:V}{b o:Nat}{j:Z}(a:af (·=b) f g):af (·=b) f (g.setCell ⟨b,o,I⟩ j):=
 ⟨a.os,a.tape,a.output,by simpa using a.size,λi h c=>(Yt _ _ _ _ c).trans (a.block i h c)⟩
theorem dq{b c:V}{F:Nat->Prop}(a:af F b c)(f:Nat):af F b (c.drewN f):=⟨a.os,a.tape,a.output,a.size,a.block⟩
theorem aE{b a c:V}{F:Nat->Prop}(f:af F b a)(g:X a a c):af F b c:=f.trans (af.aj g)
theorem pF(u:Z)(c:Bs)(a:V)(g:ah a u c)(i:c.length<=140737488355328):
  d prog 46 #[u] a λb v=>∃k,b=e (Q (K ⟨k,0,I⟩))/\Rd v k c 0/\a.heap.size<=k/\X a a v:=by
 obtain⟨C,cap,rfl⟩:=g.shape;obtain⟨h,j⟩:∃h,c.length=h:=⟨_,rfl⟩;rw [j] at i g⊢;have z:=E g;have f:=E j;have w:=E i;have x:=E (nh a);clear g j i;go_enter func46,ntmps46
 go_wp2_with (at_builtin;refine D_ rfl (.tmp 3) (.tmp 4) rfl a.heap.size (U (K a) 0 0) (U C h cap) [] c rfl x.o rfl (z.o.ext N) (by simp;have:=f.o;have:=w.o;omega) Y ?_;intro n p l s r F;have y:=E (show l.ownsRow a 5 1 (U n h p) c.length (ak c) from by have:=s;simp only [List.nil_append,List.length_nil,Nat.zero_add,f.o] at this⊢;exact this);have m:=E (show X a a l from((Yn _ _).alloc (Yk _) (M #[] 5)).grown r Y (λW J=>by simp [YT] at J;omega));clear s r F)
 go_returns;have q:=y.o;have t:=m.o.size;refine⟨l.heap.size,?_,⟨n,p,?_,?_,?_⟩,t,m.o.alloc t _⟩
 .rfl
 .rw [f.o];exact ai.new _ _ _
 .rw [f.o]
  have L:=aq q;exact L.ext N
 .intro P b
  subst b;have:=aq q
  rcases aV q with⟨b, -⟩|⟨D,R,b, -,T, -⟩
  .cases b
  .simp only [Yy,YQ] at b
   obtain⟨rfl, -⟩:=b
   show D<_
   omega
theorem sH(h:Nat)(c:Bs)(a:Nat)(f:V)(k:Rd f h c a)(n:a<=8*c.length)(m:c.length<=140737488355328):
  d prog 49 #[Q (K h)] f λj p=>j=e (A G ((8*c.length - a:Nat):Int))/\X f f p:=by
 obtain⟨i,cap,g, -, -⟩:=k;have u:=g.lt;have q:f.cell? h=K (U i c.length cap):=g.cell 0;have r:f.cell? ⟨h,1,I⟩=K (A G a):=g.cell 1;generalize c.length=b at*;clear g
 have s:Zc G (8*(b:Int))=8*(b:Int):=by rw [Yo];omega
 have t:Zc G (8*(b:Int) - (a:Int))=8*(b:Int) - (a:Int):=by rw [Yo];omega
 have l:=E (O:((8*b - a:Nat):Int)=8*(b:Int) - (a:Int));clear n m;go_enter func49,ntmps49;go_wp2;go_quiet (fail);go_wp2;go_returns;exact⟨by rw [l.o];rfl,ag (Yn _ _) _⟩
theorem Lo(f:Nat)(g:Bs)(c:Nat)(a:V)(i:Rd a f g c):
  d prog 171 #[Q (K f)] a λh j=>h=e (A G c)/\a=j:=by
 obtain⟨k,cap,b, -, -⟩:=i;have m:=b.lt;have l:a.cell? ⟨f,1,I⟩=K (A G c):=b.cell 1;clear b;go_enter func171,ntmps171;go_wp2;go_returns;exact⟨rfl,rfl⟩
theorem rY(g:Nat)(a:Bs)(b c:Nat)(f:V)(i:Rd f g a b)(q:b<=8*a.length)(n:a.length<=140737488355328)(x:c<=32)(y:8*a.length<b+c):
  d prog 80 #[Q (K g),A G c] f λh r=>∃err,h=e (Ye #[A G 0,err])/\cx r 1 err 1/\X f f r:=by
 have R:decide ((c:Int)<0)=false:=Y
 have T:decide (32<(c:Int))=false:=by simp;omega
 have z:8*a.length - b<c:=O;have l:=E (sH g a b f i q n);have v:=E i;generalize (8*a.length - b:Nat)=P at z l;clear i q n x y;go_enter func80,ntmps80
 go_wp2_with (first
  |(go_at_call 45;with_reducible refine(jm _ _ _ _ _).mono ?_;rintro h W ⟨w,rfl,m,L,p⟩;have u:=E m;have t:=E (ext s.o p);clear m p)
  |(go_at_call 49;go_loud (with_reducible refine l.o.mono ?_;rintro h C ⟨rfl,k⟩);obtain⟨D,cap,j, -, -⟩:=v.o.ext k;have J:=j.lt;have F:C.cell? ⟨g,1,I⟩=K (A G b):=j.cell 1;have s:=E k;clear k j))
 go_returns;exact⟨_,rfl,Or.inr ⟨w,_,rfl,⟨_,_,u.o⟩,rfl⟩,t.o⟩
theorem fE(a b f:Nat)(h:a<256)(g:f=a / 2^b%2):bits .and Yf ((a:Int) / ((2^b:Nat):Int)) 1=(f:Int):=by
 have c:=u8_and_nat (a / 2^b) 1 (Nat.lt_of_le_of_lt (Nat.div_le_self _ _) h) O;rw [Nat.and_one_is_mod,<-g,Int.natCast_ediv] at c;exact c
theorem xD(a:Nat):a%8=0∨a%8=1∨a%8=2∨a%8=3∨a%8=4∨a%8=5∨a%8=6∨a%8=7:=O
theorem zk(c:Nat)(g:Bs)(r s:Nat)(T:V)(W:Rd T c g r)(a0:g.length<=140737488355328)(a7:s<=32)(b0:r+s<=8*g.length):
  d prog 80 #[Q (K c),A G s] T λt b2=>t=e (Ye #[A G (bI g r s:Int),Ya])/\Rd b2 c g (r+s)/\af (·=c) T b2:=by
 have g7:decide ((s:Int)<0)=false:=Y
 have g8:decide (32<(s:Int))=false:=by simp;omega
 have c6:¬8*g.length - r<s:=O;have a5:=E (sH c g r T W O a0);have b6:=E W;have b8:=E b0;have b5:=E a7;have b3:=E a0;generalize (8*g.length - r:Nat)=g6 at c6 a5;clear W a0 b0 a7;go_enter func80,ntmps80
 go_wp2_with (go_at_call 49;with_reducible refine a5.o.mono ?_;rintro t c7 ⟨rfl,a1⟩;have b4:=E a1;have b7:=E (b6.o.ext a1);clear a1)
 go_loopw [6,27] (λw a3 wr=>∃h:Nat,h<=s/\a3=A G h/\w=A G (bI g r h:Int)/\Rd wr c g (r+h)/\af (·=c) c7 wr) (λ_ a3 _=>s - (Yz a3).toNat)
 case atStart=>exact⟨0,Yr _,rfl,rfl,b7.o,af.refl _ _⟩
 case round=>
  obtain⟨h,g2,rfl,rfl,a9,a8⟩:=hrel;have x:=E a8;have y:=E a9;clear a8;by_cases g3:h<s
  .obtain⟨b9,cap,P,a6,c4⟩:=a9
   obtain⟨f,v⟩:∃f,r+h=f:=⟨_,rfl⟩;rw [v] at P
   have g5:f<8*g.length:=by have:=b8.o;omega
   obtain⟨L,off,rfl,a2⟩:∃L off,b9=K ⟨L,off,I⟩/\wr.cell? ⟨L,off+f / 8,I⟩=K (A Yf ((g.getD (f / 8) 0).toNat:Int)):=by
    obtain⟨c9,e1,t,e5,e6,e7,c0⟩:=a6;simp only [Yy] at t;obtain⟨rfl, -,rfl⟩:=t;obtain⟨L,off,t,c1⟩:=c0 (f / 8) O;exact⟨L,off,t,c1⟩
   have u:gP g f=(g.getD (f / 8) 0).toNat / 2^(7 - f%8)%2:=rfl
   have R:bI g r (h+1)=2*bI g r h+gP g f:=by rw [<-v];rfl
   have c5:=k_ g r h (by have:=b5.o;omega);have z:=(g.getD (f / 8) 0).toNat_lt;generalize (g.getD (f / 8) 0).toNat=i at a2 u z;have b1:=mc g f;generalize gP g f=b at u R b1;generalize bI g r h=w at c5 R⊢;have C:=E R;have l:=P.lt;have e0:wr.cell? c=K (U (K ⟨L,off,I⟩) g.length cap):=P.cell 0;have j:wr.cell? ⟨c,1,I⟩=K (A G f):=P.cell 1;have k:wr.frozen? ⟨c,1,I⟩=false:=P.free 1;have g1:=Yj wr _ a2;obtain⟨J,c2⟩:∃J,f / 8=J:=⟨_,rfl⟩;rw [c2] at a2;have e9:(f:Int) / 8=(J:Int):=O;have g0:J<g.length:=O;have e8:=b3.o;generalize g.length=c8 at*;have g4:w*2<4611686018427387904:=O
   have e2:Zc G ((w:Int)*2)=(w:Int)*2:=by rw [Yo];omega
   have e3:Zc G (J:Int)=(J:Int):=by rw [Yo];omega
   have D:bits .or G ((w:Int)*2) (b:Int)=((2*w+b:Nat):Int):=by
    have:=ir 1 (w*2) b O O O O;rw [(O:2*w+b=w*2+b),<-this];rfl
   have e4:Zc G ((f:Int)+1)=((f+1:Nat):Int):=by rw [Yo];omega
   clear R b1 a6 c4
   rcases xD f with m|m|m|m|m|m|m|m
   all_goals
    have c3:(f:Int)%8=((f%8:Nat):Int):=O;rw [m] at c3
   .have q:=E (show bits .and Yf ((i:Int) / 128) 1=(b:Int) from fE i 7 b z (by rw [u,m]))
    go_wp2_with fail
    go_quiet (fail);rename Nat=>a;have p:=E (y.o.ext (ag (Yn _ _) a));have n:=E (dq x.o a);have j:(wr.drewN a).cell? ⟨c,1,I⟩=K (A G f):=j;have k:(wr.drewN a).frozen? ⟨c,1,I⟩=false:=k;have l:c<(wr.drewN a).heap.size:=l;generalize wr.drewN a=F at*;go_wp2;go_roundw
    case rel=>exact⟨h+1,O,S,by rw [C.o,q.o,show wrap64 (b:Int)=(b:Int) from by unfold wrap64;omega,D],by rw [<-YW,v];exact p.o.set,dT n.o⟩
    case measure=>simp [Yz];omega
   .have q:=E (show bits .and Yf ((i:Int) / 64) 1=(b:Int) from fE i 6 b z (by rw [u,m]))
    go_wp2_with fail
    go_quiet (fail);rename Nat=>a;have p:=E (y.o.ext (ag (Yn _ _) a));have n:=E (dq x.o a);have j:(wr.drewN a).cell? ⟨c,1,I⟩=K (A G f):=j;have k:(wr.drewN a).frozen? ⟨c,1,I⟩=false:=k;have l:c<(wr.drewN a).heap.size:=l;generalize wr.drewN a=F at*;go_wp2;go_roundw
    case rel=>exact⟨h+1,O,S,by rw [C.o,q.o,show wrap64 (b:Int)=(b:Int) from by unfold wrap64;omega,D],by rw [<-YW,v];exact p.o.set,dT n.o⟩
    case measure=>simp [Yz];omega
   .have q:=E (show bits .and Yf ((i:Int) / 32) 1=(b:Int) from fE i 5 b z (by rw [u,m]))
    go_wp2_with fail
    go_quiet (fail);rename Nat=>a;have p:=E (y.o.ext (ag (Yn _ _) a));have n:=E (dq x.o a);have j:(wr.drewN a).cell? ⟨c,1,I⟩=K (A G f):=j;have k:(wr.drewN a).frozen? ⟨c,1,I⟩=false:=k;have l:c<(wr.drewN a).heap.size:=l;generalize wr.drewN a=F at*;go_wp2;go_roundw
    case rel=>exact⟨h+1,O,S,by rw [C.o,q.o,show wrap64 (b:Int)=(b:Int) from by unfold wrap64;omega,D],by rw [<-YW,v];exact p.o.set,dT n.o⟩
    case measure=>simp [Yz];omega
   .have q:=E (show bits .and Yf ((i:Int) / 16) 1=(b:Int) from fE i 4 b z (by rw [u,m]))
    go_wp2_with fail
    go_quiet (fail);rename Nat=>a;have p:=E (y.o.ext (ag (Yn _ _) a));have n:=E (dq x.o a);have j:(wr.drewN a).cell? ⟨c,1,I⟩=K (A G f):=j;have k:(wr.drewN a).frozen? ⟨c,1,I⟩=false:=k;have l:c<(wr.drewN a).heap.size:=l;generalize wr.drewN a=F at*;go_wp2;go_roundw
    case rel=>exact⟨h+1,O,S,by rw [C.o,q.o,show wrap64 (b:Int)=(b:Int) from by unfold wrap64;omega,D],by rw [<-YW,v];exact p.o.set,dT n.o⟩
    case measure=>simp [Yz];omega
   .have q:=E (show bits .and Yf ((i:Int) / 8) 1=(b:Int) from fE i 3 b z (by rw [u,m]))
    go_wp2_with fail
    go_quiet (fail);rename Nat=>a;have p:=E (y.o.ext (ag (Yn _ _) a));have n:=E (dq x.o a);have j:(wr.drewN a).cell? ⟨c,1,I⟩=K (A G f):=j;have k:(wr.drewN a).frozen? ⟨c,1,I⟩=false:=k;have l:c<(wr.drewN a).heap.size:=l;generalize wr.drewN a=F at*;go_wp2;go_roundw
    case rel=>exact⟨h+1,O,S,by rw [C.o,q.o,show wrap64 (b:Int)=(b:Int) from by unfold wrap64;omega,D],by rw [<-YW,v];exact p.o.set,dT n.o⟩
    case measure=>simp [Yz];omega
   .have q:=E (show bits .and Yf ((i:Int) / 4) 1=(b:Int) from fE i 2 b z (by rw [u,m]))
    go_wp2_with fail
    go_quiet (fail);rename Nat=>a;have p:=E (y.o.ext (ag (Yn _ _) a));have n:=E (dq x.o a);have j:(wr.drewN a).cell? ⟨c,1,I⟩=K (A G f):=j;have k:(wr.drewN a).frozen? ⟨c,1,I⟩=false:=k;have l:c<(wr.drewN a).heap.size:=l;generalize wr.drewN a=F at*;go_wp2;go_roundw
    case rel=>exact⟨h+1,O,S,by rw [C.o,q.o,show wrap64 (b:Int)=(b:Int) from by unfold wrap64;omega,D],by rw [<-YW,v];exact p.o.set,dT n.o⟩
    case measure=>simp [Yz];omega
   .have q:=E (show bits .and Yf ((i:Int) / 2) 1=(b:Int) from fE i 1 b z (by rw [u,m]))
    go_wp2_with fail
    go_quiet (fail);rename Nat=>a;have p:=E (y.o.ext (ag (Yn _ _) a));have n:=E (dq x.o a);have j:(wr.drewN a).cell? ⟨c,1,I⟩=K (A G f):=j;have k:(wr.drewN a).frozen? ⟨c,1,I⟩=false:=k;have l:c<(wr.drewN a).heap.size:=l;generalize wr.drewN a=F at*;go_wp2;go_roundw
    case rel=>exact⟨h+1,O,S,by rw [C.o,q.o,show wrap64 (b:Int)=(b:Int) from by unfold wrap64;omega,D],by rw [<-YW,v];exact p.o.set,dT n.o⟩
    case measure=>simp [Yz];omega
   .have q:=E (show bits .and Yf ((i:Int)) 1=(b:Int) from by
     have t:=fE i 0 b z (by rw [u,m]);rw [(O:((i:Int) / ((2^0:Nat):Int))=(i:Int))] at t
     exact t)
    go_wp2_with fail
    go_quiet (fail);rename Nat=>a;have p:=E (y.o.ext (ag (Yn _ _) a));have n:=E (dq x.o a);have j:(wr.drewN a).cell? ⟨c,1,I⟩=K (A G f):=j;have k:(wr.drewN a).frozen? ⟨c,1,I⟩=false:=k;have l:c<(wr.drewN a).heap.size:=l;generalize wr.drewN a=F at*;go_wp2;go_roundw
    case rel=>exact⟨h+1,O,S,by rw [C.o,q.o,show wrap64 (b:Int)=(b:Int) from by unfold wrap64;omega,D],by rw [<-YW,v];exact p.o.set,dT n.o⟩
    case measure=>simp [Yz];omega
  .obtain rfl:h=s:=O
   go_wp2;go_returns;exact⟨rfl,y.o,(af.aj b4.o).trans x.o⟩
theorem pN(a:Bs)(b:Nat):bI a b 1=gP a b:=by unfold bI;unfold bI;simp
theorem Qs(c:Nat)(a:Bs)(b:Nat)(f:V)(p:Rd f c a b)(q:a.length<=140737488355328)(s:b<8*a.length):
  d prog 123 #[Q (K c)] f λi l=>i=e (Ye #[.bool (decide (gP a b=1)),Ya])/\Rd l c a (b+1)/\af (·=c) f l:=by
 have h:=E (show d prog 80 #[Q (K c),A G 1] f _ from zk c a b 1 f p q O O);rw [pN] at h;have g:=mc a b;have r:gP a b=0∨gP a b=1:=O;clear g
 rcases r with g|g
 all_goals
  rw [g] at h⊢;go_enter func123,ntmps123
  go_wp2_with (go_at_call 80;with_reducible refine h.o.mono ?_;rintro i t ⟨rfl,k,j⟩;have n:=E k;have m:=E j;clear k j)
  go_returns;exact⟨rfl,n.o,m.o⟩
theorem EW(f:Nat)(b:Bs)(c:Nat)(a:V)(n:Rd a f b c)(p:b.length<=140737488355328)(q:c<=8*b.length)(r:8*b.length<=c):
  d prog 123 #[Q (K f)] a λg j=>∃err,g=e (Ye #[.bool false,err])/\cx j 1 err 1/\X a a j:=by
 have k:=E (show d prog 80 #[Q (K f),A G 1] a _ from rY f b c 1 a n q p O O);go_enter func123,ntmps123
 go_wp2_with (go_at_call 80;with_reducible refine k.o.mono ?_;rintro g s ⟨err,rfl,i,h⟩;have m:=E i;have l:=E h;clear i h)
 go_returns;exact⟨_,rfl,m.o,l.o⟩
theorem GF(c:Nat)(f:Bs)(i:Nat)(a:V)(p:Rd a c f i):
  d prog 124 #[Q (K c)] a λb j=>∃err,b=e err/\cx j 1 err 3/\X a a j:=by
 have k:=E (Lo c f i a p);go_enter func124,ntmps124
 go_wp2_with (first
  |(go_at_call 45;with_reducible refine(jm _ _ _ _ _).mono ?_;rintro b s ⟨n,rfl,g,q,h⟩;have m:=E g;have l:=E h;clear g h)
  |(go_at_call 171;with_reducible refine k.o.mono ?_;rintro b r ⟨rfl,rfl⟩))
 go_returns;exact⟨_,rfl,Or.inr ⟨n,_,rfl,⟨_,_,m.o⟩,rfl⟩,l.o⟩
theorem H_(a:Nat)(c:V)(j:a<=1073741824):
  d prog 83 #[A G a] c λf i=>f=e (A G (eR a))/\c=i:=by
 have k:decide ((a:Int)<0)=false:=Y
 have l:decide (4611686018427387904<(a:Int))=false:=by simp;omega
 unfold eR;have h:a%2=1∨a%2=0:=O
 rcases h with b|b
 .have g:(a:Int)%2=1:=O
  rw [if_pos b];go_enter func83,ntmps83;go_wp2;go_returns;exact⟨S,rfl⟩
 .have g:(a:Int)%2=0:=O
  rw [if_neg O];go_enter func83,ntmps83;go_wp2;go_returns;exact⟨S,rfl⟩
def Tw(c:Nat)(g:Bs)(j:Except Int (Nat×Nat))(k:V)(i:Ending)(a:V):Prop:=
 (∃h err,j= .error h/\i=e (Ye #[A G 0,err])/\cx a 1 err h/\af (·=c) k a)∨
 ∃f b,j= .ok (f,b)/\i=e (Ye #[A G f,Ya])/\Rd a c g b/\b<=8*g.length/\f<=510/\af (·=c) k a
theorem yj{b:Bs}{c a:Nat}(f:gP b c=0):gk b c a=0:=by
 cases a with
 |zero=>rfl
 |succ a=>unfold gk;rw [f];rfl
theorem OD{a:Bs}{b c:Nat}(f:gP a b=1):gk a b (c+1)=1+gk a (b+1) c:=by rw [gk,if_pos f];omega
theorem Dn{a:Bs}{c k b:Nat}(f:gk a c 24=b)(g:b<24)(h:8*a.length<=c+b):im a c k 510= .error 1:=by
 unfold im;simp only [f];rw [if_pos ⟨g,h⟩]
theorem Dp{a:Bs}{c k b:Nat}(g:gk a c 24=b)(f:b<24)(i:¬8*a.length<=c+b)(h:8*a.length<c+b+1+k):im a c k 510= .error 1:=by
 unfold im;simp only [g];rw [if_neg O,if_pos f,if_pos f,if_pos h]
theorem Dq{a:Bs}{b k:Nat}(c:gk a b 24=24)(f:8*a.length<b+24+31):im a b k 510= .error 1:=by
 unfold im;simp only [c,show¬(24<24) from H,false_and,if_false];rw [if_pos f]
theorem Pb{c:Bs}{b k a:Nat}(g:gk c b 24=a)(f:a<24)(i:¬8*c.length<=b+a)(h:¬8*c.length<b+a+1+k):im c b k 510=if 510<bI c (b+a+1) k+a*2^k then .error 3 else .ok (bI c (b+a+1) k+a*2^k,b+a+1+k):=by
 unfold im;simp only [g];rw [if_neg O,if_pos f,if_pos f,if_neg h,if_pos f]
theorem Pa{b:Bs}{a k:Nat}(c:gk b a 24=24)(f:¬8*b.length<a+24+31):im b a k 510=if bI b (a+24) 31 / 2^k<24∨510<bI b (a+24) 31 then .error 3 else .ok (bI b (a+24) 31,a+24+31):=by
 unfold im;simp only [c,show¬(24<24) from H,false_and,if_false];rw [if_neg f]
theorem O'(h:Nat)(c:Bs)(f a:Nat)(a7:V)(c1:Rd a7 h c f)(c2:c.length<=140737488355328)(c8:f<=8*c.length)(c4:a<=7):
  d prog 81 #[Q (K h),A G a,A G 510] a7 λn g7=>Tw h c (im c f a 510) a7 n g7:=by
 have b9:=E (λ(i b:Nat) (j:V) (r:Rd j h c i)=>rY h c i b j r);have b8:=E (λ(i b:Nat) (j:V) (r:Rd j h c i)=>zk h c i b j r);have e4:=E (λ(i:Nat) (j:V) (r:Rd j h c i)=>EW h c i j r);have e3:=E (λ(i:Nat) (j:V) (r:Rd j h c i)=>Qs h c i j r);have a8:=E (λ(i:Nat) (j:V) (r:Rd j h c i)=>GF h c i j r);have h3:decide ((a:Int)<0)=false:=Y
 have h4:decide (15<(a:Int))=false:=by simp;omega
 have e7:=E c1;have x:=E c2;have e6:=E c8;have a0:=E c4;clear c1 c2 c8 c4;go_enter func81,ntmps81;go_wp2
 go_loopw [8] (λq wr=>∃b:Nat,b<=24/\q=A G b/\gk c f 24=b+gk c (f+b) (24 - b)/\Rd wr h c (f+b)/\f+b<=8*c.length/\af (·=h) a7 wr) (λq _=>24 - (Yz q).toNat)
 case atStart=>exact⟨0,Yr _,rfl,Y,e7.o,e6.o,af.refl _ _⟩
 case round=>
  obtain⟨b,h2,rfl,c9,e1,g6,c7⟩:=hrel;have a3:=E e1;have a1:=E c7;have a2:=E c9;clear e1 c7 c9;by_cases b6:b<24
  .by_cases R:8*c.length<=f+b
   .have g:=E (Dn (k:=a) (by rw [a2.o,yj (Es c _ R)];rfl) b6 R)
    go_wp2_with fail
    refine(e4.o (f+b) _ a3.o x.o g6 R).mono ?_;rintro n g8 ⟨err,rfl,b5,c3⟩;obtain⟨T,W,rfl⟩:=b5.shape;have k:=E b5;have e5:=E c3;clear b5 c3;go_wp2;go_returns;exact Yg ⟨1,_,g.o,rfl,k.o,aE a1.o e5.o⟩
   .go_wp2_with fail
    refine(e3.o (f+b) _ a3.o x.o O).mono ?_;rintro n g8 ⟨rfl,e0,c5⟩;have b1:=E e0;have b0:=E (a1.o.trans c5);clear e0 c5;have s:=mc c (f+b);have g4:gP c (f+b)=0∨gP c (f+b)=1:=O;clear s
    rcases g4 with s|s
    .have v:=E (show gk c f 24=b from by rw [a2.o,yj s];rfl)
     simp only [s];clear s;by_cases J:8*c.length<f+b+1+a
     .have g:=E (Dp (k:=a) v.o b6 R J)
      go_wp2_with fail
      refine(b9.o (f+b+1) a _ b1.o O x.o (by have:=a0.o;omega) O).mono ?_;rintro n b7 ⟨err,rfl,w,F⟩;obtain⟨T,W,rfl⟩:=w.shape;have k:=E w;have a9:=E F;clear w F;go_wp2;go_returns;exact Yg ⟨1,_,g.o,rfl,k.o,aE b0.o a9.o⟩
     .have g:=E (Pb (k:=a) v.o b6 R J)
      go_wp2_with fail
      refine(b8.o (f+b+1) a _ b1.o x.o (by have:=a0.o;omega) O).mono ?_;rintro n b7 ⟨rfl,P,L⟩;have z:=E P;have y:=E (b0.o.trans L);clear P L;have C:=ji c (f+b+1) a;generalize bI c (f+b+1) a=m at C g⊢;have c6:=a0.o;have a6:2^a<=2^7:=Nat.pow_le_pow_right O c6;have b3:b*2^a<=24*2^7:=Nat.mul_le_mul O a6
      have g1:wrap64 ((b:Int)*2^a)=((b*2^a:Nat):Int):=by
       have e9:((b:Int)*2^a)=((b*2^a:Nat):Int):=by rw [Int.natCast_mul,Int.natCast_pow];rfl
       rw [e9];generalize b*2^a=b2 at b3;unfold wrap64;omega
      have g5:min a 64=a:=O;generalize b*2^a=b2 at b3 g1 g;obtain⟨t,b4⟩:∃t,m+b2=t:=⟨_,rfl⟩;rw [b4] at g
      have g9:wrap64 ((m:Int)+(b2:Int))=(t:Int):=by
       rw [<-b4];generalize 2^a=e8 at a6 C;unfold wrap64;omega
      have h1:t<=10000:=by generalize 2^a=e8 at a6 C;omega
      clear C c6 a6 b3 b4;by_cases a5:510<t
      .have p:=E (show im c f a 510= .error 3 from by rw [g.o,if_pos a5])
       go_wp2_with fail
       refine(a8.o _ _ z.o).mono ?_;rintro n e2 ⟨err,rfl,l,u⟩;obtain⟨T,W,rfl⟩:=l.shape;have k:=E l;have D:=E u;clear l u;go_wp2;go_returns;exact Yg ⟨3,_,p.o,rfl,k.o,aE y.o D.o⟩
      .have p:=E (show im c f a 510= .ok (t,f+b+1+a) from by rw [g.o,if_neg a5])
       have g3:¬1073741824<t:=O;go_wp2;go_returns;exact Yh ⟨t,f+b+1+a,p.o,rfl,z.o,O,O,y.o⟩
    .have v:=E (show gk c f 24=(b+1)+gk c (f+(b+1)) (24 - (b+1)) from by
      rw [a2.o,show 24 - b=24 - (b+1)+1 from O,OD s,<-YW f b 1];omega)
     simp only [s];clear s;go_wp2;go_roundw
     case rel=>exact⟨b+1,O,S,v.o,b1.o,O,b0.o⟩
     case measure=>simp [Yz];omega
  .obtain rfl:b=24:=O
   have v:=E (show gk c f 24=24 from by rw [a2.o];rfl);by_cases J:8*c.length<f+24+31
   .have g:=E (Dq (k:=a) v.o J)
    go_wp2_with fail
    refine(b9.o (f+24) 31 _ a3.o O x.o O O).mono ?_;rintro n b7 ⟨err,rfl,w,F⟩;obtain⟨T,W,rfl⟩:=w.shape;have k:=E w;have a9:=E F;clear w F;go_wp2;go_returns;exact Yg ⟨1,_,g.o,rfl,k.o,aE a1.o a9.o⟩
   .have g:=E (Pa (k:=a) v.o J)
    go_wp2_with fail
    refine(b8.o (f+24) 31 _ a3.o x.o O O).mono ?_;rintro n b7 ⟨rfl,P,L⟩;have z:=E P;have y:=E (a1.o.trans L);clear P L;have C:=k_ c (f+24) 31 O;generalize bI c (f+24) 31=m at C g⊢
    have g5:min a 64=a:=by have:=a0.o;omega
    have g0:(m:Int) / 2^a=((m / 2^a:Nat):Int):=by rw [Int.natCast_ediv,Int.natCast_pow];rfl
    generalize m / 2^a=c0 at g0 g;by_cases g2:c0<24
    .have p:=E (show im c f a 510= .error 3 from by rw [g.o,if_pos (Yg g2)])
     go_wp2_with fail
     refine(a8.o _ _ z.o).mono ?_;rintro n e2 ⟨err,rfl,l,u⟩;obtain⟨T,W,rfl⟩:=l.shape;have k:=E l;have D:=E u;clear l u;go_wp2;go_returns;exact Yg ⟨3,_,p.o,rfl,k.o,aE y.o D.o⟩
    .have h0:24<=c0:=O
     by_cases a5:510<m
     .have p:=E (show im c f a 510= .error 3 from by rw [g.o,if_pos (Yh a5)])
      go_wp2_with fail
      refine(a8.o _ _ z.o).mono ?_;rintro n e2 ⟨err,rfl,l,u⟩;obtain⟨T,W,rfl⟩:=l.shape;have k:=E l;have D:=E u;clear l u;go_wp2;go_returns;exact Yg ⟨3,_,p.o,rfl,k.o,aE y.o D.o⟩
     .have p:=E (show im c f a 510= .ok (m,f+24+31) from by rw [g.o,if_neg O])
      have g3:¬1073741824<m:=O;go_wp2;go_returns;exact Yh ⟨m,f+24+31,p.o,rfl,z.o,O,O,y.o⟩
def Sc(c:V)(a:Z)(b:Nat):Prop:=(b=0/\a=Ya)∨(b≠0/\cx c 1 a 2)
theorem cx.aD{g j:V}{f r:Nat}{k:Bs}(q:Rd g f k r)(o:af (·=f) g j){i:Z}{h:Int}(b:cx g 1 i h):cx j 1 i h:=by
 rcases b with b|⟨a,s,l,c,m⟩
 .exact Yg b
 .refine Yh ⟨a,s,l,?_,m⟩
  have p:a≠f:=by
   rintro rfl;obtain⟨t,cap,n, -, -⟩:=q;have:=n.cell 2;rw [c.cell] at this;cases this
  exact c.stays (o.block a c.lt p)
theorem Jm(h:Nat)(a:Bs)(c:Nat)(x:V)(a6:Rd x h a c)(P:a.length<=140737488355328)(e9:c<=8*a.length):
  d prog 48 #[Q (K h)] x λu a1=>∃err,u=e err/\Sc a1 err (bI a c ((8 - c%8)%8))/\Rd a1 h a (c+(8 - c%8)%8)/\af (·=h) x a1:=by
 have a3:=E (λ(a0:Nat) (a2:V) (j:Rd a2 h a a0) (e2:a0+1<=8*a.length)=>show d prog 80 #[Q (K h),A G 1] a2 _ from zk h a a0 1 a2 j P O e2);obtain⟨k,b2⟩:∃k,(8 - c%8)%8=k:=⟨_,rfl⟩;have e7:(c+k)%8=0:=O;have e8:c+k<=8*a.length:=O
 have b3:∀b,b<k->(c+b)%8≠0:=by intro b c7;omega
 rw [b2];have c2:=E a6;have c1:=E b3;have b7:=E P;clear a6 b3 b2 P;go_enter func48,ntmps48;go_wp2
 go_loopw [3] (λc4 wr=>∃b:Nat,b<=k/\Sc wr c4 (bI a c b)/\Rd wr h a (c+b)/\af (·=h) x wr) (λ_ wr=>k+c - (Yz ((wr.cell? ⟨h,1,I⟩).getD Ya)).toNat)
 case atStart=>exact⟨0,Yr _,Yg ⟨rfl,rfl⟩,c2.o,af.refl _ _⟩
 case round=>
  obtain⟨b,c7,b0,v,b1⟩:=hrel;have c3:=E v;have z:=E b1;have b9:=E b0;obtain⟨f,j⟩:∃f,c+b=f:=⟨_,rfl⟩;have b6:=v;rw [j] at b6;obtain⟨e4,cap,L,c6,c9⟩:=b6;have e5:=L.lt;have t:wr.cell? ⟨h,1,I⟩=K (A G f):=L.cell 1
  have g1:f<=1125899906842624:=by have:=b7.o;omega
  by_cases c8:b<k
  .have a7:=c1.o b c8
   rw [j] at a7;obtain⟨w,e0⟩:∃w,f%8=w:=⟨_,rfl⟩;have e1:(f:Int)%8=(w:Int):=O;have g0:0<w:=O;clear L c6 c9 a7 e0;have b4:f+1<=8*a.length:=O;have W:=v;rw [j] at W;have D:=E W;have g:=mc a f;have a9:gP a f=0∨gP a f=1:=O;have C:=E (show bI a c (b+1)=2*bI a c b+gP a f from by rw [<-j];rfl);clear g W v b1;have b5:=E b4;clear b4
   rcases b0 with⟨s,rfl⟩|⟨s,T⟩
   .go_wp2_with fail
    refine(a3.o f _ D.o b5.o).mono ?_;rintro u y ⟨rfl,r,q⟩;rw [pN];have i:=E r;have l:=E (z.o.trans q);clear r q
    rcases a9 with g|g
    .rw [g]
     have p:=E (show bI a c (b+1)=0 from by rw [C.o,g,s]);clear g s;go_wp2;go_roundw
     case rel=>exact⟨b+1,O,Yg ⟨p.o,rfl⟩,by rw [<-YW,j];exact i.o,l.o⟩
     case measure=>
      obtain⟨F,J,n, -, -⟩:=i.o;have m:y.cell? ⟨h,1,I⟩=K (A G ((f+1:Nat):Int)):=n.cell 1;rw [t,m];simp [Yz];omega
    .rw [g]
     have p:=E (show bI a c (b+1)≠0 from by rw [C.o,g];omega);clear g s
     go_wp2_with fail
     refine(jm _ _ _ _ _).mono ?_;rintro u e3 ⟨c5,rfl,a8,e6,R⟩;have c0:=E a8;have i:=E (i.o.ext R);have l:=E (aE l.o R);clear a8 R;go_wp2;go_roundw
     case rel=>exact⟨b+1,O,Yh ⟨p.o,Yh ⟨c5,_,rfl,⟨_,_,c0.o⟩,rfl⟩⟩,by rw [<-YW,j];exact i.o,l.o⟩
     case measure=>
      obtain⟨F,J,n, -, -⟩:=i.o;have m:e3.cell? ⟨h,1,I⟩=K (A G ((f+1:Nat):Int)):=n.cell 1;rw [t,m];simp [Yz];omega
   .obtain⟨g2,g3,rfl⟩:=T.shape
    have b8:=E T;clear T
    go_wp2_with fail
    refine(a3.o f _ D.o b5.o).mono ?_;rintro u y ⟨rfl,r,q⟩;rw [pN];have a5:=E (b8.o.aD D.o q);have i:=E r;have l:=E (z.o.trans q);clear r q;have p:=E (show bI a c (b+1)≠0 from by rw [C.o];omega);clear s
    rcases a9 with g|g
    .rw [g]
     clear g;go_wp2;go_roundw
     case rel=>exact⟨b+1,O,Yh ⟨p.o,a5.o⟩,by rw [<-YW,j];exact i.o,l.o⟩
     case measure=>
      obtain⟨F,J,n, -, -⟩:=i.o;have m:y.cell? ⟨h,1,I⟩=K (A G ((f+1:Nat):Int)):=n.cell 1;rw [t,m];simp [Yz];omega
    .rw [g]
     clear g;go_wp2;go_roundw
     case rel=>exact⟨b+1,O,Yh ⟨p.o,a5.o⟩,by rw [<-YW,j];exact i.o,l.o⟩
     case measure=>
      obtain⟨F,J,n, -, -⟩:=i.o;have m:y.cell? ⟨h,1,I⟩=K (A G ((f+1:Nat):Int)):=n.cell 1;rw [t,m];simp [Yz];omega
  .obtain rfl:b=k:=O
   have e1:(f:Int)%8=0:=O;go_wp2;go_returns;exact⟨_,rfl,b9.o,c3.o,z.o⟩
theorem Ks(a0:Option Yi)(len cap:Nat)(f:List Int)(b j g a:Nat)(z:V)(c8:aY z (U a0 len cap) f)(b8:j<b)(g5:8<=b)(g4:b<=32)(s:g*b+j=a)(h1:a<f.length)(h2:f.length<=1024)(b6:∀T,T<a->0<=f.getD T 0/\f.getD T 0<=255):
  d prog 82 #[U a0 len cap,A G b,A G j,A G g] z λw e3=>w=e (A G (dX b f a))/\∃e1,e3=z.drewN e1:=by
 obtain⟨e6,e7,w,g6,g7, -, -,b0⟩:=c8;simp only [Yy] at w;obtain⟨rfl,rfl,rfl⟩:=w;have h5:g*b<=1024:=O
 have J:(g:Int)*(b:Int)=((g*b:Nat):Int):=by rw [Int.natCast_mul]
 have a5:Zc G ((g:Int)*(b:Int))=(g:Int)*(b:Int):=by rw [J,Yo];omega
 have L:Zc G ((g:Int)*(b:Int)+(j:Int))=(a:Int):=by rw [J,Yo];omega
 clear J
 have b3:a / b=g:=by rw [<-s,Nat.mul_comm,Nat.mul_add_div O,Nat.div_eq_of_lt b8];omega
 have b5:a%b=j:=by rw [<-s,Nat.mul_comm,Nat.mul_add_mod,Nat.mod_eq_of_lt b8]
 have c0:=E (λ(e2:Int) (e4:V)=>pd e2 e4);have D:=E b0;have F:=E b6
 have c:dX b f a=if a=0 then 128 else if g=0 then f.getD (a - 1) 0 else if j=0 then f.getD (a - b) 0 else eF (f.getD (a - 1) 0+f.getD (a - b) 0 - f.getD (a - b - 1) 0):=by unfold dX;rw [b3,b5]
 generalize dX b f a=e5 at c;have u:=E c;generalize c6:f.length=W at*;clear c b0 b6 c6 b3 b5;by_cases k:a=0
 .have c:=u.o
  rw [if_pos k] at c;have m:=E c;subst k;clear c s;go_enter func82,ntmps82;go_wp2;go_returns;exact⟨by rw [m.o];rfl,0,rfl⟩
 .obtain⟨g1,off,rfl,v⟩:=D.o (a - 1) O
  have g8:=Yj z _ v;obtain⟨i,P⟩:∃i,a=i+1:=⟨a - 1,O⟩;have R:(a:Int) - 1=(i:Int):=O
  have a8:Zc G ((a:Int) - 1)=(i:Int):=by rw [Yo];omega
  have b7:¬(a:Int)=0:=O
  have c7:((a:Int)==0)=false:=by simpa using b7
  have c3:i<W:=O;rw [(O:a - 1=i)] at v;obtain⟨p,n⟩:∃p,f.getD i 0=p:=⟨_,rfl⟩;rw [n] at v;by_cases t:g=0
  .have c:=u.o
   rw [if_neg k,if_pos t,show a - 1=i from O,n] at c;have m:=E c;subst t;obtain rfl:j=i+1:=O;clear c s k n P R a5 L a8 b7 c7;go_enter func82,ntmps82;go_wp2;go_returns;exact⟨by rw [m.o];rfl,0,rfl⟩
  .have e0:¬(g:Int)=0:=O
   have h4:((g:Int)==0)=false:=by simpa using e0
   have b9:b<=g*b:=Nat.le_mul_of_pos_left b O;have b2:b<=a:=O;obtain⟨h,b4⟩:∃h,a=h+b:=⟨a - b,O⟩
   have e9:Zc G ((a:Int) - (b:Int))=(h:Int):=by rw [Yo];omega
   have g9:h<W:=O;obtain⟨g2,h6,a6,c1⟩:=D.o h O;simp only [YQ,Addr.mk.injEq,and_true] at a6;obtain⟨rfl,rfl⟩:=a6;obtain⟨q,r⟩:∃q,f.getD h 0=q:=⟨_,rfl⟩;rw [r] at c1;by_cases y:j=0
   .have c:=u.o
    rw [if_neg k,if_neg t,if_pos y,show a - b=h from O,r] at c;have m:=E c;subst y
    have e8:Zc G ((g:Int)*(b:Int))=(a:Int):=by have b1:=L;rw [show((0:Nat):Int)=0 from rfl,Int.add_zero] at b1;exact b1
    clear c s k n P R t b9 b2 b4 r a8 c3 v a5 L;go_enter func82,ntmps82;go_wp2;go_returns;exact⟨by rw [m.o];rfl,0,rfl⟩
   .have c9:¬(j:Int)=0:=O
    have h3:((j:Int)==0)=false:=by simpa using c9
    have c4:b+1<=a:=O;obtain⟨l,c5⟩:∃l,h=l+1:=⟨h - 1,O⟩
    have g0:Zc G ((h:Int) - 1)=(l:Int):=by rw [Yo];omega
    have h0:l<W:=O;obtain⟨g3,h7,a7,c2⟩:=D.o l O;simp only [YQ,Addr.mk.injEq,and_true] at a7;obtain⟨rfl,rfl⟩:=a7;obtain⟨C,x⟩:∃C,f.getD l 0=C:=⟨_,rfl⟩;rw [x] at c2;have c:=u.o;rw [if_neg k,if_neg t,if_neg y,show a - b=h from O,show h - 1=l from O,show a - 1=i from O,n,r,x] at c;have m:=E c;have a1:=F.o i O;have a2:=F.o h O;have a3:=F.o l O;rw [n] at a1;rw [r] at a2;rw [x] at a3
    have h8:Zc G (p+q)=p+q:=by rw [Yo];omega
    have h9:Zc G (p+q - C)=p+q - C:=by rw [Yo];omega
    clear c s k n P R t b9 b2 b4 r c5 x y c4 a1 a2 a3;go_enter func82,ntmps82
    go_wp2_with fail
    go_quiet ((go_at_call 84;exact(c0.o _ _).mono λ_ _ a9=>⟨a9.1,_,a9.2.symm⟩));go_wp2;go_returns;exact⟨by rw [m.o];rfl,_,rfl⟩
theorem drewN_drewN(c:V)(a b:Nat):(c.drewN a).drewN b=c.drewN (a+b):=by simp [World.drewN,YW]
theorem kH{F:Nat->Prop}{c f:V}{a:Yi}{u:Z}(b:af F c f)(k:c.heap.size<=a.block):af F c (f.setCell a u):=
 ⟨b.os,b.tape,b.output,by simpa using b.size,λi g h=>(Yt _ _ _ _ (λj=>O)).trans (b.block i g h)⟩
theorem aa.dS{g h:V}{b:Nat}{F:Nat->Prop}{f:Z}{i:List Int}(c:aa g b f i)(l:af F g h)(j:∀a,F a->a<b):aa h b f i:=by
 refine⟨?_,c.2⟩
 refine an c.1 λa m=>?_
 have:=c.1.lt a m
 exact l.block a this.2 λk=>by have:=j a k;omega
theorem ai.dS{g h:V}{a:Nat}{F:Nat->Prop}{c:Array Z}{b:Nat}(f:ai g a c b)(j:af F g h)(i:¬F a):ai h a c b:=(j.block a f.lt i).trans f
theorem No(a:List Int)(f:Int)(b:Nat)(h:a.length<b):(a++YA (b - a.length) 0).set a.length f=(a++[f])++YA (b - (a.length+1)) 0:=by
 obtain⟨c,g⟩:∃c,b - a.length=c+1:=⟨b - a.length - 1,O⟩;rw [g,show b - (a.length+1)=c from O,List.set_append_right _ _ (Yk _),Nat.sub_self,List.replicate_succ,YJ,List.append_assoc];rfl
theorem qP(b:List Int)(f a:Nat)(c:a<b.length):(b++YA f 0).getD a 0=b.getD a 0:=by
 rw [Yp,List.getElem?_append_left c,<-Yp]
theorem Fk(b:Nat)(a:List Int)(c:Nat)(j:1<=b):dX b (a++YA c 0) a.length=dX b a a.length:=by
 unfold dX;by_cases f:a.length=0
 .rw [if_pos f,if_pos f]
 .rw [if_neg f,if_neg f]
  have g:(a++YA c 0).getD (a.length - 1) 0=a.getD (a.length - 1) 0:=qP a c _ O;have h:(a++YA c 0).getD (a.length - b) 0=a.getD (a.length - b) 0:=qP a c _ O;have i:(a++YA c 0).getD (a.length - b - 1) 0=a.getD (a.length - b - 1) 0:=qP a c _ O;rw [g,h,i]
theorem Hg{f:Bs}{c i j b a:Nat}{g:Int}(h:fA f c i j b= .error g)(m:b<=a):fA f c i j a= .error g:=by
 induction a with
 |zero=>
  obtain rfl:b=0:=O;exact h
 |succ a l=>
  by_cases k:b=a+1
  .subst k;exact h
  .rw [fA,l O]
theorem Bj(c:Nat)(a:List Int)(f:Nat)(h:ax a 0 255=true):0<=dX c a f/\dX c a f<=255:=by
 have g:∀b,0<=a.getD b 0/\a.getD b 0<=255:=λb=>aQ h O O b
 unfold dX;split
 .omega
 .split
  .exact g _
  .split
   .exact g _
   .exact qK _
def Se(f:Nat)(k:Bs)(i h:Nat)(n:Except Int (List Int×Nat))(g:V)(m:Ending)(b:V):Prop:=
 (∃l err,n= .error l/\m=e (Ye #[Yc #[A G 0,A G 0,U I 0 0],err])/\cx b 1 err l/\af (·=f) g b)∨
 ∃a c j cap,n= .ok (a,c)/\m=e (Ye #[Yc #[A G i,A G h,U j a.length cap],Ya])/\aa b g (U j a.length cap) a/\a.length=i*h/\ax a 0 255=true/\Rd b f k c/\c<=8*k.length/\af (·=f) g b
theorem ai.rD{h:V}{a:Nat}{j k l:Z}{g:Nat}(i:ai h a #[j,k,l] g)(b c f:Z):ai (((h.setCell a b).setCell ⟨a,1,I⟩ c).setCell ⟨a,2,I⟩ f) a #[b,c,f] g:=((i.set 0 b).set 1 c).set 2 f
theorem ai.tS{b:V}{a:Nat}{f g h:Z}{i:Nat}(c:ai b a #[f,g,h] i):(b.cell? a=K f/\b.cell? ⟨a,1,I⟩=K g/\b.cell? ⟨a,2,I⟩=K h)/\(b.frozen? a=false/\b.frozen? ⟨a,1,I⟩=false/\b.frozen? ⟨a,2,I⟩=false):=⟨⟨c.cell 0,c.cell 1,c.cell 2⟩,c.free 0,c.free 1,c.free 2⟩
theorem cx.Nk{g:V}{n:Z}{m:Int}{R:Nat}{p:Z}(c:cx g 1 n m)(l:g.cell? ⟨R,2,I⟩=K p)(r:∀b a,p≠Yd b a)(a o s:Z):cx (((g.setCell R a).setCell ⟨R,1,I⟩ o).setCell ⟨R,2,I⟩ s) 1 n m:=by
 rcases c with c|⟨i,h,q,j,k⟩
 .exact Yg c
 .refine Yh ⟨i,h,q,?_,k⟩
  have f:i≠R:=by
   rintro rfl;rw [j.cell] at l;obtain⟨b,o,rfl⟩:∃b a,h=Yd b a:=⟨_,_,k⟩;exact r _ _ (YG l).symm
  exact j.stays ((Yt _ _ _ _ f).trans ((Yt _ _ _ _ f).trans (Yt _ _ _ _ f)))
theorem fY{F:Nat->Prop}{b c:V}{R:Nat}(f:af F b c)(a:b.heap.size<=R)(h i g:Z):af F b (((c.setCell R h).setCell ⟨R,1,I⟩ i).setCell ⟨R,2,I⟩ g):=kH (kH (kH f a) a) a
theorem xU(n:Nat)(i:Bs)(j b k:Nat)(f:V)(t:Rd f n i j)(j9:i.length<=140737488355328)(k9:j<=8*i.length)(n4:8<=b)(j8:b<=32)(p5:8<=k)(n1:k<=32):
  d prog 47 #[Q (K n),A G b,A G k] f λs o7=>Se n i b k (j_ i b k j) f s o7:=by
 obtain⟨g,c6⟩:∃g,b*k=g:=⟨_,rfl⟩
 have n2:g<=1024:=by rw [<-c6];exact Nat.mul_le_mul j8 n1
 have j5:(b:Int)*(k:Int)=(g:Int):=by rw [<-c6,Int.natCast_mul]
 have p2:Zc G ((b:Int)*(k:Int))=(g:Int):=by rw [j5,Yo];omega
 clear j5;have o2:=t.lt;have m6:=E t;have e7:=E j9;have m4:=E k9;have i5:=E c6;have m1:=E (ai.new f #[A G 0,A G 0,U I 0 0] 81);clear t j9 k9 c6;go_enter func47,ntmps47
 go_wp2_with (at_make;refine fS rfl _ _ rfl g rfl rfl rfl rfl O ?_;intro h8 l0 k0 k8;have g3:=E l0;have b8:=E k0;clear l0 k0)
 have l7:(f.alloc (M #[A G 0,A G 0,U I 0 0] 81)).heap.size=f.heap.size+1:=Y;rw [l7] at g3 b8 k8;obtain⟨b2,h0⟩:∃b2,h8.heap.size=b2:=⟨_,rfl⟩;rw [h0] at k8⊢;obtain⟨r,z⟩:∃r,h8.alloc (M #[A G b,A G k,U (K ⟨f.heap.size+1,0,I⟩) g g] 81)=r:=⟨_,rfl⟩;have i1:=E (show X f f h8 from((Yn _ _).alloc (Yk _) _).trans (b8.o.mono O));have i2:=E (show X f f r from by rw [<-z];exact i1.o.alloc i1.o.size _);have h9:=E (show ai r f #[A G 0,A G 0,U I 0 0] 81 from by rw [<-z];exact(m1.o.below b8.o O).alloc _);have m0:=E (show ai r b2 #[A G b,A G k,U (K ⟨f.heap.size+1,0,I⟩) g g] 81 from by rw [<-z,<-h0];exact ai.new _ _ _);have b1:=E (show aa r (f.heap.size+1) (U (K ⟨f.heap.size+1,0,I⟩) g g) (YA g 0) from by rw [<-z];exact g3.o.alloc _);have j0:=E (m6.o.ext i2.o);have i4:=E (show af (·=n) f r from af.aj i2.o);have o9:=E z;rw [z];clear z h0 l7 g3 b8;by_cases h4:8*i.length<j+3
 .have W:=E (show j_ i b k j= .error 1 from by unfold j_;rw [if_pos h4])
  refine(rY n i j 3 r j0.o m4.o e7.o O h4).mono ?_;rintro s o8 ⟨err,rfl,g8,g6⟩;obtain⟨o5,p,rfl⟩:=g8.shape;have e9:=E g8;have g0:=E (aE i4.o g6);have R:=E (h9.o.ext g6);obtain⟨⟨e0,e1,e2⟩,c2,c3,c4⟩:=R.o.tS;have h3:=R.o.lt;clear g8 g6;go_wp2;obtain⟨⟨D,F,J⟩, -⟩:=(R.o.rD (A G 0) (A G 0) (U I 0 0)).tS;refine YD (by simp [YU,results47,go_sem,D,F,J];try rfl) rfl ?_;exact Yg ⟨1,_,W.o,rfl,(e9.o).Nk (R.o.cell 2) Y _ _ _,fY (g0.o) (Yk _) _ _ _⟩
 .refine(zk n i j 3 r j0.o e7.o O O).mono ?_
  rintro s o8 ⟨rfl,l3,b5⟩;have k5:=ji i j 3;have W:=E (show j_ i b k j=fA i b (bI i j 3) (j+3) g from by unfold j_;rw [if_neg h4,i5.o]);generalize bI i j 3=C at k5 W⊢;have o0:C<=7:=O;have m7:=E l3;have g0:=E (i4.o.trans b5)
  have q1:∀q,f.heap.size<=q->¬q=n:=by intro q l2;omega
  have R:=E (h9.o.dS b5 O);have e3:=E (m0.o.dS b5 O);have m5:=E (b1.o.dS b5 (by intro q l2;omega));obtain⟨⟨a0,a1,a2⟩, -⟩:=e3.o.tS;have c7:=e3.o.lt;clear l3 b5 k5;go_wp2;clear a0 a1 a2
  go_loopw [34] (λa7 wr=>∃(c:Nat) (h:List Int) (x:Nat),c<=g/\a7=A G c/\fA i b C (j+3) c= .ok (h,x)/\h.length=c/\ax h 0 255=true/\Rd wr n i x/\x<=8*i.length/\aa wr (f.heap.size+1) (U (K ⟨f.heap.size+1,0,I⟩) g g) (h++YA (g - c) 0)/\af (·=n) f wr/\ai wr f #[A G 0,A G 0,U I 0 0] 81/\ai wr b2 #[A G b,A G k,U (K ⟨f.heap.size+1,0,I⟩) g g] 81) (λa7 _=>g - (Yz a7).toNat)
  case atStart=>exact⟨0,[],j+3,Yr _,rfl,rfl,rfl,rfl,m7.o,O,m5.o,g0.o,R.o,e3.o⟩
  case round=>
   obtain⟨c,h,x,q0,rfl,l6,k7,l8,l5,c8,l1,k6,b4,b3⟩:=hrel;have g4:=E l6;have c0:=E l8;have i9:=E l5;have b1:=E l1;have g2:=E k6;have e8:=E b4;have m3:=E b3;have v:=E k7;clear l6 l8 l5 l1 k6 k7;by_cases h1:c<g
   .have b6:∀s,fA i b C (j+3) (c+1)= .error s->fA i b C (j+3) g= .error s:=λs n6=>Hg n6 O
    go_wp2_with fail
    refine(O' n i x C _ i9.o e7.o c8 o0).mono ?_;rintro s c9 (⟨j3,err,b7,rfl,g9,u⟩|⟨L,h6,b7,rfl,l4,o1,q2,u⟩)
    .obtain⟨o5,p,rfl⟩:=g9.shape
     have b0:=E (show j_ i b k j= .error j3 from by
      rw [W.o];refine b6 j3 ?_;rw [fA,g4.o];simp only;rw [b7])
     have e9:=E g9;have g1:=E (g2.o.trans u);have T:=E (e8.o.dS u O);obtain⟨⟨e0,e1,e2⟩,c2,c3,c4⟩:=T.o.tS;have h3:=T.o.lt;clear g9 u b7 b6;go_wp2;obtain⟨⟨D,F,J⟩, -⟩:=(T.o.rD (A G 0) (A G 0) (U I 0 0)).tS;refine YD (by simp [YU,results47,go_sem,D,F,J];try rfl) rfl ?_;exact Yg ⟨_,_,b0.o,rfl,(e9.o).Nk (T.o.cell 2) Y _ _ _,fY (g1.o) (Yk _) _ _ _⟩
    .have m8:=E l4
     have g1:=E (g2.o.trans u);have T:=E (e8.o.dS u O);have e4:=E (m3.o.dS u O);have i6:=E (b1.o.dS u (by intro q l2;omega));have n0:=E b7;have p6:¬(b:Int)=0:=O;obtain⟨p,w⟩:∃p,c%b=p:=⟨_,rfl⟩;obtain⟨y,a6⟩:∃y,c / b=y:=⟨_,rfl⟩
     have o4:p<b:=by rw [<-w];exact Nat.mod_lt _ O
     have n9:y*b+p=c:=by rw [<-w,<-a6,Nat.mul_comm];exact Nat.div_add_mod c b
     have q4:Int.tmod (c:Int) (b:Int)=(p:Int):=by rw [<-Int.ofNat_tmod,w]
     have q7:Int.tdiv (c:Int) (b:Int)=(y:Int):=by rw [<-Int.ofNat_tdiv,a6]
     have q5:(c:Int)%(b:Int)=(p:Int):=by rw [<-Int.natCast_emod,w]
     have q8:(c:Int) / (b:Int)=(y:Int):=by rw [<-Int.natCast_ediv,a6]
     have q6:c%b=p:=w;have q9:c / b=y:=a6
     have q3:y<=1024:=by rw [<-a6];exact Yl (Nat.div_le_self _ _) O
     have a3:(h++YA (g - c) 0).length=g:=by rw [Yq,List.length_replicate,v.o];omega
     have e6:=E (λ(a8:V) (w:aY a8 (U (K ⟨f.heap.size+1,0,I⟩) g g) (h++YA (g - c) 0))=>Ks (K ⟨f.heap.size+1,0,I⟩) g g (h++YA (g - c) 0) b p y c a8 w o4 n4 j8 n9 (by rw [a3];exact h1) (by rw [a3];exact n2) (λa7 k4=>by
      rw [qP h _ a7 (by rw [v.o];exact k4)];have c5:=(List.all_eq_true.1 c0.o) (h.getD a7 0) (by rw [Yp,YM (by rw [v.o];exact k4)];exact List.getElem_mem _)
      simpa using c5))
     have k3:dX b (h++YA (g - c) 0) c=dX b h c:=by
      have:=Fk b h (g - c) O;rw [v.o] at this;exact this
     rw [k3] at e6;have i0:=E (λ(a8:V)=>H_ L a8 O);have m2:=E (λ(o6:Int) (a8:V)=>pd o6 a8);have n8:=Bj b h c c0.o
     have o3: -600<=eR L/\eR L<=600:=by unfold eR;split<;>omega
     have b9:=E (show fA i b C (j+3) (c+1)=if dX b h c+eR L<0∨255<dX b h c+eR L then .error 3 else .ok (h++[dX b h c+eR L],h6) from by
      rw [fA,g4.o];simp only;rw [n0.o])
     generalize dX b h c=l at n8 e6 b9;generalize eR L=m at o3 i0 b9
     have p3:Zc G (l+m)=l+m:=by rw [Yo];omega
     obtain⟨⟨a0,a1,a2⟩, -⟩:=e4.o.tS;have c7:=e4.o.lt;clear l4 u b7 w a6 k3 b4 b3
     go_wp2_with fail
     go_quiet (first
      |(go_at_call 82;exact(e6.o _ (i6.o.ints.ext (ag (Yn _ _) _))).mono λ_ _ t=>⟨t.1,t.2.elim λx c8=>⟨_,c8.trans (drewN_drewN _ _ _)⟩⟩)
      |(go_at_call 83;exact(i0.o _).mono λ_ _ t=>⟨t.1,_,t.2.symm⟩))
     rename Nat=>h7;have P:=E (show X c9 c9 (c9.drewN h7) from ag (Yn _ _) h7);generalize c9.drewN h7=l9 at*;have m9:=E (m8.o.ext P.o);have i3:=E (aE g1.o P.o);have a9:=E (T.o.ext P.o);have e5:=E (e4.o.ext P.o);have i7:=E (i6.o.ext P.o);clear a0 a1 a2 c7 P;obtain⟨⟨a0,a1,a2⟩, -⟩:=e5.o.tS;have c7:=e5.o.lt;obtain⟨⟨e0,e1,e2⟩,c2,c3,c4⟩:=a9.o.tS;have h3:=a9.o.lt
     go_wp2_with fail
     refine(m2.o (l+m) _).mono ?_;rintro s r0 ⟨rfl,rfl⟩;by_cases g7:l+m<0∨255<l+m
     .have a5:¬l+m=eF (l+m):=by unfold eF;omega
      have b0:=E (show j_ i b k j= .error 3 from by rw [W.o];exact b6 3 (by rw [b9.o,if_pos g7]));generalize eF (l+m)=c1 at a5⊢;generalize l+m=p0 at a5⊢;clear b6 a0 a1 a2;go_wp2;obtain⟨⟨D,F,J⟩, -⟩:=(a9.o.rD (A G 0) (A G 0) (U I 0 0)).tS;refine YD (by simp [YU,results47,go_sem,D,F,J];try rfl) rfl ?_;exact Yg ⟨_,_,b0.o,rfl,((show cx l9 1 (Yd 49 (A G 3)) 3 from Yg rfl)).Nk (a9.o.cell 2) Y _ _ _,fY (i3.o) (Yk _) _ _ _⟩
     .have a5:eF (l+m)=l+m:=by unfold eF;omega
      have j1:=E (show fA i b C (j+3) (c+1)= .ok (h++[l+m],h6) from by rw [b9.o,if_neg g7]);rw [a5];have h5:0<=l+m/\l+m<=255:=O;generalize l+m=c1 at h5 j1 a5⊢;obtain⟨p4,p1,j4, -,p9,k1,k2⟩:=i7.o.open (by rw [a3];omega);simp only [Yy,YQ,Addr.mk.injEq,and_true] at j4;obtain⟨rfl, -,rfl⟩:=j4;have p7:=k1 c (by rw [a3];exact h1);have p8:=k2 c;have j2:=E h5;clear b6 k1 k2 h5 g7 a5 e0 e1 e2 c2 c3 c4;go_wp2;go_roundw
      case rel=>
       refine⟨c+1,h++[c1],h6,O,S,j1.o,by rw [Yq,v.o];rfl,?_,m9.o.iL (by show n<f.heap.size+1;omega),o1,?_,kH i3.o (by show f.heap.size<=f.heap.size+1;omega),a9.o.ab _ _ (by show f.heap.size≠f.heap.size+1;omega),e5.o.ab _ _ (by show b2≠f.heap.size+1;omega)⟩
       .have j6:=c0.o
        unfold ax at j6⊢;rw [List.all_append,j6];have c5:=j2.o;simp [c5.1,c5.2]
       .have n3:aa l9 (f.heap.size+1) (.slice (K ⟨f.heap.size+1,0,I⟩) (h++YA (g - c) 0).length g) (h++YA (g - c) 0):=by rw [a3];exact i7.o
        have g5:=n3.set c c1 (by have:=j2.o;unfold bh;omega);rw [a3] at g5;have j7:=No h c1 g (by rw [v.o];exact h1);rw [v.o] at j7;rw [j7] at g5;exact g5
      case measure=>simp [Yz];omega
   .obtain rfl:c=g:=O
    have b0:=E (show j_ i b k j= .ok (h,x) from by rw [W.o,g4.o]);rw [Nat.sub_self,List.replicate_zero,List.append_nil] at b1;obtain⟨⟨a0,a1,a2⟩, -⟩:=b3.tS;obtain⟨⟨e0,e1,e2⟩,c2,c3,c4⟩:=b4.tS;have c7:=b3.lt;have h3:=b4.lt;clear b4 b3;go_wp2;obtain⟨⟨D,F,J⟩, -⟩:=(e8.o.rD (A G b) (A G k) (U (K ⟨f.heap.size+1,0,I⟩) c c)).tS;refine YD (by simp [YU,results47,go_sem,D,F,J];try rfl) rfl ?_;have h2:=v.o;refine Yh ⟨h,x,K ⟨f.heap.size+1,0,I⟩,c,b0.o,by rw [h2],?_,by rw [h2,i5.o],c0.o,?_,c8,fY g2.o (Yk _) _ _ _⟩
    .rw [h2]
     exact(((b1.o.ab (a:=f) (by show f.heap.size<f.heap.size+1;omega) _).ab (a:=⟨f,1,I⟩) (by show f.heap.size<f.heap.size+1;omega) _).ab (a:=⟨f,2,I⟩) (by show f.heap.size<f.heap.size+1;omega) _).mono O
    .exact i9.o.up o2 _ _ _
theorem rG(a:Nat)(h:V)(k:a<256):d prog 44 #[A Yf (a:Int)] h λb i=>b=e (.bool (dU a))/\h=i:=by
 have b:dU a=(decide (1<=a)&&decide (a<=4)):=rfl;rw [b];clear b
 have j:Zc G (a:Int)=(a:Int):=by rw [Yo];omega
 by_cases f:1<=a
 .by_cases g:a<=4
  .have c:(1:Int)<=(a:Int):=O
   go_enter func44,ntmps44;go_wp2;go_returns;exact⟨by simp [f,g]<;>omega,rfl⟩
  .have c:(1:Int)<=(a:Int):=O
   go_enter func44,ntmps44;go_wp2;go_returns;exact⟨by simp [f,g]<;>omega,rfl⟩
 .have c:a=0:=O
  subst c;go_enter func44,ntmps44;go_wp2;go_returns;exact⟨Y,rfl⟩
def qB(c:Bs)(a:V)(g:Ending)(b:V):Prop:=
 (∃f err,jq c= .error f/\g=e (Ye #[U I 0 0,err])/\cx b 2 err f/\X a a b)∨
 ∃h i,jq c= .ok h/\g=e (Ye #[i,Ya])/\iw b a i h/\X a a b
theorem Mi{a:Bs}(b:a.length<5):jq a= .error 1:=by unfold jq;rw [if_pos b]
theorem Px{a:Bs}(b:¬a.length<5)(c:av a 0≠75∨av a 1≠83):jq a= .error 2:=by unfold jq;rw [if_neg b,if_pos c]
theorem Mh{a:Bs}(b:¬a.length<5)(c:¬(av a 0≠75∨av a 1≠83))(f:dU (av a 2)=false∨dU (av a 3)=false∨av a 4<1∨16<av a 4):jq a= .error 3:=by unfold jq;rw [if_neg b,if_neg c,if_pos f]
theorem Ti{a:Bs}(f:¬a.length<5)(g:¬(av a 0≠75∨av a 1≠83))(h:¬(dU (av a 2)=false∨dU (av a 3)=false∨av a 4<1∨16<av a 4)):
  jq a=match ia (a.drop 5) (8*av a 2) (8*av a 3) 0 (av a 4) with
  |.error c=> .error c
  |.ok (i,b)=>if rV (a.drop 5) b≠0 then .error (rV (a.drop 5) b) else .ok i:=by unfold jq;rw [if_neg f,if_neg g,if_neg h]<;>rfl
theorem cx.SO{b:V}{a:Nat}{k:Array UInt8}{j:Int}{f:Nat}{g:Z}{n:Nat}{c:Int}(i:ai b a #[Yb ⟨k⟩,A G j,Yd f g] 144)(h:cx b n (Yd f g) c):cx b (n+1) (Yd 142 (Q (K a))) c:=
 Yh ⟨a,_,rfl,⟨_,_,i⟩,h⟩
theorem zc(l:Z)(a:Bs)(c:V)(k:ah c l a)(g:a.length<5):
  d prog 18 #[l] c λf q=>qB a c f q:=by
 have n:=E (Mi g);obtain⟨r,cap,rfl⟩:=k.shape;obtain⟨b,j⟩:∃b,a.length=b:=⟨_,rfl⟩;rw [j] at g⊢;clear k j;go_enter func18,ntmps18
 go_wp2_with (go_at_call 45;refine(jm _ _ _ _ _).mono ?_;rintro f u ⟨s,rfl,h,t,i⟩;have p:=E h;have m:=E i;clear h i)
 go_returns;exact Yg ⟨1,_,n.o,rfl,Yg (cx.SO (n:=0) p.o rfl),m.o⟩
theorem AG(w:Z)(a:Bs)(c:V)(h:ah c w a)(t:¬a.length<5)(u:av a 0≠75∨av a 1≠83):
  d prog 18 #[w] c λn F=>qB a c n F:=by
 have r:=E (Px t u);obtain⟨s,off,cap,rfl,y,z⟩:=h.ft O;obtain⟨b,v⟩:∃b,a.length=b:=⟨_,rfl⟩;rw [v] at t h⊢;have W:c.cell? ⟨s,off,I⟩=K (A Yf (av a 0:Int)):=h.at (j:=0) O;have L:c.cell? ⟨s,off+1,I⟩=K (A Yf (av a 1:Int)):=h.at (j:=1) O;have P:=Yj c _ L;generalize av a 0=i at*;generalize av a 1=m at*;have R:0<b:=O;have T:1<b:=O;have p:i≠75∨(i=75/\m≠83):=O;clear h v y z u
 rcases p with p|⟨rfl,p⟩
 .have q:¬(i:Int)=75:=O
  have D:((i:Int)==75)=false:=by simpa using q
  go_enter func18,ntmps18
  go_wp2_with (go_at_call 45;refine(jm _ _ _ _ _).mono ?_;rintro n J ⟨x,rfl,f,C,g⟩;have l:=E f;have k:=E g;clear f g)
  go_returns;exact Yg ⟨2,_,r.o,rfl,Yg (cx.SO (n:=0) l.o rfl),k.o⟩
 .have q:¬(m:Int)=83:=O
  have D:((m:Int)==83)=false:=by simpa using q
  go_enter func18,ntmps18
  go_wp2_with (go_at_call 45;refine(jm _ _ _ _ _).mono ?_;rintro n J ⟨x,rfl,f,C,g⟩;have l:=E f;have k:=E g;clear f g)
  go_returns;exact Yg ⟨2,_,r.o,rfl,Yg (cx.SO (n:=0) l.o rfl),k.o⟩
theorem za(x:Z)(a:Bs)(b:V)(c:ah b x a)(q:¬a.length<5)(r:¬(av a 0≠75∨av a 1≠83))(k:dU (av a 2)=false∨dU (av a 3)=false∨av a 4<1∨16<av a 4):
  d prog 18 #[x] b λi l=>qB a b i l:=by
 have F:=E (Mh q r k);obtain⟨h,off,cap,rfl,W,a0⟩:=c.ft O;obtain⟨f,u⟩:∃f,a.length=f:=⟨_,rfl⟩;rw [u] at q c⊢;have a1:b.cell? ⟨h,off,I⟩=K (A Yf (av a 0:Int)):=c.at (j:=0) O;have y:b.cell? ⟨h,off+1,I⟩=K (A Yf (av a 1:Int)):=c.at (j:=1) O;have b5:b.cell? ⟨h,off+2,I⟩=K (A Yf (av a 2:Int)):=c.at (j:=2) O;have b6:b.cell? ⟨h,off+3,I⟩=K (A Yf (av a 3:Int)):=c.at (j:=3) O;have b7:b.cell? ⟨h,off+4,I⟩=K (A Yf (av a 4:Int)):=c.at (j:=4) O;have a6:=Yj b _ y;have v:av a 2<256:=UInt8.toNat_lt _;have w:av a 3<256:=UInt8.toNat_lt _;have b3:av a 4<256:=UInt8.toNat_lt _;have n:av a 0=75:=O;have p:av a 1=83:=O;rw [n] at a1;rw [p] at y;have z:=E (λm=>rG (av a 2) m v);have C:=E (λm=>rG (av a 3) m w);generalize av a 2=L at*;generalize av a 3=P at*;generalize av a 4=g at*;generalize dU L=s2 at*;generalize dU P=s3 at*;have a8:0<f:=O;have a9:1<f:=O;have b0:2<f:=O;have b1:3<f:=O;have b2:4<f:=O
 have a2:Zc G (g:Int)=(g:Int):=by rw [Yo];omega
 have T:s2=false∨(s2=true/\s3=false)∨(s2=true/\s3=true/\g<1)∨(s2=true/\s3=true/\¬g<1/\16<g):=by
  cases s2<;>cases s3<;>simp at k⊢<;>omega
 clear c u W a0 r n p k v w
 rcases T with rfl|⟨rfl,rfl⟩|⟨rfl,rfl,R⟩|⟨rfl,rfl,R,a5⟩
 all_goals
  go_enter func18,ntmps18
  go_wp2_with (first
   |(go_at_call 44;first|(with_reducible refine(z.o _).mono ?_;rintro i l ⟨rfl,rfl⟩)|(with_reducible refine(C.o _).mono ?_;rintro i l ⟨rfl,rfl⟩))
   |(go_at_call 45;refine(jm _ _ _ _ _).mono ?_;rintro i b4 ⟨a3,rfl,s,a7,t⟩;have J:=E s;have D:=E t;clear s t))
  go_returns;exact Yg ⟨3,_,F.o,rfl,Yg (cx.SO (n:=0) J.o rfl),D.o⟩
end
end Go.Proofs.YtajkpgaheechmaaGreatDoor
