/- Alc WhP WhA -/
import Derived.Test.YtajkpgaheechmaaGreatDoorZAR
import Derived.Test.YtajkpgaheechmaaGreatDoorZAT
import Derived.Test.YtajkpgaheechmaaGreatDoorZAP
set_option maxRecDepth 100000
set_option maxHeartbeats 16000000
set_option linter.unusedSimpArgs false
set_option linter.unusedVariables false
set_option linter.unusedSectionVars false
namespace Go.Proofs.YtajkpgaheechmaaGreatDoor
open _root_.Go.Proofs.Tryz
open Go.Value renaming int->A,slice->U,nilIface->Ya,agg->Yc,iface->Yd,tuple->Ye
open Go.IntKind renaming i64->G,wrap->Zc
open Option renaming none->I,some->K
open Go.Obj renaming cells->M
open Go.Ending renaming returned->e
open Go renaming World->V,Value->Z,Calls->d,bodyPost_ret->YD,results->YU
open Go.RowKit renaming Below->X,intOf->Yz
open Or renaming inl->Yg,inr->Yh
open Go.World renaming block_lt_of_cell?->Yj
open Nat renaming le_trans->Yl,zero_le->Yr
open Go.RowKit.Below renaming refl->Yn,heap_setCell->Yt
open List renaming getD->YR
open Go.IntWalk renaming i64_in->Yx
open Go.Value.slice renaming injEq->Yy
open Option.some renaming inj->YG
open And renaming intro->YI
open Bool renaming and_eq_true->YV
section
open Go.RowKit Go.Extern.Stop Go.Stop Go.Extern
def oF(c:List Int)(b:Nat):Int:=cu b λa=>c.getD a 0
def yV(b a has c:Int):Int:=max 8 (min (b*c / a) has)
def iP(b:cF)(a:List Int):Nat->Int×List Int
 |0=>(b.fill,[])
 |c+1=>(min b.room ((iP b a c).1 - yV (b.fill+((a.length:Int) - 1)*b.bX) (oF a a.length) (iP b a c).1 (a.getD c 0)+b.bX),
   (iP b a c).2++[yV (b.fill+((a.length:Int) - 1)*b.bX) (oF a a.length) (iP b a c).1 (a.getD c 0)])
def MT(b:cF)(a:List Int):List Int:=(iP b a a.length).2
theorem xG(b:cF)(c:List Int):∀a,(iP b c a).2.length=a
 |0=>rfl
 |a+1=>by simp [iP,xG b c a]
theorem t'{a:cF}(b:iB a=true):0<=a.fq/\a.fq<=a.eC/\a.eC<=15/\0<=a.reach/\a.reach<=7/\0<=a.cut/\a.cut<=16320/\1<=a.gop/\a.gop<=16/\8<=a.bX/\a.bX<=a.room/\a.room<=16384/\8<=a.fill/\a.fill<=a.room:=by
 simp [iB,QL,QN,QM,gu] at b;omega
theorem Qm{tot s has x:Int}(a:8<=has):8<=yV tot s has x/\yV tot s has x<=has:=by unfold yV;omega
theorem Av{a:cF}{ws:List Int}(c:iB a=true):∀b,8<=(iP a ws b).1/\(iP a ws b).1<=a.room
 |0=>by have:=t' c;show 8<=a.fill/\a.fill<=a.room;omega
 |b+1=>by
  have f:=Av (ws:=ws) c b;have g:=t' c;have h:=Qm (tot:=a.fill+((ws.length:Int) - 1)*a.bX) (s:=oF ws ws.length) (x:=ws.getD b 0) f.1
  show 8<=min a.room _/\min a.room _<=a.room
  omega
theorem I_{b:List Int}(c:∀f∈b,1<=f/\f<=16777216):∀a,a<=b.length->(a:Int)<=oF b a/\oF b a<=a*16777216
 |0,_=>by simp [oF,cu]
 |a+1,h=>by
  have k:=I_ c a O;have i:a<b.length:=O;have j:=c (b.getD a 0) (by simp [YR,i]);have g:oF b (a+1)=oF b a+b.getD a 0:=rfl;rw [g]
  push_cast
  omega
theorem MU(a:cF)(g5:Z)(c:List Int)(p:V)(b9:aY p g5 c)(a5:iB a=true)(i5:1<=c.length)(i6:c.length<=16)(c0:∀m∈c,1<=m/\m<=16777216):
  d prog 129 #[a.val,g5] p λe3 g7=>∃g6,e3=e (Ye #[g6,Ya])/\aa g7 p g6 (MT a c)/\X p p g7:=by
 obtain⟨i,T⟩:∃i,c.length=i:=⟨_,rfl⟩;have D:=E (λj2=>fV a j2);rw [a5] at D;simp only [if_true,ar] at D;have i2:=t' a5;have h5:=E (I_ c0);have g8:=E (Av (ws:=c) a5);have g9:=E (xG a c);have e1:=E (λb (b8:b<i)=>c0 (c.getD b 0) (by simp [YR,show b<c.length by omega]));have h3:=E b9;have i7:=b9.shape;obtain⟨h6,cap,g2⟩:=i7;rw [T] at g2;subst g2
 have h0:=E (show∀b,iP a c (b+1)=(min a.room ((iP a c b).1 - yV (a.fill+((c.length:Int) - 1)*a.bX) (oF c c.length) (iP a c b).1 (c.getD b 0)+a.bX),
   (iP a c b).2++[yV (a.fill+((c.length:Int) - 1)*a.bX) (oF c c.length) (iP a c b).1 (c.getD b 0)]) from λb=>rfl)
 have c8:MT a c=(iP a c i).2:=by rw [<-T];rfl
 have J:=E T;rw [c8];clear c8 a5 c0 b9;have c7:a.val=Yc #[A G a.fq,A G a.eC,A G a.reach,A G a.cut,A G a.gop,A G a.bX,A G a.room,A G a.fill]:=rfl;rw [c7] at D⊢;clear c7;have c4:=E (ai.new p #[A G a.fq,A G a.eC,A G a.reach,A G a.cut,A G a.gop,A G a.bX,A G a.room,A G a.fill] 23);have c5:=E (N:X p p (p.alloc (M #[A G a.fq,A G a.eC,A G a.reach,A G a.cut,A G a.gop,A G a.bX,A G a.room,A G a.fill] 23)));obtain⟨-, -, -, -, -, -, -, -, -,j0,g4,j1,h9,e5⟩:=i2;obtain⟨j,a8⟩:∃j,a.bX=j:=⟨_,rfl⟩;obtain⟨q,a7⟩:∃q,a.room=q:=⟨_,rfl⟩;obtain⟨t,a6⟩:∃t,a.fill=t:=⟨_,rfl⟩;rw [a8] at j0 g4;rw [a7] at g4 j1 e5;rw [a6] at h9 e5;have F:=E (YI a8 (YI a7 a6));have e0:=E (show 0<=((i:Int) - 1)*j/\((i:Int) - 1)*j<=15*16384 from⟨Int.mul_nonneg O O,Int.mul_le_mul O O O O⟩);obtain⟨P,b6⟩:∃P,((i:Int) - 1)*j=P:=⟨_,rfl⟩;rw [b6] at e0;have c9:=E b6;simp only [a8,a7,a6] at D c4 c5⊢;clear a8 a7 a6 b6;rw [T] at i5 i6;clear T;have m3:¬(i:Int)=0:=O;have i9:¬i=0:=O
 have m4:((i:Int)==0)=false:=by simpa using i9
 have m5:¬(i:Int)>16:=O;have m6:¬i>16:=O;go_enter func129,ntmps129
 go_wp2_with ((go_at_call 63;refine(D.o _).mono ?_;rintro e3 k ⟨rfl,b7⟩;have a1:=E (ext c5.o b7);have h4:=E (h3.o.ext a1.o);have a0:=E (c4.o.ext b7);have a9:k.cell? ⟨p,5,I⟩=K (A G j):=a0.o.cell 5;have b0:k.cell? ⟨p,6,I⟩=K (A G q):=a0.o.cell 6;have k8:k.cell? ⟨p,7,I⟩=K (A G t):=a0.o.cell 7;have k9:=a0.o.lt;clear b7))
 have c6:=E (show∀b,b<i->∃a2 off,h6=K ⟨a2,off,I⟩/\k.cell? ⟨a2,off+b,I⟩=K (A G (c.getD b 0)) from by
  obtain⟨k0,k1,e4, -, -, -, -,i0⟩:=h4.o;simp only [Yy] at e4;obtain⟨rfl, -, -⟩:=e4
  exact λb b8=>i0 b (by rw [J.o];exact b8))
 go_loop [8,33] (λs w=>∃b:Nat,b<=i/\w=A G b/\s=A G (oF c b)) (λ_ w=>i - (Yz w).toNat)
 case atStart=>exact⟨0,Yr _,rfl,rfl⟩
 case round=>
  obtain⟨b,b8,rfl,rfl⟩:=hrel;obtain⟨m7,s2⟩:=h5.o b (by rw [J.o];omega);by_cases g0:b<i
  .obtain⟨j3,j4⟩:=e1.o b g0
   obtain⟨a2,off,rfl,i3⟩:=c6.o b g0;have b3:=E (show oF c (b+1)=oF c b+c.getD b 0 from rfl);generalize oF c b=s at*;generalize c.getD b 0=m at*;have j5:¬m<1:=O;have j6:¬16777216<m:=O
   have n4:decide (m<1)=false:=by simpa using j5
   have n6:decide (16777216<m)=false:=by simpa using j6
   have j7:Zc G (s+m)=s+m:=Yx _ O;go_wp2;go_round
   case rel=>exact⟨b+1,O,S,by rw [b3.o]⟩
   case measure=>simp [Yz];omega
  .obtain rfl:b=i:=O
   have b3:=E (show oF c c.length=oF c b from by rw [J.o]);generalize oF c b=s at*;have o0:=e0.o;have j7:Zc G ((b:Int) - 1)=(b:Int) - 1:=Yx _ O;have n8:Zc G (((b:Int) - 1)*j)=P:=(congrArg (Zc G) c9.o).trans (Yx P O);have n9:Zc G (t+P)=t+P:=Yx _ O;have o1:¬s=0:=O;go_wp2;go_quiet (fail);rename Nat=>g3;have h2:=E (show X k k (k.drewN g3) from ag (Yn _ _) g3);go_wp2
   go_loopw [12,13,60] (λf b1 w wr=>∃h:Nat,h<=b/\w=A G h/\f=A G (iP a c h).1/\aa wr k b1 (iP a c h).2/\X k k wr) (λ_ _ w _=>b - (Yz w).toNat)
   case atStart=>exact⟨0,Yr _,rfl,by rw [show(iP a c 0).1=a.fill from rfl,F.o.2.2],aa.nil _ _,h2.o⟩
   case round=>
    obtain⟨h,k2,rfl,rfl,b5,b4⟩:=hrel;have v:=E b5;have u:=E b4;by_cases e9:h<b
    .obtain⟨j3,j4⟩:=e1.o h e9
     obtain⟨a2,off,rfl,e8⟩:=c6.o h e9;have i3:=(u.o.cell (Yj k _ e8)).trans e8;have k4:=(u.o.cell (Yj k _ a9)).trans a9;have k6:=(u.o.cell (Yj k _ b0)).trans b0;obtain⟨h7,e2⟩:=g8.o h;rw [F.o.2.1] at e2;have L:=E (h0.o h);rw [F.o.1,F.o.2.1,F.o.2.2,J.o,c9.o,<-J.o,b3.o] at L;have W:=E (g9.o h);generalize iP a c h=h8 at*;obtain⟨f,b1⟩:=h8;generalize c.getD h 0=m at*;simp only at L h7 e2 W v⊢;clear b5 b4;obtain⟨c1,c2,rfl⟩:=v.o.ints.shape;have v:=E (show aa wr k (U c1 h c2) b1 from by have:=v.o;rw [W.o] at this;exact this);rw [W.o];obtain⟨r,R⟩:∃r,(t+P)*m=r:=⟨_,rfl⟩
     have c3:0<=r/\r<=262144*16777216:=by rw [<-R];exact⟨Int.mul_nonneg O O,Int.mul_le_mul O O O O⟩
     obtain⟨l,a3⟩:∃l,r / s=l:=⟨_,rfl⟩
     have m8:0<=l/\l<=r:=by rw [<-a3];exact⟨Int.ediv_nonneg c3.1 O,Int.ediv_le_self _ c3.1⟩
     have m9:r.tdiv s=l:=by rw [Int.tdiv_eq_ediv_of_nonneg c3.1];exact a3
     have n0:Zc G ((t+P)*m)=r:=(congrArg (Zc G) R).trans (Yx r O);have n1:Zc G l=l:=Yx _ O;obtain⟨n,C⟩:∃n,min l f=n:=⟨_,rfl⟩
     have l1:(if l<=f then l else f)=n:=by rw [<-C];omega
     have l0:(if f<l then f else l)=n:=by rw [<-C];omega
     have l5:(if l<f then l else f)=n:=by rw [<-C];omega
     obtain⟨g,z⟩:∃g,max 8 n=g:=⟨_,rfl⟩
     have l6:(if 8<n then n else 8)=g:=by rw [<-z];omega
     have l7:(if n>8 then n else 8)=g:=by rw [<-z];omega
     have l8:(if 8>n then 8 else n)=g:=by rw [<-z];omega
     have i1:8<=g/\g<=f:=O;have l9:Zc G (f - g)=f - g:=Yx _ O;have m0:Zc G (f - g+j)=f - g+j:=Yx _ O;obtain⟨x,y⟩:∃x,min q (f - g+j)=x:=⟨_,rfl⟩
     have m1:(if q<=f - g+j then q else f - g+j)=x:=by rw [<-y];omega
     have l2:(if f - g+j<q then f - g+j else q)=x:=by rw [<-y];omega
     have m2:(if q<f - g+j then q else f - g+j)=x:=by rw [<-y];omega
     have l3:max 8 (min l f)=g:=by rw [C];exact z
     have l4:min q (f - g+j)=x:=y
     have e7:yV (t+P) s f m=g:=by unfold yV;rw [R,a3,C,z]
     rw [e7,y] at L;have j9:=E i1;have j8:=E R;have k3:=u.o.size;clear R a3 C z y e7
     go_wp2_with (first
      |(at_builtin;go_loud (refine cJ rfl (.tmp 72) (.tmp 74) rfl k.heap.size (U c1 h c2) b1 g rfl v.o rfl rfl (by unfold bh;omega) (by rw [W.o];omega) u.o.size ?_;intro n2 n3 g1 e6 i4;have h1:=E g1;have b2:=E (u.o.trans e6);have k5:=(b2.o.cell (Yj k _ a9)).trans a9;have k7:=(b2.o.cell (Yj k _ b0)).trans b0;clear g1 e6 i4)))
     refine⟨⟨h+1,O,S,?_,?_,b2.o⟩,by simp [Yz];omega⟩
     .rw [L.o]
     .rw [L.o];exact h1.o
    .obtain rfl:h=b:=O
     clear b5 b4;obtain⟨c1,c2,rfl⟩:=v.o.ints.shape;go_wp2;go_returns;exact⟨_,rfl,v.o.mono a1.o.size,a1.o.trans (u.o.mono a1.o.size)⟩
end
section
open Go.RowKit
structure nS(fs:List Fr):Prop where
 one:1<=fs.length
 many:fs.length<=16
 wD:∃a b:Nat,1<=a/\a<=4/\1<=b/\b<=4/\∀f∈fs,f.W=((8*a:Nat):Int)/\f.H=((8*b:Nat):Int)/\f.pix.length=8*a*(8*b)/\ax f.pix 0 255=true
theorem yG{c:Bs}{i f k:Nat}:∀{b:Nat} {a:List Int} {g:Nat},fA c i f k b= .ok (a,g)->a.length=b/\ax a 0 255=true
 |0,a,g,h=>by
  unfold fA at h;simp only [Except.ok.injEq,Prod.mk.injEq] at h;obtain⟨rfl,rfl⟩:=h;exact⟨rfl,rfl⟩
 |b+1,a,g,h=>by
  unfold fA at h
  cases h1:fA c i f k b with
  |error n=>rw [h1] at h;cases h
  |ok p=>
   obtain⟨r,o⟩:=p;rw [h1] at h;simp only at h;obtain⟨m,j⟩:=yG h1
   cases h2:im c o f 510 with
   |error n=>rw [h2] at h;cases h
   |ok l=>
    obtain⟨l,s⟩:=l;rw [h2] at h;simp only at h;split at h
    .cases h
    .rename_i q
     simp only [Except.ok.injEq,Prod.mk.injEq] at h;obtain⟨rfl,rfl⟩:=h;refine⟨by simp [m],?_⟩;simp only [ax,List.all_append,YV] at j⊢;refine⟨j,?_⟩;simp only [List.all_cons,List.all_nil,Bool.and_true,YV,decide_eq_true_eq];omega
theorem AZ{j:Bs}{f c l:Nat}:∀{i:Nat} {g:List Fr} {k:Nat},ia j f c l i= .ok (g,k)->g.length=i/\∀a∈g,a.W=(f:Int)/\a.H=(c:Int)/\a.pix.length=f*c/\ax a.pix 0 255=true
 |0,g,k,h=>by
  unfold ia at h;simp only [Except.ok.injEq,Prod.mk.injEq] at h;obtain⟨rfl,rfl⟩:=h;exact⟨rfl,λa b=>by simp at b⟩
 |i+1,g,k,h=>by
  unfold ia at h
  cases h1:ia j f c l i with
  |error r=>rw [h1] at h;cases h
  |ok t=>
   obtain⟨u,s⟩:=t;rw [h1] at h;simp only at h;obtain⟨n,o⟩:=AZ h1
   cases h2:j_ j f c s with
   |error r=>rw [h2] at h;cases h
   |ok m=>
    obtain⟨m,v⟩:=m;rw [h2] at h;simp only [Except.ok.injEq,Prod.mk.injEq] at h;obtain⟨rfl,rfl⟩:=h;unfold j_ at h2;split at h2
    .cases h2
    .obtain⟨p,q⟩:=yG h2
     refine⟨by simp [n],λa b=>?_⟩
     rcases List.mem_append.1 b with b|b
     .exact o a b
     .obtain rfl:=List.mem_singleton.1 b
      exact⟨rfl,rfl,p,q⟩
theorem RB{b:Bs}{c:List Fr}(a:jq b= .ok c):nS c:=by
 unfold jq at a;split at a
 .cases a
 .split at a
  .cases a
  .split at a
   .cases a
   .rename_i f
    cases h1:ia (b.drop 5) (8*av b 2) (8*av b 3) 0 (av b 4) with
    |error j=>rw [h1] at a;cases a
    |ok h=>
     obtain⟨k,l⟩:=h;rw [h1] at a;simp only at a;split at a
     .cases a
     .simp only [Except.ok.injEq] at a
      subst a;obtain⟨i,g⟩:=AZ h1;unfold dU at f;simp only [Bool.and_eq_false_iff,decide_eq_false_iff_not,not_or,not_and,Nat.not_le,Nat.not_lt] at f;refine⟨O,O,av b 2,av b 3,O,O,O,O,g⟩
theorem nS.at{a:List Fr}(c:nS a){j:Nat}(b:j<a.length):sS a j∈a:=by
 unfold sS;simp [YR,b]
theorem nS.may{b:List Fr}(i:nS b){a:Fr}(k:a∈b):nM a.W a.H a.pix:=by
 obtain⟨l,o,m,n,p,q,j⟩:=i.wD;obtain⟨c,f,g,h⟩:=j a k;refine⟨O,O,?_,h⟩;rw [c,f,g];push_cast;rfl
theorem nS.V'{b:List Fr}(f:nS b){a c:Fr}(h:a∈b)(i:c∈b):gZ a c=0:=by
 obtain⟨n,q,o,p,r,s,g⟩:=f.wD;obtain⟨j,k, -, -⟩:=g a h;obtain⟨l,m, -, -⟩:=g c i;unfold gZ cX;rw [dw.2 (f.may h),dw.2 (f.may i),if_pos (by rfl),if_pos ⟨j.trans l.symm,k.trans m.symm⟩]
theorem nS.ue{a:List Fr}(b:nS a){c:Nat}(f:c<a.length):Mu a c=0:=b.V' (b.at O) (b.at f)
theorem nS.we{b:List Fr}(a:nS b)(g:List (Int×Int)){f:Nat}(c:f<b.length):wE b g f=0:=by
 unfold wE;split
 .unfold Kw;rw [dw.2 (a.may (a.at c))];rfl
 .exact a.V' (a.at c) (a.at O)
theorem Mt{b:List Fr}{cut h:Int}(p:1<=h)(n:1<=b.length)(o:b.length<=16):Ih (gC b cut h b.length) b.length:=by
 have c:=Sy b (cut:=cut) p b.length;generalize gC b cut h b.length=g at*;have m:=c.pos O
 have i:∀a,a<g.length->uC g a=(g.getD a (0,0)).1:=by
  intro a
  induction a with
  |zero=>intro _;exact(c.zero m).symm
  |succ a q=>intro f;rw [ma,q O,c.next a f]
 refine⟨λa f=>⟨(i a f).symm,(c.me a f).1,by have:=(c.fst a f).2;rw [i a f];omega⟩,?_,n,o⟩;obtain⟨k,l⟩:∃k,g.length=k+1:=⟨g.length - 1,O⟩;have j:=c.last m;unfold cN at j;rw [l,ma,i k O];rw [l] at j;exact j
def mT(a:cF)(b:List Fr):List (Int×Int):=gC b a.cut a.gop b.length
def kT(b:cF)(a:List Fr):List Int:=bQ (wV a (mT b a)) a.length
def Ij(a:cF)(b:List Fr):List Int:=MT a (kT a b)
theorem DW(g:cF)(a:List Fr):∀c∈kT g a,1<=c/\c<=16777216:=by
 intro c f;unfold kT bQ at f;obtain⟨b, -,rfl⟩:=List.mem_map.1 f;have h:=tZ (sS a b);have i:=II (sS a b) (sS a (b - 1));unfold wV;split<;>omega
theorem rK(b:cF)(a:List Fr):(kT b a).length=a.length:=bO _ _
def Sa:Z:=Yc #[A G 0,A G 0,U I 0 0,U I 0 0,U I 0 0]
theorem cx.off{g o:V}{R:Nat}{p:Z}(m:g.cell? ⟨R,2,I⟩=K p)(t:∀j k,p≠Yd j k)(s:∀a,a≠R->a<g.heap.size->o.heap[a]? =g.heap[a]?){c:Nat}:∀{f:Z} {a:Int},cx g c f a->cx o c f a:=by
 induction c with
 |zero=>intro f a b;exact b
 |succ c n=>
  intro f a b
  rcases b with b|⟨h,u,q,i,l⟩
  .exact Yg (n b)
  .refine Yh ⟨h,u,q,?_,n l⟩
   have r:h≠R:=by
    rintro rfl;rw [i.cell] at m;obtain⟨j,k,rfl⟩:=l.shape;exact t j k (YG m).symm
   exact i.stays (s h r i.lt)
theorem Nr(c:V)(R:Nat)(h i j f g:Z):∀b,b≠R->b<c.heap.size->(((((c.setCell R h).setCell ⟨R,1,I⟩ i).setCell ⟨R,2,I⟩ j).setCell ⟨R,3,I⟩ f).setCell ⟨R,4,I⟩ g).heap[b]? =c.heap[b]?:=λb a _=>by
 rw [Yt _ _ _ _ a,Yt _ _ _ _ a,Yt _ _ _ _ a,Yt _ _ _ _ a,Yt _ _ _ _ a]
theorem h_(c:V)(f:Nat)(b:Array Z)(a:Nat)(g:f=c.heap.size):ai (c.alloc (M b a)) f b a:=by subst g;exact ai.new c b a
theorem Dd(a:cF)(l:Z)(k:Bs)(s:Int)(c:V)(y:iB a=true)(z:ah c l k)(a1:k.length<=1000000)(p:jq k= .error s):
  d prog 89 #[a.val,l] c λg j=>∃b f,g=e (Ye #[Sa,Yd b f])/\cx j 2 (Yd b f) s/\X c c j:=by
 have t:=E (λi=>by have:=fV a i;rw [y,if_pos rfl,ar] at this;exact this)
 have D:=E (λ(i:V) (n:ah i l k)=>show d prog 18 #[l] i λg j=>∃b f,g=e (Ye #[U I 0 0,Yd b f])/\cx j 2 (Yd b f) s/\X i i j from(kC l k i n O).mono λg j a0=>by
  rcases a0 with⟨a8,err,h,T,x,W⟩|⟨b8,c1,h,_⟩
  .rw [p] at h
   injection h with h
   subst h;obtain⟨b,f,rfl⟩:=x.shape;exact⟨b,f,T,x,W⟩
  .rw [p] at h;cases h)
 have v:a.val=Yc #[A G a.fq,A G a.eC,A G a.reach,A G a.cut,A G a.gop,A G a.bX,A G a.room,A G a.fill]:=rfl;rw [v] at t⊢;have L:=E z;have C:=E (show ai ((c.alloc (M #[A G a.fq,A G a.eC,A G a.reach,A G a.cut,A G a.gop,A G a.bX,A G a.room,A G a.fill] 23)).alloc (M #[A G 0,A G 0,U I 0 0,U I 0 0,U I 0 0] 111)) (c.heap.size+1) #[A G 0,A G 0,U I 0 0,U I 0 0,U I 0 0] 111 from h_ _ _ _ _ Y);have F:=E (N:X c c ((c.alloc (M #[A G a.fq,A G a.eC,A G a.reach,A G a.cut,A G a.gop,A G a.bX,A G a.room,A G a.fill] 23)).alloc (M #[A G 0,A G 0,U I 0 0,U I 0 0,U I 0 0] 111)));clear y z a1 p v;go_enter func89,ntmps89
 go_wp2_with (first
  |(go_at_call 63;refine(t.o _).mono ?_;rintro g c2 ⟨rfl,q⟩;have u:=E (ext F.o q);have w:=E (C.o.ext q);have b9:=w.o.lt;clear q)
  |(go_at_call 18;refine(D.o _ (L.o.ext u.o)).mono ?_;rintro g c3 ⟨b,f,rfl,n,r⟩;have P:=E n;have J:=E (ext u.o r);have m:=E (w.o.ext r);have c0:=m.o.lt;obtain⟨a9,b0,R,b1,b2⟩:=m.o.cL;obtain⟨b3,b4,b5,b6,b7⟩:=m.o.eU;clear n r))
 obtain⟨a2,a3,a5,a6,a7⟩:=(m.o.rE (A G 0) (A G 0) (U I 0 0) (U I 0 0) (U I 0 0)).cL;refine YD (by simp [YU,results89,go_sem,a2,a3,a5,a6,a7];try rfl) rfl ?_;refine⟨b,f,rfl,P.o.off R (λ_ _ g=>by cases g) (Nr _ _ _ _ _ _ _),?_⟩;exact dO J.o (Nat.le_succ _) _ _ _ _ _
theorem Gs(a:cF)(J:Z)(F:Bs)(c:List Fr)(f:V)(a2:iB a=true)(h1:ah f J F)(k6:F.length<=1000000)(a1:jq F= .ok c):
  d prog 89 #[a.val,J] f λg h=>∃b3 b7 b1,g=e (Ye #[Yc #[A G (sS c 0).W,A G (sS c 0).H,b3,b7,b1],Ya])/\iw h f b3 c/\gi h f b7 (mT a c)/\aa h f b1 (Ij a c)/\X f f h:=by
 have z:=RB a1;have k3:=t' a2;have c2:=z.one;have c3:=z.many;have c6:=E (λb=>by have:=fV a b;rw [a2,if_pos rfl,ar] at this;exact this)
 have h7:=E (λ(b:V) (r:ah b J F)=>show d prog 18 #[J] b λg h=>∃m,g=e (Ye #[m,Ya])/\iw h b m c/\X b b h from(kC J F b r O).mono λg h C=>by
  rcases C with⟨l4,err,i,_⟩|⟨m6,m,i,s,u,k2⟩
  .rw [a1] at i;cases i
  .rw [a1] at i
   injection i with i
   subst i
   exact⟨m,s,u,k2⟩)
 have c7:=E (λ(n:Z) (b:V) (r:Frames b n c)=>show d prog 127 #[n,A G a.cut,A G a.gop] b λg h=>∃m,g=e (Ye #[m,Ya])/\gi h b m (mT a c)/\X b b h from(OQ n c a.cut a.gop b r (by unfold Qf;rw [if_pos ⟨O,O,O,O⟩,if_neg O])).mono λg h C=>by
  rcases C with⟨-,m,i,s,u⟩|⟨k7,c0, -,i, -⟩
  .exact⟨m,i,s,u⟩
  .exact absurd (z.ue c0) i)
 have c8:=E (λ(n b5:Z) (b:V) (r:Frames b n c) (k5:nJ b b5 (mT a c))=>show d prog 128 #[n,b5] b λg h=>∃m,g=e (Ye #[m,Ya])/\aa h b m (kT a c)/\X b b h from(zI n b5 c (mT a c) b r k5 (Mt O c2 c3)).mono λg h C=>by
  rcases C with⟨-,m,i,s,u⟩|⟨k7,c0, -,i, -⟩
  .exact⟨m,i,s,u⟩
  .exact absurd (z.we _ c0) i)
 have a8:=E (λ(n:Z) (b:V) (r:aY b n (kT a c))=>show d prog 129 #[a.val,n] b λg h=>∃h3,g=e (Ye #[h3,Ya])/\aa h b h3 (Ij a c)/\X b b h from MU a n _ b r a2 (by rw [rK];exact c2) (by rw [rK];exact c3) (DW a c));have e3:a.val=Yc #[A G a.fq,A G a.eC,A G a.reach,A G a.cut,A G a.gop,A G a.bX,A G a.room,A G a.fill]:=rfl;rw [e3] at c6 a8⊢;have j1:=E h1;have h5:=E ((ai.new f #[A G a.fq,A G a.eC,A G a.reach,A G a.cut,A G a.gop,A G a.bX,A G a.room,A G a.fill] 23).alloc (M #[A G 0,A G 0,U I 0 0,U I 0 0,U I 0 0] 111));have h6:=E (show ai ((f.alloc (M #[A G a.fq,A G a.eC,A G a.reach,A G a.cut,A G a.gop,A G a.bX,A G a.room,A G a.fill] 23)).alloc (M #[A G 0,A G 0,U I 0 0,U I 0 0,U I 0 0] 111)) (f.heap.size+1) #[A G 0,A G 0,U I 0 0,U I 0 0,U I 0 0] 111 from h_ _ _ _ _ Y);have h9:=E (N:X f f ((f.alloc (M #[A G a.fq,A G a.eC,A G a.reach,A G a.cut,A G a.gop,A G a.bX,A G a.room,A G a.fill] 23)).alloc (M #[A G 0,A G 0,U I 0 0,U I 0 0,U I 0 0] 111)));clear a2 h1 k6 a1 e3 z k3;obtain⟨b6,g9⟩:∃b6,mT a c=b6:=⟨_,rfl⟩;obtain⟨h4,h2⟩:∃h4,kT a c=h4:=⟨_,rfl⟩;obtain⟨b0,g5⟩:∃b0,Ij a c=b0:=⟨_,rfl⟩;simp only [g9,h2,g5] at c7 c8 a8⊢;clear g9 h2 g5;obtain⟨p,c1⟩:∃p,c.length=p:=⟨_,rfl⟩;have e4:=E c1;rw [c1] at c2 c3;clear c1;obtain⟨g4,g8⟩:∃p,b6.length=p:=⟨_,rfl⟩;obtain⟨g0,g6⟩:∃p,b0.length=p:=⟨_,rfl⟩;have i5:=E g8;have i4:=E g6;clear g8 g6;go_enter func89,ntmps89
 go_wp2_with (first
  |(go_at_call 63;refine(c6.o _).mono ?_;rintro g l3 ⟨rfl,v⟩;have i6:=E v.size;have e2:=E (ext h9.o v);have j6:=E (h6.o.ext v);have j4:=E (h5.o.ext v);clear v)
  |(go_at_call 18;go_loud (refine(h7.o _ (j1.o.ext e2.o)).mono ?_;rintro g o1 ⟨b3,rfl,l,w⟩;obtain⟨m5,g1,rfl⟩:=l.dm e4.o;have c9:=E l;have i7:=E w.size;have i0:=E (ext e2.o w);have j7:=E (j6.o.ext w);have a9:=E (j4.o.ext w);obtain⟨o5,o6,o7,o8,o9,p0,p1,p2⟩:=a9.o.eight;have n4:=a9.o.lt;clear l w))
  |(go_at_call 127;refine(c7.o _ _ c9.o.vf).mono ?_;rintro g o2 ⟨b7,rfl,l,t⟩;obtain⟨g2,g3,rfl⟩:=l.dm i5.o;have e6:=E l;have i9:=E t.size;have e0:=E (c9.o.ext t);have i1:=E (ext i0.o t);have j8:=E (j7.o.ext t);have j5:=E (a9.o.ext t);clear l t)
  |(go_at_call 128;refine(c8.o _ _ _ e0.o.vf e6.o.Uh).mono ?_;rintro g o3 ⟨o4,rfl,l,q⟩;have j2:=E l.ints;have j0:=E q.size;have j3:=E (e6.o.ext q);have h8:=E (e0.o.ext q);have i2:=E (ext i1.o q);have j9:=E (j8.o.ext q);have e7:=E (j5.o.ext q);obtain⟨p3,p4,p5,p6,p7,p8,p9,q0⟩:=e7.o.eight;have n6:=e7.o.lt;clear l q)
  |(go_at_call 129;refine(a8.o _ _ j2.o).mono ?_;rintro g a6 ⟨b1,rfl,l,x⟩;obtain⟨e8,e9,g7⟩:=l.ints.shape;rw [i4.o] at g7;subst g7;have L:=E l;have R:=E (j3.o.ext x);have e1:=E (h8.o.ext x);have i3:=E (ext i2.o x);have T:=E (j9.o.ext x);obtain⟨l5,l6,l7,l8,l9⟩:=T.o.cL;obtain⟨m0,m1,m2,m3,m4⟩:=T.o.eU;have n8:=T.o.lt;clear l x))
 obtain⟨a0,off,o0,n9,k4,n3,a3,a5, -, -⟩:=e1.o.vf.cellAt (j:=0) (by rw [e4.o];omega);subst k4;rw [show c.getD 0 Fr.ae=sS c 0 from rfl] at a3 a5;obtain⟨b4,b9⟩:∃c5,(sS c 0).W=c5:=⟨_,rfl⟩;obtain⟨b2,b8⟩:∃c5,(sS c 0).H=c5:=⟨_,rfl⟩;have e5:=E (YI b9 b8);rw [b9] at a3;rw [b8] at a5;clear b9 b8
 have n1:a6.cell? ⟨a0,off,I⟩=K (A G b4):=by simpa using a3
 have n2:a6.cell? ⟨a0,off+1,I⟩=K (A G b2):=by simpa using a5
 skip
 clear a3 a5
 go_region
 go_wp2;obtain⟨k8,k9,l0,l1,l2⟩:=(T.o.rE (A G b4) (A G b2) (U (K ⟨a0,off,I⟩) p g1) (U g2 g4 g3) (U e8 g0 e9)).cL;refine YD (by simp [YU,results89,go_sem,k8,k9,l0,l1,l2];try rfl) rfl ?_;obtain⟨c4,D⟩:∃k0,k0=(((((a6.setCell ⟨f.heap.size+1,0,I⟩ (A G b4)).setCell ⟨f.heap.size+1,1,I⟩ (A G b2)).setCell ⟨f.heap.size+1,2,I⟩ (U (K ⟨a0,off,I⟩) p g1)).setCell ⟨f.heap.size+1,3,I⟩ (U g2 g4 g3)).setCell ⟨f.heap.size+1,4,I⟩ (U e8 g0 e9)).drew:=⟨_,rfl⟩
 have P:af (·=f.heap.size+1) a6 c4:=by rw [D];exact jn (aL (aL (aL (aL (aL (af.refl _ _) rfl) rfl) rfl) rfl) rfl)
 have m7:f.heap.size+2<=l3.heap.size:=Yl Y i6.o;have m8:=i7.o;have m9:=i9.o;have n0:=j0.o
 have h0:∀a7,f.heap.size+2<=a7->∀k,a7<=k->¬k=f.heap.size+1:=λa7 i k s=>by omega
 refine⟨_,_,_,by rw [e5.o.1,e5.o.2],?_,?_,?_,?_⟩
 .rw [<-D]
  exact(e1.o.dS P (λk g=>by have k1:k=f.heap.size+1:=g;omega)).mono O
 .rw [<-D]
  exact(show gi c4 _ _ _ from⟨an R.o.1 λk y=>P.block k (lX R.o.1 y) (h0 _ O k (R.o.1.lt k y).1),R.o.2⟩).mono O
 .rw [<-D]
  exact(show aa c4 _ _ _ from⟨an L.o.1 λk y=>P.block k (lX L.o.1 y) (h0 _ O k (L.o.1.lt k y).1),L.o.2⟩).mono O
 .rw [<-D]
  exact i3.o.trans (P.below (λk g=>by have k1:k=f.heap.size+1:=g;omega) O)
end
end Go.Proofs.YtajkpgaheechmaaGreatDoor
