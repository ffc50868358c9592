/- DiskK DiskX DiskY DiskAa DiskZ -/
import Derived.Test.YtajkpgaheechmaaGreatDoorZAH
set_option maxRecDepth 100000
set_option maxHeartbeats 16000000
set_option linter.unusedSimpArgs false
set_option linter.unusedVariables false
set_option linter.unusedSectionVars false
namespace Go.Proofs.YtajkpgaheechmaaGreatDoor
open _root_.Go.Proofs.Tryz
open Go.Value renaming int->A,slice->U,pointer->Q,nilIface->Ya,string->Yb,tuple->Ye,ownBlock->YT
open Go.IntKind renaming i64->G,wrap->Zc
open Option renaming none->I,some->K
open Go.Ending renaming returned->e
open Go renaming World->V,Value->Z,Calls->d,Addr->Yi,maxLen->YO
open Go.RowKit renaming Below->X,intOf->Yz
open Or renaming inl->Yg,inr->Yh
open Go.World renaming ownsRow_nil->YC
open Nat renaming le_refl->Yk,le_trans->Yl,zero_le->Yr,lt_of_lt_of_le->Yv
open Go.RowKit.Below renaming refl->Yn
open List renaming getD_eq_getElem?_getD->Yp,length_append->Yq,getElem?_eq_getElem->YM,length_singleton->Zb
open Go.IntWalk renaming i64_in->Yx
open Option.some renaming inj->YG
open Bool renaming and_eq_true->YV
section
open Go.RowKit Go.Extern.Stop Go.Stop Go.Extern Go.Maps Go.Sort
theorem NP:(prog.info? 3).map (λa=>(a.zero,a.size,a.bytes))=K (K (A G 0),1,8):=B
def MF(b:DS)(a:V)(g:Ending)(f:V):Prop:=∃c,g=e c/\f.ownsRow a 3 1 c (dD b).length ((dD b).map pA)/\X a a f
theorem Oh(b8:Nat)(r:bY)(a:DS)(h7:Nat)(f:V)(J:DP f b8 r a)(e1:Inv a h7)(p2:h7<=100000):
  d prog 73 #[Q (K b8)] f (MF a f):=by
 have a3:=E J;have o7:=E e1;have h3:=E (show f.ownsMap prog 9 (plainElem prog 3) r.bs a.safe.length (ui a.safe) from J.rN);have m2:=J.rN.lt
 have n0:a.safe.length+a.steps.length<=100000:=by have:=e1.lJ;omega
 have o8:f.cell? ⟨b8,3,I⟩=K (.map (K r.bs)):=J.cell 3
 have g8:Hd (∀h:List Bs,h.Perm (cK a.safe)->(h.map (aM a.safe)).Perm ((cK a.safe).map (aM a.safe))):=λh z=>z.map _
 clear J e1;go_enter func73,ntmps73
 go_wp2_with (at_range;refine wpList_range_own _ rfl _ 123 rfl 9 3 qj underlying123 _ r.bs _ _ rfl h3.o ?_;intro w0 j5 w n3)
 go_frame;have k8:=E j5;have m1:X f f w0:=⟨w.os,w.tape,w.output,w.size,λb x=>w.block b x Y⟩;clear j5 w n3
 go_loopw [3] (λa1 wr=>∃(left:Lit->Bool) (c7:Nat) (h:List Bs),wr.ranges prog 9 (plainElem prog 3) r.bs f a.safe.length (ui a.safe) left c7/\h.length+c7<=a.safe.length/\Collected (ui a.safe) left h/\wr.ownsRow f 3 1 a1 h.length ((h.map (aM a.safe)).map pA)/\X f f wr)
  (λ_ wr=>wr.rangeLeft r.bs f)
 case atStart=>exact⟨_,_,[],k8.o,by simp [rI],Collected.start _,YC _ _ _ _,m1⟩
 case round=>
  obtain⟨left,c7,h,j4,m4,i3,j,L⟩:=hrel;have a7:=E j4;have c1:=E i3;obtain⟨c,e8⟩:∃c,h.length=c:=⟨_,rfl⟩;have D:Hd (h.length=c):=e8;rw [e8] at m4 j;obtain⟨c6,g2,rfl⟩:=aK j;have a8:=E j;have p4:c<=100000:=O;clear j4 i3 j e8
  go_wp2_with (at_next;refine wpList_next_ranges _ rfl _ rfl 9 qj (plainElem prog 3) Go.Proofs.encStr (A G) (λp6 o0 x=>by obtain⟨n,n9,_⟩:=Maps.keyOf_str underlying9 x;exact⟨n,n9⟩) (λo5 c0 t=>by obtain⟨l,rfl,_⟩:=plainElem_int_inv underlying3 t;exact⟨l,rfl⟩) r.bs f _ _ _ _ rfl a7.o ?_ ?_)
  .intro m3 b2
   have z:=c1.o.perm h3.o qj underlying9 b2;rw [lK] at z;have h4:=E (g8.o h z)
   have m7:c+a.steps.length<=100000:=by rw [<-D.o,z.length_eq];simpa [cK] using n0
   obtain⟨i,b3⟩:∃i,h.map (aM a.safe)=i:=⟨_,rfl⟩
   have j1:i.length=c:=by rw [<-b3,List.length_map,D.o]
   rw [b3] at h4
   have l2:Hd (wr.ownsRow f 3 1 (U c6 c g2) c (i.map pA)):=by rw [<-b3];exact a8.o
   have h0:=E j1;clear z b2 m3 b3 a8 D c1 a7 g8 j1;have g7:=E (a3.o.stays λb x=>L.block b (a3.o.lt x));obtain⟨j9,o2,b7⟩:=aK g7.o.lJ;obtain⟨v,e9⟩:∃v,a.steps.length=v:=⟨_,rfl⟩;have c3:=E e9;rw [e9] at b7 m7;have o9:wr.cell? ⟨b8,4,I⟩=K (U j9 v o2):=(g7.o.cell 4).trans (congrArg K b7);have l1:=E b7;have g5:=E L;clear b7 e9 L;obtain⟨b9,n8⟩:∃b9,b9=wr:=⟨_,rfl⟩;subst n8;go_wp2
   go_loopw [3,26] (λo g0 wr=>∃b:Nat,b<=v/\g0=A G b/\wr.ownsRow f 3 1 o (i++fP a.steps b).length ((i++fP a.steps b).map pA)/\X f b9 wr) (λ_ g0 _=>v - (Yz g0).toNat)
   case atStart=>exact⟨0,Yr _,rfl,by rw [show fP a.steps 0=[] from rfl,List.append_nil,h0.o];exact l2.o,Yn _ _⟩
   case round=>
    obtain⟨b,x,rfl,j,b1⟩:=hrel;have g6:=E b1;have m9:=Ol a.steps b
    have m8:(i++fP a.steps b).length<=100000:=by rw [Yq,h0.o];omega
    obtain⟨k,e6⟩:∃k,(i++fP a.steps b).length=k:=⟨_,rfl⟩;have a5:=E e6;rw [e6] at j m8;obtain⟨o1,a0,rfl⟩:=aK j;have c4:=E j;have k0:f.heap.size<=wr.heap.size:=Yl g5.o.size b1.size;clear j e6 m9;have P:=g5.o.trans b1;by_cases b4:b<v
    .have k6:=E (a3.o.stays λg1 R=>P.block g1 (a3.o.lt R))
     have y:b<a.steps.length:=by rw [c3.o];exact b4
     have a6:=E (Fy a.steps y)
     obtain⟨g,n6,i7,l7,l8,l9,m0⟩:∃g,j9=K ⟨g,0,I⟩/\g<wr.heap.size/\wr.cell? ⟨g,b*4,I⟩=K (A G ((a.steps.getD b ⟨0,[],[],0⟩).kind:Int))/\wr.cell? ⟨g,b*4+1,I⟩=K (Yb ⟨(a.steps.getD b ⟨0,[],[],0⟩).name.toArray⟩)/\wr.cell? ⟨g,b*4+2,I⟩=K (Yb ⟨(a.steps.getD b ⟨0,[],[],0⟩).to.toArray⟩)/\wr.cell? ⟨g,b*4+3,I⟩=K (A G ((a.steps.getD b ⟨0,[],[],0⟩).file:Int)):=by
      have C:=k6.o.lJ;rw [l1.o,c3.o] at C
      rcases aV C with⟨_,c8⟩|⟨g,p0,F, -,m6, -⟩
      .omega
      .obtain⟨rfl, -,rfl⟩:=Value.slice.inj F
       exact⟨g,rfl,m6,au C (dz (m:=4) (c:=0) (λ_=>rfl) _ y H),au C (dz (m:=4) (c:=1) (λ_=>rfl) _ y H),au C (dz (m:=4) (c:=2) (λ_=>rfl) _ y H),au C (dz (m:=4) (c:=3) (λ_=>rfl) _ y H)⟩
     subst n6;generalize a.steps.getD b ⟨0,[],[],0⟩=o3 at*;obtain⟨j8,p7,p8,i0⟩:=o3;simp only at l7 l8 l9 m0;clear y P b1;by_cases i9:j8=0
     .subst i9
      have c2:Hd (fP a.steps (b+1)=fP a.steps b++[i0]):=by show _=_;rw [a6.o];rfl
      clear a6
      go_wp2_with (at_builtin;refine aX 26 3 1 8 _ underlying26 NP rfl H rfl _ _ rfl f.heap.size (U o1 k a0) k ((i++fP a.steps b).map pA) [A G i0] rfl (c4.o.alloc _) rfl Y rfl (by intro o4 W;simp at W;subst W;rfl) O H (by simp;omega) ?_;intro k1 g4 b5 a9 e5 _;go_frame)
      have n1:X f b9 g4:=(g6.o.alloc k0 _).trans a9
      have n2:g4.ownsRow f 3 1 k1 (i++fP a.steps (b+1)).length ((i++fP a.steps (b+1)).map pA):=by
       rw [c2.o,<-List.append_assoc,Yq,a5.o,List.map_append];exact b5
      clear b5 e5 a9;go_wp2;go_roundw
      case rel=>exact⟨b+1,O,S,n2,n1⟩
      case measure=>simp [Yz];omega
     .have c2:Hd (fP a.steps (b+1)=fP a.steps b):=by show _=_;rw [a6.o,if_neg i9]
      have q:((j8:Int)==0)=false:=by simp;omega
      clear a6;go_wp2;go_roundw
      case rel=>exact⟨b+1,O,S,by rw [c2.o,a5.o];exact c4.o.alloc _,g6.o.alloc k0 _⟩
      case measure=>simp [Yz];omega
    .have l6:b=v:=O
     subst l6
     have e3:fP a.steps b=(a.steps.filter λa1=>a1.kind==0).map λa1=>a1.file:=by unfold fP;rw [<-c3.o,List.take_length]
     have b6:(i++fP a.steps b).Perm (vE a):=by rw [e3];exact h4.o.append_right _
     have T:(((i++fP a.steps b).map λc:Nat=>(c:Int)).mergeSort λn c0=>decide (n<=c0))=(dD a).map λc:Nat=>(c:Int):=by rw [xp (b6.map _),G_];rfl
     have e7:(i++fP a.steps b).map pA=((i++fP a.steps b).map λc:Nat=>(c:Int)).map (A G):=by rw [List.map_map];rfl
     have s:((i++fP a.steps b).map λc:Nat=>(c:Int)).length=k:=by rw [List.length_map,a5.o]
     have h1:Hd ((dD a).length=k):=by show _=_;rw [<-a5.o,b6.length_eq];simp [dD]
     have k7:Hd ((dD a).map pA=((dD a).map λc:Nat=>(c:Int)).map (A G)):=by show _=_;rw [List.map_map];rfl
     generalize ((i++fP a.steps b).map λc:Nat=>(c:Int))=a2 at*;have j:=c4.o;rw [e7] at j;have l0:=E T
     rcases j.2 with⟨j3,c8⟩|⟨g,cap,p1,t,i5,b0,c9,i1,i2,e0⟩
     .obtain⟨rfl,l5,rfl⟩:=Value.slice.inj j3
      have p5:a2=[]:=List.length_eq_zero_iff.1 (by rw [s,c8]);obtain rfl:k=0:=O;have b2:dD a=[]:=List.length_eq_zero_iff.1 h1.o;clear j j3 c8 l5 e7 s T b6 e3
      go_wp2_with (go_at_call 117;refine(Tryz.xq I 0 _).mono ?_;rintro F g3 ⟨rfl,rfl⟩)
      go_returns;refine⟨U I 0 0,rfl,?_,P⟩;rw [b2];exact YC _ _ _ _
     .obtain⟨rfl, -,rfl⟩:=Value.slice.inj t
      rw [<-s] at c9 e0;have g9:Hd (Holds (A G) wr g 0 a2.toArray):=tL b0 (by simpa using e0);have i7:g<wr.heap.size:=(Array.getElem?_eq_some_iff.1 b0).1
      have k9:Hd (∀(u:Nat) (p:Array Obj),(grow (putRow (A G) (Sort.ahead wr u) g 0 ((dD a).map λc:Nat=>(c:Int)).toArray) p).ownsRow f 3 1 (U (K ⟨g,0,I⟩) k a0) (dD a).length ((dD a).map pA)):=λu p=>by
       have:=tN (n:=u) (os:=p) (ts:=a2.mergeSort λn c0=>decide (n<=c0)) (ss:=a2) Y i5 b0 c9 i1 i2;rw [T,s,<-k7.o] at this;rw [h1.o];exact this
      have k4:Hd (d prog 117 #[U (K ⟨g,0,I⟩) k a0] wr λF g3=>F=e (Ye #[])/\∃u p,g3=grow (putRow (A G) (Sort.ahead wr u) g 0 ((dD a).map λc:Nat=>(c:Int)).toArray) p):=by
       have:=Tryz.Pu g 0 a0 a2 wr g9.o i7 (by rw [s];omega);rw [T,s] at this;exact this
      clear j t c9 i1 i2 e0 b0 e7 s T b6 e3 l0 g9
      go_wp2_with (go_at_call 117;refine k4.o.mono ?_;rintro F g3 ⟨rfl,u,p,rfl⟩)
      go_returns;exact⟨U (K ⟨g,0,I⟩) k a0,rfl,k9.o u p,P.grown (tK _) P.size (λg1 R=>by cases R;exact i5)⟩
  .intro n l o0 p9 q0 k2 l4 j0 j2 t e2 j6 b4 e4 n4 p3
   obtain⟨o6,h9,rfl,_⟩:=Maps.keyOf_str underlying9 j0;obtain rfl:n=o6:=encStr_inj h9;obtain⟨l3,h8,j7, -⟩:=plainElem_int_inv underlying3 t
   obtain rfl:l=l3:=by simpa using h8
   obtain⟨i6,o5,m5⟩:=vU e2 (congrArg Prod.fst j7);have c5:Hd (k2.ownsRow f 3 1 (U c6 c g2) c ((h.map (aM a.safe)).map pA)):=a8.o.kept e4 (Or.inr (row_ne_iter a8.o a7.o).symm);have i4:X f f k2:=L.grown e4 L.size (λg1 R=>by cases R;exact Yk _);have k3:=E (c1.o.step j2 e2);have h5:=E j6;have h2:=E b4
   have k5:Hd ((h.map (aM a.safe)).map pA++[A G l]=((h++[n]).map (aM a.safe)).map pA):=by show _=_;rw [i6];simp [pA]
   clear j0 j2 t e2 j6 b4 e4 n4 h9 h8 j7 m5 i6
   go_wp2_with (at_builtin;refine aX 26 3 1 8 _ underlying26 NP rfl H rfl _ _ rfl f.heap.size (U c6 c g2) c ((h.map (aM a.safe)).map pA) [A G l] rfl c5.o rfl rfl rfl (by intro o4 W;simp at W;subst W;rfl) O H i4.size ?_;intro k1 g4 b5 a9 e5 _;go_frame)
   have h6:=E (h5.o.kept e5 (row_ne_low c5.o m2) (row_ne_iter c5.o h5.o));go_roundw
   case rel=>exact⟨_,l4,h++[n],h6.o,by rw [Yq,Zb];have:=h2.o;have:=D.o;omega,k3.o,by rw [Yq,Zb,D.o,<-k5.o];exact b5,i4.trans a9⟩
   case measure=>rw [h6.o.left_eq,a7.o.left_eq];exact h2.o
end
section
open Go.RowKit
def tY(c:List Int)(a:List DF×Nat)(b:Nat):List DF×Nat:=(dy a.1 b (tI c a.2 (a.1.getD b DF.ae)),yZ a.2 (a.1.getD b DF.ae))
theorem nY(f:List Int):∀(a:List Nat) (c:List DF) (b:Nat),ny f a c b=(a.foldl (tY f) (c,b)).1
 |[],_,_=>rfl
 |g::a,c,b=>by unfold ny;rw [nY f a];rfl
def gT(c:List Int)(a:DS)(b:Nat):List DF×Nat:=((dD a).take b).foldl (tY c) (a.all,1)
theorem rU(c:List Int)(a:DS){b:Nat}(f:b<(dD a).length):gT c a (b+1)=tY c (gT c a b) ((dD a).getD b 0):=by
 unfold gT;rw [oO _ 0 f,List.foldl_append];rfl
theorem AD(b:List Int)(a:DS):(gT b a (dD a).length).1=ny b (dD a) a.all 1:=by
 unfold gT;rw [List.take_length,nY]
theorem AE(c:List Int)(a:DS)(b:Nat):(gT c a b).1.length=a.all.length:=by
 unfold gT;rw [<-nY,iT]
theorem Qq(a:Nat)(b:DF):yZ a b<=a+1:=by unfold yZ;split<;>omega
theorem y_(c:List Int)(b:DS):∀a,(gT c b a).2<=a+1
 |0=>by simp [gT]
 |a+1=>by
  by_cases g:a<(dD b).length
  .rw [rU c b g]
   have:=y_ c b a;have h:=Qq (gT c b a).2 ((gT c b a).1.getD ((dD b).getD a 0) DF.ae)
   show yZ _ _<=_
   omega
  .have:=y_ c b a
   have f:gT c b (a+1)=gT c b a:=by unfold gT;rw [List.take_of_length_le O,List.take_of_length_le O]
   rw [f];omega
section
variable {w w2 w3:V} {p:Nat} {L:bY} {D:DS}
theorem DP.LU(a:DP w p L D){j:NM}(c:w.grownBy w2 (K L.bs))(k:aR w2 L.bs j):DP w2 p L {D with safe:=j}:=by
 obtain⟨m,n,o,l,q⟩:=a.others;refine⟨a.ay.grown c λb=>l (YG b).symm,?_,a.len,?_,a.apart,?_,k,a.ne,?_⟩
 .exact cP a.all c λi f b=>fF a.rN a.all (by rw [f,YG b])
 .exact λh g=>cP (a.jl h g) c λi f b=>fF a.rN (a.jl h g) (by rw [f,YG b])
 .exact a.gI.kept c λb=>a.ne (YG b)
 .exact cP a.lJ c λi f b=>fF a.rN a.lJ (by rw [f,YG b])
theorem Rq{f:Nat}{g:Option Yi}{c a cap:Nat}{h:List Z}(b:w.ownsRow 0 f 1 (U g c cap) c h)(t:a<=c):w.ownsRow 0 f 1 (U g a cap) a (h.take a):=by
 obtain⟨s,b|⟨k,q,i,j,o,p,r,l,m,n⟩⟩:=b
 .obtain⟨rfl,rfl,rfl⟩:=Value.slice.inj b.1
  obtain rfl:a=0:=O;simp;exact YC _ _ _ _
 .obtain⟨rfl, -,rfl⟩:=Value.slice.inj j
  refine⟨by rw [List.length_take];omega,Yh ⟨k,cap,i,rfl,o,p,O,l,m,?_⟩⟩;rw [<-n,List.take_take];congr 1;omega
theorem DP.cut(f:DP w p L D){j c cap r:Nat}(i:j<D.all.length)(o:L.va=U (K c) r cap){a:Option Yi}{len b m:Nat}(h:L.at j=U a len b)(k:(D.file j).data.length=len)(q:m<=len):
  DP (w.setCell ⟨c,j*2,I⟩ (U a m b)) p {L with fv:=L.fv.set j (U a m b)} {D with all:=dy D.all j ⟨(D.file j).data.take m,(D.file j).safe⟩}:=by
 refine f.qO i o (w2:=w) ⟨rfl,rfl,rfl,Yk _,λ_ _ _=>rfl⟩ ?_ (Yg ?_)
 .have g:=f.jl j i
  rw [h,k] at g;have n:=Rq g q
  have l:(List.take m (D.file j).data).length=m:=by rw [List.length_take,k];omega
  rw [l]
  simpa [ak,List.map_take] using n
 .rw [h];cases a<;>rfl
theorem DP.crashed(a:DP w p L D){c:Nat}(k:ai w3 p (e_ ⟨L.va,U I 0 0,L.bs,c,L.fv⟩ ⟨D.room,D.all,D.safe,D.safe,[],0,false,0⟩) 126)
  (i:∀b,b≠p->b<w.heap.size->w3.heap[b]? =w.heap[b]?)(l:aR w3 c D.safe)(q:w.heap.size<=c):DP w3 p ⟨L.va,U I 0 0,L.bs,c,L.fv⟩ ⟨D.room,D.all,D.safe,D.safe,[],0,false,0⟩:=by
 obtain⟨m,r,s,n,o⟩:=a.others;refine⟨k,?_,a.len,?_,a.apart,a.rN.ext (i _ n a.rN.lt),l,?_,YC _ _ _ 4⟩
 .exact an a.all λb f=>i b (λg=>m (g▸f)) (lX a.all f)
 .exact λj h=>an (a.jl j h) λb f=>i b (λg=>o j h (g▸f)) (lX (a.jl j h) f)
 .have:=a.rN.lt;show L.bs≠c;omega
end
theorem jf.take{c:Nat}:∀{f:List kY} {a:NM},jf c a f->∀b,jf c a (f.take b)
 |[],a,h,b=>by rw [List.take_nil];exact h
 |q::p,a,h,0=>h.start
 |q::p,a,h,b+1=>by
  obtain⟨g,i,j,k,l,m,n,o⟩:=h;exact⟨g,i,j,k,l,m,n,jf.take o b⟩
theorem jf.at{b:Nat}:∀{l:List kY} {a:NM},jf b a l->∀{k:Nat},k<l.length->
  (l.getD k ⟨0,[],[],0⟩).kind<=2/\(l.getD k ⟨0,[],[],0⟩).name.length<=24/\(l.getD k ⟨0,[],[],0⟩).to.length<=24/\(l.getD k ⟨0,[],[],0⟩).file<=b/\∀q∈(l.take k).foldl eT a,q.2<b
 |[],_,_,_,hk=>by simp at hk
 |g::f,a,h,0,_=>⟨h.2.1,h.2.2.1,h.2.2.2.1,h.2.2.2.2.1,h.1⟩
 |g::f,a,h,k+1,hk=>by
  obtain⟨i,j,m,n,o,p,r,c⟩:=h;exact jf.at c (k:=k) (by simpa using hk)
theorem s_(a:NM)(b:kY):(eT a b).length<=a.length+1:=by
 unfold eT;split
 .exact td _ _ _
 .split
  .have:=td (nK a b.name) b.to (aM a b.name);have:=oh a b.name;omega
  .have:=oh a b.name;omega
theorem oe:∀(b:List kY) (a:NM),(b.foldl eT a).length<=a.length+b.length
 |[],_=>by simp
 |c::f,a=>by
  have:=oe f (eT a c);have:=s_ a c;simp only [List.foldl_cons,List.length_cons];omega
end
section
open Go.RowKit Go.Extern.Stop Go.Stop Go.Extern Go.Maps Go.Sort
theorem jf.made{f:Nat}:∀{g:List kY} {h:NM},jf f h g->∀c∈g,c.kind=0->c.file<f
 |[],_,_,_,a=>by simp at a
 |c::r,h,a,k,b=>by
  obtain⟨l,m,n,o,p,i,q,j⟩:=a
  rcases List.mem_cons.1 b with rfl|b
  .exact i
  .exact jf.made j k b
theorem Og{a:DS}{j:Nat}(i:Inv a j):∀g∈dD a,g<a.all.length:=by
 intro g k;have h:g∈vE a:=List.mem_mergeSort.1 k;unfold vE at h
 rcases List.mem_append.1 h with b|b
 .obtain⟨p,m,rfl⟩:=List.mem_map.1 b
  obtain⟨o,c,f⟩:=oV m;unfold aM;rw [c];exact i.UP _ f
 .obtain⟨n,l,rfl⟩:=List.mem_map.1 b
  obtain⟨c,f⟩:=List.mem_filter.1 l;exact i.runs.made n c (by simpa using f)
theorem KO{a:DS}{b:Nat}(c:Inv a b):(dD a).length<=b:=by
 have g:(dD a).length=(vE a).length:=by simp [dD]
 have h:(vE a).length<=a.safe.length+a.steps.length:=by
  unfold vE;rw [Yq,List.length_map,List.length_map];have:=List.length_filter_le (λf:kY=>f.kind==0) a.steps;simp only [cK,List.length_map];omega
 have:=c.lJ;omega
theorem Qp{c:List Int}{b:Nat}{a:DF}(f:a.safe<=a.data.length/\a.data.length<=16777216):(tI c b a).safe<=(tI c b a).data.length/\(tI c b a).data.length<=16777216:=by
 unfold tI;split
 .refine⟨Yk _,?_⟩
  simp only [List.length_take];omega
 .exact⟨Yk _,f.2⟩
theorem qL{picks:List Int}{b:DS}{g:Nat}(f:Inv b g):∀a c,c<b.all.length->((gT picks b a).1.getD c DF.ae).safe<=((gT picks b a).1.getD c DF.ae).data.length/\((gT picks b a).1.getD c DF.ae).data.length<=16777216
 |0,c,hj=>f.data c hj
 |a+1,c,hj=>by
  by_cases i:a<(dD b).length
  .rw [rU picks b i]
   show((dy (gT picks b a).1 _ _).getD c DF.ae).safe<=_/\_
   unfold tY;simp only;rw [dA];split
   .rename_i j
    obtain⟨rfl,k⟩:=j;exact Qp (qL f a _ hj)
   .exact qL f a c hj
  .have h:gT picks b (a+1)=gT picks b a:=by unfold gT;rw [List.take_of_length_le O,List.take_of_length_le O]
   rw [h];exact qL f a c hj
end
section
open Go.RowKit
theorem Inv.mono{b:DS}{T c:Nat}(a:Inv b T)(f:T<=c):Inv b c:=
 ⟨a.room,⟨a.done.1,by have:=a.done.2;omega⟩,a.c_,by have:=a.gI;omega,by have:=a.lJ;omega,by have:=a.me;omega,a.runs,a.ends,a.data⟩
theorem Jv{a:DS}(b:0<=a.c_/\a.c_<=9223372036854775807):0<=nU a/\nU a<=9223372036854775807:=by
 unfold nU;split<;>omega
theorem Inv.mg{b:DS}{c:Nat}(a:Inv b c):Inv (cI b) (c+1):=
 ⟨a.room,by have:=a.done;show 0<=b.done+1/\b.done+1<=_;omega,Jv a.c_,by have:=a.gI;show b.names.length<=_;omega,by have:=a.lJ;show b.safe.length+b.steps.length<=_;omega,by have:=a.me;show b.all.length<=_;omega,a.runs,a.ends,a.data⟩
theorem Inv.cq{b:DS}{c:Nat}(a:Inv b c)(f:Int):Inv (cq b f) (c+1):=by
 unfold Go.Proofs.YtajkpgaheechmaaGreatDoor.cq;split
 .exact a.mono O
 .split
  .exact a.mono O
  .exact a.mg
theorem jf.mono{f g:Nat}(a:f<=g):∀{i:List kY} {c:NM},jf f c i->jf g c i
 |[],_,h=>λq b=>Yv (h q b) a
 |u::t,c,h=>by
  obtain⟨k,l,m,n,s,o,p,r⟩:=h;exact⟨λq b=>Yv (k q b) a,l,m,n,O,λj=>Yv (o j) a,p,jf.mono a r⟩
structure Fits(N:Nat)(m:NM)(s:kY):Prop where
 kind:s.kind<=2
 name:s.name.length<=24
 to:s.to.length<=24
 file:s.file<=N
 made:s.kind=0->s.file<N
 RY:s.kind=1->(bT m s.name).isSome=true
theorem P'{b:Nat}{f:NM}{g:kY}(c:∀q∈f,q.2<b)(h:Fits b f g):∀q∈eT f g,q.2<b:=by
 intro q a;unfold eT at a;split at a
 .rename_i j
  rcases ri a with rfl|a
  .exact h.made j
  .exact c q a
 .split at a
  .rename_i k
   rcases ri a with rfl|a
   .obtain⟨l,i⟩:=Option.isSome_iff_exists.1 (h.RY k)
    show aM f g.name<b
    unfold aM;rw [i];exact c _ (jF i)
   .exact c q (rh a)
  .exact c q (rh a)
theorem jf.snoc{b:Nat}{f:kY}:∀{c:List kY} {a:NM},jf b a c->Fits b (c.foldl eT a) f->jf b a (c++[f])
 |[],a,h,hs=>⟨h,hs.kind,hs.name,hs.to,hs.file,hs.made,hs.RY,P' h hs⟩
 |q::p,a,h,hs=>by
  obtain⟨g,i,j,k,l,m,n,o⟩:=h;exact⟨g,i,j,k,l,m,n,jf.snoc o hs⟩
theorem Inv.ja{a:DS}{f:Nat}(b:Inv a f){c:kY}(g:Fits a.all.length a.names c):Inv (ja a c) (f+1):=by
 refine⟨b.room,⟨b.done.1,by have:=b.done.2;show a.done<=_;omega⟩,b.c_,?_,?_,by have:=b.me;show a.all.length<=_;omega,?_,?_,b.data⟩
 .have:=s_ a.names c;have:=b.gI;show(eT a.names c).length<=_;omega
 .have:=b.lJ;show a.safe.length+(a.steps++[c]).length<=_;rw [Yq,Zb];omega
 .exact b.runs.snoc (by rw [<-b.ends];exact g)
 .show eT a.names c=(a.steps++[c]).foldl eT a.safe
  rw [List.foldl_append,<-b.ends];rfl
theorem Inv.IV{a:DS}{h:Nat}(b:Inv a h)(c:Nat){f:DF}(i:f.safe<=f.data.length/\f.data.length<=16777216):Inv {a with all:=dy a.all c f} h:=by
 refine⟨b.room,b.done,b.c_,b.gI,b.lJ,by show(dy a.all c f).length<=_;rw [cB];exact b.me,by show jf (dy a.all c f).length a.safe a.steps;rw [cB];exact b.runs,b.ends,?_⟩;intro g j
 have k:g<a.all.length:=by rw [<-cB a.all c f];exact j
 show((dy a.all c f).getD g DF.ae).safe<=((dy a.all c f).getD g DF.ae).data.length/\_
 show _/\((dy a.all c f).getD g DF.ae).data.length<=_
 rw [dA];split
 .exact i
 .exact b.data g k
theorem Inv.file{a:DS}{c:Nat}(f:Inv a c)(b:Nat):(a.file b).safe<=(a.file b).data.length/\(a.file b).data.length<=16777216:=by
 by_cases g:b<a.all.length
 .exact f.data b g
 .unfold DS.file
  rw [Yp,List.getElem?_eq_none O];simp [DF.ae]
theorem nc{b:Bs}(a:dF b=true):b.length<=24:=by
 unfold dF at a;simp only [YV,decide_eq_true_eq] at a;exact a.2
theorem Inv.made{a:DS}{f:Nat}(b:Inv a f):Inv {a with all:=a.all++[DF.ae]} (f+1):=by
 refine⟨b.room,⟨b.done.1,by have:=b.done.2;show a.done<=_;omega⟩,b.c_,by have:=b.gI;show a.names.length<=_;omega,by have:=b.lJ;show a.safe.length+a.steps.length<=_;omega,?_,?_,b.ends,?_⟩
 .have:=b.me;show(a.all++[DF.ae]).length<=_;rw [Yq,Zb];omega
 .show jf (a.all++[DF.ae]).length a.safe a.steps
  exact b.runs.mono (by rw [Yq];omega)
 .intro c j
  show((a.all++[DF.ae]).getD c DF.ae).safe<=((a.all++[DF.ae]).getD c DF.ae).data.length/\((a.all++[DF.ae]).getD c DF.ae).data.length<=16777216
  by_cases g:c<a.all.length
  .rw [dQ g];exact b.data c g
  .have:(a.all++[DF.ae]).length<=c+1:=by rw [Yq,Zb];omega
   have h:c=a.all.length:=by
    have i:c<(a.all++[DF.ae]).length:=j;rw [Yq,Zb] at i;omega
   rw [h,cS];simp [DF.ae]
theorem yY{b:DS}{c:Bs}(a:bU b c=0):dF c=true/\bT b.names c=I/\b.names.length<64:=by
 unfold bU at a
 cases h1:dF c with
 |false=>rw [h1] at a;simp at a
 |true=>
  rw [h1] at a
  cases h2:bT b.names c with
  |some g=>rw [h2] at a;simp at a
  |none=>
   rw [h2] at a;refine⟨rfl,rfl,?_⟩;by_cases f:64<=b.names.length
   .simp [f] at a
   .omega
theorem Inv.br{a:DS}{b:Nat}(c:Inv a b)(k:Bs):Inv (br a k) (b+3):=by
 unfold Go.Proofs.YtajkpgaheechmaaGreatDoor.br;split
 .rename_i j
  obtain⟨-,g, -,i⟩:=cT j;rw [i];obtain⟨h, -, -⟩:=yY g;refine Inv.mono (T:=b+1+1+1) (Inv.ja (c.mg.made) ⟨Yr _,nc h,Yr _,?_,λ_=>?_,λf=>(by cases f)⟩) O
  .show a.all.length<=(a.all++[DF.ae]).length;rw [Yq];omega
  .show a.all.length<(a.all++[DF.ae]).length;rw [Yq,Zb];omega
 .exact(c.cq _).mono O
theorem IE{f:Bs->Nat}:∀{c:List Bs} {b:Bs},b∈c->f b<=(c.map f).sum
 |h::g,b,a=>by
  rw [List.map_cons,List.sum_cons]
  rcases List.mem_cons.1 a with rfl|a
  .omega
  .have:=IE (f:=f) a;omega
theorem tj{b:NM}{a:Bs}{f:Nat}(c:bT b a=K f):a∈cK b:=List.mem_map.2 ⟨_,jF c,rfl⟩
theorem uz{b:DS}{g f:Bs}(a:iN b g f=0):b.down=false/\ba b g=0/\¬(f≠[]/\b.room - fD b<f.length):=by
 unfold iN at a
 cases h1:b.down with
 |true=>rw [h1] at a;simp at a
 |false=>
  rw [h1] at a;by_cases c:ba b g=0
  .refine⟨rfl,c,λh=>?_⟩
   rw [if_neg Y,if_neg (by rw [c];simp),if_pos h] at a;simp at a
  .rw [if_neg Y,if_pos c] at a
   exact absurd a c
theorem MN{a:DS}{i:Nat}(h:Inv a i){c b:Bs}(j:iN a c b=0):(tH a c b).safe<=(tH a c b).data.length/\(tH a c b).data.length<=16777216:=by
 obtain⟨-,o,l⟩:=uz j;obtain⟨-,m⟩:=jP o;have p:=h.file (aM a.names c);have n:=IE (f:=iJ a) (tj m);have t:(a.file (aM a.names c)).data.length<=fD a:=n;have s:=h.room
 have r:(if fj a then b.take (b.length / 2) else b).length<=b.length:=by
  split
  .rw [List.length_take];omega
  .omega
 unfold tH;rw [Yq];refine⟨by simp only;omega,?_⟩;by_cases g:b=[]
 .have q:b.length=0:=by rw [g];rfl
  omega
 .have:¬a.room - fD a<b.length:=λk=>l ⟨g,k⟩
  omega
theorem Inv.du{a:DS}{c:Nat}(b:Inv a c)(h f:Bs):Inv (du a h f) (c+3):=by
 unfold Go.Proofs.YtajkpgaheechmaaGreatDoor.du;split
 .exact b.mono O
 .rename_i g
  have g:iN a h f=0:=O;exact(b.mg.IV _ (MN b g)).mono O
theorem Inv.cV{a:DS}{g:Nat}(c:Inv a g)(b:Bs):Inv (cV a b) (g+3):=by
 unfold Go.Proofs.YtajkpgaheechmaaGreatDoor.cV;split
 .exact(c.mg.IV (aM a.names b) (f:=wK a b) ⟨Yk _,(c.file (aM a.names b)).2⟩).mono O
 .exact(c.cq _).mono O
theorem Inv.gO{b:DS}{c:Nat}(h:Inv b c)(f g:Bs):Inv (gO b f g) (c+3):=by
 unfold Go.Proofs.YtajkpgaheechmaaGreatDoor.gO;split
 .rename_i k
  obtain⟨-,a, -, -⟩:=cT k;unfold tu at a
  cases hb:dF g with
  |false=>rw [hb] at a;simp at a
  |true=>
   rw [hb] at a;obtain⟨j,l⟩:=jP (a:ba b f=0);refine Inv.mono (T:=c+1+1) (Inv.ja h.mg ⟨by show 1<=2;omega,nc j,nc hb,Yr _,λi=>(by cases i),λ_=>?_⟩) O
   show(bT b.names f).isSome=true
   rw [l];rfl
 .exact(h.cq _).mono O
theorem Inv.jK{c:DS}{a:Nat}(f:Inv c a)(j:Bs):Inv (jK c j) (a+3):=by
 unfold Go.Proofs.YtajkpgaheechmaaGreatDoor.jK;split
 .rename_i i
  obtain⟨-,g, -, -⟩:=cT i;obtain⟨h,k⟩:=jP g;exact Inv.mono (T:=a+1+1) (Inv.ja f.mg ⟨Yk 2,nc h,Yr _,Yr _,λb=>(by cases b),λb=>(by cases b)⟩) O
 .exact(f.cq _).mono O
theorem Inv.dG{c:DS}{a:Nat}(b:Inv c a):Inv (dG c) (a+3):=by
 unfold Go.Proofs.YtajkpgaheechmaaGreatDoor.dG;split
 .have:=b.mg
  exact Inv.mono (T:=a+1) ⟨this.room,this.done,this.c_,this.gI,this.gI,this.me,b.PO,rfl,this.data⟩ O
 .exact(b.cq _).mono O
theorem Inv.qC{f:DS}{b:Nat}(a:Inv f b)(c:Int)(g:bh c):Inv (qC f c) (b+3):=by
 unfold Go.Proofs.YtajkpgaheechmaaGreatDoor.qC;split
 .exact a.mono O
 .refine Inv.mono (T:=b) ⟨a.room,a.done,?_,a.gI,a.lJ,a.me,a.runs,a.ends,a.data⟩ O
  unfold bh at g
  show 0<=max c 0/\max c 0<=_
  omega
theorem JO{a:DS}{b:Nat}(c:Inv a b)(f:List Int):∀q∈jk a f,q.2<a.all.length:=by
 unfold jk;exact(c.runs.take _).last
theorem Inv.jS{a:DS}{c:Nat}(f:Inv a c)(b:List Int):Inv (jS a b) (c+3):=by
 have j:(jk a b).length<=c:=by
  unfold jk;have:=oe (a.steps.take (kP b 0 a.steps.length)) a.safe;have:=f.lJ;rw [List.length_take] at*;omega
 refine Inv.mono (T:=c) ⟨f.room,⟨Int.le_refl 0,by show(0:Int)<=_;omega⟩,⟨Int.le_refl 0,by show(0:Int)<=_;omega⟩,j,by show(jk a b).length+0<=_;omega,?_,?_,rfl,?_⟩ O
 .show(ny b (dD a) a.all 1).length<=_;rw [iT];exact f.me
 .show∀q∈jk a b,q.2<(ny b (dD a) a.all 1).length
  rw [iT];exact JO f b
 .intro g h
  have i:g<a.all.length:=by rw [<-iT b (dD a) a.all 1];exact h
  have:=qL (picks:=b) f (dD a).length g i;rw [AD] at this;exact this
theorem Inv.new{room:Int}(a:0<=room/\room<=16777216):Inv (dZ room) 0:=
 ⟨a,⟨Int.le_refl 0,Int.le_refl 0⟩,⟨Int.le_refl 0,by show(0:Int)<=_;omega⟩,Yk 0,Yk 0,Yk 0,λq c=>by simp [dZ] at c,rfl,λf b=>by simp [dZ] at b⟩
end
section
open Go.RowKit Go.Extern.Stop Go.Stop Go.Extern Go.Maps Go.Sort
def Jg(a:Nat)(c:bY)(i:DS)(g:V)(j:Ending)(h:V):Prop:=
 j=e (Ye #[])/\∃f,DP h a f i/\(∀b,f.has a b->c.has a b∨g.heap.size<=b)/\af (c.has a) g h
theorem Cw(c:List Int)(b a:Nat):kP c b a<=a:=by
 unfold kP;split
 .exact Nat.le_of_lt_succ (Nat.mod_lt _ O)
 .omega
theorem JP(j:Nat)(i:bY)(a:DS)(k:List Int)(g7:Z)(i0:Nat)(T:V)(x:DP T j i a)(c3:Inv a i0)(p5:i0<=100000)(j8:∀L,af (i.has j) T L->aY L g7 k):
  d prog 32 #[Q (K j),g7] T (Jg j i (jS a k) T):=by
 have n0:=E (Oh j i a i0 T x c3 p5);have e1:=E x;have c1:=E c3;have o0:=E j8;have m3:=c3.lJ;have q2:=KO c3;obtain⟨g6,e0,g4⟩:=aK x.lJ;obtain⟨R,j7⟩:∃R,a.steps.length=R:=⟨_,rfl⟩;have e7:=E j7;rw [j7] at g4 m3;have h9:=E g4;have u2:T.cell? ⟨j,4,I⟩=K (U g6 R e0):=(x.cell 4).trans (congrArg K g4);have k5:=E (Cx g7 k 0 R T (j8 T (af.refl _ _)) O O);have p3:=Cw k 0 R;obtain⟨a2,i9⟩:∃a2,kP k 0 R=a2:=⟨_,rfl⟩;have n2:=E i9;rw [i9] at k5 p3;obtain⟨a5,j2⟩:∃a5,(dD a).length=a5:=⟨_,rfl⟩;have h6:=E j2;rw [j2] at q2;clear x c3 j8 j7 g4 i9 j2;go_enter func32,ntmps32
 go_wp2_with (first
  |(go_at_call 72;refine k5.o.mono ?_;rintro p L ⟨rfl,a3⟩;have i3:=a3.symm;clear a3;subst i3)
  |(go_at_call 73;refine n0.o.mono ?_;rintro p k0 ⟨w8,rfl,g3,l2⟩;rw [h6.o] at g3;obtain⟨m5,r4,rfl⟩:=aK g3;have h8:=E g3;clear g3))
 have g9:=E l2
 go_loopw [5,23] (λt idx wr=>∃(g:Nat) (r:List Z),g<=a5/\idx=A G g/\t=A G ((gT k a g).2:Int)/\DP wr j {i with fv:=r} {a with all:=(gT k a g).1}/\r.length=i.fv.length/\(∀z,z<i.fv.length->(r.getD z Ya).ownBlock=(i.fv.getD z Ya).ownBlock)/\af (i.has j) k0 wr) (λ_ idx _=>a5 - (Yz idx).toNat)
 case atStart=>exact⟨0,i.fv,Yr _,rfl,rfl,e1.o.stays (λg v=>l2.block g (e1.o.lt v)),rfl,λ_ _=>rfl,af.refl _ _⟩
 case round=>
  obtain⟨g,r,v,rfl,rfl,k9,l4,l5,l7⟩:=hrel;have J:=E k9;have b0:=E l7;have h2:=E l5;have e4:=E l4;have l3:=y_ k a g;clear k9 l7 l5 l4;by_cases j3:g<a5
  .have c5:g<(dD a).length:=by rw [h6.o];exact j3
   have b8:=E (rU k a c5);have j6:(dD a).getD g 0<a.all.length:=Og c1.o _ (by rw [Yp,YM c5];exact List.getElem_mem c5);have k3:=E (qL (picks:=k) c1.o g _ j6)
   have k4:Hd (wr.ownsRow T 3 1 (U m5 a5 r4) a5 ((dD a).map pA)):=an h8.o λi1 p=>b0.o.block i1 (h8.o.lt i1 p).2 λq1=>absurd (e1.o.lt q1) (by have:=(h8.o.lt i1 p).1;omega)
   obtain⟨i4,q3,v3⟩:∃i4,m5=K ⟨i4,0,I⟩/\wr.cell? ⟨i4,g,I⟩=K (A G (((dD a).getD g 0:Nat):Int)):=by
    rcases aV k4.o with⟨_,e9⟩|⟨f,i2,p, -,l9, -⟩
    .omega
    .obtain⟨rfl, -,rfl⟩:=Value.slice.inj p
     refine⟨f,rfl,au k4.o ?_⟩;simp [List.getElem?_map,YM c5,Yp,pA]
   subst q3;have c4:=AE k a g;generalize (dD a).getD g 0=b at*;obtain⟨l,t,i5⟩:∃l t,gT k a g=(l,t):=⟨_,_,rfl⟩;rw [i5] at J b8 k3 c4 l3⊢;simp only at c4 l3
   have g2:b<l.length:=by rw [c4];exact j6
   have a1:=E g2;obtain⟨c9,j5⟩:∃c9,l.length=c9:=⟨_,rfl⟩;have s9:=E j5
   have v9:l.length<=100000:=by rw [c4];have:=c1.o.me;omega
   obtain⟨f,k7,m4,p9,q0,a9,c8,g5⟩:=J.o.head (j:=b) g2
   have j9:i.va=U (K ⟨f,0,I⟩) c9 k7:=by rw [<-j5];exact m4
   have b1:=E j9;obtain⟨c2,s,b3⟩:=aK (J.o.jl b g2);obtain⟨a6,g0⟩:∃a6,l.getD b DF.ae=a6:=⟨_,rfl⟩
   have j1:({a with all:=l}:DS).file b=a6:=g0
   have b9:=E j1
   have m2:a6.safe<=a6.data.length/\a6.data.length<=16777216:=by rw [<-g0];exact k3.o
   rw [j1] at c8 b3;rw [b3] at a9;have h1:=E b3;obtain⟨w,n⟩:=a6;simp only at m2 a9 c8 b3;obtain⟨len,c6⟩:∃len,w.length=len:=⟨_,rfl⟩;have e5:=E c6;rw [c6] at m2 a9 b3;have u0:wr.cell? ⟨j,1,I⟩=K (U (K ⟨f,0,I⟩) c9 k7):=(J.o.cell 1).trans (congrArg K j9);have w0:(0:Int)<=(b:Int):=O;have w1:(b:Int)<(c9:Int):=O;have o1:af (i.has j) T wr:=(af.aj g9.o).trans b0.o;have r3:=g5 (b*2);have Mz:=g5 (b*2+1)
   have q:Zc G ((len:Int) - (n:Int))=((len - n:Nat):Int):=by rw [Yx _ O];omega
   have q4:len - n<=16777216:=O
   have i6:tI k t ⟨w,n⟩=if 0<len - n then ⟨w.take (n+kP k t (len - n)),(w.take (n+kP k t (len - n))).length⟩ else ⟨w,len⟩:=by
    unfold tI;simp only [c6];by_cases y:n<len
    .rw [if_pos y,if_pos O]
    .rw [if_neg y,if_neg O]
   have i7:yZ t ⟨w,n⟩=if 0<len - n then t+1 else t:=by
    unfold yZ;simp only [c6];by_cases y:n<len
    .rw [if_pos y,if_pos O]
    .rw [if_neg y,if_neg O]
   obtain⟨C,j4⟩:∃C,len - n=C:=⟨_,rfl⟩;rw [j4] at q q4 i6 i7;have e6:=E j4;have k1:=E i6;have k2:=E i7;have s8:=E g5;have s6:=E i5;have e3:=E g0;have e8:=E (show wr.drew.cell? ⟨f,b*2,I⟩=K (U c2 len s)/\wr.drew.cell? ⟨f,b*2+1,I⟩=K (A G n) from⟨a9,c8⟩);clear c5 j6 c4 g2 j5 m4 b3 j9 g0 j1 c6 j4 i6 i7 g5 i5 q0;by_cases m0:0<C
   .have o2:decide ((C:Int)>0)=true:=decide_eq_true O
    go_wp2
    go_region_held3 (λL=>L.cell? ⟨f,b*2,I⟩=K (U c2 len s)/\L.cell? ⟨f,b*2+1,I⟩=K (A G n))
     (first|with_reducible exact e8.o|exact e8.o|go_keep)
     (fail)
    go_wp2;have q6:=Cw k t C;have k6:=E (Cx g7 k t C wr.drew.drew (o0.o _ (o1.trans ⟨rfl,rfl,rfl,Yk _,λ_ _ _=>rfl⟩)) O O);obtain⟨P,j0⟩:∃P,kP k t C=P:=⟨_,rfl⟩;have n8:=E j0;rw [j0] at k6 q6;obtain⟨h,l1⟩:∃h,n+P=h:=⟨_,rfl⟩
    have w5:Zc G ((n:Int)+(P:Int))=(h:Int):=by rw [Yx _ O];omega
    have p4:h<=len:=by have:=e6.o;omega
    obtain⟨u,p6,v5⟩:∃u,c2=K ⟨u,0,I⟩/\len<=s:=by
     have F:=J.o.jl b a1.o;rw [h1.o,b9.o] at F
     rcases aV F with⟨_,e9⟩|⟨u,i2,p, -, -,p8, -⟩
     .exfalso;have:=e6.o;have y:w.length=0:=e9;have:=e5.o;omega
     .obtain⟨rfl, -,rfl⟩:=Value.slice.inj p
      exact⟨u,rfl,by rw [<-e5.o];exact p8⟩
    subst p6;have r1:(0:Int)<=(h:Int):=O;have r2:(h:Int)<=(s:Int):=O;have k8:wr.drew.drew.cell? ⟨f,b*2,I⟩=K (U (K ⟨u,0,I⟩) len s):=a9;have o3:wr.drew.drew.cell? ⟨f,b*2+1,I⟩=K (A G n):=c8;have o6:wr.drew.drew.frozen? ⟨f,b*2,I⟩=false:=r3
    have e2:=E ((show DP wr.drew.drew j {i with fv:=r} {a with all:=l} from J.o.stays λ_ _=>rfl).cut (j:=b) a1.o b1.o (m:=h) h1.o (by rw [b9.o]) (by have:=e5.o;omega))
    have n4:=E l1
    have h0:Hd (DP ((wr.drew.drew.setCell ⟨f,b*2,I⟩ (U (K ⟨u,0,I⟩) h s)).setCell ⟨f,b*2+1,I⟩ (A G h)) j {i with fv:=r.set b (U (K ⟨u,0,I⟩) h s)} {a with all:=(gT k a (g+1)).1}):=by
     have a7:=e2.o.zS (j:=b) (by show b<(dy l b _).length;rw [cB];exact a1.o) b1.o h
     have p:(gT k a (g+1)).1=dy l b ⟨w.take h,h⟩:=by
      rw [b8.o]
      show dy l b (tI k t (l.getD b DF.ae))=_
      rw [e3.o,k1.o,if_pos m0,n8.o,n4.o,List.length_take,e5.o,Nat.min_eq_left p4]
     rw [p]
     have a3:({a with all:=l}:DS).file b=⟨w,n⟩:=b9.o
     rw [a3] at a7
     have i3:({a with all:=dy l b ⟨w.take h,n⟩}:DS).file b=⟨w.take h,n⟩:=by
      show(dy l b _).getD b DF.ae=_
      rw [dA,if_pos ⟨rfl,a1.o⟩]
     have o4:dy (dy l b ⟨w.take h,n⟩) b ⟨w.take h,h⟩=dy l b ⟨w.take h,h⟩:=List.set_set ..
     have b2:DP ((wr.drew.drew.setCell ⟨f,b*2,I⟩ (U (K ⟨u,0,I⟩) h s)).setCell ⟨f,b*2+1,I⟩ (A G h)) j {i with fv:=r.set b (U (K ⟨u,0,I⟩) h s)} {a with all:=dy (dy l b ⟨w.take h,n⟩) b ⟨(({a with all:=dy l b ⟨w.take h,n⟩}:DS).file b).data,h⟩}:=a7
     rw [i3] at b2;rw [<-o4];exact b2
    have l6:b<r.length:=by have:=J.o.len;have y:r.length=l.length:=this;rw [y];exact a1.o
    obtain⟨y1,s5,y4⟩:(wr.setCell ⟨f,b*2,I⟩ (U (K ⟨u,0,I⟩) h s)).cell? ⟨f,b*2,I⟩=K (U (K ⟨u,0,I⟩) h s)/\(wr.setCell ⟨f,b*2,I⟩ (U (K ⟨u,0,I⟩) h s)).cell? ⟨f,b*2+1,I⟩=K (A G n)/\(wr.setCell ⟨f,b*2,I⟩ (U (K ⟨u,0,I⟩) h s)).frozen? ⟨f,b*2+1,I⟩=false:=by
     show(wr.drew.drew.setCell ⟨f,b*2,I⟩ (U (K ⟨u,0,I⟩) h s)).cell? ⟨f,b*2,I⟩=K (U (K ⟨u,0,I⟩) h s)/\(wr.drew.drew.setCell ⟨f,b*2,I⟩ (U (K ⟨u,0,I⟩) h s)).cell? ⟨f,b*2+1,I⟩=K (A G n)/\(wr.drew.drew.setCell ⟨f,b*2,I⟩ (U (K ⟨u,0,I⟩) h s)).frozen? ⟨f,b*2+1,I⟩=false
     obtain⟨p1,u3,a3, -, -,s0,s3,s4⟩:=e2.o.head (j:=b) (by show b<(dy l b _).length;rw [cB];exact a1.o)
     obtain rfl:f=p1:=by have y:i.va=_:=a3;rw [b1.o] at y;simp at y;exact y.1
     refine⟨?_,?_,s4 _⟩
     .rw [s0];unfold bY.at;simp [Yp,l6]
     .rw [s3];have o5:({a with all:=dy l b ⟨(({a with all:=l}:DS).file b).data.take h,(({a with all:=l}:DS).file b).safe⟩}:DS).file b=⟨w.take h,n⟩:=by
       show(dy l b _).getD b DF.ae=_
       rw [dA,if_pos ⟨rfl,a1.o⟩,b9.o]
      exact congrArg (λr9:DF=>K (A G (r9.safe:Int))) o5
    have w6:Zc G ((t:Int)+1)=((t+1:Nat):Int):=by rw [Yx _ O];omega
    have h3:Hd ((gT k a (g+1)).2=t+1):=by
     show _=_
     rw [b8.o]
     show yZ t (l.getD b DF.ae)=_
     rw [e3.o,k2.o,if_pos m0]
    have n6:Hd (∀z,z<i.fv.length->((r.set b (U (K ⟨u,0,I⟩) h s)).getD z Ya).ownBlock=(i.fv.getD z Ya).ownBlock):=λz g1=>by
     rw [<-h2.o z g1];by_cases p:b=z
     .subst p
      have y:r.getD b Ya=U (K ⟨u,0,I⟩) w.length s:=h1.o;rw [y];simp [Yp,l6,YT]
     .simp [Yp,p]
    have b5:i.va.ownBlock=K f:=by rw [b1.o];rfl
    have h5:Hd (af (i.has j) k0 (((wr.setCell ⟨f,b*2,I⟩ (U (K ⟨u,0,I⟩) h s)).setCell ⟨f,b*2+1,I⟩ (A G h)).drew.drew)):=
     ((b0.o.trans (af.grown (bD _ _ _ _) λg v=>by cases v;exact Yh (Yg b5))).trans (af.grown (bD _ _ _ _) λg v=>by cases v;exact Yh (Yg b5))).trans ⟨rfl,rfl,rfl,Yk _,λ_ _ _=>rfl⟩
    clear j0 l1 a9 c8 b5
    go_region_with ((go_at_call 72;refine k6.o.mono ?_;rintro p L ⟨rfl,rfl⟩))
    all_goals
     clear k8 o3 o6;go_wp2;go_roundw
     case rel=>exact⟨g+1,r.set b (U (K ⟨u,0,I⟩) h s),O,S,by rw [h3.o];exact int_eq O,h0.o.stays (λ_ _=>rfl),by rw [List.length_set];exact e4.o,n6.o,h5.o⟩
     case measure=>simp [Yz];omega
   .have o2:decide ((C:Int)>0)=false:=decide_eq_false O
    obtain rfl:C=0:=O;have k8:wr.drew.cell? ⟨f,b*2,I⟩=K (U c2 len s):=a9;have u5:wr.frozen? ⟨f,b*2+1,I⟩=false:=Mz
    have h0:Hd (DP (wr.setCell ⟨f,b*2+1,I⟩ (A G len)) j {i with fv:=r} {a with all:=(gT k a (g+1)).1}):=by
     have a7:=J.o.zS (j:=b) a1.o b1.o len
     have p:(gT k a (g+1)).1=dy l b ⟨w,len⟩:=by
      rw [b8.o]
      show dy l b (tI k t (l.getD b DF.ae))=_
      rw [e3.o,k1.o,if_neg O]
     rw [p]
     have a3:({a with all:=l}:DS).file b=⟨w,n⟩:=b9.o
     rw [a3] at a7;exact a7
    have h3:Hd ((gT k a (g+1)).2=t):=by
     show _=_
     rw [b8.o]
     show yZ t (l.getD b DF.ae)=_
     rw [e3.o,k2.o,if_neg O]
    have b5:i.va.ownBlock=K f:=by rw [b1.o];rfl
    have h5:Hd (af (i.has j) k0 ((wr.setCell ⟨f,b*2+1,I⟩ (A G len)).drew)):=
     (b0.o.trans (af.grown (bD _ _ _ _) λg v=>by cases v;exact Yh (Yg b5))).trans ⟨rfl,rfl,rfl,Yk _,λ_ _ _=>rfl⟩
    clear b5;go_wp2
    go_region_held3 (λL=>L.cell? ⟨f,b*2,I⟩=K (U c2 len s)/\L.cell? ⟨f,b*2+1,I⟩=K (A G n))
     (first|with_reducible exact e8.o|exact e8.o|go_keep)
     (fail)
    go_wp2;go_roundw
    case rel=>exact⟨g+1,r,O,S,by rw [h3.o],h0.o.stays (λ_ _=>rfl),e4.o,h2.o,h5.o⟩
    case measure=>simp [Yz];omega
  .obtain rfl:g=a5:=O
   have n1:Hd ((gT k a g).1=ny k (dD a) a.all 1):=by show _=_;rw [<-h6.o];exact AD k a
   have s7:=E (AE k a g);generalize (gT k a g).2=t at*;generalize (gT k a g).1=l at*;obtain⟨b7,q9⟩:∃b7,b7=wr:=⟨_,rfl⟩;subst q9;have u1:b7.cell? ⟨j,3,I⟩=K (.map (K i.bs)):=J.o.cell 3;have u4:b7.cell? ⟨j,4,I⟩=K (U g6 R e0):=(J.o.cell 4).trans (congrArg K h9.o)
   have u9:R<=e0:=by
    have F:=e1.o.lJ;rw [h9.o,e7.o] at F
    rcases aV F with⟨p,e9⟩|⟨f,i2,p, -, -,p7, -⟩
    .omega
    .obtain⟨-, -,rfl⟩:=Value.slice.inj p;exact p7
   have r1:(0:Int)<=(a2:Int):=O;have r2:(a2:Int)<=(e0:Int):=O;go_wp2
   go_loopw [84] (λidx wr=>∃m:Nat,m<=a2/\idx=A G m/\DP wr j {i with fv:=r} {a with all:=l,safe:=(a.steps.take m).foldl eT a.safe}/\af (i.has j) b7 wr) (λidx _=>a2 - (Yz idx).toNat)
   case atStart=>exact⟨0,Yr _,rfl,J.o,af.refl _ _⟩
   case round=>
    obtain⟨m,v7,rfl,l0,l8⟩:=hrel;have a0:=E l0;have h4:=E l8;clear l0 l8;by_cases v8:m<a2
    .have a8:m<a.steps.length:=by rw [e7.o];omega
     obtain⟨m6,r5,r6,r7,m7⟩:=c1.o.runs.at a8;have m1:=oe (a.steps.take m) a.safe
     have q5:((a.steps.take m).foldl eT a.safe).length<=1000000:=by have:=m3;rw [List.length_take] at m1;omega
     have u7:=c1.o.me;have n9:=E (show(a.steps.take (m+1)).foldl eT a.safe=eT ((a.steps.take m).foldl eT a.safe) (a.steps.getD m ⟨0,[],[],0⟩) from by rw [oO _ ⟨0,[],[],0⟩ a8,List.foldl_append];rfl)
     obtain⟨f,q8,p9,o7,o8,o9,p0⟩:∃f,g6=K ⟨f,0,I⟩/\f<wr.heap.size/\wr.cell? ⟨f,m*4,I⟩=K (A G ((a.steps.getD m ⟨0,[],[],0⟩).kind:Int))/\wr.cell? ⟨f,m*4+1,I⟩=K (Yb ⟨(a.steps.getD m ⟨0,[],[],0⟩).name.toArray⟩)/\wr.cell? ⟨f,m*4+2,I⟩=K (Yb ⟨(a.steps.getD m ⟨0,[],[],0⟩).to.toArray⟩)/\wr.cell? ⟨f,m*4+3,I⟩=K (A G ((a.steps.getD m ⟨0,[],[],0⟩).file:Int)):=by
      have F:=a0.o.lJ
      have F:wr.ownsRow 0 131 4 (U g6 R e0) R (jr a.steps):=by have y:=h9.o;have b2:=e7.o;rw [<-y,<-b2];exact F
      rcases aV F with⟨_,e9⟩|⟨f,i2,p, -,l9, -⟩
      .omega
      .obtain⟨rfl, -,rfl⟩:=Value.slice.inj p
       exact⟨f,rfl,l9,au F (dz (m:=4) (c:=0) (λ_=>rfl) _ a8 H),au F (dz (m:=4) (c:=1) (λ_=>rfl) _ a8 H),au F (dz (m:=4) (c:=2) (λ_=>rfl) _ a8 H),au F (dz (m:=4) (c:=3) (λ_=>rfl) _ a8 H)⟩
     subst q8;have g8:=E (λ(m8:V) (r0:aR m8 i.bs ((a.steps.take m).foldl eT a.safe))=>Ii ((a.steps.take m).foldl eT a.safe) i.bs (a.steps.getD m ⟨0,[],[],0⟩) m8 r0 ⟨by unfold YO;omega,by unfold YO;omega,O⟩ m6 q5 (λq q7=>by have:=m7 q q7;omega));generalize a.steps.getD m ⟨0,[],[],0⟩=r8 at*;obtain⟨w2,w4,w7,u6⟩:=r8;simp only at o7 o8 o9 p0;unfold kD at g8;simp only at g8;clear a8 m6 r5 r6 r7 m7 m1
     go_wp2_with (go_at_call 74;refine(g8.o _ (a0.o.rN.alloc _)).mono ?_;rintro p W ⟨rfl,c7,b4⟩;have h7:=E c7;have c0:=E b4;clear c7 b4)
     have e2:Hd (DP W j {i with fv:=r} {a with all:=l,safe:=(a.steps.take (m+1)).foldl eT a.safe}):=by
      show DP _ _ _ _
      rw [n9.o];exact(a0.o.stays (w':=wr.alloc _) λg v=>heap_alloc_old wr _ (a0.o.lt v)).LU c0.o h7.o
     have n3:Hd (af (i.has j) b7 W):=(h4.o.trans (af.aj ((Yn _ _).alloc (Yk _) _))).trans (af.grown c0.o λg v=>by cases v;exact Yh (Yh (Yh (Yh (Yg rfl)))));go_wp2;go_roundw
     case rel=>exact⟨m+1,O,S,e2.o,n3.o⟩
     case measure=>simp [Yz];omega
    .obtain rfl:m=a2:=O
     have m9:=E (vQ i.bs ((a.steps.take m).foldl eT a.safe) wr a0.o.rN)
     have e6:Hd ((a.steps.take m).foldl eT a.safe=jk a k):=by
      show _=_
      unfold jk;rw [e7.o,n2.o]
     have Eb:wr.cell? ⟨j,3,I⟩=K (.map (K i.bs)):=a0.o.cell 3
     go_wp2_with (go_at_call 75;refine m9.o.mono ?_;rintro p W ⟨rfl,c7,b4⟩;have h7:=E c7;have c0:=E b4;have D:=E (a0.o.ay.grown b4 Y);have x5:W.cell? ⟨j,2,I⟩=K (.map (K i.bn)):=D.o.cell 2;have x6:W.cell? ⟨j,3,I⟩=K (.map (K i.bs)):=D.o.cell 3;have x7:W.cell? ⟨j,4,I⟩=K i.vs:=D.o.cell 4;have x8:W.cell? ⟨j,5,I⟩=K (A G a.c_):=D.o.cell 5;have x9:W.cell? ⟨j,6,I⟩=K (.bool a.down):=D.o.cell 6;have y0:W.cell? ⟨j,7,I⟩=K (A G a.done):=D.o.cell 7;have w9:=D.o.free 2;have x0:=D.o.free 3;have x1:=D.o.free 4;have x2:=D.o.free 5;have x3:=D.o.free 6;have x4:=D.o.free 7;clear c7 b4)
     go_end0;refine⟨rfl,_,(?_:DP _ j ⟨i.va,U I 0 0,i.bs,wr.heap.size,r⟩ (jS a k)),λg v=>?_,?_⟩
     .have y:=a0.o.crashed (c:=wr.heap.size) (w3:=(((((W.setCell ⟨j,2,I⟩ (.map (K i.bs))).setCell ⟨j,3,I⟩ (.map (K wr))).setCell ⟨j,4,I⟩ (U I 0 0)).setCell ⟨j,5,I⟩ (A G 0)).setCell ⟨j,6,I⟩ (.bool false)).setCell ⟨j,7,I⟩ (A G 0)) ?_ ?_ ?_ (Yk _)
      .have p:jS a k=⟨a.room,l,(a.steps.take m).foldl eT a.safe,(a.steps.take m).foldl eT a.safe,[],0,false,0⟩:=by
        rw [e6.o,n1.o];rfl
       rw [p];exact y
      .have b2:=(((((D.o.set 2 (.map (K i.bs))).set 3 (.map (K wr))).set 4 (U I 0 0)).set 5 (A G 0)).set 6 (.bool false)).set 7 (A G 0)
       exact b2
      .intro g v j3
       rw [bL _ _ _ _ g v,bL _ _ _ _ g v,bL _ _ _ _ g v,bL _ _ _ _ g v,bL _ _ _ _ g v,bL _ _ _ _ g v];exact c0.o.block g j3 Y
      .have a7:=h7.o
       have b6:wr.heap.size≠j:=by have:=a0.o.ay.lt;omega
       refine a7.ext ?_;rw [bL _ _ _ _ _ b6,bL _ _ _ _ _ b6,bL _ _ _ _ _ b6,bL _ _ _ _ _ b6,bL _ _ _ _ _ b6,bL _ _ _ _ _ b6]
     .have s5:=g9.o.size
      have y2:=b0.o.size;have y3:=h4.o.size
      rcases v with x|x|x|x|x|⟨z,g1,x⟩
      .exact Yg (Yg x)
      .exact Yg (Yh (Yg x))
      .simp [YT] at x
      .exact Yg (Yh (Yh (Yh (Yh (Yg x)))))
      .exact Yh (by have x:g=wr.heap.size:=x;omega)
      .refine Yg (Yh (Yh (Yh (Yh (Yh ⟨z,by rw [<-e4.o];exact g1,?_⟩)))))
       have p2:=h2.o z (by rw [<-e4.o];exact g1);exact p2.symm.trans x
     .refine(af.aj g9.o).trans (b0.o.trans (h4.o.trans ((af.grown c0.o Y).trans ?_)))
      exact(((((af.self (bD _ _ _ _)).trans (af.self (bD _ _ _ _))).trans (af.self (bD _ _ _ _))).trans (af.self (bD _ _ _ _))).trans (af.self (bD _ _ _ _))).trans (af.self (bD _ _ _ _))
end
end Go.Proofs.YtajkpgaheechmaaGreatDoor
