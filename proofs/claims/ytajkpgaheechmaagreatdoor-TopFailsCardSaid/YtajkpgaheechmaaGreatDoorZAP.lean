/- LgH JobM JobA JobB JobC JobD JobE TopD JobF LgI JobG JobH TlA KnB TlI -/
import Derived.Test.YtajkpgaheechmaaGreatDoorZAM
import Derived.Test.YtajkpgaheechmaaGreatDoorZAO
set_option maxRecDepth 100000
set_option maxHeartbeats 16000000
set_option linter.unusedSimpArgs false
set_option linter.unusedVariables false
set_option linter.unusedSectionVars false
namespace Go.Proofs.YtajkpgaheechmaaGreatDoor
open _root_.Go.Proofs.Tryz
open Go.Value renaming int->A,slice->U,pointer->Q,nilIface->Ya,string->Yb,agg->Yc,iface->Yd,tuple->Ye,ownBlock->YT
open Go.IntKind renaming i64->G,u8->Yf,wrap_i64->Yo,wrap->Zc
open Option renaming none->I,some->K
open Go.Obj renaming cells->M
open Go.Ending renaming returned->e
open Go renaming World->V,Value->Z,Calls->d,Addr->Yi,run_callFunc_extern->YB,bodyPost_ret->YD,maxLen->YO,results->YU
open Go.RowKit renaming Below->X,intOf->Yz
open Or renaming inl->Yg,inr->Yh
open Go.World renaming block_lt_of_cell?->Yj,ownsRow_nil->YC,cell?_of_block->YS
open Nat renaming le_refl->Yk,le_trans->Yl,zero_le->Yr
open UInt8 renaming ofNat->Ym
open Go.RowKit.Below renaming refl->Yn,heap_setCell->Yt
open List renaming getD_eq_getElem?_getD->Yp,length_append->Yq,getElem?_eq_getElem->YM,getD->YR,range->Za
open Go.IntWalk renaming i64_in->Yx
open Go.Value.slice renaming injEq->Yy
open Option.some renaming inj->YG,injEq->YQ
open And renaming intro->YI
section
open Go.RowKit Go.Extern.Stop Go.Stop Go.Extern
def zL(a:aU):List Z:=[A G (a.kind:Int),A G (a.sum:Int),A G (a.number:Int),A G (a.length:Int),A G (a.code:Int)]
def iV(a:List aU):List Z:=a.flatMap zL
theorem zM(a:List aU)(b:aU):iV (a++[b])=iV a++zL b:=by unfold iV;simp
theorem tt:∀(g:List aU) (b:Nat) (c:aU) (a:Nat) (f:Z),g[b]? =K c->(zL c)[a]? =K f->(iV g)[b*5+a]? =K f
 |[],b,c,a,f,h,_=>by simp at h
 |i::g,0,c,a,f,h,hc=>by
  have m:i=c:=by simpa using h
  subst m
  have l:a<(zL i).length:=by
   rcases Nat.lt_or_ge a (zL i).length with j|j
   .exact j
   .rw [List.getElem?_eq_none j] at hc;cases hc
  unfold iV;rw [List.flatMap_cons,Nat.zero_mul,Nat.zero_add,List.getElem?_append_left l];exact hc
 |i::g,b+1,c,a,f,h,hc=>by
  have n:=tt g b c a f (by simpa using h) hc;unfold iV at*;rw [List.flatMap_cons,List.getElem?_append_right (by simp [zL];omega)]
  have k:(b+1)*5+a - (zL i).length=b*5+a:=by simp [zL];omega
  rw [k];exact n
def lO(f:V)(b:Nat)(c:Z)(a:List aU):Prop:=f.ownsRow b 93 5 c a.length (iV a)
theorem QF:(prog.info? 93).map (λa=>(a.zero,a.size,a.bytes))=K (K de.val,5,40):=B
theorem yg{c:Bs}{f:Nat}{b:MI}(a:gJ aF c f= .ok b):f<b.fin/\b.fin<=c.length/\b.data.length<=c.length:=by
 unfold gJ at a;split at a
 .cases a
 .rename_i g
  split at a
  .cases a;simp;omega
  .split at a
   .cases a
   .split at a
    .cases a
    .split at a
     .cases a
     .split at a
      .cases a
       simp only [List.length_take,List.length_drop];omega
      .cases a
theorem Pp(c4:Z)(b:Bs)(f:V)(F:ah f c4 b)(R:b.length<=100000):
  d prog 55 #[c4] f λr c6=>∃c5,r=e (Ye #[c5,A G ((tw aF b).2:Int)])/\lO c6 f c5 (tw aF b).1/\X f f c6:=by
 obtain⟨e6,cap,rfl⟩:=F.shape;obtain⟨j,D⟩:∃j,b.length=j:=⟨_,rfl⟩;have b1:=E (λ(a:Nat) (c8:V) (g3:X f f c8)=>vS (U e6 b.length cap) b a c8 (F.ext g3));rw [D] at R F b1⊢;obtain⟨C,P⟩:∃C,tw aF b=C:=⟨_,rfl⟩
 have b6:C=eM aF b (j+1) 0:=by rw [<-P,<-D];rfl
 rw [P];have e5:=E b6;have e2:=E D;have b2:=E R;clear P b6 D F R;go_enter func55,ntmps55;go_wp2
 go_loopw [4,5] (λg4 a3 wr=>∃(g:List aU) (a c:Nat),a<=j/\a3=A G a/\lO wr f g4 g/\X f f wr/\C=(g++(eM aF b c a).1,(eM aF b c a).2)/\j<c+a/\g.length<=a) (λ_ a3 _=>j - (Yz a3).toNat)
 case atStart=>exact⟨[],0,j+1,Yr _,rfl,YC _ _ _ 5,Yn _ _,by rw [e5.o];simp,O,Yk _⟩
 case round=>
  obtain⟨g,a,c,h1,rfl,a2,b9,b7,h0,g9⟩:=hrel;obtain⟨c,rfl⟩:∃g0,c=g0+1:=⟨c - 1,O⟩;obtain⟨c7,rfl⟩:∃c7:V,c7=wr:=⟨_,rfl⟩;have b4:=E a2;have p:=E b9;have q:=E b7;obtain⟨a6,a5,rfl⟩:=aK a2;clear a2 b9 b7
  go_wp2_with fail
  refine(b1.o a _ p.o).mono ?_;rintro r y (⟨e7,l,g5,g7,rfl,i⟩|⟨g6,l,g8,rfl,T,i⟩)
  .have b5:eM aF b (c+1) a=([],a):=by unfold eM;rw [l]
   have n:=E (aG b4.o i);have z:=E (p.o.trans (i.mono p.o.size));have h:=E b5;clear b5 l i;go_wp2;go_returns;refine⟨U a6 g.length a5,by rw [q.o,h.o];rfl,?_,ext z.o N⟩;rw [q.o,h.o];simp only [List.append_nil];exact aG n.o N
  .obtain⟨g2,a0,a1⟩:=yg l
   rw [e2.o] at a0 a1;obtain⟨e8,e9,rfl⟩:=aK T;have b3:=E (aq (aA T (Yr _)));have n:=E (aG b4.o i);have z:=E (p.o.trans (i.mono p.o.size));have L:=E l;clear T i l;obtain⟨c3,a7,x⟩:=g6;simp only at g2 a0 a1 b3 L⊢;have c9:=E (ai.new y #[A G c3,U e8 a7.length e9,A G a,A G x] 171);have e1:=E (show a7.length<=100000 from Yl a1 b2.o)
   go_wp2_with fail
   refine(Lf c3 a x _ a7 _ (b3.o.ext N) e1.o).mono ?_;rintro r a8 (⟨e7,s,g5,g7,rfl,k⟩|⟨⟨u,rs,w,v,t⟩,s,rfl,k⟩)
   .have h:=E (show eM aF b (c+1) a=([],a) from by unfold eM;rw [L.o];simp only;rw [s])
    have m:=E (show X y y a8 from ext N k);clear s k;simp only [aU.val,de];go_wp2;go_returns;refine⟨U a6 g.length a5,by rw [q.o,h.o];rfl,?_,ext (ext z.o m.o) N⟩;rw [q.o,h.o];simp only [List.append_nil];exact aG (aG n.o m.o) N
   .have h:=E (show eM aF b (c+1) a=(⟨u,rs,w,v,t⟩::(eM aF b c x).1,(eM aF b c x).2) from by
     rw [eM.eq_2,L.o];simp only;rw [s])
    have m:=E (show X y y a8 from ext N k);have a9:=E (c9.o.ext k);have e3:=E (aG n.o m.o);have J:=E (ext z.o m.o);have h2:=(a9.o).lt;clear s k;simp only [aU.val]
    go_wp2_with (at_builtin;(refine aX (W:=a8.alloc (M #[A G u,A G rs,A G w,A G v,A G t] 93)) 89 93 5 40 _ underlying89 QF rfl H rfl (.tmp 28) (.tmp 30) rfl f.heap.size (U a6 g.length a5) g.length (iV g) [A G u,A G rs,A G w,A G v,A G t] rfl (aG e3.o N) rfl Y rfl (by intro i0 c2;simp at c2;rcases c2 with rfl|rfl|rfl|rfl|rfl<;>rfl) (by have:=b2.o;omega) H (by have:=J.o.size;simp;omega) ?_);intro h8 h9 c1 b8 c0 g1;have e4:=E c1;have e0:=E b8;have b0:=E ((a9.o.alloc (M #[A G u,A G rs,A G w,A G v,A G t] 93)).grown c0 (by intro r;have:=(n.o.lt _ r.symm).2;omega));obtain⟨⟨h4,h5,h6,h7⟩, -⟩:=b0.o.four;have h3:=b0.o.lt;clear c1 b8 c0 g1)
    go_roundw
    case rel=>
     refine⟨g++[⟨u,rs,w,v,t⟩],x,c,a0,rfl,?_,?_,?_,O,by simp;omega⟩
     .show World.ownsRow _ _ _ _ _ _ _
      rw [zM,Yq];exact e4.o
     .exact(J.o.alloc J.o.size _).trans e0.o
     .rw [q.o,h.o];simp
    case measure=>simp [Yz];omega
end
section
open Go.RowKit
abbrev RM:=List (Nat×aU)
def Gz(r:aU):DataW Unit:= .agg [.lit (.int .i64 (r.kind:Int)),.lit (.int .i64 (r.sum:Int)),.lit (.int .i64 (r.number:Int)),.lit (.int .i64 (r.length:Int)),.lit (.int .i64 (r.code:Int))]
def yu(v:Value):Option (DataW Unit×List MemPlace):=
 match v with
 |.agg a=>match a.toList with
  |[.int .i64 k,.int .i64 s,.int .i64 n,.int .i64 l,.int .i64 c]=>some (.agg [.lit (.int .i64 k),.lit (.int .i64 s),.lit (.int .i64 n),.lit (.int .i64 l),.lit (.int .i64 c)],[])
  |_=>none
 |_=>none
theorem yv(a:aU):yu a.val=K (Gz a,[]):=rfl
theorem LF{v:Value}{r:aU}{ps:List MemPlace}(h:yu v=some (Gz r,ps)):v=r.val:=by
 unfold yu at h;split at h
 .rename_i a
  split at h
  .rename_i k s n l c e
   simp only [Option.some.injEq,Prod.mk.injEq] at h;have h1:=h.1;unfold Gz at h1;simp only [DataW.agg.injEq,List.cons.injEq,DataW.lit.injEq,Lit.int.injEq,true_and,and_true] at h1;obtain⟨h1,h2,h3,h4,h5⟩:=h1;subst h1;subst h2;subst h3;subst h4;subst h5;unfold aU.val;congr 1;exact Array.ext' (by rw [e])
  .cases h
 .cases h
def lV(p:Nat×aU):Lit×DataW Unit:=(.int .i64 (p.1:Int),Gz p.2)
def jX(a:RM):List (Lit×DataW Unit):=a.map lV
def xn(a:RM):DataW Unit:= .map (jX a)
def pB(b:RM)(a:Nat):Option aU:=(b.find? λc=>c.1==a).map (·.2)
def LI(a:Nat×aU):RM->RM
 |[]=>[a]
 |b::c=>if decide (a.1<b.1) then a::b::c else b::LI a c
def Rp(b:RM)(a:Nat):RM:=b.filter λc=>!(c.1==a)
def LQ(b:RM)(a:Nat)(c:aU):RM:=LI (a,c) (Rp b a)
theorem Eo(a b:Nat):Lit.before (.int .i64 (a:Int)) (.int .i64 (b:Int))=decide (a<b):=by
 show decide ((a:Int)<(b:Int))=_
 by_cases h:a<b
 .simp [h]
 .simp [h]
theorem Dz(a b:Nat):Lit.sameKey (.int .i64 (a:Int)) (.int .i64 (b:Int))=(a==b):=by
 show decide (IntKind.i64=IntKind.i64/\(a:Int)=(b:Int))=_
 by_cases h:a=b
 .subst h;simp
 .have h2:¬(a:Int)=(b:Int):=by omega
  simp [h,h2]
theorem wi(a:Nat×aU):∀f:RM,DataW.insert (lV a) (jX f)=jX (LI a f)
 |[]=>rfl
 |b::g=>by
  have h:=wi a g
  show(if (lV a).1.before (lV b).1 then _ else _)=_
  unfold LI;rw [show(lV a).1.before (lV b).1=decide (a.1<b.1) from Eo _ _];by_cases c:decide (a.1<b.1)=true
  .rw [if_pos c,if_pos c];rfl
  .rw [if_neg c,if_neg c]
   show lV b::DataW.insert (lV a) (jX g)=_
   rw [h];rfl
theorem GI(m:RM)(k:Nat):(jX m).filter (λp=>!p.1.sameKey (.int .i64 (k:Int)))=jX (Rp m k):=by
 unfold jX Rp;rw [List.filter_map];congr 1
 refine List.filter_congr λp _=>?_
 show(!Lit.sameKey (.int .i64 (p.1:Int)) (.int .i64 (k:Int)))=_
 rw [Dz]
theorem Pg(m:RM)(k:Nat)(v:aU):(xn m).put (.int .i64 (k:Int)) (Gz v)=xn (LQ m k v):=by
 show DataW.map (DataW.insert (lV (k,v)) _)=DataW.map _
 rw [GI,wi];rfl
theorem uZ(m:RM)(k:Nat):(jX m).find? (λp=>p.1.sameKey (.int .i64 (k:Int)))=(m.find? λp=>p.1==k).map lV:=by
 unfold jX;rw [List.find?_map];congr 2;funext p;exact Dz _ _
theorem Rr(m:RM)(k:Nat):(xn m).atKey (.int .i64 (k:Int)) (Gz de)=Gz ((pB m k).getD de):=by
 unfold xn DataW.atKey;simp only;rw [uZ];unfold pB
 cases m.find? λp=>p.1==k<;>rfl
theorem Pf(m:RM)(k:Nat):Maps.has (xn m) (.int .i64 (k:Int))=(pB m k).isSome:=by
 show(jX m).any (λp=>p.1.sameKey (.int .i64 (k:Int)))=_
 have e:(jX m).any (λp=>p.1.sameKey (.int .i64 (k:Int)))=((jX m).find? λp=>p.1.sameKey (.int .i64 (k:Int))).isSome:=by rw [Bool.eq_iff_iff];simp
 rw [e,uZ];unfold pB
 cases m.find? λp=>p.1==k<;>rfl
theorem LR(a:RM):Maps.size (xn a)=a.length:=by simp [xn,jX,Maps.size]
theorem tf(b:Nat×aU):∀a:RM,(LI b a).length=a.length+1
 |[]=>rfl
 |f::c=>by
  unfold LI;split
  .rfl
  .simp [tf b c]
theorem BM(a:RM)(b:Nat):(Rp a b).length<=a.length:=List.length_filter_le _ _
theorem BN(a:RM)(b:Nat)(c:aU):(LQ a b c).length<=a.length+1:=by
 unfold LQ;rw [tf];have:=BM a b;omega
theorem Ur:Maps.Keyed prog 3:=Maps.int_keyed underlying3
theorem To(a:V):(zeroValue 93).run prog a= .ok de.val a:=B
def cE(c:V)(b:Nat)(a:RM):Prop:=c.ownsMap prog 3 yu b a.length (xn a)
theorem cE.of{g:V}{f m:Nat}{a:RM}(j:g.ownsMap prog 3 yu f m (xn a)):cE g f a:=by
 obtain⟨b,h,l,F,n,c⟩:=j;refine⟨b,h,l,F,?_,c⟩
 have i:(jX a).length=b.size:=by
  have k:jX a=(b.toList.map (WideElems.rg prog 3 yu)).foldr DataW.insert []:=by
   unfold xn at c;exact DataW.map.inj c
  rw [k,length_sorted];simp
 rw [<-i];simp [jX]
theorem cE.lt{b:V}{a:Nat}{f:RM}(c:cE b a f):a<b.heap.size:=World.ownsMap.lt c
theorem cE.stay{c f:V}{a:Nat}{b:RM}(i:cE c a b)(l:f.heap[a]? =c.heap[a]?):cE f a b:=by
 obtain⟨h,g,j,k⟩:=i;exact⟨h,g,l.trans j,k⟩
theorem cE.ext{b g:V}{a:Nat}{f:RM}(c:cE b a f)(h:X b b g):cE g a f:=c.stay (h.block a c.lt)
theorem cE.new(a:V):cE (a.alloc (.map #[] 0)) a []:=World.ownsMap_made a _ _ _
theorem Ut{k:Nat}(h:k<=9223372036854775807):keyOf prog 3 (.int .i64 (k:Int))=some (.int .i64 (k:Int)):=Maps.keyOf_int_mk underlying3 (Wa h)
theorem cE.look{w:World}{b:Nat}{m:RM}(h:cE w b m){k:Nat}(hk:k<=9223372036854775807):
  (Instr.lookup 138 (.map (some b)) (.int .i64 (k:Int)) true).run prog w= .ok (.tuple #[((pB m k).getD de).val,.bool (pB m k).isSome]) w:=by
 obtain⟨v,ps,hrun,hv⟩:=World.ownsMap.look_ok h Ur underlying138 (To w) (yv de) (Ut hk);rw [Rr] at hv;obtain rfl:=LF hv;rw [hrun,Pf]
theorem cE.count{a:V}{b:Nat}{c:RM}(g:cE a b c)(f:TypeId):(Builtin.len_ #[138] f #[.map (K b)]).run prog a= .ok (A G (c.length:Int)) a:=by
 rw [World.ownsMap.len g underlying138 f,LR]
theorem cE.put{w:World}{b:Nat}{m:RM}(h:cE w b m){k:Nat}(hk:k<=9223372036854775807)(r:aU)(hm:m.length<=1000000):
  ∃w',(Instr.mapUpdate 138 (.map (some b)) (.int .i64 (k:Int)) r.val).run prog w= .ok () w'/\cE w' b (LQ m k r)/\w.grownBy w' (some b):=by
 obtain⟨w',hrun,h1,h2⟩:=World.ownsMap.store h Ur underlying138 (by unfold maxLen;omega) (Ut hk) (yv r);rw [Pg] at h1;exact⟨w',hrun,cE.of h1,h2.grown⟩
theorem EF(b:Nat)(g:RM)(a:V)(m:cE a b g):
  d prog 122 #[.map (K b)] a λk h=>k=e (.map (K a))/\cE h a g/\X a a h:=by
 obtain⟨l,j,n,F,f,c⟩:=m;have i:=E (YI F (YI f c));clear F f c;have r:=run_eql_map_nil_sl (P:=prog) a 138 _ _ (K b) underlying138;have t:=@YB prog 118 _ Extern.MapsClone.clone func118 B B B B;have q:=run_maps_clone_sl (P:=prog) a 138 n
 have s:=λp a=>run_typeAssert_map_sl (P:=prog) a 138 20 _ _ p underlying138
 go_enter func122,ntmps122;go_wp2;go_ret;exact⟨rfl,⟨l,j,(MapKept.heap_alloc a _).1,i.o⟩,N⟩
end
section
open Go.RowKit Go.Extern.Stop Go.Stop Go.Extern
structure bJ where
 state:Nat
 sum:Nat
 chunks:Nat
 code:Nat
 done:RM
 fin:aU
def nd:bJ:=⟨0,0,0,0,[],de⟩
def zQ(a:bJ)(b:aU):Int×bJ:=
 if b.kind=49 then (if a.chunks<=b.number then (3,a) else (0,{a with done:=LQ a.done b.number b}))
 else if b.kind=50 then (if 0<a.chunks then (14,a) else (0,{a with state:=2,code:=b.code}))
 else if a.chunks=0∨a.done.length<a.chunks then (14,a) else (0,{a with state:=3,fin:=b})
def eY(a:bJ)(b:aU):Int×bJ:=
 if a.state=0/\b.kind=48 then (0,{a with state:=1,sum:=b.sum,chunks:=b.number}) else if a.state≠1∨b.kind=48 then (12,a) else zQ a b
def a_(b:List aU):Nat->bJ×Bool
 |0=>(nd,true)
 |a+1=>if (a_ b a).2 then (if (eY (a_ b a).1 (b.getD a de)).1=0 then ((eY (a_ b a).1 (b.getD a de)).2,true) else ((a_ b a).1,false)) else a_ b a
def bJ.cells(a:bJ)(b:Nat):Array Z:=#[A G (a.state:Int),A G (a.sum:Int),A G (a.chunks:Int),A G (a.code:Int),.map (K b),A G (a.fin.kind:Int),A G (a.fin.sum:Int),A G (a.fin.number:Int),A G (a.fin.length:Int),A G (a.fin.code:Int)]
structure ct(w:V)(p b:Nat)(j:bJ):Prop where
 ay:ai w p (j.cells b) 140
 map:cE w b j.done
theorem ct.ext{a i:V}{h b:Nat}{g:bJ}(c:ct a h b g)(f:X a a i):ct i h b g:=⟨c.ay.ext f,c.map.ext f⟩
theorem ct.ne{h:V}{c a:Nat}{g:bJ}(b:ct h c a g):c≠a:=by
 rintro rfl;obtain⟨j,i,f, -⟩:=b.map;have:=b.ay;unfold ai at this;rw [f] at this;cases this
theorem ct.stay{c f:V}{b a:Nat}{h:bJ}(g:ct c b a h)(i:f.heap[b]? =c.heap[b]?)(j:f.heap[a]? =c.heap[a]?):ct f b a h:=⟨i.trans g.ay,g.map.stay j⟩
theorem ct.aD{h i:V}{b a:Nat}{g:bJ}{F:Nat->Prop}(c:ct h b a g)(f:af F h i)(j:¬F b)(k:¬F a):ct i b a g:=c.stay (f.block b c.ay.lt j) (f.block a c.map.lt k)
theorem NW(a:V):d prog 250 #[] a λb g=>∃c f,b=e (Q (K ⟨c,0,I⟩))/\ct g c f nd/\a.heap.size<=c/\a.heap.size<=f/\X a a g:=by
 have h:=@run_makeMap prog;go_enter func250,ntmps250;go_wp2;go_returns;refine⟨a.heap.size+1,a.heap.size,rfl,⟨?_,?_⟩,O,Yk _,N⟩
 .have:=ai.new (a.alloc (.map #[] 0)) (nd.cells a) 140
  have b:(a.alloc (.map #[] 0)).heap.size=a.heap.size+1:=Y;rw [b] at this;exact this
 .exact(cE.new a).ext N
theorem eI(f h:Nat)(c:bJ)(a:V)(b:ct a f h c):
  d prog 39 #[Q (K f)] a λi j=>i=e (A G (c.state:Int))/\a=j:=by
 have l:=b.ay.lt;have g:=b.ay.cell 0;have k:a.cell? f=K (A G (c.state:Int)):=g;clear b g;go_enter func39,ntmps39;go_wp2;go_returns;exact⟨rfl,rfl⟩
theorem N_(f h:Nat)(c:bJ)(a:V)(b:ct a f h c):
  d prog 212 #[Q (K f)] a λi j=>i=e (A G (c.sum:Int))/\a=j:=by
 have l:=b.ay.lt;have g:=b.ay.cell 1;have k:a.cell? ⟨f,1,I⟩=K (A G (c.sum:Int)):=g;clear b g;go_enter func212,ntmps212;go_wp2;go_returns;exact⟨rfl,rfl⟩
theorem fO(f h:Nat)(c:bJ)(a:V)(b:ct a f h c):
  d prog 101 #[Q (K f)] a λi j=>i=e (A G (c.chunks:Int))/\a=j:=by
 have l:=b.ay.lt;have g:=b.ay.cell 2;have k:a.cell? ⟨f,2,I⟩=K (A G (c.chunks:Int)):=g;clear b g;go_enter func101,ntmps101;go_wp2;go_returns;exact⟨rfl,rfl⟩
theorem Kx(f h:Nat)(c:bJ)(a:V)(b:ct a f h c):
  d prog 51 #[Q (K f)] a λi j=>i=e (A G (c.code:Int))/\a=j:=by
 have l:=b.ay.lt;have g:=b.ay.cell 3;have k:a.cell? ⟨f,3,I⟩=K (A G (c.code:Int)):=g;clear b g;go_enter func51,ntmps51;go_wp2;go_returns;exact⟨rfl,rfl⟩
theorem aL{F:Nat->Prop}{f g:V}{b:Yi}{l:Z}(a:af F f g)(i:F b.block):af F f (g.setCell b l):=
 ⟨a.os,a.tape,a.output,by simpa using a.size,λk j c=>(Yt _ _ _ _ (λh=>c (by rw [h];exact i))).trans (a.block k j c)⟩
theorem jn{F:Nat->Prop}{b c:V}(a:af F b c):af F b c.drew:=⟨a.os,a.tape,a.output,a.size,a.block⟩
def US(c b:Nat)(a:Nat):Prop:=a=c∨a=b
def dW(f:Int×bJ)(b a:Nat)(h:V)(g:Ending)(c:V):Prop:=g=e (bj f.1)/\ct c b a f.2/\af (US b a) h c
theorem ai.nH{b:V}{a:Nat}{f g h i j k l m n o:Z}{p:Nat}(c:ai b a #[f,g,h,i,j,k,l,m,n,o] p):(b.cell? a=K f/\b.cell? ⟨a,1,I⟩=K g/\b.cell? ⟨a,2,I⟩=K h/\b.cell? ⟨a,3,I⟩=K i/\b.cell? ⟨a,4,I⟩=K j)/\(b.cell? ⟨a,5,I⟩=K k/\b.cell? ⟨a,6,I⟩=K l/\b.cell? ⟨a,7,I⟩=K m/\b.cell? ⟨a,8,I⟩=K n/\b.cell? ⟨a,9,I⟩=K o):=
 ⟨⟨c.cell 0,c.cell 1,c.cell 2,c.cell 3,c.cell 4⟩,c.cell 5,c.cell 6,c.cell 7,c.cell 8,c.cell 9⟩
section
variable {w:V} {p b st sm ch co:Nat} {m:RM} {fin:aU}
theorem ct.nH(a:ct w p b ⟨st,sm,ch,co,m,fin⟩):ai w p #[A G st,A G sm,A G ch,A G co,.map (K b),A G (fin.kind:Int),A G (fin.sum:Int),A G (fin.number:Int),A G (fin.length:Int),A G (fin.code:Int)] 140:=a.ay
theorem ct.of(a:ai w p #[A G st,A G sm,A G ch,A G co,.map (K b),A G (fin.kind:Int),A G (fin.sum:Int),A G (fin.number:Int),A G (fin.length:Int),A G (fin.code:Int)] 140)(c:cE w b m):ct w p b ⟨st,sm,ch,co,m,fin⟩:=⟨a,c⟩
end
theorem An(a j a1 a0 w:Nat)(C:RM)(x:aU)(f c:Nat)(b:V)(r:ct b a j ⟨0,a1,a0,w,C,x⟩)(y:nO ⟨48,f,c,0,0⟩):
  d prog 159 #[Q (K a),Yc #[A G 48,A G f,A G c,A G 0,A G 0]] b λh s=>dW (0,⟨1,f,c,w,C,x⟩) a j b h s:=by
 have J:=E (λm=>show d prog 139 #[Yc #[A G 48,A G f,A G c,A G 0,A G 0]] m _ from vI ⟨48,f,c,0,0⟩ m y);have L:=E r;have b7:=r.ay.lt;have b8:=r.ne;have F:=E (ai.new b #[A G 48,A G f,A G c,A G 0,A G 0] 93);have k:b.heap.size≠a:=O;clear r y;go_enter func159,ntmps159
 go_wp2_with (go_at_call 139;with_reducible refine(J.o _).mono ?_;rintro h l ⟨rfl,u⟩;have n:=E (F.o.ext u);have v:=E (show X b b l from ext N u);have g:=E (L.o.ext v.o);obtain⟨b9,c0,c1,c2,c3⟩:=n.o.cL;obtain⟨⟨a2,a3,a5,a6,a7⟩,a8,a9,b0,b1,b2⟩:=g.o.nH.nH;have b3:=g.o.nH.free 0;have b4:=g.o.nH.free 1;have b5:=g.o.nH.free 2;have b6:=g.o.ay.lt;clear u)
 have q:=E (λ(m:V) (z:ai m b #[A G 48,A G f,A G c,A G 0,A G 0] 93)=>show m.cell? ⟨b,1,I⟩=K (A G f)/\m.cell? ⟨b,2,I⟩=K (A G c) from⟨z.cell 1,z.cell 2⟩);have P:=E (q.o l.drew n.o.bw);have R:=E (λi=>q.o (l.setCell a i).drew (n.o.ab a i k).bw);have T:=E (λi p=>q.o ((l.setCell a i).setCell ⟨a,1,I⟩ p).drew ((n.o.ab a i k).ab ⟨a,1,I⟩ p k).bw);have W:=E (λi p D=>q.o (((l.setCell a i).setCell ⟨a,1,I⟩ p).setCell ⟨a,2,I⟩ D).drew (((n.o.ab a i k).ab ⟨a,1,I⟩ p k).ab ⟨a,2,I⟩ D k).bw)
 go_region_held3 (λs=>s.cell? ⟨b,1,I⟩=K (A G f)/\s.cell? ⟨b,2,I⟩=K (A G c))
  (first|with_reducible exact P.o|with_reducible exact R.o _|with_reducible exact T.o _ _|with_reducible exact W.o _ _ _)
  (fail)
 all_goals go_wp2
 all_goals go_returns
 all_goals
  refine⟨rfl,ct.of ?_ ?_,?_⟩
  .exact(((g.o.nH.set 0 (A G 1)).set 1 (A G f)).set 2 (A G c)).bw
  .have t:=g.o.ne
   refine g.o.map.stay ?_
   show(((l.setCell _ _).setCell _ _).setCell _ _).heap[j]? =_
   rw [Yt _ _ _ _ (show j≠a from λh=>t h.symm),Yt _ _ _ _ (show j≠a from λh=>t h.symm),Yt _ _ _ _ (show j≠a from λh=>t h.symm)]
  .exact jn (aL (aL (aL (af.aj v.o) (Yg rfl)) (Yg rfl)) (Yg rfl))
theorem Js(j n:Nat)(f:bJ)(b:aU)(a:V)(q:ct a j n f)(z:nO b)(w:¬(f.state=0/\b.kind=48))(x:f.state≠1∨b.kind=48):
  d prog 159 #[Q (K j),b.val] a λc a0=>dW (12,f) j n a c a0:=by
 have k:=E (λa1=>vI b a1 z);obtain⟨h,W,J,L,T,P⟩:=f;obtain⟨g,u,t,s,p⟩:=b;simp only at w x;have c:aU.val ⟨g,u,t,s,p⟩=Yc #[A G g,A G u,A G t,A G s,A G p]:=rfl;rw [c] at k⊢;clear c;have m:=E q;have b5:=q.ay.lt;have v:=E (ai.new a #[A G g,A G u,A G t,A G s,A G p] 93);clear q z;have R:(h=0/\g≠48)∨(h≠0/\h≠1)∨(h=1/\g=48):=O;clear w x
 have C:∀i,X a a i->dW (12,⟨h,W,J,L,T,P⟩) j n a (e (Yd 49 (A G 12))) i:=λi y=>⟨rfl,m.o.ext y,af.aj y⟩
 have F:=E C;clear C
 rcases R with⟨rfl,b3⟩|⟨b6,b7⟩|⟨rfl,rfl⟩
 all_goals
  try simp only [Nat.cast_ofNat] at k v⊢
  go_enter func159,ntmps159
  go_wp2_with (go_at_call 139;refine(k.o _).mono ?_;rintro c i ⟨rfl,r⟩;have D:=E (v.o.ext r);have l:=E (show X a a i from ext N r);obtain⟨b8,b9,c0,c1,c2⟩:=D.o.cL;obtain⟨⟨a2,a3,a5,a6,a7⟩,a8,a9,b0,b1,b2⟩:=(m.o.ext l.o).nH.nH;have b4:=(m.o.ext l.o).ay.lt;clear r)
  go_returns;exact F.o _ l.o
theorem Ds(g h l b i:Nat)(k:RM)(j:aU)(D f C:Nat)(a:V)(c:ct a g h ⟨1,l,b,i,k,j⟩)(y:b<=f)(z:f<=1000):
  d prog 195 #[Q (K g),Yc #[A G 49,A G D,A G f,A G C,A G 0]] a λx F=>dW (3,⟨1,l,b,i,k,j⟩) g h a x F:=by
 have p:=E c;have T:=c.ay.lt;obtain⟨⟨J,L,P,r,R⟩,s,t,u,v,w⟩:=c.nH.nH;have W:¬f<b:=O;have q:=E (show∀m,X a a m->dW (3,⟨1,l,b,i,k,j⟩) g h a (e (Yd 49 (A G 3))) m from λm n=>⟨rfl,p.o.ext n,af.aj n⟩);clear c y z s t u v w r;go_enter func195,ntmps195;go_wp2;go_quiet (fail);go_wp2;go_returns;exact q.o _ (by first|exact ag N _|go_grown)
theorem Dt(j i y l v:Nat)(p:RM)(w:aU)(f b c:Nat)(a:V)(q:ct a j i ⟨1,y,l,v,p,w⟩)(P:b<l)(b8:b<=1000)(L:p.length<=100000):
  d prog 195 #[Q (K j),Yc #[A G 49,A G f,A G b,A G c,A G 0]] a λm g=>dW (0,⟨1,y,l,v,LQ p b ⟨49,f,b,c,0⟩,w⟩) j i a m g:=by
 have C:=E q;have c3:=q.ay.lt;obtain⟨⟨a7,a8,a9,b0,b1⟩,b2,b3,b4,b5,b6⟩:=q.nH.nH;have c5:b<l:=P;have T:=E (ai.new a #[A G 49,A G f,A G b,A G c,A G 0] 93);have a2:=E L;have a3:=E (O:b<=9223372036854775807);clear q P b8 L b2 b3 b4 b5 b6 b0;go_enter func195,ntmps195;go_wp2;go_quiet (fail);rename Nat=>x;have z:=E (show X a a ((a.alloc (M #[A G 49,A G f,A G b,A G c,A G 0] 93)).drewN x) from ag N _);have t:=E (T.o.ext (ag (Yn _ _) x));generalize (a.alloc (M #[A G 49,A G f,A G b,A G c,A G 0] 93)).drewN x=u at*;have k:=E (C.o.ext z.o);have c1:=k.o.ay.lt;have c2:=t.o.lt;have F:=E (λ(h:V) (n:ai h a #[A G 49,A G f,A G b,A G c,A G 0] 93) (c0:ai h j (bJ.cells ⟨1,y,l,v,p,w⟩ i) 140)=>show h.cell? ⟨j,4,I⟩=K (.map (K i))/\h.cell? a=K (A G 49)/\h.cell? ⟨a,1,I⟩=K (A G f)/\h.cell? ⟨a,2,I⟩=K (A G b)/\h.cell? ⟨a,3,I⟩=K (A G c)/\h.cell? ⟨a,4,I⟩=K (A G 0) from⟨c0.cell 4,n.cell 0,n.cell 1,n.cell 2,n.cell 3,n.cell 4⟩);have a5:=E (F.o u.drew t.o.bw k.o.ay.bw);obtain⟨s,R,J,r⟩:=(show cE u.drew i p from k.o.map).put a3.o ⟨49,f,b,c,0⟩ (by have:=a2.o;omega);have R:(Instr.mapUpdate 138 (.map (K i)) (A G b) (Yc #[A G 49,A G f,A G b,A G c,A G 0])).run prog u.drew= .ok () s:=R;have b9:=k.o.ne;have W:=E (show ai s a _ 93 from t.o.bw.grown r (by intro m;have:=(C.o.map).lt;rw [YG m] at this;omega));have D:=E (show ai s j _ 140 from k.o.ay.bw.grown r (by intro m;exact b9 (YG m)));have a6:=E (F.o s W.o D.o);have a0:=E J;have a1:=E r;clear J r a7 a8 a9 b1
 go_wp2_with fail
 go_region_held3 (λg=>g.cell? ⟨j,4,I⟩=K (.map (K i))/\g.cell? a=K (A G 49)/\g.cell? ⟨a,1,I⟩=K (A G f)/\g.cell? ⟨a,2,I⟩=K (A G b)/\g.cell? ⟨a,3,I⟩=K (A G c)/\g.cell? ⟨a,4,I⟩=K (A G 0))
  (first|with_reducible exact a5.o|with_reducible exact a6.o)
  (fail)
 all_goals go_wp2
 all_goals go_returns
 all_goals exact⟨rfl,⟨D.o,a0.o⟩,(af.aj z.o).trans (jn (af.refl _ _)|>.trans (af.grown a1.o λc4 b7=>Yh (YG b7).symm))⟩
theorem Dv(f g k b h:Nat)(j:RM)(i:aU)(q:Nat)(a:V)(c:ct a f g ⟨1,k,b,h,j,i⟩)(L:0<b):
  d prog 195 #[Q (K f),Yc #[A G 50,A G 0,A G 0,A G 0,A G q]] a λx y=>dW (14,⟨1,k,b,h,j,i⟩) f g a x y:=by
 have n:=E c;have J:=c.ay.lt;obtain⟨⟨z,C,D,r,F⟩,s,t,u,v,w⟩:=c.nH.nH;have p:=E (show∀l,X a a l->dW (14,⟨1,k,b,h,j,i⟩) f g a (e (Yd 49 (A G 14))) l from λl m=>⟨rfl,n.o.ext m,af.aj m⟩);clear c s t u v w r;go_enter func195,ntmps195;go_wp2;go_returns;exact p.o _ N
theorem Dw(a h C a5:Nat)(z:RM)(x:aU)(c:Nat)(b:V)(l:ct b a h ⟨1,C,0,a5,z,x⟩):
  d prog 195 #[Q (K a),Yc #[A G 50,A G 0,A G 0,A G 0,A G c]] b λi q=>dW (0,⟨2,C,0,c,z,x⟩) a h b i q:=by
 have J:=E l;have b0:=l.ay.lt;have p:b.heap.size≠a:=O;have k:=E (ai.new b #[A G 50,A G 0,A G 0,A G 0,A G c] 93);obtain⟨g,m⟩:∃g,b.alloc (M #[A G 50,A G 0,A G 0,A G 0,A G c] 93)=g:=⟨_,rfl⟩;have r:=E (show X b b g from by rw [<-m];go_grown);rw [m] at k;have f:=E (J.o.ext r.o);have L:=E m;obtain⟨⟨s,t,u,v,w⟩,W,a0,a1,a2,a3⟩:=l.nH.nH;clear m W a0 a1 a2 a3 l;go_enter func195,ntmps195;go_wp2;rw [L.o];clear s t u v w;obtain⟨⟨s,t,u,v,w⟩, -⟩:=f.o.nH.nH;have a7:=f.o.nH.free 0;have a8:=f.o.nH.free 3;have a9:=f.o.ay.lt;have n:=E (λ(D:V) (a6:ai D b #[A G 50,A G 0,A G 0,A G 0,A G c] 93)=>show D.cell? ⟨b,4,I⟩=K (A G c) from a6.cell 4);have P:=E (n.o g.drew k.o.bw);have R:=E (λj=>n.o (g.setCell a j).drew (k.o.ab a j p).bw);have T:=E (λj F=>n.o ((g.setCell a j).setCell ⟨a,3,I⟩ F).drew ((k.o.ab a j p).ab ⟨a,3,I⟩ F p).bw)
 go_region_held3 (λq=>q.cell? ⟨b,4,I⟩=K (A G c))
  (first|with_reducible exact P.o|with_reducible exact R.o _|with_reducible exact T.o _ _)
  (fail)
 all_goals go_wp2
 all_goals go_returns
 all_goals
  refine⟨rfl,ct.of ?_ ?_,?_⟩
  .exact((f.o.nH.set 0 (A G 2)).set 3 (A G c)).bw
  .have y:=f.o.ne
   refine f.o.map.stay ?_
   show((g.setCell _ _).setCell _ _).heap[h]? =_
   rw [Yt _ _ _ _ (show h≠a from λi=>y i.symm),Yt _ _ _ _ (show h≠a from λi=>y i.symm)]
  .exact jn (aL (aL (af.aj r.o) (Yg rfl)) (Yg rfl))
theorem zR(c f j g:Nat)(i:RM)(h:aU)(x w:Nat)(a:V)(b:ct a c f ⟨1,j,0,g,i,h⟩):
  d prog 195 #[Q (K c),Yc #[A G 51,A G x,A G 0,A G w,A G 0]] a λv y=>dW (14,⟨1,j,0,g,i,h⟩) c f a v y:=by
 have m:=E b;have J:=b.ay.lt;obtain⟨⟨z,C,D,p,F⟩,q,r,s,t,u⟩:=b.nH.nH;have n:=E (show∀k,X a a k->dW (14,⟨1,j,0,g,i,h⟩) c f a (e (Yd 49 (A G 14))) k from λk l=>⟨rfl,m.o.ext l,af.aj l⟩);clear b q r s t u p;go_enter func195,ntmps195;go_wp2;go_quiet (fail);go_wp2;go_returns;exact n.o _ (by first|exact ag N _|go_grown)
theorem cE.mh{f:V}{a:Nat}{b:RM}(g:cE f a b){c:Nat}(h:a≠c)(o:Nat)(i:Z):cE (f.setCell ⟨c,o,I⟩ i) a b:=g.stay (Yt _ _ _ _ h)
theorem cE.RP{c:V}{a:Nat}{b:RM}(f:cE c a b):cE c.drew a b:=f
section
variable (p b sm ch co:Nat) (m:RM) (fin:aU) (s l:Nat) (w:V)
def Tr(p b ch:Nat)(m:RM)(a:V):Prop:=a.cell? ⟨p,2,I⟩=K (A G ch)/\a.cell? ⟨p,4,I⟩=K (.map (K b))/\(Builtin.len_ #[138] 3 #[.map (K b)]).run prog a= .ok (A G (m.length:Int)) a
theorem Du(h:ct w p b ⟨1,sm,ch,co,m,fin⟩)(x:ch≠0)(C:m.length<ch):
  d prog 195 #[Q (K p),Yc #[A G 51,A G s,A G 0,A G l,A G 0]] w λu a=>dW (14,⟨1,sm,ch,co,m,fin⟩) p b w u a:=by
 have k:=E h;have z:=h.ay.lt;obtain⟨c,i⟩:∃c,w.alloc (M #[A G 51,A G s,A G 0,A G l,A G 0] 93)=c:=⟨_,rfl⟩;have g:=E (show X w w c from by rw [<-i];go_grown);have f:=E (k.o.ext g.o);have q:=E i;have r:=E (show∀j,X w w j->dW (14,⟨1,sm,ch,co,m,fin⟩) p b w (e (Yd 49 (A G 14))) j from λj n=>⟨rfl,k.o.ext n,af.aj n⟩);clear h i;have t:=E (show Tr p b ch m c.drew from⟨f.o.ay.cell 2,f.o.ay.cell 4,(show cE c.drew b m from f.o.map).count _⟩);have v:¬(ch:Int)=0:=O
 have D:((ch:Int)==0)=false:=by simpa using v
 go_enter func195,ntmps195;go_wp2;rw [q.o];have y:=f.o.ay.lt
 go_region_held3 (λa=>a.cell? ⟨p,2,I⟩=K (A G ch)/\a.cell? ⟨p,4,I⟩=K (.map (K b))/\(Builtin.len_ #[138] 3 #[.map (K b)]).run prog a= .ok (A G (m.length:Int)) a)
  (exact t.o)
  (fail)
 all_goals go_wp2
 all_goals go_returns
 all_goals exact r.o _ (by first|exact g.o.drew|exact g.o)
theorem GK(u:ct w p b ⟨1,sm,ch,co,m,fin⟩)(c4:ch≠0)(c7:¬m.length<ch):
  d prog 195 #[Q (K p),Yc #[A G 51,A G s,A G 0,A G l,A G 0]] w λt c=>dW (0,⟨3,sm,ch,co,m,⟨51,s,0,l,0⟩⟩) p b w t c:=by
 have D:=E u;have c6:=u.ay.lt;have g:w.heap.size≠p:=O;have j:=E (ai.new w #[A G 51,A G s,A G 0,A G l,A G 0] 93);obtain⟨f,n⟩:∃f,w.alloc (M #[A G 51,A G s,A G 0,A G l,A G 0] 93)=f:=⟨_,rfl⟩;have v:=E (show X w w f from by rw [<-n];go_grown);rw [n] at j;have a:=E (D.o.ext v.o);have F:=E n;clear u n;have k:=E (show Tr p b ch m f.drew from⟨a.o.ay.cell 2,a.o.ay.cell 4,(show cE f.drew b m from a.o.map).count _⟩);have T:¬(ch:Int)=0:=O
 have c8:((ch:Int)==0)=false:=by simpa using T
 go_enter func195,ntmps195;go_wp2;rw [F.o];have c5:=a.o.ay.lt
 go_region_held3 (λc=>c.cell? ⟨p,2,I⟩=K (A G ch)/\c.cell? ⟨p,4,I⟩=K (.map (K b))/\(Builtin.len_ #[138] 3 #[.map (K b)]).run prog c= .ok (A G (m.length:Int)) c)
  (exact k.o)
  (fail)
 clear k;have r:=E (λ(W:V) (R:ai W w #[A G 51,A G s,A G 0,A G l,A G 0] 93)=>R.cL);have k:=E (r.o f.drew.drew j.o.bw.bw);have J:=E (λi=>r.o (f.setCell p i).drew.drew (j.o.ab p i g).bw.bw);have L:=E (λi z C x y q=>r.o ((((((f.setCell p i).setCell ⟨p,5,I⟩ z).setCell ⟨p,6,I⟩ C).setCell ⟨p,7,I⟩ x).setCell ⟨p,8,I⟩ y).setCell ⟨p,9,I⟩ q).drew.drew ((((((j.o.ab p i g).ab ⟨p,5,I⟩ z g).ab ⟨p,6,I⟩ C g).ab ⟨p,7,I⟩ x g).ab ⟨p,8,I⟩ y g).ab ⟨p,9,I⟩ q g).bw.bw);obtain⟨⟨a8,a9,b0,b1,b2⟩,b3,b4,b5,b6,b7⟩:=a.o.nH.nH;have b8:=a.o.nH.free 0;have b9:=a.o.nH.free 5;have c0:=a.o.nH.free 6;have c1:=a.o.nH.free 7;have c2:=a.o.nH.free 8;have c3:=a.o.nH.free 9
 go_wp2_with fail
 go_region_held3 (λc=>c.cell? w=K (A G 51)/\c.cell? ⟨w,1,I⟩=K (A G s)/\c.cell? ⟨w,2,I⟩=K (A G 0)/\c.cell? ⟨w,3,I⟩=K (A G l)/\c.cell? ⟨w,4,I⟩=K (A G 0))
  (first|with_reducible exact k.o|with_reducible exact J.o _|with_reducible exact L.o _ _ _ _ _ _)
  (fail)
 all_goals go_wp2
 all_goals go_returns
 all_goals
  refine⟨rfl,ct.of ?_ ?_,?_⟩
  .have a0:ai (f.setCell p (A G 3)) p #[A G 3,A G sm,A G ch,A G co,.map (K b),A G (fin.kind:Int),A G (fin.sum:Int),A G (fin.number:Int),A G (fin.length:Int),A G (fin.code:Int)] 140:=a.o.nH.set 0 (A G 3)
   have a1:ai _ p #[A G 3,A G sm,A G ch,A G co,.map (K b),A G 51,A G (fin.sum:Int),A G (fin.number:Int),A G (fin.length:Int),A G (fin.code:Int)] 140:=a0.set 5 (A G 51);have a2:ai _ p #[A G 3,A G sm,A G ch,A G co,.map (K b),A G 51,A G s,A G (fin.number:Int),A G (fin.length:Int),A G (fin.code:Int)] 140:=a1.set 6 (A G s);have a3:ai _ p #[A G 3,A G sm,A G ch,A G co,.map (K b),A G 51,A G s,A G 0,A G (fin.length:Int),A G (fin.code:Int)] 140:=a2.set 7 (A G 0);have a5:ai _ p #[A G 3,A G sm,A G ch,A G co,.map (K b),A G 51,A G s,A G 0,A G l,A G (fin.code:Int)] 140:=a3.set 8 (A G l);have a6:ai _ p #[A G 3,A G sm,A G ch,A G co,.map (K b),A G 51,A G s,A G 0,A G l,A G 0] 140:=a5.set 9 (A G 0);have a7:=a6.bw.bw;exact a7
  .have P:=a.o.ne
   have h:b≠p:=λt=>P t.symm
   exact(a.o.map.mh h 0 (A G 3)).mh h 5 (A G 51)|>.mh h 6 (A G s)|>.mh h 7 (A G 0)|>.mh h 8 (A G l)|>.mh h 9 (A G 0)|>.RP.RP
  .exact jn (jn (aL (aL (aL (aL (aL (aL (af.aj v.o) (Yg rfl)) (Yg rfl)) (Yg rfl)) (Yg rfl)) (Yg rfl)) (Yg rfl)))
end
theorem Rs(f h:Nat)(r:bJ)(t:aU)(g:V)(n:ct g f h r)(F:nO t)(y:r.state=1)(z:t.kind≠48)(C:r.done.length<=100000):
  d prog 195 #[Q (K f),t.val] g λD J=>dW (zQ r t) f h g D J:=by
 obtain⟨P,o,b,j,i,m⟩:=r;obtain⟨L,u,w,s,x⟩:=t;simp only at y z C;subst y;unfold zQ
 rcases F with⟨c,_⟩|⟨c,p,k,q,l⟩|⟨c,p,k,q,l⟩|⟨c,p,k,q,l⟩
 .exact absurd c z
 .simp only at c p k q l
  subst c;subst l;simp only [if_true];by_cases a:b<=w
  .rw [if_pos a];exact Ds f h o b j i m u w s g n a O
  .rw [if_neg a];exact Dt f h o b j i m u w s g n O O C
 .simp only at c p k q l
  subst c;subst p;subst k;subst q;rw [if_neg Y,if_pos rfl];by_cases a:0<b
  .rw [if_pos a];exact Dv f h o b j i m x g n a
  .obtain rfl:b=0:=O
   rw [if_neg a];exact Dw f h o j i m x g n
 .simp only at c p k q l
  subst c;subst k;subst l;rw [if_neg Y,if_neg Y];by_cases a:b=0
  .subst a
   rw [if_pos (Yg rfl)];exact zR f h o j i m u s g n
  .by_cases v:i.length<b
   .rw [if_pos (Yh v)];exact Du f h o b j i m u s g n a v
   .rw [if_neg (by simp only;omega)];exact GK f h o b j i m u s g n a v
theorem Jt(h k:Nat)(b:bJ)(a:aU)(f:V)(m:ct f h k b)(r:nO a)(n:b.state=1)(y:a.kind≠48)(C:b.done.length<=100000):
  d prog 159 #[Q (K h),a.val] f λc a0=>dW (zQ b a) h k f c a0:=by
 have w:=E (λv=>vI a v r);have i:=E (λv W=>Rs h k b a v W r n y C);generalize zQ b a=c3 at i⊢;obtain⟨c5,c4,b2,b3,b7,b4⟩:=b;obtain⟨g,u,t,s,l⟩:=a;simp only at n y;subst n;have c:aU.val ⟨g,u,t,s,l⟩=Yc #[A G g,A G u,A G t,A G s,A G l]:=rfl;rw [c] at w i⊢;clear c C r;have L:=E m;have b6:=m.ay.lt;have T:¬(g:Int)=48:=O
 have q:((g:Int)==48)=false:=by simpa using T
 have F:=E (ai.new f #[A G g,A G u,A G t,A G s,A G l] 93);clear m;go_enter func159,ntmps159
 go_wp2_with (first
  |(go_at_call 195;refine(i.o D j.o).mono ?_;rintro c c6 ⟨rfl,z,q⟩;have P:=E z;have R:=E q;clear z q)
  |(go_at_call 139;refine(w.o _).mono ?_;rintro c D ⟨rfl,p⟩;have J:=E (F.o.ext p);have x:=E (show X f f D from ext N p);have j:=E (L.o.ext x.o);obtain⟨b8,b9,c0,c1,c2⟩:=J.o.cL;obtain⟨⟨a1,a2,a3,a5,a6⟩,a7,a8,a9,b0,b1⟩:=j.o.nH.nH;have b5:=j.o.ay.lt;clear p))
 go_returns;exact⟨rfl,P.o,(af.aj x.o).trans R.o⟩
theorem xB(g i:Nat)(a:bJ)(b:aU)(h:V)(l:ct h g i a)(k:nO b)(s:a.done.length<=100000):
  d prog 159 #[Q (K g),b.val] h λq x=>dW (eY a b) g i h q x:=by
 unfold eY;by_cases c:a.state=0/\b.kind=48
 .rw [if_pos c]
  obtain⟨J,w,o,p,t,r⟩:=a;obtain⟨D,v,u,F,y⟩:=b;obtain⟨c,f⟩:=c;simp only at c f;subst c;subst f
  rcases id k with⟨_,z,C,m,n⟩|⟨j,_⟩|⟨j,_⟩|⟨j,_⟩
  .simp only at m n
   subst m;subst n;exact An g i w o p t r v u h l k
  .simp at j
  .simp at j
  .simp at j
 .rw [if_neg c]
  by_cases f:a.state≠1∨b.kind=48
  .rw [if_pos f];exact Js g i a b h l k c f
  .rw [if_neg f];exact Jt g i a b h l k O O s
theorem Ky(v b:Nat)(h:bJ)(a:V)(f:ct a v b h):
  d prog 79 #[Q (K v)] a λm y=>∃q j,m=e (Q (K ⟨q,0,I⟩))/\ct y q j h/\a.heap.size<=q/\a.heap.size<=j/\X a a y:=by
 have L:=E f;have b6:=f.ay.lt;obtain⟨x,w,k,l,u,⟨p,s,fn,r,n⟩⟩:=h;obtain⟨⟨a3,a5,a6,a7,a8⟩,P,R,T,W,a0⟩:=f.nH.nH;simp only at P R T W a0;have C:=E (ai.new a #[A G x,A G w,A G k,A G l,.map (K b),A G p,A G s,A G fn,A G r,A G n] 140);have D:=E (λ(z:V) (a1:cE z b u)=>EF b u z a1);clear f;go_enter func79,ntmps79
 go_wp2_with (go_at_call 122;refine(D.o _ (L.o.map.ext N)).mono ?_;rintro m b7 ⟨rfl,t,g⟩;have J:=E t;have F:=E g;have c:=E (C.o.ext g);obtain⟨⟨a9,b0,b1,b2,b3⟩, -⟩:=c.o.nH;have b4:=c.o.free 4;have b5:=c.o.lt;clear t g)
 go_returns;have a2:(a.alloc (M #[A G x,A G w,A G k,A G l,.map (K b),A G p,A G s,A G fn,A G r,A G n] 140)).heap.size=a.heap.size+1:=Y;have i:=J.o;rw [a2] at i;refine⟨a.heap.size,a.heap.size+1,rfl,ct.of ?_ ?_,Yk _,O,?_⟩
 .exact c.o.set 4 (.map (K (a.heap.size+1)))
 .exact i.mh O 4 _
 .exact(ext (N:X a a _) F.o).setCell (by show a.heap.size<=a.heap.size;omega) _
theorem lO.at{w:V}{B:Nat}{ao:Option Yi}{n cap:Nat}{l:List aU}(h:lO w B (U ao n cap) l){k:Nat}(j:k<l.length):
  ∃a,ao=K ⟨a,0,I⟩/\a<w.heap.size/\w.cell? ⟨a,k*5,I⟩=K (A G ((l.getD k de).kind:Int))/\w.cell? ⟨a,k*5+1,I⟩=K (A G ((l.getD k de).sum:Int))/\w.cell? ⟨a,k*5+2,I⟩=K (A G ((l.getD k de).number:Int))/\w.cell? ⟨a,k*5+3,I⟩=K (A G ((l.getD k de).length:Int))/\w.cell? ⟨a,k*5+4,I⟩=K (A G ((l.getD k de).code:Int)):=by
 have m:l[k]? =K (l.getD k de):=by rw [Yp,YM j];rfl
 rcases aV h with⟨g,p⟩|⟨a,b,g, -,o, -⟩
 .omega
 .simp only [Yy] at g
  obtain⟨rfl,rfl,rfl⟩:=g
  have c:∀b f,(zL (l.getD k de))[b]? =K f->w.cell? ⟨a,k*5+b,I⟩=K f:=λb f i=>au h (tt l k _ b f m i)
  exact⟨a,rfl,o,c 0 _ rfl,c 1 _ rfl,c 2 _ rfl,c 3 _ rfl,c 4 _ rfl⟩
def eQ(b:List aU):Nat->Nat
 |0=>0
 |a+1=>if (a_ b (a+1)).2 then a+1 else eQ b a
theorem zN(a:List aU){k n:Nat}(c:(a_ a k).2=false)(j:k<=n):a_ a n=a_ a k/\eQ a n=eQ a k:=by
 induction n with
 |zero=>
  obtain rfl:k=0:=O;exact⟨rfl,rfl⟩
 |succ n i=>
  by_cases g:k=n+1
  .subst g;exact⟨rfl,rfl⟩
  .obtain⟨b,h⟩:=i O
   have f:a_ a (n+1)=a_ a n:=by rw [a_];rw [b,c];simp
   refine⟨f.trans b,?_⟩;rw [eQ,f,b,c]
   simpa using h
theorem rA(b:List aU){a:Nat}(c:(a_ b a).2=true):eQ b a=a:=by
 cases a with
 |zero=>rfl
 |succ a=>rw [eQ,c];simp
theorem uA(a:bJ)(b:aU):(eY a b).2.done.length<=a.done.length+1:=by
 unfold eY zQ
 repeat' split
 all_goals first|exact Nat.le_succ _|exact BN _ _ _
theorem oD(c:List aU):∀a,(a_ c a).1.done.length<=a
 |0=>Yk _
 |a+1=>by
  have b:=oD c a;rw [a_];split
  .split
   .exact Yl (uA _ _) O
   .exact Yl b O
  .exact Yl b O
theorem aR.made(a:V):aR (a.alloc (.map #[] 0)) a []:=World.ownsMap_made a _ _ _
theorem QP(b:Int)(l:0<=b/\b<=16777216)(a:V):
  d prog 64 #[A G b] a λc h=>c=e (Ye #[Q (K ⟨a.heap.size+2,0,I⟩),Ya])/\DP h (a.heap.size+2) ⟨U I 0 0,U I 0 0,a.heap.size,a.heap.size+1,[]⟩ (dZ b)/\X a a h:=by
 have p:=@run_makeMap prog;obtain⟨n,o⟩:=l;go_enter func64,ntmps64;go_wp2;go_returns;refine⟨rfl,?_,N⟩;have g:=ai.new ((a.alloc (.map #[] 0)).alloc (.map #[] 0)) (e_ ⟨U I 0 0,U I 0 0,a.heap.size,a.heap.size+1,[]⟩ (dZ b)) 126;have c:((a.alloc (.map #[] 0)).alloc (.map #[] 0)).heap.size=a.heap.size+2:=Y;rw [c] at g;refine⟨g,YC _ _ _ 2,rfl,λm k=>by simp [dZ] at k,λq m r j=>by simp [dZ] at j,?_,?_,by show a.heap.size≠a.heap.size+1;omega,YC _ _ _ 4⟩
 .exact(aR.made a).kept (row:=I) ((World.grownBy_alloc _ _ I).trans (World.grownBy_alloc _ _ I)) Y
 .have f:=(aR.made (a.alloc (.map #[] 0))).kept (row:=I) (World.grownBy_alloc _ (M (e_ ⟨U I 0 0,U I 0 0,a.heap.size,a.heap.size+1,[]⟩ (dZ b)) 126) I) Y
  have i:(a.alloc (.map #[] 0)).heap.size=a.heap.size+1:=Y;rw [i] at f;exact f
structure aC(W:V)(p:Nat)(L:bY)(D:DS)(w:V):Prop where
 dp:DP w p L D
 own:∀k,L.has p k->W.heap.size<=k
 below:X W W w
theorem aC.size{a:V}{h:Nat}{f:bY}{c:DS}{b:V}(g:aC a h f c b):a.heap.size<=b.heap.size:=g.below.size
theorem aC.ext{g:V}{i:Nat}{f:bY}{c:DS}{b j:V}(a:aC g i f c b)(h:X b b j):aC g i f c j:=
 ⟨a.dp.stays λl k=>h.block l (a.dp.lt k),a.own,a.below.trans (h.mono a.size)⟩
theorem aC.aD{l:V}{b:Nat}{f g:bY}{m k:DS}{i j:V}(c:aC l b f m i)(n:DP j b g k)(o:∀a,g.has b a->f.has b a∨i.heap.size<=a)(p:af (f.has b) i j):aC l b g k j:=
 ⟨n,λa q=>by
  rcases o a q with h|h
  .exact c.own a h
  .exact Yl c.size h,c.below.trans (p.below c.own c.size)⟩
theorem Qz{b f:Nat}(i:f=b+2):∀c,(⟨U I 0 0,U I 0 0,b,b+1,[]⟩:bY).has f c->b<=c:=by
 intro c h
 rcases h with a|a|a|a|a|⟨j,g, -⟩
 .omega
 .simp [YT] at a
 .simp [YT] at a
 .have a:c=b:=a;omega
 .have a:c=b+1:=a;omega
 .simp at g
def bM(j:V)(a:Nat)(c:bY)(i:DS)(g h:V):Prop:=
 ∃f,aC j a f i h/\af (c.has a) g h/\∀b,f.has a b->c.has a b∨g.heap.size<=b
section
variable {W:V} {p:Nat} {L:bY} {D:DS} {w:V}
theorem aC.Tc(j:aC W p L D w){h:Int}{a:DS}{b:Ending}{g:V}(k:iv p L h a w b g):b=e (bj h)/\bM W p L a w g:=by
 obtain⟨m,i,l,c,f⟩:=k;exact⟨m,i,j.aD l c f,f,c⟩
theorem aC.jk(a:aC W p L D w){c:List Int}{f:Z}{b:Nat}(m:Inv D b)(n:b<=100000)(r:aY W f c):
  d prog 32 #[Q (K p),f] w λh g=>h=e (Ye #[])/\bM W p L (jS D c) w g:=
 (JP p L D c f b w a.dp m n λg q=>r.ext (a.below.trans (q.below a.own a.size))).mono λh g ⟨o,k,l,i,j⟩=>⟨o,k,a.aD l i j,j,i⟩
theorem aC.sync(c:aC W p L D w){a:Bs}{b:Nat}(i:Inv D b)(j:b<=100000)(k:a.length<=YO):
  d prog 107 #[Q (K p),Yb ⟨a.toArray⟩] w λf g=>f=e (bj (fQ D a))/\bM W p L (cV D a) w g:=
 (PH p L D a b w c.dp i j k).mono λf g h=>c.Tc h
theorem aC.rC(b:aC W p L D w){a:Nat}(h:Inv D a)(i:a<=100000):
  d prog 109 #[Q (K p)] w λc f=>c=e (bj (jY D))/\bM W p L (dG D) w f:=
 (DR p L D a w b.dp h i).mono λc f g=>b.Tc g
theorem aC.U'(c:aC W p L D w)(b:Int):
  d prog 34 #[Q (K p),A G b] w λf h=>f=e (Ye #[])/\bM W p L (qC D b) w h:=
 (Qg p L D b w c.dp).mono λf h ⟨j,i,g⟩=>⟨j,L,c.aD i (λ_ a=>Yg a) (af.self g),af.self g,λ_ a=>Yg a⟩
theorem aC.create(c:aC W p L D w){a:Bs}{b:Nat}(i:Inv D b)(j:b<=100000)(k:a.length<=YO):
  d prog 105 #[Q (K p),Yb ⟨a.toArray⟩] w λf g=>f=e (bj (b_ D (bU D a)))/\bM W p L (br D a) w g:=
 (ED p L D a b w c.dp i j k).mono λf g h=>c.Tc h
theorem aC.append(g:aC W p L D w){a b:Bs}{f:Z}{c:Nat}(k:Inv D c)(l:c<=100000)(m:a.length<=YO)(n:ah w f b):
  d prog 106 #[Q (K p),Yb ⟨a.toArray⟩,f] w λh i=>h=e (bj (gf D a b))/\bM W p L (du D a b) w i:=
 (Ek p L D a f b c w g.dp n k l m).mono λh i j=>g.Tc j
theorem aC.rename(f:aC W p L D w){a b:Bs}{c:Nat}(j:Inv D c)(k:c<=100000)(l:a.length<=YO)(m:b.length<=YO):
  d prog 108 #[Q (K p),Yb ⟨a.toArray⟩,Yb ⟨b.toArray⟩] w λg h=>g=e (bj (oC D a b))/\bM W p L (gO D a b) w h:=
 (GH p L D a b c w f.dp j k l m).mono λg h i=>f.Tc i
theorem aC.remove(c:aC W p L D w){a:Bs}{b:Nat}(i:Inv D b)(j:b<=100000)(k:a.length<=YO):
  d prog 116 #[Q (K p),Yb ⟨a.toArray⟩] w λf g=>f=e (bj (xm D a))/\bM W p L (jK D a) w g:=
 (GG p L D a b w c.dp i j k).mono λf g h=>c.Tc h
theorem aC.files(f:aC W p L D w){c:Nat}(j:Inv D c)(k:c<=100000):
  d prog 37 #[Q (K p)] w λg b=>∃a cap,g=e (.slice a (cY D).length cap)/\iC b w (.slice a (cY D).length cap) (cY D)/\aC W p L D b/\X w w b:=
 (Kg p L D c w f.dp j k).mono λg b ⟨m,l,i,h⟩=>by
  obtain⟨a,cap,rfl⟩:=i.dm rfl;exact⟨a,cap,l,i,f.ext h,h⟩
end
theorem Jr(c:bJ)(f:aU)(a:(eY c f).1≠0):(eY c f).2=c:=by
 unfold eY at a⊢;split
 .rename_i b;rw [if_pos b] at a;exact absurd rfl a
 .rename_i b
  rw [if_neg b] at a;split
  .rfl
  .rename_i g
   rw [if_neg g] at a;unfold zQ at a⊢
   repeat' split
   all_goals first
    |rfl
    |(exfalso;simp_all)
theorem Bw{g c:Nat}{a h i:V}(f:X a a h)(b:af (US g c) h i)(k:a.heap.size<=g)(j:a.heap.size<=c):X a a i:=
 f.trans (b.below (λl b=>by rcases b with rfl|rfl<;>assumption) f.size)
theorem GJ(b5:Z)(a:List aU)(h:V)(p:lO h 0 b5 a)(e1:a.length<=90000)(R:∀k,k<a.length->nO (a.getD k de)):
  d prog 208 #[b5] h λr b6=>∃f g,r=e (Ye #[Q (K ⟨f,0,I⟩),A G (eQ a a.length:Int)])/\ct b6 f g (a_ a a.length).1/\h.heap.size<=f/\h.heap.size<=g/\X h h b6:=by
 obtain⟨D,cap,rfl⟩:=aK p;obtain⟨c,P⟩:∃c,a.length=c:=⟨_,rfl⟩;have e3:h.ownsRow 0 93 5 (U D a.length cap) a.length (iV a):=p;rw [P] at e1 R p⊢;have b8:=E (λi=>NW i);have b7:=E (λ(f g:Nat) (k:bJ) (b0:aU) (i:V) (F:ct i f g k) (u:nO b0) (e2:k.done.length<=100000)=>xB f g k b0 i F u e2);have c4:=E p;have c2:=E P;have c3:=E R;clear p e3 P R;go_enter func208,ntmps208
 go_wp2_with (go_at_call 250;refine(b8.o _).mono ?_;rintro r g1 ⟨f,g,rfl,a3,t,s,a0⟩;have c1:=E a3;have c0:=E a0;clear a3 a0)
 go_loopw [10] (λT wr=>∃b:Nat,b<=c/\T=A G b/\(a_ a b).2=true/\ct wr f g (a_ a b).1/\X h h wr) (λT _=>c - (Yz T).toNat)
 case atStart=>exact⟨0,Yr _,rfl,rfl,c1.o,c0.o⟩
 case round=>
  obtain⟨b,g0,rfl,a8,a2,a1⟩:=hrel;have C:=E a8;have x:=E a2;have q:=E a1;clear a8 a2 a1;by_cases a6:b<c
  .obtain⟨e8,rfl,e9,c5,c6,c7,c8,c9⟩:=lO.at (w:=wr) (B:=0) (ao:=D) (n:=c) (cap:=cap) (l:=a) (aG c4.o q.o) (by rw [c2.o];exact a6)
   have u:=c3.o b a6
   have a7:a_ a (b+1)=if (eY (a_ a b).1 (a.getD b de)).1=0 then ((eY (a_ a b).1 (a.getD b de)).2,true) else ((a_ a b).1,false):=by rw [a_,if_pos C.o]
   have e0:=oD a b;have l:=E (λ(i:V) (F:ct i f g (a_ a b).1)=>b7.o f g (a_ a b).1 (a.getD b de) i F u O);have z:=E a7;clear a7 u e0;generalize a.getD b de=e4 at*;obtain⟨b2,rs,b4,b3,b1⟩:=e4;simp only at c5 c6 c7 c8 c9;simp only [aU.val] at l;have J:=Jr (a_ a b).1 ⟨b2,rs,b4,b3,b1⟩;generalize eY (a_ a b).1 ⟨b2,rs,b4,b3,b1⟩=e5 at*;obtain⟨e7,a9⟩:=e5;simp only at J;have b9:=E J;clear J;simp only at z;by_cases v:e7=0
   .subst v
    simp only [ar,dW] at l;have j:=E (show a_ a (b+1)=(a9,true) from by rw [z.o];simp)
    go_wp2_with fail
    refine(l.o _ (x.o.ext N)).mono ?_;rintro r e6 ⟨rfl,m,n⟩;have y:=E m;have w:=E (Bw (ext q.o N) n t s);clear m n;go_wp2;go_roundw
    case rel=>exact⟨b+1,O,S,by rw [j.o],by rw [j.o];exact y.o,w.o⟩
    case measure=>simp [Yz];omega
   .simp only [aT v,dW] at l
    have a5:=b9.o v;have j:=E (show a_ a (b+1)=((a_ a b).1,false) from by rw [z.o];simp [v]);have L:=zN a (k:=b+1) (n:=c) (by rw [j.o]) O;have W:=E (show(a_ a c).1=a9/\eQ a c=b from⟨by rw [L.1,j.o,a5],by rw [L.2,eQ,j.o];simp;exact rA a C.o⟩);clear L a5
    go_wp2_with fail
    refine(l.o _ (x.o.ext N)).mono ?_;rintro r e6 ⟨rfl,m,n⟩;have y:=E m;have w:=E (Bw (ext q.o N) n t s);clear m n;go_wp2;go_returns;exact⟨f,g,by rw [W.o.2];rfl,by rw [W.o.1];exact y.o,t,s,w.o⟩
  .obtain rfl:b=c:=O
   go_wp2;go_returns;exact⟨f,g,by rw [rA a C.o];rfl,x.o,t,s,q.o⟩
def Us(a:cF):Bs:=((([Ym a.fq.toNat,Ym a.eC.toNat,Ym a.reach.toNat,Ym a.gop.toNat,Ym (a.cut.toNat / 256),Ym a.cut.toNat]++g_ a.bX.toNat)++g_ a.room.toNat)++g_ a.fill.toNat)
def cl(a:cF)(b:Bs):Nat:=aF (Us a++b)
theorem ai.eight{b:V}{a:Nat}{f g h i j k l m:Z}{n:Nat}(c:ai b a #[f,g,h,i,j,k,l,m] n):b.cell? a=K f/\b.cell? ⟨a,1,I⟩=K g/\b.cell? ⟨a,2,I⟩=K h/\b.cell? ⟨a,3,I⟩=K i/\b.cell? ⟨a,4,I⟩=K j/\b.cell? ⟨a,5,I⟩=K k/\b.cell? ⟨a,6,I⟩=K l/\b.cell? ⟨a,7,I⟩=K m:=
 ⟨c.cell 0,c.cell 1,c.cell 2,c.cell 3,c.cell 4,c.cell 5,c.cell 6,c.cell 7⟩
theorem Ry(i:V)(a b c f g h:UInt8):(i.alloc (M #[A Yf (a.toNat:Int),A Yf (b.toNat:Int),A Yf (c.toNat:Int),A Yf (f.toNat:Int),A Yf (g.toNat:Int),A Yf (h.toNat:Int)] 5)).ownsRow i 5 1 (U (K i) 6 6) ([a,b,c,f,g,h]:Bs).length (ak [a,b,c,f,g,h]):=
 World.ownsRow_lit i #[A Yf (a.toNat:Int),A Yf (b.toNat:Int),A Yf (c.toNat:Int),A Yf (f.toNat:Int),A Yf (g.toNat:Int),A Yf (h.toNat:Int)] 6 (Yk _) (by simp [YO]) Y
theorem QJ(F:cF)(h0:Z)(s:Bs)(c:V)(b1:ah c h0 s)(b0:s.length<=1000000)(a1:iB F=true):
  d prog 210 #[F.val,h0] c λk f=>k=e (Ye #[A G (cl F s:Int),Ya])/\X c c f:=by
 have c2:=E (λc=>by have:=fV F c;rw [a1,if_pos rfl,ar] at this;exact this);obtain⟨j,cap,rfl⟩:=b1.shape;obtain⟨n,m,p,cut,l,h,i,g⟩:=F
 have k0:0<=n/\n<=15/\0<=m/\m<=15/\0<=p/\0<=cut/\cut<=16320/\0<=l/\l<=16/\p<=7/\0<=h/\0<=i/\0<=g:=by
  unfold iB QL QN QM gu at a1;simp at a1;omega
 obtain⟨e0, -,e1, -,e2,e3, -,e4, -, -,e5,e6,e7⟩:=k0;obtain⟨n,rfl⟩:=Int.eq_ofNat_of_zero_le e0;obtain⟨m,rfl⟩:=Int.eq_ofNat_of_zero_le e1;obtain⟨p,rfl⟩:=Int.eq_ofNat_of_zero_le e2;obtain⟨cut,rfl⟩:=Int.eq_ofNat_of_zero_le e3;obtain⟨l,rfl⟩:=Int.eq_ofNat_of_zero_le e4;obtain⟨h,rfl⟩:=Int.eq_ofNat_of_zero_le e5;obtain⟨i,rfl⟩:=Int.eq_ofNat_of_zero_le e6;obtain⟨g,rfl⟩:=Int.eq_ofNat_of_zero_le e7;clear e0 e1 e2 e3 e4 e5 e6 e7 a1;have e8:cl ⟨n,m,p,cut,l,h,i,g⟩ s=aF ((((([Ym n,Ym m,Ym p,Ym l,Ym (cut / 256),Ym cut]++g_ h)++g_ i)++g_ g))++s):=rfl;rw [e8];clear e8;have l4:=wrap_u8 n;have l5:=wrap_u8 m;have l6:=wrap_u8 p;have l7:=wrap_u8 l
 have l8:Zc Yf ((cut:Int) / 256)=((Ym (cut / 256)).toNat:Int):=by rw [<-wrap_u8];congr 1
 have l9:=wrap_u8 cut
 show d prog 210 #[Yc #[A G n,A G m,A G p,A G cut,A G l,A G h,A G i,A G g],_] c _
 have c9:cF.val ⟨n,m,p,cut,l,h,i,g⟩=Yc #[A G n,A G m,A G p,A G cut,A G l,A G h,A G i,A G g]:=rfl;rw [c9] at c2;clear c9;generalize Ym n=b6 at*;generalize Ym m=b7 at*;generalize Ym p=b8 at*;generalize Ym l=b9 at*;generalize Ym (cut / 256)=c0 at*;generalize Ym cut=c1 at*;have C:=E (ai.new c #[A G n,A G m,A G p,A G cut,A G l,A G h,A G i,A G g] 23);obtain⟨a,P⟩:∃a,c.alloc (M #[A G n,A G m,A G p,A G cut,A G l,A G h,A G i,A G g] 23)=a:=⟨_,rfl⟩;have c4:=E (show X c c a from by rw [<-P];go_grown);rw [P] at C;have j2:=E (λ(b:V) (r:X a a b)=>(C.o.ext r).eight);have J:=E (λ(b:V) (r:X a a b)=>show b.cell? ⟨c,5,I⟩=K (A G h)/\b.cell? ⟨c,6,I⟩=K (A G i)/\b.cell? ⟨c,7,I⟩=K (A G g) from⟨(C.o.ext r).cell 5,(C.o.ext r).cell 6,(C.o.ext r).cell 7⟩);have c6:=E (b1.ext c4.o);have c7:=E (λ(b:V)=>Ry b b6 b7 b8 b9 c0 c1);obtain⟨y,T⟩:∃y,([b6,b7,b8,b9,c0,c1]:Bs)=y:=⟨_,rfl⟩
 have a2:y.length=6:=by rw [<-T];rfl
 rw [T] at c7;rw [T];obtain⟨u,q⟩:∃u,y++g_ h=u:=⟨_,rfl⟩
 have a7:u.length=10:=by rw [<-q,Yq,a2];rfl
 obtain⟨v,W⟩:∃v,u++g_ i=v:=⟨_,rfl⟩
 have a8:v.length=14:=by rw [<-W,Yq,a7];rfl
 obtain⟨t,a0⟩:∃t,v++g_ g=t:=⟨_,rfl⟩
 have g3:t.length=18:=by rw [<-a0,Yq,a8];rfl
 have h3:=E (λ(j:Option Yi) (cap:Nat) (b:V) (r:X a a b) (z:b.ownsRow a 5 1 (U j 6 cap) y.length (ak y))=>show d prog 185 #[U j 6 cap,A G h] b λk f=>∃w x,k=e (U w 10 x)/\f.ownsRow a 5 1 (U w 10 x) u.length (ak u)/\X a b f from by
  have:=nj h a j 6 cap y b z r.size O;rw [q,a2] at this;exact this)
 have h4:=E (λ(j:Option Yi) (cap:Nat) (b:V) (r:X a a b) (z:b.ownsRow a 5 1 (U j 10 cap) u.length (ak u))=>show d prog 185 #[U j 10 cap,A G i] b λk f=>∃w x,k=e (U w 14 x)/\f.ownsRow a 5 1 (U w 14 x) v.length (ak v)/\X a b f from by
  have:=nj i a j 10 cap u b z r.size O;rw [W,a7] at this;exact this)
 have h5:=E (λ(j:Option Yi) (cap:Nat) (b:V) (r:X a a b) (z:b.ownsRow a 5 1 (U j 14 cap) v.length (ak v))=>show d prog 185 #[U j 14 cap,A G g] b λk f=>∃w x,k=e (U w 18 x)/\f.ownsRow a 5 1 (U w 18 x) t.length (ak t)/\X a b f from by
  have:=nj g a j 14 cap v b z r.size O;rw [a0,a8] at this;exact this)
 rw [q,W,a0];obtain⟨b2,a9⟩:∃b2,s.length=b2:=⟨_,rfl⟩;rw [a9] at c6 b0⊢;have c3:=E (λ(g9:Z) (c:V) (z:ah c g9 (t++s))=>px g9 (t++s) c z);have g8:=iZ (t++s);generalize aF (t++s)=h2 at c3 g8⊢;have h9:=E g3;have i0:=E a9;have i4:=E b0;have i5:=E P
 have m0:Zc G (h2:Int)=(h2:Int):=by rw [Yo];omega
 have m1:=E a2;clear P T q W a0 a2 a7 a8 g3 a9 b0 g8 b1;go_enter func210,ntmps210
 go_wp2_with (go_at_call 63;with_reducible refine(c2.o _).mono ?_;rintro k b3 ⟨rfl,q⟩;rw [i5.o] at q;have h6:=E q;obtain⟨k5,k6,k7,k8,k9,l0,l1,l2⟩:=j2.o b3 q;have c8:=E (c7.o b3);obtain⟨L,R⟩:∃L,b3.alloc (M #[A Yf (b6.toNat:Int),A Yf (b7.toNat:Int),A Yf (b8.toNat:Int),A Yf (b9.toNat:Int),A Yf (c0.toNat:Int),A Yf (c1.toNat:Int)] 5)=L:=⟨_,rfl⟩;rw [R] at c8;have a3:=E (show X a a L from by rw [<-R];exact q.alloc q.size _);have i6:=E R;clear q R)
 rw [i6.o];have h8:=E (aA c8.o h6.o.size);have i7:=E (J.o L.drew a3.o.drew)
 go_region_held3 (λf=>f.cell? ⟨c,5,I⟩=K (A G h)/\f.cell? ⟨c,6,I⟩=K (A G i)/\f.cell? ⟨c,7,I⟩=K (A G g))
  (first|with_reducible exact i7.o|with_reducible exact i9.o|with_reducible exact j0.o|with_reducible exact j1.o)
  (first
   |(go_at_call 185;with_reducible refine(h5.o j4 j7 b5 a6.o i2.o).mono ?_;rintro k h1 ⟨j5,j8,rfl,g6,g1⟩;have c5:=E g6;have D:=E (show X a a h1 from a6.o.trans g1);have j1:=E (J.o h1 D.o);clear g6 g1)
   |(go_at_call 185;with_reducible refine(h4.o j3 j6 b4 a5.o i1.o).mono ?_;rintro k b5 ⟨j4,j7,rfl,g5,g0⟩;have i2:=E g5;have a6:=E (show X a a b5 from a5.o.trans g0);have j0:=E (J.o b5 a6.o);clear g5 g0)
   |(go_at_call 185;refine(h3.o _ _ _ a3.o.drew h8.o).mono ?_;rintro k b4 ⟨j3,j6,rfl,g4,e9⟩;have i1:=E g4;have a5:=E (show X a a b4 from a3.o.drew.trans e9);have i9:=E (J.o b4 a5.o);clear g4 e9))
 all_goals
  go_wp2_with (first
   |(go_at_call 135;refine(c3.o _ _ (aq (aA i3.o (Yr _)))).mono ?_;rintro k f ⟨rfl,rfl⟩)
   |(at_builtin;refine eA rfl (.tmp 43) (.tmp 44) rfl a.heap.size (U j5 18 j8) (U j b2 cap) t s rfl c5.o rfl (c6.o.ext (Below.mono D.o (Yk _))) (by have:=h9.o;have:=i0.o;have:=i4.o;omega) D.o.size ?_;intro k4 l3 k3 g7 g2 j9;have i3:=E g7;have h7:=E (show X a a k3 from D.o.grown g2 D.o.size (λk2 k1=>(c5.o.lt k2 k1).1));clear g7 g2 j9))
  go_returns;exact⟨rfl,ext c4.o h7.o⟩
def dY(b:RM):Nat->List Int
 |0=>[]
 |a+1=>if (pB b a).isSome then dY b a else dY b a++[(a:Int)]
theorem pV(b:RM):∀a,(dY b a).length<=a
 |0=>Yk _
 |a+1=>by
  have:=pV b a;unfold dY;split
  .omega
  .rw [Yq];simp;omega
theorem tl(j q:Nat)(b:bJ)(c:V)(i:ct c j q b)(J:b.chunks<=1000):
  d prog 40 #[Q (K j)] c λF w=>∃v,F=e v/\aa w c v (dY b.done b.chunks)/\X c c w:=by
 have y:=E i;have a1:=i.ay.lt;have D:c.cell? ⟨j,2,I⟩=K (A G (b.chunks:Int)):=i.ay.cell 2;obtain⟨f,t⟩:∃f,b.chunks=f:=⟨_,rfl⟩;rw [t] at J D⊢;clear i t;go_enter func40,ntmps40;go_wp2
 go_loopw [3,11] (λP p wr=>∃a:Nat,a<=f/\p=A G a/\aa wr c P (dY b.done a)/\X c c wr) (λ_ p _=>f - (Yz p).toNat)
 case atStart=>exact⟨0,Yr _,rfl,aa.nil _ _,Yn _ _⟩
 case round=>
  obtain⟨a,W,rfl,n,s⟩:=hrel;obtain⟨a5,a3,rfl⟩:=n.shape;have m:=E n;have g:=E s;have z:=E (pV b.done a);clear n s;by_cases a2:a<f
  .have k:=E (y.o.ext g.o)
   have T:wr.cell? ⟨j,4,I⟩=K (.map (K q)):=k.o.ay.cell 4;have a0:=k.o.ay.lt;have h:=k.o.map.look (k:=a) O
   cases hg:pB b.done a with
   |some R=>
    have l:=E (show dY b.done (a+1)=dY b.done a from by rw [dY,hg];rfl);rw [hg] at h;obtain⟨a7,rs,a9,a8,a6⟩:=R;simp only [Option.getD_some,Option.isSome_some,aU.val] at h;clear hg;go_wp2;go_roundw
    case rel=>exact⟨a+1,O,S,by rw [l.o];exact m.o.ext N,ext g.o N⟩
    case measure=>simp [Yz];omega
   |none=>
    have l:=E (show dY b.done (a+1)=dY b.done a++[(a:Int)] from by rw [dY,hg];rfl);rw [hg] at h;simp only [Option.getD_none,Option.isSome_none,aU.val,de] at h;clear hg
    go_wp2_with (at_builtin;refine cJ rfl (.tmp 25) (.tmp 27) rfl c.heap.size _ (dY b.done a) (a:Int) rfl (m.o.ext N) rfl Y (by unfold bh;omega) (by have:=z.o;omega) (by have:=g.o.size;simp;omega) ?_;intro b0 b1 u r L;have C:=E u;have x:=E r;clear u r L)
    go_roundw
    case rel=>exact⟨a+1,O,S,by rw [l.o];exact C.o,(ext g.o N).trans x.o⟩
    case measure=>simp [Yz];omega
  .obtain rfl:a=f:=O
   go_wp2;go_returns;exact⟨_,rfl,m.o,g.o⟩
theorem Nf(g j:Nat)(c:bJ)(b:Nat)(a:V)(f:ct a g j c)(q:b<=9223372036854775807):
  d prog 213 #[Q (K g),A G b] a λp r=>p=e (Ye #[((pB c.done b).getD de).val,.bool (pB c.done b).isSome])/\X a a r:=by
 have m:=E f;have t:=f.ay.lt;have n:=E (m.o.ext (N:X a a (a.alloc (M #[A G 0,A G 0,A G 0,A G 0,A G 0] 93))));have s:a.cell? ⟨g,4,I⟩=K (.map (K j)):=f.ay.cell 4;have i:=n.o.map.look q;obtain⟨h,l⟩:∃h,(pB c.done b).getD de=h:=⟨_,rfl⟩;obtain⟨o,k⟩:∃o,(pB c.done b).isSome=o:=⟨_,rfl⟩;rw [l,k] at i⊢;clear l k f;obtain⟨v,x,sn,w,u⟩:=h;simp only [aU.val] at i⊢;go_enter func213,ntmps213;go_wp2;go_returns;exact⟨rfl,N⟩
end
section
open Go.RowKit Go.ChangeShapes Go.WideShapes Go.Deep
theorem Ej{a:Int}(b:0<=a/\a<=255):((Ym a.toNat).toNat:Int)=a:=by
 have:a.toNat<256:=O;rw [UInt8.toNat_ofNat',Nat.mod_eq_of_lt O];omega
theorem uw{l:Type}{t:TypeId×Z->l}{g:V}{r:Z}{L:DataW l×List MemPlace}{u:Nat}
  (i:DataW.trod t prog g 0 (λ_=>true) true u 24 [r]=K L):∃h,ah g r h:=by
 rcases open_ints underlying24 underlying5 B i with⟨k,_⟩|⟨m,c,n,a,k,_,y,z,J,_,p,F⟩
 .obtain rfl:=(List.cons.inj k).1
  exact⟨[],ah.nil g⟩
 .obtain rfl:=(List.cons.inj k).1
  have P:a.length=n:=by simpa using J
  have j:((a.take c).map λf:Int=>Ym f.toNat).length=c:=by simp;omega
  refine⟨(a.take c).map λf:Int=>Ym f.toNat,K m,n,by rw [j],by rw [j];exact y,z,λi=>(by cases i),λb q=>?_⟩
  have x:b<c:=by rw [j] at q;exact q
  obtain⟨h,off,spot⟩:=m;have v:=p 0 O
  have D:spot=I:=by simpa [Addr.add] using World.cell?_spot v
  subst D;refine⟨h,off,rfl,?_⟩;have o:=p b O;rw [Go.WideShapes.add_plain] at o;rw [o]
  have C:a.getD b 0∈a:=by rw [Yp,YM O];exact List.getElem_mem _
  have w:=Ej (bounds_u8 (F _ C))
  have s:(((a.take c).map λf:Int=>Ym f.toNat).getD b 0)=Ym (a.getD b 0).toNat:=by
   simp [YR,x,YM (O:b<a.length)]
  rw [s,w]
structure kV where
 kind:Int
 n:Int
 picks:List Int
def kV.ae:kV:=⟨0,0,[]⟩
structure um(w:V)(b c:Nat)(o:kV)(vp:Z):Prop where
 c0:w.cell? ⟨b,c,I⟩=K (A G o.kind)
 c1:w.cell? ⟨b,c+1,I⟩=K (A G o.n)
 c2:w.cell? ⟨b,c+2,I⟩=K vp
 ik:bh o.kind
 i1:bh o.n
 ints:aY w vp o.picks
theorem um.ext{c h:V}{b i:Nat}{o:kV}{k:Z}(a:um c b i o k)(j:X c c h):um h b i o k:=by
 have l:b<c.heap.size:=Yj c _ a.c0
 have g:∀f,h.cell? ⟨b,f,I⟩=c.cell? ⟨b,f,I⟩:=λf=>j.cell (p:=⟨b,f,I⟩) l
 exact⟨(g _).trans a.c0,(g _).trans a.c1,(g _).trans a.c2,a.ik,a.i1,a.ints.ext j⟩
def jW(i:V)(g:Z)(a:List kV):Prop:=
 ∃(b:Option Yi) (cap:Nat),g=U b a.length cap/\a.length<=cap/\cap<=YO/\(b=I->cap=0)/\
  ∀c,c<a.length->∃f off h,b=K ⟨f,off,I⟩/\um i f (off+c*3) (a.getD c kV.ae) h
theorem jW.nil(b:V):jW b (U I 0 0) []:=⟨I,0,rfl,Y,by simp [YO],λ_=>rfl,λc a=>by simp at a⟩
theorem jW.ext{a f:V}{c:Z}{b:List kV}(j:jW a c b)(o:X a a f):jW f c b:=by
 obtain⟨g,cap,rfl,k,l,m,n⟩:=j;refine⟨g,cap,rfl,k,l,m,λr p=>?_⟩;obtain⟨h,off,s,i,q⟩:=n r p;exact⟨h,off,s,i,q.ext o⟩
theorem jW.len{g:V}{f:Z}{a:List kV}(b:jW g f a):a.length<=9223372036854775807:=by
 obtain⟨h,cap,_,i,c,_⟩:=b;unfold YO at c;omega
theorem jW.dm{i:V}{c:Z}{b:List kV}(g:jW i c b){n:Nat}(h:b.length=n):∃a cap,c=U a n cap:=by
 obtain⟨a,cap,f,_⟩:=g;exact⟨a,cap,by rw [f,h]⟩
theorem jW.cellAt{b:V}{h:Option Yi}{n cap:Nat}{f:List kV}(k:jW b (U h n cap) f){j:Nat}(m:j<f.length):
  ∃a off g,h=K ⟨a,off,I⟩/\a<b.heap.size/\um b a (off+j*3) (f.getD j kV.ae) g:=by
 obtain⟨o,p,c,q,r,s,l⟩:=k;obtain⟨rfl,rfl,rfl⟩:=Value.slice.inj c;obtain⟨a,off,g,c,i⟩:=l j m;exact⟨a,off,g,c,Yj b _ i.c0,i⟩
theorem yR{Hd:Type}{z:TypeId×Z->Hd}{f:V}{base:Nat}{m:Z}{w:DataW Hd}{a2:List MemPlace}(T:Value.okWide prog f .any base 25 m)
  (b:DataW.Trod z prog f 0 (λ_=>true) true 25 m w a2):∃a0,jW f m a0:=by
 obtain⟨b3,len,cap,rfl⟩:=okWide_slice underlying25 T;obtain⟨b5,C⟩:=b
 rcases rr underlying25 underlying35 B B C with⟨g,_⟩|⟨j,b9,b4,a1,b1,b2,g,_,b7,J,L,_,s⟩
 .simp [Value.cells] at g
  obtain⟨rfl,rfl,rfl⟩:=g;exact⟨[],jW.nil f⟩
 .simp [Value.cells] at g
  obtain⟨rfl,rfl,rfl⟩:=g
  have b8:a1=cap:=by simpa using L
  have i:∀a,a<len->∃(o:kV) (c off:Nat) (n:Z),j=⟨c,off,I⟩/\um f c (off+a*3) o n:=by
   intro a b6;obtain⟨c6,c0,_,_,_,k⟩:=s a O;obtain⟨c1,c3,p,_,a3⟩:=k 0 _ rfl;obtain⟨c2,c4,q,_,a5⟩:=k 1 _ rfl;obtain⟨a7,c5,r,_,a6⟩:=k 2 _ rfl;obtain⟨a8,rfl,t⟩:=ef a3;obtain⟨a9,rfl,u⟩:=ef a5;obtain⟨b0,W⟩:=zo a6;obtain⟨_,_,_,_,_,D⟩:=s 0 O;obtain⟨_,_,v,_,_⟩:=D 0 _ rfl;obtain⟨c,off,spot⟩:=j
   have R:spot=I:=by simpa [Addr.add] using World.cell?_spot v
   subst R;rw [Go.WideShapes.add_plain] at p q r;exact⟨⟨a8,a9,b0⟩,c,off,a7,rfl,⟨p,q,r,t,u,W⟩⟩
  refine⟨(Za len).map λa=>if b:a<len then Classical.choose (i a b) else kV.ae,K j,cap,Y,by simp;omega,J,λb=>(by cases b),λh F=>?_⟩
  have l:h<len:=by simpa using F
  obtain⟨c,off,n,x,P⟩:=Classical.choose_spec (i h l)
  have y:((Za len).map λa=>if b:a<len then Classical.choose (i a b) else kV.ae).getD h kV.ae=Classical.choose (i h l):=by
   simp [YR,l]
  rw [y];exact⟨c,off,n,by rw [x],P⟩
theorem ES{a f c b:Nat}(g:min f 1001=c/\a+c=b/\a<=1000000):A G (wrap64 ((a:Int)+min (f:Int) 1001))=A G b:=by
 congr 1;unfold wrap64;omega
theorem EU{a i g c h f:Nat}{b:Int}(j:min i 1001=g/\a+g=c/\a<=1000000)(k:min b.toNat 1000=h/\c+h=f/\0<b):A G (wrap64 (wrap64 ((a:Int)+min (i:Int) 1001)+min b 1000))=A G f:=by
 congr 1;unfold wrap64;omega
theorem Nn(b1:Z)(J:List kV)(m:V)(z:jW m b1 J):
  d prog 30 #[b1] m λp c2=>∃R,p=e (.bool R)/\(R=true->J.length<=200)/\X m m c2:=by
 have b3:=E z;have b7:=z.len;obtain⟨f,x⟩:∃f,J.length=f:=⟨_,rfl⟩;obtain⟨c4,cap,rfl⟩:=z.dm x;have b4:=E x;rw [x] at b7⊢;clear z x;go_enter func30,ntmps30;go_wp2
 go_loopw [3,4] (λc1 a1 wr=>∃b g:Nat,b<=f/\b<=200/\a1=A G b/\c1=A G g/\g<=2001*b/\X m m wr) (λ_ a1 _=>f - (Yz a1).toNat)
 case atStart=>exact⟨0,0,Yr _,Yr _,rfl,rfl,O,Yn _ _⟩
 case round=>
  obtain⟨b,g,c7,c8,rfl,rfl,l,a⟩:=hrel;have b2:=E l;clear l;by_cases v:b<f/\b<200
  .obtain⟨W,b8⟩:=v
   obtain⟨R,off,e6,rfl,c9,b9⟩:=(b3.o.ext a).cellAt (j:=b) (by rw [b4.o];exact W);generalize J.getD b kV.ae=o at*;obtain⟨a2,i,c0⟩:=o;obtain⟨b5,b6,a6,D,F,a0⟩:=b9;simp only at b5 b6 a6 D F a0;have a3:=a0.len;obtain⟨e1,e0,rfl, -⟩:=a0;obtain⟨L,C⟩:∃c3,c0.length=c3:=⟨_,rfl⟩;rw [C] at a6;obtain⟨q,w⟩:∃a5:Nat,min L 1001=a5:=⟨_,rfl⟩
   have e4:(if (L:Int)<=1001 then (L:Int) else 1001)=(q:Int):=by split<;>omega
   have l:=b2.o;obtain⟨c,u⟩:∃p,g+q=p:=⟨_,rfl⟩
   have e2:Zc G ((g:Int)+(q:Int))=(c:Int):=by rw [Yx _ O];omega
   have s:=E (O:c<=2001*b+1001);have k:=E (show min L 1001=q/\g+q=c/\g<=1000000 from⟨w,u,O⟩);by_cases y:a2=6/\0<i
   .obtain⟨rfl,b0⟩:=y
    obtain⟨r,a9⟩:∃a5:Nat,min i.toNat 1000=a5:=⟨_,rfl⟩
    have e5:(if i<=1000 then i else 1000)=(r:Int):=by split<;>omega
    obtain⟨t,a8⟩:∃p,c+r=p:=⟨_,rfl⟩
    have e3:Zc G ((c:Int)+(r:Int))=(t:Int):=by have:=s.o;rw [Yx _ O];omega
    have n:=E (show t<=2001*(b+1) from by have:=s.o;omega);have P:=E (show min i.toNat 1000=r/\c+r=t/\0<i from⟨a9,a8,b0⟩);clear C w a9 u a8 a3 D F l;go_wp2;go_roundw
    case rel=>exact⟨b+1,t,O,O,S,by first|exact EU k.o P.o|exact ES k.o|rfl,n.o,by first|exact a|exact a.drew|exact ag a _⟩
    case measure=>simp [Yz];omega
   .by_cases a7:a2=6
    .subst a7
     have b0:¬i>0:=λh=>y ⟨rfl,h⟩
     have n:=E (show c<=2001*(b+1) from by have:=s.o;omega);clear C w u a3 D F l y;go_wp2;go_roundw
     case rel=>exact⟨b+1,c,O,O,S,by first|exact EU k.o P.o|exact ES k.o|rfl,n.o,by first|exact a|exact a.drew|exact ag a _⟩
     case measure=>simp [Yz];omega
    .have n:=E (show c<=2001*(b+1) from by have:=s.o;omega)
     have c5:(a2==6)=false:=by simpa using a7
     clear C w u a3 D F l y;go_wp2;go_roundw
     case rel=>exact⟨b+1,c,O,O,S,by first|exact EU k.o P.o|exact ES k.o|rfl,n.o,by first|exact a|exact a.drew|exact ag a _⟩
     case measure=>simp [Yz];omega
  .by_cases W:b<f
   .have b8:¬b<200:=λh=>v ⟨W,h⟩
    have T:200<f:=O;have c6:¬f<=200:=O;clear v;go_wp2
    all_goals go_returns
    all_goals first|exact a|exact⟨rfl,a⟩|exact⟨_,rfl,λh=>(by simp at h;omega),a⟩
   .clear v
    obtain rfl:b=f:=O;by_cases T:b<=200
    .go_wp2
     all_goals go_returns
     all_goals first|exact⟨rfl,a⟩|exact a|exact⟨T,a⟩|exact⟨_,rfl,λ_=>T,a⟩
    .go_wp2
     all_goals go_returns
     all_goals first|exact a|exact⟨rfl,a⟩|exact⟨_,rfl,λh=>(by simp at h;omega),a⟩
end
section
open Go.RowKit
theorem kU(m:Array UInt8)(l f:Int)(s:(f==0)=false)(b:V):d prog 61 #[Yb ⟨m⟩,A G l,A G f] b λg v=>∃c,g=e (Yc #[A G f,U (K ⟨c,0,I⟩) 1 1])/\nR v (U (K ⟨c,0,I⟩) 1 1) m l/\X b b v:=by
 have x:=E (λn=>nZ f n);have y:=E (λn=>IT m l f s n);have w:=E (ai.new b #[A G 0,U I 0 0] 100);have z:=E (N:X b b (b.alloc (M #[A G 0,U I 0 0] 100)));clear s;go_enter func61,ntmps61
 go_wp2_with (first
  |(go_at_call 60;refine(x.o _).mono ?_;rintro g a6 ⟨rfl,j⟩;have C:=E (ext z.o j);have q:=E (w.o.ext j);clear j)
  |(go_at_call 96;refine(y.o _).mono ?_;rintro g h ⟨c,rfl,u,R,k⟩;have D:=E (ext C.o k);have i:=E (q.o.ext k);have J:=E u;have F:=E (show b.heap.size<c from by have:=q.o.lt;omega);obtain⟨a7,a8,a9,b0⟩:=i.o.two;have a5:=i.o.lt;clear u R k))
 obtain⟨T,W,a0,a1⟩:=(i.o.dC (A G f) (U (K ⟨c,0,I⟩) 1 1)).two;refine YD (by simp [YU,results61,go_sem,T,W,a0,a1];try rfl) rfl ?_;refine⟨c,rfl,?_,(D.o.setCell (p:=b) (Yk _) _).setCell (p:=⟨b,1,I⟩) (Yk _) _⟩;obtain⟨a3,a2,g,lg,L,P⟩:=J.o;simp only [Yy,YQ,Addr.mk.injEq] at g;obtain⟨⟨rfl, -, -⟩, -,rfl⟩:=g
 have t:c≠b.heap.size:=by have:=F.o;omega
 have r:((h.setCell b (A G f)).setCell ⟨b,1,I⟩ (U (K ⟨c,0,I⟩) 1 1)).heap[c]? =h.heap[c]?:=(Yt _ _ _ _ t).trans (Yt _ _ _ _ t);exact⟨c,1,rfl,by simpa using lg,(YS (w:=h) (a:=⟨c,0,I⟩) r).trans L,(YS (w:=h) (a:=⟨c,1,I⟩) r).trans P⟩
end
section
open Go.RowKit Go.ChangeShapes Go.WideShapes Go.Deep
theorem Sg{n:Type}{k:Array n}(l:k.size=8):∃a b c f g h i j,k=#[a,b,c,f,g,h,i,j]:=by
 obtain⟨m⟩:=k
 match m,l with
 |[a,b,c,f,g,h,i,j],_=>exact⟨a,b,c,f,g,h,i,j,rfl⟩
theorem yW{Hd:Type}{z:TypeId×Z->Hd}{f:V}{base:Nat}{a:Z}{x:DataW Hd}{a6:List MemPlace}(P:Value.okWide prog f .any base 23 a)
  (C:DataW.Trod z prog f 0 (λ_=>true) true 23 a x a6):∃o:cF,a=o.val:=by
 obtain⟨b6,rfl,L⟩:=okWide_struct underlying23 P;have D:prog.cellsOf 23=8:=B;have b:prog.cellsOf 3=1:=B;obtain⟨p,q,r,s,t,u,v,w,rfl⟩:=Sg (L.trans D);obtain⟨b7,F⟩:=C;obtain⟨a7,b8,_,_,_,J,c⟩:=DataW.trod_struct underlying23 F
 match a7,J with
 |[a8,a9,b0,b1,b2,b3,b4,b5],_=>
  have R:=c 0 _ rfl;have T:=c 1 _ rfl;have W:=c 2 _ rfl;have a0:=c 3 _ rfl;have a1:=c 4 _ rfl;have a2:=c 5 _ rfl;have a3:=c 6 _ rfl;have a5:=c 7 _ rfl;obtain⟨g,rfl, -⟩:=ef (v:=p) (y:=a8) (by simpa [Value.cells,b] using R);obtain⟨h,rfl, -⟩:=ef (v:=q) (y:=a9) (by simpa [Value.cells,b] using T);obtain⟨i,rfl, -⟩:=ef (v:=r) (y:=b0) (by simpa [Value.cells,b] using W);obtain⟨j,rfl, -⟩:=ef (v:=s) (y:=b1) (by simpa [Value.cells,b] using a0);obtain⟨k,rfl, -⟩:=ef (v:=t) (y:=b2) (by simpa [Value.cells,b] using a1);obtain⟨l,rfl, -⟩:=ef (v:=u) (y:=b3) (by simpa [Value.cells,b] using a2);obtain⟨m,rfl, -⟩:=ef (v:=v) (y:=b4) (by simpa [Value.cells,b] using a3);obtain⟨n,rfl, -⟩:=ef (v:=w) (y:=b5) (by simpa [Value.cells,b] using a5);exact⟨⟨g,h,i,j,k,l,m,n⟩,rfl⟩
theorem wY{a:Type}{p:TypeId×Z->a}{k:V}{v:Z}{m:DataW a×List MemPlace}{q:Nat}
  (l:DataW.trod p prog k 0 (λ_=>true) true q 24 [v]=K m):∃c,ah k v c/\∀g,(∀u∈DataW.weights prog 24 m.1,u<=g)->c.length<=g:=by
 obtain⟨c,i⟩:=uw l;refine⟨c,i,λg s=>?_⟩
 rcases open_ints underlying24 underlying5 B l with⟨j,_⟩|⟨w,f,o,b,j,_,C,D,t,rfl,z,F⟩
 .obtain rfl:=(List.cons.inj j).1
  obtain⟨n,cap,h, -⟩:=i;simp only [Yy] at h;omega
 .obtain rfl:=(List.cons.inj j).1
  obtain⟨n,cap,h, -⟩:=i;simp only [Yy] at h
  have J:b.length=o:=by simpa using t
  have r:prog.bytesOf 5=1:=B
  have x:=s ((lits (H:=a) Yf (b.take f)).length+(lits (H:=a) Yf (b.drop f)).length) (by
   simp only [DataW.weights,underlying24,r,Nat.mul_one]
   exact List.mem_cons_self)
  have y:(lits (H:=a) Yf (b.take f)).length+(lits (H:=a) Yf (b.drop f)).length=b.length:=by
   simp only [lits,List.length_map,List.length_take,List.length_drop];omega
  omega
theorem uI{Hd:Type}{i:TypeId×Z->Hd}{b:V}{base:Nat}{a:Z}{g:DataW Hd}{m:List MemPlace}(l:Value.okWide prog b .any base 24 a)
  (j:DataW.Trod i prog b 0 (λ_=>true) true 24 a g m):∃f,ah b a f/\∀c,(∀n∈DataW.weights prog 24 g,n<=c)->f.length<=c:=by
 obtain⟨h,len,cap,rfl⟩:=okWide_slice underlying24 l;obtain⟨o,k⟩:=j;exact wY (v:=U h len cap) k
end
end Go.Proofs.YtajkpgaheechmaaGreatDoor
