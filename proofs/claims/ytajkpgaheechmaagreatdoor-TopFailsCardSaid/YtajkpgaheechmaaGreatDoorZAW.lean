/- DecA EncP RacA RacB RacC RacD ModA ModB CoA -/
import Derived.Laws.Bits64
import Derived.Laws.Rows
import Derived.Deep.MidRow
import Derived.Test.YtajkpgaheechmaaGreatDoorZAV
import Derived.Test.YtajkpgaheechmaaGreatDoorZAO
set_option maxRecDepth 100000
set_option maxHeartbeats 16000000
set_option linter.unusedSimpArgs false
set_option linter.unusedVariables false
set_option linter.unusedSectionVars false
namespace Go.Proofs.YtajkpgaheechmaaGreatDoor
open _root_.Go.Proofs.Tryz
open Go.Value renaming int->A,slice->U,pointer->Q,nilIface->Ya,agg->Yc,iface->Yd,tuple->Ye,ownBlock->YT
open Go.IntKind renaming i64->G,u8->Yf,wrap_i64->Yo,wrap->Zc
open Option renaming none->I,some->K
open Go.Obj renaming cells->M
open Go.Ending renaming returned->e
open Go renaming World->V,Value->Z,Calls->d,Addr->Yi,bodyPost_ret->YD,maxLen->YO
open Go.RowKit renaming Below->X,ownsRow_setCell_below->Yu,intOf->Yz
open Or renaming inl->Yg,inr->Yh
open Go.World renaming block_lt_of_cell?->Yj,ownsRow_nil->YC,cell?_of_block->YS
open Nat renaming le_refl->Yk,le_trans->Yl,zero_le->Yr,lt_of_lt_of_le->Yv
open UInt8 renaming ofNat->Ym
open Go.RowKit.Below renaming refl->Yn,heap_setCell->Yt
open List renaming getD_eq_getElem?_getD->Yp,setIfInBounds_toArray->Yw,replicate->YA,set_cons_zero->YJ,getD->YR
open Go.Value.slice renaming injEq->Yy
open Option.some renaming inj->YG,injEq->YQ
section
open Go.RowKit
def su(a b:List Int)(c:Int):List Int:=jy (tJ (Ec (dR a b) (wI a b))) c
theorem AK(h j:Z)(a b:List Int)(f:Int)(c:V)(P:aY c h a)(W:aY c j b)(R:a.length<=5000)(T:(tJ (Ec (dR a b) (wI a b))).length<=5000):
  d prog 295 #[h,j,A G f] c λg v=>∃u,g=e u/\aa v c u (su a b f)/\X c c v:=by
 have w:=E (OX h j a b c P W R);have x:=E (λk l i=>zB k (Ec (dR a b) (wI a b)) l i);have y:=E (λk l i=>Da k (tJ (Ec (dR a b) (wI a b))) f l i T);unfold su;generalize tJ (Ec (dR a b) (wI a b))=F at*;generalize lQ (Ec (dR a b) (wI a b)) 65536=a5 at*;generalize Ec (dR a b) (wI a b)=a2 at*;generalize dR a b=a3 at*;generalize m_ F f=a6 at*;generalize jy F f=a1 at*;go_enter func295,ntmps295
 go_wp2_with (first
  |(go_at_call 310;refine w.o.mono ?_;rintro g a9 ⟨a7,rfl,r,n⟩;have D:=E r;have z:=E n;clear r n)
  |(go_at_call 311;refine(x.o _ _ D.o.ints).mono ?_;rintro g b0 ⟨a8,rfl,s,p⟩;have J:=E s;have m:=E (ext z.o p);clear s p)
  |(go_at_call 312;refine(y.o _ _ J.o.ints).mono ?_;rintro g b1 ⟨a0,rfl,t,q⟩;have L:=E (t.mono m.o.size);have C:=E (ext m.o q);clear t q))
 go_returns;exact⟨a0,rfl,L.o,C.o⟩
def gX(a:List Int)(b:Int):List Int:=Fq (i' a b)
theorem O_(h:Z)(a:List Int)(b:Int)(c:V)(g:aY c h a)(v:a.length<=5000):
  d prog 328 #[h,A G b] c λf p=>∃n,f=e n/\aa p c n (gX a b)/\X c c p:=by
 have q:=E (Di h a b c g v);have r:=E (λw y g=>zE w (i' a b) y g);unfold gX;generalize Fq (i' a b)=F at*;generalize lQ (i' a b) 16777216=D at*;generalize i' a b=z at*;generalize nu a b=C at*;go_enter func328,ntmps328
 go_wp2_with (first
  |(go_at_call 345;refine q.o.mono ?_;rintro f L ⟨J,rfl,l,j⟩;have t:=E l;have i:=E j;clear l j)
  |(go_at_call 346;refine(r.o _ _ t.o.ints).mono ?_;rintro f P ⟨x,rfl,m,k⟩;have u:=E (m.mono i.o.size);have s:=E (ext i.o k);clear m k))
 go_returns;exact⟨x,rfl,u.o,s.o⟩
def uN(b c:List Int):List Int:=cZ (λa=>eF (b.getD a 0+c.getD a 0)) (YA b.length 0) c.length
theorem Qc(b7 J:Z)(i j:List Int)(k:Int)(g:V)(D:aY g b7 i)(b6:aY g J j)(c9:j.length<=5000)(e2:i.length<=5000)(b5:(gX j k).length<=i.length)
  (a7:∀f,f<(gX j k).length-> -1000000000<=i.getD f 0+(gX j k).getD f 0/\i.getD f 0+(gX j k).getD f 0<=1000000000):
  d prog 306 #[b7,J,A G k] g λt b9=>∃b8,t=e b8/\aa b9 g b8 (uN i (gX j k))/\X g g b9:=by
 have P:=E (λn e4=>O_ J j k n e4 c9);have a3:=E D;have a6:=E b6;have c1:=E (λe8 n=>pd e8 n);obtain⟨g2,cap,rfl⟩:=D.shape;unfold uN;generalize gX j k=R at*;obtain⟨h,z⟩:∃h,i.length=h:=⟨_,rfl⟩;rw [z] at e2 b5 a3⊢;have W:=E a7;have c4:=E z;have e1:h<=1099511627776:=O;clear D b6 a7 z
 obtain⟨m,x⟩:∃m:Nat->Int,m=λf=>eF (i.getD f 0+R.getD f 0):=⟨_,rfl⟩
 have c2:=E (show∀f,m f=eF (i.getD f 0+R.getD f 0) from λf=>by rw [x]);rw [<-x];obtain⟨l,F⟩:∃l,R.length=l:=⟨_,rfl⟩;rw [F] at b5 W⊢;have a5:=E F;clear x F;go_enter func306,ntmps306
 go_wp2_with (first
  |(at_make;refine fS rfl _ _ rfl h rfl rfl rfl rfl e1 ?_;intro c0 b4 a8 e0;have c5:=E b4;have T:=E a8;clear b4 a8)
  |(go_at_call 328;refine(P.o _ (a6.o.ext T.o)).mono ?_;rintro t e9 ⟨h7,rfl,C,a9⟩;have a2:=E C;have s:=E a9;obtain⟨e6,e5,rfl⟩:=C.shape;rw [a5.o] at a2⊢;clear C a9))
 have c3:=E (show X g g e9 from ext T.o s.o);have c6:=E (c5.o.ext s.o);have b2:(YA h (0:Int)).length=h:=List.length_replicate;clear P a6 s;go_wp2
 go_loopw [17] (λf wr=>∃c:Nat,c<=l/\f=A G c/\aa wr g (U (K g) h h) (cZ m (YA h 0) c)/\aa wr c0 (U e6 l e5) R/\X g g wr) (λf _=>l - (Yz f).toNat)
 case atStart=>exact⟨0,Yr _,rfl,by rw [iH];exact c6.o,a2.o,c3.o⟩
 case round=>
  obtain⟨c,h2,rfl,v,p,u⟩:=hrel;have w:=a3.o.ext u;have a1:=E v;have g1:=E p;have g0:=E w;by_cases b3:c<l
  .have y:c<h:=O
   obtain⟨g3,h3,g4,h4,rfl,rfl,h9,i0⟩:=lH p.ints w (Yn _ wr) (k:=c) (by rw [a5.o];exact b3) (by rw [c4.o];exact y);have g7:=W.o c b3;have a0:=E (c2.o c);obtain⟨-,h0,h1,b0,b1⟩:=v.at;have g8:=b0 c (by rw [df,b2];exact y);have g9:=b1 c;have e3:=E (iG (f:=m) (b:=YA h 0) (k:=c) (by rw [b2];exact y));generalize R.getD c 0=r at*;generalize i.getD c 0=q at*
   have g5:Zc G (q+r)=q+r:=by rw [Yo];omega
   have c8:=qK (q+r);rw [<-a0.o] at c8;have L:=E (λn=>c1.o (q+r) n);rw [<-a0.o] at L;have h5:(c:Int)<(h:Int):=O;have h6:(c:Int)<(l:Int):=O;have c7:=E (λe7=>aa.ab (a:=⟨g.heap.size,c,I⟩) p (show g.heap.size<c0.heap.size from e0) e7);clear v p w b0 b1;generalize m c=g6 at*
   go_wp2_with (go_at_call 84;refine(L.o _).mono ?_;rintro t h8 ⟨rfl,rfl⟩)
   go_roundw
   case rel=>exact⟨c+1,O,S,by rw [<-e3.o];exact a1.o.xo c _ (by unfold bh;omega),c7.o _,u.setCell (by show g.heap.size<=g.heap.size;omega) _⟩
   case measure=>simp [Yz];omega
  .obtain rfl:c=l:=O
   go_wp2;go_returns;exact⟨_,rfl,a1.o,u⟩
end
section
structure lM where
 o:Bs
 low:Nat
 r:Nat
def Uz:lM:=⟨[],0,4294967295⟩
def rS:Bs->Bs
 |[]=>[]
 |b::a=>if b.toNat=255 then 0::rS a else Ym (b.toNat+1)::a
def iy(a:Bs):Bs:=(rS a.reverse).reverse
def pH(a:lM)(b:Nat)(up:Bool):lM:=
 if up then (if 4294967295<a.low+b then ⟨iy a.o,(a.low+b)%4294967296,a.r - b⟩ else ⟨a.o,a.low+b,a.r - b⟩) else ⟨a.o,a.low,b⟩
def nl(a:lM):lM:=⟨a.o++[Ym (a.low / 16777216)],a.low*256%4294967296,a.r*256⟩
def jG:Nat->lM->lM
 |0,x=>x
 |a+1,x=>if x.r<16777216 then jG a (nl x) else x
def jB(a:lM)(b:Nat)(up:Bool):lM:=jG 3 (pH a b up)
def sP(a:lM)(c:Nat)(b:Bool):lM:=jB a (a.r / 2048*c) b
def It(a:lM)(b:Bool):lM:=jB a (a.r / 2) b
def wO:Bs->Bs
 |[]=>[]
 |b::a=>if b=0 then wO a else b::a
def uS(a:lM):Bs:=a.o++[Ym (a.low / 16777216),Ym (a.low / 65536),Ym (a.low / 256),Ym a.low]
def EM(a:lM):Bs:=(wO (uS a).reverse).reverse
structure Ag(e:lM):Prop where
 low:e.low<4294967296
 r1:16777216<=e.r
 r2:e.r<4294967296
theorem QY:Ag Uz:=⟨H,H,H⟩
structure nN where
 ch:List Nat
 enc:lM
def nL:nN:=⟨YA 64 1024,Uz⟩
def iS(a:Nat)(b:Bool):Nat:=if b then a - a / 32 else a+(2048 - a) / 32
def rR(a:nN)(b:Nat)(c:Bool):nN:=⟨a.ch.set b (iS (a.ch.getD b 0) c),sP a.enc (a.ch.getD b 0) c⟩
def xT(a:nN)(b:Bool):nN:=⟨a.ch,It a.enc b⟩
structure Tu(m:nN):Prop where
 len:m.ch.length=64
 ch:∀j,j<64->1<=m.ch.getD j 0/\m.ch.getD j 0<=2047
 enc:Ag m.enc
end
section
open Go.RowKit Go.Extern.Stop Go.Stop Go.Extern
theorem Hu(a:Nat):(Ym a).toNat=a%256:=Y
theorem iK(a:Nat):Zc Yf (a:Int)=((Ym a).toNat:Int):=by rw [IntKind.wrap_u8',Hu];omega
theorem qH(b:V)(a:UInt8):(b.alloc (M #[A Yf (a.toNat:Int)] 5)).ownsRow b 5 1 (U (K b) 1 1) ([a]:Bs).length (ak [a]):=
 World.ownsRow_lit b #[A Yf (a.toNat:Int)] 1 (Yk _) (by simp [YO]) Y
structure fu(w:V)(p:Nat)(v:Z)(out:Bs)(low r:Nat):Prop where
 ay:ai w p #[v,A .u64 (low:Int),A .u64 (r:Int)] 408
 row:w.ownsRow (p+1) 5 1 v out.length (ak out)
def FE(b:Nat)(c:Z)(a:Nat):Prop:=a=b∨c.ownBlock=K a
theorem fu.ext{a k:V}{h f i:Nat}{j:Z}{g:Bs}(b:fu a h j g f i)(c:X a a k):fu k h j g f i:=⟨b.ay.ext c,aG b.row c⟩
theorem fu.lt{h:V}{c i k:Nat}{g:Z}{j:Bs}(f:fu h c g j i k):∀a,FE c g a->c<=a/\a<h.heap.size:=by
 intro a b
 rcases b with rfl|b
 .exact⟨Yk _,f.ay.lt⟩
 .have:=f.row.lt a b;omega
theorem fu.aD{m n:V}{b j l:Nat}{f:Z}{k:Bs}{F:Nat->Prop}(c:fu m b f k j l)(h:af F m n)(g:∀a,FE b f a->¬F a):fu n b f k j l:=
 ⟨(h.block b c.ay.lt (g b (Yg rfl))).trans c.ay,an c.row λa i=>h.block a (c.row.lt a i).2 (g a (Yh i))⟩
theorem fu.Ma{i:V}{a j g:Nat}{h:Z}{f:Bs}(b:fu i a h f j g)(c:Nat):fu (i.setCell ⟨a,1,I⟩ (A .u64 (c:Int))) a h f c g:=
 ⟨b.ay.set 1 _,Yu b.row (by show a<a+1;omega) _⟩
theorem fu.dC{i:V}{a c j:Nat}{h:Z}{g:Bs}(b:fu i a h g c j)(f:Nat):fu (i.setCell ⟨a,2,I⟩ (A .u64 (f:Int))) a h g c f:=
 ⟨b.ay.set 2 _,Yu b.row (by show a<a+1;omega) _⟩
theorem fu.cells{b:V}{a f g:Nat}{h:Z}{i:Bs}(c:fu b a h i f g):
  b.cell? a=K h/\b.cell? ⟨a,1,I⟩=K (A .u64 (f:Int))/\b.cell? ⟨a,2,I⟩=K (A .u64 (g:Int))/\b.frozen? a=false/\b.frozen? ⟨a,1,I⟩=false/\b.frozen? ⟨a,2,I⟩=false:=
 ⟨c.ay.cell 0,c.ay.cell 1,c.ay.cell 2,c.ay.free 0,c.ay.free 1,c.ay.free 2⟩
theorem aS{F:Nat->Prop}{f g:V}{a:Yi}{u:Z}(b:af F f g)(i:F a.block):af F f (g.setCell a u):=
 ⟨b.os,b.tape,b.output,by simpa using b.size,λk j c=>(Yt _ _ _ _ (λh=>c (by rw [h];exact i))).trans (b.block k j c)⟩
theorem Aw(a:Bs)(b:UInt8):iy (a++[b])=if b.toNat=255 then iy a++[0] else a++[Ym (b.toNat+1)]:=by
 unfold iy;rw [List.reverse_append]
 show(rS (b::a.reverse)).reverse=_
 rw [rS];split
 .rw [List.reverse_cons]
 .rw [List.reverse_cons,List.reverse_reverse]
theorem pD:∀a:Bs,(rS a).length=a.length
 |[]=>rfl
 |b::a=>by
  rw [rS];split
  .simp [pD a]
  .simp
theorem xg(a:Bs):(iy a).length=a.length:=by unfold iy;rw [List.length_reverse,pD,List.length_reverse]
theorem Ex{h b:Bs}{a:Nat}(g:a<b.length)(c:iy h=iy (b.take (a+1))++b.drop (a+1)):
  ((b.getD a 0).toNat=255->iy h=iy ((b.set a 0).take a)++(b.set a 0).drop a)/\((b.getD a 0).toNat≠255->iy h=b.set a (Ym ((b.getD a 0).toNat+1))):=by
 have l:b.getD a 0=b[a]:=by simp [YR,g]
 rw [List.take_succ_eq_append_getElem g,Aw] at c;rw [l]
 have j:(b.take a).length=a:=by rw [List.length_take];omega
 have k:∀i:UInt8,b.set a i=b.take a++i::b.drop (a+1):=λi=>by rw [List.set_eq_take_append_cons_drop,if_pos g]
 constructor
 .intro f
  rw [if_pos f] at c;rw [k,List.take_left' j,List.drop_left' j,c,List.append_assoc];rfl
 .intro f
  rw [if_neg f] at c;rw [k,c,List.append_assoc];rfl
theorem Pe{f:V}{B g cap:Nat}{b:Bs}(i:f.ownsRow B 5 1 (U (K g) b.length cap) b.length (ak b))(a:Nat)(c:UInt8):
  (f.setCell ⟨g,a,I⟩ (A Yf (c.toNat:Int))).ownsRow B 5 1 (.slice (K g) (b.set a c).length cap) (b.set a c).length (ak (b.set a c)):=by
 have:=(i.stored a (A Yf (c.toNat:Int))).1
 have h:ak (b.set a c)=(ak b).set a (A Yf (c.toNat:Int)):=by simp [ak,List.map_set]
 rw [h,List.length_set];exact this
theorem Ey(a:Nat)(b:V)(g:1<=a)(h:a<=2047):d prog 394 #[A G a] b λc f=>c=e (.bool true)/\b=f:=by
 have i:(1:Int)<=(a:Int):=O;have j:(a:Int)<=2047:=O;go_enter func394,ntmps394;go_wp2;go_returns;exact⟨by simp<;>omega,rfl⟩
theorem vR(a:V):d prog 292 #[] a λf c=>∃b,f=e (Q (K ⟨b,0,I⟩))/\fu c b (U I 0 0) [] 0 4294967295/\a.heap.size<=b/\X a a c:=by
 go_enter func292,ntmps292;go_wp2;go_returns;exact⟨_,rfl,⟨ai.new a _ _,YC _ _ _ 1⟩,Yk _,N⟩
theorem JJ(i:Nat)(L:Z)(n:Bs)(x y:Nat)(s:V)(j:fu s i L n x y)(a5:n.length<=1000000000):
  d prog 396 #[Q (K i)] s λk b0=>k=e (Ye #[])/\fu b0 i L (iy n) x y/\af (FE i L) s b0:=by
 rcases aV j.row with⟨rfl,a1⟩|⟨f,cap,rfl,e3, -, -⟩
 .obtain rfl:n=[]:=List.length_eq_zero_iff.1 a1
  have z:=E j;obtain⟨W, -, -, -⟩:=j.cells;have b9:=j.ay.lt;clear j a1 a5;go_enter func396,ntmps396;go_wp2;go_rounds 1;go_returns;exact⟨rfl,z.o,af.refl _ _⟩
 .obtain⟨g,D⟩:∃g,n.length=g:=⟨_,rfl⟩
  have z:=E j;obtain⟨W, -, -, -⟩:=j.cells;have b9:=j.ay.lt;rw [D] at W a5;have t:=E D
  have c3:Zc G ((g:Int) - 1)=(g:Int) - 1:=by rw [Yo];omega
  have c9:¬f=i:=O;clear j;rw [t.o];clear D;go_enter func396,ntmps396;go_wp2
  go_loopw [2] (λJ wr=>∃(c:Bs) (p:Nat),c.length=g/\p<=g/\J=A G ((p:Int) - 1)/\iy n=iy (c.take p)++c.drop p/\fu wr i (U (K f) g cap) c x y/\af (FE i (U (K f) g cap)) s wr) (λJ _=>(Yz J+1).toNat)
  case atStart=>exact⟨n,g,t.o,Yk _,rfl,by rw [<-t.o];simp,t.o▸z.o,af.refl _ _⟩
  case round=>
   obtain⟨c,p,m,e1,rfl,w,l,u⟩:=hrel;have b2:=E l;have b3:=E u;have b1:=E m;obtain⟨c2, -, -, -⟩:=l.cells;have e2:=l.ay.lt
   rcases p with _|a
   .have b4:=E w
    clear w l u m;go_wp2;go_returns;exact⟨rfl,by rw [b4.o];exact b2.o,b3.o⟩
   .have a3:a<c.length:=O
    obtain⟨a8,s2⟩:=Ex a3 w;have b5:=E a8;have T:=E s2;have v:=l.row;have b7:wr.cell? ⟨f,a,I⟩=K (A Yf ((c.getD a 0).toNat:Int)):=au (n:=c.length) (by have:=v;rw [m] at this⊢;exact this) (rP a3)
    have c7:wr.frozen? ⟨f,a,I⟩=false:=by
     rcases aV v with⟨k,_⟩|⟨c6,c1,k,_,_,_,_,b8,_⟩
     .cases k
     .simp only [Yy,YQ,Addr.mk.injEq] at k
      obtain⟨⟨rfl, -, -⟩, -, -⟩:=k;exact b8 a
    have c8:f<wr.heap.size:=Yj wr _ b7
    have R:=E (show∀h:UInt8,fu (wr.setCell ⟨f,a,I⟩ (A Yf (h.toNat:Int))) i (U (K f) g cap) (c.set a h) x y from λh=>by
     have a2:=Pe (B:=i+1) (g:=f) (cap:=cap) (b:=c) (by have:=v;rw [m] at this⊢;exact this) a h;rw [List.length_set,m] at a2
     exact⟨l.ay.ab _ _ (O:i≠f),by rw [List.length_set,m];exact a2⟩)
    have P:=E (show∀a9:Z,af (FE i (U (K f) g cap)) s (wr.setCell ⟨f,a,I⟩ a9) from λa9=>aS u (Yh rfl));have e0:(a:Int)<(g:Int):=O;have b6:((a+1:Nat):Int) - 1=(a:Int):=O;rw [b6];have e4:(c.getD a 0).toNat<256:=UInt8.toNat_lt _;generalize c0:(c.getD a 0).toNat=q at*;obtain⟨h,r⟩:∃h,Ym (q+1)=h:=⟨_,rfl⟩
    have a0:Zc Yf ((q:Int)+1)=(h.toNat:Int):=by rw [<-r,IntKind.wrap_u8',Hu];omega
    have a6:h.toNat=0↔q=255:=by rw [<-r,Hu];omega
    rw [r] at T;have C:=E (show q=255->h=0 from λk=>by rw [<-r,k];rfl);clear a8 s2 w l u m v c0 r;by_cases F:q=255
    .have a7:h=0:=C.o F
     subst a7
     have c4:Zc G ((a:Int) - 1)=(a:Int) - 1:=by rw [Yo];omega
     have c5:Zc Yf ((q:Int)+1)=0:=a0;clear a0 a6 C;go_wp2;go_roundw
     case rel=>exact⟨c.set a 0,a,by rw [List.length_set];exact b1.o,O,by first|rfl|go_num,b5.o F,R.o 0,P.o _⟩
     case measure=>first|(simp [Yz];done)|(simp [Yz];omega)
    .have a7:¬(h.toNat:Int)=0:=O
     clear a6 C;go_wp2;go_returns;exact⟨rfl,by rw [T.o F];exact R.o h,P.o _⟩
structure fH(p:Nat)(v:Z)(w:V)(v':Z)(w':V):Prop where
 aD:af (FE p v) w w'
 own:∀k,FE p v' k->FE p v k∨w.heap.size<=k
theorem fH.trans{h:Nat}{j k l:Z}{m n o:V}(a:fH h j m k n)(b:fH h k n l o):fH h j m l o:=by
 refine⟨⟨b.aD.os.trans a.aD.os,b.aD.tape.trans a.aD.tape,b.aD.output.trans a.aD.output,Yl a.aD.size b.aD.size,λf g i=>?_⟩,λf g=>?_⟩
 .rw [b.aD.block f (Yv g a.aD.size) (λp=>?_),a.aD.block f g i]
  rcases a.own f p with c|c
  .exact i c
  .omega
 .rcases b.own f g with c|c
  .exact a.own f c
  .exact Yh (Yl a.aD.size c)
theorem fH.kh{c:Nat}{b:Z}{f g:V}(a:af (FE c b) f g):fH c b f b g:=⟨a,λ_ a=>Yg a⟩
theorem oW(b:Nat)(a:lM)(c:16777216<=a.r):jG b a=a:=by
 cases b with
 |zero=>rfl
 |succ b=>rw [jG,if_neg O]
theorem oX(b:Nat)(a:lM)(c:a.r<16777216):jG (b+1) a=jG b (nl a):=by rw [jG,if_pos c]
structure wX(e:lM)(f:Nat):Prop where
 low:e.low<4294967296
 r1:16777216<=e.r*256^f
 r2:e.r<4294967296
 r0:0<e.r
theorem wX.next{a:lM}{b:Nat}(c:wX a (b+1))(f:a.r<16777216):wX (nl a) b:=
 ⟨Nat.mod_lt _ O,by show 16777216<=a.r*256*256^b;have:=c.r1;rw [Nat.pow_succ] at this;rw [Nat.mul_assoc,Nat.mul_comm 256];exact this,by show a.r*256<_;omega,by show 0<a.r*256;have:=c.r0;omega⟩
theorem wX.ok{a:lM}{c:Nat}(b:wX a c)(f:16777216<=a.r):Ag a:=⟨b.low,f,b.r2⟩
theorem IF:∀(a:Nat) (b:lM),wX b a->Ag (jG a b)
 |0,x,h=>h.ok (by have:=h.r1;simpa using this)
 |a+1,x,h=>by
  by_cases c:x.r<16777216
  .rw [oX a x c];exact IF a _ (h.next c)
  .rw [oW _ x O];exact h.ok O
theorem Ct{b:lM}(c:Ag b){a:Nat}(g:8192<=a)(h:a+8192<=b.r)(up:Bool):wX (pH b a up) 3:=by
 have f:=c.low;have i:=c.r2
 cases up with
 |false=>exact⟨f,by show 16777216<=a*256^3;omega,by show a<_;omega,by show 0<a;omega⟩
 |true=>
  unfold pH;rw [if_pos rfl];split
  .exact⟨Nat.mod_lt _ O,by show 16777216<=(b.r - a)*256^3;omega,by show b.r - a<_;omega,by show 0<b.r - a;omega⟩
  .exact⟨by show b.low+a<_;omega,by show 16777216<=(b.r - a)*256^3;omega,by show b.r - a<_;omega,by show 0<b.r - a;omega⟩
theorem ye{a:lM}(c:Ag a){b:Nat}(f:8192<=b)(g:b+8192<=a.r)(up:Bool):Ag (jB a b up):=IF 3 _ (Ct c f g up)
theorem Ck:∀(a:Nat) (b:lM),(jG a b).o.length<=b.o.length+a
 |0,x=>Yk _
 |a+1,x=>by
  rw [jG];split
  .have:=Ck a (nl x)
   have c:(nl x).o.length=x.o.length+1:=by simp [nl]
   omega
  .omega
theorem Cs(a:lM)(b:Nat)(up:Bool):(pH a b up).o.length=a.o.length:=by
 unfold pH;split
 .split
  .exact xg _
  .rfl
 .rfl
theorem vO(a:lM)(b:Nat)(up:Bool):(jB a b up).o.length<=a.o.length+3:=by
 have:=Ck 3 (pH a b up);rw [Cs] at this;exact this
theorem Ik{a:lM}(c:Ag a){b:Nat}(f:1<=b)(g:b<=2047):8192<=a.r / 2048*b/\a.r / 2048*b+8192<=a.r/\a.r / 2048*b<4294967296:=by
 have l:=c.r1;have m:=c.r2;have h:8192<=a.r / 2048:=O;have i:a.r / 2048*1<=a.r / 2048*b:=Nat.mul_le_mul_left _ f;have j:a.r / 2048*b<=a.r / 2048*2047:=Nat.mul_le_mul_left _ g;have k:a.r / 2048*2048<=a.r:=Nat.div_mul_le_self _ _;omega
theorem km(a:Nat)(f:a<18446744073709551616):bits .and .u64 (a:Int) 4294967295=((a%4294967296:Nat):Int):=by
 have b:a&&&4294967295=a%4294967296:=Nat.and_two_pow_sub_one_eq_mod a 32
 have c:(BitVec.ofInt 64 (a:Int)).toNat=a:=by
  rw [BitVec.ofInt_natCast,BitVec.toNat_ofNat];exact Nat.mod_eq_of_lt O
 show IntKind.u64.wrap ((BitVec.ofInt 64 (a:Int)&&&BitVec.ofInt 64 4294967295).toNat:Int)=_
 rw [BitVec.toNat_and,c,show(BitVec.ofInt 64 4294967295).toNat=4294967295 from H,b,IntKind.wrap_u64];omega
def RV(c:V)(a:Yi):Nat:=match c.cell? a with
 |some (A _ b)=>b.toNat
 |_=>0
def yb(b:V)(a:Yi):Nat:=4294967296 - RV b a
theorem vJ{f g:V}{a:Yi}{j k:IntKind}{c b:Nat}(h:f.cell? a=K (A j (c:Int)))(i:g.cell? a=K (A k (b:Int)))(m:c<b)(l:b<4294967296):yb g a<yb f a:=by
 unfold yb RV;rw [h,i];simp only [Int.toNat_natCast];omega
theorem rW{g f cap:Nat}{b:Z}{c:Option Yi}{wr i:V}{o:Obj}(m:(wr.drew.alloc o).grownBy i b.ownBlock)
  (l:(U c f cap).ownBlock=b.ownBlock∨(U c f cap).ownBlock=K (wr.drew.alloc o).heap.size):
  fH g b wr (U c f cap) (i.setCell g (U c f cap)):=by
 have j:af (FE g b) wr (wr.drew.alloc o):=af.aj (iQ o)
 have k:af (FE g b) (wr.drew.alloc o) i:=af.grown m λp a=>Yh a
 refine⟨aS (j.trans k) (Yg rfl),λp a=>?_⟩
 rcases a with a|a
 .exact Yg (Yg a)
 .rcases l with h|h
  .exact Yg (Yh (h▸a))
  .rw [h] at a
   have n:=YG a;refine Yh ?_;rw [<-n]
   show wr.heap.size<=(wr.alloc o).heap.size
   simp
def qy(b:Nat)(h:Z)(a:lM)(i:V)(g:Ending)(f:V):Prop:=∃c,g=e (Ye #[])/\fu f b c a.o a.low a.r/\fH b h i c f
theorem vN(b:Nat)(w:Z)(v:lM)(g:Nat)(up:Bool)(y:V)(g5:fu y b w v.o v.low v.r)(k2:Ag v)(l9:8192<=g)(j7:g+8192<=v.r)(k1:v.o.length<=1000000):
  d prog 395 #[Q (K b),A .u64 (g:Int),.bool up] y λh9 m4=>qy b w (jB v g up) y h9 m4:=by
 have h7:=E (Ct k2 l9 j7 up);have h8:=E (Cs v g up);have j9:jB v g up=jG 3 (pH v g up):=rfl;rw [j9];clear j9;have e2:=E k1;obtain⟨c7,p,T⟩:=v;obtain⟨c6,m2,m3⟩:=k2;simp only at c6 m2 m3 g5 j7 e2;have c8:=E g5;obtain⟨i1,i2,i3,i4,i5,i6⟩:=g5.cells;have m5:=g5.ay.lt;have h6:=E (λ(l1 l0:Nat) (i0:V) (i9:fu i0 b w c7 l1 l0)=>JJ b w c7 l1 l0 i0 i9 (by have:=e2.o;omega))
 have l7:IntKind.u64.wrap ((p:Int)+(g:Int))=((p+g:Nat):Int):=by rw [IntKind.wrap_u64];omega
 have l8:IntKind.u64.wrap ((T:Int) - (g:Int))=((T - g:Nat):Int):=by rw [IntKind.wrap_u64];omega
 have j0:=km (p+g) O;obtain⟨k,i7⟩:∃k,pH ⟨c7,p,T⟩ g up=k:=⟨_,rfl⟩;have e1:=E i7;rw [i7] at h7 h8⊢
 have m0:up=false∨(up=true/\¬4294967295<p+g)∨(up=true/\4294967295<p+g):=by cases up<;>simp<;>omega
 clear g5 i7 k1
 rcases m0 with rfl|⟨rfl,h0⟩|⟨rfl,h0⟩
 .have c1:k=⟨c7,p,g⟩:=e1.o.symm
  have c3:=E (show fu (y.setCell ⟨b,2,I⟩ (A .u64 (g:Int))) b w k.o k.low k.r from by rw [c1];exact c8.o.dC g);have c4:=E (show af (FE b w) y (y.setCell ⟨b,2,I⟩ (A .u64 (g:Int))) from aS (af.refl _ _) (Yg rfl));clear c1 l7 l8 j0;go_enter func395,ntmps395;go_wp2;obtain⟨c5,g7⟩:∃c5,y.setCell ⟨b,2,I⟩ (A .u64 (g:Int))=c5:=⟨_,rfl⟩;rw [g7] at c3 c4⊢;clear g7;have e5:=E (fH.kh c4.o);clear h6 c8 i1 i2 i3 i4 i5 i6;have e4:=E (show k.o.length+3<=2000000 from by rw [h8.o];have:=e2.o;omega)
  go_loopw [] (λwr=>∃(s:lM) (h:Nat) (l:Z),jG h s=jG 3 k/\wX s h/\s.o.length+h<=k.o.length+3/\fu wr b l s.o s.low s.r/\fH b w y l wr) (λwr=>yb wr ⟨b,2,I⟩)
  case atStart=>exact⟨k,3,w,rfl,h7.o,Yk _,c3.o,e5.o⟩
  case round=>
   obtain⟨⟨c,i,f⟩,h,l,J,n,a5,m,a1⟩:=hrel;have h3:=n.low;have h4:=n.r2;have h5:=n.r0;simp only at h3 h4 h5 m a5;obtain⟨e8,e9,g0,g2,g3,g4⟩:=m.cells;have k3:=m.ay.lt;have W:=E m;have b5:=E a1;by_cases L:f<16777216
   .obtain⟨h,rfl⟩:∃g1,h=g1+1:=by
     cases h with
     |zero=>have:=n.r1;simp at this;omega
     |succ h=>exact⟨h,rfl⟩
    have C:=E ((oX h _ L).symm.trans J);have b1:=E (n.next L);have b0:=E (show(c++[Ym (i / 16777216)]).length+h<=k.o.length+3 from by simp;omega)
    have g9:c.length+1<=1099511627776:=by have:=e4.o;omega
    obtain⟨j,P⟩:∃j,Ym (i / 16777216)=j:=⟨_,rfl⟩
    have j1:Zc Yf ((i:Int) / 16777216)=(j.toNat:Int):=by rw [<-P,<-iK];congr 1
    have j2:(i:Int)*256=((i*256:Nat):Int):=O;have j3:=km (i*256) O;have j4:(f:Int)*256=((f*256:Nat):Int):=O;have b4:=E (show nl ⟨c,i,f⟩=⟨c++[j],i*256%4294967296,f*256⟩ from by rw [<-P];rfl);rw [P] at b0;rw [b4.o] at C b1;have b3:=E (O:f<f*256/\f*256<4294967296);generalize i*256%4294967296=a6 at*;generalize i*256=k8 at*;generalize f*256=a7 at*
    have b9:∀R,l.ownBlock=K R->R≠b:=λR g8=>by have:=m.row.lt R g8;omega
    have e3:=E b9;have h1:(f:Int)<16777216:=O;clear J n a5 m a1 P b9 b4 L;go_wp2
    go_region_law (refine cQ (by rfl) _ _ (by rfl) (b+1) l (U (K wr) 1 1) c [j] (by rfl) (aG W.o.row (iQ _)) (by rfl) (aq (qH wr.drew j)) g9 (by show b+1<=(wr.alloc _).heap.size;simp;omega) ?_;intro q r z c0 b8 b7;have c9:=E b7;have a3:(wr.drew.alloc (M #[A Yf (j.toNat:Int)] 5)).grownBy z l.ownBlock:=b8;have g6:fu z b l c i f∨True:=Yh trivial;have F:=(W.o.ay.ext (iQ (M #[A Yf (j.toNat:Int)] 5))).grown a3 (λv=>e3.o b v.symm rfl);have a8:=E F;have h2:=F.cell 0;have c6:=F.free 0;have b2:=E c0;have a9:=E a3;clear c0 b8 b7 a3 g6 F)
    all_goals
     have t:fu (z.setCell b (U q (c.length+1) r)) b (U q (c.length+1) r) (c++[j]) i f:=⟨a8.o.set 0 _,Yu b2.o (by show b<b+1;omega) _⟩;have D:fH b l wr (U q (c.length+1) r) (z.setCell b (U q (c.length+1) r)):=rW a9.o c9.o;obtain⟨a0,b6⟩:∃a0,z.setCell b (U q (c.length+1) r)=a0:=⟨_,rfl⟩;obtain⟨x,c2⟩:∃x,U q (c.length+1) r=x:=⟨_,rfl⟩;rw [b6] at t D⊢;rw [c2] at t D;have a2:=(t.Ma a6).dC a7;have e7:=E a2;have e6:=E (((b5.o.trans D).trans (fH.kh (aS (af.refl (FE b x) a0) (Yg rfl) (a:=⟨b,1,I⟩) (u:=A .u64 (a6:Int))))).trans (fH.kh (aS (af.refl (FE b x) _) (Yg rfl) (a:=⟨b,2,I⟩) (u:=A .u64 (a7:Int)))));obtain⟨j5,h9,j6,k5,k6,k7⟩:=t.cells;have k4:=t.ay.lt;have e0:=E a2.ay;clear t D a2 b6 c2 a8 b2 a9 h2 c6 g2 g3 g4 e8 e9;go_wp2;go_roundw
     case rel=>exact⟨⟨c++[j],a6,a7⟩,h,x,C.o,b1.o,b0.o,e7.o,e6.o⟩
     case measure=>exact vJ g0 (e0.o.cell 2) b3.o.1 b3.o.2
   .have h1:¬(f:Int)<16777216:=O
    have C:=E (oW h ⟨c,i,f⟩ (by show 16777216<=f;omega)▸J);clear L J n a5 m a1;go_wp2;go_returns;exact⟨l,rfl,by rw [<-C.o];exact W.o,b5.o⟩
 .have c1:k=⟨c7,p+g,T - g⟩:=by rw [<-e1.o];unfold pH;rw [if_pos rfl,if_neg h0]
  have m1:¬(4294967295:Int)<((p+g:Nat):Int):=O;have c3:=E (show fu ((y.setCell ⟨b,1,I⟩ (A .u64 ((p+g:Nat):Int))).setCell ⟨b,2,I⟩ (A .u64 ((T - g:Nat):Int))) b w k.o k.low k.r from by rw [c1];exact(c8.o.Ma _).dC _);have c4:=E (show af (FE b w) y ((y.setCell ⟨b,1,I⟩ (A .u64 ((p+g:Nat):Int))).setCell ⟨b,2,I⟩ (A .u64 ((T - g:Nat):Int))) from aS (aS (af.refl _ _) (Yg rfl)) (Yg rfl));clear c1 j0 h0 e1;generalize p+g=k9 at*;generalize T - g=l2 at*;go_enter func395,ntmps395;go_wp2;obtain⟨c5,g7⟩:∃c5,(y.setCell ⟨b,1,I⟩ (A .u64 (k9:Int))).setCell ⟨b,2,I⟩ (A .u64 (l2:Int))=c5:=⟨_,rfl⟩;rw [g7] at c3 c4⊢;clear g7;have e5:=E (fH.kh c4.o);clear h6 c8 i1 i2 i3 i4 i5 i6;have e4:=E (show k.o.length+3<=2000000 from by rw [h8.o];have:=e2.o;omega)
  go_loopw [] (λwr=>∃(s:lM) (h:Nat) (l:Z),jG h s=jG 3 k/\wX s h/\s.o.length+h<=k.o.length+3/\fu wr b l s.o s.low s.r/\fH b w y l wr) (λwr=>yb wr ⟨b,2,I⟩)
  case atStart=>exact⟨k,3,w,rfl,h7.o,Yk _,c3.o,e5.o⟩
  case round=>
   obtain⟨⟨c,i,f⟩,h,l,J,n,a5,m,a1⟩:=hrel;have h3:=n.low;have h4:=n.r2;have h5:=n.r0;simp only at h3 h4 h5 m a5;obtain⟨e8,e9,g0,g2,g3,g4⟩:=m.cells;have k3:=m.ay.lt;have W:=E m;have b5:=E a1;by_cases L:f<16777216
   .obtain⟨h,rfl⟩:∃g1,h=g1+1:=by
     cases h with
     |zero=>have:=n.r1;simp at this;omega
     |succ h=>exact⟨h,rfl⟩
    have C:=E ((oX h _ L).symm.trans J);have b1:=E (n.next L);have b0:=E (show(c++[Ym (i / 16777216)]).length+h<=k.o.length+3 from by simp;omega)
    have g9:c.length+1<=1099511627776:=by have:=e4.o;omega
    obtain⟨j,P⟩:∃j,Ym (i / 16777216)=j:=⟨_,rfl⟩
    have j1:Zc Yf ((i:Int) / 16777216)=(j.toNat:Int):=by rw [<-P,<-iK];congr 1
    have j2:(i:Int)*256=((i*256:Nat):Int):=O;have j3:=km (i*256) O;have j4:(f:Int)*256=((f*256:Nat):Int):=O;have b4:=E (show nl ⟨c,i,f⟩=⟨c++[j],i*256%4294967296,f*256⟩ from by rw [<-P];rfl);rw [P] at b0;rw [b4.o] at C b1;have b3:=E (O:f<f*256/\f*256<4294967296);generalize i*256%4294967296=a6 at*;generalize i*256=k8 at*;generalize f*256=a7 at*
    have b9:∀R,l.ownBlock=K R->R≠b:=λR g8=>by have:=m.row.lt R g8;omega
    have e3:=E b9;have h1:(f:Int)<16777216:=O;clear J n a5 m a1 P b9 b4 L;go_wp2
    go_region_law (refine cQ (by rfl) _ _ (by rfl) (b+1) l (U (K wr) 1 1) c [j] (by rfl) (aG W.o.row (iQ _)) (by rfl) (aq (qH wr.drew j)) g9 (by show b+1<=(wr.alloc _).heap.size;simp;omega) ?_;intro q r z c0 b8 b7;have c9:=E b7;have a3:(wr.drew.alloc (M #[A Yf (j.toNat:Int)] 5)).grownBy z l.ownBlock:=b8;have g6:fu z b l c i f∨True:=Yh trivial;have F:=(W.o.ay.ext (iQ (M #[A Yf (j.toNat:Int)] 5))).grown a3 (λv=>e3.o b v.symm rfl);have a8:=E F;have h2:=F.cell 0;have c6:=F.free 0;have b2:=E c0;have a9:=E a3;clear c0 b8 b7 a3 g6 F)
    all_goals
     have t:fu (z.setCell b (U q (c.length+1) r)) b (U q (c.length+1) r) (c++[j]) i f:=⟨a8.o.set 0 _,Yu b2.o (by show b<b+1;omega) _⟩;have D:fH b l wr (U q (c.length+1) r) (z.setCell b (U q (c.length+1) r)):=rW a9.o c9.o;obtain⟨a0,b6⟩:∃a0,z.setCell b (U q (c.length+1) r)=a0:=⟨_,rfl⟩;obtain⟨x,c2⟩:∃x,U q (c.length+1) r=x:=⟨_,rfl⟩;rw [b6] at t D⊢;rw [c2] at t D;have a2:=(t.Ma a6).dC a7;have e7:=E a2;have e6:=E (((b5.o.trans D).trans (fH.kh (aS (af.refl (FE b x) a0) (Yg rfl) (a:=⟨b,1,I⟩) (u:=A .u64 (a6:Int))))).trans (fH.kh (aS (af.refl (FE b x) _) (Yg rfl) (a:=⟨b,2,I⟩) (u:=A .u64 (a7:Int)))));obtain⟨j5,h9,j6,k5,k6,k7⟩:=t.cells;have k4:=t.ay.lt;have e0:=E a2.ay;clear t D a2 b6 c2 a8 b2 a9 h2 c6 g2 g3 g4 e8 e9;go_wp2;go_roundw
     case rel=>exact⟨⟨c++[j],a6,a7⟩,h,x,C.o,b1.o,b0.o,e7.o,e6.o⟩
     case measure=>exact vJ g0 (e0.o.cell 2) b3.o.1 b3.o.2
   .have h1:¬(f:Int)<16777216:=O
    have C:=E (oW h ⟨c,i,f⟩ (by show 16777216<=f;omega)▸J);clear L J n a5 m a1;go_wp2;go_returns;exact⟨l,rfl,by rw [<-C.o];exact W.o,b5.o⟩
 .have c1:k=⟨iy c7,(p+g)%4294967296,T - g⟩:=by rw [<-e1.o];unfold pH;rw [if_pos rfl,if_pos h0]
  have m1:(4294967295:Int)<((p+g:Nat):Int):=O;have l4:=E (show fu (((y.setCell ⟨b,1,I⟩ (A .u64 ((p+g:Nat):Int))).setCell ⟨b,2,I⟩ (A .u64 ((T - g:Nat):Int))).setCell ⟨b,1,I⟩ (A .u64 (((p+g)%4294967296:Nat):Int))) b w c7 ((p+g)%4294967296) (T - g) from((c8.o.Ma _).dC _).Ma _);have l5:=E (show af (FE b w) y (((y.setCell ⟨b,1,I⟩ (A .u64 ((p+g:Nat):Int))).setCell ⟨b,2,I⟩ (A .u64 ((T - g:Nat):Int))).setCell ⟨b,1,I⟩ (A .u64 (((p+g)%4294967296:Nat):Int))) from aS (aS (aS (af.refl _ _) (Yg rfl)) (Yg rfl)) (Yg rfl));have l6:=E c1;have l3:=E (λi0 i9=>h6.o ((p+g)%4294967296) (T - g) i0 i9);clear c1 h0 e1;generalize (p+g)%4294967296=m6 at*;generalize p+g=k9 at*;generalize T - g=l2 at*;go_enter func395,ntmps395
  go_wp2_with (go_at_call 396;refine(l3.o _ l4.o).mono ?_;rintro v c5 ⟨rfl,j8,k0⟩;have c3:=E (show fu c5 b w k.o k.low k.r from by rw [l6.o];exact j8);have c4:=E (l5.o.trans k0);clear j8 k0)
  have e5:=E (fH.kh c4.o);clear h6 c8 i1 i2 i3 i4 i5 i6;have e4:=E (show k.o.length+3<=2000000 from by rw [h8.o];have:=e2.o;omega)
  go_loopw [] (λwr=>∃(s:lM) (h:Nat) (l:Z),jG h s=jG 3 k/\wX s h/\s.o.length+h<=k.o.length+3/\fu wr b l s.o s.low s.r/\fH b w y l wr) (λwr=>yb wr ⟨b,2,I⟩)
  case atStart=>exact⟨k,3,w,rfl,h7.o,Yk _,c3.o,e5.o⟩
  case round=>
   obtain⟨⟨c,i,f⟩,h,l,J,n,a5,m,a1⟩:=hrel;have h3:=n.low;have h4:=n.r2;have h5:=n.r0;simp only at h3 h4 h5 m a5;obtain⟨e8,e9,g0,g2,g3,g4⟩:=m.cells;have k3:=m.ay.lt;have W:=E m;have b5:=E a1;by_cases L:f<16777216
   .obtain⟨h,rfl⟩:∃g1,h=g1+1:=by
     cases h with
     |zero=>have:=n.r1;simp at this;omega
     |succ h=>exact⟨h,rfl⟩
    have C:=E ((oX h _ L).symm.trans J);have b1:=E (n.next L);have b0:=E (show(c++[Ym (i / 16777216)]).length+h<=k.o.length+3 from by simp;omega)
    have g9:c.length+1<=1099511627776:=by have:=e4.o;omega
    obtain⟨j,P⟩:∃j,Ym (i / 16777216)=j:=⟨_,rfl⟩
    have j1:Zc Yf ((i:Int) / 16777216)=(j.toNat:Int):=by rw [<-P,<-iK];congr 1
    have j2:(i:Int)*256=((i*256:Nat):Int):=O;have j3:=km (i*256) O;have j4:(f:Int)*256=((f*256:Nat):Int):=O;have b4:=E (show nl ⟨c,i,f⟩=⟨c++[j],i*256%4294967296,f*256⟩ from by rw [<-P];rfl);rw [P] at b0;rw [b4.o] at C b1;have b3:=E (O:f<f*256/\f*256<4294967296);generalize i*256%4294967296=a6 at*;generalize i*256=k8 at*;generalize f*256=a7 at*
    have b9:∀R,l.ownBlock=K R->R≠b:=λR g8=>by have:=m.row.lt R g8;omega
    have e3:=E b9;have h1:(f:Int)<16777216:=O;clear J n a5 m a1 P b9 b4 L;go_wp2
    go_region_law (refine cQ (by rfl) _ _ (by rfl) (b+1) l (U (K wr) 1 1) c [j] (by rfl) (aG W.o.row (iQ _)) (by rfl) (aq (qH wr.drew j)) g9 (by show b+1<=(wr.alloc _).heap.size;simp;omega) ?_;intro q r z c0 b8 b7;have c9:=E b7;have a3:(wr.drew.alloc (M #[A Yf (j.toNat:Int)] 5)).grownBy z l.ownBlock:=b8;have g6:fu z b l c i f∨True:=Yh trivial;have F:=(W.o.ay.ext (iQ (M #[A Yf (j.toNat:Int)] 5))).grown a3 (λv=>e3.o b v.symm rfl);have a8:=E F;have h2:=F.cell 0;have c6:=F.free 0;have b2:=E c0;have a9:=E a3;clear c0 b8 b7 a3 g6 F)
    all_goals
     have t:fu (z.setCell b (U q (c.length+1) r)) b (U q (c.length+1) r) (c++[j]) i f:=⟨a8.o.set 0 _,Yu b2.o (by show b<b+1;omega) _⟩;have D:fH b l wr (U q (c.length+1) r) (z.setCell b (U q (c.length+1) r)):=rW a9.o c9.o;obtain⟨a0,b6⟩:∃a0,z.setCell b (U q (c.length+1) r)=a0:=⟨_,rfl⟩;obtain⟨x,c2⟩:∃x,U q (c.length+1) r=x:=⟨_,rfl⟩;rw [b6] at t D⊢;rw [c2] at t D;have a2:=(t.Ma a6).dC a7;have e7:=E a2;have e6:=E (((b5.o.trans D).trans (fH.kh (aS (af.refl (FE b x) a0) (Yg rfl) (a:=⟨b,1,I⟩) (u:=A .u64 (a6:Int))))).trans (fH.kh (aS (af.refl (FE b x) _) (Yg rfl) (a:=⟨b,2,I⟩) (u:=A .u64 (a7:Int)))));obtain⟨j5,h9,j6,k5,k6,k7⟩:=t.cells;have k4:=t.ay.lt;have e0:=E a2.ay;clear t D a2 b6 c2 a8 b2 a9 h2 c6 g2 g3 g4 e8 e9;go_wp2;go_roundw
     case rel=>exact⟨⟨c++[j],a6,a7⟩,h,x,C.o,b1.o,b0.o,e7.o,e6.o⟩
     case measure=>exact vJ g0 (e0.o.cell 2) b3.o.1 b3.o.2
   .have h1:¬(f:Int)<16777216:=O
    have C:=E (oW h ⟨c,i,f⟩ (by show 16777216<=f;omega)▸J);clear L J n a5 m a1;go_wp2;go_returns;exact⟨l,rfl,by rw [<-C.o];exact W.o,b5.o⟩
theorem JW(h:Nat)(m:Z)(b:lM)(a:Nat)(c:Bool)(j:V)(f:fu j h m b.o b.low b.r)(g:Ag b)(p:1<=a)(q:a<=2047)(r:b.o.length<=1000000):
  d prog 391 #[Q (K h),A G a,.bool c] j λx n=>∃u,x=e Ya/\fu n h u (sP b a c).o (sP b a c).low (sP b a c).r/\fH h m j u n:=by
 obtain⟨s,t,F⟩:=Ik g p q;have v:=E (λj=>Ey a j p q);have k:=E (λL D=>vN h m b (b.r / 2048*a) c L D g s t r);have l:sP b a c=jB b (b.r / 2048*a) c:=rfl;rw [l];generalize jB b (b.r / 2048*a) c=P at k⊢;obtain⟨a8,a7,i⟩:=b;simp only at f k l g s t F r;have w:=E f;obtain⟨W,a0,a1,a2,a3,a5⟩:=f.cells;have a6:=f.ay.lt;have C:=g.r2;simp only at C
 have R:IntKind.u64.wrap (a:Int)=(a:Int):=by rw [IntKind.wrap_u64];omega
 have T:IntKind.u64.wrap ((i:Int) / 2048*(a:Int))=((i / 2048*a:Nat):Int):=by
  rw [show(i:Int) / 2048*(a:Int)=((i / 2048*a:Nat):Int) from by rw [Int.natCast_mul,Int.natCast_ediv];rfl,IntKind.wrap_u64];omega
 generalize i / 2048*a=b0 at*;simp only [qy] at k;clear f l g;go_enter func391,ntmps391
 go_wp2_with (first
  |(go_at_call 394;with_reducible refine(v.o _).mono ?_;rintro b n ⟨rfl,rfl⟩)
  |(go_at_call 395;refine(k.o _ w.o).mono ?_;rintro b a9 ⟨J,rfl,y,z⟩))
 go_returns;exact⟨J,rfl,y,z⟩
theorem JX(h:Nat)(k:Z)(a:lM)(b:Bool)(l:V)(f:fu l h k a.o a.low a.r)(g:Ag a)(n:a.o.length<=1000000):
  d prog 393 #[Q (K h),.bool b] l λr y=>qy h k (It a b) l r y:=by
 have v:=g.r1;have u:=g.r2;have c:=E (λz w=>vN h k a (a.r / 2) b z w g O O n);have i:It a b=jB a (a.r / 2) b:=rfl;rw [i];generalize jB a (a.r / 2) b=C at c⊢;obtain⟨a1,a0,p⟩:=a;simp only at f c i g n u v;have q:=E f;obtain⟨F,J,L,P,R,T⟩:=f.cells;have W:=f.ay.lt;obtain⟨j,m⟩:∃j,p / 2=j:=⟨_,rfl⟩;have D:(p:Int) / 2=(j:Int):=O;rw [m] at c;simp only [qy] at c⊢;clear f i g m;go_enter func393,ntmps393
 go_wp2_with (go_at_call 395;refine(c.o _ q.o).mono ?_;rintro a a2 ⟨x,rfl,s,t⟩)
 go_returns;exact⟨x,rfl,s,t⟩
def wN(a:Bs):Bs:=(wO a.reverse).reverse
theorem Ht(a:Bs)(b:UInt8):wN (a++[b])=if b=0 then wN a else a++[b]:=by
 unfold wN;rw [List.reverse_append]
 show(wO (b::a.reverse)).reverse=_
 rw [wO];split
 .rfl
 .rw [List.reverse_cons,List.reverse_reverse]
theorem JZ(a:lM):EM a=wN (uS a):=rfl
theorem DU:∀a:Bs,(wO a).length<=a.length
 |[]=>Yk _
 |b::a=>by
  rw [wO];split
  .have:=DU a;simp;omega
  .exact Yk _
theorem Ni(a:lM):(EM a).length<=a.o.length+4:=by
 have b:=DU (uS a).reverse;unfold EM;rw [List.length_reverse]
 have c:(uS a).reverse.length=a.o.length+4:=by rw [List.length_reverse];simp [uS]
 omega
theorem pP(g:V)(a b c f:UInt8):(g.alloc (M #[A Yf (a.toNat:Int),A Yf (b.toNat:Int),A Yf (c.toNat:Int),A Yf (f.toNat:Int)] 5)).ownsRow g 5 1 (U (K g) 4 4) ([a,b,c,f]:Bs).length (ak [a,b,c,f]):=
 World.ownsRow_lit g #[A Yf (a.toNat:Int),A Yf (b.toNat:Int),A Yf (c.toNat:Int),A Yf (f.toNat:Int)] 4 (Yk _) (by simp [YO]) Y
theorem pY(a:V):(a.alloc (M #[] 5)).ownsRow a 5 1 (U (K a) 0 0) ([]:Bs).length (ak []):=
 World.ownsRow_lit a #[] 0 (Yk _) (by simp [YO]) Y
theorem Ev{j:V}{g i cap:Nat}{b:Bs}(k:ah j (U (K g) i cap) b){a:Nat}(m:a<i):j.cell? ⟨g,a,I⟩=K (A Yf ((b.getD a 0).toNat:Int)):=by
 obtain⟨n,p,c,q,r,s,l⟩:=k;simp only [Yy] at c;obtain⟨rfl,rfl,rfl⟩:=c;obtain⟨o,t,f,h⟩:=l a m;simp only [YQ,Addr.mk.injEq] at f;obtain⟨rfl,rfl, -⟩:=f;rw [Nat.zero_add] at h;exact h
theorem wm{i j:V}{b c h g:Nat}{a:Z}{k:List Z}{row:Option Nat}(m:i.grownBy j row)(l:i.ownsRow b c h a g k)(n:∀f,a.ownBlock=K f->K f≠row):j.ownsRow b c h a g k:=cP l m n
theorem j'{a:Nat}{b c g:V}{row:Option Nat}(_:X a b b)(j:c.grownBy g row)(i:X a b c)(h:a<=c.heap.size)(k:∀f,row=K f->a<=f):X a b g:=i.grown j h k
theorem Qr(y:Nat)(h0:Z)(h:lM)(a:V)(a3:fu a y h0 h.o h.low h.r)(g6:Ag h)(e7:h.o.length<=1000000):
  d prog 308 #[Q (K y)] a λj2 a8=>∃h1,j2=e h1/\ah a8 h1 (EM h)/\X a a a8:=by
 have h4:=E (JZ h);have e4:uS h=h.o++[Ym (h.low / 16777216),Ym (h.low / 65536),Ym (h.low / 256),Ym h.low]:=rfl;obtain⟨i,t,g9⟩:=h;have g4:=g6.low;simp only at a3 e4 e7 g4;generalize EM ⟨i,t,g9⟩=a9 at*;generalize uS ⟨i,t,g9⟩=p at*;have h5:=E a3;obtain⟨c9,g2,j1,j7,j8,j9⟩:=a3.cells;have g7:=a3.ay.lt
 have i6:Zc Yf ((t:Int) / 16777216)=((Ym (t / 16777216)).toNat:Int):=by rw [<-iK];congr 1
 have i7:Zc Yf ((t:Int) / 65536)=((Ym (t / 65536)).toNat:Int):=by rw [<-iK];congr 1
 have i9:Zc Yf ((t:Int) / 256)=((Ym (t / 256)).toNat:Int):=by rw [<-iK];congr 1
 have j0:=iK t;generalize Ym (t / 16777216)=b at*;generalize Ym (t / 65536)=c at*;generalize Ym (t / 256)=f at*;generalize Ym t=g at*;have b8:=E e4
 obtain⟨F,cap,rfl⟩:∃F cap,h0=U F i.length cap:=by
  rcases aV a3.row with⟨rfl,e2⟩|⟨b3,cap,rfl, -⟩
  .exact⟨I,0,by rw [e2]⟩
  .exact⟨_,cap,rfl⟩
 obtain⟨a0,b4⟩:∃a0,i.length=a0:=⟨_,rfl⟩;rw [b4] at c9 e7 h5;have b1:=E b4;have b5:=E (show ah a (U F a0 cap) i from by rw [<-b4];exact aq a3.row);have n:=E (λ(m:V) (z:X a a m)=>show m.cell? y=K (U F a0 cap)/\m.cell? ⟨y,1,I⟩=K (A .u64 (t:Int)) from⟨(z.cell (p:=y) g7).trans c9,(z.cell (p:=⟨y,1,I⟩) g7).trans g2⟩);clear a3 g6 e4 b4 g4;have c0:=E (show([]:Bs).length+i.length<=1099511627776 from by rw [b1.o];simp;omega);have c1:=E (show i.length+([b,c,f,g]:Bs).length<=1099511627776 from by rw [b1.o];simp;omega)
 have h6:=E (λ(m:V) (h:m.heap=(a.alloc (M #[] 5)).heap)=>show m.ownsRow a 5 1 (U (K a) 0 0) ([]:Bs).length (ak []) from by
  refine an (w:=a.alloc (M #[] 5)) ?_ (λs _=>by rw [h])
  exact pY a)
 have h7:=E (λ(m:V) (h:m.heap=((a.alloc (M #[] 5)).alloc (M #[A Yf (b.toNat:Int),A Yf (c.toNat:Int),A Yf (f.toNat:Int),A Yf (g.toNat:Int)] 5)).heap)=>show m.ownsRow a 5 1 (U (K a) 0 0) ([]:Bs).length (ak []) from by
  refine an (w:=(a.alloc (M #[] 5)).alloc (M #[A Yf (b.toNat:Int),A Yf (c.toNat:Int),A Yf (f.toNat:Int),A Yf (g.toNat:Int)] 5)) ?_ (λs _=>by rw [h])
  exact(pY a).alloc _)
 have h8:=E (λ(m:V) (h:m.heap=((a.alloc (M #[A Yf (b.toNat:Int),A Yf (c.toNat:Int),A Yf (f.toNat:Int),A Yf (g.toNat:Int)] 5)).alloc (M #[] 5)).heap)=>show m.ownsRow a 5 1 (U (K ⟨a.heap.size+1,0,I⟩) 0 0) ([]:Bs).length (ak []) from by
  refine an (w:=(a.alloc (M #[A Yf (b.toNat:Int),A Yf (c.toNat:Int),A Yf (f.toNat:Int),A Yf (g.toNat:Int)] 5)).alloc (M #[] 5)) ?_ (λs _=>by rw [h]);have a7:=pY (a.alloc (M #[A Yf (b.toNat:Int),A Yf (c.toNat:Int),A Yf (f.toNat:Int),A Yf (g.toNat:Int)] 5));have e0:(a.alloc (M #[A Yf (b.toNat:Int),A Yf (c.toNat:Int),A Yf (f.toNat:Int),A Yf (g.toNat:Int)] 5)).heap.size=a.heap.size+1:=Y;rw [e0] at a7
  exact aA a7 O)
 have h2:=E (λ(m:V) (h:m.heap=((a.alloc (M #[] 5)).alloc (M #[A Yf (b.toNat:Int),A Yf (c.toNat:Int),A Yf (f.toNat:Int),A Yf (g.toNat:Int)] 5)).heap)=>show m.ownsRow a 5 1 (U (K ⟨a.heap.size+1,0,I⟩) 4 4) ([b,c,f,g]:Bs).length (ak [b,c,f,g]) from by
  refine an (w:=(a.alloc (M #[] 5)).alloc (M #[A Yf (b.toNat:Int),A Yf (c.toNat:Int),A Yf (f.toNat:Int),A Yf (g.toNat:Int)] 5)) ?_ (λs _=>by rw [h]);have a7:=pP (a.alloc (M #[] 5)) b c f g;have e0:(a.alloc (M #[] 5)).heap.size=a.heap.size+1:=Y;rw [e0] at a7
  exact aA a7 O)
 have h3:=E (λ(m:V) (h:m.heap=((a.alloc (M #[A Yf (b.toNat:Int),A Yf (c.toNat:Int),A Yf (f.toNat:Int),A Yf (g.toNat:Int)] 5)).alloc (M #[] 5)).heap)=>show m.ownsRow a 5 1 (U (K a) 4 4) ([b,c,f,g]:Bs).length (ak [b,c,f,g]) from by
  refine an (w:=(a.alloc (M #[A Yf (b.toNat:Int),A Yf (c.toNat:Int),A Yf (f.toNat:Int),A Yf (g.toNat:Int)] 5)).alloc (M #[] 5)) ?_ (λs _=>by rw [h])
  exact(pP a b c f g).alloc _)
 have h9:=E (n.o (a.drew) N);have i0:=E (n.o ((a.alloc (M #[] 5)).drew) N);have i1:=E (n.o (((a.alloc (M #[] 5)).alloc (M #[A Yf (b.toNat:Int),A Yf (c.toNat:Int),A Yf (f.toNat:Int),A Yf (g.toNat:Int)] 5)).drew) N);have i2:=E (n.o ((a.alloc (M #[] 5)).drew.alloc (M #[A Yf (b.toNat:Int),A Yf (c.toNat:Int),A Yf (f.toNat:Int),A Yf (g.toNat:Int)] 5)) N);have i3:=E (n.o (((a.alloc (M #[A Yf (b.toNat:Int),A Yf (c.toNat:Int),A Yf (f.toNat:Int),A Yf (g.toNat:Int)] 5)).alloc (M #[] 5)).drew) N);have i4:=E (n.o ((a.alloc (M #[A Yf (b.toNat:Int),A Yf (c.toNat:Int),A Yf (f.toNat:Int),A Yf (g.toNat:Int)] 5)).drew.alloc (M #[] 5)) N);have i5:=E (n.o ((a.alloc (M #[A Yf (b.toNat:Int),A Yf (c.toNat:Int),A Yf (f.toNat:Int),A Yf (g.toNat:Int)] 5)).drew) N);go_enter func308,ntmps308;go_wp2
 go_region_held3 (λa8=>a8.cell? y=K (U F a0 cap)/\a8.cell? ⟨y,1,I⟩=K (A .u64 (t:Int)))
  (first|with_reducible exact h9.o|with_reducible exact i0.o|with_reducible exact i1.o|with_reducible exact i2.o|with_reducible exact i3.o|with_reducible exact i4.o|with_reducible exact i5.o|with_reducible exact c4.o|with_reducible exact c5.o|with_reducible exact c6.o)
  (first
   |(refine cQ (by rfl) (.tmp 9) (.tmp 33) (by rfl) a (U J u L) (U (K l) 4 4) i [b,c,f,g] (by rfl) (D.o.alloc _) (by rfl) (aq (pP l b c f g)) c1.o (Yl j.o.size Y) ?_;intro c7 a2 C w T R;obtain⟨q,a5⟩:∃q,i.length+([b,c,f,g]:Bs).length=q:=⟨_,rfl⟩;rw [a5] at w R⊢;have b2:=E w;have a1:=E (show X a a C from(j.o.alloc j.o.size (M #[A Yf (b.toNat:Int),A Yf (c.toNat:Int),A Yf (f.toNat:Int),A Yf (g.toNat:Int)] 5)).grown T (Yl j.o.size Y) (λs r=>(D.o.lt s r).1));have c6:=E (n.o C a1.o);clear w T R)
   |(refine cQ (by rfl) (.tmp 9) (.tmp 33) (by rfl) a (U J u L) (U (K ⟨a.heap.size+1,0,I⟩) 4 4) i [b,c,f,g] (by rfl) (D.o) (by rfl) (b9.o) c1.o (j.o.size) ?_;intro c7 a2 C w T R;obtain⟨q,a5⟩:∃q,i.length+([b,c,f,g]:Bs).length=q:=⟨_,rfl⟩;rw [a5] at w R⊢;have b2:=E w;have a1:=E (show X a a C from j.o.grown T j.o.size (λs r=>(D.o.lt s r).1));have c6:=E (n.o C a1.o);clear w T R)
   |(refine cQ (by rfl) (.tmp 9) (.tmp 33) (by rfl) a (U J u L) (U (K a) 4 4) i [b,c,f,g] (by rfl) (D.o) (by rfl) (b9.o) c1.o (j.o.size) ?_;intro c7 a2 C w T R;obtain⟨q,a5⟩:∃q,i.length+([b,c,f,g]:Bs).length=q:=⟨_,rfl⟩;rw [a5] at w R⊢;have b2:=E w;have a1:=E (show X a a C from j.o.grown T j.o.size (λs r=>(D.o.lt s r).1));have c6:=E (n.o C a1.o);clear w T R)
   |(refine cQ (by rfl) (.tmp 4) (.tmp 8) (by rfl) a (U (K a) 0 0) (U F a0 cap) [] i (by rfl) (h6.o _ rfl) (by rfl) (b5.o.ext N) c0.o (N:X a a _).size ?_;intro J L l v x P;obtain⟨u,W⟩:∃u,([]:Bs).length+i.length=u:=⟨_,rfl⟩;rw [W] at v P⊢;have j:=E (show X a a l from j' (Yn a a) x N (N:X a a _).size (by intro s r;simp [YT] at r;omega));have D:=E (show l.ownsRow a 5 1 (U J u L) i.length (ak i) from v);have c4:=E (n.o l j.o);have c5:=E (n.o (l.alloc (M #[A Yf (b.toNat:Int),A Yf (c.toNat:Int),A Yf (f.toNat:Int),A Yf (g.toNat:Int)] 5)) (j.o.alloc j.o.size _));clear v x P W)
   |(refine cQ (by rfl) (.tmp 4) (.tmp 8) (by rfl) a (U (K a) 0 0) (U F a0 cap) [] i (by rfl) (h7.o _ rfl) (by rfl) (b5.o.ext N) c0.o (N:X a a _).size ?_;intro J L l v x P;obtain⟨u,W⟩:∃u,([]:Bs).length+i.length=u:=⟨_,rfl⟩;rw [W] at v P⊢;have j:=E (show X a a l from j' (Yn a a) x N (N:X a a _).size (by intro s r;simp [YT] at r;omega));have D:=E (show l.ownsRow a 5 1 (U J u L) i.length (ak i) from v);have b9:=E (show ah l (U (K ⟨a.heap.size+1,0,I⟩) 4 4) [b,c,f,g] from aq (wm x (h2.o _ rfl) (by intro s r;simp [YT] at r⊢;omega)));have c4:=E (n.o l j.o);have c5:=E (n.o (l.alloc (M #[A Yf (b.toNat:Int),A Yf (c.toNat:Int),A Yf (f.toNat:Int),A Yf (g.toNat:Int)] 5)) (j.o.alloc j.o.size _));clear v x P W)
   |(refine cQ (by rfl) (.tmp 4) (.tmp 8) (by rfl) a (U (K ⟨a.heap.size+1,0,I⟩) 0 0) (U F a0 cap) [] i (by rfl) (h8.o _ rfl) (by rfl) (b5.o.ext N) c0.o (N:X a a _).size ?_;intro J L l v x P;obtain⟨u,W⟩:∃u,([]:Bs).length+i.length=u:=⟨_,rfl⟩;rw [W] at v P⊢;have j:=E (show X a a l from j' (Yn a a) x N (N:X a a _).size (by intro s r;simp [YT] at r;omega));have D:=E (show l.ownsRow a 5 1 (U J u L) i.length (ak i) from v);have b9:=E (show ah l (U (K a) 4 4) [b,c,f,g] from aq (wm x (h3.o _ rfl) (by intro s r;simp [YT] at r⊢;omega)));have c4:=E (n.o l j.o);have c5:=E (n.o (l.alloc (M #[A Yf (b.toNat:Int),A Yf (c.toNat:Int),A Yf (f.toNat:Int),A Yf (g.toNat:Int)] 5)) (j.o.alloc j.o.size _));clear v x P W))
 all_goals
  have g5:i.length+4=p.length:=by rw [b8.o];simp
  have g3:i.length+4=q:=a5;have e5:=aq b2.o;rw [<-b8.o] at e5
  rcases aV b2.o with⟨_,e2⟩|⟨b3,j6,e1, -,k2, -⟩
  .simp at e2
  obtain⟨rfl, -, -⟩:c7=K b3/\True/\True:=by
   simp only [Yy] at e1;exact⟨e1.1,trivial,trivial⟩
  have e6:ah C (U (K b3) q a2) p:=e5;have b6:=E e6
  have k1:q<=a2:=by
   obtain⟨_,_,h,e3,_⟩:=e6;simp only [Yy] at h;omega
  have g1:=E (g3.symm.trans g5)
  have k0:q<=1000004:=by have:=b1.o;omega
  clear e5 e6 g3 g5 c9 g2 j1 e1 i6 i7 i9 j0 b8 b1 a5;go_wp2
  go_loop [3] (λc8=>∃a6,a6<=q/\c8=U (K b3) a6 a2/\a9=wN (p.take a6)) (λc8=>match c8 with|.slice _ a6 _=>a6|_=>0)
  case atStart=>exact⟨q,Yk _,rfl,by rw [h4.o,g1.o,List.take_length]⟩
  case round=>
   obtain⟨a6,j5,rfl,g8⟩:=hrel;have c2:=E g8;clear g8
   rcases a6 with _|k
   .go_wp2
    go_returns;exact⟨_,rfl,by rw [c2.o];exact b6.o.cut (Yr _),a1.o⟩
   .have j4:k<q:=j5
    have j3:=Ev b6.o j4
    have e3:p.take (k+1)=p.take k++[p.getD k 0]:=by
     have e7:=g1.o;rw [List.take_succ_eq_append_getElem O];simp [YR,show k<p.length by omega]
    have b0:=E (show a9=if p.getD k 0=0 then wN (p.take k) else p.take (k+1) from by rw [c2.o,e3,Ht]);have e9:(p.getD k 0).toNat=0↔p.getD k 0=0:=⟨λh=>UInt8.toNat_inj.1 h,λh=>by rw [h];rfl⟩;clear e3 c2;generalize p.getD k 0=g0 at*;have c3:=E e9;have k3:(k:Int)<(k:Int)+1:=O;have k4:k<=a2:=O;have k5:(k:Int)<=(a2:Int):=O;by_cases z:g0=0
    .have e8:(g0.toNat:Int)=0:=by rw [z];rfl
     have b7:=E (show a9=wN (p.take k) from by rw [b0.o,if_pos z]);rw [e8] at j3;clear b0 z c3 e9 e8;go_wp2;go_round
     case rel=>exact⟨k,O,rfl,b7.o⟩
     case measure=>first|(show k<k+1;omega)|(simp;done)
    .have e8:¬(g0.toNat:Int)=0:=λh=>z (c3.o.1 O)
     have b7:=E (show a9=p.take (k+1) from by rw [b0.o,if_neg z]);clear b0 z c3 e9;go_wp2;go_returns;exact⟨_,rfl,by rw [b7.o];exact b6.o.cut O,a1.o⟩
theorem BI{a:Nat}(c:1<=a)(f:a<=2047)(b:Bool):1<=iS a b/\iS a b<=2047:=by
 unfold iS;cases b
 .rw [if_neg H];omega
 .rw [if_pos rfl];omega
theorem Il{c:lM}(f:Ag c){a:Nat}(g:1<=a)(h:a<=2047)(b:Bool):Ag (sP c a b):=by
 obtain⟨i,j,_⟩:=Ik f g h;exact ye f i j b
theorem Qt{b:lM}(c:Ag b)(a:Bool):Ag (It b a):=by
 have:=c.r1;exact ye c O O a
theorem Tu.bit{b:nN}(f:Tu b){a:Nat}(k:a<64)(c:Bool):Tu (rR b a c):=by
 obtain⟨i,j⟩:=f.ch a k;refine⟨by show(b.ch.set _ _).length=64;rw [List.length_set];exact f.len,λg l=>?_,Il f.enc i j c⟩
 show 1<=(b.ch.set a (iS (b.ch.getD a 0) c)).getD g 0/\(b.ch.set a (iS (b.ch.getD a 0) c)).getD g 0<=2047
 have m:=f.len;by_cases h:a=g
 .subst h
  rw [Yp,List.getElem?_set_self O];exact BI i j c
 .rw [Yp,List.getElem?_set_ne h,<-Yp]
  exact f.ch g l
theorem tV(a:nN)(c:Nat)(b:Bool):(rR a c b).enc.o.length<=a.enc.o.length+3:=vO _ _ _
theorem AX(a:nN)(b:Bool):(xT a b).enc.o.length<=a.enc.o.length+3:=vO _ _ _
theorem NB(b c a:Nat)(f:a<b):(YA b c).getD a 0=c:=by simp [YR,f]
theorem QZ:Tu nL:=⟨List.length_replicate,λa c=>by
 have b:nL.ch.getD a 0=1024:=NB 64 1024 a c
 rw [b];omega,QY⟩
def lU(a:List Nat)(c:Nat):Array Z:=((a.map λ(b:Nat)=>A G b)++[Q (K c)]).toArray
structure eS(w:V)(pw pe:Nat)(v:Z)(m:nN):Prop where
 ay:ai w pw (lU m.ch pe) 386
 enc:fu w pe v m.enc.o m.enc.low m.enc.r
 ok:Tu m
 ne:¬FE pe v pw
def FW(c b:Nat)(f:Z)(a:Nat):Prop:=a=c∨FE b f a
structure gm(pw pe:Nat)(v:Z)(w:V)(v':Z)(w':V):Prop where
 aD:af (FW pw pe v) w w'
 own:∀k,FW pw pe v' k->FW pw pe v k∨w.heap.size<=k
theorem gm.refl(g f:Nat)(a:Z)(b:V):gm g f a b a b:=⟨af.refl _ _,λ_ c=>Yg c⟩
theorem gm.trans{i h:Nat}{k l m:Z}{n o p:V}(a:gm i h k n l o)(b:gm i h l o m p):gm i h k n m p:=by
 refine⟨⟨b.aD.os.trans a.aD.os,b.aD.tape.trans a.aD.tape,b.aD.output.trans a.aD.output,Yl a.aD.size b.aD.size,λf g j=>?_⟩,λf g=>?_⟩
 .rw [b.aD.block f (Yv g a.aD.size) (λq=>?_),a.aD.block f g j]
  rcases a.own f q with c|c
  .exact j c
  .omega
 .rcases b.own f g with c|c
  .exact a.own f c
  .exact Yh (Yl a.aD.size c)
theorem gm.ext{f c:Nat}{g h:Z}{i b j:V}(a:gm f c g i h b)(k:X b b j):gm f c g i h j:=a.trans ⟨af.aj k,λ_ a=>Yg a⟩
theorem fH.wide{f:Nat}{g h:Z}{i j:V}(c:fH f g i h j)(m:Nat):gm m f g i h j:=
 ⟨c.aD.mono λ_ _ k=>Yh k,λl a=>by
  rcases a with a|a
  .exact Yg (Yg a)
  .rcases c.own l a with b|b
   .exact Yg (Yh b)
   .exact Yh b⟩
theorem gm.Hv{c b:Nat}{f g:Z}{h i:V}(a:gm c b f h.drew g i):gm c b f h g i:=⟨⟨a.aD.os,a.aD.tape,a.aD.output,a.aD.size,a.aD.block⟩,a.own⟩
theorem gm.set{b c:Nat}{f g:Z}{h i j:V}(l:gm b c f h g i)(a:af (·=b) i j):gm b c f h g j:=l.trans ⟨a.mono λ_ _ k=>Yg k,λ_ a=>Yg a⟩
theorem eS.ext{b j:V}{h g:Nat}{i:Z}{f:nN}(a:eS b h g i f)(c:X b b j):eS j h g i f:=⟨a.ay.ext c,a.enc.ext c,a.ok,a.ne⟩
theorem eS.RQ{h:V}{f c:Nat}{g:Z}{b:nN}(a:eS h f c g b):eS h.drew f c g b:=⟨a.ay,⟨a.enc.ay,a.enc.row⟩,a.ok,a.ne⟩
theorem eS.lt{i:V}{g f:Nat}{h:Z}{j:nN}(c:eS i g f h j):∀a,FW g f h a->a<i.heap.size:=by
 intro a b
 rcases b with rfl|b
 .exact c.ay.lt
 .exact(c.enc.lt a b).2
theorem eS.step{k w':V}{f c:Nat}{j v':Z}{i:nN}{b:lM}(a:eS k f c j i)(l:fu w' c v' b.o b.low b.r)(h:fH c j k v' w')(n:Ag b):eS w' f c v' ⟨i.ch,b⟩:=
 ⟨(h.aD.block f a.ay.lt a.ne).trans a.ay,l,⟨a.ok.len,a.ok.ch,n⟩,λm=>by
  rcases h.own f m with g|g
  .exact a.ne g
  .have:=a.ay.lt;omega⟩
theorem FG(b:List Nat)(f a c:Nat)(g:a<b.length):(lU b f).setIfInBounds a (A G c)=lU (b.set a c) f:=by
 unfold lU;rw [Yw,List.set_append_left _ _ (by simpa using g),List.map_set]
theorem KQ(b:List Nat)(f a:Nat)(c:a<b.length):(lU b f)[a]? =K (A G (b.getD a 0:Int)):=by
 unfold lU;rw [List.getElem?_toArray,List.getElem?_append_left (by simpa using c)];simp [YR,c]
theorem na(a:List Nat)(b:Nat):(lU a b)[a.length]? =K (Q (K b)):=by
 unfold lU;rw [List.getElem?_toArray,List.getElem?_append_right Y];simp
theorem eS.Uu{j k:V}{f n:Nat}{o:Z}{c:nN}(b:eS j f n o c){a:Nat}(r:a<64)(i:Bool)
  (p:∀m l,ai j f m l->ai k f (m.setIfInBounds a (A G (iS (c.ch.getD a 0) i:Int))) l)(q:af (·=f) j k):eS k f n o ⟨c.ch.set a (iS (c.ch.getD a 0) i),c.enc⟩:=by
 obtain⟨w,x⟩:=b.ok.ch a r;have u:=b.ok.len;refine⟨?_,b.enc.aD q (λv t g=>b.ne (by rw [<-show v=f from g];exact t)),?_,b.ne⟩
 .have:=p _ _ b.ay
  rw [FG _ _ _ _ O] at this;exact this
 .refine⟨by show(c.ch.set _ _).length=64;rw [List.length_set];exact u,λh s=>?_,b.ok.enc⟩
  show 1<=(c.ch.set a _).getD h 0/\(c.ch.set a _).getD h 0<=2047
  by_cases g:a=h
  .subst g
   rw [Yp,List.getElem?_set_self O];exact BI w x i
  .rw [Yp,List.getElem?_set_ne g,<-Yp]
   exact b.ok.ch h s
theorem Az(a:Nat)(b:V)(g:a<64):d prog 390 #[A G a] b λc f=>c=e (.bool true)/\b=f:=by
 have h:(0:Int)<=(a:Int):=O;have i:(a:Int)<64:=O;go_enter func390,ntmps390;go_wp2;go_returns;exact⟨by simp<;>omega,rfl⟩
theorem JF(c a b:Int)(f:V):d prog 324 #[A G c,A G a,A G b] f λg h=>g=e (A G (min (max c a) b))/\f=h:=by
 go_enter func324,ntmps324;go_wp2
 all_goals go_returns
 all_goals exact⟨congrArg e (int_eq O),rfl⟩
theorem KN(b f a:Nat)(j:Bool)(c:V)(y:b<c.heap.size)(w:f<64)(v:c.cell? ⟨b,f,I⟩=K (A G a))(x:c.frozen? ⟨b,f,I⟩=false)(m:a<=2047):
  d prog 392 #[Q (K b),A G f,.bool j] c λt n=>t=e (Ye #[])/\(∀i h,ai c b i h->ai n b (i.setIfInBounds f (A G (iS a j:Int))) h)/\af (·=b) c n:=by
 have C:(f:Int)<64:=O;have l:iS a j=if j then a - a / 32 else a+(2048 - a) / 32:=rfl
 have p:Zc G ((a:Int) - (a:Int) / 32)=((a - a / 32:Nat):Int):=by rw [Yo];omega
 have q:Zc G (2048 - (a:Int))=2048 - (a:Int):=by rw [Yo];omega
 have r:Zc G ((a:Int)+(2048 - (a:Int)) / 32)=((a+(2048 - a) / 32:Nat):Int):=by rw [Yo];omega
 have s:Zc G ((2048 - (a:Int)) / 32)=(2048 - (a:Int)) / 32:=by rw [Yo];omega
 have k:=E (λ(g:Nat)=>show(∀i h,ai c b i h->ai (c.setCell ⟨b,f,I⟩ (A G g)).drew b (i.setIfInBounds f (A G g)) h)/\af (·=b) c (c.setCell ⟨b,f,I⟩ (A G g)).drew from
  ⟨λi h u=>u.set f _,⟨rfl,rfl,rfl,by show c.heap.size<=(c.setCell _ _).heap.size;simp,λz _ m=>Yt _ _ _ _ m⟩⟩)
 rw [l];clear l
 cases j with
 |true=>
  rw [if_pos rfl];clear q r s;generalize a - a / 32=g at*;go_enter func392,ntmps392;go_wp2
  go_region
  all_goals go_wp2
  all_goals go_returns
  all_goals exact⟨rfl,k.o g⟩
 |false=>
  rw [if_neg H];clear p;generalize a+(2048 - a) / 32=g at*;go_enter func392,ntmps392;go_wp2
  go_region
  all_goals go_wp2
  all_goals go_returns
  all_goals exact⟨rfl,k.o g⟩
def mG(b a:Nat)(j:Z)(g:Bool)(i:nN)(k:V)(h:Ending)(f:V):Prop:=∃c,h=e (.bool g)/\eS f b a c i/\gm b a j k c f
theorem Mv(g f:Nat)(j:Z)(c:nN)(b:Bool)(h:V)(a:eS h g f j c)(r:c.enc.o.length<=1000000):
  d prog 389 #[Q (K g),.bool b] h λm u=>mG g f j b (xT c b) h m u:=by
 have i:=E a;have x:=a.ay.lt
 have w:h.cell? ⟨g,64,I⟩=K (Q (K f)):=by
  rw [a.ay.cell 64,<-a.ok.len];exact na _ _
 have k:=E (λv s=>JX f j c.enc b v s a.ok.enc r);simp only [qy] at k;clear a;unfold mG;go_enter func389,ntmps389
 go_wp2_with (go_at_call 393;refine(k.o _ i.o.enc).mono ?_;rintro m y ⟨t,rfl,n,p⟩;have q:=E n;have l:=E p;clear n p)
 go_returns;exact⟨t,rfl,i.o.step q.o l.o (Qt i.o.ok.enc b),l.o.wide _⟩
theorem wW(c h:Nat)(s:Z)(b:nN)(a:Nat)(f:Bool)(i:V)(g:eS i c h s b)(q:a<64)(b6:b.enc.o.length<=1000000):
  d prog 387 #[Q (K c),A G a,.bool f] i λn l=>mG c h s f (rR b a f) i n l:=by
 have D:=E g;have b7:=g.ay.lt;have c1:=g.ok.len;obtain⟨w,r⟩:=g.ok.ch a q;have z:=E (show rR b a f=⟨b.ch.set a (iS (b.ch.getD a 0) f),sP b.enc (b.ch.getD a 0) f⟩ from rfl)
 have a8:i.cell? ⟨c,64,I⟩=K (Q (K h)):=by
  rw [g.ay.cell 64,<-g.ok.len];exact na _ _
 have L:i.cell? ⟨c,a,I⟩=K (A G (b.ch.getD a 0:Int)):=by
  rw [g.ay.cell a];exact KQ _ _ _ O
 have a7:=E (show i.drew.cell? ⟨c,64,I⟩=K (Q (K h))/\i.drew.cell? ⟨c,a,I⟩=K (A G (b.ch.getD a 0:Int)) from⟨a8,L⟩);have W:=E (λm=>Az a m q);have a0:=E (λm b9=>JW h s b.enc (b.ch.getD a 0) f m b9 g.ok.enc w r b6);have a1:=E (λm b0 v b1=>KN c a (b.ch.getD a 0) f m b0 q v b1 r);have a2:=E (Il g.ok.enc w r f);have c4:(a:Int)<64:=O;have C:=E (show eS i.drew c h s b from D.o.RQ);have a6:=E (λ(t:Z) (j u:V) (y:lM) (v:eS j c h t ⟨b.ch,y⟩) (b2:∀P J,ai j c P J->ai u c (P.setIfInBounds a (A G (iS (b.ch.getD a 0) f:Int))) J) (b4:af (·=c) j u)=>show eS u c h t ⟨b.ch.set a (iS (b.ch.getD a 0) f),y⟩ from v.Uu q f b2 b4);rw [z.o];have c2:=r;generalize iS (b.ch.getD a 0) f=c3 at*;generalize sP b.enc (b.ch.getD a 0) f=c0 at*;generalize b.ch.getD a 0=x at*;unfold mG;clear g z w;go_enter func387,ntmps387
 go_wp2_with (go_at_call 390;with_reducible refine(W.o _).mono ?_;rintro n l ⟨rfl,rfl⟩)
 go_region_held3 (λl=>l.cell? ⟨c,64,I⟩=K (Q (K h))/\l.cell? ⟨c,a,I⟩=K (A G x))
  (first|with_reducible exact a7.o|with_reducible exact F.o)
  ((go_at_call 391;refine(a0.o _ C.o.enc).mono ?_;rintro n j ⟨t,rfl,R,p⟩;have k:=C.o.step R p a2.o;have a5:=E k;have a3:=E p;have b8:=k.ay.lt;have a9:j.cell? ⟨c,a,I⟩=K (A G x):=(YS (w:=i) (p.aD.block c b7 D.o.ne)).trans L;have F:=E (show j.cell? ⟨c,64,I⟩=K (Q (K h))/\j.cell? ⟨c,a,I⟩=K (A G x) from⟨by rw [k.ay.cell 64,<-k.ok.len];exact na _ _,a9⟩);have b5:=k.ay.free a;clear R p k))
 all_goals
  go_wp2_with (go_at_call 392;refine(a1.o _ b8 F.o.2 b5).mono ?_;rintro n u ⟨rfl,b3,T⟩)
  go_returns;exact⟨t,rfl,a6.o _ _ _ _ a5.o b3 T,((a3.o.wide c).set T).Hv⟩
theorem xE{c:Nat}:∀(n:List Z) (o:Nat) (f:V) (a:Array Z) (b:Nat),ai f c a b->∃g,ai (f.setCells c o n) c g b/\g.size=a.size
 |[],_,_,a,_,h=>⟨a,h,rfl⟩
 |m::l,o,f,a,b,h=>by
  obtain⟨i,j,k⟩:=xE l (o+1) _ _ b (h.set o m);exact⟨i,j,by rw [k,Array.size_setIfInBounds]⟩
theorem tX{b:V}{a c:Nat}{f cs:Array Z}(i:ai b a f c)(r:cs.size=f.size):ai (b.setCells a 0 cs.toList) a cs c:=by
 obtain⟨l,g,q⟩:=xE cs.toList 0 b f c i
 have h:l=cs:=by
  apply Array.ext O;intro k n o
  have j:=World.cell?_setCells_in a cs.toList 0 b (λp m=>by
   rw [Nat.zero_add,i.cell p,Array.getElem?_eq_getElem (by simp at m;omega)];rfl) k (by simpa using o)
  rw [Nat.zero_add,g.cell k,Array.getElem?_eq_getElem n] at j
  simpa using j
 rw [<-h];rw [h] at g⊢;exact g
theorem sO{a b:Nat}{f:V}(c:a<=b):∀(j:List Z) (o:Nat) (g:V),X a f g->X a f (g.setCells b o j)
 |[],_,_,h=>h
 |_::i,o,_,h=>sO c i (o+1) _ (h.setCell c _)
def mb(a:Nat):Array Z:=(YA a (A G 1024)++YA (64 - a) (A G 0)).toArray
theorem MP(a:Nat)(b:a<64):(mb a).setIfInBounds a (A G 1024)=mb (a+1):=by
 unfold mb;rw [Yw,List.set_append_right _ _ Y];simp only [List.length_replicate,Nat.sub_self];rw [(O:64 - a=(64 - (a+1))+1),List.replicate_succ,YJ,List.replicate_succ',List.append_assoc];rfl
theorem JB(a:V):d prog 291 #[] a λy F=>y=e (Yc (mb 64))/\X a a F:=by
 go_enter func291,ntmps291;go_wp2
 go_loopw [3] (λk wr=>∃b:Nat,b<=64/\k=A G b/\ai wr (a.heap.size+1) (mb b) 381/\ai wr a (mb 0) 381/\X a a wr) (λk _=>64 - (Yz k).toNat)
 case atStart=>exact⟨0,Yr _,rfl,by have r:=ai.new (a.alloc (M (mb 0) 381)) (mb 0) 381;rw [(Y:(a.alloc (M (mb 0) 381)).heap.size=a.heap.size+1)] at r;exact r,(ai.new a (mb 0) 381).alloc _,N⟩
 case round=>
  obtain⟨b,T,rfl,f,c,s⟩:=hrel;have h:=E f;have l:=E c;have a1:=f.lt;have a0:=c.lt;by_cases t:b<64
  .have R:=f.free b
   have W:(b:Int)<64:=O
   have L:wr.cell? ⟨a.heap.size+1,b,I⟩=K (A G 0):=by
    rw [f.cell b];unfold mb;rw [List.getElem?_toArray,List.getElem?_append_right Y];simp only [List.length_replicate,Nat.sub_self];rw [List.getElem?_replicate,if_pos O]
   clear f c t;go_wp2;go_roundw
   case rel=>exact⟨b+1,O,S,by rw [<-MP b O];exact h.o.set b _,l.o.ab _ _ (by show a.heap.size≠a.heap.size+1;omega),s.setCell (by show a.heap.size<=a.heap.size+1;omega) _⟩
   case measure=>simp [Yz];omega
  .obtain rfl:b=64:=O
   have u:wr.there a 0 (mb 64).size:=λv z=>by
    have D:(mb 64).size=64:=rfl;rw [Nat.zero_add,c.cell v];refine⟨?_,c.free v⟩;rw [D] at z;have J:(mb 0).size=64:=rfl;rw [Array.getElem?_eq_getElem O];rfl
   have q:=E u;have m:=E (tX c (cs:=mb 64) rfl);have n:=E (sO (Yk a) (mb 64).toList 0 wr s);have j:(mb 64).size=64:=rfl;obtain⟨C,g⟩:∃C,mb 64=C:=⟨_,rfl⟩;have x:=E g;rw [g] at m n q h j;have i:=E (show(prog.info? 381).map (·.size)=K C.size from by rw [j];kernel_rfl);have w:=E (show C.all (·.oneCell')=true from by rw [<-g];kernel_rfl);clear f c t u l j g
   go_wp2_with (first
    |(refine wpList_load_row (by rfl) 381 _ (by rfl) (a.heap.size+1) (by rfl) 381 C (0,0) _ h.o underlying381 rfl i.o ?_)
    |(refine wpList_store_mid (by rfl) 381 _ _ (by rfl) a 0 C (by rfl) (by rfl) q.o i.o w.o ?_))
   refine YD (results_cell_row (P:=prog) (ty:=381) (p:=0) (by rfl) _ _ a 381 C (0,0) _ (by rfl) m.o underlying381 rfl i.o) rfl ?_;exact⟨by rw [x.o],n.o⟩
theorem Ql(a:Nat):(Array.foldl (λ(c:Array Z) b=>c.setIfInBounds b.snd b.fst) Tryz.zeroCells386 (mb 64).zipIdx 0 (mb 64).size).setIfInBounds 64 (Q (K a))=lU nL.ch a:=B
theorem xi(w:V):d prog 283 #[] w λe w'=>∃pw pe,e= .returned (Q (K ⟨pw,0,I⟩))/\eS w' pw pe (U I 0 0) nL/\w.heap.size<=pe/\w.heap.size<=pw/\X w.heap.size w w':=by
 have CB:=E (λwx=>JB wx);have CE:=E (λwx=>vR wx);go_enter func283,ntmps283
 go_wp2_with (first
  |(go_at_call 291;refine(CB.o _).mono ?_;rintro e w1 ⟨rfl,hb1⟩)
  |(go_at_call 292;refine(CE.o _).mono ?_;rintro e w2 ⟨pe,rfl,hE2,hp2,hb2⟩))
 rw [Ql];go_returns;have hB:=ai.new w2 (lU nL.ch pe) 386;have hx:=hb2.size;refine⟨w2.heap.size,pe,rfl,⟨hB,hE2.ext N,QZ,?_⟩,Yl hb1.size hp2,Yl hb1.size hx,?_⟩
 .rintro(h|h)
  .have:=hE2.ay.lt;omega
  .cases h
 .exact(ext hb1 hb2).alloc (Yl hb1.size hx) _
theorem PU(g f:Nat)(i:Z)(c:nN)(b:V)(a:eS b g f i c)(q:c.enc.o.length<=1000000):
  d prog 288 #[Q (K g)] b λh k=>∃j,h=e j/\ah k j (EM c.enc)/\X b b k:=by
 have m:=E a;have v:=a.ay.lt
 have u:b.cell? ⟨g,64,I⟩=K (Q (K f)):=by
  rw [a.ay.cell 64,<-a.ok.len];exact na _ _
 have l:=E (λt r=>Qr f i c.enc t r a.ok.enc q);clear a;go_enter func288,ntmps288
 go_wp2_with (go_at_call 308;refine(l.o _ m.o.enc).mono ?_;rintro h w ⟨s,rfl,n,p⟩)
 go_returns;exact⟨s,rfl,n,p⟩
def PZ(a:Nat):Z:=Yd 366 (Q (K a))
def tm(b:nN)(a:Nat):nN:=rR (rR b 3 (decide (1<a))) (if 1<a then 5 else 4) (decide (a%2=1))
theorem Cd(b:nN)(a:Nat):(tm b a).enc.o.length<=b.enc.o.length+6:=by
 have c:=tV (rR b 3 (decide (1<a))) (if 1<a then 5 else 4) (decide (a%2=1));have f:=tV b 3 (decide (1<a));unfold tm;omega
theorem Oo(c f:Nat)(l:Z)(b:nN)(a:Nat)(m:V)(j:eS m c f l b)(F:a<=3)(J:b.enc.o.length<=900000):
  d prog 325 #[PZ c,A G a] m λh n=>∃z,h=e (A G a)/\eS n c f z (tm b a)/\gm c f l m z n:=by
 have C:=E j;have L:=j.ay.lt;have r:=E (λg=>JF (a:Int) 0 3 g);have y:min (max (a:Int) 0) 3=(a:Int):=O;rw [y] at r;have p:=E (λg k=>wW c f l b 3 (decide (1<a)) g k O O);have q:=E (λi g k=>wW c f i (rR b 3 (decide (1<a))) (if 1<a then 5 else 4) (decide (a%2=1)) g k (by split<;>omega) (by have:=tV b 3 (decide (1<a));omega));have s:=E (show tm b a=rR (rR b 3 (decide (1<a))) (if 1<a then 5 else 4) (decide (a%2=1)) from rfl);simp only [mG] at p q;unfold PZ;rw [s.o];clear y j s;obtain rfl|rfl|rfl|rfl:a=0∨a=1∨a=2∨a=3:=O
 all_goals
  go_enter func325,ntmps325
  go_wp2_with (first
   |(go_at_call 324;refine(r.o _).mono ?_;rintro h n ⟨rfl,rfl⟩)
   |(go_at_call 387;refine(q.o _ _ D.o).mono ?_;rintro h T ⟨i,rfl,x,v⟩)
   |(go_at_call 387;refine(p.o _ C.o).mono ?_;rintro h R ⟨P,rfl,w,u⟩;have D:=E w;have t:=E u;clear w u))
 all_goals go_returns
 all_goals first
  |exact⟨i,rfl,by simpa using x,t.o.trans v⟩
  |exact⟨rfl,i,by simpa using x,t.o.trans v⟩
def sp(a:Int):Bool:=decide (a< -16320)||decide (16320<a)
theorem TJ(a:Int)(b:V):d prog 350 #[A G a] b λc f=>c=e (.bool (sp a))/\b=f:=by
 unfold sp;by_cases g:a< -16320
 .go_enter func350,ntmps350
  go_wp2;go_returns;exact⟨by simp<;>omega,rfl⟩
 .go_enter func350,ntmps350
  go_wp2;go_returns;exact⟨by simp<;>omega,rfl⟩
def Im(a:List Int):Int:=if a.length≠16/\a.length≠64 then 14 else if a.any sp then 3 else 0
theorem uJ(k:Z)(a:List Int)(c:V)(j:aY c k a):
  d prog 341 #[k] c λg p=>g=e (bj (Im a))/\c=p:=by
 have f:=E (fW 350 f350 func350 B B #[] sp k a c j (λr _=>TJ r c));obtain⟨s,cap,rfl⟩:=j.shape;have m:Im a=if a.length≠16/\a.length≠64 then 14 else if a.any sp then 3 else 0:=rfl;rw [m];obtain⟨b,n⟩:∃b,a.length=b:=⟨_,rfl⟩;rw [n] at f⊢;generalize a.any sp=l at*;clear j m n;by_cases h:b=16
 .subst h
  rw [if_neg O];cases l
  all_goals
   go_enter func341,ntmps341
   go_wp2_with (go_at_call 265;refine f.o.mono ?_;rintro g q ⟨rfl,rfl⟩)
   go_returns;exact⟨rfl,rfl⟩
 .by_cases i:b=64
  .subst i
   rw [if_neg O];cases l
   all_goals
    go_enter func341,ntmps341
    go_wp2_with (go_at_call 265;refine f.o.mono ?_;rintro g q ⟨rfl,rfl⟩)
    go_returns;exact⟨rfl,rfl⟩
  .rw [if_pos ⟨h,i⟩]
   have t:((b:Int)==16)=false:=by simp;omega
   have u:((b:Int)==64)=false:=by simp;omega
   have v:((b:Int) !=16)=true:=by simp;omega
   have w:((b:Int) !=64)=true:=by simp;omega
   clear f h i;go_enter func341,ntmps341;go_wp2;go_returns;exact⟨rfl,rfl⟩
theorem TA(a:V):d prog 342 #[A G 8] a λb c=>b=e (A G 39)/\a=c:=by
 go_enter func342,ntmps342;go_wp2;go_returns;exact⟨rfl,rfl⟩
theorem QV(b:Nat)(a:V):Sem.run prog (nilAhead 581 366 (Q (K b)) "Bit") a= .ok (K false) a:=B
theorem Ay(a g:Nat)(j F:Z)(i:nN)(b:V)(n:eS b a g j i)(b3:i.enc.o.length<=900000)(k:aY b F (YA 64 0)):
  d prog 326 #[PZ a,F] b λf q=>∃J L,f=e (Ye #[J,Ya])/\aa q b J (YA 64 0)/\eS q a g L (rR i 39 false)/\gm a g j b L q:=by
 have u:=E n;have a0:=E k;have b6:=n.ay.lt;obtain⟨v,cap,rfl⟩:=k.shape;have a8:(YA 64 (0:Int)).length=64:=List.length_replicate;have l:=E (uJ _ _ b k);rw [show Im (YA 64 0)=0 from by decide+kernel] at l;have T:=E (λc=>Gn 8 c);have s:=E (λc p=>Lv (U v 64 cap) (YA 64 0) c p);rw [show ax (YA 64 (0:Int)) 0 0=true from by decide+kernel] at s;have R:=E (λc=>TA c);have r:=E (λc p=>wW a g j i 39 false c p O O);simp only [mG] at r;rw [a8] at l⊢;unfold PZ;clear n k;go_enter func326,ntmps326
 go_wp2_with (first
  |(go_at_call 341;refine l.o.mono ?_;rintro f b1 ⟨rfl,rfl⟩)
  |(go_at_call 342;refine(R.o _).mono ?_;rintro f b1 ⟨rfl,rfl⟩)
  |(go_at_call 343;refine(T.o _).mono ?_;rintro f c0 ⟨b9,rfl,C,y⟩;have h:=E y;obtain⟨b8,b7,rfl⟩:=C.shape;clear C y)
  |(at_make;refine fS rfl _ _ rfl 64 rfl rfl rfl rfl O ?_;intro P D z b4;have W:=E D;have m:=E z;clear D z))
 have a5:=E ((u.o.ext h.o).ext m.o);have a1:=E ((a0.o.ext h.o).ext m.o);have a3:=E (show eS P.drew a g j i from a5.o.RQ);have b5:=QV a;have a2:=E (show aY P.drew (U v 64 cap) (YA 64 0) from a1.o)
 go_region_held3 (λ_=>True) (trivial) (first
  |(go_at_call 294;refine(s.o _ a2.o).mono ?_;rintro f b2 ⟨rfl,rfl⟩)
  |(go_at_call 387;refine(r.o _ a3.o).mono ?_;rintro f b2 ⟨b0,rfl,x,w⟩;have a6:=E x;have t:=E w;clear x w))
 all_goals go_wp2
 all_goals go_returns
 all_goals exact⟨_,b0,rfl,(W.o.dS t.o.Hv.aD (λa9 a7=>Yv (u.o.lt a9 a7) h.o.size)).mono h.o.size,a6.o,(((gm.refl a g j b).ext h.o).ext m.o).trans t.o.Hv⟩
end
end Go.Proofs.YtajkpgaheechmaaGreatDoor
