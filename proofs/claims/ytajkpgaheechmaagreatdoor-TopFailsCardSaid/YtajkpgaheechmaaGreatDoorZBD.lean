/- TlB TlC TlD TlE TlF TlG TlH TlJ -/
import Derived.Test.YtajkpgaheechmaaGreatDoorZBC
set_option maxRecDepth 100000
set_option maxHeartbeats 16000000
set_option linter.unusedSimpArgs false
set_option linter.unusedVariables false
set_option linter.unusedSectionVars false
namespace Go.Proofs.YtajkpgaheechmaaGreatDoor
open _root_.Go.Proofs.Tryz
open Go.Value renaming int->A,slice->U,pointer->Q,nilIface->Ya,agg->Yc,iface->Yd,tuple->Ye
open Go.IntKind renaming i64->G,wrap->Zc
open Option renaming none->I,some->K
open Go.Obj renaming cells->M
open Go.Ending renaming returned->e
open Go renaming World->V,Value->Z,Calls->d,Addr->Yi
open Go.RowKit renaming Below->X,intOf->Yz
open Or renaming inl->Yg,inr->Yh
open Go.World renaming block_lt_of_cell?->Yj
open Nat renaming le_refl->Yk,le_trans->Yl,zero_le->Yr
open Go.RowKit.Below renaming refl->Yn
open List renaming length_append->Yq
open Go.IntWalk renaming i64_in->Yx
open And renaming intro->YI
section
open Go.RowKit Go.Extern.Stop Go.Stop Go.Extern
def nC(a:DS)(b:Int):Int:=if a.down then 10 else if b<0∨16777216 - a.room<b then 3 else 0
def ib(a:DS)(b:Int):DS:=if nC a b=0 then {a with room:=a.room+b} else a
theorem vl{a:DS}{c:Int}(b:nC a c=0):a.down=false/\0<=c/\c<=16777216 - a.room:=by
 unfold nC at b
 cases hd:a.down with
 |true=>rw [hd] at b;simp at b
 |false=>
  rw [hd] at b;by_cases f:c<0∨16777216 - a.room<c
  .simp [f] at b
  .exact⟨rfl,O,O⟩
theorem Inv.ib{b:DS}{c:Nat}(a:Inv b c)(f:Int):Inv (ib b f) (c+3):=by
 unfold Go.Proofs.YtajkpgaheechmaaGreatDoor.ib;split
 .rename_i g
  obtain⟨-,h,i⟩:=vl g;have:=a.room;exact Inv.mono (T:=c) ⟨by show 0<=b.room+f/\b.room+f<=16777216;omega,a.done,a.c_,a.gI,a.lJ,a.me,a.runs,a.ends,a.data⟩ O
 .exact a.mono O
theorem JS(k:Nat)(i:bY)(a:DS)(b:Int)(u:Nat)(l:V)(f:DP l k i a)(n:Inv a u):
  d prog 35 #[Q (K k),A G b] l (iv k i (nC a b) (ib a b) l):=by
 have q:=E f;have r:l.cell? ⟨k,6,I⟩=K (.bool a.down):=f.cell 6;have w:l.cell? k=K (A G a.room):=f.cell 0;have x:=f.free 0;obtain⟨C,D⟩:=n.room
 cases hd:a.down with
 |true=>
  have c:nC a b=10:=by unfold nC;rw [hd];rfl
  have j:ib a b=a:=by unfold ib;rw [if_neg (by rw [c];decide)]
  rw [c,j];rw [hd] at r;clear f n hd c j;go_enter func35,ntmps35;go_wp2;go_returns;exact⟨by rw [aT (k:=10) H];rfl,i,q.o,λ_ g=>Yg g,af.refl _ _⟩
 |false=>
  rw [hd] at r;by_cases m:b<0∨16777216 - a.room<b
  .have c:nC a b=3:=by unfold nC;rw [hd,if_neg Y,if_pos m]
   have j:ib a b=a:=by unfold ib;rw [if_neg (by rw [c];decide)]
   rw [c,j];generalize a.room=h at*;have v:Zc G (16777216 - h)=16777216 - h:=Yx _ O;clear f n hd c j;by_cases y:b<0
   .clear m
    go_enter func35,ntmps35;go_wp2;go_returns;exact⟨by rw [aT (k:=3) H];rfl,i,q.o,λ_ g=>Yg g,af.refl _ _⟩
   .have z:b>16777216 - h:=O
    clear m;go_enter func35,ntmps35;go_wp2;go_returns;exact⟨by rw [aT (k:=3) H];rfl,i,q.o,λ_ g=>Yg g,af.refl _ _⟩
  .have c:nC a b=0:=by unfold nC;rw [hd,if_neg Y,if_neg m]
   have j:ib a b={a with room:=a.room+b}:=by unfold ib;rw [if_pos c]
   rw [c,j]
   have s:e_ i {a with room:=a.room+b}=(e_ i a).setIfInBounds 0 (A G (a.room+b)):=by simp [e_]
   have t:=E (f.scalars (D':={a with room:=a.room+b}) (w':=l.setCell k (A G (a.room+b))) (by rw [s];exact f.ay.set 0 _) (λp g=>bL _ _ _ _ p g) rfl rfl rfl rfl)
   generalize a.room=h at*;have v:Zc G (16777216 - h)=16777216 - h:=Yx _ O;have L:Zc G (h+b)=h+b:=Yx _ O;have F:¬b<0:=O;have J:¬b>16777216 - h:=O;clear f n hd c j m s;go_enter func35,ntmps35;go_wp2;go_returns;exact⟨by rw [ar];rfl,i,t.o,λ_ g=>Yg g,af.self (bD _ _ _ _)⟩
theorem aC.Ug{j:V}{c:Nat}{g:bY}{a:DS}{f:V}(h:aC j c g a f)(b:Int){i:Nat}(n:Inv a i):
  d prog 35 #[Q (K c),A G b] f λk l=>k=e (bj (nC a b))/\bM j c g (ib a b) f l:=
 (JS c g a b i f h.dp n).mono λk l m=>h.Tc m
theorem Good.ib{c:Bs}{b:DS}(a:Good c b)(f:Int):Good c (ib b f):=by
 unfold Go.Proofs.YtajkpgaheechmaaGreatDoor.ib;split
 .rename_i g
  obtain⟨-,h,i⟩:=vl g;exact⟨a.names,a.safe,a.steps,a.files,by have:=a.room;show 4194304<=b.room+f;omega⟩
 .exact a
theorem cz.ib{f:Bs}{c:DS}{g:Nat}(a:cz f c g)(b:Int):cz f (ib c b) (g+3):=
 ⟨a.mS.ib b,a.inv.ib b,by unfold Go.Proofs.YtajkpgaheechmaaGreatDoor.ib;split<;>exact a.uniq⟩
end
section
open Go.RowKit
section
variable {W:V} {p q jp jb:Nat} {cs:Array Z} {L L1 L2:bY} {D D1:DS} {J J1:bJ} {w w0 w1 w2:V}
theorem cx.on{g:Z}{c:Int}{f:Nat}(h:aC W p L D w)(k:ai w q cs 114)(o:ON p q L w L1 w1)(j:cx w f g c):cx w1 f g c:=
 j.sF λi _ b=>o.aD.block i b.lt (λa=>by
  rcases a with a|rfl
  .exact dr h.dp b H H H H a
  .exact gq b k H rfl)
theorem bN.on(c:bN W)(a:aC W p L D w)(g:W.heap.size<=q)(o:ON p q L w L1 w1):bN w1:=
 (c.ext a.below).below (o.aD.below (B:=W.heap.size) (λf b=>by
  rcases b with b|rfl
  .exact a.own f b
  .exact g) a.size) c.lt
theorem ai.UF{a:cF}{c g f:Z}{b:Bool}(h:ai w q (bZ p a (A G 0) (A G 0) (U I 0 0) (U I 0 0) (U I 0 0) c g f b) 114):ai (((((w.setCell ⟨q,9,I⟩ (A G 0)).setCell ⟨q,10,I⟩ (A G 0)).setCell ⟨q,11,I⟩ (U I 0 0)).setCell ⟨q,12,I⟩ (U I 0 0)).setCell ⟨q,13,I⟩ (U I 0 0)) q (bZ p a (A G 0) (A G 0) (U I 0 0) (U I 0 0) (U I 0 0) c g f b) 114:=
 ((((h.set 9 (A G 0)).set 10 (A G 0)).set 11 (U I 0 0)).set 12 (U I 0 0)).set 13 (U I 0 0)
def Ad(W:V)(p g:Nat)(L:bY)(i:cF)(R:DS×bJ×Nat×Int)(w:V)(f:Ending)(c:V):Prop:=
 ∃a,aC W p a R.1 c/\af (L.has p) w c/\(∀b,a.has p b->L.has p b∨w.heap.size<=b)/\
 ((R.2.2.2=0/\∃q jp jb j,f=e (Ye #[Q (K ⟨q,0,I⟩),Ya])/\FS W p q jp jb (bZ p i (A G 0) (A G 0) (U I 0 0) (U I 0 0) (U I 0 0) (Q (K ⟨jp,0,I⟩)) (U (K ⟨j,0,I⟩) g g) (U I 0 0) false) a R.1 R.2.1 c)∨
  (R.2.2.2≠0/\∃h,f=e (Ye #[Q I,Yd 142 (Q (K ⟨h,0,I⟩))])))
theorem Kk(b6 c j:Nat)(g:cF)(F:Z)(i:Bs)(g6:aC W p L D w)(i5:cA p L w F i)(a5:iB g=true)(c5:i.length<=1000000)(i4:jq i= .error (j:Int))(C:1<=j)(h8:j<=15)(m6:1<=c)(c4:c<=64)(i0:D.down=false)(h3:Inv D b6)(h5:b6+3*D.names.length+60<=100000)(c3:bN W)(i3:(cy (bk (bm (aI D) false D).1).1 aw).length<=90000):
  d prog 76 #[Q (K p),g.val,F,A G c] w (Ad W p c L g (bz (cl g i) 0 j D) w):=by
 have e8:=E (λf=>by have:=fV g f;rw [a5,if_pos rfl,ar] at this;exact this);have e7:=E (λf c7=>uR p L D f c7);rw [i0] at e7;have a7:=E (λf (c7:ah f F i)=>Dd g F i (j:Int) f a5 c7 c5 i4);unfold Sa at a7;have e9:=E (λ(q c8:Nat) (T h0 i6 j0:Z) (f:V) (a2:aC W p L D f) (c0:ai f q (bZ p g (A G 0) (A G 0) (U I 0 0) (U I 0 0) h0 i6 j0 (U I 0 0) false) 114) (h7:W.heap.size<=q) (h6:cA p L f F i) (l2:cx f 2 (Yd c8 T) (j:Int))=>OE b6 0 0 j c8 g (A G 0) (A G 0) (U I 0 0) h0 i6 j0 (U I 0 0) T I false F i a2 c0 h7 a5 h6.bytes (λg2 j2 c4=>(h6.on c0 c4).bytes) c5 H h3 h5 (c3.ext a2.below) (λg2 j2 o=>c3.on a2 h7 o) (λg2 j2 o=>l2.on a2 c0 o) C h8 i3);obtain⟨R,h4⟩:∃R,bz (cl g i) 0 j D=R:=⟨_,rfl⟩;rw [h4] at e9⊢;obtain⟨k,l,m,n,r,s,t,u⟩:=g;have h:cF.val ⟨k,l,m,n,r,s,t,u⟩=Yc #[A G k,A G l,A G m,A G n,A G r,A G s,A G t,A G u]:=rfl;rw [h] at e8 a7⊢;have j9:=E i5;have b4:=E g6;have j3:=E (ai.new w #[A G k,A G l,A G m,A G n,A G r,A G s,A G t,A G u] 23);have j7:=E (N:X w w (w.alloc (M #[A G k,A G l,A G m,A G n,A G r,A G s,A G t,A G u] 23)));have m4:¬(c:Int)<1:=O;have m5:¬(c:Int)>64:=O
 have l4:=λw=>yx c c4 w
 clear g6 i5 i0 h3 h5 i3 h4 a5 c5 i4 C h8 c3 h;go_enter func76,ntmps76
 go_wp2_with (first
  |(go_at_call 63;refine(e8.o _).mono ?_;rintro h w1 ⟨rfl,C⟩;have a0:=E (ext j7.o C);have b0:=E (j3.o.ext C);obtain⟨c9,e0,e1,e2,e3,e4,e5,e6⟩:=b0.o.eight;have i7:=b0.o.lt;clear C)
  |(go_at_call 119;refine(e7.o _ (b4.o.ext a0.o).dp).mono ?_;rintro h w2 ⟨rfl,rfl⟩))
 go_region
 obtain⟨b7,z⟩:∃b8,b8=((w1.alloc (M (sM c) 117)).alloc (M #[Q (K p),A G k,A G l,A G m,A G n,A G r,A G s,A G t,A G u,A G 0,A G 0,U I 0 0,U I 0 0,U I 0 0,Q I,U (K w1) c c,U I 0 0,.bool false] 114)).drew:=⟨_,rfl⟩;have m1:=E z;have a8:=E (show X w w b7 from by rw [z];exact ext a0.o (N:X w1 w1 _));have g0:=E (show ai b7 w #[A G k,A G l,A G m,A G n,A G r,A G s,A G t,A G u] 23 from by rw [z];exact b0.o.ext (N:X w1 w1 _));have b3:=E (show ai b7 (w1.heap.size+1) (bZ p ⟨k,l,m,n,r,s,t,u⟩ (A G 0) (A G 0) (U I 0 0) (U I 0 0) (U I 0 0) (Q I) (U (K w1) c c) (U I 0 0) false) 114 from by rw [z];exact(h_ _ _ _ _ Y).bw);rw [<-z];clear z c9 e0 e1 e2 e3 e4 e5 e6 i7;have g5:=E (show W.heap.size<=w1.heap.size from Yl b4.o.size a0.o.size);obtain⟨a,c6⟩:∃T,w1.heap.size=T:=⟨_,rfl⟩;rw [c6] at b3 g5⊢;have j8:=E (show w.heap.size<=a from c6▸a0.o.size);clear c6 l4;obtain⟨c9,e0,e1,e2,e3,e4,e5,e6⟩:=g0.o.eight;have i7:=g0.o.lt;have k3:=E (b4.o.ext a8.o);have g8:=E (j9.o.ext a8.o);have m9:=b3.o.lt
 go_wp2_with (first
  |(go_at_call 89;refine(a7.o _ g8.o.bytes).mono ?_;rintro h x ⟨c8,T,rfl,i1,c1⟩;have k0:=E i1;have b2:=E c1;have b:=E (b3.o.ext c1);have m0:x.cell? ⟨a+1,9,I⟩=K (A G 0):=b.o.cell 9;have l6:x.cell? ⟨a+1,10,I⟩=K (A G 0):=b.o.cell 10;have l7:x.cell? ⟨a+1,11,I⟩=K (U I 0 0):=b.o.cell 11;have l8:x.cell? ⟨a+1,12,I⟩=K (U I 0 0):=b.o.cell 12;have l9:x.cell? ⟨a+1,13,I⟩=K (U I 0 0):=b.o.cell 13;have l1:=b.o.free 9;have k7:=b.o.free 10;have k8:=b.o.free 11;have k9:=b.o.free 12;have l0:=b.o.free 13;have n0:=b.o.lt;clear i1 c1))
 obtain⟨a1,a3⟩:∃b8,b8=(((((x.setCell ⟨a+1,9,I⟩ (A G 0)).setCell ⟨a+1,10,I⟩ (A G 0)).setCell ⟨a+1,11,I⟩ (U I 0 0)).setCell ⟨a+1,12,I⟩ (U I 0 0)).setCell ⟨a+1,13,I⟩ (U I 0 0)):=⟨_,rfl⟩
 have P:af (·=a+1) x a1:=by rw [a3];exact xZ x (a+1) _ _ _ _ _
 have i2:ai a1 (a+1) (bZ p ⟨k,l,m,n,r,s,t,u⟩ (A G 0) (A G 0) (U I 0 0) (U I 0 0) (U I 0 0) (Q I) (U (K a) c c) (U I 0 0) false) 114:=by rw [a3];exact b.o.UF
 have m8:=g5.o;have m7:=j8.o;have b5:=k3.o.ext b2.o;have k4:=E (b5.mh b.o O P);have k1:=E (k0.o.on b5 b.o (L1:=L) (ON.S' P));have k5:=E ((g8.o.ext b2.o).RU b.o P);have k2:=E i2;have g4:=E (show af (L.has p) w a1 from(af.aj (ext a8.o b2.o)).js P (λv h=>Yh (by have m3:v=a+1:=h;omega)));rw [<-a3];clear a3 P i2 b5 m0 l6 l7 l8 l9 l1 k7 k8 k9 l0 c9 e0 e1 e2 e3 e4 e5 e6;refine(e9.o _ _ _ _ _ _ a1 k4.o k2.o O k5.o k1.o).mono ?_;rintro h j1 ⟨rfl,b1,i9,a6,h1⟩;have g7:=E i9;have m2:=E a6;have j5:=E h1
 have g1:=E (show af (L.has p) w j1 from g4.o.js a6.aD (λv J=>by
  rcases J with J|rfl
  .exact Yg J
  .exact Yh O))
 have g9:=E (show∀v,b1.has p v->L.has p v∨w.heap.size<=v from λv J=>by
  rcases a6.new v J with b9|b9
  .exact Yg b9
  .exact Yh (Yl g4.o.size b9))
 clear i9 a6 h1;unfold Ad;by_cases y:R.2.2.2=0
 .rw [y,ar]
  obtain⟨jp,jb,h2,l5,c2⟩:=j5.o y;have j6:=E h2;have a9:=E y;clear h2 l5 c2 y;go_wp2;go_returns;exact⟨b1,g7.o,g1.o,g9.o,Yg ⟨a9.o,_,jp,jb,a,rfl,j6.o⟩⟩
 .rw [aT y]
  have j4:=E (jm #[102,97,114,109] (R.2.2.1:Int) 49 (A G R.2.2.2) j1);have a9:=E y;clear y
  go_wp2_with (go_at_call 45;refine j4.o.mono ?_;rintro h n1 ⟨k6,rfl,c2,l3,h9⟩;have g3:=E h9;clear c2 l3 h9)
  go_returns;exact⟨b1,g7.o.ext g3.o,g1.o.trans (af.aj g3.o),g9.o,Yh ⟨a9.o,k6,rfl⟩⟩
theorem EY(b:Nat)(c:cF)(R:Z)(q:DP w p L D)(x:iB c=true)(a2:1<=b)(a1:b<=64)(y:D.down=true):
  d prog 76 #[Q (K p),c.val,R,A G b] w λa T=>a=e (Ye #[Q I,bj 10])/\X w w T:=by
 have t:=E (λn=>by have:=fV c n;rw [x,if_pos rfl,ar] at this;exact this);have s:=E (λn (J:X w w n)=>uR p L D n (q.stays λz P=>J.block z (q.lt P)));rw [y] at s;rw [aT (k:=10) H];obtain⟨f,g,h,i,j,k,l,m⟩:=c;have a:cF.val ⟨f,g,h,i,j,k,l,m⟩=Yc #[A G f,A G g,A G h,A G i,A G j,A G k,A G l,A G m]:=rfl;rw [a] at t⊢;have C:=E (ai.new w #[A G f,A G g,A G h,A G i,A G j,A G k,A G l,A G m] 23);have F:=E (N:X w w (w.alloc (M #[A G f,A G g,A G h,A G i,A G j,A G k,A G l,A G m] 23)));have W:¬(b:Int)<1:=O;have a0:¬(b:Int)>64:=O;clear q y x a;go_enter func76,ntmps76
 go_wp2_with (first
  |(go_at_call 63;refine(t.o _).mono ?_;rintro a w1 ⟨rfl,r⟩;have u:=E (ext F.o r);have v:=E (C.o.ext r);obtain⟨a5,a6,a7,a8,a9,b0,b1,b2⟩:=v.o.eight;have a3:=v.o.lt;clear r)
  |(go_at_call 119;refine(s.o _ u.o).mono ?_;rintro a w2 ⟨rfl,rfl⟩))
 go_returns;exact⟨rfl,u.o⟩
end
def ic(a:cF)(b:Bs)(code:Nat):Bs:=dM aF (cl a b)++eG aF code
theorem ya(a:cF)(b:Bs)(code:Nat):(ic a b code).length=22:=by unfold ic;rw [Yq,se,sg]
section
variable {c:cF} {src:Bs} {code T:Nat} {D:DS}
theorem Gy{a:Bs}(b:cz a D T)(c:a.length<=1000):(cy D aw).length<=1000:=by
 unfold cy;split
 .exact Yl (b.cont aw).length_le c
 .simp
theorem Lb(a:cz (ic c src code) D T):(cy (bk (bm (aI D) false D).1).1 aw).length<=90000:=by
 have b:=Gy (ka (jj (aI D) false a)) (by rw [ya];omega);omega
theorem yc{b:Bs}(a:cz b D T):D.names.length<=2:=py a.sC a.mS.names
theorem K'(a:cz (ic c src code) D T)(k:1<=code/\code<=15):
  cz (ic c src code) (bz (cl c src) 0 code D).1 (T+45)/\((bz (cl c src) 0 code D).2.2.2=0->(bz (cl c src) 0 code D).2.1.state=2/\(bz (cl c src) 0 code D).2.1.code=code)/\(Calm D->(bz (cl c src) 0 code D).2.2.2=0):=by
 obtain⟨g,h,i⟩:=KZ (key:=cl c src) (iZ _) k a;have b:=(La a).1;have l:=yc a;rw [dk] at b;refine⟨by rw [g];exact b.mono O,λf=>?_,λj=>?_⟩
 .rw [(i f).1];exact⟨rfl,rfl⟩
 .rw [h];exact Q' j a (by have:=ya c src code;unfold ic at this;omega)
end
section
variable {W:V} {p q s jp jb wk code T:Nat} {cs:Array Z} {sv:Z} {c:cF} {src:Bs} {f:Option Yi} {L L1 L2:bY} {D D1:DS} {J J1:bJ} {w w0 w1 w2:V}
theorem FS.sF{F:Nat->Prop}(a:FS W p q jp jb cs L D J w)(c:af F w w1)(g:∀b,L.has p b->¬F b)(k:¬F q)(j:¬F jp)(i:¬F jb)(h:∀b,F b->W.heap.size<=b):FS W p q jp jb cs L D J w1:=
 ⟨⟨a.aB.dp.stays λb f=>c.block b (a.aB.dp.lt f) (g b f),a.aB.own,a.aB.below.trans (c.below h a.aB.size)⟩,a.ay.bS (c.block q a.ay.lt k),a.jD.aD c j i,a.QH,a.QI,a.QG,a.qW,a.c0,a.qI⟩
theorem FS.TL(a:FS W p q jp jb cs L D J w)(h:aC W p L1 D1 w1)(f:af (L.has p) w w1)(c:∀b,L1.has p b->L.has p b∨w.heap.size<=b):FS W p q jp jb cs L1 D1 J w1:=
 ⟨h,a.ay.bS (f.block q a.ay.lt a.qn),a.jD.aD f a.Vo a.QH,λi=>by
  rcases c jb i with g|g
  .exact a.QH g
  .have:=a.jD.map.lt;omega,a.QI,a.QG,a.qW,a.c0,a.qI⟩
def FK(W:V)(p code:Nat)(L:bY)(D:DS)(f:Option Yi)(w:V):Prop:=
 f=I∨∃q jp jb b a c cs J,f=K ⟨q,0,I⟩/\FS W p q jp jb cs L D J w/\J.state=2/\J.code=code/\cs[15]? =K (U b a c)/\a<=64/\cs[16]? =K (U I 0 0)/\cs[17]? =K (.bool false)
structure ST(W:V)(p s:Nat)(c:cF)(sv:Z)(wk:Nat)(src:Bs)(code:Nat)(L:bY)(D:DS)(f:Option Yi)(w:V):Prop where
 aB:aC W p L D w
 ay:ai w s (eu c sv (wk:Int) p f) 67
 data:cA p L w sv src
 sW:W.heap.size<=s
 Kc:FK W p code L D f w
structure SK(p s:Nat)(L:bY)(w:V)(L':bY)(w':V):Prop where
 aD:af (λk=>L.has p k∨k=s) w w'
 new:∀k,L'.has p k->L.has p k∨w.heap.size<=k
theorem SK.aj(p s:Nat)(L:bY)(b:X w w w1):SK p s L w L w1:=⟨af.aj b,λ_ a=>Yg a⟩
theorem SK.trans(c:SK p s L w L1 w1)(g:SK p s L1 w1 L2 w2):SK p s L w L2 w2:=
 ⟨c.aD.js g.aD λf b=>by
  rcases b with b|b
  .rcases c.new f b with a|a
   .exact Yg (Yg a)
   .exact Yh a
  .exact Yg (Yh b),λf b=>by
  rcases g.new f b with a|a
  .exact c.new f a
  .exact Yh (Yl c.aD.size a)⟩
theorem SK.rQ(a:SK p s L w1 L1 w2)(b:X w w w1):SK p s L w L1 w2:=
 (SK.aj p s L b).trans a
theorem FK.ext(a:FK W p code L D f w)(h:X w w w1):FK W p code L D f w1:=by
 rcases a with a|⟨q,jp,jb,i,k,j,cs,J,b,c,g⟩
 .exact Yg a
 .exact Yh ⟨q,jp,jb,i,k,j,cs,J,b,c.ext h,g⟩
theorem ST.ext(a:ST W p s c sv wk src code L D f w)(b:X w w w1):ST W p s c sv wk src code L D f w1:=
 ⟨a.aB.ext b,a.ay.ext b,a.data.ext b,a.sW,a.Kc.ext b⟩
theorem ST.sn(a:ST W p s c sv wk src code L D f w):¬L.has p s:=dr a.aB.dp a.ay H H H H
theorem ST.err{j:Z}{h:Int}{i:Nat}(g:ST W p s c sv wk src code L D f w)(o:SK p s L w L1 w1)(l:cx w i j h):cx w1 i j h:=
 l.sF λk _ b=>o.aD.block k b.lt (λa=>by
  rcases a with a|rfl
  .exact dr g.aB.dp b H H H H a
  .exact gq b g.ay H rfl)
theorem cA.lR{i:Z}{g:Bs}(b:cA p L w i g)(f:af (L.has p) w w1)(k:∀f,L1.has p f->L.has p f∨w.heap.size<=f):cA p L1 w1 i g:=
 ⟨an b.1 λa c=>f.block a (b.1.lt a c).2 (b.2 a c),λa c j=>by
  rcases k a j with h|h
  .exact b.2 a c h
  .have:=(b.1.lt a c).2;omega⟩
theorem ST.lR(a:ST W p s c sv wk src code L D f w)(m:bM W p L D1 w w1):∃L1,ST W p s c sv wk src code L1 D1 f w1/\SK p s L w L1 w1:=by
 obtain⟨L1,i,b,h⟩:=m;refine⟨L1,⟨i,a.ay.bS (b.block s a.ay.lt a.sn),a.data.lR b h,a.sW,?_⟩,⟨b.mono λt _ l=>Yg l,h⟩⟩
 rcases a.Kc with g|⟨q,jp,jb,n,r,o,cs,J,g,j,k⟩
 .exact Yg g
 .exact Yh ⟨q,jp,jb,n,r,o,cs,J,g,j.TL i b h,k⟩
theorem Mb(f a:Option Yi):(eu c sv (wk:Int) p f).setIfInBounds 11 (Q a)=eu c sv (wk:Int) p a:=rfl
theorem ST.sq{q:Nat}(a:ST W p s c sv wk src code L D f w)(b:ai w q cs 114):q≠s:=gq b a.ay H
theorem ST.put(b:ST W p s c sv wk src code L D f w)(i:Option Yi)(r:FK W p code L D i w):ST W p s c sv wk src code L D i (w.setCell ⟨s,11,I⟩ (Q i))/\SK p s L w L (w.setCell ⟨s,11,I⟩ (Q i)):=by
 have j:af (·=s) w (w.setCell ⟨s,11,I⟩ (Q i)):=aL (af.refl _ _) rfl;refine⟨⟨?_,?_,?_,b.sW,?_⟩,⟨j.mono λ_ _ a=>Yh a,λ_ a=>Yg a⟩⟩
 .exact⟨b.aB.dp.stays λg h=>j.block g (b.aB.dp.lt h) (λa=>b.sn (a▸h)),b.aB.own,b.aB.below.trans (j.below (λg a=>by have l:g=s:=a;rw [l];exact b.sW) b.aB.size)⟩
 .have m:=b.ay.set 11 (Q i)
  rw [Mb] at m;exact m
 .exact⟨an b.data.1 λg h=>j.block g (b.data.1.lt g h).2 (λa=>cW b.ay b.data.1 H (by rw [h,a])),b.data.2⟩
 .rcases r with h|⟨q,jp,jb,t,v,u,cs,J,h,k,n⟩
  .exact Yg h
  .refine Yh ⟨q,jp,jb,t,v,u,cs,J,h,k.sF j (λg o a=>b.sn ((show g=s from a)▸o)) (λa=>b.sq k.ay a) (λa=>gq k.jD.ay b.ay H a) (λa=>oa b.ay k.jD.map ((show jb=s from a).symm)) (λg a=>by have l:g=s:=a;rw [l];exact b.sW),n⟩
end
structure MC(W:V)(c:cF)(src:Bs)(code wk:Nat):Prop where
 may:iB c=true
 small:src.length<=1000000
 bad:jq src= .error (code:Int)
 lo:1<=code
 hi:code<=15
 Wx:1<=wk
 Wb:wk<=64
 types:bN W
section
variable {W:V} {p q s jp jb wk code T:Nat} {cs:Array Z} {sv:Z} {c:cF} {src:Bs} {f:Option Yi} {L L1 L2:bY} {D D1:DS} {J J1:bJ} {w w0 w1 w2:V}
theorem Cy(a:Int)(b h:Nat)(g:Option Yi)(F:FS W p q jp jb cs L D J w)(f:cs[15]? =K (U g b h))(i:cs[17]? =K (.bool false))(l:J.state≠1)(t:b<=64):
  d prog 31 #[Q (K q),A G a] w λc m=>∃n,c=e n/\w=m:=by
 by_cases k:0<=a/\a<b
 .have c:a=(a.toNat:Int):=O
  rw [c]
  exact(pf Ya a.toNat b h g F f i O l).mono λc m j=>⟨_,j.1,j.2⟩
 .have o:w.cell? ⟨q,15,I⟩=K (U g b h):=(F.ay.cell 15).trans f
  have u:=F.ay.lt;clear F f i l;by_cases r:a<0
  .clear k
   go_enter func31,ntmps31;go_wp2;go_returns
   first|exact⟨_,rfl,rfl⟩|exact⟨⟨_,rfl⟩,rfl⟩|rfl
  .have s:a>=(b:Int):=O
   clear k;go_enter func31,ntmps31;go_wp2;go_returns
   first|exact⟨_,rfl,rfl⟩|exact⟨⟨_,rfl⟩,rfl⟩|rfl
def sN(W:V)(p s:Nat)(c:cF)(sv:Z)(wk:Nat)(src:Bs)(code T:Nat)(P:Z->DS->Option Yi->Prop)(L:bY)(w:V)(i:Ending)(g:V):Prop:=
 ∃h b a f,i=e h/\ST W p s c sv wk src code b a f g/\cz (ic c src code) a (T+50)/\SK p s L w b g/\P h a f
theorem sN.same{P:Z->DS->Option Yi->Prop}{a:Z}(g:ST W p s c sv wk src code L D f w)(i:cz (ic c src code) D T)(b:X w w w1)(h:P a D f):sN W p s c sv wk src code T P L w (e a) w1:=
 ⟨a,L,D,f,rfl,g.ext b,i.mono O,SK.aj _ _ _ b,h⟩
def nT(b:Int)(f:Option Yi)(D:DS)(c:Z)(g:DS)(a:Option Yi):Prop:=b=0->f=I->Calm D->c=Ya/\a≠I
theorem IY{q:Nat}{u:Int}(b:ST W p s c sv wk src code L D I w)(o:cz (ic c src code) D1 (T+45))(g:X w w w0)(i:aC W p L1 D1 w1)(f:af (L.has p) w0 w1)(h:∀a,L1.has p a->L.has p a∨w0.heap.size<=a)(m:FK W p code L1 D1 (K q) w1):
  sN W p s c sv wk src code T (nT u I D) L w (e Ya) (w1.setCell ⟨s,11,I⟩ (Q (K q))):=by
 obtain⟨L2,j,v⟩:=(b.ext g).lR ⟨L1,i,f,h⟩;have k:ST W p s c sv wk src code L1 D1 I w1:=⟨i,j.ay,(b.ext g).data.lR f h,b.sW,Yg rfl⟩;obtain⟨l,t⟩:=k.put (K q) m;have r:SK p s L w0 L1 w1:=⟨f.mono λa _ n=>Yg n,h⟩;exact⟨_,L1,D1,_,rfl,l,o.mono O,(r.rQ g).trans t,λ_ _ _=>⟨rfl,Y⟩⟩
theorem PA{t:Z}{r:Int}(b:ST W p s c sv wk src code L D I w)(o:cz (ic c src code) D1 (T+45))(g:X w w w0)(i:aC W p L1 D1 w1)(f:af (L.has p) w0 w1)(h:∀a,L1.has p a->L.has p a∨w0.heap.size<=a)(m:¬Calm D):
  sN W p s c sv wk src code T (nT r I D) L w (e t) w1:=by
 obtain⟨L2,j,u⟩:=(b.ext g).lR ⟨L1,i,f,h⟩;have k:ST W p s c sv wk src code L1 D1 I w1:=⟨i,j.ay,(b.ext g).data.lR f h,b.sW,Yg rfl⟩;have q:SK p s L w0 L1 w1:=⟨f.mono λa _ n=>Yg n,h⟩;exact⟨_,L1,D1,_,rfl,k,o.mono O,q.rQ g,λ_ _ l=>absurd l m⟩
theorem Mj(b F:Nat)(j:MC W c src code wk)(m:ST W p s c sv wk src code L D I w)(a6:cz (ic c src code) D T)(g2:T+200<=100000)(h:(if b=0 then wk else b)=F)(i:b<=64):
  d prog 33 #[Q (K s),A G b] w (sN W p s c sv wk src code T (nT b I D) L w):=by
 have g1:1<=F/\F<=64:=by have:=j.Wx;have:=j.Wb;split at h<;>omega
 obtain⟨c7,c8⟩:=g1;have a3:=E m;have e8:=E j;have e2:=E a6;have v:=E (show X w w w.drew from ag (Yn _ _) _);have g3:=yc a6;have a8:=E (λy=>Kk (w:=w.drew) T F code c sv src (m.aB.ext v.o) (m.data.ext v.o) j.may j.small j.bad j.lo j.hi c7 c8 y a6.inv O j.types (Lb a6));have b2:=E (λy=>EY (w:=w.drew) F c sv (m.aB.ext v.o).dp j.may c7 c8 y);have x:=E (K' a6 ⟨j.lo,j.hi⟩);obtain⟨R,e5⟩:∃R,bz (cl c src) 0 code D=R:=⟨_,rfl⟩;rw [e5] at a8 x;have e6:=m.data;obtain⟨g5,g7,g6,rfl⟩:=e6.Me;obtain⟨b5,b6,b7,b8,b9,c0,c1,c2⟩:=c;have g:cF.val ⟨b5,b6,b7,b8,b9,c0,c1,c2⟩=Yc #[A G b5,A G b6,A G b7,A G b8,A G b9,A G c0,A G c1,A G c2]:=rfl;rw [g] at a8 b2;have f:=m.ay;have h0:w.cell? s=K (A G b5):=f.cell 0;have h1:w.cell? ⟨s,1,I⟩=K (A G b6):=f.cell 1;have h2:w.cell? ⟨s,2,I⟩=K (A G b7):=f.cell 2;have h3:w.cell? ⟨s,3,I⟩=K (A G b8):=f.cell 3;have h4:w.cell? ⟨s,4,I⟩=K (A G b9):=f.cell 4;have h5:w.cell? ⟨s,5,I⟩=K (A G c0):=f.cell 5;have h6:w.cell? ⟨s,6,I⟩=K (A G c1):=f.cell 6;have h7:w.cell? ⟨s,7,I⟩=K (A G c2):=f.cell 7;have h8:w.cell? ⟨s,8,I⟩=K (U g5 g7 g6):=f.cell 8;have h9:w.cell? ⟨s,9,I⟩=K (A G wk):=f.cell 9;have Eb:w.cell? ⟨s,10,I⟩=K (Q (K p)):=f.cell 10;have mJ:w.cell? ⟨s,11,I⟩=K (Q I):=f.cell 11;have i2:=f.lt;have e0:=E (λ(e7:DS) (a5:bY) (c9:V) (g9:aC W p a5 e7 c9) (a0:af (L.has p) w.drew c9) (b:∀n,a5.has p n->L.has p n∨w.drew.heap.size<=n)=>show ai c9 s _ 67 from(show ai w.drew s _ _ from f).bS (a0.block s f.lt m.sn));clear m a6 f e6 g2 g3 g j e5 c7 c8;have i0:¬(b:Int)<0:=O;have i1:¬(b:Int)>64:=O
 cases y:D.down with
 |true=>
  have u:=E (b2.o y);have e1:=E y;rw [aT (k:=10) H] at u;clear a8 b2 y;by_cases r:b=0
  .subst r
   rw [if_pos rfl] at h;subst h;go_enter func33,ntmps33;go_wp2
   go_region_with ((go_at_call 76;refine u.o.mono ?_;rintro g w1 ⟨rfl,a⟩;have k:=E a;clear a))
   all_goals (
    go_wp2;go_returns
    exact sN.same a3.o e2.o (ext v.o k.o) (λ_ _ a2=>by have a9:=a2.1;rw [e1.o] at a9;cases a9))
  .rw [if_neg r] at h
   subst h;have e3:¬(b:Int)=0:=O
   have e4:((b:Int)==0)=false:=by simpa using r
   go_enter func33,ntmps33;go_wp2
   go_region_with ((go_at_call 76;refine u.o.mono ?_;rintro g w1 ⟨rfl,a⟩;have k:=E a;clear a))
   all_goals (
    go_wp2;go_returns
    exact sN.same a3.o e2.o (ext v.o k.o) (λ_ _ a2=>by have a9:=a2.1;rw [e1.o] at a9;cases a9))
 |false=>
  have b1:=a8.o y;clear a8 b2 y;by_cases a7:R.2.2.2=0
  .have u:=E (b1.mono (R':=λg z=>∃q,g=e (Ye #[Q (K ⟨q,0,I⟩),Ya])/\∃t,aC W p t R.1 z/\af (L.has p) w.drew z/\(∀n,t.has p n->L.has p n∨w.drew.heap.size<=n)/\FK W p code t R.1 (K ⟨q,0,I⟩) z) (λg z m=>by
    obtain⟨t,c3,c4,c5,c6⟩:=m
    rcases c6 with⟨a1,q,jp,jb,i3,rfl,g0⟩|⟨a1, -⟩
    .exact⟨q,rfl,t,c3,c4,c5,Yh ⟨q,jp,jb,_,F,F,_,_,rfl,g0,(x.o.2.1 a1).1,(x.o.2.1 a1).2,rfl,by have:=e8.o.Wb;split at h<;>omega,rfl,rfl⟩⟩
    .exact absurd a7 a1))
   clear b1;have b4:=E a7;clear a7;by_cases r:b=0
   .subst r
    rw [if_pos rfl] at h;subst h;go_enter func33,ntmps33;go_wp2
    go_region_with ((go_at_call 76;refine u.o.mono ?_;rintro g w1 ⟨q,rfl,a5,l,a,i,b0⟩;have P:=E l;have C:=E a;have J:=E i;have b3:=E b0;have k:=e0.o _ _ _ l a i;have g8:w1.cell? ⟨s,11,I⟩=K (Q I):=k.cell 11;have e9:=k.free 11;have g4:=k.lt;clear l a i b0 k))
    all_goals (
     go_wp2;go_returns
     exact IY a3.o x.o.1 v.o P.o C.o J.o b3.o)
   .rw [if_neg r] at h
    subst h;have e3:¬(b:Int)=0:=O
    have e4:((b:Int)==0)=false:=by simpa using r
    go_enter func33,ntmps33;go_wp2
    go_region_with ((go_at_call 76;refine u.o.mono ?_;rintro g w1 ⟨q,rfl,a5,l,a,i,b0⟩;have P:=E l;have C:=E a;have J:=E i;have b3:=E b0;have k:=e0.o _ _ _ l a i;have g8:w1.cell? ⟨s,11,I⟩=K (Q I):=k.cell 11;have e9:=k.free 11;have g4:=k.lt;clear l a i b0 k))
    all_goals (
     go_wp2;go_returns
     exact IY a3.o x.o.1 v.o P.o C.o J.o b3.o)
  .have u:=E (b1.mono (R':=λg z=>∃a0,g=e (Ye #[Q I,Yd 142 (Q (K ⟨a0,0,I⟩))])/\∃t,aC W p t R.1 z/\af (L.has p) w.drew z/\(∀n,t.has p n->L.has p n∨w.drew.heap.size<=n)) (λg z m=>by
    obtain⟨t,c3,c4,c5,c6⟩:=m
    rcases c6 with⟨a1, -⟩|⟨a1,a0,rfl⟩
    .exact absurd a1 a7
    .exact⟨a0,rfl,t,c3,c4,c5⟩))
   clear b1;have b4:=E a7;clear a7;by_cases r:b=0
   .subst r
    rw [if_pos rfl] at h;subst h;go_enter func33,ntmps33;go_wp2
    go_region_with ((go_at_call 76;refine u.o.mono ?_;rintro g w1 ⟨a0,rfl,a5,l,a,i⟩;have P:=E l;have C:=E a;have J:=E i;clear l a i))
    all_goals (
     go_wp2;go_returns
     exact PA a3.o x.o.1 v.o P.o C.o J.o (λa2=>b4.o (x.o.2.2 a2)))
   .rw [if_neg r] at h
    subst h;have e3:¬(b:Int)=0:=O
    have e4:((b:Int)==0)=false:=by simpa using r
    go_enter func33,ntmps33;go_wp2
    go_region_with ((go_at_call 76;refine u.o.mono ?_;rintro g w1 ⟨a0,rfl,a5,l,a,i⟩;have P:=E l;have C:=E a;have J:=E i;clear l a i))
    all_goals (
     go_wp2;go_returns
     exact PA a3.o x.o.1 v.o P.o C.o J.o (λa2=>b4.o (x.o.2.2 a2)))
end
section
variable {W:V} {p q s jp jb wk code T:Nat} {cs:Array Z} {sv:Z} {c:cF} {src:Bs} {f:Option Yi} {L L1 L2:bY} {D D1:DS} {J J1:bJ} {w w0 w1 w2:V}
theorem ST.mJ(a:ST W p s c sv wk src code L D f w):w.cell? ⟨s,11,I⟩=K (Q f):=a.ay.cell 11
theorem ST.Eb(a:ST W p s c sv wk src code L D f w):w.cell? ⟨s,10,I⟩=K (Q (K p)):=a.ay.cell 10
theorem Mk(a:Int)(h:ST W p s c sv wk src code L D f w)(g:(a<0∨a>64)∨f≠I):
  d prog 33 #[Q (K s),A G a] w λk l=>∃m,k=e m/\w=l:=by
 have mJ:=h.mJ;have q:=h.ay.lt;clear h;by_cases n:a<0
 .clear g
  go_enter func33,ntmps33;go_wp2;go_returns
  first|exact⟨_,rfl,rfl⟩|exact⟨⟨_,rfl⟩,rfl⟩|rfl
 .by_cases o:a>64
  .clear g
   go_enter func33,ntmps33;go_wp2;go_returns
   first|exact⟨_,rfl,rfl⟩|exact⟨⟨_,rfl⟩,rfl⟩|rfl
  .have j:f≠I:=by
    rcases g with i|i
    .omega
    .exact i
   obtain⟨b,rfl⟩:∃b,f=K b:=by cases f with|none=>exact absurd rfl j|some b=>exact⟨b,rfl⟩
   clear g j;go_enter func33,ntmps33;go_wp2;go_returns
   first|exact⟨_,rfl,rfl⟩|exact⟨⟨_,rfl⟩,rfl⟩|rfl
theorem Hj(a:Int)(l:MC W c src code wk)(i:ST W p s c sv wk src code L D f w)(k:cz (ic c src code) D T)(n:T+200<=100000):
  d prog 33 #[Q (K s),A G a] w (sN W p s c sv wk src code T (nT a f D) L w):=by
 by_cases h:(a<0∨a>64)∨f≠I
 .refine(Mk a i h).mono ?_
  rintro j o ⟨q,rfl,rfl⟩;refine sN.same i k (Yn _ _) (λm g _=>?_)
  rcases h with b|b
  .omega
  .exact absurd g b
 .have m:0<=a/\a<=64:=by constructor<;>(apply Classical.byContradiction;intro b;exact h (Yg O))
  obtain rfl:f=I:=Classical.byContradiction λb=>h (Yh b)
  have j:a=(a.toNat:Int):=O;have g:=Mj (T:=T) a.toNat _ l i k n rfl O;rw [<-j] at g;exact g
theorem wt(a:Int)(l j:Nat)(i:Option Yi)(m:MC W c src code wk)(u:ST W p s c sv wk src code L D f w)(J:cz (ic c src code) D T)(C:T+200<=100000):
  d prog 9 #[Q (K s),Yc #[A G 3,A G a,U i l j]] w (sN W p s c sv wk src code T (nT a f D) L w):=by
 have o:=sI (w:=w) (P:=λb h=>sN W p s c sv wk src code T (nT a f D) L w (e b) h) s l j a i (λw1 k=>(Hj a m (u.ext k) J C).mono (λr h F=>by
  obtain⟨b,q,n,t,rfl,g,x,y,z⟩:=F
  exact⟨b,rfl,b,q,n,t,rfl,g,x,y.rQ k,z⟩))
 exact o.mono λr h ⟨b,v,g⟩=>by subst v;exact g
theorem L_(b:Int)(k i:Nat)(h:Option Yi)(a:ST W p s c sv wk src code L D f w)(j:cz (ic c src code) D T):
  d prog 9 #[Q (K s),Yc #[A G 1,A G b,U h k i]] w (sN W p s c sv wk src code T (λ_ _ _=>True) L w):=by
 rcases a.Kc with rfl|⟨q,jp,jb,F,R,P,cs,J,rfl,n,a2,a1,l,C,v,m⟩
 .exact(yz s k i b h a.mJ).mono λx a5 ⟨y,z⟩=>by subst y;exact sN.same a j z trivial
 .have g:=E (show X w w (w.alloc (M #[A G 1,A G b,U h k i] 35)).drew from((Yn _ _).alloc (Yk _) _).drew)
  have r:=E (Cy b R P F (n.ext g.o) l m O C);have t:=E a;have u:=E j;have a0:=(a.ext g.o).mJ;have a3:=a.ay.lt;have mJ:=a.mJ;clear a j n l v m;go_enter func9,ntmps9
  go_wp2_with fail
  go_region_with ((go_at_call 31;refine r.o.mono ?_;rintro x w1 ⟨a6,rfl,rfl⟩))
  all_goals
   go_wp2;go_returns;exact sN.same t.o u.o g.o trivial
theorem Pr(b:Int)(n i:Nat)(h:Option Yi)(x:bh b)(a:ST W p s c sv wk src code L D f w)(k:cz (ic c src code) D T):
  d prog 9 #[Q (K s),Yc #[A G 4,A G b,U h n i]] w (sN W p s c sv wk src code T (λ_ _ _=>True) L w):=by
 have g:=E (show X w w (w.alloc (M #[A G 4,A G b,U h n i] 35)).drew from((Yn _ _).alloc (Yk _) _).drew);have q:=E ((a.ext g.o).aB.U' b);have r:=E (a.ext g.o);have u:=E ((k.arm b x).mono (O:T+3<=T+50));have y:=(a.ext g.o).Eb;have C:=a.ay.lt;have Eb:=a.Eb;clear a k;go_enter func9,ntmps9
 go_wp2_with fail
 go_region_with ((go_at_call 34;refine q.o.mono ?_;rintro z w1 ⟨rfl,l⟩;obtain⟨L1,j,m⟩:=r.o.lR l;have t:=E j;have v:=E m;clear j m l))
 all_goals
  go_wp2;go_returns;exact⟨_,L1,_,f,rfl,t.o,u.o,v.o.rQ g.o,trivial⟩
theorem LY(b:Int)(n j:Nat)(i:Option Yi)(a:ST W p s c sv wk src code L D f w)(h:cz (ic c src code) D T):
  d prog 9 #[Q (K s),Yc #[A G 5,A G b,U i n j]] w (sN W p s c sv wk src code T (λ_ _ _=>True) L w):=by
 have g:=E (show X w w (w.alloc (M #[A G 5,A G b,U i n j] 35)).drew from((Yn _ _).alloc (Yk _) _).drew);have q:=E ((a.ext g.o).aB.Ug b h.inv);have r:=E (a.ext g.o);have u:=E ((h.ib b).mono (O:T+3<=T+50));have y:=(a.ext g.o).Eb;have C:=a.ay.lt;have Eb:=a.Eb;clear a h;generalize bj (nC D b)=F at*;generalize ib D b=x at*;go_enter func9,ntmps9
 go_wp2_with fail
 go_region_with ((go_at_call 35;refine q.o.mono ?_;rintro z w1 ⟨rfl,l⟩;obtain⟨L1,k,m⟩:=r.o.lR l;have t:=E k;have v:=E m;clear k m l))
 all_goals
  go_wp2;go_returns;exact⟨_,L1,_,f,rfl,t.o,u.o,v.o.rQ g.o,trivial⟩
theorem wq(r:Int)(g:List Int)(t:Z)(k:aY W t g)(a1:T<=100000)(a:ST W p s c sv wk src code L D f w)(j:cz (ic c src code) D T):
  d prog 9 #[Q (K s),Yc #[A G 2,A G r,t]] w (sN W p s c sv wk src code T (λ_ v R=>Calm v/\R=I) L w):=by
 obtain⟨J,P,i,a2⟩:=id k;obtain⟨l,m⟩:∃l,g.length=l:=⟨_,rfl⟩;rw [m] at i;subst i;have h:=E (show X w w (w.alloc (M #[A G 2,A G r,U J l P] 35)).drew from((Yn _ _).alloc (Yk _) _).drew);have u:=E ((a.ext h.o).aB.jk j.inv a1 k);have x:=E (a.ext h.o);have C:=E ((j.M_ g).mono (O:T+3<=T+50));have z:=E (Ew (D:=D) g);have a6:=(a.ext h.o).Eb;have a9:=a.ay.lt;have Eb:=a.Eb;clear a j k a2 m;generalize jS D g=a5 at*;go_enter func9,ntmps9
 go_wp2_with fail
 go_region_with ((go_at_call 32;refine u.o.mono ?_;rintro i w1 ⟨rfl,n⟩;obtain⟨L1,b,q⟩:=x.o.lR n;have a7:=b.mJ;have a8:=b.ay.free 11;have b0:=b.ay.lt;have y:=E b;have F:=E q;clear b q n))
 all_goals
  go_wp2;go_returns;obtain⟨a0,a3⟩:=y.o.put I (Yg rfl);exact⟨_,L1,_,I,rfl,a0,C.o,(F.o.rQ h.o).trans a3,z.o,rfl⟩
theorem GP(a k:Int)(j h:Nat)(g:Option Yi)(q:a≠1/\a≠2/\a≠3/\a≠4/\a≠5/\a≠6)(b:ST W p s c sv wk src code L D f w)(i:cz (ic c src code) D T):
  d prog 9 #[Q (K s),Yc #[A G a,A G k,U g j h]] w (sN W p s c sv wk src code T (λ_ _ _=>True) L w):=by
 have l:=E (N:X w w (w.alloc (M #[A G a,A G k,U g j h] 35)));have m:=E b;have n:=E i;have z:=b.ay.lt;obtain⟨r,t,u,v,x,y⟩:=q
 have C:(a==1)=false:=by simpa using r
 have F:(a==2)=false:=by simpa using t
 have J:(a==3)=false:=by simpa using u
 have P:(a==4)=false:=by simpa using v
 have R:(a==5)=false:=by simpa using x
 have a0:(a==6)=false:=by simpa using y
 clear b i;go_enter func9,ntmps9;go_wp2;go_returns;exact sN.same m.o n.o l.o trivial
end
section
variable {W:V} {p q s jp jb wk code T:Nat} {cs:Array Z} {sv:Z} {c:cF} {src:Bs} {f:Option Yi} {L L1 L2:bY} {D D1:DS} {J J1:bJ} {w w0 w1 w2:V}
theorem Hi(f b x:Nat)(v:Option Yi)(F:FS W p q jp jb cs L D J w)(m:ai w s (eu c sv (wk:Int) p (K q)) 67)(t:cs[15]? =K (U v b x))(y:cs[17]? =K (.bool false))(z:J.state≠1)(b2:b<=64)(b1:f<=1000):
  d prog 36 #[Q (K s),A G f] w λl a2=>l=e Ya/\X w w a2:=by
 have C:=E (λg=>NV g);have R:=E (λ(g:V) (a:X w w g)=>mR v b x (F.ay.ext a) t);have P:=E (λ(g:V) (h:Nat) (a:X w w g) (a0:h<b)=>pf Ya h b x v (F.ext a) t y a0 z);have k:=E m;have mJ:w.cell? ⟨s,11,I⟩=K (Q (K q)):=m.cell 11;have b5:=m.lt;have a6:¬(f:Int)<0:=O;have a7:¬(f:Int)>1000:=O;clear F m t y z;go_enter func36,ntmps36;go_wp2
 go_loopw [23] (λh wr=>∃i:Nat,i<=f/\h=A G i/\X w w wr) (λh _=>f - (Yz h).toNat)
 case atStart=>exact⟨0,Yr _,rfl,Yn _ _⟩
 case round=>
  obtain⟨i,a8,rfl,a⟩:=hrel;have r:=E a;by_cases b0:i<f
  .have a3:wr.cell? ⟨s,11,I⟩=K (Q (K q)):=(k.o.ext a).cell 11
   have b4:=(k.o.ext a).lt;clear a
   go_wp2_with (first
    |(go_at_call 77;refine(R.o _ r.o).mono ?_;rintro l w2 ⟨rfl,rfl⟩))
   go_loopw [30] (λu g=>∃j:Nat,j<=b/\u=A G j/\X w w g) (λu _=>b - (Yz u).toNat)
   case atStart=>exact⟨0,Yr _,rfl,r.o⟩
   case round=>
    obtain⟨j,a9,rfl,a⟩:=hrel;have n:=E a;by_cases a1:j<b
    .have a5:=(show _=K (Q (K q)) from(k.o.ext a).cell 11)
     have b3:=(k.o.ext a).lt;have T:=E a1;clear a
     go_wp2_with (first
      |(go_at_call 70;refine(C.o _).mono ?_;rintro l b7 ⟨rfl,rfl⟩)
      |(go_at_call 31;refine(P.o _ _ n.o T.o).mono ?_;rintro l b6 ⟨rfl,rfl⟩))
     go_roundw
     case rel=>exact⟨j+1,O,S,n.o⟩
     case measure=>simp [Yz];omega
    .obtain rfl:j=b:=O
     clear a;go_wp2;go_roundw
     case rel=>exact⟨i+1,O,S,n.o⟩
     case measure=>simp [Yz];omega
  .obtain rfl:i=f:=O
   clear a;go_wp2;go_returns;exact⟨rfl,r.o⟩
theorem Hh(b:Int)(a:ST W p s c sv wk src code L D f w):
  d prog 36 #[Q (K s),A G b] w λg k=>∃x,g=e x/\X w w k:=by
 by_cases h:0<=b/\b<=1000
 .rcases a.Kc with rfl|⟨q,jp,jb,t,v,u,cs,J,rfl,n,C,z,l,o,y,m⟩
  .have mJ:=a.mJ
   have r:=a.ay.lt;obtain⟨i,j⟩:=h;have i:¬b<0:=O;have j:¬b>1000:=O;clear a;go_enter func36,ntmps36;go_wp2;go_returns
   first|exact⟨_,rfl,Yn _ _⟩|exact⟨⟨_,rfl⟩,Yn _ _⟩|exact Yn _ _
  .have g:b=(b.toNat:Int):=O
   rw [g]
   exact(Hi b.toNat v u t n a.ay l m O o O).mono λg k a=>⟨_,a.1,a.2⟩
 .have r:=a.ay.lt
  clear a;by_cases i:b<0
  .clear h
   go_enter func36,ntmps36;go_wp2;go_returns
   first|exact⟨_,rfl,Yn _ _⟩|exact⟨⟨_,rfl⟩,Yn _ _⟩|exact Yn _ _
  .have j:b>1000:=O
   clear h;go_enter func36,ntmps36;go_wp2;go_returns
   first|exact⟨_,rfl,Yn _ _⟩|exact⟨⟨_,rfl⟩,Yn _ _⟩|exact Yn _ _
theorem GQ(g:Int)(n k:Nat)(j:Option Yi)(l:ST W p s c sv wk src code L D f w)(r:cz (ic c src code) D T):
  d prog 9 #[Q (K s),Yc #[A G 6,A G g,U j n k]] w (sN W p s c sv wk src code T (λ_ _ _=>True) L w):=by
 have o:=yA (w:=w) (P:=λi h=>X w w h) s n k g j (λw1 m=>(Hh g (l.ext m)).mono (λq h ⟨i,a,b⟩=>⟨i,a,ext m b⟩))
 exact o.mono λq h ⟨i,a,b⟩=>by subst a;exact sN.same l r b trivial
theorem Rv(o:kV)(F:Z)(x:aY W F o.picks)(J:bh o.n)(a3:MC W c src code wk)(l:ST W p s c sv wk src code L D f w)(m:cz (ic c src code) D T)(b2:T+200<=100000):
  d prog 9 #[Q (K s),Yc #[A G o.kind,A G o.n,F]] w (sN W p s c sv wk src code T (λi g h=>(o.kind=2->Calm g/\h=I)/\(o.kind=3->nT o.n f D i g h)) L w):=by
 obtain⟨j,k,b3⟩:=o;obtain⟨n,q,a, -⟩:=id x;simp only at x J a⊢
 have C:∀{P u:Z->DS->Option Yi->Prop} {w2:V},(∀i g h,P i g h->u i g h)->∀{a:Ending},sN W p s c sv wk src code T P L w a w2->sN W p s c sv wk src code T u L w a w2:=by
  intro P u w2 b1 a b;obtain⟨i,a5,g,h,a6,a7,a8,a9,b0⟩:=b;exact⟨i,a5,g,h,a6,a7,a8,a9,b1 _ _ _ b0⟩
 by_cases y:j=2
 .subst y
  exact(wq k b3 F x O l m).mono λa r b=>C (λi g h v=>⟨λ_=>v,λa=>absurd a H⟩) b
 .subst a
  by_cases z:j=3
  .subst z
   exact(wt k _ q n a3 l m b2).mono λa r b=>C (λi g h v=>⟨λa=>absurd a H,λ_=>v⟩) b
  .have t:∀{w2:V} {a:Ending},sN W p s c sv wk src code T (λ_ _ _=>True) L w a w2->sN W p s c sv wk src code T (λi g h=>(j=2->Calm g/\h=I)/\(j=3->nT k f D i g h)) L w a w2:=λb=>C (λi g h _=>⟨λa=>absurd a y,λa=>absurd a z⟩) b
   by_cases R:j=1
   .subst R;exact(L_ k _ q n l m).mono λa r b=>t b
   .by_cases a0:j=4
    .subst a0;exact(Pr k _ q n J l m).mono λa r b=>t b
    .by_cases a1:j=5
     .subst a1;exact(LY k _ q n l m).mono λa r b=>t b
     .by_cases a2:j=6
      .subst a2;exact(GQ k _ q n l m).mono λa r b=>t b
      .exact(GP j k _ q n ⟨R,y,z,a0,a1,a2⟩ l m).mono λa r b=>t b
theorem Kj(a:ai w q cs 114)(b:cs[16]? =K (U I 0 0)):
  d prog 43 #[Q (K q)] w λf g=>∃c cap,f=e (U c 0 cap)/\X w w g:=by
 have i:=(a.cell 16).trans b;have j:=a.lt;have h:=E (aY.nil (w.alloc (M #[] 3)));clear a b;go_enter func43,ntmps43;go_wp2;go_returns
 first|exact⟨_,_,rfl,N⟩|exact⟨⟨_,_,rfl⟩,N⟩|go_grown
theorem GY(mJ:w.cell? ⟨s,11,I⟩=K (Q I)):
  d prog 16 #[Q (K s)] w λb c=>∃a cap,b=e (U a 0 cap)/\X w w c:=by
 have f:=Yj w _ mJ;go_enter func16,ntmps16;go_wp2;go_returns
 first|exact⟨_,_,rfl,Yn _ _⟩|exact⟨⟨_,_,rfl⟩,Yn _ _⟩|exact⟨_,rfl,Yn _ _⟩|exact⟨⟨_,rfl⟩,Yn _ _⟩|exact Yn _ _
theorem PG(mJ:w.cell? ⟨s,11,I⟩=K (Q I)):
  d prog 20 #[Q (K s)] w λa b=>a=e (.bool false)/\w=b:=by
 have c:=Yj w _ mJ;go_enter func20,ntmps20;go_wp2;go_returns;exact⟨rfl,rfl⟩
theorem GV(mJ:w.cell? ⟨s,11,I⟩=K (Q (K q)))(g:ai w q cs 114)(b:cs[16]? =K (U I 0 0)):
  d prog 16 #[Q (K s)] w λc j=>∃a cap,c=e (U a 0 cap)/\X w w j:=by
 have k:=Yj w _ mJ;have h:=E (Kj g b);clear g b;go_enter func16,ntmps16
 go_wp2_with (go_at_call 43;refine h.o.mono ?_;rintro c w1 ⟨a,cap,rfl,f⟩;have i:=E f;clear f)
 go_returns;exact⟨_,_,rfl,i.o⟩
theorem Ke(a:ai w q cs 114)(b:cs[17]? =K (.bool false)):
  d prog 50 #[Q (K q)] w λc f=>c=e (.bool false)/\w=f:=by
 have g:=(a.cell 17).trans b;have h:=a.lt;clear a b;go_enter func50,ntmps50;go_wp2;go_returns;exact⟨rfl,rfl⟩
theorem PF(mJ:w.cell? ⟨s,11,I⟩=K (Q (K q)))(c:ai w q cs 114)(a:cs[17]? =K (.bool false)):
  d prog 20 #[Q (K s)] w λb g=>b=e (.bool true)/\w=g:=by
 have h:=Yj w _ mJ;have f:=E (Ke c a);clear c a;go_enter func20,ntmps20
 go_wp2_with (go_at_call 50;refine f.o.mono ?_;rintro b w1 ⟨rfl,rfl⟩)
 go_returns;exact⟨rfl,rfl⟩
theorem yy(F:FS W p q jp jb cs L D J w)(mJ:w.cell? ⟨s,11,I⟩=K (Q (K q))):
  d prog 21 #[Q (K s)] w λa l=>a=e (A G (J.code:Int))/\X w w l:=by
 have h:=E (AW F);have i:=E (λ(b c:Nat) (m:V) k=>Kx b c J m k);have n:=Yj w _ mJ;clear F;go_enter func21,ntmps21
 go_wp2_with (first
  |(go_at_call 38;refine h.o.mono ?_;rintro a w1 ⟨b,c,rfl,g,f⟩;have J1:=E g;have j:=E f;clear g f)
  |(go_at_call 51;refine(i.o _ _ _ J1.o).mono ?_;rintro a w2 ⟨rfl,rfl⟩))
 go_returns;exact⟨rfl,j.o⟩
end
theorem LH{c:Bs}{h f g:Nat}{b:Int}(a:im c h f g= .error b):b=1∨b=3:=by
 unfold im at a;simp only at a
 repeat' (split at a)
 all_goals first|(injection a with a;first|exact Yg a.symm|exact Yh a.symm)|cases a
theorem C'{b:Bs}{j i k:Nat}{c:Int}:∀{h:Nat},fA b j i k h= .error c->c=1∨c=3
 |0,a=>by unfold fA at a;cases a
 |h+1,a=>by
  unfold fA at a
  cases f:fA b j i k h with
  |error o=>rw [f] at a;injection a with a;subst a;exact C' f
  |ok n=>
   obtain⟨q,m⟩:=n;rw [f] at a;simp only at a
   cases g:im b m i 510 with
   |error p=>rw [g] at a;injection a with a;subst a;exact LH g
   |ok l=>
    obtain⟨l,r⟩:=l;rw [g] at a;simp only at a;split at a
    .injection a with a;exact Yh a.symm
    .cases a
theorem A_{g:Bs}{f c k:Nat}{h:Int}:∀{j:Nat},ia g f c k j= .error h->h=1∨h=3
 |0,a=>by unfold ia at a;cases a
 |j+1,a=>by
  unfold ia at a
  cases i:ia g f c k j with
  |error o=>rw [i] at a;injection a with a;subst a;exact A_ i
  |ok n=>
   obtain⟨q,m⟩:=n;rw [i] at a;simp only at a
   cases b:j_ g f c m with
   |error p=>
    rw [b] at a;injection a with a;subst a
    unfold j_ at b;split at b
    .injection b with b;exact Yg b.symm
    .exact C' b
   |ok l=>obtain⟨l,r⟩:=l;rw [b] at a;cases a
theorem Pw{b:Bs}{f:Int}(a:jq b= .error f):∃c:Nat,f=(c:Int)/\1<=c/\c<=15:=by
 unfold jq at a;split at a
 .injection a with a;exact⟨1,a.symm,O,O⟩
 .split at a
  .injection a with a;exact⟨2,a.symm,O,O⟩
  .split at a
   .injection a with a;exact⟨3,a.symm,O,O⟩
   .cases h1:ia (b.drop 5) (8*av b 2) (8*av b 3) 0 (av b 4) with
    |error i=>
     rw [h1] at a;injection a with a;subst a
     rcases A_ h1 with a|a
     .exact⟨1,a,O,O⟩
     .exact⟨3,a,O,O⟩
    |ok h=>
     obtain⟨j,k⟩:=h;rw [h1] at a;simp only at a;split at a
     .injection a with a
      unfold rV at a;split at a
      .exact⟨2,a.symm,O,O⟩
      .split at a
       .exact⟨5,a.symm,O,O⟩
       .rename_i g _ _;exfalso;apply g;unfold rV;rw [if_neg Zd,if_neg Zd]
     .cases a
theorem Ok{c:Bs}{b:DS}{f:Nat}(g:cz c b f):pZ (cY b)=I:=by
 refine IJ λh=>?_
 obtain⟨j,i, -⟩:=oV h
 rcases g.mS.names _ (jF i) with a|a
 .exact absurd a (H:¬fM=aw)
 .exact absurd a (H:¬fM=dH)
theorem Ux(a:Int):∃c:Nat,c<64/\(a.tmod 64+64).tmod 64=(c:Int)/\ -64<a.tmod 64/\a.tmod 64<64:=by
 have i: -64<a.tmod 64/\a.tmod 64<64:=by
  rcases Int.le_total 0 a with b|b
  .rw [Int.tmod_eq_emod_of_nonneg b];omega
  .have f:a= -(-a):=O
   rw [f,Int.neg_tmod,Int.tmod_eq_emod_of_nonneg (O:0<= -a)];omega
 obtain⟨g,h⟩:=i;generalize a.tmod 64=j at*;refine⟨(j+64).toNat%64,O,?_,g,h⟩;rw [Int.tmod_eq_emod_of_nonneg O];omega
def Jk(b:V)(j:cF)(l n:Int)(m:Bs)(k:Ending)(f:V):Prop:=
 ∃h c g i,k=e (Q (K ⟨h,0,I⟩))/\DP f c g (dZ l)/\(∀a,g.has c a->b.heap.size<=a)/\ai f h (eu j i n c I) 67/\cA c g f i m/\b.heap.size<=h/\(∀a,i.ownBlock=K a->b.heap.size<=a)/\X b b f
theorem vg(b:cF)(c g:Int)(p:Z)(f:Bs)(a:V)(L:iB b=true)(a0:ah a p f)(W:f.length<=140737488355328)(T:0<=c/\c<=16777216)(P:1<=g)(R:g<=64):
  d prog 7 #[b.val,p,A G c,A G g] a (Jk a b c g f):=by
 have J:=E (λ(a1:V) (a6:ah a1 p f)=>yD b c g p f a1 L a6 W T P R);have a3:=E a0;obtain⟨r,s,t,u,v,w,x,y⟩:=b;have z:cF.val ⟨r,s,t,u,v,w,x,y⟩=Yc #[A G r,A G s,A G t,A G u,A G v,A G w,A G x,A G y]:=rfl;rw [z] at J⊢;have q:=E (N:X a a (a.alloc (M #[A G r,A G s,A G t,A G u,A G v,A G w,A G x,A G y] 23)));clear L a0 W T P R z;go_enter func7,ntmps7
 go_wp2_with (go_at_call 28;refine(J.o _ (a3.o.ext q.o)).mono ?_;rintro z b0 ⟨a8,a7,a5,a9,rfl,h,i,j,k,l,m,n⟩;have a2:=E (YI h (YI i (YI j (YI k (YI l (YI m n))))));clear h i j k l m n)
 go_returns;obtain⟨h,i,j,k,l,m,n⟩:=a2.o;have F:=q.o.size;exact⟨a8,a7,a5,a9,rfl,h,λD C=>Yl F (i D C),j,k,Yl F l,λD C=>Yl F (m D C),ext q.o n⟩
theorem Ko(p:cF)(x z:Int)(y:Z)(c:V)(w:iB p=false):
  d prog 7 #[p.val,y,A G x,A G z] c λa s=>a=e (Q I)/\X c c s:=by
 have t:=E (λb=>by have:=fV p b;rw [w,if_neg Y,aT (k:=11) H] at this;exact this);obtain⟨f,g,h,i,j,l,m,n⟩:=p;have a:cF.val ⟨f,g,h,i,j,l,m,n⟩=Yc #[A G f,A G g,A G h,A G i,A G j,A G l,A G m,A G n]:=rfl;rw [a] at t⊢
 have C:=E (λ(b:V)=>show d prog 28 #[Yc #[A G f,A G g,A G h,A G i,A G j,A G l,A G m,A G n],y,A G x,A G z] b λa s=>a=e (Ye #[Q I,Yd 49 (A G 11)])/\X b b s from by
  have q:=E (N:X b b (b.alloc (M #[A G f,A G g,A G h,A G i,A G j,A G l,A G m,A G n] 23)));clear a;go_enter func28,ntmps28
  go_wp2_with (go_at_call 63;refine(t.o _).mono ?_;rintro a D ⟨rfl,v⟩;have r:=E (ext q.o v);clear v)
  go_returns
  exact⟨rfl,r.o⟩)
 have q:=E (N:X c c (c.alloc (M #[A G f,A G g,A G h,A G i,A G j,A G l,A G m,A G n] 23)));clear w a;go_enter func7,ntmps7
 go_wp2_with (go_at_call 28;refine(C.o _).mono ?_;rintro a D ⟨rfl,u⟩;have r:=E (ext q.o u);clear u)
 go_returns;exact⟨rfl,r.o⟩
end
end Go.Proofs.YtajkpgaheechmaaGreatDoor
