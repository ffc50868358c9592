/- SyA DecB EncA EncG QuarK EncF EncD EncE SyB SyC EncH -/
import Derived.Test.YtajkpgaheechmaaGreatDoorZAW
set_option maxRecDepth 100000
set_option maxHeartbeats 16000000
set_option linter.unusedSimpArgs false
set_option linter.unusedVariables false
set_option linter.unusedSectionVars false
namespace Go.Proofs.YtajkpgaheechmaaGreatDoor
open _root_.Go.Proofs.Tryz
open Go.Value renaming int->A,slice->U,pointer->Q,nilIface->Ya,agg->Yc,tuple->Ye,ownBlock->YT
open Go.IntKind renaming i64->G,u8->Yf
open Option renaming none->I,some->K
open Go.Obj renaming cells->M
open Go.Ending renaming returned->e
open Go renaming World->V,Value->Z,Calls->d,Addr->Yi,bodyPost_ret->YD,results->YU
open Go.RowKit renaming Below->X,ownsRow_setCell_below->Yu,intOf->Yz
open Or renaming inl->Yg,inr->Yh
open Nat renaming le_refl->Yk,le_trans->Yl,zero_le->Yr,lt_of_lt_of_le->Yv
open UInt8 renaming ofNat->Ym
open Go.RowKit.Below renaming refl->Yn,heap_setCell->Yt
open List renaming replicate->YA,getD->YR,range->Za
open Go.Value.slice renaming injEq->Yy
open Option.some renaming inj->YG,injEq->YQ
section
open Go.RowKit Go.Extern.Stop Go.Stop Go.Extern
def bF:List Int:=YA 64 0
def tB(b:Nat)(a:Z):Array Z:=#[A G 2,A G b,A G 0,A G 0,A G 0,A G 0,A G 0,A G 0,a,U I 0 0,U I 0 0,U I 0 0,U I 0 0]
theorem Jy(b:Nat)(a:V):Sem.run prog (Instr.typeAssert (PZ b) 398 425 true) a= .ok (Ye #[Q I,.bool false]) a:=B
theorem OZ(b:Nat)(a:V):d prog 301 #[PZ b] a λc g=>c=e (.bool false)/\a=g:=by
 have f:=Jy b a;unfold PZ at f⊢;go_enter func301,ntmps301;go_wp2;go_returns;exact⟨rfl,rfl⟩
theorem Mf(a:Nat)(g:a<=3)(b:V):d prog 339 #[A G a] b λc f=>c=e (.bool true)/\b=f:=by
 have h:(0:Int)<=(a:Int):=O;have i:(a:Int)<=3:=O;go_enter func339,ntmps339;go_wp2;go_returns;exact⟨by simp<;>omega,rfl⟩
theorem xh(f:Z)(a:V)(c:aY a f bF):d prog 323 #[f,A G 64] a λg h=>g=e Ya/\a=h:=by
 have b:=E (uJ f bF a c);rw [show Im bF=0 from by decide+kernel] at b;obtain⟨i,cap,rfl⟩:=c.shape;rw [show bF.length=64 from List.length_replicate] at b⊢;clear c;go_enter func323,ntmps323
 go_wp2_with (go_at_call 341;refine b.o.mono ?_;rintro g j ⟨rfl,rfl⟩)
 go_returns;exact⟨rfl,rfl⟩
theorem yU(a:Nat)(h:a<=3)(b:Z)(k:b.oneCell'=true)(f:V):d prog 322 #[Yc (tB a b)] f λc i=>c=e (.bool true)/\i=f.alloc (M (tB a b) 373):=by
 have g:=E (λj=>Mf a h j);unfold tB;go_enter func322,ntmps322
 go_wp2_with (go_at_call 339;refine(g.o _).mono ?_;rintro c l ⟨rfl,rfl⟩)
 go_returns;exact⟨rfl,rfl⟩
theorem zT(f:Nat)(m:f<=3)(j:Z)(a:V)(c:aY a j bF):d prog 302 #[.bool true,Yc (tB f j)] a λb p=>b=e Ya/\X a a p:=by
 have l:=E c;obtain⟨i,cap,rfl⟩:=c.shape;have h:=E (λg=>yU f m (U i bF.length cap) rfl g);have k:=E (λg n=>xh (U i bF.length cap) g n);unfold tB at h⊢;generalize bF.length=r at*;clear c;go_enter func302,ntmps302
 go_wp2_with (first
  |(go_at_call 322;refine(h.o _).mono ?_;rintro b q ⟨rfl,rfl⟩)
  |(go_at_call 323;refine(k.o _ (l.o.ext N)).mono ?_;rintro b q ⟨rfl,rfl⟩))
 go_returns;exact⟨rfl,N⟩
theorem ai.kept{F:Nat->Prop}{g h:V}{a b:Nat}{c:Array Z}(f:ai g a c b)(i:af F g h)(j:¬F a):ai h a c b:=(i.block a f.lt j).trans f
def sQ(b:nN)(a:Nat):nN:=rR (tm (xT b false) a) 39 false
theorem aa.mr{F:Nat->Prop}{h i:V}{f:Nat}{c:Z}{j:List Int}(b:aa h f c j)(k:af F h i)(l:∀a,c.ownBlock=K a->¬F a):aa i f c j:=
 ⟨an b.1 λa g=>k.block a (b.1.lt a g).2 (l a g),b.2⟩
theorem eS.kept{F:Nat->Prop}{k l:V}{c f:Nat}{g:Z}{j:nN}(a:eS k c f g j)(h:af F k l)(i:∀b,FW c f g b->¬F b):eS l c f g j:=
 ⟨a.ay.kept h (i c (Yg rfl)),a.enc.aD h (λb m=>i b (Yh m)),a.ok,a.ne⟩
theorem af.mh{F i:Nat->Prop}{h k l:V}(a:af F h k)(b:af i k l)(m:∀f,f<h.heap.size->i f->F f):af F h l:=
 ⟨b.os.trans a.os,b.tape.trans a.tape,b.output.trans a.output,Yl a.size b.size,λg c j=>(b.block g (Yv c a.size) λn=>j (m g c n)).trans (a.block g c j)⟩
def Tp(a:Nat)(b:Z):Array Z:=#[A G 2,A G a,A G 0,A G 0,A G 0,A G 0,A G 0,A G 0,b,U I 0 0,U I 0 0,U I 0 0,U I 0 0]
structure Wc(w w1:V)(pw pe po k B:Nat)(v v1 lv:Z)(m1:nN):Prop where
 box:ai w1 w (tB k lv) 373
 o:ai w1 po (Tp 0 (U I 0 0)) 373
 UC:ai (w1.setCell ⟨po,1,I⟩ (A G k)) po (Tp k (U I 0 0)) 373
 Wf:ai (w1.setCell ⟨po,1,I⟩ (A G k)) w (tB k lv) 373
 wr:eS (w1.setCell ⟨po,1,I⟩ (A G k)) pw pe v1 m1
 lv:aa (w1.setCell ⟨po,1,I⟩ (A G k)) B lv bF
 mh:∀j,FW pw pe v1 j->FW pw pe v j∨w.heap.size<j
 aD:af (λj=>FW pw pe v j∨j=po) w (w1.setCell ⟨po,1,I⟩ (A G k))
theorem SX{b w1:V}{g f c k p:Nat}{i v1 h:Z}{J m1:nN}(n:eS b g f i J)(D:aa b p h bF)(v:ai b c (Tp 0 (U I 0 0)) 373)
  (y:∀a,FW g f i a->h.ownBlock≠K a)(s:¬FW g f i c)(z:∀a,h.ownBlock=K a->a≠c)(x:eS w1 g f v1 m1)(j:gm g f i (b.alloc (M (tB k h) 373)) v1 w1):Wc b w1 g f c k p i v1 h m1:=by
 have P:=v.lt
 have q:ai w1 b (tB k h) 373:=(ai.new b _ _).kept j.aD λl=>Nat.lt_irrefl _ (n.lt _ l)
 have r:ai w1 c (Tp 0 (U I 0 0)) 373:=(v.alloc _).kept j.aD s
 have t:∀a,FW g f v1 a->FW g f i a∨b.heap.size<a:=λa m=>(j.own a m).imp id λn=>by
  have L:b.heap.size+1<=a:=by simpa using n
  omega
 have C:∀a,FW g f v1 a->a≠c:=λa m w=>by
  rcases t a m with o|o
  .rw [w] at o;exact s o
  .omega
 have u:af (·=c) w1 (w1.setCell ⟨c,1,I⟩ (A G k)):=aS (af.refl _ _) rfl;refine⟨q,r,r.set 1 _,q.ab _ _ (by show b.heap.size≠c;omega),x.kept u C,?_,t,?_⟩
 .refine aa.mr (F:=(·=c)) ?_ u z
  exact aa.mr (aa.alloc D _) j.aD λa m l=>y _ l m
 .refine af.trans (af.aj ((Yn _ b).alloc (Yk _) (M (tB k h) 373))) ?_
  exact aS (j.aD.mono λ_ _ l=>Yg l) (Yh rfl)
theorem Cu(c f g k a8:Nat)(l u:Z)(m:nN)(j:V)(r:eS j c f l m)(b8:k<=3)(c8:m.enc.o.length<=800000)(C:aa j a8 u bF)
  (t:ai j g (Tp 0 (U I 0 0)) 373)(T:∀a,FW c f l a->u.ownBlock≠K a)(R:¬FW c f l g)(a2:∀a,u.ownBlock=K a->a≠g):
  d prog 304 #[PZ c,Yc (tB k u),Q (K g)] j λn F=>∃w v a6,n=e Ya/\ai F g (tB k (U w 64 v)) 373/\eS F c f a6 (rR (tm m k) 39 false)/\af (λa=>FW c f l a∨a=g) j F/\(∀a,FW c f a6 a->FW c f l a∨j.heap.size<=a):=by
 have b2:=E r;have c9:=r.ay.lt;have e1:=t.lt;have b0:=E (λL D=>Oo c f l m k L D b8 O);have a9:=E (λc4 c3 L D c1=>Ay c f c4 c3 (tm m k) L D (by have:=Cd m k;omega) c1);have b1:=E (λi p a5 b5 b6=>SX (w1:=p) (v1:=i) (m1:=a5) (k:=k) r C t T R a2 b5 b6)
 have P:=E (show∀i,(∀a,FW c f i a->FW c f l a∨j.heap.size<a)->¬FW c f i g from λi b7 z=>by
  rcases b7 _ z with h|h
  .exact R h
  .omega)
 have c5:j.cell? g=K (A G 2):=t.cell 0;obtain⟨b4,cap,rfl⟩:=C.shape;unfold tB;generalize bF.length=c2 at*;clear r C t T a2;go_enter func304,ntmps304
 go_wp2_with (first
  |(go_at_call 326;refine(a9.o i _ _ b.o.wr b.o.lv.ints).mono ?_;rintro n J ⟨e7,a7,rfl,a3,a1,y⟩;have b3:=E a1;have x:=E y;have q:=E (b.o.UC.kept y.aD (P.o i b.o.mh));have e3:=q.o.lt;have e5:J.cell? ⟨g,8,I⟩=K (U I 0 0):=q.o.cell 8;have c7:=q.o.free 8;obtain⟨w,v,rfl⟩:=a3.shape;clear a1 y a3)
  |(go_at_call 325;refine(b0.o _ (b2.o.ext N)).mono ?_;rintro n p ⟨i,rfl,a0,W⟩;have b:=E (b1.o _ _ _ a0 W);have e0:=b.o.box.lt;have e2:=b.o.o.lt;have e6:p.cell? ⟨j,8,I⟩=K (U b4 c2 cap):=b.o.box.cell 8;have e4:p.cell? ⟨g,1,I⟩=K (A G 0):=b.o.o.cell 1;have c6:=b.o.o.free 1;clear a0 W))
 go_returns
 have c0:∀a,FW c f a7 a->a≠g:=λa s n=>by
  subst n
  rcases x.o.own _ s with h|h
  .exact P.o i b.o.mh h
  .have:=b.o.UC.lt;omega
 have b9:af (λa=>FW c f l a∨a=g) j J:=b.o.aD.mh x.o.aD λa s z=>by
  rcases b.o.mh a z with h|h
  .exact Yg h
  .omega
 refine⟨w,v,a7,rfl,q.o.set 8 (U w 64 v),b3.o.kept (aS (af.refl (·=g) J) rfl) c0,aS b9 (Yh rfl),λa s=>?_⟩
 rcases x.o.own a s with h|h
 .exact(b.o.mh a h).imp id Nat.le_of_lt
 .exact Yh (Yl b.o.aD.size h)
theorem ai.sq{b:V}{a f h:Nat}{g:Z}(c:ai b a (tB f g) h):b.cell? a=K (A G 2)/\b.cell? ⟨a,1,I⟩=K (A G f)/\b.cell? ⟨a,2,I⟩=K (A G 0)/\b.cell? ⟨a,3,I⟩=K (A G 0)/\b.cell? ⟨a,4,I⟩=K (A G 0)/\b.cell? ⟨a,5,I⟩=K (A G 0)/\b.cell? ⟨a,6,I⟩=K (A G 0)/\b.cell? ⟨a,7,I⟩=K (A G 0)/\b.cell? ⟨a,8,I⟩=K g/\b.cell? ⟨a,9,I⟩=K (U I 0 0)/\b.cell? ⟨a,10,I⟩=K (U I 0 0)/\b.cell? ⟨a,11,I⟩=K (U I 0 0)/\b.cell? ⟨a,12,I⟩=K (U I 0 0):=
 ⟨c.cell 0,c.cell 1,c.cell 2,c.cell 3,c.cell 4,c.cell 5,c.cell 6,c.cell 7,c.cell 8,c.cell 9,c.cell 10,c.cell 11,c.cell 12⟩
def rO:Array Z:=#[A G 0,A G 0,A G 0,A G 0,A G 0,A G 0,A G 0,A G 0,U I 0 0,U I 0 0,U I 0 0,U I 0 0,U I 0 0]
theorem eS.alloc{g:V}{c b:Nat}{f:Z}{a:nN}(h:eS g c b f a)(o:Obj):eS (g.alloc o) c b f a:=h.ext ((Yn _ _).alloc (Yk _) _)
theorem ai.UY{b:V}{a f:Nat}(c:ai b a rO f):b.cell? a=K (A G 0)/\b.cell? ⟨a,1,I⟩=K (A G 0)/\b.cell? ⟨a,2,I⟩=K (A G 0)/\b.cell? ⟨a,3,I⟩=K (A G 0)/\b.cell? ⟨a,4,I⟩=K (A G 0)/\b.cell? ⟨a,5,I⟩=K (A G 0)/\b.cell? ⟨a,6,I⟩=K (A G 0)/\b.cell? ⟨a,7,I⟩=K (A G 0)/\b.cell? ⟨a,8,I⟩=K (U I 0 0)/\b.cell? ⟨a,9,I⟩=K (U I 0 0)/\b.cell? ⟨a,10,I⟩=K (U I 0 0)/\b.cell? ⟨a,11,I⟩=K (U I 0 0)/\b.cell? ⟨a,12,I⟩=K (U I 0 0):=
 ⟨c.cell 0,c.cell 1,c.cell 2,c.cell 3,c.cell 4,c.cell 5,c.cell 6,c.cell 7,c.cell 8,c.cell 9,c.cell 10,c.cell 11,c.cell 12⟩
theorem ai.Iu{b:V}{a f:Nat}{g:Array Z}(c:ai b a g f):b.frozen? a=false/\b.frozen? ⟨a,1,I⟩=false/\b.frozen? ⟨a,2,I⟩=false/\b.frozen? ⟨a,3,I⟩=false/\b.frozen? ⟨a,4,I⟩=false/\b.frozen? ⟨a,5,I⟩=false/\b.frozen? ⟨a,6,I⟩=false/\b.frozen? ⟨a,7,I⟩=false/\b.frozen? ⟨a,8,I⟩=false/\b.frozen? ⟨a,9,I⟩=false/\b.frozen? ⟨a,10,I⟩=false/\b.frozen? ⟨a,11,I⟩=false/\b.frozen? ⟨a,12,I⟩=false:=
 ⟨c.free 0,c.free 1,c.free 2,c.free 3,c.free 4,c.free 5,c.free 6,c.free 7,c.free 8,c.free 9,c.free 10,c.free 11,c.free 12⟩
def yF(f:V)(a b:Nat)(c:Z):V:=(((((((((((((f.setCell a (A G 2)).setCell ⟨a,1,I⟩ (A G b)).setCell ⟨a,2,I⟩ (A G 0)).setCell ⟨a,3,I⟩ (A G 0)).setCell ⟨a,4,I⟩ (A G 0)).setCell ⟨a,5,I⟩ (A G 0)).setCell ⟨a,6,I⟩ (A G 0)).setCell ⟨a,7,I⟩ (A G 0)).setCell ⟨a,8,I⟩ c).setCell ⟨a,9,I⟩ (U I 0 0)).setCell ⟨a,10,I⟩ (U I 0 0)).setCell ⟨a,11,I⟩ (U I 0 0)).setCell ⟨a,12,I⟩ (U I 0 0))
theorem RA{c:V}{a g:Nat}(f:Nat)(h:Z)(W:ai c a rO g):ai (yF c a f h) a (tB f h) g/\af (·=a) c (yF c a f h):=by
 have b4:af (·=a) c c:=af.refl _ _;obtain⟨w0,i⟩:∃b,b=(c.setCell a (A G 2)):=⟨_,rfl⟩
 have a0:ai w0 a #[A G 2,A G 0,A G 0,A G 0,A G 0,A G 0,A G 0,A G 0,U I 0 0,U I 0 0,U I 0 0,U I 0 0,U I 0 0] g:=by rw [i];exact W.set 0 _
 have b5:af (·=a) c w0:=by rw [i];exact aS b4 rfl
 obtain⟨v,j⟩:∃b,b=(w0.setCell ⟨a,1,I⟩ (A G f)):=⟨_,rfl⟩
 have a1:ai v a #[A G 2,A G f,A G 0,A G 0,A G 0,A G 0,A G 0,A G 0,U I 0 0,U I 0 0,U I 0 0,U I 0 0,U I 0 0] g:=by rw [j];exact a0.set 1 _
 have b6:af (·=a) c v:=by rw [j];exact aS b5 rfl
 obtain⟨z,n⟩:∃b,b=(v.setCell ⟨a,2,I⟩ (A G 0)):=⟨_,rfl⟩
 have a6:ai z a #[A G 2,A G f,A G 0,A G 0,A G 0,A G 0,A G 0,A G 0,U I 0 0,U I 0 0,U I 0 0,U I 0 0,U I 0 0] g:=by rw [n];exact a1.set 2 _
 have c0:af (·=a) c z:=by rw [n];exact aS b6 rfl
 obtain⟨C,o⟩:∃b,b=(z.setCell ⟨a,3,I⟩ (A G 0)):=⟨_,rfl⟩
 have a7:ai C a #[A G 2,A G f,A G 0,A G 0,A G 0,A G 0,A G 0,A G 0,U I 0 0,U I 0 0,U I 0 0,U I 0 0,U I 0 0] g:=by rw [o];exact a6.set 3 _
 have c1:af (·=a) c C:=by rw [o];exact aS c0 rfl
 obtain⟨D,p⟩:∃b,b=(C.setCell ⟨a,4,I⟩ (A G 0)):=⟨_,rfl⟩
 have a8:ai D a #[A G 2,A G f,A G 0,A G 0,A G 0,A G 0,A G 0,A G 0,U I 0 0,U I 0 0,U I 0 0,U I 0 0,U I 0 0] g:=by rw [p];exact a7.set 4 _
 have c2:af (·=a) c D:=by rw [p];exact aS c1 rfl
 obtain⟨F,q⟩:∃b,b=(D.setCell ⟨a,5,I⟩ (A G 0)):=⟨_,rfl⟩
 have a9:ai F a #[A G 2,A G f,A G 0,A G 0,A G 0,A G 0,A G 0,A G 0,U I 0 0,U I 0 0,U I 0 0,U I 0 0,U I 0 0] g:=by rw [q];exact a8.set 5 _
 have c3:af (·=a) c F:=by rw [q];exact aS c2 rfl
 obtain⟨J,r⟩:∃b,b=(F.setCell ⟨a,6,I⟩ (A G 0)):=⟨_,rfl⟩
 have b0:ai J a #[A G 2,A G f,A G 0,A G 0,A G 0,A G 0,A G 0,A G 0,U I 0 0,U I 0 0,U I 0 0,U I 0 0,U I 0 0] g:=by rw [r];exact a9.set 6 _
 have c4:af (·=a) c J:=by rw [r];exact aS c3 rfl
 obtain⟨L,s⟩:∃b,b=(J.setCell ⟨a,7,I⟩ (A G 0)):=⟨_,rfl⟩
 have b1:ai L a #[A G 2,A G f,A G 0,A G 0,A G 0,A G 0,A G 0,A G 0,U I 0 0,U I 0 0,U I 0 0,U I 0 0,U I 0 0] g:=by rw [s];exact b0.set 7 _
 have c5:af (·=a) c L:=by rw [s];exact aS c4 rfl
 obtain⟨P,t⟩:∃b,b=(L.setCell ⟨a,8,I⟩ h):=⟨_,rfl⟩
 have b2:ai P a #[A G 2,A G f,A G 0,A G 0,A G 0,A G 0,A G 0,A G 0,h,U I 0 0,U I 0 0,U I 0 0,U I 0 0] g:=by rw [t];exact b1.set 8 _
 have c6:af (·=a) c P:=by rw [t];exact aS c5 rfl
 obtain⟨R,u⟩:∃b,b=(P.setCell ⟨a,9,I⟩ (U I 0 0)):=⟨_,rfl⟩
 have b3:ai R a #[A G 2,A G f,A G 0,A G 0,A G 0,A G 0,A G 0,A G 0,h,U I 0 0,U I 0 0,U I 0 0,U I 0 0] g:=by rw [u];exact b2.set 9 _
 have c7:af (·=a) c R:=by rw [u];exact aS c6 rfl
 obtain⟨w,k⟩:∃b,b=(R.setCell ⟨a,10,I⟩ (U I 0 0)):=⟨_,rfl⟩
 have a2:ai w a #[A G 2,A G f,A G 0,A G 0,A G 0,A G 0,A G 0,A G 0,h,U I 0 0,U I 0 0,U I 0 0,U I 0 0] g:=by rw [k];exact b3.set 10 _
 have b7:af (·=a) c w:=by rw [k];exact aS c7 rfl
 obtain⟨x,l⟩:∃b,b=(w.setCell ⟨a,11,I⟩ (U I 0 0)):=⟨_,rfl⟩
 have a3:ai x a #[A G 2,A G f,A G 0,A G 0,A G 0,A G 0,A G 0,A G 0,h,U I 0 0,U I 0 0,U I 0 0,U I 0 0] g:=by rw [l];exact a2.set 11 _
 have b8:af (·=a) c x:=by rw [l];exact aS b7 rfl
 obtain⟨y,m⟩:∃b,b=(x.setCell ⟨a,12,I⟩ (U I 0 0)):=⟨_,rfl⟩
 have a5:ai y a #[A G 2,A G f,A G 0,A G 0,A G 0,A G 0,A G 0,A G 0,h,U I 0 0,U I 0 0,U I 0 0,U I 0 0] g:=by rw [m];exact a3.set 12 _
 have b9:af (·=a) c y:=by rw [m];exact aS b8 rfl
 have T:y=yF c a f h:=by
  unfold yF;rw [m,l,k,u,t,s,r,q,p,o,n,j,i]
 rw [<-T];exact⟨a5,b9⟩
structure U_(w w1 w2:V)(pw pe k B:Nat)(v v2 lv:Z)(m2:nN):Prop where
 box:ai w2 w (tB k lv) 373
 o:ai w2 w1 rO 373
 wr:eS (w2.setCell w1 (A G 2)) pw pe v2 m2
 lv:aa (w2.setCell w1 (A G 2)) B lv bF
 VP:ai (w2.setCell w1 (A G 2)) w1 (Tp 0 (U I 0 0)) 373
 res:ai (w2.setCell w1 (A G 2)) (w.heap.size+1) rO 373
 mh:∀j,FW pw pe v2 j->FW pw pe v j∨w1.heap.size<j
 aD:af (FW pw pe v) w (w2.setCell w1 (A G 2))
theorem MY{c b g:V}{i h r s:Nat}{m q o:Z}{W D:nN}(k:eS c i h m W)(C:aa c s o bF)(R:∀a,FW i h m a->o.ownBlock≠K a)(p:X c c b)
  (x:ai b c (tB r o) 373)(w:ai b (c.heap.size+1) rO 373)(u:eS g i h q D)(l:gm i h m (b.alloc (M rO 373)) q g):U_ c b g i h r s m q o D:=by
 have a1:=x.lt;have a2:=w.lt
 have J:ai g c (tB r o) 373:=(x.alloc _).kept l.aD λj=>Nat.lt_irrefl _ (k.lt _ j)
 have L:ai g (c.heap.size+1) rO 373:=(w.alloc _).kept l.aD λj=>by have:=k.lt _ j;omega
 have t:ai g b rO 373:=(ai.new b _ _).kept l.aD λj=>by have:=k.lt _ j;omega
 have y:∀a,FW i h q a->FW i h m a∨b.heap.size<a:=λa f=>(l.own a f).imp id λk=>by
  have u:b.heap.size+1<=a:=by simpa using k
  omega
 have z:af (·=b.heap.size) g (g.setCell b (A G 2)):=aS (af.refl _ _) rfl;refine⟨J,t,u.kept z (λa f P=>?_),?_,t.set 0 _,L.ab _ _ (by show c.heap.size+1≠b.heap.size;omega),y,?_⟩
 .rcases y a f with v|v
  .have:=k.lt _ v;omega
  .omega
 .refine aa.mr (F:=(·=b.heap.size)) ?_ z λa f P=>?_
  .exact aa.mr (aa.alloc (C.ext p) _) l.aD λa f j=>R _ j f
  .have:=(C.1.lt a f).2
   omega
 .have n:af (FW i h m) c g:=(af.aj (p.alloc p.size _)).trans l.aD
  have a0:=p.size;exact⟨n.os,n.tape,n.output,by simpa using n.size,λa f T=>(Yt _ _ _ _ (O:a≠b.heap.size)).trans (n.block a f T)⟩
theorem Ez(i j h a3:Nat)(t y:Z)(s:nN)(b:V)(g:eS b i j t s)(c4:h<=3)(j7:s.enc.o.length<=700000)(r:aa b a3 y bF)(J:∀a,FW i j t a->y.ownBlock≠K a):
  d prog 285 #[PZ i,.bool true,Yc (tB h y)] b λf c7=>∃g6 c5,f=e (Ye #[g6,Ya])/\eS c7 i j c5 (sQ s h)/\gm i j t b c5 c7:=by
 have F:=E g;have b2:=E r;have j8:=g.ay.lt;have c9:=E (λp=>OZ i p);have a6:=E (λp x=>zT h c4 y p x);have a5:=E (λp x=>Mv i j t s false p x O);simp only [mG] at a5;have a7:=E (λh8 g5 p x r g3 J g0 g1=>Cu i j g5 h a3 h8 y (xT s false) p x c4 (by have:=AX s false;omega) r g3 J g0 g1);obtain⟨v,cap,rfl⟩:=r.shape;have a9:=E J;unfold tB at a6 a7⊢;unfold PZ;generalize bF.length=z at*;have i1:=E (show∀a1 W,(prog.info? 373).map (·.size)=K (tB h (U a1 64 W)).size from λ_ _=>B);have i0:=E (show∀a1 W,(tB h (U a1 64 W)).all (·.oneCell')=true from λ_ _=>B);have b3:=E (λa k=>(r.1.lt a k).2);clear g r J;go_enter func285,ntmps285
 go_wp2_with (first
  |(go_at_call 301;refine(c9.o _).mono ?_;rintro f l ⟨rfl,rfl⟩)
  |(go_at_call 304;refine(a7.o P l _ e7.o e6.o e4.o e1.o e0.o e3.o).mono ?_;rintro f c8 ⟨a2,a0,c6,rfl,b7,c2,T,c3⟩;have b0:=E b7;have e8:=E c2;have e2:=E T;have a8:=E c3;have D:=E (b1.o.kept T e5.o);obtain⟨k7,k8,l2,l3,l4,l5,l6,l7,l8,l9,k9,l0,l1⟩:=b0.o.sq;obtain⟨m0,m1,m5,m6,m7,m8,m9,n0,n1,n2,m2,m3,m4⟩:=D.o.UY;obtain⟨n3,n4,o0,o1,o2,o3,o4,o5,o6,o7,n6,n8,n9⟩:=D.o.Iu;have j9:=b0.o.lt;have k0:=D.o.lt;clear b7 c2 T c3)
  |(go_at_call 389;refine(a5.o _ (b4.o.alloc _)).mono ?_;rintro f h9 ⟨P,rfl,c1,b8⟩;have c:=E (MY F.o b2.o a9.o u.o R.o n.o c1 b8);have e7:=E c.o.wr;have e6:=E c.o.lv;have e4:=E c.o.VP;have e1:=E (show∀a,FW i j P a->(U v z cap).ownBlock≠K a from λa k f=>(c.o.mh a k).elim (λg=>a9.o a g f) (λg=>by have:=b3.o a f;have:=u.o.size;omega));have e0:=E (show¬FW i j P l from λm=>(c.o.mh _ m).elim (λg=>by have:=b4.o.lt _ g;omega) (λg=>O));have e3:=E (show∀a,(U v z cap).ownBlock=K a->a≠l.heap.size from λa f=>by have:=b3.o a f;have:=u.o.size;omega);have e5:=E (show¬(FW i j P (b.heap.size+1)∨b.heap.size+1=l.heap.size) from λg4=>g4.elim (λm=>(c.o.mh _ m).elim (λg=>by have:=F.o.lt _ g;omega) (λg=>by have:=n.o.lt;omega)) (λf=>by have:=n.o.lt;omega));have b1:=E c.o.res;obtain⟨i2,i3,i7,i9,j0,j1,j2,j3,j4,j5,i4,i5,i6⟩:=c.o.box.sq;have k4:=c.o.box.lt;have k2:h9.cell? l=K (A G 0):=c.o.o.cell 0;have j6:=c.o.o.free 0;have k5:=c.o.o.lt;clear c1 b8)
  |(go_at_call 302;refine(a6.o _ (b2.o.ints.ext N)).mono ?_;rintro f l ⟨rfl,L⟩;have u:=E (ext (N:X b b _) L);have R:=E (show ai l b (tB h (U v z cap)) 373 from((ai.new b _ _).alloc _).ext L);have n:=E (show ai l (b.heap.size+1) rO 373 from by have b6:=ai.new (b.alloc (M (tB h (U v z cap)) 373)) rO 373;rw [(Y:(b.alloc (M (tB h (U v z cap)) 373)).heap.size=b.heap.size+1)] at b6;exact b6.ext L);have b4:=E (F.o.ext u.o);have k3:l.cell? b=K (A G 2):=R.o.cell 0;have k6:=R.o.lt;clear L))
 have C:=E (RA h (U a2 64 a0) D.o);obtain⟨b5,b9⟩:∃b5,yF c8 (b.heap.size+1) h (U a2 64 a0)=b5:=⟨_,rfl⟩;have c0:=b9;unfold yF at c0;rw [c0];rw [b9] at C;obtain⟨g7,g8,s2,s3,h2,h3,h4,h5,h6,h7,g9,h0,h1⟩:=C.o.1.sq;refine YD (v:=Ye #[Yc (tB h (U a2 64 a0)),Ya]) (by simp [YU,results285,go_sem,g7,g8,s2,s3,h2,h3,h4,h5,h6,h7,g9,h0,h1];try rfl) rfl ?_;have k1:=u.o.size
 have g2:∀a,FW i j c6 a->a≠b.heap.size+1:=λa k f=>by
  rcases a8.o a k with q|q
  .rcases c.o.mh a q with w|w
   .have:=F.o.lt _ w;omega
   .have:=n.o.lt;omega
  .have:=b1.o.lt;omega
 refine⟨_,c6,rfl,e8.o.kept C.o.2 g2,?_,λa k=>?_⟩
 .have e9:af (FW i j t) b c8:=c.o.aD.mh e2.o λa k m=>by
   rcases m with m|m
   .rcases c.o.mh a m with w|w
    .exact w
    .have:=n.o.lt;omega
   .have:=n.o.lt;omega
  exact e9.mh C.o.2 λa k f=>by omega
 .rcases a8.o a k with q|q
  .exact(c.o.mh a q).imp id λg=>by have:=n.o.lt;omega
  .exact Yh (Yl c.o.aD.size q)
end
section
open Go.RowKit
theorem aN{b:V}{a i:Nat}{f g h:Z}(c:ai b a #[f,g,h] i):b.cell? a=K f/\b.cell? ⟨a,1,I⟩=K g/\b.cell? ⟨a,2,I⟩=K h:=⟨c.cell 0,c.cell 1,c.cell 2⟩
def xj(b a:Int)(f i:List Int)(g h c j k:Int):List Int:=uN (mB j (fC b a f g h c) (dt b a f g h c) (fB b a f g h c)) (gX i k)
theorem IH(c g h a:Nat)(f l m:Int)(b k:List Int)(j cap:Nat)(z:Z)(n:V)(w:Nat)(a1:aa n w (U (K j) b.length cap) b)(g6:bh f)
  (b8:aY n z k)(h0:k.length<=5000)(u:g+a<=c)(h1:1<=a)(W:a<=8)(h2:b.length<=1024)(b5:∀r,r<a*a->spot c g h a r<b.length)(g7:c<=32)(h5:h+a<=32)
  (y:(mB l (fC c f b g h a) (dt c f b g h a) (fB c f b g h a)).length=a*a)(a9:(gX k m).length<=a*a)
  (b0:∀v,v<(gX k m).length-> -1000000000<=(mB l (fC c f b g h a) (dt c f b g h a) (fB c f b g h a)).getD v 0+(gX k m).getD v 0/\(mB l (fC c f b g h a) (dt c f b g h a) (fB c f b g h a)).getD v 0+(gX k m).getD v 0<=1000000000):
  d prog 307 #[Yc #[A G c,A G f,U (K j) b.length cap],A G g,A G h,A G a,A G l,A G m,z] n
   λq s=>q=e (Ye #[])/\aa s w (U (K j) b.length cap) (Oe c g h a (xj c f b k g h a l m) b)/\af (·=j) n s:=by
 have a5:=E a1;have e6:=E b8;obtain⟨-, -,i4, -, -⟩:=a1.at;have i5:a*a<=64:=Nat.mul_le_mul W W;have c1:=E (λi u=>vZ (Yc #[A G c,A G f,U (K j) b.length cap]) c f b g h a i u);have c3:=E (λh8 h9 i h3 h4=>ry l h8 h9 (fC c f b g h a) (dt c f b g h a) (fB c f b g h a) i h3 h4);have a2:=E (λi0 i D J=>Qc i0 z (mB l (fC c f b g h a) (dt c f b g h a) (fB c f b g h a)) k m i D J h0 (by rw [y];omega) (by rw [y];exact a9) b0)
 have b2:(xj c f b k g h a l m).length=a*a:=by unfold xj uN;rw [df,List.length_replicate,y]
 have a8:xj c f b k g h a l m=uN (mB l (fC c f b g h a) (dt c f b g h a) (fB c f b g h a)) (gX k m):=rfl;rw [<-a8] at a2;have c2:=E (λg4 i D J=>Of c g h a f b (xj c f b k g h a l m) j cap g4 i w D J u h1 W h2 b2 b5 g7 h5);generalize xj c f b k g h a l m=g0 at*;generalize mB l (fC c f b g h a) (dt c f b g h a) (fB c f b g h a)=P at*;generalize fC c f b g h a=c6 at*;generalize dt c f b g h a=c5 at*;generalize fB c f b g h a=c4 at*;generalize pI l c6 c5 c4=i6 at*;have c8:=E (λ(i:V) (g5:aa i w (U (K j) b.length cap) b)=>show aO i (Yc #[A G c,A G f,U (K j) b.length cap]) c f b from⟨_,rfl,by unfold bh;omega,g6,g5.ints⟩);have c0:=E (ai.new n #[A G c,A G f,U (K j) b.length cap] 81);have a3:=E (N:X n n (n.alloc (M #[A G c,A G f,U (K j) b.length cap] 81)));clear a1 b8 b5 y a9 b0 a8 b2;generalize b.length=h7 at*;go_enter func307,ntmps307
 go_wp2_with (first
  |(go_at_call 318;refine(c1.o _ (c8.o _ (a5.o.ext a3.o))).mono ?_;rintro q j0 ⟨i7,i9,rfl,b6,b7,L⟩;have e4:=E b6;have e5:=E b7;have c7:=E (ext a3.o L);have e9:=E (c0.o.ext L);clear b6 b7 L)
  |(go_at_call 320;refine(c3.o _ _ _ e4.o.ints e5.o.ints).mono ?_;rintro q p ⟨h6,rfl,b4,R⟩;have e2:=E b4;have t:=E (ext c7.o R);have a6:=E (e9.o.ext R);clear b4 R))
 have a7:=E (λ(i:V) (u:X p p i)=>aN (a6.o.ext u));have g1:=E (a7.o p.drew (Yn _ _).drew);have e7:=E (show aY p.drew z k from(e6.o.ext t.o).ext (Yn _ _).drew);have e3:=E (show aY p.drew h6 P from e2.o.ints.ext (Yn _ _).drew)
 go_region_held3 (λs=>s.cell? n=K (A G c)/\s.cell? ⟨n,1,I⟩=K (A G f)/\s.cell? ⟨n,2,I⟩=K (U (K j) h7 cap))
  (first|with_reducible exact g1.o|with_reducible exact g2.o|with_reducible exact g3.o)
  (first
   |(go_at_call 305;refine(c2.o b9 C e8.o e0.o).mono ?_;rintro q j1 ⟨rfl,b3,T⟩;have g3:=E (aN ((a6.o.ext x.o).kept (F:=(·=j)) T O));have e1:=E b3;have c9:=E T;clear b3 T)
   |(go_at_call 306;refine(a2.o _ _ e3.o e7.o).mono ?_;rintro q C ⟨b9,rfl,a0,b1⟩;have x:=E (show X p p C from(Yn _ _).drew.trans b1);have g2:=E (a7.o C x.o);have e8:=E ((a5.o.ext t.o).ext x.o);have e0:=E (show∀i,af (·=j) C i->aY i b9 g0 from λi g8=>(a0.mr g8 (λr g9 q=>by have i3:p.heap.size<=r:=(a0.1.lt r g9).1;have i2:=t.o.size;have i1:r=j:=q;omega)).ints);clear a0 b1))
 all_goals go_wp2
 all_goals go_returns
 all_goals exact⟨rfl,e1.o,(af.aj (t.o.trans (x.o.mono t.o.size))).trans c9.o⟩
def lG(b a:Int)(f i:List Int)(g h c:Int):Int:=MB (iD i (fC b a f g h c) (dt b a f g h c) (fB b a f g h c)) (eZ (nW i (fC b a f g h c) (dt b a f g h c) (fB b a f g h c)) 4).1
def vX(b a:Int)(f i:List Int)(g h c:Int):Int:=MB (iD i (fC b a f g h c) (dt b a f g h c) (fB b a f g h c)) (eZ (nW i (fC b a f g h c) (dt b a f g h c) (fB b a f g h c)) 4).2
def ki(b a:Int)(f i:List Int)(g h c:Int):List Int:=mB (lG b a f i g h c) (fC b a f g h c) (dt b a f g h c) (fB b a f g h c)
theorem AP(b a g h f p:Int)(c i:List Int)(t m:Z)(j:V)(a2:aO j (Yc #[A G b,A G a,t]) b a c)(T:aY j m i)(c6:i.length<=5000)
  (a3:(tJ (Ec (dR i (ki b a c i g h f)) (wI i (ki b a c i g h f)))).length<=5000):
  d prog 299 #[Yc #[A G b,A G a,t],m,A G g,A G h,A G f,A G p] j
   λl b4=>∃b1,l=e (Ye #[A G (lG b a c i g h f),A G (vX b a c i g h f),b1])/\aa b4 j b1 (su i (ki b a c i g h f) p)/\X j j b4:=by
 have b9:=E a2;have z:=E T;obtain⟨e3,a7,g1,g0,a8⟩:=a2
 have c7:t=e3:=by simpa using a7
 subst c7;obtain⟨b3,b2,rfl⟩:=a8.shape;have b5:=E (λk e0=>vZ (Yc #[A G b,A G a,U b3 c.length b2]) b a c g h f k e0);have w:=E (λu v k r s c5=>Li m u v i (fC b a c g h f) (dt b a c g h f) (fB b a c g h f) k r s c5);have x:=E (λu v k c8 c9=>ry (lG b a c i g h f) u v (fC b a c g h f) (dt b a c g h f) (fB b a c g h f) k c8 c9);have b6:=E (λe4 k r s=>AK m e4 i (ki b a c i g h f) p k r s c6 a3);have J:lG b a c i g h f=MB (iD i (fC b a c g h f) (dt b a c g h f) (fB b a c g h f)) (eZ (nW i (fC b a c g h f) (dt b a c g h f) (fB b a c g h f)) 4).1:=rfl;have L:vX b a c i g h f=MB (iD i (fC b a c g h f) (dt b a c g h f) (fB b a c g h f)) (eZ (nW i (fC b a c g h f) (dt b a c g h f) (fB b a c g h f)) 4).2:=rfl;have R:ki b a c i g h f=mB (lG b a c i g h f) (fC b a c g h f) (dt b a c g h f) (fB b a c g h f):=rfl;rw [<-J,<-L] at w;rw [<-R] at x;clear J L R a3 a7 a8 T;generalize su i (ki b a c i g h f) p=e8 at*;generalize ki b a c i g h f=P at*;generalize lG b a c i g h f=c4 at*;generalize vX b a c i g h f=e9 at*;generalize pI c4 (fC b a c g h f) (dt b a c g h f) (fB b a c g h f)=g2 at*;generalize iD i (fC b a c g h f) (dt b a c g h f) (fB b a c g h f)=g3 at*;generalize fC b a c g h f=e7 at*;generalize dt b a c g h f=e6 at*;generalize fB b a c g h f=e5 at*;generalize c.length=e2 at*;have y:=E (N:X j j (j.alloc (M #[A G b,A G a,U b3 e2 b2] 81)));go_enter func299,ntmps299
 go_wp2_with (first
  |(go_at_call 318;refine(b5.o _ (b9.o.ext y.o)).mono ?_;rintro l g7 ⟨g5,g6,rfl,a9,b0,W⟩;have D:=E a9;have F:=E b0;have C:=E (ext y.o W);clear a9 b0 W)
  |(go_at_call 319;refine(w.o _ _ _ (z.o.ext C.o) D.o.ints F.o.ints).mono ?_;rintro l g8 ⟨rfl,n⟩;have b7:=E (ext C.o n);have c2:=E (D.o.ints.ext n);have c3:=E (F.o.ints.ext n);clear n)
  |(go_at_call 320;refine(x.o _ _ _ c2.o c3.o).mono ?_;rintro l g9 ⟨g4,rfl,a6,a0⟩;have c1:=E a6.ints;have q:=E (ext b7.o a0);clear a6 a0)
  |(go_at_call 295;refine(b6.o _ _ (z.o.ext q.o) c1.o).mono ?_;rintro l h0 ⟨e1,rfl,a5,a1⟩;have c0:=E (a5.mono q.o.size);have b8:=E (ext q.o a1);clear a5 a1))
 go_returns;exact⟨e1,rfl,c0.o,b8.o⟩
def az:List Int:=YA 64 128
def fX:List Int:=YA 16 128
def cM:List Int:=YA 16 0
theorem Qw:lG 8 8 az az 0 0 8=0:=by decide+kernel
theorem Sx:vX 8 8 az az 0 0 8=0:=by decide+kernel
theorem Iw:ki 8 8 az az 0 0 8=az:=by decide+kernel
theorem Nw:Ec (dR az az) (wI az az)=bF:=by decide+kernel
theorem Nu:tJ bF=bF:=by decide+kernel
theorem Ss:∀a∈([0,1,2,3]:List Int),jy bF a=bF:=by decide+kernel
theorem zj:∀a∈([0,1,2,3]:List Int),gX bF a=bF:=by decide+kernel
theorem Sv:uN az bF=az:=by decide+kernel
theorem Sq:Oe 8 0 0 8 az az=az:=by decide+kernel
theorem Ua:Ny 8 8 az 0 0 8=az:=by decide+kernel
theorem Qv:∀a∈([0,4]:List Int),∀b∈([0,4]:List Int),lG 8 8 az fX a b 4=0:=by decide+kernel
theorem Sw:∀a∈([0,4]:List Int),∀b∈([0,4]:List Int),vX 8 8 az fX a b 4=0:=by decide+kernel
theorem Iv:∀a∈([0,4]:List Int),∀b∈([0,4]:List Int),ki 8 8 az fX a b 4=fX:=by decide+kernel
theorem Ub:∀a∈([0,4]:List Int),∀b∈([0,4]:List Int),mB 0 (fC 8 8 az a b 4) (dt 8 8 az a b 4) (fB 8 8 az a b 4)=fX:=by decide+kernel
theorem Uc:mB 0 (fC 8 8 az 0 0 8) (dt 8 8 az 0 0 8) (fB 8 8 az 0 0 8)=az:=by decide+kernel
theorem Nv:Ec (dR fX fX) (wI fX fX)=cM:=by decide+kernel
theorem Nt:tJ cM=cM:=by decide+kernel
theorem Sr:∀a∈([0,1,2,3]:List Int),jy cM a=cM:=by decide+kernel
theorem zh:∀a∈([0,1,2,3]:List Int),gX cM a=cM:=by decide+kernel
theorem Su:uN fX cM=fX:=by decide+kernel
theorem Sp:∀a∈([0,4]:List Nat),∀b∈([0,4]:List Nat),Oe 8 a b 4 fX az=az:=by decide+kernel
theorem Qx:∀b∈([0,4]:List Nat),∀c∈([0,4]:List Nat),∀a∈Za 16,spot 8 b c 4 a<64:=by decide+kernel
theorem Qy:∀a∈Za 64,spot 8 0 0 8 a<64:=by decide+kernel
theorem ot{a:Int}(b:0<=a)(c:a<=3):a∈([0,1,2,3]:List Int):=by
 obtain rfl|rfl|rfl|rfl:a=0∨a=1∨a=2∨a=3:=O
 all_goals decide
theorem zw{a:Nat}(b:a=0∨a=4):(a:Int)∈([0,4]:List Int)/\a∈([0,4]:List Nat):=by
 rcases b with rfl|rfl
 all_goals decide
theorem Ix{R:List Int}{b:List Int}(j:b=fX∨b=az)(k:R=cM∨R=bF):∀a,a<R.length-> -1000000000<=b.getD a 0+R.getD a 0/\b.getD a 0+R.getD a 0<=1000000000:=by
 intro a _
 have h:∀(f:Nat) (g:Int) (c:Nat),(YA f g).getD c 0=g∨(YA f g).getD c 0=0:=λf g c=>by
  by_cases i:c<f
  .exact Yg (by simp [YR,i])
  .exact Yh (by simp [YR,i])
 have l:b.getD a 0=128∨b.getD a 0=0:=by rcases j with rfl|rfl<;>exact h _ _ _
 have m:R.getD a 0=0∨R.getD a 0=0:=by rcases k with rfl|rfl<;>exact h _ _ _
 omega
theorem KX(b:Int)(k:0<=b)(l:b<=3)(g f:Z)(a:V)(n:aO a (Yc #[A G 8,A G 8,g]) 8 8 az)(m:aY a f az):
  d prog 299 #[Yc #[A G 8,A G 8,g],f,A G 0,A G 0,A G 8,A G b] a
   λj i=>∃h,j=e (Ye #[A G 0,A G 0,h])/\aa i a h bF/\X a a i:=by
 have c:=AP 8 8 0 0 8 b az az g f a n m H (by rw [Iw,Nw,Nu];decide);rw [Qw,Sx,Iw] at c;unfold su at c;rw [Nw,Nu,Ss b (ot k l)] at c;exact c
theorem o_(h i:Nat)(s:h=0∨h=4)(t:i=0∨i=4)(b:Int)(o:0<=b)(p:b<=3)(k j:Z)(a:V)(r:aO a (Yc #[A G 8,A G 8,k]) 8 8 az)(q:aY a j fX):
  d prog 299 #[Yc #[A G 8,A G 8,k],j,A G h,A G i,A G 4,A G b] a
   λn m=>∃l,n=e (Ye #[A G 0,A G 0,l])/\aa m a l cM/\X a a m:=by
 have f:=(zw s).1;have g:=(zw t).1;have c:=AP 8 8 h i 4 b az fX k j a r q H (by rw [Iv _ f _ g,Nv,Nt];decide);rw [Qv _ f _ g,Sw _ f _ g,Iv _ f _ g] at c;unfold su at c;rw [Nv,Nt,Sr b (ot o p)] at c;exact c
theorem oS(f g:Nat)(v:f=0∨f=4)(w:g=0∨g=4)(b:Int)(i:0<=b)(j:b<=3)(a cap:Nat)(l:Z)(c:V)(h:Nat)(t:aa c h (U (K a) 64 cap) az)(u:aY c l cM):
  d prog 307 #[Yc #[A G 8,A G 8,U (K a) 64 cap],A G f,A G g,A G 4,A G 0,A G b,l] c
   λq p=>q=e (Ye #[])/\aa p h (U (K a) 64 cap) az/\af (·=a) c p:=by
 obtain⟨y,n⟩:=zw v;obtain⟨z,o⟩:=zw w;have k:=Ub _ y _ z
 have m:=IH 8 f g 4 8 0 b az cM a cap l c h t (by unfold bh;omega) u H O O O H (λx s=>Qx _ n _ o x (List.mem_range.2 s)) O O
  (by rw [show((8:Nat):Int)=8 from rfl,show((4:Nat):Int)=4 from rfl,k];decide) (by rw [zh _ (ot i j)];decide) (by rw [show((8:Nat):Int)=8 from rfl,show((4:Nat):Int)=4 from rfl,k];exact Ix (Yg rfl) (Yg (zh _ (ot i j))))
 have r:xj ((8:Nat):Int) 8 az cM f g ((4:Nat):Int) 0 b=fX:=by
  unfold xj;rw [show((8:Nat):Int)=8 from rfl,show((4:Nat):Int)=4 from rfl,k,zh _ (ot i j),Su]
 rw [r,Sp _ n _ o] at m;exact m
theorem KM(b:Int)(g:0<=b)(h:b<=3)(a cap:Nat)(j:Z)(c:V)(f:Nat)(p:aa c f (U (K a) 64 cap) az)(q:aY c j bF):
  d prog 307 #[Yc #[A G 8,A G 8,U (K a) 64 cap],A G 0,A G 0,A G 8,A G 0,A G b,j] c
   λm l=>m=e (Ye #[])/\aa l f (U (K a) 64 cap) az/\af (·=a) c l:=by
 have i:=Uc
 have k:=IH 8 0 0 8 8 0 b az bF a cap j c f p (by unfold bh;omega) q H O O O H (λr o=>Qy r (List.mem_range.2 o)) O O
  (by rw [show((8:Nat):Int)=8 from rfl,show((0:Nat):Int)=0 from rfl,i];decide) (by rw [zj _ (ot g h)];decide) (by rw [show((8:Nat):Int)=8 from rfl,show((0:Nat):Int)=0 from rfl,i];exact Ix (Yh rfl) (Yh (zj _ (ot g h))))
 have n:xj ((8:Nat):Int) 8 az bF ((0:Nat):Int) ((0:Nat):Int) ((8:Nat):Int) 0 b=az:=by
  unfold xj;rw [show((8:Nat):Int)=8 from rfl,show((0:Nat):Int)=0 from rfl,i,zj _ (ot g h),Sv]
 rw [n,Sq] at k;exact k
theorem zH(R:Z)(f:List Int)(b:V)(n:aY b R f)(s:f.length=64):
  d prog 321 #[R] b λj g=>∃i,j=e (Ye #[U (K b) 4 4,Ya])/\nx g b i f (b.heap.size+1) 64/\X b b g:=by
 obtain⟨c0,cap,rfl⟩:=n.shape;have a0:=E n.bh;have a3:=E n;have a1:=E s
 have e0:((f.length:Int) !=64)=false:=by simp [s]
 have c4:f.length<=64:=O;have b5:=Ws;clear n s;go_enter func321,ntmps321;go_wp2;clear b5
 go_loopw [15] (λv wr=>∃(c:Nat) (i:Nat->Z),c<=f.length/\v=A G c/\nx wr b i f (b.heap.size+1) c/\X b b wr/\b.heap.size+1<=wr.heap.size) (λv _=>f.length - (Yz v).toNat)
 case atStart=>exact⟨0,_,Yr _,rfl,nx.start b f,N,Y⟩
 case round=>
  obtain⟨c,i,c9,rfl,z,m,F⟩:=hrel;have h:=E z;clear z;by_cases b4:c<f.length
  .obtain⟨c1,c3,x,_,_,_,_,y⟩:=a3.o.ext m
   simp only [Yy] at x;obtain⟨rfl, -,rfl⟩:=x;obtain⟨c2,e2,rfl,a7⟩:=y c b4;have L:=rX a0.o c;have w:=E (λ(g:V) q a9 b0 b1=>h.o.step (w':=g) (v':=q) O F rfl (IB (O:c<64)) a9 b0 b1);obtain⟨C,D⟩:=h.o.cell (IB (O:c<64));have l:=E (h.o.own _ (IB (O:c<64)));have a5:=E (sh f (kq c) c);have c7:=IB (O:c<64);have c8:=SV c;have r:=E h.o;generalize kq c=p at*;generalize b6:f.getD c 0=b7 at*;have a6:=E L;clear y L b6 h
   go_wp2_with (at_builtin;refine zZ rfl (.tmp 32) (.tmp 34) rfl (b.heap.size+1) _ _ b7 rfl l.o rfl Y a6.o (by have:=a5.o;omega) F ?_)
   intro q g u k J
   obtain⟨T,P,W,rfl⟩:∃T P W,q=U T P W:=by obtain⟨b8,b9,j⟩:=u.shape;exact⟨b8,_,b9,j⟩
   have a2:=E (w.o g _ u k J);have t:=l.o.RX (b:=b.heap.size) (Yg O);have c5:g.cell? ⟨b.heap.size,p,I⟩=K (i p):=k.cell C t;have c6:g.frozen? ⟨b.heap.size,p,I⟩=false:=(World.frozen?_of_block (a:=⟨b.heap.size,p,I⟩) (k.block b O t)).trans D;have b2:X b b g:=m.grown k m.size (λa8 b3=>by have:=(l.o.1.lt a8 b3).1;omega);have e1:=k.size;clear u k J w l r C D t a7;go_wp2;go_roundw
   case rel=>exact⟨c+1,_,O,S,a2.o,b2.setCell Y _,by simp;omega⟩
   case measure=>simp [Yz];omega
  .have j:c=64:=by have:=a1.o;omega
   have r:=E (show nx wr b i f (b.heap.size+1) 64 from j▸h.o);clear j h;go_wp2;go_returns;exact⟨i,rfl,r.o,m⟩
theorem mW{F:Nat->Prop}{c:V}{b:Nat}(a:F b):∀(i:List Z) (o:Nat) (f:V),af F c f->af F c (f.setCells b o i)
 |[],_,_,h=>h
 |_::g,o,_,h=>mW a g (o+1) _ (aS h a)
theorem Bb:∀q∈([0,1,2,3]:List Nat),ff az q 64=fX:=by decide+kernel
def IX(a b c f:Z):Array Z:=#[A G 3,A G 0,A G 0,A G 0,A G 0,A G 0,A G 0,A G 0,U I 0 0,a,b,c,f]
theorem ai.V_{a:V}{o i:Nat}{c f g h:Z}(b:ai a o (IX c f g h) i):a.cell? o=K (A G 3)/\a.cell? ⟨o,1,I⟩=K (A G 0)/\a.cell? ⟨o,2,I⟩=K (A G 0)/\a.cell? ⟨o,3,I⟩=K (A G 0)/\a.cell? ⟨o,4,I⟩=K (A G 0)/\a.cell? ⟨o,5,I⟩=K (A G 0)/\a.cell? ⟨o,6,I⟩=K (A G 0)/\a.cell? ⟨o,7,I⟩=K (A G 0)/\a.cell? ⟨o,8,I⟩=K (U I 0 0)/\a.cell? ⟨o,9,I⟩=K (c)/\a.cell? ⟨o,10,I⟩=K (f)/\a.cell? ⟨o,11,I⟩=K (g)/\a.cell? ⟨o,12,I⟩=K (h):=
 ⟨b.cell 0,b.cell 1,b.cell 2,b.cell 3,b.cell 4,b.cell 5,b.cell 6,b.cell 7,b.cell 8,b.cell 9,b.cell 10,b.cell 11,b.cell 12⟩
structure iu(wr:V)(b0 g gc L s:Nat)(p:Nat->Z)(a b c d:Z):Prop where
 box:ai wr b0 #[A G 8,A G 8,U (K g) 64 gc] 81
 pix:aa wr g (U (K g) 64 gc) az
 row:ai wr L #[p 0,p 1,p 2,p 3] 26
 own:∀q,q<4->aa wr (L+1) (p q) fX
 sq:ai wr s (IX a b c d) 373
 res:ai wr (b0+1) rO 373
 ord:b0+1<g/\g<L/\L<s/\∀q,q<4->∀j,(p q).ownBlock=K j->j<s
section
variable {wr w':V} {b0 g gc L s:Nat} {p:Nat->Z} {a b c d:Z}
theorem iu.ext(f:iu wr b0 g gc L s p a b c d)(h:X wr wr w'):iu w' b0 g gc L s p a b c d:=
 ⟨f.box.ext h,f.pix.ext h,f.row.ext h,λq i=>(f.own q i).ext h,f.sq.ext h,f.res.ext h,f.ord⟩
theorem iu.lay(f:iu wr b0 g gc L s p a b c d)(h:af (·=g) wr w')(m:aa w' g (U (K g) 64 gc) az):iu w' b0 g gc L s p a b c d:=by
 obtain⟨o,r,t,u⟩:=f.ord;exact⟨f.box.kept h (O:¬b0=g),m,f.row.kept h (O:¬L=g),λq i=>(f.own q i).mr h λj l k=>by have:=((f.own q i).1.lt j l).1;have n:j=g:=k;omega,f.sq.kept h (O:¬s=g),f.res.kept h (O:¬b0+1=g),f.ord⟩
theorem iu.set(f:iu wr b0 g gc L s p a b c d)(h:af (·=s) wr w'){l m n o:Z}(u:ai w' s (IX l m n o) 373):iu w' b0 g gc L s p l m n o:=by
 obtain⟨x,y,z,v⟩:=f.ord;exact⟨f.box.kept h (O:¬b0=s),f.pix.mr h (λi k j=>by have w:g=i:=YG k;have t:i=s:=j;omega),f.row.kept h (O:¬L=s),λq r=>(f.own q r).mr h λi k j=>by have:=v q r i k;have t:i=s:=j;omega,u,f.res.kept h (O:¬b0+1=s),f.ord⟩
theorem iu.frame(f:iu wr b0 g gc L s p a b c d):aO wr (Yc #[A G 8,A G 8,U (K g) 64 gc]) 8 8 az:=⟨_,rfl,by unfold bh;omega,by unfold bh;omega,f.pix.ints⟩
end
theorem mQ{y wr b:V}{k n o g a i c:Nat}{x:Nat->Z}{h j l m a' b' c' d' u:Z}(F:((IX h j l m).setIfInBounds (2+i) (A G 0)).setIfInBounds (9+i) u=IX a' b' c' d')
  (q:iu wr k n o g a x h j l m)(s:X wr wr b)(v:aa b wr u cM)(C:X c y wr)(p:c<=a):
  iu ((b.setCell ⟨a,2+i,I⟩ (A G 0)).setCell ⟨a,9+i,I⟩ u) k n o g a x a' b' c' d'/\aY ((b.setCell ⟨a,2+i,I⟩ (A G 0)).setCell ⟨a,9+i,I⟩ u) u cM/\X c y ((b.setCell ⟨a,2+i,I⟩ (A G 0)).setCell ⟨a,9+i,I⟩ u):=by
 have r:=q.ext s;have t:af (·=a) b ((b.setCell ⟨a,2+i,I⟩ (A G 0)).setCell ⟨a,9+i,I⟩ u):=aS (aS (af.refl _ _) rfl) rfl;have L:=q.sq.lt;refine⟨r.set t ?_,(v.mr t λw D z=>?_).ints,((C.trans (s.mono O)).setCell p _).setCell p _⟩
 .have f:=(r.sq.set (2+i) (A G 0)).set (9+i) u
  rw [F] at f;exact f
 .have f:=(v.1.lt w D).1
  have J:w=a:=z;omega
theorem aa.base{g:V}{i a f cap:Nat}{h:List Int}(b:aa g i (U (K a) f cap) h):aa g a (U (K a) f cap) h:=by
 obtain⟨⟨l,b|⟨o,n,j,c,p,m⟩⟩,k⟩:=b
 .cases b.1
 .simp only [Yy,YQ,Addr.mk.injEq,and_true] at c
  obtain⟨rfl,rfl,rfl⟩:=c;exact⟨⟨l,Yh ⟨_,_,j,rfl,Yk _,m⟩⟩,k⟩
theorem aa.Sj{h i:V}{c f:Nat}{b:Z}{j:List Int}(g:aa h c b j)(k:X f h i)(m:∀a,b.ownBlock=K a->a<f):aa i c b j:=
 ⟨an g.1 λa l=>k.block a (m a l),g.2⟩
theorem EZ{b g:V}{c f i o:Nat}{n:Nat->Z}{l p:Z}(t:ai b c #[A G 8,A G 8,p] 81)(s:ai b (c+1) rO 373)
  (r:aa b o (U (K f) 64 i) az)(v:c+1<f)(w:f<b.heap.size)(h:nx g b n az (b.heap.size+1) 64)(u:l=U (K f) 64 i)
  (j:X b (b.setCell ⟨c,2,I⟩ l) g):
  iu (g.alloc (M (IX (U I 0 0) (U I 0 0) (U I 0 0) (U I 0 0)) 373)) c f i b g n (U I 0 0) (U I 0 0) (U I 0 0) (U I 0 0):=by
 subst u;have z:b.heap.size<g.heap.size:=h.ay.lt;refine⟨((t.set 2 _).below j O).alloc _,?_,h.ay.alloc _,λq k=>?_,ai.new _ _ _,((s.ab _ _ (by show c+1≠c;omega)).below j O).alloc _,v,w,z,λq k C x=>((h.own q k).1.lt C x).2⟩
 .refine aa.alloc (aa.Sj (aa.ab r.base (a:=⟨c,2,I⟩) (by show c<f;omega) _) j λD y=>?_) _
  have:f=D:=YG y;omega
 .have m:=h.own q k
  rw [show ff az q 64=fX from Bb q (by
   obtain rfl|rfl|rfl|rfl:q=0∨q=1∨q=2∨q=3:=O
   all_goals decide)] at m
  exact m.alloc _
theorem Km(a6:Int)(b2:0<=a6)(b3:a6<=3)(g1 e5:Z)(a:V)(k1:aO a (Yc #[A G 8,A G 8,g1]) 8 8 az)(c0:aY a e5 az):
  d prog 300 #[Yc #[A G 8,A G 8,g1],e5,A G 0,A G 0,A G a6] a
   λg l7=>∃k t p l w q m x r n y s,g=e (Ye #[Yc (IX (U k t p) (U l w q) (U m x r) (U n y s)),A G 24])/\X a a l7:=by
 have j1:=E c0;obtain⟨k5,i2,m5,c9,e1⟩:=k1
 have k4:g1=k5:=by simpa using i2
 subst k4;obtain⟨c4,c3,rfl⟩:=e1.shape;rw [show az.length=64 from rfl] at e1⊢;have j6:=E e1;have i7:=E (λi e8=>xK (U c4 64 c3) az i e8 H H);have i9:=E (λi e8=>zH e5 az i e8 rfl);have j0:=E (N:X a a ((a.alloc (M #[A G 8,A G 8,U c4 64 c3] 81)).alloc (M rO 373)));clear i2 e1 c0;go_enter func300,ntmps300
 go_wp2_with (first
  |(go_at_call 268;refine(i7.o _ (j6.o.ext N)).mono ?_;rintro g c5 ⟨q0,rfl,e6,e0⟩;have j5:=E e6;obtain⟨h,a9,rfl,k2,k3⟩:=e6.head H;have e4:=E (ext j0.o e0);have h6:=(show ai c5 a #[A G 8,A G 8,U c4 64 c3] 81 from((ai.new a _ _).alloc _).ext e0);have c6:=E h6;have j8:=E (show ai c5 (a.heap.size+1) rO 373 from by have c8:=ai.new (a.alloc (M #[A G 8,A G 8,U c4 64 c3] 81)) rO 373;rw [(Y:(a.alloc (M #[A G 8,A G 8,U c4 64 c3] 81)).heap.size=a.heap.size+1)] at c8;exact c8.ext e0);have m9:c5.cell? ⟨a,2,I⟩=K (U c4 64 c3):=c6.o.cell 2;have m1:=c6.o.free 2;have n0:=c6.o.lt;clear h6;clear e6 e0)
  |(go_at_call 321;refine(i9.o _ (j1.o.ext (e4.o.setCell (Yk _) _))).mono ?_;rintro g i6 ⟨b1,rfl,i3,h7⟩;have j7:=E i3;have j2:=E h7;clear i3 h7))
 obtain⟨b0,h3⟩:∃b0,c5.heap.size=b0:=⟨_,rfl⟩;obtain⟨W,i4⟩:∃W,i6.heap.size=W:=⟨_,rfl⟩;have i5:(c5.setCell ⟨a,2,I⟩ (U (K h) az.length a9)).heap.size=c5.heap.size:=Y;have e7:=j7.o;have c0:=j2.o;rw [i5] at e7 c0;have c9:=EZ c6.o j8.o j5.o (by have c8:=k2;simp at c8;omega) k3 e7 rfl c0;have g9:=E (show X a a i6 from(e4.o.setCell (Yk _) _).trans (c0.mono e4.o.size));rw [h3,i4] at c9;clear e7 c0 i5;have j4:=E c9;rw [i4];have j3:=E (g9.o.alloc g9.o.size (M (IX (U I 0 0) (U I 0 0) (U I 0 0) (U I 0 0)) 373));clear c9
 try rw [h3]
 go_loopw [35,15] (λc1 j9 wr=>∃k t p l w q m x r n y s,∃j:Nat,j<=4/\c1=A G j/\j9=A G 24/\iu wr a h a9 b0 W b1 (U k t p) (U l w q) (U m x r) (U n y s)/\X a a wr) (λc1 _ _=>4 - (Yz c1).toNat)
 case atStart=>exact⟨I,0,0,I,0,0,I,0,0,I,0,0,0,Yr _,rfl,rfl,j4.o,j3.o⟩
 case round=>
  obtain⟨k,t,p,l,w,q,m,x,r,n,y,s,j,m7,rfl,rfl,f,k0⟩:=hrel;have a0:=E f;have c2:=E k0;have m3:=f.box.lt;obtain⟨l8,l9,m0⟩:=aN f.box;have m4:=f.sq.lt;have m2:=f.row.lt;have a8:=E (show a.heap.size+1<h/\h<b0/\b0<W from⟨f.ord.1,f.ord.2.1,f.ord.2.2.1⟩)
  have m6:¬a.heap.size=W:=by have:=a8.o;omega
  have m8:¬a.heap.size+1=W:=by have:=a8.o;omega
  by_cases h8:j=0
  .subst h8
   have g5:wr.cell? ⟨b0,0,I⟩=K (b1 0):=f.row.cell 0;have b8:=E (f.own 0 O).ints;have b5:=E (λi J L=>o_ 0 0 O O a6 b2 b3 (U (K h) 64 a9) (b1 0) i J L);have b4:=E (λa5 i J L=>oS 0 0 O O a6 b2 b3 h a9 a5 i h J L);clear f
   go_wp2_with (first
    |(go_at_call 307;refine(b4.o _ _ a2.o.pix b9.o).mono ?_;rintro g g4 ⟨rfl,a3,R⟩;have b7:=E (a2.o.lay R a3);have b6:=E (a1.o.trans (R.below (B:=a.heap.size) (λj g=>by have c7:j=h:=g;have:=a8.o;omega) a1.o.size));clear a3 R)
    |(go_at_call 299;refine(b5.o _ a0.o.frame b8.o).mono ?_;rintro g a7 ⟨a5,rfl,T,P⟩;obtain⟨D,C,rfl⟩:=T.shape;have z:=E (mQ (i:=0) (u:=U D cM.length C) (a':=(U D cM.length C)) (b':=(U l w q)) (c':=(U m x r)) (d':=(U n y s)) rfl a0.o P T c2.o (by have:=a8.o;omega));have a2:=E z.o.1;have b9:=E z.o.2.1;have a1:=E z.o.2.2;have c:=E (a0.o.ext P);obtain⟨g6,g7,g8⟩:=aN c.o.box;have e2:a7.cell? ⟨W,2+0,I⟩=K (A G 0):=c.o.sq.cell (2+0);have e3:a7.cell? ⟨W,9+0,I⟩=K (U k t p):=c.o.sq.cell (9+0);have g2:=c.o.sq.free (2+0);have g3:=c.o.sq.free (9+0);have g0:=c.o.sq.lt;have e9:=c.o.box.lt;clear T P))
   go_roundw
   case rel=>exact⟨D,cM.length,C,l,w,q,m,x,r,n,y,s,1,O,S,rfl,b7.o,b6.o⟩
   case measure=>simp [Yz]
  by_cases h9:j=1
  .subst h9
   have g5:wr.cell? ⟨b0,1,I⟩=K (b1 1):=f.row.cell 1;have b8:=E (f.own 1 O).ints;have b5:=E (λi J L=>o_ 4 0 O O a6 b2 b3 (U (K h) 64 a9) (b1 1) i J L);have b4:=E (λa5 i J L=>oS 4 0 O O a6 b2 b3 h a9 a5 i h J L);clear f
   go_wp2_with (first
    |(go_at_call 307;refine(b4.o _ _ a2.o.pix b9.o).mono ?_;rintro g g4 ⟨rfl,a3,R⟩;have b7:=E (a2.o.lay R a3);have b6:=E (a1.o.trans (R.below (B:=a.heap.size) (λj g=>by have c7:j=h:=g;have:=a8.o;omega) a1.o.size));clear a3 R)
    |(go_at_call 299;refine(b5.o _ a0.o.frame b8.o).mono ?_;rintro g a7 ⟨a5,rfl,T,P⟩;obtain⟨D,C,rfl⟩:=T.shape;have z:=E (mQ (i:=1) (u:=U D cM.length C) (a':=(U k t p)) (b':=(U D cM.length C)) (c':=(U m x r)) (d':=(U n y s)) rfl a0.o P T c2.o (by have:=a8.o;omega));have a2:=E z.o.1;have b9:=E z.o.2.1;have a1:=E z.o.2.2;have c:=E (a0.o.ext P);obtain⟨g6,g7,g8⟩:=aN c.o.box;have e2:a7.cell? ⟨W,2+1,I⟩=K (A G 0):=c.o.sq.cell (2+1);have e3:a7.cell? ⟨W,9+1,I⟩=K (U l w q):=c.o.sq.cell (9+1);have g2:=c.o.sq.free (2+1);have g3:=c.o.sq.free (9+1);have g0:=c.o.sq.lt;have e9:=c.o.box.lt;clear T P))
   go_roundw
   case rel=>exact⟨k,t,p,D,cM.length,C,m,x,r,n,y,s,2,O,S,rfl,b7.o,b6.o⟩
   case measure=>simp [Yz]
  by_cases i0:j=2
  .subst i0
   have g5:wr.cell? ⟨b0,2,I⟩=K (b1 2):=f.row.cell 2;have b8:=E (f.own 2 O).ints;have b5:=E (λi J L=>o_ 0 4 O O a6 b2 b3 (U (K h) 64 a9) (b1 2) i J L);have b4:=E (λa5 i J L=>oS 0 4 O O a6 b2 b3 h a9 a5 i h J L);clear f
   go_wp2_with (first
    |(go_at_call 307;refine(b4.o _ _ a2.o.pix b9.o).mono ?_;rintro g g4 ⟨rfl,a3,R⟩;have b7:=E (a2.o.lay R a3);have b6:=E (a1.o.trans (R.below (B:=a.heap.size) (λj g=>by have c7:j=h:=g;have:=a8.o;omega) a1.o.size));clear a3 R)
    |(go_at_call 299;refine(b5.o _ a0.o.frame b8.o).mono ?_;rintro g a7 ⟨a5,rfl,T,P⟩;obtain⟨D,C,rfl⟩:=T.shape;have z:=E (mQ (i:=2) (u:=U D cM.length C) (a':=(U k t p)) (b':=(U l w q)) (c':=(U D cM.length C)) (d':=(U n y s)) rfl a0.o P T c2.o (by have:=a8.o;omega));have a2:=E z.o.1;have b9:=E z.o.2.1;have a1:=E z.o.2.2;have c:=E (a0.o.ext P);obtain⟨g6,g7,g8⟩:=aN c.o.box;have e2:a7.cell? ⟨W,2+2,I⟩=K (A G 0):=c.o.sq.cell (2+2);have e3:a7.cell? ⟨W,9+2,I⟩=K (U m x r):=c.o.sq.cell (9+2);have g2:=c.o.sq.free (2+2);have g3:=c.o.sq.free (9+2);have g0:=c.o.sq.lt;have e9:=c.o.box.lt;clear T P))
   go_roundw
   case rel=>exact⟨k,t,p,l,w,q,D,cM.length,C,n,y,s,3,O,S,rfl,b7.o,b6.o⟩
   case measure=>simp [Yz]
  by_cases i1:j=3
  .subst i1
   have g5:wr.cell? ⟨b0,3,I⟩=K (b1 3):=f.row.cell 3;have b8:=E (f.own 3 O).ints;have b5:=E (λi J L=>o_ 4 4 O O a6 b2 b3 (U (K h) 64 a9) (b1 3) i J L);have b4:=E (λa5 i J L=>oS 4 4 O O a6 b2 b3 h a9 a5 i h J L);clear f
   go_wp2_with (first
    |(go_at_call 307;refine(b4.o _ _ a2.o.pix b9.o).mono ?_;rintro g g4 ⟨rfl,a3,R⟩;have b7:=E (a2.o.lay R a3);have b6:=E (a1.o.trans (R.below (B:=a.heap.size) (λj g=>by have c7:j=h:=g;have:=a8.o;omega) a1.o.size));clear a3 R)
    |(go_at_call 299;refine(b5.o _ a0.o.frame b8.o).mono ?_;rintro g a7 ⟨a5,rfl,T,P⟩;obtain⟨D,C,rfl⟩:=T.shape;have z:=E (mQ (i:=3) (u:=U D cM.length C) (a':=(U k t p)) (b':=(U l w q)) (c':=(U m x r)) (d':=(U D cM.length C)) rfl a0.o P T c2.o (by have:=a8.o;omega));have a2:=E z.o.1;have b9:=E z.o.2.1;have a1:=E z.o.2.2;have c:=E (a0.o.ext P);obtain⟨g6,g7,g8⟩:=aN c.o.box;have e2:a7.cell? ⟨W,2+3,I⟩=K (A G 0):=c.o.sq.cell (2+3);have e3:a7.cell? ⟨W,9+3,I⟩=K (U n y s):=c.o.sq.cell (9+3);have g2:=c.o.sq.free (2+3);have g3:=c.o.sq.free (9+3);have g0:=c.o.sq.lt;have e9:=c.o.box.lt;clear T P))
   go_roundw
   case rel=>exact⟨k,t,p,l,w,q,m,x,r,D,cM.length,C,4,O,S,rfl,b7.o,b6.o⟩
   case measure=>simp [Yz]
  obtain rfl:j=4:=O;obtain⟨n2,n3,n9,o0,o1,o2,o3,o4,o5,o6,n4,n6,n8⟩:=f.sq.V_;obtain⟨o7,o8,p2,p3,p4,p5,p6,p7,p8,p9,o9,p0,p1⟩:=f.res.UY;obtain⟨q1,q2,e2,q6,q7,q8,q9,r0,r1,e3,q3,q4,q5⟩:=f.res.Iu;have n1:=f.res.lt;have h1:=E (tX (cs:=IX (U k t p) (U l w q) (U m x r) (U n y s)) f.res rfl);have h0:=E (mW (F:=(·=a.heap.size+1)) (b:=a.heap.size+1) rfl (IX (U k t p) (U l w q) (U m x r) (U n y s)).toList 0 wr (af.refl _ _));clear f l8 l9 m0 h8 h9 i0 i1;go_wp2;obtain⟨h2,h4⟩:∃h2,wr.setCells (a.heap.size+1) 0 (IX (U k t p) (U l w q) (U m x r) (U n y s)).toList=h2:=⟨_,rfl⟩;have h5:=h4;simp only [IX,World.setCells] at h5;rw [h5];rw [h4] at h1 h0;obtain⟨k6,k7,s2,s3,l1,l2,l3,l4,l5,l6,k8,k9,l0⟩:=h1.o.V_;refine YD (v:=Ye #[Yc (IX (U k t p) (U l w q) (U m x r) (U n y s)),A G 24]) (by simp [YU,results300,go_sem,k6,k7,s2,s3,l1,l2,l3,l4,l5,l6,k8,k9,l0];try rfl) rfl ?_;exact⟨k,t,p,l,w,q,m,x,r,n,y,s,rfl,c2.o.trans (h0.o.below (B:=a.heap.size) (λj g=>by have c7:j=a.heap.size+1:=g;omega) c2.o.size)⟩
def yE(a:Z):Array Z:=#[A G 2,A G 0,A G 0,A G 0,A G 0,A G 0,A G 0,A G 0,a,U I 0 0,U I 0 0,U I 0 0,U I 0 0]
theorem PI(c a:Nat)(h:Option Yi)(i g:Nat)(f:V)(l:ai f c #[A G (-1)] 3)(k:ai f a rO 373)(u:c≠a):
  d prog 293 #[Yc (yE (U h i g)),A G 8,Q (K c),Q (K a)] f
   λj t=>j=e (Ye #[])/\ai t c #[A G 8] 3/\ai t a (yE (U h i g)) 373/\af (λm=>m=c∨m=a) f t:=by
 have J:=l.lt;have L:=k.lt;have C:f.cell? c=K (A G (-1)):=l.cell 0;have D:=l.free 0;obtain⟨P,R,a1,a2,a3,a5,a6,a7,a8,a9,T,W,a0⟩:=k.UY;obtain⟨b0,b1,b5,b6,b7,b8,b9,c0,c1,c2,b2,b3,b4⟩:=k.Iu
 have z:¬a=c:=λj=>u j.symm
 have s:=tX (cs:=yE (U h i g)) k rfl;have n:=mW (F:=(·=a)) (b:=a) rfl (yE (U h i g)).toList 0 f (af.refl _ _);have r:=l.kept n u;obtain⟨q,p⟩:∃q,f.setCells a 0 (yE (U h i g)).toList=q:=⟨_,rfl⟩;rw [p] at s n r;simp only [yE,World.setCells] at p;have x:=E (s.ab c (A G 8) (by show a≠c;exact z));have w:=E (r.set 0 (A G 8));have v:=E (show af (λm=>m=c∨m=a) f (q.setCell c (A G 8)) from aS (n.mono λ_ _ j=>Yh j) (Yg rfl));have y:=E p;clear l k s n r p
 show d prog 293 #[Yc #[A G 2,A G 0,A G 0,A G 0,A G 0,A G 0,A G 0,A G 0,U h i g,U I 0 0,U I 0 0,U I 0 0,U I 0 0],A G 8,Q (K c),Q (K a)] f _
 go_enter func293,ntmps293;go_wp2;rw [y.o];go_returns;exact⟨rfl,w.o.alloc _,x.o.alloc _,v.o.trans (af.aj ((Yn _ _).alloc (Yk _) _))⟩
theorem RE(b j:Nat)(f g h i:Z)(a:V)(c:ai a b #[A G 8] 3):
  d prog 293 #[Yc (IX f g h i),A G 24,Q (K b),Q (K j)] a
   λk l=>k=e (Ye #[])/\X a a l:=by
 have n:=c.lt;have m:a.cell? b=K (A G 8):=c.cell 0;clear c
 show d prog 293 #[Yc #[A G 3,A G 0,A G 0,A G 0,A G 0,A G 0,A G 0,A G 0,U I 0 0,f,g,h,i],A G 24,Q (K b),Q (K j)] a _
 go_enter func293,ntmps293;go_wp2;go_returns;exact⟨rfl,N⟩
theorem ai.VS{a:V}{o f:Nat}{c:Z}(b:ai a o (yE c) f):a.cell? o=K (A G 2)/\a.cell? ⟨o,1,I⟩=K (A G 0)/\a.cell? ⟨o,2,I⟩=K (A G 0)/\a.cell? ⟨o,3,I⟩=K (A G 0)/\a.cell? ⟨o,4,I⟩=K (A G 0)/\a.cell? ⟨o,5,I⟩=K (A G 0)/\a.cell? ⟨o,6,I⟩=K (A G 0)/\a.cell? ⟨o,7,I⟩=K (A G 0)/\a.cell? ⟨o,8,I⟩=K (c)/\a.cell? ⟨o,9,I⟩=K (U I 0 0)/\a.cell? ⟨o,10,I⟩=K (U I 0 0)/\a.cell? ⟨o,11,I⟩=K (U I 0 0)/\a.cell? ⟨o,12,I⟩=K (U I 0 0):=
 ⟨b.cell 0,b.cell 1,b.cell 2,b.cell 3,b.cell 4,b.cell 5,b.cell 6,b.cell 7,b.cell 8,b.cell 9,b.cell 10,b.cell 11,b.cell 12⟩
structure Ed(wx:V)(N pl pb:Nat)(cv Y:Z)(X:Array Z):Prop where
 box:ai wx (N+1) #[A G 8,A G 8,cv] 81
 res:ai wx (N+3) rO 373
 Qk:ai wx pb X 373
 least:ai wx pl #[Y] 3
 ord:N+3<pb/\pl=pb+1
theorem Ed.ext{c l:V}{f k j:Nat}{i h:Z}{g:Array Z}(a:Ed c f k j i h g)(b:X c c l):Ed l f k j i h g:=
 ⟨a.box.ext b,a.res.ext b,a.Qk.ext b,a.least.ext b,a.ord⟩
theorem Ed.take{m f:V}{g c b:Nat}{j o i:Z}{n h:Array Z}(a:Ed m g c b j o n)(k:af (λl=>l=c∨l=b) m f)(p:ai f b h 373)(q:ai f c #[i] 3):Ed f g c b j i h:=by
 have:=a.ord;exact⟨a.box.kept k O,a.res.kept k O,p,q,a.ord⟩
theorem MW{c f:V}{a b:Z}{g B C:Array Z}{h:Z}(n:g=#[A G 8,A G 8,a])(i:X ((((c.alloc (M g 81)).alloc (M #[A G 8,A G 8,h] 81)).alloc (M C 81)).alloc (M rO 373)).heap.size ((((c.alloc (M g 81)).alloc (M #[A G 8,A G 8,h] 81)).alloc (M C 81)).alloc (M rO 373)) f):
  Ed ((f.alloc (M rO 373)).alloc (M #[A G (-1)] 3)) c (f.heap.size+1) f h (A G (-1)) rO/\ai f (c.heap.size+1) #[A G 8,A G 8,h] 81:=by
 have m:=i.size;have j:=ai.new (c.alloc (M g 81)) #[A G 8,A G 8,h] 81;rw [(Y:(c.alloc (M g 81)).heap.size=c.heap.size+1)] at j;have k:=ai.new (((c.alloc (M g 81)).alloc (M #[A G 8,A G 8,h] 81)).alloc (M C 81)) rO 373;rw [(Y:(((c.alloc (M g 81)).alloc (M #[A G 8,A G 8,h] 81)).alloc (M C 81)).heap.size=c.heap.size+3)] at k;have l:=ai.new (f.alloc (M rO 373)) #[A G (-1)] 3;rw [(Y:(f.alloc (M rO 373)).heap.size=f.heap.size+1)] at l;refine⟨⟨((((j.alloc _).alloc _).ext i).alloc _).alloc _,((k.ext i).alloc _).alloc _,(ai.new f _ _).alloc _,l,?_,rfl⟩,((j.alloc _).alloc _).ext i⟩;simp at m;omega
theorem Ax(q h0:Int)(c7:0<=q)(c8:q<=3)(C u:Z)(f:V)(a8:aO f (Yc #[A G 8,A G 8,C]) 8 8 az)(a1:aO f (Yc #[A G 8,A G 8,u]) 8 8 az):
  d prog 284 #[Yc #[A G 8,A G 8,C],Yc #[A G 8,A G 8,u],Yc #[A G 0,A G 0,U I 0 0],.bool true,A G 0,A G 0,A G q,A G h0] f
   λc e5=>∃i h,c=e (Yc (yE (U i 64 h)))/\aa e5 f (U i 64 h) bF/\X f f e5:=by
 have g5:=E a8;have b8:=E a1
 obtain⟨s,r,rfl⟩:∃s r,C=U s 64 r:=by
  obtain⟨b2,a6,_,_,a7⟩:=a8
  have c:C=b2:=by simpa using a6
  subst c;obtain⟨b1,b0,c⟩:=a7.shape;exact⟨b1,b0,c⟩
 obtain⟨n,m,rfl⟩:∃n m,u=U n 64 m:=by
  obtain⟨b2,a6,_,_,a7⟩:=a1
  have c:u=b2:=by simpa using a6
  subst c;obtain⟨b1,b0,c⟩:=a7.shape;exact⟨b1,b0,c⟩
 have b4:=E (λt g8=>Cv (Yc #[A G 8,A G 8,U s 64 r]) 8 8 az 0 0 8 t g8);rw [Ua] at b4;have e8:=E (λk t L P=>KX q c7 c8 (U n 64 m) k t L P);have e7:=E (λk t L P=>Km q c7 c8 (U n 64 m) k t L P);have e9:=E (N:X f f ((((f.alloc (M #[A G 8,A G 8,U s 64 r] 81)).alloc (M #[A G 8,A G 8,U n 64 m] 81)).alloc (M #[A G 0,A G 0,U I 0 0] 81)).alloc (M rO 373)));clear a8 a1;go_enter func284,ntmps284
 go_wp2_with (first
  |(go_at_call 293;refine(RE (g.heap.size+1) g _ _ _ _ i3 b9.o.least).mono ?_;rintro c b3 ⟨rfl,y⟩;have j:=E (b9.o.ext y);have c3:=E (ext g2.o y);have c5:=E (g4.o.ext y);obtain⟨k4,k5,k9,l0,l1,l2,l3,l4,l5,l6,k6,k7,k8⟩:=j.o.Qk.VS;obtain⟨l7,l8,m2,m3,m4,m5,m6,m7,m8,m9,l9,m0,m1⟩:=j.o.res.UY;obtain⟨n8,n9,o3,o4,o5,o6,o7,o8,o9,p0,o0,o1,o2⟩:=j.o.res.Iu;have j6:=j.o.res.lt;have j5:=j.o.Qk.lt;clear y)
  |(go_at_call 300;refine(e7.o k e6 (b8.o.ext c2.o) (b5.o.ints.ext g0.o)).mono ?_;rintro c i3 ⟨i4,k0,i9,i5,k1,j0,i6,k2,j1,i7,k3,j2,rfl,x⟩;have b9:=E (J.o.ext x);have g2:=E (ext c2.o x);have g4:=E (g3.o.ext x);clear x)
  |(go_at_call 293;refine(PI (g.heap.size+1) g i bF.length h i2 D.o.least D.o.Qk O).mono ?_;rintro c e6 ⟨rfl,e4,e3,p⟩;have J:=E (D.o.take p e3 e4);have e0:=c1.o.trans (p.below (B:=f.heap.size) (λa9 c=>by have:=l.o.size;omega) c1.o.size);have c2:=E e0;have g0:=E (show X g g e6 from b7.o.trans (p.below (B:=g.heap.size) (λa9 c=>O) b7.o.size));have g3:=E (c4.o.mr p (λz a3 c=>by have R:=(c4.o.1.lt z a3).1;simp at R;omega));obtain⟨n0,n1,n2⟩:=aN J.o.box;have j8:=J.o.box.lt;clear e4 e3 p e0)
  |(go_at_call 299;refine(e8.o k _ (b8.o.ext c0.o) (b5.o.ints.ext b6.o)).mono ?_;rintro c i2 ⟨j7,rfl,a5,w⟩;obtain⟨i,h,rfl⟩:=a5.shape;have c4:=E a5;have D:=E (g1.o.ext w);have c1:=E (ext c0.o w);have b7:=E (ext b6.o w);clear a5 w)
  |(go_at_call 260;refine(b4.o _ (g5.o.ext N)).mono ?_;rintro c g ⟨k,rfl,e2,a2⟩;have b5:=E e2;have l:=E (ext e9.o a2);have⟨c9,a0⟩:=MW (a:=U s 64 r) (b:=U I 0 0) (B:=#[]) rfl a2;have g1:=E c9;have c0:=E ((l.o.alloc l.o.size (M rO 373)).alloc (Yl l.o.size Y) (M #[A G (-1)] 3));have b6:=E (show X g g _ from((Yn g g).alloc (Yk _) (M rO 373)).alloc Y (M #[A G (-1)] 3));obtain⟨n3,n4,n6⟩:=aN a0;have g9:=a0.lt;have j9:f.heap.size<g.heap.size:=Nat.lt_trans (Nat.lt_succ_self _) g9;clear e2 a2 c9 a0))
 have e1:=tX (cs:=yE (U i bF.length h)) (show ai b3 (f.heap.size+1+1+1) rO 373 from j.o.res) rfl;have T:=mW (F:=(·=f.heap.size+1+1+1)) (b:=f.heap.size+1+1+1) rfl (yE (U i bF.length h)).toList 0 b3 (af.refl _ _);obtain⟨c6,W⟩:∃c6,b3.setCells (f.heap.size+1+1+1) 0 (yE (U i bF.length h)).toList=c6:=⟨_,rfl⟩;rw [W] at e1 T;simp only [yE,World.setCells] at W;rw [W];obtain⟨h1,h2,s2,s3,h6,h7,h8,h9,i0,i1,h3,h4,h5⟩:=e1.VS;refine YD (v:=Yc (yE (U i bF.length h))) (by simp [YU,results284,go_sem,h1,h2,s2,s3,h6,h7,h8,h9,i0,i1,h3,h4,h5];try rfl) rfl ?_;have j3:=j.o.ord;have j4:=l.o.size;refine⟨i,h,rfl,?_,c3.o.trans (T.below (B:=f.heap.size) (λa9 c=>by have g6:a9=f.heap.size+1+1+1:=c;omega) c3.o.size)⟩
 have R:=c5.o.mr T λz a3 c=>by
  have g7:=(c5.o.1.lt z a3).1;have g6:z=f.heap.size+1+1+1:=c;simp at g7;omega
 exact R.mono (by simp;omega)
end
section
open Go.RowKit Go.Extern.Stop Go.Stop Go.Extern
def gS(a:Int)(b:Z):Z:=Yc #[A G a,b]
theorem OG(c:Nat)(c0:c<=15)(R:Z)(g:Bs)(a:V)(y:ah a R g)(b4:g.length<65536):
  d prog 287 #[Yc #[A G 1,A G c,R]] a λu W=>∃T,u=e (Ye #[gS 1 T,Ya])/\ah W T (Ym c::g)/\X a a W:=by
 obtain⟨p,n,rfl⟩:=y.shape;have D:=E y;obtain⟨f,w⟩:∃f,g.length=f:=⟨_,rfl⟩;have a3:=E w;rw [w] at b4 D⊢;have c6:(c:Int)<=15:=O
 have c7:decide (15<(c:Int))=false:=by simp;omega
 have c8:decide ((65536:Int)<=(f:Int))=false:=by simp;omega
 have b9:=iK c;generalize Ym c=i at*;obtain⟨b,m⟩:∃b,(a.alloc (M #[A G 1,A G c,U p f n] 354)).alloc (M #[A G 0,U I 0 0] 284)=b:=⟨_,rfl⟩
 have b1:b.heap.size=a.heap.size+2:=by rw [<-m];simp
 have t:=E (show X a a b from by rw [<-m];go_grown);have r:=E (show ai b a #[A G 1,A G c,U p f n] 354 from by rw [<-m];exact(ai.new a _ _).alloc _)
 have a6:=E (show ai b (a.heap.size+1) #[A G 0,U I 0 0] 284 from by
  have F:=ai.new (a.alloc (M #[A G 1,A G c,U p f n] 354)) #[A G 0,U I 0 0] 284;rw [m,show(a.alloc (M #[A G 1,A G c,U p f n] 354)).heap.size=a.heap.size+1 from Y] at F
  exact F)
 have b0:=E (λ(a0:V) (u:a0.heap=(b.alloc (M #[A Yf (i.toNat:Int)] 5)).heap)=>show a0.ownsRow b 5 1 (U (K b) 1 1) ([i]:Bs).length (ak [i]) from an (qH b i) (λb5 _=>by rw [u]));have a2:=E (show([i]:Bs).length+g.length<=1099511627776 from by rw [a3.o];simp;omega);have a7:=E (D.o.ext t.o);have b8:=E (r.o.cell 0);have a9:=E m;have c1:a.heap.size<b.heap.size:=O;have P:a.heap.size+1<b.heap.size:=O;clear y w m b1;go_enter func287,ntmps287;go_wp2;rw [a9.o];have c2:b.cell? a=K (A G 1):=r.o.cell 0;have c4:b.cell? ⟨a,1,I⟩=K (A G c):=r.o.cell 1;have c5:b.cell? ⟨a,2,I⟩=K (U p f n):=r.o.cell 2
 go_region_law (refine cQ (by rfl) (.tmp 58) (.tmp 60) (by rfl) b (U (K b) 1 1) (U p f n) [i] g (by rfl) (b0.o _ rfl) (by rfl) (a7.o.ext N) a2.o (N:X b b _).size ?_;intro k l q x J b2;obtain⟨h,L⟩:∃h,([i]:Bs).length+g.length=h:=⟨_,rfl⟩;rw [L] at x⊢;have C:=E x;have s:=E (show X b b q from j' (Yn b b) J N (N:X b b _).size (by intro b5 b3;simp [YT] at b3;omega));have j:=E (a6.o.ext s.o);have z:=E (r.o.ext s.o);have c3:q.cell? a=K (A G 1):=z.o.cell 0;have c9:q.cell? ⟨a.heap.size+1,0,I⟩=K (A G 0):=j.o.cell 0;have e0:q.cell? ⟨a.heap.size+1,1,I⟩=K (U I 0 0):=j.o.cell 1;have e1:=j.o.free 0;have e2:=j.o.free 1;clear x J b2 L)
 all_goals
  have a5:=E ((j.o.set 0 (A G 1)).set 1 (U k h l));obtain⟨b6,b7, -, -⟩:=(show ai _ _ #[A G 1,U k h l] _ from a5.o).two;have a1:=E (show X a a ((q.setCell ⟨a.heap.size+1,0,I⟩ (A G 1)).setCell ⟨a.heap.size+1,1,I⟩ (U k h l)) from(((t.o.trans (s.o.mono t.o.size)).setCell (by show a.heap.size<=a.heap.size+1;omega) _).setCell (by show a.heap.size<=a.heap.size+1;omega) _));have a8:=E (show ah ((q.setCell ⟨a.heap.size+1,0,I⟩ (A G 1)).setCell ⟨a.heap.size+1,1,I⟩ (U k h l)) (U k h l) (i::g) from aq (Yu (Yu C.o (by show a.heap.size+1<b.heap.size;exact P) _) (by show a.heap.size+1<b.heap.size;exact P) _));clear j z s C;go_wp2;refine YD (v:=Ye #[gS 1 (U k h l),Ya]) (by simp [YU,results287,go_sem,b6,b7,gS];try rfl) rfl ?_;exact⟨_,rfl,a8.o,a1.o⟩
theorem AA(i:Int)(g:Option Yi)(a cap:Nat)(b:V)(h:a<=1000000):d prog 238 #[gS i (U g a cap)] b λc j=>c=e (A G ((a+8:Nat):Int))/\X b b j:=by
 have f:=E (λk=>Pt a k h);unfold gS;generalize a+8=l at*;go_enter func238,ntmps238
 go_wp2_with (go_at_call 273;refine(f.o _).mono ?_;rintro c m ⟨rfl,rfl⟩)
 go_returns;exact⟨rfl,N⟩
end
section
open Go.RowKit
theorem JT(g:Int)(t:0<=g)(u:g<=3)(b cap:Nat)(f:Option Yi)(c:Nat)(a:V)(h:Nat)(k:aa a h (U (K b) 64 cap) az)(l:aY a (U f 64 c) bF):
  d prog 286 #[Yc #[A G 8,A G 8,U (K b) 64 cap],Yc #[A G 0,A G 0,U I 0 0],A G 0,A G 0,A G g,Yc (yE (U f 64 c))] a
   λj m=>j=e (Ye #[])/\aa m h (U (K b) 64 cap) az/\af (·=b) a m:=by
 have p:=E k;have q:=E l;have n:=E (λx r s=>KM g t u b cap (U f 64 c) x h r s);have i:=E (N:X a a (((a.alloc (M #[A G 8,A G 8,U (K b) 64 cap] 81)).alloc (M #[A G 0,A G 0,U I 0 0] 81)).alloc (M (yE (U f 64 c)) 373)));clear k l
 show d prog 286 #[Yc #[A G 8,A G 8,U (K b) 64 cap],Yc #[A G 0,A G 0,U I 0 0],A G 0,A G 0,A G g,Yc #[A G 2,A G 0,A G 0,A G 0,A G 0,A G 0,A G 0,A G 0,U f 64 c,U I 0 0,U I 0 0,U I 0 0,U I 0 0]] a _
 go_enter func286,ntmps286
 go_wp2_with (go_at_call 307;refine(n.o _ (p.o.ext i.o) (q.o.ext i.o)).mono ?_;rintro j y ⟨rfl,w,v⟩)
 all_goals go_returns
 all_goals exact⟨rfl,w,(af.aj i.o).trans v⟩
theorem AO(b c:Int)(q:0<=b)(r:b<=3)(w:0<=c)(x:c<=7)(f:Z)(a:V)(j:aO a (Yc #[A G 8,A G 8,f]) 8 8 az):
  d prog 282 #[Yc #[A G 8,A G 8,f],Yc #[A G 0,A G 0,U I 0 0],.bool true,A G b,A G c] a λh n=>h=e Ya/\X a a n:=by
 have l:=E j;have g:=E (λp m=>cR (Yc #[A G 8,A G 8,f]) 8 8 az p m);rw [show gH 8 8 az=true from by decide+kernel] at g
 have s:decide (b<0)=false:=by simp;omega
 have t:decide (15<b)=false:=by simp;omega
 have u:decide (c<0)=false:=by simp;omega
 have v:decide (7<c)=false:=by simp;omega
 clear j;go_enter func282,ntmps282
 go_wp2_with (go_at_call 227;refine(g.o _ (l.o.ext N)).mono ?_;rintro h y ⟨rfl,i⟩;have k:=E (ext (N:X a a _) i);clear i)
 all_goals go_returns
 all_goals exact⟨rfl,k.o⟩
end
end Go.Proofs.YtajkpgaheechmaaGreatDoor
