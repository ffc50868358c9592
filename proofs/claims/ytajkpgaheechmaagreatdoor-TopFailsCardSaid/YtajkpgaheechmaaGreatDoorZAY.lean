/- EncI EncJ GopA GopB GopC GopD GopJ WhB WhC -/
import Derived.Test.YtajkpgaheechmaaGreatDoorZAX
import Derived.Test.YtajkpgaheechmaaGreatDoorZAU
set_option maxRecDepth 100000
set_option maxHeartbeats 16000000
set_option linter.unusedSimpArgs false
set_option linter.unusedVariables false
set_option linter.unusedSectionVars false
namespace Go.Proofs.YtajkpgaheechmaaGreatDoor
open _root_.Go.Proofs.Tryz
open Go.Value renaming int->A,slice->U,pointer->Q,nilIface->Ya,agg->Yc,tuple->Ye
open Go.IntKind renaming i64->G,wrap->Zc
open Option renaming none->I,some->K
open Go.Obj renaming cells->M
open Go.Ending renaming returned->e
open Go renaming World->V,Value->Z,Calls->d,Addr->Yi,bodyPost_ret->YD,maxLen->YO,results->YU
open Go.RowKit renaming Below->X,ownsRow_setCell_below->Yu,intOf->Yz
open Or renaming inl->Yg,inr->Yh
open Go.World renaming block_lt_of_cell?->Yj,ownsRow_nil->YC
open Nat renaming le_refl->Yk,le_trans->Yl,zero_le->Yr,lt_of_lt_of_le->Yv
open Go.RowKit.Below renaming refl->Yn
open Go.Value.slice renaming injEq->Yy
open Option.some renaming inj->YG
section
open Go.RowKit
structure tG(wx:V)(N F g gc pw pe:Nat)(sv v:Z)(m:nN):Prop where
 src:ai wx N #[A G 8,A G 8,sv] 81
 prev:ai wx (N+1) #[A G 0,A G 0,U I 0 0] 81
 rc:ai wx (N+2) #[A G 0,U I 0 0] 284
 rf:ai wx (N+3) #[A G 0,A G 0,U I 0 0] 81
 fb:ai wx F #[A G 8,A G 8,U (K g) 64 gc] 81
 pix:aa wx g (U (K g) 64 gc) az
 wr:eS wx pw pe v m
 ord:N+3<g/\g<F
 mh:∀j,FW pw pe v j->F<j
section
variable {wx wy:V} {N F g gc pw pe:Nat} {sv v v':Z} {m m':nN}
theorem tG.ext(a:tG wx N F g gc pw pe sv v m)(b:X wx wx wy):tG wy N F g gc pw pe sv v m:=
 ⟨a.src.ext b,a.prev.ext b,a.rc.ext b,a.rf.ext b,a.fb.ext b,a.pix.ext b,a.wr.ext b,a.ord,a.mh⟩
theorem tG.code(a:tG wx N F g gc pw pe sv v m)(b:gm pw pe v wx v' wy)(l:eS wy pw pe v' m'):tG wy N F g gc pw pe sv v' m':=by
 have q:=a.ord
 have c:∀h,h<=F->¬FW pw pe v h:=λh o k=>by have:=a.mh h k;omega
 have p:=a.fb.lt
 exact⟨a.src.kept b.aD (c _ O),a.prev.kept b.aD (c _ O),a.rc.kept b.aD (c _ O),a.rf.kept b.aD (c _ O),a.fb.kept b.aD (c _ (Yk _)),a.pix.mr b.aD (λf i=>c f (by have n:g=f:=YG i;omega)),l,a.ord,λf i=>by
  rcases b.own f i with j|j
  .exact a.mh f j
  .omega⟩
theorem tG.lay(a:tG wx N F g gc pw pe sv v m)(b:af (·=g) wx wy)(i:aa wy g (U (K g) 64 gc) az):tG wy N F g gc pw pe sv v m:=by
 have k:=a.ord;exact⟨a.src.kept b (O:¬N=g),a.prev.kept b (O:¬N+1=g),a.rc.kept b (O:¬N+2=g),a.rf.kept b (O:¬N+3=g),a.fb.kept b (O:¬F=g),i,a.wr.kept b (λc h f=>by have:=a.mh c h;have j:c=g:=f;omega),a.ord,a.mh⟩
end
theorem Ns{a k c o:V}{b p:Z}{f g n m B:Nat}
  (i:X ((((a.alloc (M #[A G 8,A G 8,b] 81)).alloc (M #[A G 0,A G 0,U I 0 0] 81)).alloc (M #[A G 0,U I 0 0] 284)).alloc (M #[A G 0,A G 0,U I 0 0] 81)).heap.size ((((a.alloc (M #[A G 8,A G 8,b] 81)).alloc (M #[A G 0,A G 0,U I 0 0] 81)).alloc (M #[A G 0,U I 0 0] 284)).alloc (M #[A G 0,A G 0,U I 0 0] 81)) k)
  (j:X k k c)(t:aa c k (U (K f) 64 g) az)
  (h:X (c.alloc (M #[A G 8,A G 8,U (K f) 64 g] 81)).heap.size (c.alloc (M #[A G 8,A G 8,U (K f) 64 g] 81)) o)
  (x:eS o n m (U I 0 0) nL)(w:(c.alloc (M #[A G 8,A G 8,U (K f) 64 g] 81)).heap.size<=n)(v:(c.alloc (M #[A G 8,A G 8,U (K f) 64 g] 81)).heap.size<=m):
  tG o a c f g n m b (U I 0 0) nL:=by
 have u:=(((ai.new a #[A G 8,A G 8,b] 81).alloc (M #[A G 0,A G 0,U I 0 0] 81)).alloc (M #[A G 0,U I 0 0] 284)).alloc (M #[A G 0,A G 0,U I 0 0] 81);have q:=ai.new (a.alloc (M #[A G 8,A G 8,b] 81)) #[A G 0,A G 0,U I 0 0] 81;have r:=ai.new ((a.alloc (M #[A G 8,A G 8,b] 81)).alloc (M #[A G 0,A G 0,U I 0 0] 81)) #[A G 0,U I 0 0] 284;have s:=ai.new (((a.alloc (M #[A G 8,A G 8,b] 81)).alloc (M #[A G 0,A G 0,U I 0 0] 81)).alloc (M #[A G 0,U I 0 0] 284)) #[A G 0,A G 0,U I 0 0] 81;rw [(Y:(a.alloc (M #[A G 8,A G 8,b] 81)).heap.size=a.heap.size+1)] at q;rw [(Y:((a.alloc (M #[A G 8,A G 8,b] 81)).alloc (M #[A G 0,A G 0,U I 0 0] 81)).heap.size=a.heap.size+2)] at r;rw [(Y:(((a.alloc (M #[A G 8,A G 8,b] 81)).alloc (M #[A G 0,A G 0,U I 0 0] 81)).alloc (M #[A G 0,U I 0 0] 284)).heap.size=a.heap.size+3)] at s;have y:=i.size;have s2:=j.size;have z:=(t.1.lt f rfl);simp at y w v;refine⟨(((u.ext i).ext j).alloc _).ext h,(((((q.alloc _).alloc _).ext i).ext j).alloc _).ext h,((((r.alloc _).ext i).ext j).alloc _).ext h,(((s.ext i).ext j).alloc _).ext h,(ai.new c _ _).ext h,(aa.base (t.alloc _)).ext h,x,O,?_⟩;rintro C (l|l|l)
 .omega
 .omega
 .cases l
theorem E'(s a3:Int)(b7:0<=s)(b8:s<=3)(n2:0<=a3)(n3:a3<=7)(a8:Z)(a:V)(c9:aO a (Yc #[A G 8,A G 8,a8]) 8 8 az):
  d prog 267 #[Yc #[A G 8,A G 8,a8],Yc #[A G 0,A G 0,U I 0 0],.bool true,A G s,A G a3] a
   λc n6=>∃r h6 q h k,c=e (Ye #[gS 1 (U r (h6+1) q),Yc #[A G 8,A G 8,U (K ⟨h,0,I⟩) 64 k],Ya])/\h6<=1000/\X a a n6:=by
 have g1:=E c9
 obtain⟨y,x,rfl⟩:∃y x,a8=U y 64 x:=by
  obtain⟨m8,m1,_,_,m2⟩:=c9
  have c:a8=m8:=by simpa using m1
  subst c;obtain⟨m7,m6,c⟩:=m2.shape;exact⟨m7,m6,c⟩
 have i2:=E (λi a2=>AO s a3 b7 b8 n2 n3 (U y 64 x) i a2);have e5:=E (λi=>zG 8 8 128 64 i (by decide+kernel) H H);rw [show bQ (λ_=>(128:Int)) 64=az from by decide+kernel] at e5;have i4:=E (λi=>xi i);have e4:=E (λk2 i R T=>Ax s a3 b7 b8 (U y 64 x) k2 i R T);simp only [yE] at e4;have i0:=E (λw v L m l z i R T j8=>Ez w v 0 z L (U m 64 l) nL i R O H T j8);have i3:=E (λh cap m l i z R T=>JT s b7 b8 h cap m l i z R T);clear c9;go_enter func267,ntmps267
 go_wp2_with (first
  |(go_at_call 282;refine(i2.o _ (g1.o.ext N)).mono ?_;rintro c u2 ⟨rfl,a7⟩;have i5:=E a7;have e7:=E (ext (N:X a a _) a7);have c0:=(((ai.new a #[A G 8,A G 8,U y 64 x] 81).alloc _).alloc _).alloc _|>.ext a7;obtain⟨h7,h8,h9⟩:=aN c0;have h5:=c0.lt;clear a7 c0)
  |(go_at_call 177;refine(e5.o _).mono ?_;rintro c n8 ⟨m5,rfl,c8,g4⟩;obtain⟨h,k,rfl,q3,q4⟩:=c8.head H;have j1:=E c8;have b3:=E g4;clear c8 g4)
  |(go_at_call 283;refine(i4.o _).mono ?_;rintro c e3 ⟨w,v,rfl,J,g9,h0,c1⟩;have j:=E (Ns (B:=0) (p:=Ya) i5.o b3.o j1.o c1 J h0 g9);have b5:=E (ext ((ext e7.o b3.o).alloc (ext e7.o b3.o).size _) c1);clear J g9 h0 c1))
 obtain⟨F,g3⟩:∃F,n8.heap.size=F:=⟨_,rfl⟩;rw [g3] at j⊢;clear h7 h8 h9 h5 g3
 go_loopw [17] (λb2 wr=>(b2=A G 0/\e3=wr)∨(b2=A G 8/\∃L,tG wr a F h k w v (U y 64 x) L (sQ nL 0)/\X a a wr)) (λb2 _=>(8 - Yz b2).toNat)
 case atStart=>exact Yg ⟨rfl,rfl⟩
 case round=>
  rcases hrel with⟨rfl,rfl⟩|⟨rfl,a5,g,W⟩
  .obtain⟨k7,k9,l1⟩:=aN j.o.fb
   have m3:=j.o.fb.lt;go_wp2
   go_loopw [18] (λb1 wr=>(b1=A G 0/\e3=wr)∨(b1=A G 8/\∃L,tG wr a F h k w v (U y 64 x) L (sQ nL 0)/\X a a wr)) (λb1 _=>(8 - Yz b1).toNat)
   case atStart=>exact Yg ⟨rfl,rfl⟩
   case round=>
    rcases hrel with⟨rfl,rfl⟩|⟨rfl,a5,g,W⟩
    .obtain⟨h7,h8,h9⟩:=aN j.o.src
     obtain⟨r4,r5,r6⟩:=aN j.o.prev;have h5:=j.o.src.lt;have r2:=j.o.prev.lt
     go_wp2_with (first
      |(go_at_call 286;refine(i3.o h k m l _ h b4.o.pix j6.o).mono ?_;rintro c u4 ⟨rfl,g8,c6⟩;have C:=E (b4.o.lay c6 g8);have P:=E (e8.o.trans (c6.below (B:=a.heap.size) (λe2 c=>by have k6:e2=h:=c;have:=b4.o.ord;omega) e8.o.size));clear g8 c6)
      |(go_at_call 285;refine(i0.o w v (U I 0 0) m l e3 _ a6.o.wr g2.o g0.o).mono ?_;rintro c u3 ⟨r7,a5,rfl,h4,a1⟩;have g:=a6.o.code a1 h4;have b4:=E g;have q7:=b6.o.size;have e8:=E (b6.o.trans (a1.aD.below (B:=a.heap.size) (λe2 l8=>by have:=a6.o.mh e2 l8;have:=a6.o.ord;omega) b6.o.size));have j6:=E ((g2.o.mr a1.aD (λu c5 c4=>g0.o u c4 c5)).ints);have b9:=i6.o.kept a1.aD (λc4=>by have l6:=j.o.wr.lt _ c4;have:=j3.o;omega);obtain⟨o2,o3,o7,o8,o9,p0,p1,p2,p3,p4,o4,o5,o6⟩:=b9.VS;have r1:=b9.lt;obtain⟨l3,l4,l5⟩:=aN g.fb;obtain⟨s7,s8,s9⟩:=aN g.prev;have lg:=g.fb.lt;have r3:=g.prev.lt;clear h4 a1 g b9)
      |(go_at_call 284;(refine(e4.o (U (K ⟨h,0,I⟩) 64 k) _ (g1.o.ext b5.o) ⟨_,rfl,by unfold bh;omega,by unfold bh;omega,j.o.pix.ints⟩).mono ?_;rintro c a9 ⟨m,l,rfl,e1,a0⟩;have j3:=E a0.size;have g2:=E (aa.alloc e1 (M (yE (U m 64 l)) 373));have i6:=E (ai.new a9 (yE (U m 64 l)) 373);have a6:=E ((j.o.ext a0).ext (N:X a9 a9 (a9.alloc (M (yE (U m 64 l)) 373))));have b6:=E ((ext b5.o a0).alloc (ext b5.o a0).size (M (yE (U m 64 l)) 373));have g0:=E (show∀u,FW w v (U I 0 0) u->(U m 64 l).ownBlock≠K u from λu c5 c=>by have q0:=j.o.wr.lt u c5;have l6:=(e1.1.lt u c).1;omega);clear e1 a0)))
     go_roundw
     case rel=>exact Yh ⟨rfl,a5,C.o,P.o⟩
     case measure=>decide
    .obtain⟨k8,l0,l2⟩:=aN g.fb
     have m4:=g.fb.lt;have C:=E g;have P:=E W;clear g W k7 k9 l1 m3;go_wp2;go_roundw
     case rel=>exact Yh ⟨rfl,a5,C.o,P.o⟩
     case measure=>decide
  .obtain⟨k8,l0,l2⟩:=aN g.fb
   have m4:=g.fb.lt;have C:=E g;have P:=E W
   have l9:(sQ nL 0).enc.o.length<=12:=by
    have p5:=AX nL false;have k6:=Cd (xT nL false) 0;have p6:=tV (tm (xT nL false) 0) 39 false;have p7:nL.enc.o.length=0:=rfl;unfold sQ;omega
   have l7:=Ni (sQ nL 0).enc;have i1:=E (λi a2=>PU w v a5 (sQ nL 0) i a2 O);generalize sQ nL 0=j7 at*;generalize EM j7.enc=n at*;obtain⟨qn,rfl⟩:∃qn:Nat,s=(qn:Int):=⟨s.toNat,O⟩;have e6:=E (λn4 i a2=>OG qn O n4 n i a2 O);simp only [gS] at e6;have h2:n.length<=1000:=O;have j5:=E h2;clear g W l9 l7 h2
   go_wp2_with fail
   refine(i1.o _ C.o.wr).mono ?_;rintro c u5 ⟨u0,rfl,e0,c2⟩;obtain⟨p9,p8,rfl⟩:=e0.shape;have j4:=E e0;have i9:=E (C.o.ext c2);have j0:=E (ext P.o c2);clear e0 c2
   go_wp2_with fail
   refine(e6.o _ _ j4.o).mono ?_;rintro c b0 ⟨u1,rfl,h1,c3⟩;obtain⟨r,q,rfl⟩:=h1.shape;have t:=i9.o.ext c3;have o1:=E t;have e9:=E (ext j0.o c3);obtain⟨l3,l4,l5⟩:=aN t.fb;have D:ai b0 (a.heap.size+1+1) #[A G 0,U I 0 0] 284:=t.rc;have p:ai b0 (a.heap.size+1+1+1) #[A G 0,A G 0,U I 0 0] 81:=t.rf;have m0:=t.ord;have q8:=t.fb.lt;go_wp2;obtain⟨b,g6⟩:∃b,a.heap.size+1+1+1=b:=⟨_,rfl⟩;obtain⟨f,g5⟩:∃f,a.heap.size+1+1=f:=⟨_,rfl⟩;rw [g6] at p⊢;rw [g5] at D⊢;have c7:¬f=b:=O;have g7:¬b=f:=O;have q5:¬F=b:=O;have q6:¬F=f:=O;have h3:a.heap.size<=f:=O;have J:a.heap.size<=b:=O
   have q1:¬b0.heap.size=f:=by have:=D.lt;omega
   have q2:¬b0.heap.size=b:=by have:=p.lt;omega
   obtain⟨r8,r9,s0,s3⟩:=D.two;obtain⟨s4,s5,s6⟩:=aN p;have u6:=p.free 0;have u7:=p.free 1;have u9:=p.free 2;have q9:=D.lt;have r0:=p.lt;have i7:=E D;have j2:=E p;clear h1 c3 t g6 g5 m0 D p
   go_region
   all_goals go_wp2
   all_goals
    have j9:=(i7.o.set 0 (A G 1)).set 1 (U r (n.length+1) q);have k0:=((j9.ab ⟨b,0,I⟩ (A G 8) (show f≠b from c7)).ab ⟨b,1,I⟩ (A G 8) (show f≠b from c7)).ab ⟨b,2,I⟩ (U (K ⟨h,0,I⟩) 64 k) (show f≠b from c7);have k3:=(j2.o.ab ⟨f,0,I⟩ (A G 1) (show b≠f from g7)).ab ⟨f,1,I⟩ (U r (n.length+1) q) (show b≠f from g7);have k4:=((k3.set 0 (A G 8)).set 1 (A G 8)).set 2 (U (K ⟨h,0,I⟩) 64 k);have k1:=(k0.alloc (M #[A G 1,U r (n.length+1) q] 284)).drew;have k5:=(k4.alloc (M #[A G 1,U r (n.length+1) q] 284)).drew;obtain⟨n9,o0, -, -⟩:=(show ai _ f #[A G 1,U r (n.length+1) q] _ from k1).two;obtain⟨m9,n0,n1⟩:=aN (show ai _ b #[A G 8,A G 8,U (K ⟨h,0,I⟩) 64 k] _ from k5);refine YD (v:=Ye #[gS 1 (U r (n.length+1) q),Yc #[A G 8,A G 8,U (K ⟨h,0,I⟩) 64 k],Ya]) (by simp [YU,results267,go_sem,n9,o0,m9,n0,n1,gS];try rfl) rfl ?_;exact⟨r,n.length,q,h,k,rfl,j5.o,(((((((e9.o.setCell (by show a.heap.size<=f;exact h3) _).setCell (by show a.heap.size<=f;exact h3) _).setCell (by show a.heap.size<=b;exact J) _).setCell (by show a.heap.size<=b;exact J) _).setCell (by show a.heap.size<=b;exact J) _).alloc (by have:=e9.o.size;simpa using this) _).drew)⟩
def bu:cF:=⟨0,3,0,0,4,8,64,8⟩
def bE:Array Z:=#[A G 0,A G 3,A G 0,A G 0,A G 4,A G 8,A G 64,A G 8]
theorem vB(a:V):d prog 63 #[Yc bE] a λc f=>c=e Ya/\X a a f:=by
 have b:=fV bu a;rw [(H:iB bu=true)] at b;exact b
structure Ae(wx:V)(N:Nat)(sv:Z):Prop where
 src:ai wx N #[A G 8,A G 8,sv] 81
 prev:ai wx (N+1) #[A G 0,A G 0,U I 0 0] 81
 JL:ai wx (N+1+1) bE 23
 rc:ai wx (N+1+1+1) #[A G 0,U I 0 0] 284
 rf:ai wx (N+1+1+1+1) #[A G 0,A G 0,U I 0 0] 81
theorem Ae.ext{c h:V}{f:Nat}{g:Z}(a:Ae c f g)(b:X c c h):Ae h f g:=⟨a.src.ext b,a.prev.ext b,a.JL.ext b,a.rc.ext b,a.rf.ext b⟩
theorem Ki(a:V)(h:Z):Ae (((((a.alloc (M #[A G 8,A G 8,h] 81)).alloc (M #[A G 0,A G 0,U I 0 0] 81)).alloc (M bE 23)).alloc (M #[A G 0,U I 0 0] 284)).alloc (M #[A G 0,A G 0,U I 0 0] 81)) a h:=by
 obtain⟨j,i⟩:∃b,b=a.alloc (M #[A G 8,A G 8,h] 81):=⟨_,rfl⟩;obtain⟨k,g⟩:∃b,b=j.alloc (M #[A G 0,A G 0,U I 0 0] 81):=⟨_,rfl⟩;obtain⟨l,f⟩:∃b,b=k.alloc (M bE 23):=⟨_,rfl⟩;obtain⟨m,c⟩:∃b,b=l.alloc (M #[A G 0,U I 0 0] 284):=⟨_,rfl⟩;rw [<-i,<-g,<-f,<-c]
 have o:j.heap.size=a.heap.size+1:=by rw [i];simp
 have s2:k.heap.size=a.heap.size+1+1:=by rw [g,<-o];simp
 have s3:l.heap.size=a.heap.size+1+1+1:=by rw [f,<-s2];simp
 have t:m.heap.size=a.heap.size+1+1+1+1:=by rw [c,<-s3];simp
 have p:ai j a #[A G 8,A G 8,h] 81:=by rw [i];exact ai.new _ _ _
 have q:ai k (a.heap.size+1) #[A G 0,A G 0,U I 0 0] 81:=by rw [g,<-o];exact ai.new _ _ _
 have r:ai l (a.heap.size+1+1) bE 23:=by rw [f,<-s2];exact ai.new _ _ _
 have s:ai m (a.heap.size+1+1+1) #[A G 0,U I 0 0] 284:=by rw [c,<-s3];exact ai.new _ _ _
 have n:=ai.new m #[A G 0,A G 0,U I 0 0] 81;rw [t] at n;refine⟨?_,?_,?_,s.alloc _,n⟩
 .refine ai.alloc ?_ _;rw [c];refine ai.alloc ?_ _;rw [f];refine ai.alloc ?_ _;rw [g];exact p.alloc _
 .refine ai.alloc ?_ _;rw [c];refine ai.alloc ?_ _;rw [f];exact q.alloc _
 .refine ai.alloc ?_ _;rw [c];exact r.alloc _
theorem Nq(x:Z)(a:V)(P:aO a (Yc #[A G 8,A G 8,x]) 8 8 az):
  d prog 232 #[Yc #[A G 8,A G 8,x],Yc #[A G 0,A G 0,U I 0 0],.bool true,Yc bE,A G 8] a
   λj h0=>∃g h,j=e (Ye #[gS 4 (U I 0 0),Yc #[A G 8,A G 8,U (K ⟨g,0,I⟩) 64 h],Ya])/\X a a h0:=by
 have c2:=E P
 obtain⟨r,p,rfl⟩:∃r p,x=U r 64 p:=by
  obtain⟨g4,e2,_,_,e3⟩:=P
  have j:x=g4:=by simpa using e2
  subst j;obtain⟨g3,g2,j⟩:=e3.shape;exact⟨g3,g2,j⟩
 have a2:=E (λl=>vB l);have a1:=E (λ(f:Nat) (e0:f<=3) l e5=>E' (f:Int) 0 O O O O (U r 64 p) l e5);simp only [gS] at a1;have W:=E (λc5 e8 cap l e1=>AA 1 c5 e8 cap l e1);simp only [gS] at W;have a3:=E (λl=>zG 8 8 128 64 l (by decide+kernel) H H);rw [show bQ (λ_=>(128:Int)) 64=az from by decide+kernel] at a3;have c3:=E (Ki a (U r 64 p));have b6:=E (N:X a a (((((a.alloc (M #[A G 8,A G 8,U r 64 p] 81)).alloc (M #[A G 0,A G 0,U I 0 0] 81)).alloc (M bE 23)).alloc (M #[A G 0,U I 0 0] 284)).alloc (M #[A G 0,A G 0,U I 0 0] 81)));clear P;unfold bE at a2⊢;go_enter func232,ntmps232
 go_wp2_with (first
  |(go_at_call 63;refine(a2.o _).mono ?_;rintro j h1 ⟨rfl,F⟩;have w:=c3.o.ext F;have c4:=E w;have b9:=E (ext b6.o F);have e6:h1.cell? ⟨a.heap.size+1+1,0,I⟩=K (A G 0):=w.JL.cell 0;have e7:=w.JL.lt;clear F w))
 clear e6 e7
 go_loopw [14] (λq wr=>∃f:Nat,f<=4/\q=A G f/\Ae wr a (U r 64 p)/\X a a wr) (λq _=>4 - (Yz q).toNat)
 case atStart=>exact⟨0,Yr _,rfl,c4.o,b9.o⟩
 case round=>
  obtain⟨f,e0,rfl,i,D⟩:=hrel;have a6:=E i;have y:=E D;obtain⟨h3,h4,h5⟩:=aN i.src;obtain⟨e9,g0,g1⟩:=aN i.prev;have z:wr.cell? ⟨a.heap.size+1+1,1,I⟩=K (A G 3):=i.JL.cell 1;have C:wr.cell? ⟨a.heap.size+1+1,2,I⟩=K (A G 0):=i.JL.cell 2;have i9:=i.src.lt;have i7:=i.prev.lt;have i6:=i.JL.lt;by_cases J:f<=3
  .have b5:=E (a1.o f J)
   have i2:(f:Int)<=3:=O;clear i D J
   go_wp2_with fail
   refine(b5.o _ (c2.o.ext y.o)).mono ?_;rintro j s ⟨g9,b4,g8,g,h,rfl,e4,m⟩;have t:=E (a6.o.ext m);have u:=E (ext y.o m);obtain⟨T,b1⟩:∃T:Nat,b4+1+8=T:=⟨_,rfl⟩;have i3:¬(T:Int)<=8:=O;have a0:=E (λl=>W.o g9 (b4+1) g8 l O);rw [b1] at a0;clear m b1 e4
   go_wp2_with fail
   refine(a0.o _).mono ?_;rintro j h2 ⟨rfl,a7⟩;have a5:=E (show X s s h2 from ext N a7);have b8:=E (t.o.ext a5.o);have c0:=E (ext u.o a5.o);clear a7;go_wp2;go_roundw
   case rel=>exact⟨f+1,O,S,b8.o,c0.o⟩
   case measure=>simp [Yz];omega
  .obtain rfl:f=4:=O
   clear i D J
   go_wp2_with (go_at_call 177;refine(a3.o _).mono ?_;rintro j s ⟨j0,rfl,b2,m⟩;obtain⟨g,h,rfl,i0,i1⟩:=b2.head H;have t:=E (a6.o.ext m);have u:=E (ext y.o m);clear m b2)
   have n:=t.o.rc;have k:=t.o.rf;obtain⟨b,a9⟩:∃b,a.heap.size+1+1+1+1=b:=⟨_,rfl⟩;obtain⟨c,a8⟩:∃c,a.heap.size+1+1+1=c:=⟨_,rfl⟩;rw [a9] at k⊢;rw [a8] at n⊢;have L:¬c=b:=O;have b0:¬b=c:=O;have b3:a.heap.size<=c:=O;have R:a.heap.size<=b:=O
   have h8:¬s.heap.size=c:=by have:=n.lt;omega
   have h9:¬s.heap.size=b:=by have:=k.lt;omega
   obtain⟨j1,j2,j3,j4⟩:=n.two;obtain⟨j5,j6,j7⟩:=aN k;have j8:=k.free 0;have j9:=k.free 1;have k0:=k.free 2;have i4:=n.lt;have i5:=k.lt;have b7:=E n;have c1:=E k;clear a9 a8 n k h3 h4 h5 e9 g0 g1 z C
   go_region
   all_goals go_wp2
   all_goals
    have z:=(b7.o.set 0 (A G 4)).set 1 (U I 0 0);have C:=((z.ab ⟨b,0,I⟩ (A G 8) (show c≠b from L)).ab ⟨b,1,I⟩ (A G 8) (show c≠b from L)).ab ⟨b,2,I⟩ (U (K ⟨g,0,I⟩) az.length h) (show c≠b from L);have c7:=(c1.o.ab ⟨c,0,I⟩ (A G 4) (show b≠c from b0)).ab ⟨c,1,I⟩ (U I 0 0) (show b≠c from b0);have c8:=((c7.set 0 (A G 8)).set 1 (A G 8)).set 2 (U (K ⟨g,0,I⟩) az.length h);have c6:=(C.alloc (M #[A G 8,A G 8,U (K ⟨g,0,I⟩) az.length h] 81)).drew;have c9:=(c8.alloc (M #[A G 8,A G 8,U (K ⟨g,0,I⟩) az.length h] 81)).drew;obtain⟨h6,h7, -, -⟩:=(show ai _ c #[A G 4,U I 0 0] _ from c6).two;obtain⟨g5,g6,g7⟩:=aN (show ai _ b #[A G 8,A G 8,U (K ⟨g,0,I⟩) az.length h] _ from c9);refine YD (v:=Ye #[gS 4 (U I 0 0),Yc #[A G 8,A G 8,U (K ⟨g,0,I⟩) az.length h],Ya]) (by simp [YU,results232,go_sem,h6,h7,g5,g6,g7,gS];try rfl) rfl ?_;exact⟨g,h,rfl,(((((((u.o.setCell (by show a.heap.size<=c;exact b3) _).setCell (by show a.heap.size<=c;exact b3) _).setCell (by show a.heap.size<=b;exact R) _).setCell (by show a.heap.size<=b;exact R) _).setCell (by show a.heap.size<=b;exact R) _).alloc (by have:=u.o.size;simpa using this) _).drew)⟩
structure uq(w:V)(b off:Nat)(p:Z):Prop where
 c0:w.cell? ⟨b,off,I⟩=K (A G 8)
 c1:w.cell? ⟨b,off+1,I⟩=K (A G 8)
 c2:w.cell? ⟨b,off+2,I⟩=K p
 fr:aO w (Yc #[A G 8,A G 8,p]) 8 8 az
theorem uq.lt{a:V}{b off:Nat}{f:Z}(c:uq a b off f):b<a.heap.size:=Yj a _ c.c0
theorem uq.ext{g h:V}{b off:Nat}{c:Z}(a:uq g b off c)(f:X g g h):uq h b off c:=
 ⟨(f.cell (p:=⟨b,off,I⟩) a.lt).trans a.c0,(f.cell (p:=⟨b,off+1,I⟩) a.lt).trans a.c1,(f.cell (p:=⟨b,off+2,I⟩) a.lt).trans a.c2,a.fr.ext f⟩
theorem NG(g:Nat)(fn:Func)(m:prog.funcs[g]? =K fn)(n:(fn.name== "runtime.NumGoroutine")=false)(k:fn.body.isNone=false)(j:Array Z)
  (i off cap:Nat)(p:Z)(a:V)(t:uq a i off p)(l:∀f,X a a f->d prog g (#[Yc #[A G 8,A G 8,p]]++j) f λb h=>b=e (.bool false)/\X f f h):
  d prog 280 #[U (K ⟨i,off,I⟩) 1 cap,.func (.func g) #[] j] a λb h=>b=e (A G (-1))/\X a a h:=by
 have q:=E l
 have z:=λ(r:Array Z) (a:V)=>eL m n k r a
 obtain⟨s,w,x, -⟩:=t;have y:=Yj a _ s;clear l m n k;go_enter func280,ntmps280;go_wp2
 go_loopw [8] (λc wr=>(c=A G 0/\a=wr)∨(c=A G 1/\X a a wr)) (λc _=>(1 - Yz c).toNat)
 case atStart=>exact Yg ⟨rfl,rfl⟩
 case round=>
  rcases hrel with⟨rfl,rfl⟩|⟨rfl,u⟩
  .go_wp2_with fail
   refine(q.o a (Yn _ _)).mono ?_;rintro b C ⟨rfl,v⟩;go_wp2;go_roundw
   case rel=>exact Yh ⟨rfl,v⟩
   case measure=>decide
  .go_wp2
   go_returns;exact⟨rfl,u⟩
theorem xL(c:Nat)(fn:Func)(n:prog.funcs[c]? =K fn)(p:(fn.name== "runtime.NumGoroutine")=false)(l:fn.body.isNone=false)(h:Array Z)
  (g off cap:Nat)(i:Z)(a:V)(k:uq a g off i)(m:∀f,X a a f->d prog c (#[Yc #[A G 8,A G 8,i]]++h) f λb j=>b=e (.bool false)/\X f f j):
  d prog 262 #[U (K ⟨g,off,I⟩) 1 cap,.func (.func c) #[] h] a λb j=>b=e (.bool false)/\X a a j:=by
 have q:=E (NG c fn n p l h g off cap i a k m);clear m n p l k;go_enter func262,ntmps262
 go_wp2_with (go_at_call 280;refine q.o.mono ?_;rintro b s ⟨rfl,r⟩)
 go_returns;exact⟨rfl,r⟩
theorem Ud(c:Option Yi)(b:Nat)(a:V)(h:aO a (Yc #[A G 8,A G 8,U c 64 b]) 8 8 az):
  d prog 263 #[Yc #[A G 8,A G 8,U c 64 b]] a λg m=>g=e (.bool false)/\X a a m:=by
 have f:=E (λn l=>cR (Yc #[A G 8,A G 8,U c 64 b]) 8 8 az n l);rw [show gH 8 8 az=true from by decide+kernel] at f;have k:=E h;clear h;go_enter func263,ntmps263
 go_wp2_with (go_at_call 227;refine(f.o _ (k.o.ext N)).mono ?_;rintro g p ⟨rfl,i⟩;have j:=E (ext (N:X a a _) i);clear i)
 go_returns;exact⟨rfl,j.o⟩
theorem Ue(i:Option Yi)(h c b off cap:Nat)(a:V)(g:uq a b off (U i 64 h))(f:ai a c #[U (K ⟨b,off,I⟩) 1 cap] 44):
  d prog 264 #[Yc #[A G 8,A G 8,U i 64 h],Q (K c)] a λj k=>j=e (.bool false)/\X a a k:=by
 have p:=g.lt;have o:=f.lt;have q:a.cell? c=K (U (K ⟨b,off,I⟩) 1 cap):=f.cell 0;obtain⟨l,m,n, -⟩:=g;clear f;go_enter func264,ntmps264;go_wp2;go_quiet (fail);go_wp2;go_returns;exact⟨rfl,ag N _⟩
def UU(a:Int):Bool:=decide (a<8)
theorem Uf(b:Int)(a:V):d prog 266 #[A G b] a λc f=>c=e (.bool (UU b))/\a=f:=by
 unfold UU;go_enter func266,ntmps266;go_wp2;go_returns;exact⟨rfl,rfl⟩
theorem Fe(j:Option Yi)(i b off cap:Nat)(F:Z)(a:V)(g:uq a b off (U j 64 i))(u:aY a F [8]):
  d prog 231 #[Yc bE,U (K ⟨b,off,I⟩) 1 cap,F] a λh a3=>h=e Ya/\X a a a3:=by
 have a9:=E g;have y:=E u;obtain⟨a1,a0,rfl⟩:=u.shape;have w:=E (λc=>vB c);have P:=E (λc (f:X a a c)=>xL 263 f263 func263 B B #[] b off cap (U j 64 i) c (g.ext f) (λv m=>Ud j i v ((g.fr.ext f).ext m)));have R:=E (λp c (f:X a a c) (a2:ai c p #[U (K ⟨b,off,I⟩) 1 cap] 44)=>xL 264 f264 func264 B B #[Q (K p)] b off cap (U j 64 i) c (g.ext f) (λv m=>Ue j i p b off cap v ((g.ext f).ext m) (a2.ext m)));have n:=E (λc f=>fW 266 f266 func266 B B #[] UU (.slice a1 ([8]:List Int).length a0) [8] c f (λa8 _=>Uf a8 c));rw [(H:([8]:List Int).any UU=false)] at n;rw [show([8]:List Int).length=1 from rfl] at n y⊢
 have L:=E (show ai ((a.alloc (M bE 23)).alloc (M #[U (K ⟨b,off,I⟩) 1 cap] 44)) (a.heap.size+1) #[U (K ⟨b,off,I⟩) 1 cap] 44 from by
  have J:=ai.new (a.alloc (M bE 23)) #[U (K ⟨b,off,I⟩) 1 cap] 44;rw [(Y:(a.alloc (M bE 23)).heap.size=a.heap.size+1)] at J
  exact J)
 have T:=E (N:X a a ((a.alloc (M bE 23)).alloc (M #[U (K ⟨b,off,I⟩) 1 cap] 44)));clear g u;unfold bE at w⊢;go_enter func231,ntmps231
 go_wp2_with (first
  |(go_at_call 63;refine(w.o _).mono ?_;rintro h a5 ⟨rfl,r⟩;have z:=E (ext T.o r);have k:=L.o.ext r;have W:=E k;have b0:a5.cell? ⟨a.heap.size+1,0,I⟩=K (U (K ⟨b,off,I⟩) 1 cap):=k.cell 0;have b3:=k.lt;clear r k)
  |(go_at_call 265;refine(n.o _ (y.o.ext D.o)).mono ?_;rintro h b6 ⟨rfl,rfl⟩)
  |(go_at_call 262;refine(R.o _ _ C.o x.o).mono ?_;rintro h a7 ⟨rfl,t⟩;have D:=E (ext C.o t);have q:=x.o.ext t;have b2:a7.cell? ⟨a.heap.size+1,0,I⟩=K (U (K ⟨b,off,I⟩) 1 cap):=q.cell 0;have b5:=q.lt;clear t q)
  |(go_at_call 262;refine(P.o _ z.o).mono ?_;rintro h a6 ⟨rfl,s⟩;have C:=E (ext z.o s);have l:=W.o.ext s;have x:=E l;have b1:a6.cell? ⟨a.heap.size+1,0,I⟩=K (U (K ⟨b,off,I⟩) 1 cap):=l.cell 0;have b4:=l.lt;clear s l))
 all_goals go_returns
 all_goals exact⟨rfl,D.o⟩
theorem vy:(prog.info? 284).map (λa=>(a.zero,a.size,a.bytes))=K (K (Yc #[A G 0,U I 0 0]),2,32):=B
theorem gK{m:V}{b c l:Nat}{a:Z}{f:List Z}(j:m.ownsRow b c l a 1 f):∃i h,a=U i 1 h:=by
 rcases aV j with⟨_,k⟩|⟨o,n,g,_⟩
 .cases k
 .exact⟨_,_,g⟩
theorem pQ:(prog.info? 81).map (λa=>(a.zero,a.size,a.bytes))=K (K (Yc #[A G 0,A G 0,U I 0 0]),3,40):=B
def MH(c:V)(a:Nat)(b:Z):Prop:=c.ownsRow a 284 2 b 1 [A G 4,U I 0 0]
def Ei(g:V)(a:Nat)(f:Z):Prop:=∃(b c:Nat),g.ownsRow a 81 3 f 1 [A G 8,A G 8,U (K b) 64 c]
def zC:Array Z:=#[A G 0,U I 0 0]
def zF:Array Z:=#[A G 0,A G 0,U I 0 0]
structure Ji(wx:V)(P L C co:Nat)(oo:Nat)(po:Option Yi)(pc:Nat):Prop where
 l0:wx.cell? L=K (A G 8)
 l1:wx.cell? ⟨L,1,I⟩=K (A G 8)
 l2:wx.cell? ⟨L,2,I⟩=K (U po 64 pc)
 p0:wx.cell? P=K (A G 0)
 p1:wx.cell? ⟨P,1,I⟩=K (A G 0)
 p2:wx.cell? ⟨P,2,I⟩=K (U I 0 0)
 k0:wx.cell? C=K (A G 0)
 k1:wx.cell? ⟨C,1,I⟩=K (A G 3)
 k2:wx.cell? ⟨C,2,I⟩=K (A G 0)
 k3:wx.cell? ⟨C,3,I⟩=K (A G 0)
 k4:wx.cell? ⟨C,4,I⟩=K (A G 4)
 k5:wx.cell? ⟨C,5,I⟩=K (A G 8)
 k6:wx.cell? ⟨C,6,I⟩=K (A G 64)
 k7:wx.cell? ⟨C,7,I⟩=K (A G 8)
 c:wx.cell? ⟨co,oo,I⟩=K (A G 8)
theorem Ji.ext{f h:V}{P j C k m:Nat}{o:Option Yi}{n:Nat}(a:Ji f P j C k m o n)(p:X f f h):Ji h P j C k m o n:=by
 have b:∀{g:Yi} {i:Z},f.cell? g=K i->h.cell? g=K i:=λ{g i} l=>(p.cell (Yj f g l)).trans l
 exact⟨b a.l0,b a.l1,b a.l2,b a.p0,b a.p1,b a.p2,b a.k0,b a.k1,b a.k2,b a.k3,b a.k4,b a.k5,b a.k6,b a.k7,b a.c⟩
theorem EI(a:V)(C i k:Nat)(f:Option Yi)(c:Nat)(n:ai a C bE 23)(j:a.cell? ⟨i,k,I⟩=K (A G 8)):
  Ji ((a.alloc (M zF 81)).alloc (M #[A G 8,A G 8,U f 64 c] 81)) a (a.heap.size+1) C i k f c:=by
 have l:=ai.new a zF 81;have g:=ai.new (a.alloc (M zF 81)) #[A G 8,A G 8,U f 64 c] 81;rw [(Y:(a.alloc (M zF 81)).heap.size=a.heap.size+1)] at g;have h:=l.alloc (M #[A G 8,A G 8,U f 64 c] 81);have b:=(n.alloc (M zF 81)).alloc (M #[A G 8,A G 8,U f 64 c] 81);have m:X a a ((a.alloc (M zF 81)).alloc (M #[A G 8,A G 8,U f 64 c] 81)):=N;exact⟨g.cell 0,g.cell 1,g.cell 2,h.cell 0,h.cell 1,h.cell 2,b.cell 0,b.cell 1,b.cell 2,b.cell 3,b.cell 4,b.cell 5,b.cell 6,b.cell 7,(m.cell (Yj a _ j)).trans j⟩
structure xx(w W8:V)(C P x y g gc:Nat):Prop where
 bc:ai W8 x #[A G 4,U I 0 0] 284
 bf:ai W8 y #[A G 8,A G 8,U (K g) 64 gc] 81
 bp:ai W8 P #[A G 0,A G 0,U I 0 0] 81
 b:X C w W8
 cp:C<=P
theorem PY(a:V)(c:Option Yi)(b:Nat):ai ((a.alloc (M zF 81)).alloc (M #[A G 8,A G 8,U c 64 b] 81)) a zF 81:=(ai.new a zF 81).alloc _
theorem kB(c:V)(f:Nat)(b:Array Z)(a:Nat)(g:f=c.heap.size):ai (c.alloc (M b a)) f b a:=by subst g;exact ai.new c b a
theorem Sz{i a b:V}{C P g gc:Nat}(j:X C i a)(c:X a a b)(h:ai a P #[A G 0,A G 0,U I 0 0] 81)(k:C<=P):xx i ((b.alloc (M #[A G 4,U I 0 0] 284)).alloc (M #[A G 8,A G 8,U (K g) 64 gc] 81)) C P b (b.heap.size+1) g gc:=by
 have p:=h.lt;have l:C<=a.heap.size:=O;have o:C<=a.heap.size+1:=O;have n:=h.ext c;have q:=c.size;have f:C<=b.heap.size:=O;have m:=j.trans (c.mono l);exact⟨(ai.new b _ _).alloc _,kB _ _ _ _ Y,(n.alloc _).alloc _,((m.alloc (by first|exact f|(simp [World.setCell];omega)) _).alloc (by first|exact f|(simp [World.setCell];omega)) _),k⟩
theorem SF{i a b:V}{C P g gc:Nat}(j:X C i a)(c:X a a b)(h:ai a P #[A G 0,A G 0,U I 0 0] 81)(k:C<=P):xx i ((b.alloc (M #[A G 8,A G 8,U (K g) 64 gc] 81)).alloc (M #[A G 4,U I 0 0] 284)) C P (b.heap.size+1) b g gc:=by
 have p:=h.lt;have l:C<=a.heap.size:=O;have o:C<=a.heap.size+1:=O;have n:=h.ext c;have q:=c.size;have f:C<=b.heap.size:=O;have m:=j.trans (c.mono l);exact⟨kB _ _ _ _ Y,(ai.new b _ _).alloc _,(n.alloc _).alloc _,((m.alloc (by first|exact f|(simp [World.setCell];omega)) _).alloc (by first|exact f|(simp [World.setCell];omega)) _),k⟩
theorem SG{i a b:V}{C P g gc:Nat}(j:X C i a)(c:X a a b)(h:ai a P #[A G 0,A G 0,U I 0 0] 81)(k:C<=P)(n:ai b a zC 284):xx i (((b.setCell a (A G 4)).setCell ⟨a,1,I⟩ (U I 0 0)).alloc (M #[A G 8,A G 8,U (K g) 64 gc] 81)) C P a b g gc:=by
 have r:=h.lt;have f:C<=a.heap.size:=O;have q:C<=a.heap.size+1:=O;have o:=h.ext c;have s:=c.size;have l:C<=b.heap.size:=O;have m:=j.trans (c.mono f);exact⟨((n.set 0 (A G 4)).set 1 (U I 0 0)).alloc _,kB _ _ _ _ (by simp [World.setCell]),((o.ab a _ (by dsimp only;omega)).ab ⟨a,1,I⟩ _ (by dsimp only;omega)).alloc _,(((m.setCell (p:=a) f _).setCell (p:=⟨a,1,I⟩) f _).alloc (by first|exact l|(simp [World.setCell];omega)) _),k⟩
theorem SH{j a b:V}{C P g gc:Nat}(k:X C j a)(c:X a a b)(i:ai a P #[A G 0,A G 0,U I 0 0] 81)(l:C<=P)(n:ai b a zC 284)(o:ai b (a.heap.size+1) zF 81):xx j (((((b.setCell a (A G 4)).setCell ⟨a,1,I⟩ (U I 0 0)).setCell ⟨(a.heap.size+1),0,I⟩ (A G 8)).setCell ⟨(a.heap.size+1),1,I⟩ (A G 8)).setCell ⟨(a.heap.size+1),2,I⟩ (U (K g) 64 gc)) C P a (a.heap.size+1) g gc:=by
 have s:=i.lt;have f:C<=a.heap.size:=O;have h:C<=a.heap.size+1:=O;have q:=i.ext c;have t:=c.size;have r:C<=b.heap.size:=O;have m:=k.trans (c.mono f);exact⟨(((((n.set 0 (A G 4)).set 1 (U I 0 0)).ab ⟨(a.heap.size+1),0,I⟩ _ (by dsimp only;omega)).ab ⟨(a.heap.size+1),1,I⟩ _ (by dsimp only;omega)).ab ⟨(a.heap.size+1),2,I⟩ _ (by dsimp only;omega)),(((((o.ab a _ (by dsimp only;omega)).ab ⟨a,1,I⟩ _ (by dsimp only;omega)).set 0 (A G 8)).set 1 (A G 8)).set 2 (U (K g) 64 gc)),(((((q.ab a _ (by dsimp only;omega)).ab ⟨a,1,I⟩ _ (by dsimp only;omega)).ab ⟨(a.heap.size+1),0,I⟩ _ (by dsimp only;omega)).ab ⟨(a.heap.size+1),1,I⟩ _ (by dsimp only;omega)).ab ⟨(a.heap.size+1),2,I⟩ _ (by dsimp only;omega)),(((((m.setCell (p:=a) f _).setCell (p:=⟨a,1,I⟩) f _).setCell (p:=⟨(a.heap.size+1),0,I⟩) h _).setCell (p:=⟨(a.heap.size+1),1,I⟩) h _).setCell (p:=⟨(a.heap.size+1),2,I⟩) h _),l⟩
theorem SI{i a b:V}{C P g gc:Nat}(j:X C i a)(f:X a a b)(h:ai a P #[A G 0,A G 0,U I 0 0] 81)(k:C<=P)(n:ai b a zF 81):xx i ((((b.setCell a (A G 8)).setCell ⟨a,1,I⟩ (A G 8)).setCell ⟨a,2,I⟩ (U (K g) 64 gc)).alloc (M #[A G 4,U I 0 0] 284)) C P b a g gc:=by
 have r:=h.lt;have c:C<=a.heap.size:=O;have q:C<=a.heap.size+1:=O;have o:=h.ext f;have s:=f.size;have l:C<=b.heap.size:=O;have m:=j.trans (f.mono c);exact⟨kB _ _ _ _ (by simp [World.setCell]),(((n.set 0 (A G 8)).set 1 (A G 8)).set 2 (U (K g) 64 gc)).alloc _,(((o.ab a _ (by dsimp only;omega)).ab ⟨a,1,I⟩ _ (by dsimp only;omega)).ab ⟨a,2,I⟩ _ (by dsimp only;omega)).alloc _,((((m.setCell (p:=a) c _).setCell (p:=⟨a,1,I⟩) c _).setCell (p:=⟨a,2,I⟩) c _).alloc (by first|exact l|(simp [World.setCell];omega)) _),k⟩
theorem SJ{j a b:V}{C P g gc:Nat}(k:X C j a)(f:X a a b)(i:ai a P #[A G 0,A G 0,U I 0 0] 81)(l:C<=P)(n:ai b (a.heap.size+1) zC 284)(o:ai b a zF 81):xx j (((((b.setCell ⟨(a.heap.size+1),0,I⟩ (A G 4)).setCell ⟨(a.heap.size+1),1,I⟩ (U I 0 0)).setCell a (A G 8)).setCell ⟨a,1,I⟩ (A G 8)).setCell ⟨a,2,I⟩ (U (K g) 64 gc)) C P (a.heap.size+1) a g gc:=by
 have s:=i.lt;have c:C<=a.heap.size:=O;have h:C<=a.heap.size+1:=O;have q:=i.ext f;have t:=f.size;have r:C<=b.heap.size:=O;have m:=k.trans (f.mono c);exact⟨(((((n.set 0 (A G 4)).set 1 (U I 0 0)).ab a _ (by dsimp only;omega)).ab ⟨a,1,I⟩ _ (by dsimp only;omega)).ab ⟨a,2,I⟩ _ (by dsimp only;omega)),(((((o.ab ⟨(a.heap.size+1),0,I⟩ _ (by dsimp only;omega)).ab ⟨(a.heap.size+1),1,I⟩ _ (by dsimp only;omega)).set 0 (A G 8)).set 1 (A G 8)).set 2 (U (K g) 64 gc)),(((((q.ab ⟨(a.heap.size+1),0,I⟩ _ (by dsimp only;omega)).ab ⟨(a.heap.size+1),1,I⟩ _ (by dsimp only;omega)).ab a _ (by dsimp only;omega)).ab ⟨a,1,I⟩ _ (by dsimp only;omega)).ab ⟨a,2,I⟩ _ (by dsimp only;omega)),(((((m.setCell (p:=⟨(a.heap.size+1),0,I⟩) h _).setCell (p:=⟨(a.heap.size+1),1,I⟩) h _).setCell (p:=a) c _).setCell (p:=⟨a,1,I⟩) c _).setCell (p:=⟨a,2,I⟩) c _),l⟩
abbrev UZ(a:V)(P b C c:Nat)(f:Nat)(h:Option Yi)(g:Nat):Prop:=
 a.cell? b=K (A G 8)/\a.cell? ⟨b,1,I⟩=K (A G 8)/\a.cell? ⟨b,2,I⟩=K (U h 64 g)/\
 a.cell? P=K (A G 0)/\a.cell? ⟨P,1,I⟩=K (A G 0)/\a.cell? ⟨P,2,I⟩=K (U I 0 0)/\
 a.cell? C=K (A G 0)/\a.cell? ⟨C,1,I⟩=K (A G 3)/\a.cell? ⟨C,2,I⟩=K (A G 0)/\a.cell? ⟨C,3,I⟩=K (A G 0)/\a.cell? ⟨C,4,I⟩=K (A G 4)/\a.cell? ⟨C,5,I⟩=K (A G 8)/\a.cell? ⟨C,6,I⟩=K (A G 64)/\a.cell? ⟨C,7,I⟩=K (A G 8)/\
 a.cell? ⟨c,f,I⟩=K (A G 8)
theorem Ji.all{j:V}{P b C f g:Nat}{i:Option Yi}{h:Nat}(a:Ji j P b C f g i h):UZ j P b C f g i h:=
 ⟨a.l0,a.l1,a.l2,a.p0,a.p1,a.p2,a.k0,a.k1,a.k2,a.k3,a.k4,a.k5,a.k6,a.k7,a.c⟩
theorem Bc(b5:Option Yi)(b4 h7 off cap:Nat)(h3:Z)(y:V)(j0:uq y h7 off (U b5 64 b4))(i2:aY y h3 [8]):
  d prog 176 #[Yc bE,U (K ⟨h7,off,I⟩) 1 cap,h3] y λb3 i5=>∃e9 u t,b3=e (Ye #[e9,U u 1 t,Ya])/\Ei i5 y (U u 1 t)/\MH i5 y e9/\X y y i5:=by
 have h1:=E j0;have k1:=E i2;have h5:=E (λD i4 l4=>Fe b5 b4 h7 off cap h3 D i4 l4);have c3:=E (λD i4=>Nq (U b5 64 b4) D i4);simp only [gS] at c3
 obtain⟨c4,c5,h2,rfl,j1⟩:∃c4 c5 h2,h3=U (K ⟨c4,c5,I⟩) 1 h2/\y.cell? ⟨c4,c5,I⟩=K (A G 8):=by
  obtain⟨l6,h2,b3, -, -, -, -,k7⟩:=i2;obtain⟨c4,c5,k6,k8⟩:=k7 0 H;exact⟨c4,c5,h2,by rw [b3,k6];rfl,k8⟩
 have i6:=E j1;have k0:=E (ai.new y bE 23);have h6:=E (N:X y y (y.alloc (M bE 23)));clear j0 i2 j1;unfold bE at h5 c3⊢;go_enter func176,ntmps176
 go_wp2_with (first
  |(go_at_call 231;refine(h5.o _ (h1.o.ext h6.o) (k1.o.ext h6.o)).mono ?_;rintro b3 b8 ⟨rfl,i1⟩;have b2:=E (ext h6.o i1);have i7:=E (k0.o.ext i1);clear i1))
 go_loopw [10,11,27] (λe9 i9 h4 wr=>(h4=A G 0/\e9=U I 0 0/\i9=U I 0 0/\b8.alloc (M #[A G 0,A G 0,U I 0 0] 81)=wr)∨(h4=A G 1/\∃u t,i9=U u 1 t/\Ei wr y (U u 1 t)/\MH wr y e9/\X y y wr)) (λ_ _ h4 _=>(1 - Yz h4).toNat)
 case atStart=>exact Yg ⟨rfl,rfl,rfl,rfl⟩
 case round=>
  rcases hrel with⟨rfl,rfl,rfl,rfl⟩|⟨rfl,u,t,rfl,l2,l1,l0⟩
  .obtain⟨k3,k4,k5, -⟩:=h1.o.ext b2.o
   have l3:=(h1.o.ext b2.o).lt
   go_wp2_with fail
   have c9:=E (EI b8 y c4 c5 b5 b4 i7.o ((b2.o.cell (Yj y _ i6.o)).trans i6.o));have b7:=E (PY b8 b5 b4);have b6:=E b2.o.size;have b1:=E (show X y y ((b8.alloc (M zF 81)).alloc (M #[A G 8,A G 8,U b5 64 b4] 81)) from(b2.o.alloc b2.o.size _).alloc (b2.o.alloc b2.o.size _).size _);have i3:((b8.alloc (M zF 81)).alloc (M #[A G 8,A G 8,U b5 64 b4] 81)).heap.size=b8.heap.size+2:=Y;unfold zF at c9 b1 i3 b7;generalize ((b8.alloc (M #[A G 0,A G 0,U I 0 0] 81)).alloc (M #[A G 8,A G 8,U b5 64 b4] 81))=g at*;have k2:=E i3;obtain⟨P,i0⟩:∃P,b8.heap.size=P:=⟨_,rfl⟩;obtain⟨e1,h9⟩:∃e1,P+1=e1:=⟨_,rfl⟩;obtain⟨C,h8⟩:∃C,y.heap.size=C:=⟨_,rfl⟩;rw [i0] at c9 k2 b7 b6⊢;rw [h9] at c9⊢;rw [h8] at c9 b1 b6⊢;have c7:=E h9;have c8:=E i0;have c6:=E h8;have e0:=E ((h1.o.fr.ext (by rw [h8];exact b1.o)));clear i3 i0 h9 k3 k4 k5 l3 h5 i7 b2
   go_region_held3 (λD=>D.cell? ⟨e1,0,I⟩=K (A G 8)/\D.cell? ⟨e1,1,I⟩=K (A G 8)/\D.cell? ⟨e1,2,I⟩=K (U b5 64 b4)/\D.cell? ⟨P,0,I⟩=K (A G 0)/\D.cell? ⟨P,1,I⟩=K (A G 0)/\D.cell? ⟨P,2,I⟩=K (U I 0 0)/\D.cell? ⟨C,0,I⟩=K (A G 0)/\D.cell? ⟨C,1,I⟩=K (A G 3)/\D.cell? ⟨C,2,I⟩=K (A G 0)/\D.cell? ⟨C,3,I⟩=K (A G 0)/\D.cell? ⟨C,4,I⟩=K (A G 4)/\D.cell? ⟨C,5,I⟩=K (A G 8)/\D.cell? ⟨C,6,I⟩=K (A G 64)/\D.cell? ⟨C,7,I⟩=K (A G 8)/\D.cell? ⟨c4,c5,I⟩=K (A G 8))
    (first|(have k9:=R.o;have l7:=k9.size;with_reducible exact(c9.o.ext N).all)|with_reducible exact(c9.o.ext N).all)
    (first
    |(go_at_call 232;refine(c3.o _ (e0.o.ext N)).mono ?_;rintro b3 q ⟨c,f,rfl,x⟩;have R:=E (show X g g q from ext N x);have a0:=E ((show ai ((g.drew.alloc (M zC 284)).alloc (M zF 81)) g zC 284 from(ai.new g.drew zC 284).alloc _).ext x);have z:=E (show ai q (g.heap.size+1) zF 81 from(kB (g.drew.alloc (M zC 284)) (g.heap.size+1) zF 81 Y).ext x);obtain⟨j5,j6,j7,j8⟩:=(show ai q (g.heap.size) #[A G 0,U I 0 0] 284 from a0.o).two;have j9:=a0.o.lt;obtain⟨b9,c0,c1⟩:=(aN (show ai q (g.heap.size+1) #[A G 0,A G 0,U I 0 0] 81 from z.o));have j2:=z.o.free 0;have j3:=z.o.free 1;have j4:=z.o.free 2;have c2:=z.o.lt;clear x)
    |(go_at_call 232;refine(c3.o _ (e0.o.ext N)).mono ?_;rintro b3 q ⟨c,f,rfl,x⟩;have R:=E (show X g g q from ext N x);have z:=E ((show ai ((g.drew.alloc (M zF 81)).alloc (M zC 284)) g zF 81 from(ai.new g.drew zF 81).alloc _).ext x);have a0:=E (show ai q (g.heap.size+1) zC 284 from(kB (g.drew.alloc (M zF 81)) (g.heap.size+1) zC 284 Y).ext x);obtain⟨j5,j6,j7,j8⟩:=(show ai q (g.heap.size+1) #[A G 0,U I 0 0] 284 from a0.o).two;have j9:=a0.o.lt;obtain⟨b9,c0,c1⟩:=(aN (show ai q (g.heap.size) #[A G 0,A G 0,U I 0 0] 81 from z.o));have j2:=z.o.free 0;have j3:=z.o.free 1;have j4:=z.o.free 2;have c2:=z.o.lt;clear x)
    |(go_at_call 232;refine(c3.o _ (e0.o.ext N)).mono ?_;rintro b3 q ⟨c,f,rfl,x⟩;have R:=E (show X g g q from ext N x);have a0:=E ((show ai (g.drew.alloc (M zC 284)) g zC 284 from ai.new g.drew zC 284).ext x);obtain⟨j5,j6,j7,j8⟩:=(show ai q (g.heap.size) #[A G 0,U I 0 0] 284 from a0.o).two;have j9:=a0.o.lt;clear x)
    |(go_at_call 232;refine(c3.o _ (e0.o.ext N)).mono ?_;rintro b3 q ⟨c,f,rfl,x⟩;have R:=E (show X g g q from ext N x);have z:=E ((show ai (g.drew.alloc (M zF 81)) g zF 81 from ai.new g.drew zF 81).ext x);obtain⟨b9,c0,c1⟩:=(aN (show ai q (g.heap.size) #[A G 0,A G 0,U I 0 0] 81 from z.o));have j2:=z.o.free 0;have j3:=z.o.free 1;have j4:=z.o.free 2;have c2:=z.o.lt;clear x)
    |(go_at_call 232;refine(c3.o _ (e0.o.ext N)).mono ?_;rintro b3 q ⟨c,f,rfl,x⟩;have R:=E (show X g g q from ext N x);have l5:=E (show X g.drew.heap.size g.drew q from x);clear x))
   next=>
    have j:=Sz (g:=c) (gc:=f) b1.o R.o b7.o b6.o;generalize ((q.alloc (M #[A G 4,U I 0 0] 284)).alloc (M #[A G 8,A G 8,U (K c) 64 f] 81))=k at j⊢;generalize (q.heap.size+1)=g6 at j⊢;generalize q.heap.size=g0 at j⊢;have b:=E j;obtain⟨g1,g2,g3,g4⟩:=j.bc.two;have g5:=j.bc.lt;clear j
    go_wp2_with (first
     |(at_builtin;refine aX 229 284 2 32 _ underlying229 vy rfl H rfl (.tmp 49) (.tmp 51) rfl k.heap.size (U I 0 0) 0 [] [A G 4,U I 0 0] rfl (YC _ _ _ _) rfl rfl rfl (by intro a8 n;simp at n;rcases n with rfl|rfl<;>rfl) H H (Yk _) ?_;intro b0 h J s a7 _;have T:=E (show h.ownsRow k 284 2 b0 1 [A G 4,U I 0 0] from J);have i:=E s;obtain⟨b9,c0,c1⟩:=aN (b.o.bf.ext s);have c2:=(b.o.bf.ext s).lt;clear J s a7)
     |(at_builtin;refine aX 44 81 3 40 _ underlying44 pQ rfl H rfl (.tmp 53) (.tmp 55) rfl h.heap.size (U I 0 0) 0 [] [A G 8,A G 8,U (K c) 64 f] rfl (YC _ _ _ _) rfl rfl rfl (by intro a8 n;simp at n;rcases n with rfl|rfl<;>rfl) H H (Yk _) ?_;intro a9 L w m a6 _;obtain⟨u,t,rfl⟩:=gK (show L.ownsRow h 81 3 a9 1 _ from w);have W:=E (show L.ownsRow h 81 3 (U u 1 t) 1 [A G 8,A G 8,U (K c) 64 f] from w);have F:=E m;obtain⟨g7,g8,g9⟩:=aN ((b.o.bf.ext i.o).ext m);have h0:=((b.o.bf.ext i.o).ext m).lt;have l:=(b.o.bp.ext i.o).ext m;obtain⟨e2,e3,e4⟩:=aN l;have e5:=l.free 0;have e6:=l.free 1;have e7:=l.free 2;have e8:=l.lt;clear w m a6 l))
    have r:C<=k.heap.size:=Yl b.o.cp (Nat.le_of_lt b.o.bp.lt);have a3:=Yu (Yu (Yu (aG T.o F.o) (a:=⟨P,0,I⟩) (show P<k.heap.size from b.o.bp.lt) (A G 8)) (a:=⟨P,1,I⟩) (show P<k.heap.size from b.o.bp.lt) (A G 8)) (a:=⟨P,2,I⟩) (show P<k.heap.size from b.o.bp.lt) (U (K c) 64 f);have v:P<h.heap.size:=Yv b.o.bp.lt i.o.size;have a5:=Yu (Yu (Yu W.o (a:=⟨P,0,I⟩) (show P<h.heap.size from v) (A G 8)) (a:=⟨P,1,I⟩) (show P<h.heap.size from v) (A G 8)) (a:=⟨P,2,I⟩) (show P<h.heap.size from v) (U (K c) 64 f);have a1:=b.o.b.trans ((i.o.mono r).trans (F.o.mono (Yl r i.o.size)));have a2:=((a1.setCell (p:=⟨P,0,I⟩) b.o.cp (A G 8)).setCell (p:=⟨P,1,I⟩) b.o.cp (A G 8)).setCell (p:=⟨P,2,I⟩) b.o.cp (U (K c) 64 f);obtain rfl:=c8.o;obtain rfl:=c6.o;obtain rfl:=c7.o;go_roundw
    case rel=>exact Yh ⟨rfl,u,t,rfl,⟨c,f,aA a5 (Yl r i.o.size)⟩,aA a3 r,a2⟩
    case measure=>decide
   next=>
    have j:=SF (g:=c) (gc:=f) b1.o R.o b7.o b6.o;generalize ((q.alloc (M #[A G 8,A G 8,U (K c) 64 f] 81)).alloc (M #[A G 4,U I 0 0] 284))=k at j⊢;generalize (q.heap.size+1)=g0 at j⊢;generalize q.heap.size=g6 at j⊢;have b:=E j;obtain⟨g1,g2,g3,g4⟩:=j.bc.two;have g5:=j.bc.lt;clear j
    go_wp2_with (first
     |(at_builtin;refine aX 229 284 2 32 _ underlying229 vy rfl H rfl (.tmp 49) (.tmp 51) rfl k.heap.size (U I 0 0) 0 [] [A G 4,U I 0 0] rfl (YC _ _ _ _) rfl rfl rfl (by intro a8 n;simp at n;rcases n with rfl|rfl<;>rfl) H H (Yk _) ?_;intro b0 h J s a7 _;have T:=E (show h.ownsRow k 284 2 b0 1 [A G 4,U I 0 0] from J);have i:=E s;obtain⟨b9,c0,c1⟩:=aN (b.o.bf.ext s);have c2:=(b.o.bf.ext s).lt;clear J s a7)
     |(at_builtin;refine aX 44 81 3 40 _ underlying44 pQ rfl H rfl (.tmp 53) (.tmp 55) rfl h.heap.size (U I 0 0) 0 [] [A G 8,A G 8,U (K c) 64 f] rfl (YC _ _ _ _) rfl rfl rfl (by intro a8 n;simp at n;rcases n with rfl|rfl<;>rfl) H H (Yk _) ?_;intro a9 L w m a6 _;obtain⟨u,t,rfl⟩:=gK (show L.ownsRow h 81 3 a9 1 _ from w);have W:=E (show L.ownsRow h 81 3 (U u 1 t) 1 [A G 8,A G 8,U (K c) 64 f] from w);have F:=E m;obtain⟨g7,g8,g9⟩:=aN ((b.o.bf.ext i.o).ext m);have h0:=((b.o.bf.ext i.o).ext m).lt;have l:=(b.o.bp.ext i.o).ext m;obtain⟨e2,e3,e4⟩:=aN l;have e5:=l.free 0;have e6:=l.free 1;have e7:=l.free 2;have e8:=l.lt;clear w m a6 l))
    have r:C<=k.heap.size:=Yl b.o.cp (Nat.le_of_lt b.o.bp.lt);have a3:=Yu (Yu (Yu (aG T.o F.o) (a:=⟨P,0,I⟩) (show P<k.heap.size from b.o.bp.lt) (A G 8)) (a:=⟨P,1,I⟩) (show P<k.heap.size from b.o.bp.lt) (A G 8)) (a:=⟨P,2,I⟩) (show P<k.heap.size from b.o.bp.lt) (U (K c) 64 f);have v:P<h.heap.size:=Yv b.o.bp.lt i.o.size;have a5:=Yu (Yu (Yu W.o (a:=⟨P,0,I⟩) (show P<h.heap.size from v) (A G 8)) (a:=⟨P,1,I⟩) (show P<h.heap.size from v) (A G 8)) (a:=⟨P,2,I⟩) (show P<h.heap.size from v) (U (K c) 64 f);have a1:=b.o.b.trans ((i.o.mono r).trans (F.o.mono (Yl r i.o.size)));have a2:=((a1.setCell (p:=⟨P,0,I⟩) b.o.cp (A G 8)).setCell (p:=⟨P,1,I⟩) b.o.cp (A G 8)).setCell (p:=⟨P,2,I⟩) b.o.cp (U (K c) 64 f);obtain rfl:=c8.o;obtain rfl:=c6.o;obtain rfl:=c7.o;go_roundw
    case rel=>exact Yh ⟨rfl,u,t,rfl,⟨c,f,aA a5 (Yl r i.o.size)⟩,aA a3 r,a2⟩
    case measure=>decide
   next=>
    have j:=SG (g:=c) (gc:=f) b1.o R.o b7.o b6.o a0.o;generalize (((q.setCell g (A G 4)).setCell ⟨g,1,I⟩ (U I 0 0)).alloc (M #[A G 8,A G 8,U (K c) 64 f] 81))=k at j⊢;generalize q.heap.size=g6 at j⊢;generalize g.heap.size=g0 at j⊢;have b:=E j;obtain⟨g1,g2,g3,g4⟩:=j.bc.two;have g5:=j.bc.lt;clear j
    go_wp2_with (first
     |(at_builtin;refine aX 229 284 2 32 _ underlying229 vy rfl H rfl (.tmp 49) (.tmp 51) rfl k.heap.size (U I 0 0) 0 [] [A G 4,U I 0 0] rfl (YC _ _ _ _) rfl rfl rfl (by intro a8 n;simp at n;rcases n with rfl|rfl<;>rfl) H H (Yk _) ?_;intro b0 h J s a7 _;have T:=E (show h.ownsRow k 284 2 b0 1 [A G 4,U I 0 0] from J);have i:=E s;obtain⟨b9,c0,c1⟩:=aN (b.o.bf.ext s);have c2:=(b.o.bf.ext s).lt;clear J s a7)
     |(at_builtin;refine aX 44 81 3 40 _ underlying44 pQ rfl H rfl (.tmp 53) (.tmp 55) rfl h.heap.size (U I 0 0) 0 [] [A G 8,A G 8,U (K c) 64 f] rfl (YC _ _ _ _) rfl rfl rfl (by intro a8 n;simp at n;rcases n with rfl|rfl<;>rfl) H H (Yk _) ?_;intro a9 L w m a6 _;obtain⟨u,t,rfl⟩:=gK (show L.ownsRow h 81 3 a9 1 _ from w);have W:=E (show L.ownsRow h 81 3 (U u 1 t) 1 [A G 8,A G 8,U (K c) 64 f] from w);have F:=E m;obtain⟨g7,g8,g9⟩:=aN ((b.o.bf.ext i.o).ext m);have h0:=((b.o.bf.ext i.o).ext m).lt;have l:=(b.o.bp.ext i.o).ext m;obtain⟨e2,e3,e4⟩:=aN l;have e5:=l.free 0;have e6:=l.free 1;have e7:=l.free 2;have e8:=l.lt;clear w m a6 l))
    have r:C<=k.heap.size:=Yl b.o.cp (Nat.le_of_lt b.o.bp.lt);have a3:=Yu (Yu (Yu (aG T.o F.o) (a:=⟨P,0,I⟩) (show P<k.heap.size from b.o.bp.lt) (A G 8)) (a:=⟨P,1,I⟩) (show P<k.heap.size from b.o.bp.lt) (A G 8)) (a:=⟨P,2,I⟩) (show P<k.heap.size from b.o.bp.lt) (U (K c) 64 f);have v:P<h.heap.size:=Yv b.o.bp.lt i.o.size;have a5:=Yu (Yu (Yu W.o (a:=⟨P,0,I⟩) (show P<h.heap.size from v) (A G 8)) (a:=⟨P,1,I⟩) (show P<h.heap.size from v) (A G 8)) (a:=⟨P,2,I⟩) (show P<h.heap.size from v) (U (K c) 64 f);have a1:=b.o.b.trans ((i.o.mono r).trans (F.o.mono (Yl r i.o.size)));have a2:=((a1.setCell (p:=⟨P,0,I⟩) b.o.cp (A G 8)).setCell (p:=⟨P,1,I⟩) b.o.cp (A G 8)).setCell (p:=⟨P,2,I⟩) b.o.cp (U (K c) 64 f);obtain rfl:=c8.o;obtain rfl:=c6.o;obtain rfl:=c7.o;go_roundw
    case rel=>exact Yh ⟨rfl,u,t,rfl,⟨c,f,aA a5 (Yl r i.o.size)⟩,aA a3 r,a2⟩
    case measure=>decide
   next=>
    have j:=SH (g:=c) (gc:=f) b1.o R.o b7.o b6.o a0.o z.o;generalize (((((q.setCell g (A G 4)).setCell ⟨g,1,I⟩ (U I 0 0)).setCell ⟨(g.heap.size+1),0,I⟩ (A G 8)).setCell ⟨(g.heap.size+1),1,I⟩ (A G 8)).setCell ⟨(g.heap.size+1),2,I⟩ (U (K c) 64 f))=k at j⊢;generalize (g.heap.size+1)=g6 at j⊢;generalize g.heap.size=g0 at j⊢;have b:=E j;obtain⟨g1,g2,g3,g4⟩:=j.bc.two;have g5:=j.bc.lt;clear j
    go_wp2_with (first
     |(at_builtin;refine aX 229 284 2 32 _ underlying229 vy rfl H rfl (.tmp 49) (.tmp 51) rfl k.heap.size (U I 0 0) 0 [] [A G 4,U I 0 0] rfl (YC _ _ _ _) rfl rfl rfl (by intro a8 n;simp at n;rcases n with rfl|rfl<;>rfl) H H (Yk _) ?_;intro b0 h J s a7 _;have T:=E (show h.ownsRow k 284 2 b0 1 [A G 4,U I 0 0] from J);have i:=E s;obtain⟨b9,c0,c1⟩:=aN (b.o.bf.ext s);have c2:=(b.o.bf.ext s).lt;clear J s a7)
     |(at_builtin;refine aX 44 81 3 40 _ underlying44 pQ rfl H rfl (.tmp 53) (.tmp 55) rfl h.heap.size (U I 0 0) 0 [] [A G 8,A G 8,U (K c) 64 f] rfl (YC _ _ _ _) rfl rfl rfl (by intro a8 n;simp at n;rcases n with rfl|rfl<;>rfl) H H (Yk _) ?_;intro a9 L w m a6 _;obtain⟨u,t,rfl⟩:=gK (show L.ownsRow h 81 3 a9 1 _ from w);have W:=E (show L.ownsRow h 81 3 (U u 1 t) 1 [A G 8,A G 8,U (K c) 64 f] from w);have F:=E m;obtain⟨g7,g8,g9⟩:=aN ((b.o.bf.ext i.o).ext m);have h0:=((b.o.bf.ext i.o).ext m).lt;have l:=(b.o.bp.ext i.o).ext m;obtain⟨e2,e3,e4⟩:=aN l;have e5:=l.free 0;have e6:=l.free 1;have e7:=l.free 2;have e8:=l.lt;clear w m a6 l))
    have r:C<=k.heap.size:=Yl b.o.cp (Nat.le_of_lt b.o.bp.lt);have a3:=Yu (Yu (Yu (aG T.o F.o) (a:=⟨P,0,I⟩) (show P<k.heap.size from b.o.bp.lt) (A G 8)) (a:=⟨P,1,I⟩) (show P<k.heap.size from b.o.bp.lt) (A G 8)) (a:=⟨P,2,I⟩) (show P<k.heap.size from b.o.bp.lt) (U (K c) 64 f);have v:P<h.heap.size:=Yv b.o.bp.lt i.o.size;have a5:=Yu (Yu (Yu W.o (a:=⟨P,0,I⟩) (show P<h.heap.size from v) (A G 8)) (a:=⟨P,1,I⟩) (show P<h.heap.size from v) (A G 8)) (a:=⟨P,2,I⟩) (show P<h.heap.size from v) (U (K c) 64 f);have a1:=b.o.b.trans ((i.o.mono r).trans (F.o.mono (Yl r i.o.size)));have a2:=((a1.setCell (p:=⟨P,0,I⟩) b.o.cp (A G 8)).setCell (p:=⟨P,1,I⟩) b.o.cp (A G 8)).setCell (p:=⟨P,2,I⟩) b.o.cp (U (K c) 64 f);obtain rfl:=c8.o;obtain rfl:=c6.o;obtain rfl:=c7.o;go_roundw
    case rel=>exact Yh ⟨rfl,u,t,rfl,⟨c,f,aA a5 (Yl r i.o.size)⟩,aA a3 r,a2⟩
    case measure=>decide
   next=>
    have j:=SI (g:=c) (gc:=f) b1.o R.o b7.o b6.o z.o;generalize ((((q.setCell g (A G 8)).setCell ⟨g,1,I⟩ (A G 8)).setCell ⟨g,2,I⟩ (U (K c) 64 f)).alloc (M #[A G 4,U I 0 0] 284))=k at j⊢;generalize g.heap.size=g6 at j⊢;generalize q.heap.size=g0 at j⊢;have b:=E j;obtain⟨g1,g2,g3,g4⟩:=j.bc.two;have g5:=j.bc.lt;clear j
    go_wp2_with (first
     |(at_builtin;refine aX 229 284 2 32 _ underlying229 vy rfl H rfl (.tmp 49) (.tmp 51) rfl k.heap.size (U I 0 0) 0 [] [A G 4,U I 0 0] rfl (YC _ _ _ _) rfl rfl rfl (by intro a8 n;simp at n;rcases n with rfl|rfl<;>rfl) H H (Yk _) ?_;intro b0 h J s a7 _;have T:=E (show h.ownsRow k 284 2 b0 1 [A G 4,U I 0 0] from J);have i:=E s;obtain⟨b9,c0,c1⟩:=aN (b.o.bf.ext s);have c2:=(b.o.bf.ext s).lt;clear J s a7)
     |(at_builtin;refine aX 44 81 3 40 _ underlying44 pQ rfl H rfl (.tmp 53) (.tmp 55) rfl h.heap.size (U I 0 0) 0 [] [A G 8,A G 8,U (K c) 64 f] rfl (YC _ _ _ _) rfl rfl rfl (by intro a8 n;simp at n;rcases n with rfl|rfl<;>rfl) H H (Yk _) ?_;intro a9 L w m a6 _;obtain⟨u,t,rfl⟩:=gK (show L.ownsRow h 81 3 a9 1 _ from w);have W:=E (show L.ownsRow h 81 3 (U u 1 t) 1 [A G 8,A G 8,U (K c) 64 f] from w);have F:=E m;obtain⟨g7,g8,g9⟩:=aN ((b.o.bf.ext i.o).ext m);have h0:=((b.o.bf.ext i.o).ext m).lt;have l:=(b.o.bp.ext i.o).ext m;obtain⟨e2,e3,e4⟩:=aN l;have e5:=l.free 0;have e6:=l.free 1;have e7:=l.free 2;have e8:=l.lt;clear w m a6 l))
    have r:C<=k.heap.size:=Yl b.o.cp (Nat.le_of_lt b.o.bp.lt);have a3:=Yu (Yu (Yu (aG T.o F.o) (a:=⟨P,0,I⟩) (show P<k.heap.size from b.o.bp.lt) (A G 8)) (a:=⟨P,1,I⟩) (show P<k.heap.size from b.o.bp.lt) (A G 8)) (a:=⟨P,2,I⟩) (show P<k.heap.size from b.o.bp.lt) (U (K c) 64 f);have v:P<h.heap.size:=Yv b.o.bp.lt i.o.size;have a5:=Yu (Yu (Yu W.o (a:=⟨P,0,I⟩) (show P<h.heap.size from v) (A G 8)) (a:=⟨P,1,I⟩) (show P<h.heap.size from v) (A G 8)) (a:=⟨P,2,I⟩) (show P<h.heap.size from v) (U (K c) 64 f);have a1:=b.o.b.trans ((i.o.mono r).trans (F.o.mono (Yl r i.o.size)));have a2:=((a1.setCell (p:=⟨P,0,I⟩) b.o.cp (A G 8)).setCell (p:=⟨P,1,I⟩) b.o.cp (A G 8)).setCell (p:=⟨P,2,I⟩) b.o.cp (U (K c) 64 f);obtain rfl:=c8.o;obtain rfl:=c6.o;obtain rfl:=c7.o;go_roundw
    case rel=>exact Yh ⟨rfl,u,t,rfl,⟨c,f,aA a5 (Yl r i.o.size)⟩,aA a3 r,a2⟩
    case measure=>decide
   next=>
    have j:=SJ (g:=c) (gc:=f) b1.o R.o b7.o b6.o a0.o z.o;generalize (((((q.setCell ⟨(g.heap.size+1),0,I⟩ (A G 4)).setCell ⟨(g.heap.size+1),1,I⟩ (U I 0 0)).setCell g (A G 8)).setCell ⟨g,1,I⟩ (A G 8)).setCell ⟨g,2,I⟩ (U (K c) 64 f))=k at j⊢;generalize (g.heap.size+1)=g0 at j⊢;generalize g.heap.size=g6 at j⊢;have b:=E j;obtain⟨g1,g2,g3,g4⟩:=j.bc.two;have g5:=j.bc.lt;clear j
    go_wp2_with (first
     |(at_builtin;refine aX 229 284 2 32 _ underlying229 vy rfl H rfl (.tmp 49) (.tmp 51) rfl k.heap.size (U I 0 0) 0 [] [A G 4,U I 0 0] rfl (YC _ _ _ _) rfl rfl rfl (by intro a8 n;simp at n;rcases n with rfl|rfl<;>rfl) H H (Yk _) ?_;intro b0 h J s a7 _;have T:=E (show h.ownsRow k 284 2 b0 1 [A G 4,U I 0 0] from J);have i:=E s;obtain⟨b9,c0,c1⟩:=aN (b.o.bf.ext s);have c2:=(b.o.bf.ext s).lt;clear J s a7)
     |(at_builtin;refine aX 44 81 3 40 _ underlying44 pQ rfl H rfl (.tmp 53) (.tmp 55) rfl h.heap.size (U I 0 0) 0 [] [A G 8,A G 8,U (K c) 64 f] rfl (YC _ _ _ _) rfl rfl rfl (by intro a8 n;simp at n;rcases n with rfl|rfl<;>rfl) H H (Yk _) ?_;intro a9 L w m a6 _;obtain⟨u,t,rfl⟩:=gK (show L.ownsRow h 81 3 a9 1 _ from w);have W:=E (show L.ownsRow h 81 3 (U u 1 t) 1 [A G 8,A G 8,U (K c) 64 f] from w);have F:=E m;obtain⟨g7,g8,g9⟩:=aN ((b.o.bf.ext i.o).ext m);have h0:=((b.o.bf.ext i.o).ext m).lt;have l:=(b.o.bp.ext i.o).ext m;obtain⟨e2,e3,e4⟩:=aN l;have e5:=l.free 0;have e6:=l.free 1;have e7:=l.free 2;have e8:=l.lt;clear w m a6 l))
    have r:C<=k.heap.size:=Yl b.o.cp (Nat.le_of_lt b.o.bp.lt);have a3:=Yu (Yu (Yu (aG T.o F.o) (a:=⟨P,0,I⟩) (show P<k.heap.size from b.o.bp.lt) (A G 8)) (a:=⟨P,1,I⟩) (show P<k.heap.size from b.o.bp.lt) (A G 8)) (a:=⟨P,2,I⟩) (show P<k.heap.size from b.o.bp.lt) (U (K c) 64 f);have v:P<h.heap.size:=Yv b.o.bp.lt i.o.size;have a5:=Yu (Yu (Yu W.o (a:=⟨P,0,I⟩) (show P<h.heap.size from v) (A G 8)) (a:=⟨P,1,I⟩) (show P<h.heap.size from v) (A G 8)) (a:=⟨P,2,I⟩) (show P<h.heap.size from v) (U (K c) 64 f);have a1:=b.o.b.trans ((i.o.mono r).trans (F.o.mono (Yl r i.o.size)));have a2:=((a1.setCell (p:=⟨P,0,I⟩) b.o.cp (A G 8)).setCell (p:=⟨P,1,I⟩) b.o.cp (A G 8)).setCell (p:=⟨P,2,I⟩) b.o.cp (U (K c) 64 f);obtain rfl:=c8.o;obtain rfl:=c6.o;obtain rfl:=c7.o;go_roundw
    case rel=>exact Yh ⟨rfl,u,t,rfl,⟨c,f,aA a5 (Yl r i.o.size)⟩,aA a3 r,a2⟩
    case measure=>decide
  .go_wp2
   go_returns;exact⟨_,_,_,rfl,l2,l1,l0⟩
theorem Bl(a:V):d prog 270 #[A G 0,Yc #[A G 0,A G 1]] a λb c=>b=e (.bool true)/\X a a c:=by
 go_enter func270,ntmps270;go_wp2;go_returns;exact⟨rfl,N⟩
theorem u_(a:V):d prog 271 #[A G 4] a λb c=>b=e (.bool true)/\a=c:=by
 go_enter func271,ntmps271;go_wp2;go_returns;exact⟨rfl,rfl⟩
theorem wg(b:Option Yi)(cap:Nat)(a:V):d prog 272 #[Yc #[A G 4,U b 0 cap]] a λc f=>c=e (Ye #[Yc #[A G 4,A G 0,U I 0 0],Ya])/\X a a f:=by
 go_enter func272,ntmps272;go_wp2;go_returns;exact⟨rfl,N⟩
def Eh(a:Option Yi)(cap:Nat):Prop:=cap<=YO/\(a=I->cap=0)
theorem Eh.bytes{a:Option Yi}{cap:Nat}(b:Eh a cap)(f:V):ah f (U a 0 cap) []:=⟨a,cap,rfl,Y,b.1,b.2,λg c=>by simp at c⟩
theorem Eh.of{a:Option Yi}{cap:Nat}{h:V}(c:ah h (U a 0 cap) []):Eh a cap:=by
 obtain⟨i,j,b, -,f,g, -⟩:=c;simp only [Yy] at b;obtain⟨rfl, -,rfl⟩:=b;exact⟨f,g⟩
theorem Eh.none:Eh I 0:=⟨by simp [YO],λ_=>rfl⟩
structure lN(w:V)(b:Nat):Prop where
 c0:w.cell? b=K (A G 4)
 c1:∃ao cap,w.cell? ⟨b,1,I⟩=K (U ao 0 cap)/\Eh ao cap
theorem lN.lt{a:V}{b:Nat}(c:lN a b):b<a.heap.size:=Yj a _ c.c0
theorem lN.ext{c g:V}{a:Nat}(b:lN c a)(f:X c c g):lN g a:=
 ⟨(f.cell (p:=a) b.lt).trans b.c0,by
  obtain⟨h,cap,i,j⟩:=b.c1
  exact⟨h,cap,(f.cell (p:=⟨a,1,I⟩) b.lt).trans i,j⟩⟩
theorem MH.q{g:V}{c:Nat}{f:Z}(i:MH g c f):∃b cap,f=U (K ⟨b,0,I⟩) 1 cap/\c<=b/\lN g b:=by
 have a:=i;unfold MH at a
 rcases aV a with⟨_,k⟩|⟨h,cap,rfl,l,m,_⟩
 .cases k
 .exact⟨h,cap,rfl,l,au a (j:=0) rfl,I,0,au a (j:=1) rfl,Eh.none⟩
theorem Bh(b cap:Nat)(a:V)(p:lN a b):
  d prog 237 #[Yc #[A G 0,A G 0,A G 1,U (K b) 1 cap]] a λg y=>g=e (.bool true)/\X a a y:=by
 have n:=E p;have t:=E (λf=>Bl f);have s:=E (λf=>u_ f);have u:=E (λw cap f=>wg w cap f);have v:=E (N:X a a (a.alloc (M #[A G 0,A G 0,A G 1,U (K b) 1 cap] 231)));have r:=E (ai.new a #[A G 0,A G 0,A G 1,U (K b) 1 cap] 231);clear p;go_enter func237,ntmps237
 go_wp2_with (first
  |(go_at_call 270;refine(t.o _).mono ?_;rintro g j ⟨rfl,k⟩;have h:=ext v.o k;have l:=E h;have c:=r.o.ext k;have z:j.cell? a=K (A G 0):=c.cell 0;have C:j.cell? ⟨a,2,I⟩=K (A G 1):=c.cell 2;have D:j.cell? ⟨a,3,I⟩=K (U (K b) 1 cap):=c.cell 3;have F:=c.lt;obtain⟨L,R,T,P, -⟩:=n.o.ext h;have J:=(n.o.ext h).lt;clear k c h)
  |(go_at_call 271;refine(s.o _).mono ?_;rintro g W ⟨rfl,rfl⟩))
 go_loopw [34] (λi wr=>(i=A G 0/\j=wr)∨(i=A G 1/\X a a wr)) (λi _=>(1 - Yz i).toNat)
 case atStart=>exact Yg ⟨rfl,rfl⟩
 case round=>
  rcases hrel with⟨rfl,rfl⟩|⟨rfl,x⟩
  .go_wp2_with (go_at_call 272;refine(u.o _ _ _).mono ?_;rintro g a0 ⟨rfl,q⟩;have m:=E (ext (l.o.alloc l.o.size _) q);clear q)
   go_roundw
   case rel=>exact Yh ⟨rfl,m.o.alloc m.o.size _⟩
   case measure=>decide
  .go_wp2
   go_returns;exact⟨rfl,x⟩
theorem Fj(h cap:Nat)(a:V)(s:lN a h):
  d prog 179 #[U (K h) 1 cap] a λi m=>∃b,i=e b/\aa m a b [8]/\X a a m:=by
 obtain⟨v,w,x,C, -⟩:=s;have g:=E (λy=>AA 4 w 0 x y O);simp only [gS] at g;have z:=Yj a _ v;have r:=E (aa.nil a a);go_enter func179,ntmps179;go_wp2
 go_loopw [3,8] (λb c wr=>(c=A G 0/\b=U I 0 0/\a=wr)∨(c=A G 1/\aa wr a b [8]/\X a a wr)) (λ_ c _=>(1 - Yz c).toNat)
 case atStart=>exact Yg ⟨rfl,rfl,rfl⟩
 case round=>
  rcases hrel with⟨rfl,rfl,rfl⟩|⟨rfl,u,t⟩
  .go_wp2_with (first
    |(go_at_call 238;refine(g.o _).mono ?_;rintro i F ⟨rfl,j⟩;have f:=E (ext (N:X a a _) j);have p:=E (r.o.ext f.o);clear j)
    |(at_builtin;go_loud (refine cJ rfl (.tmp 12) (.tmp 15) rfl a.heap.size (U I 0 0) [] 8 rfl p.o rfl rfl (by unfold bh;omega) H f.o.size ?_;intro D J l k _;have q:=E l;have n:=E k;clear l k)))
   go_roundw
   case rel=>exact Yh ⟨rfl,q.o,f.o.trans n.o⟩
   case measure=>decide
  .go_wp2
   go_returns;exact⟨_,rfl,u,t⟩
theorem Ic(i:Z)(a:V)(r:aY a i [8]):
  d prog 239 #[Yc bE,i] a λf D=>f=e Ya/\X a a D:=by
 obtain⟨b,c,g,rfl,s⟩:∃b c g,i=U (K ⟨b,c,I⟩) 1 g/\a.cell? ⟨b,c,I⟩=K (A G 8):=by
  obtain⟨F,g,f, -, -, -, -,x⟩:=r;obtain⟨b,c,w,y⟩:=x 0 H;exact⟨b,c,g,by rw [f,w];rfl,y⟩
 have m:=E (λk=>vB k);have l:=E (λk=>kF 8 0 1073741824 k);rw [(H:gu 8 0 1073741824=true)] at l;have u:=E s;have C:=Yj a _ s;have n:=E (N:X a a (a.alloc (M bE 23)));clear r;unfold bE at m n⊢;go_enter func239,ntmps239
 go_wp2_with (first
  |(go_at_call 63;refine(m.o _).mono ?_;rintro f t ⟨rfl,q⟩;have j:=ext n.o q;have v:=E j;have J:t.cell? ⟨b,c,I⟩=K (A G 8):=(j.cell (p:=⟨b,c,I⟩) C).trans u.o;clear q j))
 go_loopw [19] (λh wr=>(h=A G 0/\t=wr)∨(h=A G 1/\X a a wr)) (λh _=>(1 - Yz h).toNat)
 case atStart=>exact Yg ⟨rfl,rfl⟩
 case round=>
  rcases hrel with⟨rfl,rfl⟩|⟨rfl,z⟩
  .go_wp2_with (go_at_call 140;refine(l.o _).mono ?_;rintro f L ⟨rfl,rfl⟩)
   go_roundw
   case rel=>exact Yh ⟨rfl,v.o⟩
   case measure=>decide
  .go_wp2
   go_returns;exact⟨rfl,z⟩
theorem Kh(k:Z)(a:V)(s:aY a k [8]):
  d prog 180 #[Yc bE,k] a λf z=>∃i,f=e (Ye #[i,Ya])/\aa z a i [0]/\X a a z:=by
 have u:=E (λa7 a3=>Ic k a7 a3);have L:=E s
 obtain⟨b,c,j,rfl,t⟩:∃b c j,k=U (K ⟨b,c,I⟩) 1 j/\a.cell? ⟨b,c,I⟩=K (A G 8):=by
  obtain⟨a9,j,f, -, -, -, -,W⟩:=s;obtain⟨b,c,T,a0⟩:=W 0 H;exact⟨b,c,j,by rw [f,T];rfl,a0⟩
 have J:=E t;have a5:=Yj a _ t;have m:=E (N:X a a (a.alloc (M bE 23)));have C:=E (ai.new a bE 23);clear s t;unfold bE at u m⊢;go_enter func180,ntmps180
 go_wp2_with (first
  |(go_at_call 239;go_loud (refine(u.o _ (L.o.ext m.o)).mono ?_;rintro f h ⟨rfl,r⟩;have q:=ext m.o r;have v:=E q;have b0:h.cell? ⟨b,c,I⟩=K (A G 8):=(q.cell (p:=⟨b,c,I⟩) a5).trans J.o;have g:=C.o.ext r;have b2:h.cell? ⟨a,5,I⟩=K (A G 8):=g.cell 5;have b3:h.cell? ⟨a,6,I⟩=K (A G 64):=g.cell 6;have b4:h.cell? ⟨a,7,I⟩=K (A G 8):=g.cell 7;have b6:=g.lt;have D:=E g;have R:=E (aa.nil h a);clear r q g)))
 go_loopw [7,8,21] (λa8 i l wr=>(l=A G 0/\a8=A G 8/\i=U I 0 0/\h=wr)∨(l=A G 1/\aa wr a i [0]/\X a a wr)) (λ_ _ l _=>(1 - Yz l).toNat)
 case atStart=>exact Yg ⟨rfl,rfl,rfl,rfl⟩
 case round=>
  rcases hrel with⟨rfl,rfl,rfl,rfl⟩|⟨rfl,a2,a1⟩
  .go_wp2_with (first
    |(at_builtin;go_loud (refine cJ rfl (.tmp 38) (.tmp 44) rfl a.heap.size (U I 0 0) [] 0 rfl R.o rfl rfl (by unfold bh;omega) H v.o.size ?_;intro b7 a6 y w x;have P:=E y;have F:=E w;have n:=D.o.grown x (show K a.heap.size≠(I:Option Nat) from λf=>by cases f);have b1:a6.cell? ⟨a,6,I⟩=K (A G 64):=n.cell 6;have b5:=n.lt;clear y w x n)))
   go_roundw
   case rel=>exact Yh ⟨rfl,P.o,v.o.trans F.o⟩
   case measure=>decide
  .go_wp2
   go_returns;exact⟨_,rfl,a2,a1⟩
def vk:Fr:=⟨8,8,az⟩
theorem iw.VN{i:V}{f:Nat}{h:Z}(g:iw i f h [vk]):∃a cap c b,h=U (K ⟨a,0,I⟩) 1 cap/\uq i a 0 (U c 64 b)/\f<=a/\1<=cap:=by
 have s:=g.vf;obtain⟨z,u, -, -⟩:=g
 rcases aV u with⟨_,p⟩|⟨v,cap,rfl,r,y,q,w,_⟩
 .cases p
 .obtain⟨a,off,c,b,o,x,k,l,m,t⟩:=Frames.cellAt (n:=1) s (j:=0) H
  obtain⟨rfl,rfl, -⟩:=Addr.mk.inj (YG o);exact⟨_,cap,c,b,rfl,⟨k,l,m,t⟩,r,q⟩
theorem gi.UB{c:V}{f:Nat}{g:Z}(b:gi c f g [(0,1)]):∃a cap,g=U (K ⟨a,0,I⟩) 1 cap/\c.cell? ⟨a,0,I⟩=K (A G 0)/\c.cell? ⟨a,1,I⟩=K (A G 1)/\f<=a:=by
 rcases aV b.1 with⟨_,i⟩|⟨h,cap,rfl,k,l,_⟩
 .cases i
 .exact⟨h,cap,rfl,au b.1 (j:=0) rfl,au b.1 (j:=1) rfl,k⟩
def VU(a h i c g f:Nat)(b:V):Prop:=b.cell? a=K (A G 0)/\b.cell? ⟨a,1,I⟩=K (A G 3)/\b.cell? ⟨a,2,I⟩=K (A G 0)/\b.cell? ⟨a,3,I⟩=K (A G 0)/\b.cell? ⟨a,4,I⟩=K (A G 4)/\b.cell? ⟨a,5,I⟩=K (A G 8)/\b.cell? ⟨a,6,I⟩=K (A G 64)/\b.cell? ⟨a,7,I⟩=K (A G 8)/\b.cell? ⟨a+1,2,I⟩=K (U (K h) 1 i)/\b.cell? ⟨a+1,4,I⟩=K (U (K ⟨c,g,I⟩) 1 f)/\b.cell? ⟨a+1+1+1,0,I⟩=K (A G 0)/\b.cell? ⟨a+1+1+1,1,I⟩=K (A G 1)
theorem xI(C:Nat)(b2 b4 b1:Z)(a:V)(b7:iw a C b2 [vk])(b8:gi a C b4 [(0,1)])(W:aa a C b1 [8]):
  d prog 130 #[Yc bE,Yc #[A G 8,A G 8,b2,b4,b1],A G 0] a λt f=>∃n cap R P,t=e (Ye #[Yc #[A G 0,A G 0,A G 1,U (K ⟨n,0,I⟩) 1 cap],U R 1 P,Ya])/\a.heap.size<=n/\lN f n/\Ei f a (U R 1 P)/\X a a f:=by
 obtain⟨l,c,g7,g6,rfl,b5,g0,j3⟩:=b7.VN;obtain⟨c,rfl⟩:∃a3,c=a3+1:=⟨c - 1,O⟩;obtain⟨m,u,rfl,b3,e7,g1⟩:=b8.UB;obtain⟨b0,b,rfl⟩:=W.ints.shape;have a0:aY a (U b0 1 b) [8]:=W.ints
 obtain⟨h,i,rfl,j2⟩:∃h i,b0=K ⟨h,i,I⟩/\1<=b:=by
  obtain⟨h7,h8,t,a1, -, -, -,g2⟩:=a0;simp only [Yy] at t;obtain⟨rfl, -,rfl⟩:=t;obtain⟨n,off,rfl, -⟩:=g2 0 H;exact⟨n,off,rfl,a1⟩
 obtain⟨b,rfl⟩:∃a3,b=a3+1:=⟨b - 1,O⟩;have lg:=Yj a _ b3;have e2:=E b5;have e1:=E a0;have a5:=E (λ(h5:V) g4 g5=>Bc g7 g6 l 0 (c+1) (U (K ⟨h,i,I⟩) 1 (b+1)) h5 g4 g5);unfold bE at a5⊢;have a6:=E (N:X a a (((a.alloc (M #[A G 0,A G 3,A G 0,A G 0,A G 4,A G 8,A G 64,A G 8] 23)).alloc (M #[A G 8,A G 8,U (K l) 1 (c+1),U (K m) 1 u,U (K ⟨h,i,I⟩) 1 (b+1)] 111)).alloc (M #[A G 0,A G 0,A G 0,U I 0 0] 231)));have i7:(((a.alloc (M #[A G 0,A G 3,A G 0,A G 0,A G 4,A G 8,A G 64,A G 8] 23)).alloc (M #[A G 8,A G 8,U (K l) 1 (c+1),U (K m) 1 u,U (K ⟨h,i,I⟩) 1 (b+1)] 111)).alloc (M #[A G 0,A G 0,A G 0,U I 0 0] 231)).cell? m=K (A G 0):=(a6.o.cell (p:=m) lg).trans b3;have i9:(((a.alloc (M #[A G 0,A G 3,A G 0,A G 0,A G 4,A G 8,A G 64,A G 8] 23)).alloc (M #[A G 8,A G 8,U (K l) 1 (c+1),U (K m) 1 u,U (K ⟨h,i,I⟩) 1 (b+1)] 111)).alloc (M #[A G 0,A G 0,A G 0,U I 0 0] 231)).cell? ⟨m,1,I⟩=K (A G 1):=(a6.o.cell (p:=⟨m,1,I⟩) lg).trans e7;obtain⟨g,r⟩:∃e6,e6=((((a.alloc (M #[A G 0,A G 3,A G 0,A G 0,A G 4,A G 8,A G 64,A G 8] 23)).alloc (M #[A G 8,A G 8,U (K l) 1 (c+1),U (K m) 1 u,U (K ⟨h,i,I⟩) 1 (b+1)] 111)).alloc (M #[A G 0,A G 0,A G 0,U I 0 0] 231)).alloc (M #[A G 0,A G 1] 228)):=⟨_,rfl⟩;have D:=E (show X a a g from by rw [r];go_grown)
 have j:ai g a #[A G 0,A G 3,A G 0,A G 0,A G 4,A G 8,A G 64,A G 8] 23:=by rw [r];exact(((ai.new a _ _).alloc _).alloc _).alloc _
 have x:ai g (a.heap.size+1) #[A G 8,A G 8,U (K l) 1 (c+1),U (K m) 1 u,U (K ⟨h,i,I⟩) 1 (b+1)] 111:=by rw [r];exact((h_ _ _ _ _ Y).alloc _).alloc _
 have a9:ai g (a.heap.size+1+1) #[A G 0,A G 0,A G 0,U I 0 0] 231:=by rw [r];exact(h_ _ _ _ _ Y).alloc _
 have w:ai g (a.heap.size+1+1+1) #[A G 0,A G 1] 228:=by rw [r];exact h_ _ _ _ _ Y
 have c6:=E w;have c9:=E a9;have e4:=E (show VU a l (c+1) h i (b+1) g.drew from⟨j.cell 0,j.cell 1,j.cell 2,j.cell 3,j.cell 4,j.cell 5,j.cell 6,j.cell 7,x.cell 2,x.cell 4,w.cell 0,w.cell 1⟩);have c7:=E j;have c8:=E x;have v:=E r;clear b7 b8 W a0 b5 g0 g1 j x a9 w r;have k2:(1:Int)<=((b+1:Nat):Int):=O;have k3:(1:Int)<=(b:Int)+1:=O;have k4:(0:Int)<=(b:Int):=O;have k5:¬b+1=0:=O;have j7:(1:Int)<=((c+1:Nat):Int):=O;have j8:(1:Int)<=(c:Int)+1:=O;have j9:(0:Int)<=(c:Int):=O;have k0:¬c+1=0:=O;have k1:Zc G 1=1:=H;go_enter func130,ntmps130;go_wp2;rw [<-v.o]
 go_region_held3 (λf=>f.cell? a=K (A G 0)/\f.cell? ⟨a,1,I⟩=K (A G 3)/\f.cell? ⟨a,2,I⟩=K (A G 0)/\f.cell? ⟨a,3,I⟩=K (A G 0)/\f.cell? ⟨a,4,I⟩=K (A G 4)/\f.cell? ⟨a,5,I⟩=K (A G 8)/\f.cell? ⟨a,6,I⟩=K (A G 64)/\f.cell? ⟨a,7,I⟩=K (A G 8)/\f.cell? ⟨a.heap.size+1,2,I⟩=K (U (K l) 1 (c+1))/\f.cell? ⟨a.heap.size+1,4,I⟩=K (U (K ⟨h,i,I⟩) 1 (b+1))/\f.cell? ⟨a.heap.size+1+1+1,0,I⟩=K (A G 0)/\f.cell? ⟨a.heap.size+1+1+1,1,I⟩=K (A G 1)) (first|exact e4.o|exact e5.o)
  ((go_at_call 176;go_loud (refine(a5.o _ (e2.o.ext (ext D.o N)) (e1.o.ext (ext D.o N))).mono ?_;rintro t a2 ⟨j6,R,P,rfl,g3,c4,b9⟩;have e3:=E g3;obtain⟨n,cap,rfl,c3,c5⟩:=c4.q;have s:=ext (N:X g g g.drew) b9;have a8:=E c5;have a7:=E c3;have h6:=E s;have e0:=E (ext D.o s);have k:=c7.o.ext s;have J:=c8.o.ext s;have y:=c6.o.ext s;have e5:=E (show VU a l (c+1) h i (b+1) a2 from⟨k.cell 0,k.cell 1,k.cell 2,k.cell 3,k.cell 4,k.cell 5,k.cell 6,k.cell 7,J.cell 2,J.cell 4,y.cell 0,y.cell 1⟩);have L:=E (c9.o.ext s);have F:=E y;clear k J y c4 b9 c5 s c3)))
 obtain⟨⟨h9,i0,i1,i2⟩,⟨i3,i4,i5,i6⟩⟩:=L.o.four;have j5:=L.o.lt;have j0:a2.cell? ⟨a.heap.size+1+1+1,0,I⟩=K (A G 0):=F.o.cell 0;have j1:a2.cell? ⟨a.heap.size+1+1+1,1,I⟩=K (A G 1):=F.o.cell 1;have j4:=F.o.lt;go_wp2;obtain⟨⟨g8,a1,g9,h0⟩, -⟩:=(L.o.wu (A G 0) (A G 0) (A G 1) (U (K ⟨n,0,I⟩) 1 cap)).four;refine YD (by simp [YU,results130,go_sem,g8,a1,g9,h0];try rfl) rfl ?_
 have c2:n≠a.heap.size+1+1:=by
  have T:=a7.o
  have b6:g.drew.heap.size=a.heap.size+4:=by rw [v.o];simp
  omega
 obtain⟨h3,h4,h1,h2⟩:=a8.o.c1;refine⟨_,_,_,_,rfl,?_,⟨iE c2 a8.o.c0 _ _ _ _,h3,h4,iE c2 h1 _ _ _ _,h2⟩,?_,fT e0.o O _ _ _ _⟩
 .have T:=a7.o
  have b6:g.drew.heap.size=a.heap.size+4:=by rw [v.o];simp
  omega
 .obtain⟨e8,e9,T⟩:=e3.o
  have b6:g.drew.heap.size=a.heap.size+4:=by rw [v.o];simp
  have z:a.heap.size+1+1<g.drew.heap.size:=O;exact⟨e8,e9,aA (Yu (Yu (Yu (Yu T z _) z _) z _) z _) O⟩
structure d_(w:V)(B:Nat)(fv gv cv:Z):Prop where
 fr:iw w B fv [vk]
 gr:gi w B gv [(0,1)]
 ca:aa w B cv [8]
theorem d_.ext{c j:V}{f:Nat}{h i g:Z}(a:d_ c f h i g)(b:X c c j):d_ j f h i g:=⟨a.fr.ext b,a.gr.ext b,a.ca.ext b⟩
theorem d_.shape{r:V}{m:Nat}{k l j:Z}(i:d_ r m k l j):∃c f g h a b,k=U c 1 f/\l=U g 1 h/\j=U a 1 b:=by
 obtain⟨c,f,o⟩:=i.fr.dm (n:=1) rfl;obtain⟨g,h,p⟩:=i.gr.dm (n:=1) rfl;obtain⟨a,b,q⟩:=i.ca.ints.shape;exact⟨c,f,g,h,a,b,o,p,q⟩
def oA(b c a:Z):Z:=Yc #[A G 8,A G 8,b,c,a]
def MX(a cap:Nat):Z:=Yc #[A G 0,A G 0,A G 1,U (K a) 1 cap]
theorem Ie(g:Nat)(C D y:Z)(a:V)(j:d_ a g C D y):
  d prog 193 #[Yc bE,oA C D y,A G 0] a λz T=>∃b cap,z=e (Ye #[MX b cap,Ya])/\a.heap.size<=b/\lN T b/\X a a T:=by
 obtain⟨s,t,u,v,w,x,rfl,rfl,rfl⟩:=j.shape;have a2:=E j;have n:=E (λ(a0:V) (l:d_ a0 g (U s 1 t) (U u 1 v) (U w 1 x))=>xI g _ _ _ a0 l.fr l.gr l.ca);unfold bE at n⊢;unfold oA;obtain⟨f,c⟩:∃a6,a6=(((a.alloc (M #[A G 0,A G 3,A G 0,A G 0,A G 4,A G 8,A G 64,A G 8] 23)).alloc (M #[A G 8,A G 8,(U s 1 t),(U u 1 v),(U w 1 x)] 111)).alloc (M #[A G 0,A G 0,A G 0,U I 0 0] 231)):=⟨_,rfl⟩;have h:=E (show X a a f from by rw [c];go_grown);have m:=E (show ai f (a.heap.size+1+1) #[A G 0,A G 0,A G 0,U I 0 0] 231 from by rw [c];exact h_ _ _ _ _ Y);have q:=E (show f.heap.size=a.heap.size+3 from by rw [c];simp);rw [c] at h m q;clear j c f;go_enter func193,ntmps193
 go_wp2_with (first
  |(go_at_call 130;go_loud (refine(n.o _ (a2.o.ext h.o)).mono ?_;rintro z W ⟨b,cap,c4,c3,rfl,L,R, -,k⟩;have r:=E R;have a3:=E L;have a1:=E (ext h.o k);have i:=E (m.o.ext k);obtain⟨⟨b3,b4,b5,b6⟩,⟨b7,b8,b9,c2⟩⟩:=i.o.four;have c5:=i.o.lt;clear L R k)))
 obtain⟨⟨a7,a8,a9,b0⟩, -⟩:=((i.o.wu (A G 0) (A G 0) (A G 1) (U (K ⟨b,0,I⟩) 1 cap)).alloc (M #[A G 0,A G 0,A G 1,U (K ⟨b,0,I⟩) 1 cap] 231)).four;refine YD (by simp [YU,results193,go_sem,a7,a8,a9,b0];try rfl) rfl ?_;have J:=a3.o;have F:=q.o;have P:b≠a.heap.size+1+1:=O
 have a5:lN ((((W.setCell ⟨a.heap.size+1+1,0,I⟩ (A G 0)).setCell ⟨a.heap.size+1+1,1,I⟩ (A G 0)).setCell ⟨a.heap.size+1+1,2,I⟩ (A G 1)).setCell ⟨a.heap.size+1+1,3,I⟩ (U (K ⟨b,0,I⟩) 1 cap)) b:=⟨iE P r.o.c0 _ _ _ _,by
  obtain⟨b1,b2,F,J⟩:=r.o.c1
  exact⟨b1,b2,iE P F _ _ _ _,J⟩⟩
 have p:X a a ((((W.setCell ⟨a.heap.size+1+1,0,I⟩ (A G 0)).setCell ⟨a.heap.size+1+1,1,I⟩ (A G 0)).setCell ⟨a.heap.size+1+1,2,I⟩ (A G 1)).setCell ⟨a.heap.size+1+1,3,I⟩ (U (K ⟨b,0,I⟩) 1 cap)):=fT a1.o O _ _ _ _;exact⟨_,_,rfl,O,a5.ext N,p.alloc p.size _⟩
end
end Go.Proofs.YtajkpgaheechmaaGreatDoor
