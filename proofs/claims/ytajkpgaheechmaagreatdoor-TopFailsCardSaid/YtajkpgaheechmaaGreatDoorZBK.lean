/- TlW -/
import Derived.Test.YtajkpgaheechmaaGreatDoorZBJ
set_option maxRecDepth 100000
set_option maxHeartbeats 16000000
set_option linter.unusedSimpArgs false
set_option linter.unusedVariables false
set_option linter.unusedSectionVars false
namespace Go.Proofs.YtajkpgaheechmaaGreatDoor
open _root_.Go.Proofs.Tryz
open Go.Value renaming int->A,slice->U,agg->Yc,iface->Yd
open Go.IntKind renaming i64->G,wrap_i64->Yo,wrap->Zc
open Option renaming none->I,some->K
open Go.Obj renaming cells->M
open Go.Ending renaming returned->e
open Go renaming World->V,Value->Z,Calls->d,Addr->Yi
open Go.RowKit renaming Below->X,intOf->Yz
open Or renaming inl->Yg
open Nat renaming le_trans->Yl,zero_le->Yr,lt_of_lt_of_le->Yv
open Option.some renaming inj->YG
open And renaming intro->YI
open Go.RowKit
theorem zx(c:Int):∃a:Nat,a<64/\∀h:V,d prog 17 #[A G c,A G 64] h λf k=>f=e (A G a)/\h=k:=by
 obtain⟨a,g,f,i,j⟩:=Ux c;refine⟨a,g,λh=>?_⟩;generalize p:c.tmod 64=b at*
 have n:Zc G (b+64)=b+64:=by rw [Yo];omega
 have m:Zc G b=b:=by rw [Yo];omega
 have o:Zc G (a:Int)=(a:Int):=by rw [Yo];omega
 have l:=E g;clear g i j;go_enter func17,ntmps17;go_wp2;go_returns;exact⟨by first|rfl|(simp [f];done)|(congr 2),rfl⟩
section
variable (W:V) (hg:bN W) (c:cF) (v u:Z) (src:Bs) (k:Int) (l:List kV) (hv:ah W v src) (hs:src.length<=140737488355328) (hu:jW W u l)
include hg hv hs hu
theorem EN(b1:iB c=false):d prog 4 #[c.val,v,A G k,u] W λf b8=>f=e (.bool true)/\X W W b8:=by
 obtain⟨J,e1,R⟩:=zx k;have b5:=E R;have y:=E (λ(h:V)=>Ko c 4194304 ((1+J:Nat):Int) v h b1)
 have e2:Zc G (1+(J:Int))=((1+J:Nat):Int):=by rw [Yo];omega
 have P:=E (λ(h:V) (j:X W W h)=>kC v src h (hv.ext j) hs);have z:=E (λ(h:V) (j:X W W h)=>sa h (hg.ext j));obtain⟨m,a2⟩:∃b,c.fq=b:=⟨_,rfl⟩;obtain⟨n,a3⟩:∃b,c.eC=b:=⟨_,rfl⟩;obtain⟨p,a5⟩:∃b,c.reach=b:=⟨_,rfl⟩;obtain⟨q,a6⟩:∃b,c.cut=b:=⟨_,rfl⟩;obtain⟨r,a7⟩:∃b,c.gop=b:=⟨_,rfl⟩;obtain⟨s,a8⟩:∃b,c.bX=b:=⟨_,rfl⟩;obtain⟨t,a9⟩:∃b,c.room=b:=⟨_,rfl⟩;obtain⟨w,b0⟩:∃b,c.fill=b:=⟨_,rfl⟩
 have f:c.val=Yc #[A G m,A G n,A G p,A G q,A G r,A G s,A G t,A G w]:=by rw [<-a2,<-a3,<-a5,<-a6,<-a7,<-a8,<-a9,<-b0];rfl
 clear a2 a3 a5 a6 a7 a8 a9 b0;rw [f] at y⊢;have T:=E (N:X W W (W.alloc (M #[A G m,A G n,A G p,A G q,A G r,A G s,A G t,A G w] 23)));have b4:=E (ai.new W #[A G m,A G n,A G p,A G q,A G r,A G s,A G t,A G w] 23);obtain⟨c7,cap,rfl⟩:=hv.shape;obtain⟨b2,D⟩:∃b2,src.length=b2:=⟨_,rfl⟩;have c4:=E D;obtain⟨b3,F⟩:∃b3,l.length=b3:=⟨_,rfl⟩;have c5:=E F;obtain⟨c6,c8,rfl⟩:=hu.dm F;rw [D] at y P⊢;clear hv hu hg hs R b1 f D F;go_enter func4,ntmps4
 go_wp2_with fail
 refine(z.o _ T.o).mono ?_;rintro f x ⟨rfl,a⟩;have b6:=E (ext T.o a);have L:=E (b4.o.ext a);have a1:=E (λ(h:V) (j:X x x h)=>(L.o.ext j).eight);have e3:=L.o.lt;clear a
 go_wp2_with fail
 go_region_held3 (λg=>g.cell? W=K (A G m)/\g.cell? ⟨W,1,I⟩=K (A G n)/\g.cell? ⟨W,2,I⟩=K (A G p)/\g.cell? ⟨W,3,I⟩=K (A G q)/\g.cell? ⟨W,4,I⟩=K (A G r)/\g.cell? ⟨W,5,I⟩=K (A G s)/\g.cell? ⟨W,6,I⟩=K (A G t)/\g.cell? ⟨W,7,I⟩=K (A G w))
  (first|with_reducible exact b7.o|(exact a1.o _ N))
  (first
   |(go_at_call 17;with_reducible refine(b5.o _).mono ?_;rintro f g ⟨rfl,rfl⟩)
   |(go_at_call 7;refine(y.o _).mono ?_;rintro f c2 ⟨rfl,a⟩;have a0:=E (show X x x c2 from ext N a);have b7:=E (a1.o _ a0.o);clear a))
 have C:=E (ext b6.o a0.o)
 go_wp2_with fail
 refine(P.o _ C.o).mono ?_;rintro f e5 (⟨c9,err,c0,rfl,b9,a⟩|⟨e0,e4,c0,rfl,c1,a⟩)
 .have i:=E (ext C.o a)
  clear a b9
  go_wp2_with fail
  refine(z.o _ i.o).mono ?_;rintro f c3 ⟨rfl,a⟩;go_wp2;go_returns;exact⟨rfl,ext i.o a⟩
 .have i:=E (ext C.o a)
  clear a c1
  go_wp2_with fail
  refine(z.o _ i.o).mono ?_;rintro f c3 ⟨rfl,a⟩;go_wp2;go_returns;exact⟨rfl,ext i.o a⟩
theorem AR(w:iB c=true){c7:List Fr}(e0:jq src= .ok c7):d prog 4 #[c.val,v,A G k,u] W λh c6=>h=e (.bool true)/\X W W c6:=by
 obtain⟨F,g5,R⟩:=zx k;have c4:=E R;have z:=E (λ(a:V) (g:ah a v src)=>vg c 4194304 ((1+F:Nat):Int) v src a w g hs H O O)
 have g6:Zc G (1+(F:Int))=((1+F:Nat):Int):=by rw [Yo];omega
 have L:=E (λ(a:V) (g:X W W a)=>kC v src a (hv.ext g) hs);have P:=E (λ(a:V) (g:X W W a)=>sa a (hg.ext g));have T:=E (λ(a:V) (g:X W W a)=>Is c w v u src l a (hv.ext g) (hu.ext g));have a5:=E (λ(a:V) (g:X W W a)=>hv.ext g);have e7:=E hu;have e4:=E hg;have e2:=E w;obtain⟨j,a8⟩:∃b,c.fq=b:=⟨_,rfl⟩;obtain⟨m,a9⟩:∃b,c.eC=b:=⟨_,rfl⟩;obtain⟨n,b0⟩:∃b,c.reach=b:=⟨_,rfl⟩;obtain⟨p,b1⟩:∃b,c.cut=b:=⟨_,rfl⟩;obtain⟨q,b2⟩:∃b,c.gop=b:=⟨_,rfl⟩;obtain⟨r,b3⟩:∃b,c.bX=b:=⟨_,rfl⟩;obtain⟨s,b4⟩:∃b,c.room=b:=⟨_,rfl⟩;obtain⟨t,b5⟩:∃b,c.fill=b:=⟨_,rfl⟩
 have h:c.val=Yc #[A G j,A G m,A G n,A G p,A G q,A G r,A G s,A G t]:=by rw [<-a8,<-a9,<-b0,<-b1,<-b2,<-b3,<-b4,<-b5];rfl
 clear a8 a9 b0 b1 b2 b3 b4 b5;rw [h] at z T⊢;have a0:=E (N:X W W (W.alloc (M #[A G j,A G m,A G n,A G p,A G q,A G r,A G s,A G t] 23)));have c3:=E (ai.new W #[A G j,A G m,A G n,A G p,A G q,A G r,A G s,A G t] 23);obtain⟨g0,cap,rfl⟩:=hv.shape;obtain⟨c1,C⟩:∃c1,src.length=c1:=⟨_,rfl⟩;have e5:=E C;obtain⟨c2,D⟩:∃c2,l.length=c2:=⟨_,rfl⟩;have e6:=E D;obtain⟨e9,g1,rfl⟩:=hu.dm D;rw [C] at z L T a5⊢;clear hv hu hg hs R w h C D;go_enter func4,ntmps4
 go_wp2_with fail
 refine(P.o _ a0.o).mono ?_;rintro h y ⟨rfl,f⟩;have a1:=E (ext a0.o f);have J:=E (c3.o.ext f);have a7:=E (λ(a:V) (g:X y y a)=>(J.o.ext g).eight);have g7:=J.o.lt;clear f
 go_wp2_with fail
 go_region_held3 (λi=>i.cell? W=K (A G j)/\i.cell? ⟨W,1,I⟩=K (A G m)/\i.cell? ⟨W,2,I⟩=K (A G n)/\i.cell? ⟨W,3,I⟩=K (A G p)/\i.cell? ⟨W,4,I⟩=K (A G q)/\i.cell? ⟨W,5,I⟩=K (A G r)/\i.cell? ⟨W,6,I⟩=K (A G s)/\i.cell? ⟨W,7,I⟩=K (A G t))
  (first|with_reducible exact c5.o|(exact a7.o _ N))
  (first
   |(go_at_call 17;with_reducible refine(c4.o _).mono ?_;rintro h i ⟨rfl,rfl⟩)
   |(go_at_call 7;refine(z.o _ (a5.o _ (ext a1.o N))).mono ?_;rintro h e1 ⟨g9,g8,e8,h0,rfl,b6,b7,b8,b9,c0,c8,f⟩;have e3:=E (YI b6 (YI b7 (YI b8 (YI b9 c0))));have a6:=E (show X y y e1 from ext N f);have c5:=E (a7.o _ a6.o);clear b6 b7 b8 b9 c0 c8 f))
 have a2:=E (ext a1.o a6.o)
 go_wp2_with fail
 refine(L.o _ a2.o).mono ?_;rintro h h2 (⟨g2,err,x,rfl,g4,f⟩|⟨g3,h1,x,rfl,c9,f⟩)
 .rw [e0] at x;cases x
 .have a3:=E (ext a2.o f)
  clear f c9 x
  go_wp2_with fail
  refine(P.o _ a3.o).mono ?_;rintro h h3 ⟨rfl,f⟩;go_wp2;go_returns;exact⟨rfl,ext a3.o f⟩
theorem Ka(c9:iB c=true){o9:Int}(m8:jq src= .error o9):d prog 4 #[c.val,v,A G k,u] W λb o5=>b=e (.bool true)/\X W W o5:=by
 obtain⟨x,p5,j2⟩:=zx k;have j1:=E j2;have a8:=E (λ(h:V) (r:ah h v src)=>vg c 4194304 ((1+x:Nat):Int) v src h c9 r hs H O O)
 have q0:Zc G (1+(x:Int))=((1+x:Nat):Int):=by rw [Yo];omega
 have e5:=E (λ(h:V) (r:X W W h)=>kC v src h (hv.ext r) hs);have e7:=E (λ(h:V) (r:X W W h)=>sa h (hg.ext r));have b1:=E (λ(h:V) (r:X W W h)=>Is c c9 v u src l h (hv.ext r) (hu.ext r));have h0:=E (λ(h:V) (r:X W W h)=>hv.ext r);have k4:=E hu;have g9:=E hg;have j5:=E c9;obtain⟨b9,l3⟩:∃f,c.fq=f:=⟨_,rfl⟩;obtain⟨c0,l4⟩:∃f,c.eC=f:=⟨_,rfl⟩;obtain⟨c2,l5⟩:∃f,c.reach=f:=⟨_,rfl⟩;obtain⟨c3,l6⟩:∃f,c.cut=f:=⟨_,rfl⟩;obtain⟨c4,l7⟩:∃f,c.gop=f:=⟨_,rfl⟩;obtain⟨c5,l8⟩:∃f,c.bX=f:=⟨_,rfl⟩;obtain⟨c6,l9⟩:∃f,c.room=f:=⟨_,rfl⟩;obtain⟨c7,m0⟩:∃f,c.fill=f:=⟨_,rfl⟩
 have b:c.val=Yc #[A G b9,A G c0,A G c2,A G c3,A G c4,A G c5,A G c6,A G c7]:=by rw [<-l3,<-l4,<-l5,<-l6,<-l7,<-l8,<-l9,<-m0];rfl
 clear l3 l4 l5 l6 l7 l8 l9 m0;rw [b] at a8 b1⊢;have g7:=E (N:X W W (W.alloc (M #[A G b9,A G c0,A G c2,A G c3,A G c4,A G c5,A G c6,A G c7] 23)));have i5:=E (ai.new W #[A G b9,A G c0,A G c2,A G c3,A G c4,A G c5,A G c6,A G c7] 23);obtain⟨u6,cap,rfl⟩:=hv.shape;obtain⟨n2,h7⟩:∃n2,src.length=n2:=⟨_,rfl⟩;have k1:=E h7;obtain⟨T,h8⟩:∃T,l.length=T:=⟨_,rfl⟩;have a3:=E h8;obtain⟨u5,u7,rfl⟩:=hu.dm h8;rw [h7] at a8 e5 b1 h0⊢;clear hv hu hg hs j2 c9 b h7 h8;go_enter func4,ntmps4
 go_wp2_with fail
 refine(e7.o _ g7.o).mono ?_;rintro b e3 ⟨rfl,a⟩;have b2:=E (ext g7.o a);have e4:=E (i5.o.ext a);have b7:=E (λ(h:V) (r:X e3 e3 h)=>(e4.o.ext r).eight);have q7:=e4.o.lt;clear a
 go_wp2_with fail
 go_region_held3 (λt=>t.cell? W=K (A G b9)/\t.cell? ⟨W,1,I⟩=K (A G c0)/\t.cell? ⟨W,2,I⟩=K (A G c2)/\t.cell? ⟨W,3,I⟩=K (A G c3)/\t.cell? ⟨W,4,I⟩=K (A G c4)/\t.cell? ⟨W,5,I⟩=K (A G c5)/\t.cell? ⟨W,6,I⟩=K (A G c6)/\t.cell? ⟨W,7,I⟩=K (A G c7))
  (first|with_reducible exact b6.o|(exact b7.o _ N))
  (first
   |(go_at_call 17;with_reducible refine(j1.o _).mono ?_;rintro b t ⟨rfl,rfl⟩)
   |(go_at_call 7;refine(a8.o _ (h0.o _ (ext b2.o N))).mono ?_;rintro b n4 ⟨a7,e1,F,e2,rfl,i,m,j,n,c8,p1,a⟩;have j8:=E (YI i (YI m (YI j (YI n c8))));have b5:=E (show X e3 e3 n4 from ext N a);have b6:=E (b7.o _ b5.o);clear i m j n c8 p1 a))
 have b3:=E (ext b2.o b5.o)
 go_wp2_with fail
 refine(e5.o _ b3.o).mono ?_;rintro b r7 (⟨u9,err,R,rfl,P,a⟩|⟨v5,w3,R,rfl,e0,a⟩)
 .obtain⟨code,rfl,q8,p3⟩:=Pw R
  have j7:=E R;have h2:=E (ext b5.o a);have k5:=E a;have g8:=E (ext b3.o a);have i7:=E P;obtain⟨r3,u1,rfl⟩:=P.shape;clear a P R m8;obtain⟨s4,s5,s6,s7,n9,s8,s9,u0⟩:=b7.o _ h2.o;have w0:W.heap.size<r7.heap.size:=Yv q7 h2.o.size
  go_wp2_with fail
  refine(b1.o _ g8.o).mono ?_;rintro b r8 ⟨r0,rfl,m7,a⟩;have j4:=E (ext g8.o a);have k6:=E (ext k5.o a);have i9:=E (i7.o.ext a);have k3:=E m7;clear a m7 s4 s5 s6 s7 n9 s8 s9 u0 b6
  cases r0 with
  |false=>
   go_wp2_with fail
   refine(e7.o _ j4.o).mono ?_;rintro b n8 ⟨rfl,a⟩;go_wp2;go_returns;exact⟨rfl,ext j4.o a⟩
  |true=>
   have m6:src.length<=20000/\l.length<=200:=by
    have v8:=k3.o (by first|rfl|trivial);have h5:=k1.o;have v7:=a3.o;omega
   have k2:=E m6;have i6:=E (show MC W c src code (1+x) from⟨j5.o,O,j7.o,q8,p3,O,O,g9.o⟩)
   have k7:=E (show ST W e1 a7 c e2 (1+x) src code F (dZ 4194304) I r8 from by
    obtain⟨i,m,j,n,c8⟩:=j8.o;have o0:=b2.o.size;have b6:aC W e1 F (dZ 4194304) n4:=⟨i,λk p4=>Yl o0 (m k p4),b3.o⟩
    exact ST.ext ⟨b6,j,n,Yl o0 c8,Yg rfl⟩ k6.o)
   clear j8 b5 h2 k5 k6 g7 b2 b3 g8 e4 b7 a8 e5 b1 i7 k3 j7 h0 j5 k1 p5 q0 j1 i5 m6;go_wp2
   go_loopw [12] (λi1 wr=>∃(g:Nat) (F:bY) (g4:DS) (m2:Option Yi),g<=T/\i1=A G g/\ST W e1 a7 c e2 (1+x) src code F g4 m2 wr/\cz (ic c src code) g4 (50*g)/\cx wr 2 (Yd r3 u1) code) (λi1 _=>T - (Yz i1).toNat)
   case atStart=>exact⟨0,F,_,_,Yr _,rfl,k7.o,Oj H H,i9.o⟩
   case round=>
    obtain⟨g,u3,g4,m2,v9,rfl,m9,m4,P⟩:=hrel;have D:=E m9;have k0:=E m4;have j6:=E P;clear m9 m4 P k7 i9 F;by_cases m5:g<T
    .obtain⟨k8,off,r5,rfl,q6,e0⟩:=(k4.o.ext D.o.aB.below).cellAt (j:=g) (by rw [a3.o];exact m5)
     have p6:∃b8 i2 i3,K (⟨k8,off,I⟩:Yi)=K ⟨b8,i2,I⟩/\b8<W.heap.size/\um W b8 (i2+g*3) (l.getD g kV.ae) i3:=k4.o.cellAt (j:=g) (by rw [a3.o];exact m5);obtain⟨b8,i2,i3,m1,n1,h9⟩:=p6;obtain⟨rfl,rfl, -⟩:=Addr.mk.inj (YG m1)
     have p9:i3=r5:=by
      have h5:=(D.o.aB.below.cell (p:=⟨k8,off+g*3+2,I⟩) n1).trans h9.c2;rw [e0.c2] at h5;exact(YG h5).symm
     subst p9;clear m1 n1;generalize l.getD g kV.ae=o at*;have b4:=E h9.ints;have j9:=E e0.i1;obtain⟨q5,q9,n3⟩:=o;obtain⟨k9,l0,c1,q1,q2,p7⟩:=e0;simp only at k9 l0 c1 b4 j9;obtain⟨w2,w1,rfl, -⟩:=p7;simp only at c1 b4;obtain⟨n9,n0⟩:∃f,n3.length=f:=⟨_,rfl⟩;rw [n0] at c1 b4;clear h9 q1 q2 n0
     have m3:50*g+200<=100000:=by have:=k2.o;have:=a3.o;omega
     have e6:=E (Rv ⟨q5,q9,n3⟩ _ b4.o j9.o i6.o D.o k0.o m3);simp only at e6
     go_wp2_with fail
     refine e6.o.mono ?_;rintro b r9 ⟨f,h1,g5,h4,rfl,i,m,j,n⟩;have J:=E i;have C:=E m;have g2:=E (D.o.err j j6.o);clear i m j n e6 k9 l0 c1 q6;have e9:=E (wF (50*g+50) a7 J.o.aB (J.o.ay.cell 10) C.o.inv O);rw [Ok C.o] at e9
     go_wp2_with fail
     refine e9.o.mono ?_;rintro b s0 ⟨a,rfl⟩;have w:=E (J.o.ext a);have b0:=E (g2.o.ext a);clear a e9
     rcases w.o.Kc with p|⟨q,q4,q3,r1,r4,r2,p0,o4,p,L,i0,h6,o7,p8,l1,l2⟩
     .have e8:=E (GY (by rw [w.o.mJ,p]))
      go_wp2_with fail
      refine e8.o.mono ?_;rintro b n6 ⟨o6,o8,rfl,a⟩;have s:=E (w.o.ext a);have a2:=E (b0.o.ext a);have g1:=E (PG (by rw [s.o.mJ,p]));clear a
      go_wp2_with fail
      refine g1.o.mono ?_;rintro b s3 ⟨rfl,rfl⟩;go_wp2;go_roundw
      case rel=>exact⟨g+1,h1,g5,h4,O,S,s.o,C.o.mono O,a2.o⟩
      case measure=>simp [Yz];omega
     .have e8:=E (GV (by rw [w.o.mJ,p]) L.ay l1)
      have o3:=E L;clear L
      go_wp2_with fail
      refine e8.o.mono ?_;rintro b n6 ⟨o6,o8,rfl,a⟩;have s:=E (w.o.ext a);have z:=E (o3.o.ext a);have a2:=E (b0.o.ext a);have g1:=E (PF (by rw [s.o.mJ,p]) z.o.ay l2);clear a
      go_wp2_with fail
      refine g1.o.mono ?_;rintro b s3 ⟨rfl,rfl⟩;have y:=s.o.ay;rw [p] at y;have a1:=E (p_ a7 c e2 ((1+x:Nat):Int) z.o y);rw [i0] at a1;clear y
      go_wp2_with fail
      refine a1.o.mono ?_;rintro b n8 ⟨rfl,a⟩;have a6:=E (s.o.ext a);have g6:=E (z.o.ext a);have g3:=E (a2.o.ext a);have a0:=E (yy g6.o (by rw [a6.o.mJ,p]));rw [h6] at a0;clear a
      go_wp2_with fail
      refine a0.o.mono ?_;rintro b i4 ⟨rfl,a⟩;have a5:=E (a6.o.ext a);have a9:=E (g3.o.ext a);have g0:=E (vW _ _ i4 (g9.o.ext a5.o.aB.below) a9.o);clear a
      go_wp2_with fail
      refine g0.o.mono ?_;rintro b r6 ⟨rfl,a⟩;have h3:=E (a5.o.ext a);have o1:=E (a9.o.ext a);clear a;go_wp2;go_roundw
      case rel=>exact⟨g+1,h1,g5,h4,O,S,h3.o,C.o.mono O,o1.o⟩
      case measure=>simp [Yz];omega
    .obtain rfl:g=T:=O
     have m3:50*g<=10000:=by have:=k2.o;have:=a3.o;omega
     have j0:=E (wq 0 [] (U I 0 0) (aY.nil W) O D.o k0.o)
     go_wp2_with fail
     refine j0.o.mono ?_;rintro b r9 ⟨f,h1,g5,h4,rfl,i,m,j,n,rfl⟩;have J:=E i;have C:=E m;have g2:=E (D.o.err j j6.o);have o2:=E n;clear i m j n j0;have a1:=E (wt 0 0 0 I i6.o J.o C.o O)
     go_wp2_with fail
     refine a1.o.mono ?_;rintro b s0 ⟨f,u4,u2,v3,rfl,i,m,j,n⟩;obtain⟨rfl,p2⟩:=n rfl rfl o2.o;have w:=E i;have b0:=E (J.o.err j g2.o);clear i m j n a1
     go_wp2_with fail
     refine(e7.o _ w.o.aB.below).mono ?_;rintro b n6 ⟨rfl,a⟩;have s:=E (w.o.ext a);have a2:=E (b0.o.ext a);clear a
     rcases s.o.Kc with p|⟨q,q4,q3,r1,r4,r2,p0,o4,p,L,i0,h6,o7,p8,l1,l2⟩
     .exact absurd p p2
     .have z:=E L
      have y:=s.o.ay;rw [p] at y;have j3:=E (p_ a7 c e2 ((1+x:Nat):Int) z.o y);rw [i0] at j3;clear y L
      go_wp2_with fail
      refine j3.o.mono ?_;rintro b n8 ⟨rfl,a⟩;have a6:=E (s.o.ext a);have g6:=E (z.o.ext a);have g3:=E (a2.o.ext a);have a0:=E (yy g6.o (by rw [a6.o.mJ,p]));rw [h6] at a0;clear a
      go_wp2_with fail
      refine a0.o.mono ?_;rintro b i4 ⟨rfl,a⟩;have a5:=E (a6.o.ext a);have a9:=E (g3.o.ext a);have g0:=E (vW _ _ i4 (g9.o.ext a5.o.aB.below) a9.o);clear a
      go_wp2_with fail
      refine g0.o.mono ?_;rintro b r6 ⟨rfl,a⟩;have h3:=E (a5.o.ext a);clear a;go_wp2;go_returns;exact⟨rfl,h3.o.aB.below⟩
 .rw [m8] at R;cases R
theorem zX:d prog 4 #[c.val,v,A G k,u] W λb a=>b=e (.bool true)/\X W W a:=by
 cases hc:iB c with
 |false=>exact EN W hg c v u src k l hv hs hu hc
 |true=>
  cases hsrc:jq src with
  |ok g=>exact AR W hg c v u src k l hv hs hu hc hsrc
  |error f=>exact Ka W hg c v u src k l hv hs hu hc hsrc
end
end Go.Proofs.YtajkpgaheechmaaGreatDoor
