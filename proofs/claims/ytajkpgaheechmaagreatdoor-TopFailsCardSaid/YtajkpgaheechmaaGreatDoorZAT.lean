/- YStatsH YQuant YQuantW YQuantB YQuantM YQuantD YQuantE YQuantL YWht YWhtB YWhtW YWhtF LayK YIntraP -/
import Derived.Test.YtajkpgaheechmaaGreatDoorZAS
import Derived.Outline
import Derived.KernelRfl
set_option maxRecDepth 100000
set_option maxHeartbeats 16000000
set_option linter.unusedSimpArgs false
set_option linter.unusedVariables false
set_option linter.unusedSectionVars false
namespace Go.Proofs.YtajkpgaheechmaaGreatDoor
open _root_.Go.Proofs.Tryz
open Go.Value renaming int->A,slice->U,pointer->Q,nilIface->Ya,string->Yb,agg->Yc,iface->Yd,tuple->Ye
open Go.IntKind renaming i64->G,wrap->Zc
open Option renaming none->I,some->K
open Go.Obj renaming cells->M
open Go.Ending renaming returned->e
open Go renaming World->V,Value->Z,Calls->d,Addr->Yi
open Go.RowKit renaming Below->X,intOf->Yz
open Or renaming inl->Yg,inr->Yh
open Go.World renaming block_lt_of_cell?->Yj
open Nat renaming le_refl->Yk,le_trans->Yl,zero_le->Yr,add_assoc->YW
open Go.RowKit.Below renaming refl->Yn
open List renaming getD_eq_getElem?_getD->Yp,getElem?_eq_getElem->YM,getD->YR,range->Za
open Go.IntWalk renaming i64_in->Yx
open And renaming intro->YI
open Bool renaming and_eq_true->YV
section
open Go.RowKit Go.Extern.Stop Go.Stop Go.Extern
def EP(c:Array UInt8)(a:Int)(b:Int):Array Z:=#[Yb ⟨c⟩,A G a,Yd 49 (A G b)]
theorem Rx(g:Array UInt8)(c f:Int)(a:V):
  d prog 45 #[Yb ⟨g⟩,A G c,Yd 49 (A G f)] a λi h=>∃b,i=e (Yd 142 (Q (K ⟨b,0,I⟩)))/\ai h b (EP g c f) 144/\a.heap.size<=b/\X a a h:=by
 go_enter func45,ntmps45;go_wp2;go_returns;exact⟨_,rfl,ai.new _ _ _,Yk _,N⟩
theorem DI(g:Array UInt8)(f b:Int)(j:b≠0)(a:V):
  d prog 45 #[Yb ⟨g⟩,A G f,bj b] a λi h=>∃c,i=e (Yd 142 (Q (K ⟨c,0,I⟩)))/\ai h c (EP g f b) 144/\a.heap.size<=c/\X a a h:=by
 rw [aT j];exact Rx g f b a
theorem Ps{a b:V}(x:X a a b){c f l m n o p q:Nat}{r s t u v w:Z}
  (g:a.cell? ⟨c,l,I⟩=K r/\a.cell? ⟨c,m,I⟩=K s/\a.cell? ⟨c,n,I⟩=K t/\a.cell? ⟨f,o,I⟩=K u/\a.cell? ⟨f,p,I⟩=K v/\a.cell? ⟨f,q,I⟩=K w):
  b.cell? ⟨c,l,I⟩=K r/\b.cell? ⟨c,m,I⟩=K s/\b.cell? ⟨c,n,I⟩=K t/\b.cell? ⟨f,o,I⟩=K u/\b.cell? ⟨f,p,I⟩=K v/\b.cell? ⟨f,q,I⟩=K w:=by
 have h:∀{i:Yi} {j:Z},a.cell? i=K j->b.cell? i=K j:=λ{i j} k=>(x.cell (Yj a i k)).trans k
 exact⟨h g.1,h g.2.1,h g.2.2.1,h g.2.2.2.1,h g.2.2.2.2.1,h g.2.2.2.2.2⟩
theorem Md{a:V}{b c f g h i j k:Nat}{l m n o p q:Z}
  (r:a.cell? ⟨b,f,I⟩=K l/\a.cell? ⟨b,g,I⟩=K m/\a.cell? ⟨b,h,I⟩=K n/\a.cell? ⟨c,i,I⟩=K o/\a.cell? ⟨c,j,I⟩=K p/\a.cell? ⟨c,k,I⟩=K q):
  a.drew.cell? ⟨b,f,I⟩=K l/\a.drew.cell? ⟨b,g,I⟩=K m/\a.drew.cell? ⟨b,h,I⟩=K n/\a.drew.cell? ⟨c,i,I⟩=K o/\a.drew.cell? ⟨c,j,I⟩=K p/\a.drew.cell? ⟨c,k,I⟩=K q:=r
theorem ai.Sl{b:V}{a:Nat}{f g:Z}{h:Nat}(c:ai b a #[f,g] h):b.cell? a=K f/\b.cell? ⟨a,1,I⟩=K g:=⟨c.cell 0,c.cell 1⟩
def Ty(a:List Fr)(c:List (Int×Int))(b:V)(j:Ending)(h:V):Prop:=
 ((∀g,g<a.length->wE a c g=0)/\∃k,j=e (Ye #[k,Ya])/\aa h b k (bQ (wV a c) a.length)/\X b b h)∨
 (∃f,f<a.length/\(∀g,g<f->wE a c g=0)/\wE a c f≠0/\∃i,j=e (Ye #[U I 0 0,Yd 142 (Q (K ⟨i,0,I⟩))])/\ai h i (EP #[115,116,97,116,115] f (wE a c f)) 144/\b.heap.size<=i/\X b b h)
theorem zI(i4 g3:Z)(b:List Fr)(g:List (Int×Int))(c:V)(c0:Frames c i4 b)(b9:nJ c g3 g)(m:Ih g b.length):
  d prog 128 #[i4,g3] c λR s=>Ty b g c R s:=by
 have P:=λc T=>OV g3 g b.length c T (by have:=c0.len;omega) true ⟨λ_=>m,λ_=>rfl⟩
 have h1:=E b9;have h2:=E c0;have b3:=E m.1;have g8:=E m.2.1;obtain⟨-, -,l3,l4⟩:=m;have j1:=E (λj (h9:j<g.length)=>qF (b:=g.length) b3.o h9);obtain⟨F,b8⟩:∃F,b.length=F:=⟨_,rfl⟩;obtain⟨J,b5⟩:∃J,g.length=J:=⟨_,rfl⟩;rw [b8] at P l3 l4;have i7:=E P;have t:=E b8;have L:=E b5;obtain⟨n1,cap,rfl⟩:=c0.dm b8;obtain⟨n4,n2,rfl⟩:=b9.dm b5;have k8:=b9.len;rw [b5] at k8;clear c0 b9 b8 b5 P;go_enter func128,ntmps128
 go_wp2_with fail
 refine(i7.o _ (h1.o.ext N)).mono ?_;rintro R m6 ⟨rfl,k5⟩;have k2:X c c m6:=ext N k5;go_wp2
 go_loopw [6,20] (λo a wr=>∃j f:Nat,j<=J/\a=A G j/\(f:Int)=uC g j/\aa wr c o (bQ (wV b g) f)/\(∀h,h<f->wE b g h=0)/\X c c wr) (λ_ a _=>J - (Yz a).toNat)
 case atStart=>exact⟨0,0,Yr _,rfl,rfl,aa.nil _ _,λh m=>O,k2⟩
 case round=>
  obtain⟨j,f,h9,rfl,a7,b0,a9,l⟩:=hrel;have r:=E b0;have q:=E a9;have o8:=l.size;clear b0 a9;by_cases a8:j<J
  .obtain⟨n3,o2,rfl,lg,h4,P⟩:=(h1.o.ext l).cellAt (j:=j) (by rw [L.o];exact a8)
   obtain⟨h3,k0,c6⟩:=b3.o j (by rw [L.o];exact a8);have c7:=j1.o j (by rw [L.o];exact a8);rw [g8.o,t.o] at c7;rw [t.o] at c6;obtain⟨i,e3⟩:∃i:Nat,(g.getD j (0,0)).2=i:=⟨(g.getD j (0,0)).2.toNat,O⟩;have j3:Hd (uE g f=true):=Qj b3.o (by rw [L.o];exact a8) a7
   have j2:Hd (∀a:Nat,f<a->a<f+i->uE g a=false):=λa T h8=>Si b3.o (k:=j) (by rw [L.o];exact a8) O O
   have j4:Hd (((f+i:Nat):Int)=uC g (j+1)):=by show _=_;rw [ma,e3,<-a7];omega
   rw [h3,<-a7] at h4;rw [e3] at P k0 c6 c7;have e4:f+i<=F:=O;clear h3 c6 c7 e3 a7;obtain⟨w,rfl⟩:∃w:V,w=wr:=⟨_,rfl⟩;have i0:X w w (w.alloc (M #[A G f,A G i] 228)):=N;have k3:X c c (w.alloc (M #[A G f,A G i] 228)):=l.trans (i0.mono l.size);have h0:=E (r.o.ext i0);have g7:=E (ai.new w #[A G f,A G i] 228);have o4:Zc G ((f:Int)+(i:Int))=(f:Int)+(i:Int):=Yx _ O;clear r l;go_wp2
   go_loopw [6,9] (λo g6 wr=>∃a:Nat,f<=a/\a<=f+i/\g6=A G a/\aa wr c o (bQ (wV b g) a)/\(∀h,h<a->wE b g h=0)/\X c c wr/\ai wr w #[A G f,A G i] 228) (λ_ g6 _=>(f+i) - (Yz g6).toNat)
   case atStart=>exact⟨f,O,O,rfl,h0.o,q.o,k3,g7.o⟩
   case round=>
    clear h0 g7 q;obtain⟨a,k7,n6,rfl,b0,a9,l,b6⟩:=hrel;have r:=E b0;have q:=E a9;have b2:=E b6;have o1:=b6.lt;obtain⟨i5,i6⟩:=b6.Sl;have o7:=l.size;clear b0 a9 b6 h4 P;by_cases k9:a<f+i
    .have m1:decide ((a:Int)<(f:Int)+(i:Int))=true:=by simp;omega
     have e6:a<F:=O;obtain⟨v,off,l7,l6,rfl,o0,g1,g2,s2,c9⟩:=(h2.o.ext l).cellAt (j:=a) (by rw [t.o];exact e6);have g9:=E c9
     rcases Nat.eq_or_lt_of_le k7 with b7|b7
     .have a2:Hd (uE g a=true):=by show _=_;rw [<-b7];exact j3.o
      have i9:=E (λg5 c m=>Gg g5 (b.getD a Fr.ae) c m)
      have x:Hd (wE b g a=Kw (b.getD a Fr.ae)):=by show _=_;unfold wE;rw [a2.o];rfl
      have j8:Hd (wV b g a=64+vz (b.getD a Fr.ae)*2):=by show _=_;unfold wV;rw [a2.o];rfl
      obtain⟨m8,m9⟩:=tZ (b.getD a Fr.ae)
      have m2:((a:Int)==(f:Int))=true:=by simp;omega
      clear c9 b7;generalize k4:b.getD a Fr.ae=u at*;clear k4;generalize vz u=c2 at*;generalize Kw u=y at*;have g0:Zc G (c2*2)=c2*2:=Yx _ O
      go_wp2_with fail
      clear g1 g2 s2 i5 i6;refine(i9.o _ _ (g9.o.ext N)).mono ?_;rintro R b1 ⟨rfl,a0⟩;have D:X wr wr b1:=ext N a0;obtain⟨n,c1⟩:∃n,c2*2=n:=⟨_,rfl⟩
      have c5:Hd (wV b g a=64+n):=by show _=_;rw [j8.o,c1]
      have n0:0<=n/\n<=522240:=O;obtain⟨p0,p1⟩:=n0;rw [c1] at g0
      have o6:Zc G (c2*2)=n:=by rw [c1];exact g0
      clear g0 c1;have z:X c c b1:=l.trans (D.mono l.size);have m4:=z.size;have a5:=E (r.o.ext D);have a1:=E (b2.o.ext D);clear r b2;by_cases p:y=0
      .have c4:Hd (∀h,h<a+1->wE b g h=0):=by
        intro h e8
        rcases Nat.lt_or_ge h a with m|m
        .exact q.o h m
        .obtain rfl:h=a:=O
         rw [x.o];exact p
       subst p;have l9:Zc G (64+n)=64+n:=Yx _ O
       go_wp2_with (at_builtin;refine cJ rfl (.tmp 67) (.tmp 70) rfl c.heap.size _ _ (64+n) rfl a5.o rfl Y (by unfold bh;omega) (by rw [bO];omega) O ?_)
       intro m5 s e9 e0 e5;have c3:=E (a1.o.grown e5 (MR a1.o a5.o.1 H));have C:=z.trans e0;go_wp2;go_roundw
       case rel=>exact⟨a+1,O,O,S,by rw [gG,c5.o];exact e9,c4.o,C,c3.o⟩
       case measure=>simp [Yz];omega
      .have l8:(y==0)=false:=by rw [beq_eq_false_iff_ne];exact p
       have a3:=E p;clear p
       go_wp2_with fail
       refine(DI _ _ y a3.o _).mono ?_;rintro R g4 ⟨c8,rfl,e2,k6,e1⟩;have C:X c c g4:=ext z e1;go_wp2;go_returns;exact Yh ⟨a,by rw [t.o];exact e6,q.o,by rw [x.o];exact a3.o,c8,rfl,by rw [x.o];exact e2,O,C⟩
     .have a2:Hd (uE g a=false):=j2.o a b7 k9
      obtain⟨k,l0⟩:∃k,a=k+1:=⟨a - 1,O⟩;have e7:a - 1=k:=O
      have o5:Zc G ((a:Int) - 1)=(k:Int):=by rw [Yx _ O];omega
      have n8:(0:Int)<=(k:Int):=O;have n9:(k:Int)<(F:Int):=O;have l1:k<F:=O
      have m2:((a:Int)==(f:Int))=false:=by rw [beq_eq_false_iff_ne];omega
      have j0:=E (λg5 m7 c T h8=>Gp g5 m7 (b.getD a Fr.ae) (b.getD k Fr.ae) c T h8)
      have x:Hd (wE b g a=gZ (b.getD a Fr.ae) (b.getD k Fr.ae)):=by show _=_;unfold wE sS;rw [a2.o,e7];rfl
      have c5:Hd (wV b g a=64+oz (b.getD a Fr.ae) (b.getD k Fr.ae)):=by show _=_;unfold wV sS;rw [a2.o,e7];rfl
      obtain⟨m8,m9⟩:=II (b.getD a Fr.ae) (b.getD k Fr.ae);have o9:=(tZ (b.getD a Fr.ae)).2;obtain⟨k1,l5,m3,m0,h6,l2,i1,i2,i3,h7⟩:=(h2.o.ext l).cellAt (j:=k) (by rw [t.o];exact l1)
      obtain⟨rfl,rfl⟩:v=k1/\off=l5:=by simpa using h6
      have j5:=E h7;clear c9 h7 h6 l2 l0 e7;generalize b.getD a Fr.ae=u at*;generalize b.getD k Fr.ae=a6 at*;generalize oz u a6=n at*;generalize gZ u a6=y at*;generalize vz u=p2 at*;have b4:=E (YI g1 (YI g2 (YI s2 (YI i1 (YI i2 i3)))));go_wp2;clear i5 i6
      go_region_held3 (λs=>s.cell? ⟨v,off+a*3,I⟩=K (A G u.W)/\s.cell? ⟨v,off+a*3+1,I⟩=K (A G u.H)/\s.cell? ⟨v,off+a*3+2,I⟩=K (U l7 u.pix.length l6)/\s.cell? ⟨v,off+k*3,I⟩=K (A G a6.W)/\s.cell? ⟨v,off+k*3+1,I⟩=K (A G a6.H)/\s.cell? ⟨v,off+k*3+2,I⟩=K (U m3 a6.pix.length m0))
       (first|with_reducible exact j9.o|with_reducible exact b4.o|with_reducible exact Md b4.o|go_keep)
       (first|(go_at_call 175;refine(j0.o _ _ _ ?_ ?_).mono ?_;exact g9.o;exact j5.o;rintro R b1 ⟨rfl,a0⟩;have j9:=E (Ps a0 b4.o)))
      have D:X wr wr b1:=by first|exact a0|exact fU a0
      clear g1 g2 s2 i1 i2 i3 b4 a0;have z:X c c b1:=l.trans (D.mono l.size);have m4:=z.size;have a5:=E (r.o.ext D);have a1:=E (b2.o.ext D);clear r b2;by_cases p:y=0
      .have c4:Hd (∀h,h<a+1->wE b g h=0):=by
        intro h e8
        rcases Nat.lt_or_ge h a with m|m
        .exact q.o h m
        .obtain rfl:h=a:=O
         rw [x.o];exact p
       subst p;have l9:Zc G (64+n)=64+n:=Yx _ O
       go_wp2_with (at_builtin;refine cJ rfl (.tmp 67) (.tmp 70) rfl c.heap.size _ _ (64+n) rfl a5.o rfl Y (by unfold bh;omega) (by rw [bO];omega) O ?_)
       intro m5 s e9 e0 e5;have c3:=E (a1.o.grown e5 (MR a1.o a5.o.1 H));have C:=z.trans e0;go_wp2;go_roundw
       case rel=>exact⟨a+1,O,O,S,by rw [gG,c5.o];exact e9,c4.o,C,c3.o⟩
       case measure=>simp [Yz];omega
      .have l8:(y==0)=false:=by rw [beq_eq_false_iff_ne];exact p
       have a3:=E p;clear p
       go_wp2_with fail
       refine(DI _ _ y a3.o _).mono ?_;rintro R g4 ⟨c8,rfl,e2,k6,e1⟩;have C:X c c g4:=ext z e1;go_wp2;go_returns;exact Yh ⟨a,by rw [t.o];exact e6,q.o,by rw [x.o];exact a3.o,c8,rfl,by rw [x.o];exact e2,O,C⟩
    .obtain rfl:a=f+i:=O
     have m1:decide (((f+i:Nat):Int)<(f:Int)+(i:Int))=false:=Y;have o3:decide ((f:Int)+(i:Int)<(f:Int)+(i:Int))=false:=Y;go_wp2;go_roundw
     case rel=>exact⟨j+1,f+i,O,S,j4.o,r.o,q.o,l⟩
     case measure=>simp [Yz];omega
  .have h5:j=J:=O
   have e4:f=F:=by
    have T:=g8.o;rw [L.o,t.o,<-h5] at T;omega
   have j7:Hd (∀h,h<b.length->wE b g h=0):=λh e8=>q.o h (by rw [t.o] at e8;omega)
   have j6:=E (show aa wr c _ (bQ (wV b g) b.length) from by rw [t.o,<-e4];exact r.o);clear h5 a7 e4 r q;go_wp2;go_returns;exact Yg ⟨j7.o,_,rfl,j6.o,l⟩
end
end Go.Proofs.YtajkpgaheechmaaGreatDoor
namespace Go.Proofs.YtajkpgaheechmaaGreatDoor.Q
open _root_.Go.Proofs.Tryz
open Go.Value renaming int->A,slice->U,pointer->Q,nilIface->Ya,string->Yb,agg->Yc,iface->Yd,tuple->Ye
open Go.IntKind renaming i64->G,wrap->Zc
open Option renaming none->I,some->K
open Go.Obj renaming cells->M
open Go.Ending renaming returned->e
open Go renaming World->V,Value->Z,Calls->d,Addr->Yi
open Go.RowKit renaming Below->X,intOf->Yz
open Or renaming inl->Yg,inr->Yh
open Go.World renaming block_lt_of_cell?->Yj
open Nat renaming le_refl->Yk,le_trans->Yl,zero_le->Yr,add_assoc->YW
open Go.RowKit.Below renaming refl->Yn
open List renaming getD_eq_getElem?_getD->Yp,getElem?_eq_getElem->YM,getD->YR,range->Za
open Go.IntWalk renaming i64_in->Yx
open And renaming intro->YI
open Bool renaming and_eq_true->YV
section
def UN:List Int:=[1,2,4,6,8,12,16,24,32,48,64,96,128,192,256,384]
def mV(a:Int):Bool:=decide (0<=a/\a<=15)
def dV(a:Int):Int:=if mV a then UN.getD a.toNat 0 else 0
def vt(a:Int):Bool:=decide (-16777216<=a/\a<=16777216)
def gU(b a:Int):Int:=if mV a&&vt b then (if b<0 then -((dV a / 2 - b) / dV a) else (b+dV a / 2) / dV a) else 0
def pT(a b:Int):Int:=if mV b&&vt a then 0 else 3
def vw(a:Int):Bool:=decide (-16320<=a/\a<=16320)
def i_(a b:Int):Int:=if mV b&&vw a then a*dV b else 0
def wS(a b:Int):Int:=if mV b&&vw a then 0 else 3
theorem xY{a:Int}(b:mV a=true):a=0∨a=1∨a=2∨a=3∨a=4∨a=5∨a=6∨a=7∨a=8∨a=9∨a=10∨a=11∨a=12∨a=13∨a=14∨a=15:=by
 simp only [mV,decide_eq_true_eq] at b;omega
theorem oE{b:Int}(a:mV b=true):1<=dV b/\dV b<=384:=by
 rcases xY a with a|a|a|a|a|a|a|a|a|a|a|a|a|a|a|a<;>subst a<;>decide
end
end Go.Proofs.YtajkpgaheechmaaGreatDoor.Q
namespace Go.Proofs.YtajkpgaheechmaaGreatDoor
open _root_.Go.Proofs.Tryz
open Go.Value renaming int->A,slice->U,pointer->Q,nilIface->Ya,string->Yb,agg->Yc,iface->Yd,tuple->Ye
open Go.IntKind renaming i64->G,wrap->Zc
open Option renaming none->I,some->K
open Go.Obj renaming cells->M
open Go.Ending renaming returned->e
open Go renaming World->V,Value->Z,Calls->d,Addr->Yi
open Go.RowKit renaming Below->X,intOf->Yz
open Or renaming inl->Yg,inr->Yh
open Go.World renaming block_lt_of_cell?->Yj
open Nat renaming le_refl->Yk,le_trans->Yl,zero_le->Yr,add_assoc->YW
open Go.RowKit.Below renaming refl->Yn
open List renaming getD_eq_getElem?_getD->Yp,getElem?_eq_getElem->YM,getD->YR,range->Za
open Go.IntWalk renaming i64_in->Yx
open And renaming intro->YI
open Bool renaming and_eq_true->YV
section
open Go.RowKit Go.Extern.Stop Go.Stop Go.Extern
open Q
def jN:Array Z:=#[A G 1,A G 2,A G 4,A G 6,A G 8,A G 12,A G 16,A G 24,A G 32,A G 48,A G 64,A G 96,A G 128,A G 192,A G 256,A G 384]
theorem Mq(a:V):d prog 348 #[] a λb c=>b=e (Yc jN)/\X a a c:=by
 go_enter func348,ntmps348;go_wp2;go_returns;exact⟨rfl,N⟩
theorem rz(a:Int)(c:V)(b:mV a=false):d prog 331 #[A G a] c λf g=>f=e (Ye #[A G 0,Yd 49 (A G 3)])/\X c c g:=by
 have b:¬(0<=a/\a<=15):=by simpa [mV] using b
 by_cases h:a<0
 all_goals
  have i:a<0∨15<a:=O;clear b;go_enter func331,ntmps331;go_wp2;go_returns;exact⟨rfl,N⟩
theorem Ve(a:V):(Instr.index 439 (Yc jN) (A G 0)).run prog a= .ok (A G 1) a:=B
theorem Vf(a:V):(Instr.index 439 (Yc jN) (A G 1)).run prog a= .ok (A G 2) a:=B
theorem Vg(a:V):(Instr.index 439 (Yc jN) (A G 2)).run prog a= .ok (A G 4) a:=B
theorem Vh(a:V):(Instr.index 439 (Yc jN) (A G 3)).run prog a= .ok (A G 6) a:=B
theorem Vi(a:V):(Instr.index 439 (Yc jN) (A G 4)).run prog a= .ok (A G 8) a:=B
theorem Vj(a:V):(Instr.index 439 (Yc jN) (A G 5)).run prog a= .ok (A G 12) a:=B
theorem Vk(a:V):(Instr.index 439 (Yc jN) (A G 6)).run prog a= .ok (A G 16) a:=B
theorem Vl(a:V):(Instr.index 439 (Yc jN) (A G 7)).run prog a= .ok (A G 24) a:=B
theorem Vm(a:V):(Instr.index 439 (Yc jN) (A G 8)).run prog a= .ok (A G 32) a:=B
theorem Vn(a:V):(Instr.index 439 (Yc jN) (A G 9)).run prog a= .ok (A G 48) a:=B
theorem Ui(a:V):(Instr.index 439 (Yc jN) (A G 10)).run prog a= .ok (A G 64) a:=B
theorem Uj(a:V):(Instr.index 439 (Yc jN) (A G 11)).run prog a= .ok (A G 96) a:=B
theorem Uk(a:V):(Instr.index 439 (Yc jN) (A G 12)).run prog a= .ok (A G 128) a:=B
theorem Ul(a:V):(Instr.index 439 (Yc jN) (A G 13)).run prog a= .ok (A G 192) a:=B
theorem Um(a:V):(Instr.index 439 (Yc jN) (A G 14)).run prog a= .ok (A G 256) a:=B
theorem Un(a:V):(Instr.index 439 (Yc jN) (A G 15)).run prog a= .ok (A G 384) a:=B
theorem kt(b:Int)(c:V)(a:mV b=true):d prog 331 #[A G b] c λf g=>f=e (Ye #[A G (dV b),Ya])/\X c c g:=by
 have i:=Ve;have j:=Vf;have q:=Vg;have r:=Vh;have s:=Vi;have t:=Vj;have u:=Vk;have v:=Vl;have w:=Vm;have x:=Vn;have k:=Ui;have l:=Uj;have m:=Uk;have n:=Ul;have o:=Um;have p:=Un
 rcases xY a with a|a|a|a|a|a|a|a|a|a|a|a|a|a|a|a<;>subst a
 all_goals
  clear a;go_enter func331,ntmps331
  go_wp2_with (go_at_call 348;refine(Mq _).mono ?_;rintro f g ⟨rfl,h⟩)
  go_returns;exact⟨rfl,h⟩
theorem Gl(f c:Int)(a:V)(g:mV c=false):d prog 332 #[A G f,A G c] a λb i=>b=e (Ye #[A G 0,Yd 49 (A G 3)])/\X a a i:=by
 go_enter func332,ntmps332
 go_wp2_with (go_at_call 331;refine(rz _ _ g).mono ?_;rintro b l ⟨rfl,h⟩;obtain⟨j,k⟩:=kA h)
 go_returns;exact⟨rfl,Zd⟩
theorem Gj(a g:Int)(c:V)(h:mV g=true)(b:vt a=false):d prog 332 #[A G a,A G g] c λf j=>f=e (Ye #[A G 0,Yd 49 (A G 3)])/\X c c j:=by
 have b:¬(-16777216<=a/\a<=16777216):=by simpa [vt] using b
 by_cases k:a< -16777216
 all_goals
  have l:a< -16777216∨16777216<a:=O;clear b;go_enter func332,ntmps332
  go_wp2_with (go_at_call 331;refine(kt _ _ h).mono ?_;rintro f o ⟨rfl,i⟩;obtain⟨m,n⟩:=kA i)
  go_returns;exact⟨rfl,Zd⟩
theorem Gk(b a:Int)(c:V)(g:mV a=true)(p: -16777216<=b)(q:b<0):d prog 332 #[A G b,A G a] c λf i=>f=e (Ye #[A G (-((dV a / 2 - b) / dV a)),Ya])/\X c c i:=by
 obtain⟨j,k⟩:=oE g;have l:0<=(dV a / 2 - b) / dV a:=Int.ediv_nonneg O O;have m:(dV a / 2 - b) / dV a<=16777408:=Int.le_trans (Int.ediv_le_self _ O) O;go_enter func332,ntmps332
 go_wp2_with (go_at_call 331;refine(kt _ _ g).mono ?_;rintro f r ⟨rfl,h⟩;obtain⟨n,o⟩:=kA h)
 go_returns;exact⟨rfl,Zd⟩
theorem Gm(a b:Int)(c:V)(g:mV b=true)(n:0<=a)(o:a<=16777216):d prog 332 #[A G a,A G b] c λf i=>f=e (Ye #[A G ((a+dV b / 2) / dV b),Ya])/\X c c i:=by
 obtain⟨j,k⟩:=oE g;go_enter func332,ntmps332
 go_wp2_with (go_at_call 331;refine(kt _ _ g).mono ?_;rintro f p ⟨rfl,h⟩;obtain⟨l,m⟩:=kA h)
 go_returns;exact⟨rfl,Zd⟩
theorem v_(a b:Int)(g:V):d prog 332 #[A G a,A G b] g λi j=>i=e (Ye #[A G (gU a b),bj (pT a b)])/\X g g j:=by
 cases h:mV b with
 |false=>exact(Gl a b g h).mono λi j ⟨f,c⟩=>⟨by rw [f];simp [gU,pT,h,bj],c⟩
 |true=>
  cases hc:vt a with
  |false=>exact(Gj a b g h hc).mono λi j ⟨f,c⟩=>⟨by rw [f];simp [gU,pT,h,hc,bj],c⟩
  |true=>
   have l: -16777216<=a/\a<=16777216:=by simpa [vt] using hc
   by_cases k:a<0
   .exact(Gk a b g h l.1 k).mono λi j ⟨f,c⟩=>⟨by rw [f];simp [gU,pT,h,hc,bj,k],c⟩
   .exact(Gm a b g h O l.2).mono λi j ⟨f,c⟩=>⟨by rw [f];simp [gU,pT,h,hc,bj,k],c⟩
theorem SY{c f:Int}(i: -16320<=c)(j:c<=16320)(g:0<=f)(k:f<=384): -6266880<=c*f/\c*f<=6266880:=by
 constructor
 .have h:=Int.mul_le_mul_of_nonneg_right (a:= -16320) (b:=c) i g
  omega
 .have h:=Int.mul_le_mul_of_nonneg_right (a:=c) (b:=16320) j g
  omega
theorem Gt(a g:Int)(h:V)(c:(mV g&&vw a)=false):d prog 352 #[A G a,A G g] h λb l=>b=e (Ye #[A G 0,Yd 49 (A G 3)])/\X h h l:=by
 cases hq:mV g with
 |false=>
  go_enter func352,ntmps352
  go_wp2_with (go_at_call 331;refine(rz _ _ hq).mono ?_;rintro b m ⟨rfl,f⟩;obtain⟨j,k⟩:=kA f)
  go_returns;exact⟨Y,Zd⟩
 |true=>
  rw [hq] at c
  have i:¬(-16320<=a/\a<=16320):=by simpa [vw] using c
  clear c;by_cases n:a< -16320
  all_goals
   have o:a< -16320∨16320<a:=O;clear i;go_enter func352,ntmps352
   go_wp2_with (go_at_call 331;refine(kt _ _ hq).mono ?_;rintro b m ⟨rfl,f⟩;obtain⟨j,k⟩:=kA f)
   go_returns;exact⟨Y,Zd⟩
theorem Lu(a b:Int)(c:V)(g:mV b=true)(i: -16320<=a)(j:a<=16320):d prog 352 #[A G a,A G b] c λf l=>f=e (Ye #[A G (a*dV b),Ya])/\X c c l:=by
 obtain⟨m,h⟩:=oE g;obtain⟨n,o⟩:=SY i j O h;go_enter func352,ntmps352
 go_wp2_with (go_at_call 331;refine(kt _ _ g).mono ?_;rintro f r ⟨rfl,k⟩;obtain⟨p,q⟩:=kA k)
 go_returns;exact⟨rfl,Zd⟩
theorem wa(a b:Int)(c:V):d prog 352 #[A G a,A G b] c λf i=>f=e (Ye #[A G (i_ a b),bj (wS a b)])/\X c c i:=by
 cases hb:mV b&&vw a with
 |false=>exact(Gt a b c hb).mono λf i ⟨g,h⟩=>⟨by rw [g];simp [i_,wS,hb,bj],h⟩
 |true=>
  have l:mV b=true:=by simp at hb;exact hb.1
  have j:vw a=true:=by simp at hb;exact hb.2
  have k: -16320<=a/\a<=16320:=by simpa [vw] using j
  exact(Lu a b c l k.1 k.2).mono λf i ⟨g,h⟩=>⟨by rw [g];simp [i_,wS,l,j,bj],h⟩
end
end Go.Proofs.YtajkpgaheechmaaGreatDoor
namespace Go.Proofs.YtajkpgaheechmaaGreatDoor.Q
open _root_.Go.Proofs.Tryz
open Go.Value renaming int->A,slice->U,pointer->Q,nilIface->Ya,string->Yb,agg->Yc,iface->Yd,tuple->Ye
open Go.IntKind renaming i64->G,wrap->Zc
open Option renaming none->I,some->K
open Go.Obj renaming cells->M
open Go.Ending renaming returned->e
open Go renaming World->V,Value->Z,Calls->d,Addr->Yi
open Go.RowKit renaming Below->X,intOf->Yz
open Or renaming inl->Yg,inr->Yh
open Go.World renaming block_lt_of_cell?->Yj
open Nat renaming le_refl->Yk,le_trans->Yl,zero_le->Yr,add_assoc->YW
open Go.RowKit.Below renaming refl->Yn
open List renaming getD_eq_getElem?_getD->Yp,getElem?_eq_getElem->YM,getD->YR,range->Za
open Go.IntWalk renaming i64_in->Yx
open And renaming intro->YI
open Bool renaming and_eq_true->YV
section
theorem KP{b a:Int}(f:mV a=true)(c:vt b=true):gU b a=if b<0 then -((dV a / 2 - b) / dV a) else (b+dV a / 2) / dV a:=by
 simp [gU,f,c]
theorem QB{a:Int}:vt a=true↔ -16777216<=a/\a<=16777216:=by simp [vt]
theorem QC{a:Int}:vw a=true↔ -16320<=a/\a<=16320:=by simp [vw]
theorem Oi(f c:Int): -16777408<=gU f c/\gU f c<=16777408:=by
 cases h:mV c&&vt f with
 |false=>simp [gU,h]
 |true=>
  simp at h;have k:=oE h.1;have j:=QB.1 h.2;rw [KP h.1 h.2];split
  .have g:=Int.ediv_nonneg (a:=dV c / 2 - f) (b:=dV c) O O
   have i:=Int.ediv_le_self (a:=dV c / 2 - f) (dV c) O;omega
  .have g:=Int.ediv_nonneg (a:=f+dV c / 2) (b:=dV c) O O
   have i:=Int.ediv_le_self (a:=f+dV c / 2) (dV c) O;omega
theorem PS(g h:Int): -6266880<=i_ g h/\i_ g h<=6266880:=by
 cases f:mV h&&vw g with
 |false=>simp [i_,f]
 |true=>
  simp at f;have k:=oE f.1;have i:=QC.1 f.2
  have j:i_ g h=g*dV h:=by simp [i_,f]
  rw [j];constructor
  .have f:=Int.mul_le_mul_of_nonneg_right (a:= -16320) (b:=g) (c:=dV h) i.1 O
   omega
  .have f:=Int.mul_le_mul_of_nonneg_right (a:=g) (b:=16320) (c:=dV h) i.2 O
   omega
end
end Go.Proofs.YtajkpgaheechmaaGreatDoor.Q
namespace Go.Proofs.YtajkpgaheechmaaGreatDoor
open _root_.Go.Proofs.Tryz
open Go.Value renaming int->A,slice->U,pointer->Q,nilIface->Ya,string->Yb,agg->Yc,iface->Yd,tuple->Ye
open Go.IntKind renaming i64->G,wrap->Zc
open Option renaming none->I,some->K
open Go.Obj renaming cells->M
open Go.Ending renaming returned->e
open Go renaming World->V,Value->Z,Calls->d,Addr->Yi
open Go.RowKit renaming Below->X,intOf->Yz
open Or renaming inl->Yg,inr->Yh
open Go.World renaming block_lt_of_cell?->Yj
open Nat renaming le_refl->Yk,le_trans->Yl,zero_le->Yr,add_assoc->YW
open Go.RowKit.Below renaming refl->Yn
open List renaming getD_eq_getElem?_getD->Yp,getElem?_eq_getElem->YM,getD->YR,range->Za
open Go.IntWalk renaming i64_in->Yx
open And renaming intro->YI
open Bool renaming and_eq_true->YV
section
open Go.RowKit Go.Extern.Stop Go.Stop Go.Extern
open Q
theorem Gi{b c:Int}(a:V)(h:(mV c&&vt b)=false):d prog 332 #[A G b,A G c] a λf g=>f=e (Ye #[A G 0,Yd 49 (A G 3)])/\X a a g:=
 (v_ b c a).mono λf g ⟨j,i⟩=>⟨by rw [j];simp [gU,pT,h,bj],i⟩
theorem Lp{a b:Int}(c:V)(h:(mV b&&vt a)=true):d prog 332 #[A G a,A G b] c λf g=>f=e (Ye #[A G (gU a b),Ya])/\X c c g:=
 (v_ a b c).mono λf g ⟨j,i⟩=>⟨by rw [j];simp only [pT,h,if_true];rfl,i⟩
theorem Gu{b c:Int}(a:V)(h:(mV c&&vw b)=false):d prog 352 #[A G b,A G c] a λf g=>f=e (Ye #[A G 0,Yd 49 (A G 3)])/\X a a g:=
 (wa b c a).mono λf g ⟨j,i⟩=>⟨by rw [j];simp [i_,wS,h,bj],i⟩
theorem Gv{a b:Int}(c:V)(h:(mV b&&vw a)=true):d prog 352 #[A G a,A G b] c λf g=>f=e (Ye #[A G (i_ a b),Ya])/\X c c g:=
 (wa a b c).mono λf g ⟨j,i⟩=>⟨by rw [j];simp only [wS,h,if_true];rfl,i⟩
theorem Df{a:Int}(b:V)(f:mV a=true):d prog 331 #[A G a] b λc g=>c=e (Ye #[A G (dV a),Ya])/\X b b g:=kt a b f
end
section
open Go.RowKit
open Q
def jy(a:List Int)(b:Int):List Int:=if mV b&&a.all vt then a.map (λc=>gU c b) else []
def m_(a:List Int)(b:Int):Int:=if mV b&&a.all vt then 0 else 3
def kK(a:List Int)(c:Int)(b:Nat):List Int:=(a.take b).map (λf=>gU f c)
theorem nE{b:List Int}{c:Int}{a:Nat}(f:a<=b.length):(kK b c a).length=a:=by simp [kK];omega
theorem zv{a:List Int}{c:Int}{b:Nat}(f:b<a.length):kK a c (b+1)=kK a c b++[gU (a.getD b 0) c]:=by
 unfold kK;rw [List.take_succ_eq_append_getElem f,List.map_append];simp [YR,f]
theorem Fw{a:List Int}{b:Nat}(c:b<a.length)(g:(a.take b).all vt=true)(f:vt (a.getD b 0)=true):(a.take (b+1)).all vt=true:=by
 rw [List.take_succ_eq_append_getElem c,List.all_append,g];simp [YR,c] at f;simp [f]
theorem vF{a:List Int}{b:Nat}(c:b<a.length)(f:vt (a.getD b 0)=false):a.all vt=false:=by
 rw [List.all_eq_false];simp [YR,c] at f;exact⟨a[b],List.getElem_mem c,by simp [f]⟩
theorem Da(R:Z)(a:List Int)(b:Int)(f:V)(a6:aY f R a)(b2:a.length<=5000):
  d prog 312 #[R,A G b] f λg z=>∃y,g=e (Ye #[y,bj (m_ a b)])/\aa z f y (jy a b)/\X f f z:=by
 obtain⟨a9,cap,rfl,W,a0,a1,a2,J⟩:=a6;have C:=E J;clear W a0 a1 J a2
 cases hq:mV b with
 |false=>
  have s:jy a b=[]:=by simp [jy,hq]
  have r:m_ a b=3:=by simp [m_,hq]
  rw [s,r];have h:=E hq;clear s r hq;go_enter func312,ntmps312
  go_wp2_with fail
  refine(rz b _ h.o).mono ?_;rintro g a7 ⟨rfl,w⟩;go_wp2;go_returns;exact⟨_,rfl,aa.nil _ _,w⟩
 |true=>
  have h:=E hq;clear hq;go_enter func312,ntmps312
  go_wp2_with fail
  refine(Df _ h.o).mono ?_;rintro g a7 ⟨rfl,w⟩;go_wp2
  go_loopw [8,23] (λo x wr=>∃c:Nat,c<=a.length/\x=A G c/\(a.take c).all vt=true/\aa wr f o (kK a b c)/\X f f wr) (λ_ x _=>a.length - (Yz x).toNat)
  case atStart=>exact⟨0,Yr _,rfl,rfl,aa.nil _ _,w⟩
  case round=>
   obtain⟨c,b1,rfl,i,L,j⟩:=hrel;have D:=E i;have F:=E L;clear i L;by_cases l:c<a.length
   .obtain⟨T,off,rfl,t⟩:=C.o c l
    clear C
    replace t:=(j.cell (p:=⟨T,off+c,I⟩) (Yj f _ t)).trans t
    generalize P:a.getD c 0=m at t;have q:=E P;clear P
    cases hin:vt m with
    |false=>
     have n:=E hin
     have s:Hd (jy a b=[]):=by show _=_;simp [jy,vF l (by rw [q.o];exact n.o)]
     have r:Hd (m_ a b=3):=by show _=_;simp [m_,vF l (by rw [q.o];exact n.o)]
     have v:Hd ((mV b&&vt m)=false):=by show _=_;rw [hin,Bool.and_false]
     clear hin
     go_wp2_with fail
     refine(Gi _ v.o).mono ?_;rintro g a8 ⟨rfl,k⟩;go_wp2;go_returns;rw [s.o,r.o];exact⟨_,rfl,aa.nil _ _,ext j k⟩
    |true=>
     have n:=E hin
     have v:Hd ((mV b&&vt m)=true):=by show _=_;rw [hin,h.o];rfl
     clear hin;have b0:=Oi m b
     go_wp2_with fail
     refine(Lp _ v.o).mono ?_;rintro g a8 ⟨rfl,k⟩;have b3:=j.size;have b4:=k.size
     go_wp2_with (at_builtin;refine cJ rfl (.tmp 36) (.tmp 38) rfl f.heap.size _ _ (gU m b) rfl (F.o.ext k) rfl Y (by unfold bh;omega) (by first|(rw [nE O];omega)|(rw [nF O];omega)) O ?_)
     intro y z a5 a3 _;go_wp2;go_roundw
     case rel=>exact⟨c+1,O,S,Fw l D.o (by rw [q.o];exact n.o),by rw [zv l,q.o];exact a5,(ext j k).trans a3⟩
     case measure=>simp [Yz];omega
   .go_wp2
    go_returns;have g:c=a.length:=O;have i:=D.o;have u:=F.o;rw [g,List.take_length] at i;rw [g] at u;unfold kK at u;rw [List.take_length] at u;exact⟨_,by simp only [m_,h.o,i];rfl,by simp only [jy,h.o,i];exact u,j⟩
def i'(a:List Int)(b:Int):List Int:=if mV b&&a.all vw then a.map (λc=>i_ c b) else []
def nu(a:List Int)(b:Int):Int:=if mV b&&a.all vw then 0 else 3
def kS(a:List Int)(c:Int)(b:Nat):List Int:=(a.take b).map (λf=>i_ f c)
theorem nF{b:List Int}{c:Int}{a:Nat}(f:a<=b.length):(kS b c a).length=a:=by simp [kS];omega
theorem zY{a:List Int}{c:Int}{b:Nat}(f:b<a.length):kS a c (b+1)=kS a c b++[i_ (a.getD b 0) c]:=by
 unfold kS;rw [List.take_succ_eq_append_getElem f,List.map_append];simp [YR,f]
theorem Ib{a:List Int}{b:Nat}(c:b<a.length)(g:(a.take b).all vw=true)(f:vw (a.getD b 0)=true):(a.take (b+1)).all vw=true:=by
 rw [List.take_succ_eq_append_getElem c,List.all_append,g];simp [YR,c] at f;simp [f]
theorem wU{a:List Int}{b:Nat}(c:b<a.length)(f:vw (a.getD b 0)=false):a.all vw=false:=by
 rw [List.all_eq_false];simp [YR,c] at f;exact⟨a[b],List.getElem_mem c,by simp [f]⟩
theorem Di(R:Z)(a:List Int)(b:Int)(f:V)(a6:aY f R a)(b2:a.length<=5000):
  d prog 345 #[R,A G b] f λg z=>∃y,g=e (Ye #[y,bj (nu a b)])/\aa z f y (i' a b)/\X f f z:=by
 obtain⟨a9,cap,rfl,W,a0,a1,a2,J⟩:=a6;have C:=E J;clear W a0 a1 J a2
 cases hq:mV b with
 |false=>
  have s:i' a b=[]:=by simp [i',hq]
  have r:nu a b=3:=by simp [nu,hq]
  rw [s,r];have h:=E hq;clear s r hq;go_enter func345,ntmps345
  go_wp2_with fail
  refine(rz b _ h.o).mono ?_;rintro g a7 ⟨rfl,w⟩;go_wp2;go_returns;exact⟨_,rfl,aa.nil _ _,w⟩
 |true=>
  have h:=E hq;clear hq;go_enter func345,ntmps345
  go_wp2_with fail
  refine(Df _ h.o).mono ?_;rintro g a7 ⟨rfl,w⟩;go_wp2
  go_loopw [8,23] (λo x wr=>∃c:Nat,c<=a.length/\x=A G c/\(a.take c).all vw=true/\aa wr f o (kS a b c)/\X f f wr) (λ_ x _=>a.length - (Yz x).toNat)
  case atStart=>exact⟨0,Yr _,rfl,rfl,aa.nil _ _,w⟩
  case round=>
   obtain⟨c,b1,rfl,i,L,j⟩:=hrel;have D:=E i;have F:=E L;clear i L;by_cases l:c<a.length
   .obtain⟨T,off,rfl,t⟩:=C.o c l
    clear C
    replace t:=(j.cell (p:=⟨T,off+c,I⟩) (Yj f _ t)).trans t
    generalize P:a.getD c 0=m at t;have q:=E P;clear P
    cases hin:vw m with
    |false=>
     have n:=E hin
     have s:Hd (i' a b=[]):=by show _=_;simp [i',wU l (by rw [q.o];exact n.o)]
     have r:Hd (nu a b=3):=by show _=_;simp [nu,wU l (by rw [q.o];exact n.o)]
     have v:Hd ((mV b&&vw m)=false):=by show _=_;rw [hin,Bool.and_false]
     clear hin
     go_wp2_with fail
     refine(Gu _ v.o).mono ?_;rintro g a8 ⟨rfl,k⟩;go_wp2;go_returns;rw [s.o,r.o];exact⟨_,rfl,aa.nil _ _,ext j k⟩
    |true=>
     have n:=E hin
     have v:Hd ((mV b&&vw m)=true):=by show _=_;rw [hin,h.o];rfl
     clear hin;have b0:=PS m b
     go_wp2_with fail
     refine(Gv _ v.o).mono ?_;rintro g a8 ⟨rfl,k⟩;have b3:=j.size;have b4:=k.size
     go_wp2_with (at_builtin;refine cJ rfl (.tmp 36) (.tmp 38) rfl f.heap.size _ _ (i_ m b) rfl (F.o.ext k) rfl Y (by unfold bh;omega) (by first|(rw [nE O];omega)|(rw [nF O];omega)) O ?_)
     intro y z a5 a3 _;go_wp2;go_roundw
     case rel=>exact⟨c+1,O,S,Ib l D.o (by rw [q.o];exact n.o),by rw [zY l,q.o];exact a5,(ext j k).trans a3⟩
     case measure=>simp [Yz];omega
   .go_wp2
    go_returns;have g:c=a.length:=O;have i:=D.o;have u:=F.o;rw [g,List.take_length] at i;rw [g] at u;unfold kS at u;rw [List.take_length] at u;exact⟨_,by simp only [nu,h.o,i];rfl,by simp only [i',h.o,i];exact u,j⟩
end
end Go.Proofs.YtajkpgaheechmaaGreatDoor
namespace Go.Proofs.YtajkpgaheechmaaGreatDoor.T
open _root_.Go.Proofs.Tryz
open Go.Value renaming int->A,slice->U,pointer->Q,nilIface->Ya,string->Yb,agg->Yc,iface->Yd,tuple->Ye
open Go.IntKind renaming i64->G,wrap->Zc
open Option renaming none->I,some->K
open Go.Obj renaming cells->M
open Go.Ending renaming returned->e
open Go renaming World->V,Value->Z,Calls->d,Addr->Yi
open Go.RowKit renaming Below->X,intOf->Yz
open Or renaming inl->Yg,inr->Yh
open Go.World renaming block_lt_of_cell?->Yj
open Nat renaming le_refl->Yk,le_trans->Yl,zero_le->Yr,add_assoc->YW
open Go.RowKit.Below renaming refl->Yn
open List renaming getD_eq_getElem?_getD->Yp,getElem?_eq_getElem->YM,getD->YR,range->Za
open Go.IntWalk renaming i64_in->Yx
open And renaming intro->YI
open Bool renaming and_eq_true->YV
section
def Er(c a:Nat)(b:List Int):List Int:=
 if a&&&c=0 then (b.set a (b.getD a 0+b.getD (a|||c) 0)).set (a|||c) (b.getD a 0 - b.getD (a|||c) 0) else b
def jM(b g f:Nat)(a:List Int):List Int:=(Za f).foldl (λa c=>Er b c a) a
def lg(a:Nat):Nat:=if a=16 then 4 else if a=64 then 6 else 0
def gY(b:Nat)(a:List Int):List Int:=(Za b).foldl (λc q=>jM (2^q) a.length a.length c) a
def jR(a:List Int):List Int:=gY (lg a.length) a
theorem BJ(b c:Nat)(a:List Int):(Er b c a).length=a.length:=by unfold Er;split<;>simp
theorem np(a f b:Nat)(c:List Int):jM a f (b+1) c=Er a b (jM a f b c):=by
 simp [jM,List.range_succ,List.foldl_append]
theorem ke(c g a:Nat)(b:List Int):(jM c g a b).length=b.length:=by
 induction a with
 |zero=>rfl
 |succ a f=>rw [np,BJ,f]
theorem oH(b:Nat)(a:List Int):gY (b+1) a=jM (2^b) a.length a.length (gY b a):=by
 simp [gY,List.range_succ,List.foldl_append]
theorem jx(b:Nat)(a:List Int):(gY b a).length=a.length:=by
 induction b with
 |zero=>rfl
 |succ f c=>rw [oH,ke,c]
theorem kg(a:List Int):(jR a).length=a.length:=jx _ _
theorem AQ{b c:List Int}(i:b.length=c.length)(g:∀a,a<b.length->b.getD a 0=c.getD a 0):b=c:=by
 apply List.ext_getElem i;intro a f h;have:=g a f
 simpa [YR,f,h] using this
theorem vi(c:List Int)(b a:Nat)(h:Int):(c.set b h).getD a 0=if b=a/\a<c.length then h else c.getD a 0:=by
 simp only [YR,List.getElem?_set];by_cases f:b=a
 .subst f
  by_cases g:b<c.length
  .simp [g]
  .simp [g]
 .simp [f]
end
end Go.Proofs.YtajkpgaheechmaaGreatDoor.T
namespace Go.Proofs.YtajkpgaheechmaaGreatDoor.T
open _root_.Go.Proofs.Tryz
open Go.Value renaming int->A,slice->U,pointer->Q,nilIface->Ya,string->Yb,agg->Yc,iface->Yd,tuple->Ye
open Go.IntKind renaming i64->G,wrap->Zc
open Option renaming none->I,some->K
open Go.Obj renaming cells->M
open Go.Ending renaming returned->e
open Go renaming World->V,Value->Z,Calls->d,Addr->Yi
open Go.RowKit renaming Below->X,intOf->Yz
open Or renaming inl->Yg,inr->Yh
open Go.World renaming block_lt_of_cell?->Yj
open Nat renaming le_refl->Yk,le_trans->Yl,zero_le->Yr,add_assoc->YW
open Go.RowKit.Below renaming refl->Yn
open List renaming getD_eq_getElem?_getD->Yp,getElem?_eq_getElem->YM,getD->YR,range->Za
open Go.IntWalk renaming i64_in->Yx
open And renaming intro->YI
open Bool renaming and_eq_true->YV
section
theorem Et:∀a:Fin 64,∀q:Fin 6,(a.val&&&2^q.val=0->a.val|||2^q.val=a.val+2^q.val/\(a.val+2^q.val)&&&2^q.val≠0/\a.val+2^q.val<64)/\(a.val&&&2^q.val≠0->2^q.val<=a.val/\(a.val - 2^q.val)&&&2^q.val=0):=H
theorem Sk:∀a:Fin 16,∀q:Fin 4,(a.val&&&2^q.val=0->a.val+2^q.val<16):=H
def Fit(a q:Nat):Prop:=(a=16/\q<4)∨(a=64/\q<6)
theorem EV{a q:Nat}(c:a=16∨a=64)(b:q<lg a):Fit a q:=by
 rcases c with rfl|rfl
 .exact Yg ⟨rfl,b⟩
 .exact Yh ⟨rfl,b⟩
theorem TF{c q a:Nat}(h:Fit c q)(i:a<c)(b:a&&&2^q=0):a|||2^q=a+2^q/\(a+2^q)&&&2^q≠0/\a+2^q<c:=by
 rcases h with⟨rfl,g⟩|⟨rfl,g⟩
 .have f:=(Et ⟨a,O⟩ ⟨q,O⟩).1 b
  exact⟨f.1,f.2.1,Sk ⟨a,i⟩ ⟨q,g⟩ b⟩
 .exact(Et ⟨a,O⟩ ⟨q,O⟩).1 b
theorem TG{b q a:Nat}(c:Fit b q)(h:a<b)(f:a&&&2^q≠0):2^q<=a/\(a - 2^q)&&&2^q=0:=by
 rcases c with⟨rfl,g⟩|⟨rfl,g⟩<;>exact(Et ⟨a,O⟩ ⟨q,O⟩).2 f
theorem Db(q:Nat):1<=2^q:=Nat.one_le_two_pow
theorem Ml{l q:Nat}(n:Fit l q){g:List Int}(u:g.length=l)(a:Nat)(z:a<=l):∀b,b<l->(jM (2^q) l a g).getD b 0=
  if b&&&2^q=0 then (if b<a then g.getD b 0+g.getD (b+2^q) 0 else g.getD b 0) else (if b<a+2^q then g.getD (b - 2^q) 0 - g.getD b 0 else g.getD b 0):=by
 induction a with
 |zero=>
  intro b j
  show g.getD b 0=_
  by_cases f:b&&&2^q=0
  .rw [if_pos f,if_neg O]
  .have:=TG n j f
   rw [if_neg f,if_neg O]
 |succ a m=>
  intro b j;have m:=m O;rw [np];have C:=Db q;unfold Er;by_cases k:a&&&2^q=0
  .obtain⟨t,r,v⟩:=TF n O k
   have x:(jM (2^q) l a g).getD a 0=g.getD a 0:=by rw [m a O,if_pos k,if_neg (Nat.lt_irrefl a)]
   have y:(jM (2^q) l a g).getD (a+2^q) 0=g.getD (a+2^q) 0:=by rw [m (a+2^q) v,if_neg r,if_neg (Nat.lt_irrefl _)]
   rw [if_pos k,t,vi,vi,List.length_set,ke,u,x,y];by_cases o:a+2^q=b
   .subst o
    have c:a+2^q<a+1+2^q:=O;rw [if_pos ⟨rfl,j⟩,if_neg r,if_pos c,Nat.add_sub_cancel]
   .rw [if_neg (λi=>o i.1)]
    by_cases p:a=b
    .subst p
     have c:a<a+1:=O;rw [if_pos ⟨rfl,j⟩,if_pos k,if_pos c]
    .rw [if_neg (λi=>p i.1),m b j]
     by_cases f:b&&&2^q=0
     .rw [if_pos f,if_pos f]
      by_cases h:b<a
      .have c:b<a+1:=O
       rw [if_pos h,if_pos c]
      .have c:¬b<a+1:=O
       rw [if_neg h,if_neg c]
     .rw [if_neg f,if_neg f]
      by_cases h:b<a+2^q
      .have c:b<a+1+2^q:=O
       rw [if_pos h,if_pos c]
      .have c:¬b<a+1+2^q:=O
       rw [if_neg h,if_neg c]
  .rw [if_neg k,m b j]
   by_cases f:b&&&2^q=0
   .rw [if_pos f,if_pos f]
    have w:b≠a:=λi=>k (i▸f)
    by_cases h:b<a
    .have c:b<a+1:=O
     rw [if_pos h,if_pos c]
    .have c:¬b<a+1:=O
     rw [if_neg h,if_neg c]
   .rw [if_neg f,if_neg f]
    have s:=TG n j f
    have w:b≠a+2^q:=by
     intro i;rw [i,Nat.add_sub_cancel] at s;exact k s.2
    by_cases h:b<a+2^q
    .have c:b<a+1+2^q:=O
     rw [if_pos h,if_pos c]
    .have c:¬b<a+1+2^q:=O
     rw [if_neg h,if_neg c]
def Bd(a:Int)(c:List Int):Prop:=∀b, -a<=c.getD b 0/\c.getD b 0<=a
theorem Bd.mono{a b:Int}{c:List Int}(f:Bd a c)(h:a<=b):Bd b c:=λg=>by have:=f g;omega
theorem Bf{b:List Int}{a:Nat}(c:b.length<=a):b.getD a 0=0:=by simp [YR,List.getElem?_eq_none c]
theorem Aq{b q:Nat}(i:Fit b q){g:List Int}(l:g.length=b){h:Int}(c:Bd h g)(f:Nat)(k:f<=b):Bd (2*h) (jM (2^q) b f g):=by
 intro a;have m:=c 0;by_cases j:a<b
 .rw [Ml i l f k a j]
  have n:=c a;have o:=c (a+2^q);have p:=c (a - 2^q);split<;>split<;>omega
 .rw [Bf (by rw [ke];omega)];omega
theorem xC{a:List Int}(i:a.length=16∨a.length=64){c:Int}(h:Bd c a)(f:Nat)(k:f<=lg a.length):Bd (2^f*c) (gY f a):=by
 induction f with
 |zero=>simpa [gY] using h
 |succ b j=>
  rw [oH];have:=Aq (q:=b) (EV i O) (jx b a) (j O) a.length (Yk _)
  have g:(2:Int)^(b+1)*c=2*(2^b*c):=by rw [Int.pow_succ,Int.mul_comm (2^b) 2,Int.mul_assoc]
  rw [g];exact this
theorem Jz{a:Int}(i:0<=a){b:List Int}(g:∀f∈b, -a<=f/\f<=a):Bd a b:=by
 intro h;by_cases c:h<b.length
 .rw [Yp,YM c];exact g _ (List.getElem_mem c)
 .rw [Bf O];omega
end
end Go.Proofs.YtajkpgaheechmaaGreatDoor.T
namespace Go.Proofs.YtajkpgaheechmaaGreatDoor
open _root_.Go.Proofs.Tryz
open Go.Value renaming int->A,slice->U,pointer->Q,nilIface->Ya,string->Yb,agg->Yc,iface->Yd,tuple->Ye
open Go.IntKind renaming i64->G,wrap->Zc
open Option renaming none->I,some->K
open Go.Obj renaming cells->M
open Go.Ending renaming returned->e
open Go renaming World->V,Value->Z,Calls->d,Addr->Yi
open Go.RowKit renaming Below->X,intOf->Yz
open Or renaming inl->Yg,inr->Yh
open Go.World renaming block_lt_of_cell?->Yj
open Nat renaming le_refl->Yk,le_trans->Yl,zero_le->Yr,add_assoc->YW
open Go.RowKit.Below renaming refl->Yn
open List renaming getD_eq_getElem?_getD->Yp,getElem?_eq_getElem->YM,getD->YR,range->Za
open Go.IntWalk renaming i64_in->Yx
open And renaming intro->YI
open Bool renaming and_eq_true->YV
section
open Go.RowKit
open T
def nI(a b:Int):Bool:=decide (b< -a)||decide (a<b)
theorem Vb(b c:Int)(g:Nat)(f:V)(l:0<=b)(m:b<=16777216)(k:f.cell? g=K (A G b)):
  d prog 347 #[A G c,Q (K g)] f λa j=>a=e (.bool (nI b c))/\f=j:=by
 by_cases h:c< -b
 .have a:nI b c=true:=by simp [nI,h]
  rw [a];clear a;go_enter func347,ntmps347;go_wp2;go_returns;exact⟨rfl,rfl⟩
 .by_cases i:b<c
  .have a:nI b c=true:=by simp [nI,i]
   rw [a];clear a;go_enter func347,ntmps347;go_wp2;go_returns;exact⟨rfl,rfl⟩
  .have a:nI b c=false:=by simp [nI,h,i]
   rw [a];clear a;go_enter func347,ntmps347;go_wp2;go_returns;exact⟨rfl,rfl⟩
def lQ(a:List Int)(b:Int):Int:=if a.length=16∨a.length=64 then (if a.any (nI b) then 3 else 0) else 14
theorem nw(i:Z)(a:List Int)(c:Int)(g:V)(h:aY g i a)(q:0<=c)(r:c<=16777216):
  d prog 329 #[i,A G c] g λb t=>b=e (bj (lQ a c))/\X g g t:=by
 by_cases j:a.length=16∨a.length=64
 .have n:aY (g.alloc (M #[A G c] 3)) i a:=h.ext N
  have m:=fW 347 f347 func347 B B #[Q (K g)] (nI c) i a (g.alloc (M #[A G c] 3)) n
   (λv _=>Vb c v g _ q r Y)
  have k:=E m
  obtain⟨f,cap,rfl⟩:∃f cap,i=U f a.length cap:=by obtain⟨f,cap,b,_⟩:=h;exact⟨f,cap,b⟩
  have p:=h.len;clear h n m
  have b:lQ a c=if a.any (nI c) then 3 else 0:=by simp only [lQ,if_pos j]
  rw [b];clear b;generalize a.any (nI c)=s at k;generalize a.length=l at*
  cases s with
  |true=>
   rcases j with rfl|rfl<;>
   .go_enter func329,ntmps329
    go_wp2_with (go_at_call 265;refine k.o.mono ?_;rintro b u ⟨rfl,rfl⟩)
    go_returns;exact⟨rfl,N⟩
  |false=>
   rcases j with rfl|rfl<;>
   .go_enter func329,ntmps329
    go_wp2_with (go_at_call 265;refine k.o.mono ?_;rintro b u ⟨rfl,rfl⟩)
    go_returns;exact⟨rfl,N⟩
 .have b:lQ a c=14:=by simp only [lQ,if_neg j]
  rw [b];clear b;have p:=h.len
  obtain⟨f,cap,rfl⟩:∃f cap,i=U f a.length cap:=by obtain⟨f,cap,b,_⟩:=h;exact⟨f,cap,b⟩
  clear h;generalize a.length=l at*
  have w:((l:Int) !=16)=true:=by simp;omega
  have x:((l:Int) !=64)=true:=by simp;omega
  clear j;go_enter func329,ntmps329;go_wp2;go_returns;exact⟨rfl,N⟩
theorem Rj{b a:Nat}(c:b=16∨b=64)(f:a<=lg b):(2^a<b↔a<lg b)/\2^a<=64:=by
 rcases c with rfl|rfl
 .have:a=0∨a=1∨a=2∨a=3∨a=4:=by
   have:lg 16=4:=rfl;omega
  rcases this with rfl|rfl|rfl|rfl|rfl<;>decide
 .have:a=0∨a=1∨a=2∨a=3∨a=4∨a=5∨a=6:=by
   have:lg 64=6:=rfl;omega
  rcases this with rfl|rfl|rfl|rfl|rfl|rfl|rfl<;>decide
theorem JA{b:List Int}(f:b.length=16∨b.length=64){a:Nat}(i:a<lg b.length)(l:Bd 16777216 b)(c:Nat)(m:c<=b.length)(g:Nat):
  -1073741824<=(jM (2^a) b.length c (gY a b)).getD g 0/\(jM (2^a) b.length c (gY a b)).getD g 0<=1073741824:=by
 have j:=xC f l a O;have n:=Aq (EV f i) (jx a b) j c m g
 have k:(2:Int)^a<=32:=by
  have:a=0∨a=1∨a=2∨a=3∨a=4∨a=5:=by
   rcases f with h|h<;>rw [h] at i
   .have:lg 16=4:=rfl
    omega
   .have:lg 64=6:=rfl
    omega
  rcases this with rfl|rfl|rfl|rfl|rfl|rfl<;>decide
 have o:(2:Int)^a*16777216<=32*16777216:=Int.mul_le_mul_of_nonneg_right k O;omega
theorem wP(P:Z)(a:List Int)(f:V)(b9:aY f P a)(b8:a.length=16∨a.length=64)(a7:Bd 16777216 a):
  d prog 330 #[P] f λa2 c1=>∃c0,a2=e c0/\aa c1 f c0 (jR a)/\X f f c1:=by
 have b3:=E (xK P a f b9 O O);clear b9;go_enter func330,ntmps330
 go_wp2_with fail
 refine b3.o.mono ?_;rintro a2 h0 ⟨g9,rfl,g,e1⟩;obtain⟨i,cap,rfl,u,g4⟩:=g.head O;have c4:=E a7;have x:=E b8;have c5:=E g;have g7:a.length<=64:=O;clear a7 g b8 b3;go_wp2
 go_loopw [4] (λF wr=>∃h c:Nat,h<=lg a.length/\c=2^h/\F=A G c/\aa wr f (U (K i) a.length cap) (gY h a)/\X f f wr) (λF _=>a.length - (Yz F).toNat)
 case atStart=>exact⟨0,1,Yr _,rfl,rfl,c5.o,e1⟩
 case round=>
  obtain⟨h,c,e5,p,rfl,g,e0⟩:=hrel;obtain⟨R,rfl⟩:∃R:V,R=wr:=⟨_,rfl⟩;have w:=Rj x.o e5;rw [<-p] at w;have e7:c<=64:=w.2
  have e8:1<=c:=by rw [p];exact Db h
  have a1:=E w.1;have k:=E p;have W:=E g;have b2:=e0;clear w p g;by_cases e4:c<a.length
  .have b7:h<lg a.length:=a1.o.1 e4
   have b5:=EV x.o b7;have c8:=E b5;clear b5;go_wp2
   go_loopw [16,5] (λD _ wr=>∃b:Nat,b<=a.length/\D=A G b/\aa wr f (U (K i) a.length cap) (jM c a.length b (gY h a))/\X f f wr) (λD _ _=>a.length - (Yz D).toNat)
   case atStart=>exact⟨0,Yr _,rfl,W.o,b2⟩
   case round=>
    obtain⟨b,g5,rfl,g,r⟩:=hrel;have a0:=E g;by_cases b6:b<a.length
    .have l:=JA x.o b7 c4.o b O
     rw [<-k.o] at l;obtain⟨-, -, -,s,t⟩:=g.at
     have v:(jM c a.length b (gY h a)).length=a.length:=by rw [ke,jx]
     by_cases j:b&&&c=0
     .obtain⟨q,_,J⟩:=TF c8.o b6 (by rw [<-k.o];exact j)
      rw [<-k.o] at q J
      have L:bits .and G (b:Int) (c:Int)=0:=by rw [sY b c O O,j];rfl
      have e6:bits .or G (b:Int) (c:Int)=(((b+c:Nat)):Int):=by rw [vq b c O O,q]
      have e2:=s b (by rw [v];exact b6);have b4:=s (b+c) (by rw [v];exact J);have b0:=l b;have b1:=l (b+c);have g3:=t b;have e3:=t (b+c);have z:=E j;have c3:=E q;generalize a8:(jM c a.length b (gY h a)).getD b 0=m at e2 b0;generalize a9:(jM c a.length b (gY h a)).getD (b+c) 0=n at b4 b1;generalize a6:b+c=C at e6 b4 e3 J;have c6:=E a8;have c7:=E a9;have c2:=E a6;have g6:b<C:=O;obtain⟨e9,g0⟩:=b0;obtain⟨g1,g2⟩:=b1;clear g s t l v j q a8 a9 a6;go_wp2
      go_region
      all_goals go_wp2
      all_goals
       have c9:aa ((wr.setCell ⟨i,b,I⟩ (A G (m+n))).setCell ⟨i,C,I⟩ (A G (m - n))) f (U (K i) a.length cap) (jM c a.length (b+1) (gY h a)):=by
        rw [np,Er,if_pos z.o,c6.o,c3.o,c7.o,c2.o];exact(a0.o.xo b (m+n) (by unfold bh;omega)).xo C (m - n) (by unfold bh;omega)
       go_roundw
       case rel=>exact⟨b+1,O,S,c9,by first|exact(r.setCell (by simpa using u) _).setCell (by simpa using u) _|exact((r.setCell (by simpa using u) _).setCell (by simpa using u) _).drew⟩
       case measure=>simp [Yz];omega
     .have L:∃T:Nat,bits .and G (b:Int) (c:Int)=(T:Int)/\((T:Int)==0)=false:=⟨b&&&c,sY b c O O,by simpa using j⟩
      obtain⟨T,L,g8⟩:=L;have z:=E j;clear g s t l v j;go_wp2;go_roundw
      case rel=>exact⟨b+1,O,S,by rw [np,Er,if_neg z.o];exact a0.o,r⟩
      case measure=>simp [Yz];omega
    .have a3:b=a.length:=O
     have y:Hd (aa wr f (U (K i) a.length cap) (gY (h+1) a)):=by
      show aa _ _ _ _
      rw [oH,<-k.o];rw [a3] at g;exact g
     clear g a3;go_wp2;go_roundw
     case rel=>exact⟨h+1,2*c,O,by rw [k.o,Nat.pow_succ,Nat.mul_comm],by first|(congr 1;omega)|(simp;omega),y.o,r⟩
     case measure=>simp [Yz];omega
  .have a5:h=lg a.length:=by have:=a1.o;omega
   have y:Hd (aa R f (U (K i) a.length cap) (jR a)):=by
    show aa _ _ _ _
    unfold jR;rw [<-a5];exact W.o
   clear a5;go_wp2;go_returns;exact⟨_,rfl,y.o,b2⟩
theorem oN{b:List Int}{c:Int}(h:0<=c)(a:lQ b c=0):(b.length=16∨b.length=64)/\Bd c b:=by
 unfold lQ at a;split at a
 .rename_i g
  refine⟨g,?_⟩;split at a
  .cases a
  .rename_i f
   rw [Bool.not_eq_true,List.any_eq_false] at f
   exact Jz h λj i=>by have:=f j i;simp [nI] at this;omega
 .cases a
def tJ(a:List Int):List Int:=if lQ a 65536=0 then jR a else []
theorem zB(j:Z)(a:List Int)(c:V)(i:aY c j a):
  d prog 311 #[j] c λh r=>∃m,h=e (Ye #[m,bj (lQ a 65536)])/\aa r c m (tJ a)/\X c c r:=by
 have g:=nw j a 65536 c i O O;have v:=E i;by_cases b:lQ a 65536=0
 .obtain⟨p,n⟩:=oN O b
  have l:Hd (tJ a=jR a):=by show _=_;simp only [tJ,if_pos b]
  rw [b,ar] at g;rw [b,ar];have k:=E g;have t:=E p;have s:=E (n.mono (O:(65536:Int)<=16777216));clear g p n b i;go_enter func311,ntmps311
  go_wp2_with fail
  refine(k.o).mono ?_;rintro h x ⟨rfl,f⟩
  go_wp2_with fail
  refine(wP j a _ (v.o.ext f) t.o s.o).mono ?_;rintro h C ⟨m,rfl,q,w⟩;have u:=E q;clear q;go_wp2;go_returns;exact⟨_,rfl,by rw [l.o];exact u.o.mono f.size,ext f w⟩
 .have l:Hd (tJ a=[]):=by show _=_;simp only [tJ,if_neg b]
  have y:(lQ a 65536==0)=false:=by simpa using b
  generalize lQ a 65536=z at*;have k:=E g;clear g b i;go_enter func311,ntmps311
  go_wp2_with fail
  refine(k.o).mono ?_;rintro h x ⟨rfl,f⟩;go_wp2;go_returns;exact⟨_,rfl,by rw [l.o];exact aa.nil _ _,f⟩
theorem Uv(a:V):d prog 162 #[A .u64 16] a λb c=>b=e (A G 5)/\a=c:=by
 go_enter func162,ntmps162;go_wp2;go_returns;exact⟨B,rfl⟩
theorem Uw(a:V):d prog 162 #[A .u64 64] a λb c=>b=e (A G 7)/\a=c:=by
 go_enter func162,ntmps162;go_wp2;go_returns;exact⟨B,rfl⟩
def shr(a:Nat)(b:Int):Int:=(b+a / 2) / a
def kR(f c:Nat)(b:List Int):List Int:=(Za b.length).map λa=>if a<c then shr f (b.getD a 0) else b.getD a 0
theorem fZ(c b:Nat)(a:List Int):(kR c b a).length=a.length:=by simp [kR]
theorem kG{f c a:Nat}{b:List Int}(g:a<b.length):(kR f c b).getD a 0=if a<c then shr f (b.getD a 0) else b.getD a 0:=by
 simp [kR,YR,g]
theorem wC(c:Nat)(b:List Int):kR c 0 b=b:=by
 apply AQ (fZ ..);intro f a;rw [fZ] at a;rw [kG a,if_neg O]
theorem wB{h a:Nat}{g:List Int}(l:a<g.length):(kR h a g).set a (shr h (g.getD a 0))=kR h (a+1) g:=by
 apply AQ (by simp [fZ]);intro f c;rw [List.length_set,fZ] at c;rw [vi,kG c,kG c,fZ];by_cases i:a=f
 .subst i
  have b:a<a+1:=O;rw [if_pos ⟨rfl,c⟩,if_pos b]
 .rw [if_neg (λk=>i k.1)]
  by_cases j:f<a
  .have b:f<a+1:=O
   rw [if_pos j,if_pos b]
  .have b:¬f<a+1:=O
   rw [if_neg j,if_neg b]
def Fq(a:List Int):List Int:=if lQ a 16777216=0 then kR a.length a.length (jR a) else []
theorem Ar{a:List Int}(f:a.length=16∨a.length=64)(h:Bd 16777216 a)(c:Nat): -1073741824<=(jR a).getD c 0/\(jR a).getD c 0<=1073741824:=by
 have b:=xC f h (lg a.length) (Yk _);have i:=b c
 have g:(2:Int)^(lg a.length)<=64:=by
  rcases f with b|b<;>rw [b]<;>decide
 have j:(2:Int)^(lg a.length)*16777216<=64*16777216:=Int.mul_le_mul_of_nonneg_right g O;unfold jR;omega
theorem Td(j:Z)(f:List Int)(c:V)(w:aY c j f)(s:lQ f 16777216=0)(R:f.length=16):
  d prog 346 #[j] c λh W=>∃T,h=e (Ye #[T,Ya])/\aa W c T (kR 16 16 (jR f))/\X c c W:=by
 have t:=nw j f 16777216 c w O O;obtain⟨P,C⟩:=oN O s;rw [s,ar] at t;have a1:=E t;have a5:=E w;have x:=E C;have a2:=E P;have m:=E R;clear t P C s w R;go_enter func346,ntmps346
 go_wp2_with fail
 refine(a1.o).mono ?_;rintro h b8 ⟨rfl,i⟩
 go_wp2_with fail
 refine(wP j f _ (a5.o.ext i) a2.o x.o).mono ?_;rintro h b9 ⟨b7,rfl,b,a8⟩;obtain⟨g,cap,rfl,u,b5⟩:=b.head (by rw [kg,m.o];omega);have u:c.heap.size<=g:=Yl i.size u
 have r:(jR f).length=16:=by rw [kg,m.o]
 rw [r] at b⊢;have a3:=E (b.mono i.size)
 have D:=λb1=>Ar (by rw [m.o];omega) x.o b1
 generalize z:jR f=k at*;have a6:=E z;clear z;have l:=E r;have a0:=E D;have a7:=ext i a8;clear b r D
 go_wp2_with fail
 refine(Uv _).mono ?_;rintro h c0 ⟨rfl,rfl⟩;go_wp2
 go_loopw [23,7,8] (λq _ _ wr=>∃a:Nat,a<=16/\q=A G a/\aa wr c (U (K g) 16 cap) (kR 16 a k)/\X c c wr) (λq _ _ _=>16 - (Yz q).toNat)
 case atStart=>exact⟨0,O,rfl,by rw [wC];exact a3.o,a7⟩
 case round=>
  obtain⟨a,b6,rfl,b,F⟩:=hrel;have n:=E b;by_cases v:a<16
  .obtain⟨-, -, -,J,L⟩:=b.at
   have b0:=J a (by rw [fZ,l.o];exact v);rw [kG (by rw [l.o];exact v),if_neg (Nat.lt_irrefl a)] at b0;have b4:=L a;have a9:=a0.o a
   have p:=E (show aa (wr.setCell ⟨g,a,I⟩ (A G ((k.getD a 0+8) / 16))) c (U (K g) 16 cap) (kR 16 (a+1) k) from by
    rw [<-wB (by rw [l.o];exact v)]
    exact n.o.xo a _ (by unfold bh;omega))
   generalize k.getD a 0=c1 at*;obtain⟨b2,b3⟩:=a9;clear b J L n;go_wp2;go_roundw
   case rel=>exact⟨a+1,O,S,p.o,F.setCell (by simpa using u) _⟩
   case measure=>simp [Yz];omega
  .have y:a=16:=O
   rw [y] at b;have p:=E b;clear b n y;go_wp2;go_returns;exact⟨U (K g) _ cap,rfl,by rw [a6.o];exact p.o,F⟩
theorem Te(j:Z)(f:List Int)(c:V)(w:aY c j f)(s:lQ f 16777216=0)(R:f.length=64):
  d prog 346 #[j] c λh W=>∃T,h=e (Ye #[T,Ya])/\aa W c T (kR 64 64 (jR f))/\X c c W:=by
 have t:=nw j f 16777216 c w O O;obtain⟨P,C⟩:=oN O s;rw [s,ar] at t;have a1:=E t;have a5:=E w;have x:=E C;have a2:=E P;have m:=E R;clear t P C s w R;go_enter func346,ntmps346
 go_wp2_with fail
 refine(a1.o).mono ?_;rintro h b8 ⟨rfl,i⟩
 go_wp2_with fail
 refine(wP j f _ (a5.o.ext i) a2.o x.o).mono ?_;rintro h b9 ⟨b7,rfl,b,a8⟩;obtain⟨g,cap,rfl,u,b5⟩:=b.head (by rw [kg,m.o];omega);have u:c.heap.size<=g:=Yl i.size u
 have r:(jR f).length=64:=by rw [kg,m.o]
 rw [r] at b⊢;have a3:=E (b.mono i.size)
 have D:=λb1=>Ar (by rw [m.o];omega) x.o b1
 generalize z:jR f=k at*;have a6:=E z;clear z;have l:=E r;have a0:=E D;have a7:=ext i a8;clear b r D
 go_wp2_with fail
 refine(Uw _).mono ?_;rintro h c0 ⟨rfl,rfl⟩;go_wp2
 go_loopw [23,7,8] (λq _ _ wr=>∃a:Nat,a<=64/\q=A G a/\aa wr c (U (K g) 64 cap) (kR 64 a k)/\X c c wr) (λq _ _ _=>64 - (Yz q).toNat)
 case atStart=>exact⟨0,O,rfl,by rw [wC];exact a3.o,a7⟩
 case round=>
  obtain⟨a,b6,rfl,b,F⟩:=hrel;have n:=E b;by_cases v:a<64
  .obtain⟨-, -, -,J,L⟩:=b.at
   have b0:=J a (by rw [fZ,l.o];exact v);rw [kG (by rw [l.o];exact v),if_neg (Nat.lt_irrefl a)] at b0;have b4:=L a;have a9:=a0.o a
   have p:=E (show aa (wr.setCell ⟨g,a,I⟩ (A G ((k.getD a 0+32) / 64))) c (U (K g) 64 cap) (kR 64 (a+1) k) from by
    rw [<-wB (by rw [l.o];exact v)]
    exact n.o.xo a _ (by unfold bh;omega))
   generalize k.getD a 0=c1 at*;obtain⟨b2,b3⟩:=a9;clear b J L n;go_wp2;go_roundw
   case rel=>exact⟨a+1,O,S,p.o,F.setCell (by simpa using u) _⟩
   case measure=>simp [Yz];omega
  .have y:a=64:=O
   rw [y] at b;have p:=E b;clear b n y;go_wp2;go_returns;exact⟨U (K g) _ cap,rfl,by rw [a6.o];exact p.o,F⟩
theorem zE(h:Z)(a:List Int)(c:V)(k:aY c h a):
  d prog 346 #[h] c λi l=>∃g,i=e (Ye #[g,bj (lQ a 16777216)])/\aa l c g (Fq a)/\X c c l:=by
 by_cases b:lQ a 16777216=0
 .obtain⟨f,_⟩:=oN O b
  have j:Fq a=kR a.length a.length (jR a):=by simp only [Fq,if_pos b]
  rcases f with f|f
  .exact(Td h a c k b f).mono λi l ⟨g,n,p,m⟩=>⟨g,by rw [n,b];rfl,by rw [j,f];exact p,m⟩
  .exact(Te h a c k b f).mono λi l ⟨g,n,p,m⟩=>⟨g,by rw [n,b];rfl,by rw [j,f];exact p,m⟩
 .have j:Hd (Fq a=[]):=by show _=_;simp only [Fq,if_neg b]
  have q:=nw h a 16777216 c k O O
  have t:(lQ a 16777216==0)=false:=by simpa using b
  generalize lQ a 16777216=u at*;have r:=E q;clear q b k;go_enter func346,ntmps346
  go_wp2_with fail
  refine(r.o).mono ?_;rintro i v ⟨rfl,s⟩;go_wp2;go_returns;exact⟨_,rfl,by rw [j.o];exact aa.nil _ _,s⟩
end
section
open Go.RowKit
theorem Of(g k i a:Nat)(w:Int)(c h:List Int)(j cap:Nat)(b6:Z)(l:V)(t:Nat)(b1:aa l t (U (K j) c.length cap) c)
  (R:∀e0,af (·=j) l e0->aY e0 b6 h)(h7:k+a<=g)(j6:1<=a)(c5:a<=8)(j5:c.length<=1024)(a9:h.length=a*a)
  (c6:∀n,n<a*a->spot g k i a n<c.length)(j2:g<=32)(j8:i+a<=32):
  d prog 305 #[Yc #[A G g,A G w,U (K j) c.length cap],A G k,A G i,A G a,b6] l
   λL c9=>L=e (Ye #[])/\aa c9 t (U (K j) c.length cap) (Oe g k i a h c)/\af (·=j) l c9:=by
 have T:=R l (af.refl _ _);obtain⟨h9,a2,rfl⟩:=T.shape;rw [a9] at R T⊢;have a0:=E T;have e3:=E R;have b3:=E c6;have e2:=E (ai.new l #[A G g,A G w,U (K j) c.length cap] 81);have e7:=E (show aa (l.alloc (M #[A G g,A G w,U (K j) c.length cap] 81)) t (U (K j) c.length cap) (kJ g k i a (0*a) h c) from by rw [Nat.zero_mul,Fv];exact b1.alloc _);obtain⟨-,i3,j3, -, -⟩:=b1.at;have F:=E a9;clear R T c6 b1 a9;go_enter func305,ntmps305;go_wp2
 go_loopw [12] (λb wr=>∃n:Nat,n<=a/\b=A G n/\aa wr t (U (K j) c.length cap) (kJ g k i a (n*a) h c)/\ai wr l #[A G g,A G w,U (K j) c.length cap] 81/\af (·=j) l wr) (λb _=>a - (Yz b).toNat)
 case atStart=>exact⟨0,Yr _,rfl,e7.o,e2.o,af.aj ((Yn _ _).alloc (Yk _) _)⟩
 case round=>
  obtain⟨b,j4,rfl,b0,b9,q⟩:=hrel;have x:=E b0;have W:=E b9;have g7:=E (e3.o wr q);by_cases c3:b<a
  .clear b0 b9
   obtain⟨i0,i1,i2, -, -, -⟩:=W.o.three;have j9:=W.o.lt
   have h5:spot g k i a (b*a)=(i+b)*g+k:=by
    have u:=nb (n:=a) (j:=b) (i:=0) O;rw [Nat.add_zero] at u;unfold spot;rw [u.1,u.2];omega
   have c2:b*a+a<=a*a:=by rw [<-Nat.succ_mul];exact Nat.mul_le_mul_right _ c3
   have j7:a*a<=64:=Nat.mul_le_mul c5 c5;have h4:=b3.o (b*a+(a - 1)) O
   have h6:spot g k i a (b*a+(a - 1))=(i+b)*g+k+(a - 1):=by
    have u:=nb (n:=a) (j:=b) (i:=a - 1) O;unfold spot;rw [u.1,u.2];omega
   have h1:(i+b)*g+k+a<=c.length:=O;obtain⟨y,a6⟩:∃y,(i+b)*g=y:=⟨_,rfl⟩;obtain⟨f,a5⟩:∃f,b*a=f:=⟨_,rfl⟩;have a1:=E (QK (y:=i) (b:=h) h7 O c3 (by rw [F.o];exact Yk _) b3.o);obtain⟨J,a8⟩:∃J,i+b=J:=⟨_,rfl⟩;obtain⟨m,a3⟩:∃m,y+k=m:=⟨_,rfl⟩;obtain⟨p,a7⟩:∃p,f+a=p:=⟨_,rfl⟩
   have k4:Zc G ((i:Int)+b)=(J:Nat):=by rw [Yx _ O,<-a8];simp
   have k2:Zc G ((J:Int)*g)=(y:Nat):=wrap_mul (by rw [<-a6,<-a8];simp) O;have k1:Zc G ((b:Int)*a)=(f:Nat):=wrap_mul (by rw [<-a5];simp) O
   have k0:Zc G ((y:Int)+k)=(m:Nat):=by rw [Yx _ O,<-a3];simp
   have k3:Zc G ((f:Int)+a)=(p:Nat):=by rw [Yx _ O,<-a7];simp
   obtain⟨b8,c1,h0,c7⟩:=x.o.row;have b4:=E c7;have e4:=E c1;have g8:c.length<=cap:=x.o.cap;have g9:a*a<=a2:=a0.o.cap;rw [gN] at h0;rw [a6,a3] at h1 a1;rw [a5] at c2 a1 b4;rw [a7] at c2;obtain⟨b5,c8,rfl, -,g5⟩:=a0.o.gQ (j:=0) (by rw [F.o];omega)
   have C:((h.drop f).take a).length=a:=by rw [List.length_take,List.length_drop,F.o];omega
   have e8:=E (show(((h.drop f).take a).map (A G)).length=Nat.min a (c.length - m) from by rw [List.length_map,C];exact(Nat.min_eq_left O).symm)
   have e9:=E (show∀b s,(((h.drop f).take a).map (A G))[b]? =K s->wr.drew.cell? ((⟨b5,c8+f,I⟩:Yi).add b)=K s from by
    intro D s r;rw [List.getElem?_map] at r
    cases hi:((h.drop f).take a)[D]? with
    |none=>rw [hi] at r;cases r
    |some v=>
     rw [hi] at r
     obtain rfl:A G v=s:=by simpa using r
     have h2:D<a:=by rw [<-C];exact(List.getElem?_eq_some_iff.1 hi).1
     have b7:=g7.o.TI (j:=f+D) (by rw [F.o];omega);rw [List.getElem?_take_of_lt h2,List.getElem?_drop] at hi;rw [Yp,hi] at b7;rw [Go.WideShapes.add_plain,YW]
     exact b7)
   have g0:=E (show m+(((h.drop f).take a).map (A G)).length<=b8.length from by rw [List.length_map,C];omega);have g1:=E (show∀s∈((h.drop f).take a).map (A G),s.oneCell'=true from by intro s r;obtain⟨v,_,rfl⟩:=List.mem_map.1 r;rfl);have g2:=E (show∀v∈(h.drop f).take a,Proofs.YtajkpgaheechmaaGreatDoor.bh v from λv h8=>a0.o.bh v (List.mem_of_mem_drop (List.mem_of_mem_take h8)));have g3:=E (show m+((h.drop f).take a).length<=(kJ g k i a f h c).length from by rw [C,gN];omega);clear c7 c1 a6 a5 h5 h6 h4;have i6:p<=a2:=O;have j0:p<=64:=O;have i7:f<=p:=O;have i9:¬a2=f:=O;have i4:¬cap=m:=O;have i5:m<=c.length:=O;have j1:p - f=a:=O;clear a3 a7 a8 g8 g9 g5 C;generalize c0:((h.drop f).take a).map (A G)=g4 at*
   go_wp2_with fail
   go_region_law (refine xt (by rfl) (.tmp 25) (.tmp 35) 26 (by rfl) 3 underlying26 SS j m _ _ ⟨b5,c8+f,I⟩ a _ (by rfl) (by rfl) b8 3 e4.o g4 e8.o e9.o g0.o g1.o ?_;intro b2 z)
   all_goals
    have e5:=E (show aa b2 t (U (K j) c.length cap) (kJ g k i a ((b+1)*a) h c) from by rw [<-a1.o];exact b4.o _ _ _ g3.o g2.o (by rw [c0];exact z.o.1));have e1:Hd (ai b2 l #[A G g,A G w,U (K j) c.length cap] 81):=E ((z.o.2.1 _ O).trans W.o)
    have g6:af (·=j) l b2:=by
     have P:=fU z.o.2.2;exact⟨P.os.trans q.os,P.tape.trans q.tape,P.output.trans q.output,Yl q.size P.size,λn h3 c4=>(z.o.2.1 n c4).trans (q.block n h3 c4)⟩
    clear z c0;go_wp2;go_roundw
    case rel=>exact⟨b+1,O,S,e5.o,e1.o,g6⟩
    case measure=>simp [Yz];omega
  .have L:b=a:=O
   have e6:=E (show aa wr t (U (K j) c.length cap) (Oe g k i a h c) from by rw [L] at x;exact x.o);clear L x b0;go_wp2;go_returns;exact⟨rfl,e6.o,q⟩
def dh(a left:List Int)(b:Int):Int:=
 if (a.length=4∨a.length=8)/\left.length=a.length then (if ax a 0 255&&ax left 0 255&&(decide (0<=b)&&decide (b<=255)) then 0 else 3) else 14
def pI(a:Int)(c left:List Int)(b:Int):Int:=if a<0∨3<a then 13 else dh c left b
def jH(b left:List Int)(c:Nat):Int:=b.length+cu c λa=>b.getD a 0+left.getD a 0
def pE(a left:List Int):Int:=jH a left a.length / (2*a.length)
def cC(c:Int)(a left:List Int)(f:Int)(b:Nat):Int:=
 if c=0 then pE a left else if c=1 then a.getD (b%a.length) 0 else if c=2 then left.getD (b / a.length) 0 else eF (left.getD (b / a.length) 0+a.getD (b%a.length) 0 - f)
def jJ(c:Int)(a left:List Int)(b:Int):List Int:=bQ (cC c a left b) (a.length*a.length)
theorem zu(c:Int)(a left:List Int)(b:Int):(jJ c a left b).length=a.length*a.length:=bO ..
theorem gy{b left:List Int}{c:Int}(f:dh b left c=0):(b.length=4∨b.length=8)/\left.length=b.length/\ax b 0 255=true/\ax left 0 255=true/\0<=c/\c<=255:=by
 unfold dh at f;split at f
 .rename_i g
  split at f
  .rename_i a
   simp only [YV,decide_eq_true_eq] at a;exact⟨g.1,g.2,a.1.1,a.1.2,a.2.1,a.2.2⟩
  .omega
 .omega
theorem Nh{a left:List Int}{b:Int}(c:a.length=4∨a.length=8)(f:left.length=a.length)(g:ax a 0 255=true)(h:ax left 0 255=true)(i:0<=b)(j:b<=255):dh a left b=0:=by
 unfold dh;rw [if_pos ⟨c,f⟩,g,h];simp [i,j]
theorem rp{a left:List Int}(g:ax a 0 255=true)(h:ax left 0 255=true)(c:Nat):a.length<=jH a left c/\jH a left c<=a.length+c*510:=by
 have:=rH (n:=c) (f:=λb=>a.getD b 0+left.getD b 0) (lo:=0) (hi:=510) λb _=>by
  have:=aQ g O O b;have:=aQ h O O b;omega
 unfold jH;omega
theorem oY(b left:List Int)(a:Nat):jH b left (a+1)=jH b left a+(b.getD a 0+left.getD a 0):=by unfold jH;rw [gL];omega
theorem mw{a left:List Int}(h:a.length=4∨a.length=8)(f:ax a 0 255=true)(g:ax left 0 255=true):0<=pE a left/\pE a left<=255:=by
 have c:=rp f g a.length;unfold pE;generalize jH a left a.length=i at*
 rcases h with b|b<;>rw [b] at c⊢<;>omega
theorem tp{mode:Int}{f left:List Int}{a:Int}(g:dh f left a=0):ax (jJ mode f left a) 0 255=true:=by
 obtain⟨h,i,b,c,_,_⟩:=gy g;unfold jJ;rw [rL];intro j _;unfold cC;split
 .exact mw h b c
 .split
  .exact aQ b O O _
  .split
   .exact aQ c O O _
   .exact qK _
def eZ(b:Nat->Int):Nat->Int×Int
 |0=>(0, -1)
 |a+1=>if (eZ b a).2<0∨b a<(eZ b a).2 then ((a:Int),b a) else eZ b a
theorem Ep{c:Nat->Int}{k:Nat}(a:(eZ c k).2<0∨c k<(eZ c k).2):eZ c (k+1)=((k:Int),c k):=by rw [eZ,if_pos a]
theorem JC{c:Nat->Int}{k:Nat}(a:¬((eZ c k).2<0∨c k<(eZ c k).2)):eZ c (k+1)=eZ c k:=by rw [eZ,if_neg a]
end
end Go.Proofs.YtajkpgaheechmaaGreatDoor
