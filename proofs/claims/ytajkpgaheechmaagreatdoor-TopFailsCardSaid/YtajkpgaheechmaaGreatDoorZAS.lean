/- YSceneG YPlaneE YStatsP OwnRows Splice YLay YPlaneG YStatsW YBoth YBlockW YStatsI YStatsG -/
import Derived.Test.YtajkpgaheechmaaGreatDoorZAN
import Derived.Deep.DeepCutAuto
import Derived.StillTailTactics
set_option maxRecDepth 100000
set_option maxHeartbeats 16000000
set_option linter.unusedSimpArgs false
set_option linter.unusedVariables false
set_option linter.unusedSectionVars false
namespace Go.Proofs.YtajkpgaheechmaaGreatDoor
open _root_.Go.Proofs.Tryz
open Go.Value renaming int->A,slice->U,pointer->Q,nilIface->Ya,string->Yb,agg->Yc,iface->Yd,tuple->Ye,ownBlock->YT
open Go.IntKind renaming i64->G,wrap->Zc
open Option renaming none->I,some->K
open Go.Obj renaming cells->M
open Go.Ending renaming returned->e
open Go renaming World->V,Value->Z,Calls->d,Addr->Yi,bodyPost_ret->YD,results->YU
open Go.RowKit renaming Below->X,intOf->Yz
open Or renaming inl->Yg,inr->Yh
open Go.World renaming block_lt_of_cell?->Yj,ownsRow_nil->YC,size_alloc->YN
open Nat renaming le_refl->Yk,le_trans->Yl,zero_le->Yr,add_assoc->YW
open Go.RowKit.Below renaming refl->Yn
open List renaming getD_eq_getElem?_getD->Yp,length_append->Yq,replicate->YA,set_cons_zero->YJ,getElem?_eq_getElem->YM,range->Za,length_singleton->Zb
open Go.IntWalk renaming i64_in->Yx
open Go.Value.slice renaming injEq->Yy
open Option.some renaming injEq->YQ
open And renaming intro->YI
open Bool renaming and_eq_true->YV
section
open Go.RowKit Go.Extern.Stop Go.Stop Go.Extern
theorem C_(g:Array UInt8)(f b:Int)(j:b≠0)(a:V):
  d prog 45 #[Yb ⟨g⟩,A G f,bj b] a λi h=>∃c,i=e (Yd 142 (Q (K ⟨c,0,I⟩)))/\ai h c (EO g f b) 144/\a.heap.size<=c/\X a a h:=by
 rw [aT j];exact Pq g f b a
theorem IW{a b:V}(u:X a a b){f l m n c:Nat}{o p q r s t:Z}
  (g:a.cell? ⟨f,l,I⟩=K o/\a.cell? ⟨f,m,I⟩=K p/\a.cell? ⟨f,n,I⟩=K q/\a.cell? c=K r/\a.cell? ⟨c,1,I⟩=K s/\a.cell? ⟨c,2,I⟩=K t):
  b.cell? ⟨f,l,I⟩=K o/\b.cell? ⟨f,m,I⟩=K p/\b.cell? ⟨f,n,I⟩=K q/\b.cell? c=K r/\b.cell? ⟨c,1,I⟩=K s/\b.cell? ⟨c,2,I⟩=K t:=by
 have h:∀{i:Yi} {j:Z},a.cell? i=K j->b.cell? i=K j:=λ{i j} k=>(u.cell (Yj a i k)).trans k
 exact⟨h g.1,h g.2.1,h g.2.2.1,h g.2.2.2.1,h g.2.2.2.2.1,h g.2.2.2.2.2⟩
theorem DJ{a:V}{c f g h b:Nat}{i j k l m n:Z}
  (o:a.cell? ⟨c,f,I⟩=K i/\a.cell? ⟨c,g,I⟩=K j/\a.cell? ⟨c,h,I⟩=K k/\a.cell? b=K l/\a.cell? ⟨b,1,I⟩=K m/\a.cell? ⟨b,2,I⟩=K n):
  a.drew.cell? ⟨c,f,I⟩=K i/\a.drew.cell? ⟨c,g,I⟩=K j/\a.drew.cell? ⟨c,h,I⟩=K k/\a.drew.cell? b=K l/\a.drew.cell? ⟨b,1,I⟩=K m/\a.drew.cell? ⟨b,2,I⟩=K n:=o
def If(a:List Fr)(cut k:Int)(b:V)(i:Ending)(g:V):Prop:=
 ((∀f,f<a.length->Mu a f=0)/\∃j,i=e (Ye #[j,Ya])/\gi g b j (gC a cut k a.length)/\X b b g)∨
 (∃c,c<a.length/\(∀f,f<c->Mu a f=0)/\Mu a c≠0/\∃h,i=e (Ye #[U I 0 0,Yd 142 (Q (K ⟨h,0,I⟩))])/\ai g h (EO #[115,99,101,110,101] c (Mu a c)) 144/\b.heap.size<=h/\X b b g)
theorem Ju{cut a:Int}{c:Nat}(b:Qf cut a c=0):(0<=cut/\cut<=16320/\1<=a/\a<=16)/\1<=c/\c<=16:=by
 unfold Qf at b;split at b
 .rename_i f
  split at b
  .omega
  .exact⟨f,O,O⟩
 .omega
theorem Mn{cut c:Int}{a:List (Int×Int)}{b:Nat}{g:Int}(f:a.length=0):stepG cut c a b g=a++[((b:Int),1)]:=by
 unfold stepG sZ;rw [f];rfl
theorem Mm{cut gop:Int}{g:List (Int×Int)}{i:Nat}{u:Int}(a:cut<u∨gop<=(cN g).2):stepG cut gop g i u=g++[((i:Int),1)]:=by
 unfold stepG;rw [if_neg];unfold sZ;simp only [YV,decide_eq_true_eq];omega
theorem Hk{cut gop:Int}{g:List (Int×Int)}{i a:Nat}{u:Int}(b:g.length=a+1)(h:u<=cut)(j:(g.getD a (0,0)).2<gop):stepG cut gop g i u=g.set a ((g.getD a (0,0)).1,(g.getD a (0,0)).2+1):=by
 have c:cN g=g.getD a (0,0):=by unfold cN;rw [b];rfl
 have f:sZ cut gop g u=true:=by unfold sZ;rw [c,b];simp only [YV,decide_eq_true_eq];omega
 unfold stepG;rw [if_pos f,c,b];rfl
theorem Rf(a6:Z)(c:List Fr)(cut g:Int)(l:V)(h4:Frames l a6 c)(l3:0<=cut)(c2:cut<=16320)(a5:1<=g)(l4:g<=16)(v:Nat)(h3:c.length=v)(l5:1<=v)(l6:v<=16):
  d prog 127 #[a6,A G cut,A G g] l λb8 m=>If c cut g l b8 m:=by
 have c9:=E h4;have h9:=E (Sy c (cut:=cut) a5);obtain⟨k8,cap,rfl⟩:=h4.dm h3;have L:=E h3
 have qn:((v:Int)==0)=false:=by rw [beq_eq_false_iff_ne];omega
 clear h4 h3;go_enter func127,ntmps127;go_wp2
 go_loopw [8,42] (λe1 c5 wr=>∃b:Nat,b<=v/\c5=A G b/\(∀h,h<b->Mu c h=0)/\gi wr l e1 (gC c cut g b)/\X l l wr) (λ_ c5 _=>v - (Yz c5).toNat)
 case atStart=>exact⟨0,Yr _,rfl,λh P=>O,gi.nil _ _,Yn _ _⟩
 case round=>
  obtain⟨b,l8,rfl,i5,i6,t⟩:=hrel;have b4:=E i5;have b6:=E i6;clear i5 i6;by_cases i4:b<v
  .rcases Nat.eq_zero_or_pos b with e3|e3
   .have j1:=E e3
    have a1:b - 1=0:=O
    have k2:Zc G ((b:Int) - 1)= -1:=by rw [e3];rfl
    clear e3;obtain⟨k,off,j,i,rfl,a3,e9,g0,g1,c0⟩:=(c9.o.ext t).cellAt (j:=b) (by rw [L.o];omega);obtain⟨e8,h5,c6,c7,b9,k0,x,y,z,c1⟩:=(c9.o.ext t).cellAt (j:=0) (by rw [L.o];omega)
    obtain⟨rfl,rfl⟩:k=e8/\off=h5:=by simpa using b9
    simp only [Nat.zero_mul,Nat.add_zero] at x y z;have b0:=E c0;have b2:=E c1;have a7:=E (λa6 q l c2 a5=>Dh a6 q (c.getD (0) Fr.ae) (c.getD (b) Fr.ae) l c2 a5)
    have R:Hd (Mu c (b)=gZ (c.getD (0) Fr.ae) (c.getD (b) Fr.ae)):=by show _=_;unfold Mu sS;rw [a1]
    have a9:Hd (gC c cut g (b+1)=stepG cut g (gC c cut g (b)) (b) (rJ (c.getD (0) Fr.ae) (c.getD (b) Fr.ae))):=by show _=_;rw [vm];unfold R_ sS;rw [a1]
    have J:=E (h9.o (b));have j9:0<v:=O;clear a1;obtain⟨k4,k5⟩:=Je (c.getD (0) Fr.ae) (c.getD (b) Fr.ae);clear c0 c1 b9;generalize g7:c.getD (b) Fr.ae=a at*;generalize g8:c.getD (0) Fr.ae=n at*;clear g7 g8;generalize rJ n a=q at*;generalize gZ n a=T at*;have C:=E (ai.new wr #[A G a.W,A G a.H,U j a.pix.length i] 81);have p:X wr wr (wr.alloc (M #[A G a.W,A G a.H,U j a.pix.length i] 81)):=N;have g6:=t.trans (p.mono t.size);have s:=E (show(wr.alloc (M #[A G a.W,A G a.H,U j a.pix.length i] 81)).cell? ⟨k,off,I⟩=K (A G n.W)/\(wr.alloc (M #[A G a.W,A G a.H,U j a.pix.length i] 81)).cell? ⟨k,off+1,I⟩=K (A G n.H)/\(wr.alloc (M #[A G a.W,A G a.H,U j a.pix.length i] 81)).cell? ⟨k,off+2,I⟩=K (U c6 n.pix.length c7)/\(wr.alloc (M #[A G a.W,A G a.H,U j a.pix.length i] 81)).cell? wr=K (A G a.W)/\(wr.alloc (M #[A G a.W,A G a.H,U j a.pix.length i] 81)).cell? ⟨wr,1,I⟩=K (A G a.H)/\(wr.alloc (M #[A G a.W,A G a.H,U j a.pix.length i] 81)).cell? ⟨wr,2,I⟩=K (U j a.pix.length i) from⟨(p.cell (p:=⟨k,_,I⟩) a3).trans x,(p.cell (p:=⟨k,_,I⟩) a3).trans y,(p.cell (p:=⟨k,_,I⟩) a3).trans z,C.o.cell 0,C.o.cell 1,C.o.cell 2⟩);have b7:=E (b6.o.ext p);have b1:=E (b0.o.ext p);have b3:=E (b2.o.ext p);have h6:=p.size;have h7:=t.size;clear x y z;go_wp2;obtain⟨x,y,z,g2,g3,g4⟩:=s.o
    go_region_held3 (λm=>m.cell? ⟨k,off,I⟩=K (A G n.W)/\m.cell? ⟨k,off+1,I⟩=K (A G n.H)/\m.cell? ⟨k,off+2,I⟩=K (U c6 n.pix.length c7)/\m.cell? wr=K (A G a.W)/\m.cell? ⟨wr,1,I⟩=K (A G a.H)/\m.cell? ⟨wr,2,I⟩=K (U j a.pix.length i))
     (first|with_reducible exact e6.o|with_reducible exact s.o|with_reducible exact DJ s.o|go_keep)
     (first|(go_at_call 172;refine(a7.o _ _ _ ?_ ?_).mono ?_;exact b3.o;exact b1.o;rintro b8 c8 ⟨rfl,D⟩;have e6:=E (IW D s.o)))
    have a2:X (wr.alloc (M #[A G a.W,A G a.H,U j a.pix.length i] 81)).heap.size (wr.alloc (M #[A G a.W,A G a.H,U j a.pix.length i] 81)) c8:=by first|exact D|exact fU D
    have a0:X l l c8:=g6.trans (a2.mono (Yl h7 h6));have k3:=a2.size;have w:=E (b7.o.ext a2);clear e9 g0 g1 x y z g2 g3 g4 s b7 b1 b3 b0 b2 C a7 b6 D;have k6: -9223372036854775808<=q:=O;by_cases u:T=0
    .have b5:Hd (∀h,h<b+1->Mu c h=0):=by
      intro h h1
      rcases Nat.lt_or_ge h b with P|P
      .exact b4.o h P
      .obtain rfl:h=b:=O
       rw [R.o];exact u
     subst u
     have i0:Hd ((gC c cut g b).length=0):=by have c2:=J.o.le;have a5:=j1.o;show _=0;omega
     obtain⟨m7,m6,rfl⟩:=w.o.dm i0.o
     go_wp2_with (at_builtin;refine aX 109 228 2 16 _ Tm NO rfl H rfl (.tmp 90) (.tmp 93) rfl l.heap.size _ _ _ [A G b,A G 1] rfl w.o.1 rfl Y rfl (by intro q r;simp at r;rcases r with rfl|rfl<;>rfl) (by have:=J.o.le;omega) H O ?_)
     intro i7 m c4 c3 _ _;go_wp2;go_roundw
     case rel=>exact⟨b+1,O,S,b5.o,by rw [a9.o,Mn i0.o];exact gi.app c4 w.o.2 (by unfold bh;omega) (by unfold bh;omega),a0.trans c3⟩
     case measure=>simp [Yz];omega
    .have k1:(T==0)=false:=by rw [beq_eq_false_iff_ne];exact u
     have a8:=E u;clear u
     go_wp2_with fail
     refine(C_ _ _ T a8.o _).mono ?_;rintro b8 h8 ⟨e7,rfl,h0,j5,g9⟩;have g5:X l l h8:=ext a0 g9;go_wp2;go_returns;exact Yh ⟨b,by rw [L.o];exact i4,b4.o,by rw [R.o];exact a8.o,e7,rfl,by rw [R.o];exact h0,O,g5⟩
   .obtain⟨f,j8⟩:∃f,b=f+1:=⟨b - 1,O⟩
    have a1:b - 1=f:=O
    have k2:Zc G ((b:Int) - 1)=f:=by rw [Yx _ O];omega
    clear j8;have m0:¬(f:Int)<0:=O;have m1:(0:Int)<=(f:Int):=O;have m3:(if (0:Int)>(f:Int) then (0:Int) else (f:Int))=(f:Int):=if_neg O;have m2:(f:Int)<(v:Int):=O;obtain⟨k,off,j,i,rfl,a3,e9,g0,g1,c0⟩:=(c9.o.ext t).cellAt (j:=b) (by rw [L.o];omega);obtain⟨e8,h5,c6,c7,b9,k0,x,y,z,c1⟩:=(c9.o.ext t).cellAt (j:=f) (by rw [L.o];omega)
    obtain⟨rfl,rfl⟩:k=e8/\off=h5:=by simpa using b9
    have b0:=E c0;have b2:=E c1;have a7:=E (λa6 q l c2 a5=>Dh a6 q (c.getD (f) Fr.ae) (c.getD (b) Fr.ae) l c2 a5)
    have R:Hd (Mu c (b)=gZ (c.getD (f) Fr.ae) (c.getD (b) Fr.ae)):=by show _=_;unfold Mu sS;rw [a1]
    have a9:Hd (gC c cut g (b+1)=stepG cut g (gC c cut g (b)) (b) (rJ (c.getD (f) Fr.ae) (c.getD (b) Fr.ae))):=by show _=_;rw [vm];unfold R_ sS;rw [a1]
    have J:=E (h9.o (b));have j9:f<v:=O;clear a1;obtain⟨k4,k5⟩:=Je (c.getD (f) Fr.ae) (c.getD (b) Fr.ae);clear c0 c1 b9;generalize g7:c.getD (b) Fr.ae=a at*;generalize g8:c.getD (f) Fr.ae=n at*;clear g7 g8;generalize rJ n a=q at*;generalize gZ n a=T at*;have C:=E (ai.new wr #[A G a.W,A G a.H,U j a.pix.length i] 81);have p:X wr wr (wr.alloc (M #[A G a.W,A G a.H,U j a.pix.length i] 81)):=N;have g6:=t.trans (p.mono t.size);have s:=E (show(wr.alloc (M #[A G a.W,A G a.H,U j a.pix.length i] 81)).cell? ⟨k,off+f*3,I⟩=K (A G n.W)/\(wr.alloc (M #[A G a.W,A G a.H,U j a.pix.length i] 81)).cell? ⟨k,off+f*3+1,I⟩=K (A G n.H)/\(wr.alloc (M #[A G a.W,A G a.H,U j a.pix.length i] 81)).cell? ⟨k,off+f*3+2,I⟩=K (U c6 n.pix.length c7)/\(wr.alloc (M #[A G a.W,A G a.H,U j a.pix.length i] 81)).cell? wr=K (A G a.W)/\(wr.alloc (M #[A G a.W,A G a.H,U j a.pix.length i] 81)).cell? ⟨wr,1,I⟩=K (A G a.H)/\(wr.alloc (M #[A G a.W,A G a.H,U j a.pix.length i] 81)).cell? ⟨wr,2,I⟩=K (U j a.pix.length i) from⟨(p.cell (p:=⟨k,_,I⟩) a3).trans x,(p.cell (p:=⟨k,_,I⟩) a3).trans y,(p.cell (p:=⟨k,_,I⟩) a3).trans z,C.o.cell 0,C.o.cell 1,C.o.cell 2⟩);have b7:=E (b6.o.ext p);have b1:=E (b0.o.ext p);have b3:=E (b2.o.ext p);have h6:=p.size;have h7:=t.size;clear x y z;go_wp2;obtain⟨x,y,z,g2,g3,g4⟩:=s.o
    go_region_held3 (λm=>m.cell? ⟨k,off+f*3,I⟩=K (A G n.W)/\m.cell? ⟨k,off+f*3+1,I⟩=K (A G n.H)/\m.cell? ⟨k,off+f*3+2,I⟩=K (U c6 n.pix.length c7)/\m.cell? wr=K (A G a.W)/\m.cell? ⟨wr,1,I⟩=K (A G a.H)/\m.cell? ⟨wr,2,I⟩=K (U j a.pix.length i))
     (first|with_reducible exact e6.o|with_reducible exact s.o|with_reducible exact DJ s.o|go_keep)
     (first|(go_at_call 172;refine(a7.o _ _ _ ?_ ?_).mono ?_;exact b3.o;exact b1.o;rintro b8 c8 ⟨rfl,D⟩;have e6:=E (IW D s.o)))
    have a2:X (wr.alloc (M #[A G a.W,A G a.H,U j a.pix.length i] 81)).heap.size (wr.alloc (M #[A G a.W,A G a.H,U j a.pix.length i] 81)) c8:=by first|exact D|exact fU D
    have a0:X l l c8:=g6.trans (a2.mono (Yl h7 h6));have k3:=a2.size;have w:=E (b7.o.ext a2);clear e9 g0 g1 x y z g2 g3 g4 s b7 b1 b3 b0 b2 C a7 b6 D;have k6: -9223372036854775808<=q:=O;by_cases u:T=0
    .have b5:Hd (∀h,h<b+1->Mu c h=0):=by
      intro h h1
      rcases Nat.lt_or_ge h b with P|P
      .exact b4.o h P
      .obtain rfl:h=b:=O
       rw [R.o];exact u
     subst u;obtain⟨F,h2⟩:∃F,(gC c cut g b).length=F+1:=⟨(gC c cut g b).length - 1,by have:=J.o.pos O;omega⟩;have e4:=E h2
     have l9:F<16:=by have:=J.o.le;omega
     obtain⟨e1,l2,rfl,j7,l7,k7,m8,i3⟩:=w.o.Va h2;obtain⟨k9,l0⟩:=J.o.me F O;have l1:=i3 (F*2+1);clear h2 i3 k7
     have m5:Zc G (((F+1:Nat):Int) - 1)=F:=by rw [Yx _ O];omega
     have j3:=E (λr e2=>Hk (cut:=cut) (gop:=g) (g:=gC c cut g b) (i:=b) (u:=q) e4.o r e2);have i1:=E (λP=>Mm (cut:=cut) (gop:=g) (g:=gC c cut g b) (i:=b) (u:=q) P)
     have j2:Hd (cN (gC c cut g b)=(gC c cut g b).getD F (0,0)):=by show _=_;unfold cN;rw [e4.o];rfl
     generalize e2:((gC c cut g b).getD F (0,0)).2=e0 at*;have i9:=E e2;clear e2;by_cases r:q<=cut
     .by_cases j6:e0<g
      .have m4:Zc G (e0+1)=e0+1:=Yx _ O
       go_wp2;go_roundw
       case rel=>exact⟨b+1,O,S,b5.o,by rw [a9.o,j3.o r j6];exact w.o.VR e4.o (e0+1) (by unfold bh;omega),a0.setCell j7 _⟩
       case measure=>simp [Yz];omega
      .have e5:=E (i1.o (Yh (by rw [j2.o,i9.o];omega)))
       go_wp2_with (at_builtin;refine aX 109 228 2 16 _ Tm NO rfl H rfl (.tmp 90) (.tmp 93) rfl l.heap.size _ _ _ [A G b,A G 1] rfl w.o.1 rfl Y rfl (by intro q r;simp at r;rcases r with rfl|rfl<;>rfl) (by have:=J.o.le;omega) H O ?_)
       intro i7 m c4 c3 _ _;go_wp2;go_roundw
       case rel=>exact⟨b+1,O,S,b5.o,by rw [a9.o,e5.o];exact gi.app c4 w.o.2 (by unfold bh;omega) (by unfold bh;omega),a0.trans c3⟩
       case measure=>simp [Yz];omega
     .have e5:=E (i1.o (Yg O))
      go_wp2_with (at_builtin;refine aX 109 228 2 16 _ Tm NO rfl H rfl (.tmp 90) (.tmp 93) rfl l.heap.size _ _ _ [A G b,A G 1] rfl w.o.1 rfl Y rfl (by intro q r;simp at r;rcases r with rfl|rfl<;>rfl) (by have:=J.o.le;omega) H O ?_)
      intro i7 m c4 c3 _ _;go_wp2;go_roundw
      case rel=>exact⟨b+1,O,S,b5.o,by rw [a9.o,e5.o];exact gi.app c4 w.o.2 (by unfold bh;omega) (by unfold bh;omega),a0.trans c3⟩
      case measure=>simp [Yz];omega
    .have k1:(T==0)=false:=by rw [beq_eq_false_iff_ne];exact u
     have a8:=E u;clear u
     go_wp2_with fail
     refine(C_ _ _ T a8.o _).mono ?_;rintro b8 h8 ⟨e7,rfl,h0,j5,g9⟩;have g5:X l l h8:=ext a0 g9;go_wp2;go_returns;exact Yh ⟨b,by rw [L.o];exact i4,b4.o,by rw [R.o];exact a8.o,e7,rfl,by rw [R.o];exact h0,O,g5⟩
  .have i2:b=v:=O
   have j0:Hd (gC c cut g c.length=gC c cut g b):=by show _=_;rw [L.o,i2]
   have j4:Hd (∀h,h<c.length->Mu c h=0):=λh h1=>b4.o h (by rw [L.o] at h1;omega)
   clear i2;go_wp2;go_returns;exact Yg ⟨j4.o,_,rfl,by rw [j0.o];exact b6.o,t⟩
theorem OQ(f:Z)(a:List Fr)(cut b:Int)(c:V)(o:Frames c f a)(n:Qf cut b a.length=0):
  d prog 127 #[f,A G cut,A G b] c λm p=>If a cut b c m p:=by
 obtain⟨⟨g,h,i,j⟩,k,l⟩:=Ju n;exact Rf f a cut b c o g h i j _ rfl k l
end
section
open Go.RowKit
def S_(c b a:Int):Bool:=iI c&&(iI b&&(decide (0<=a)&&decide (a<=255)))
theorem Oq{c b a:Int}:S_ c b a=true↔iI c=true/\iI b=true/\0<=a/\a<=255:=by
 unfold S_;simp only [YV,decide_eq_true_eq]
theorem qU{g f:Int}{h:List Int}{b c a:Int}:Ff g f h b c a=true↔nM g f h/\1<=a/\a<=8/\ -65536<=b/\b<=65536/\ -65536<=c/\c<=65536:=by
 unfold Ff;simp only [YV,decide_eq_true_eq,dw]
theorem zG(h g f:Int)(b:Nat)(a:V)(t:S_ h g f=true)(L:h*g=b)(c6:b<=1024):
  d prog 177 #[A G h,A G g,A G f] a λk R=>∃P,k=e (Ye #[Yc #[A G h,A G g,P],Ya])/\aa R a P (bQ (λ_=>f) b)/\X a a R:=by
 obtain⟨u,v,a9,b0⟩:=Oq.1 t
 have p:=λa=>IN h a
 have m:=λa=>IN g a
 have n:=λa=>IM f a
 rw [u] at p;rw [v] at m;rw [show nG f=true from by unfold nG;simp [a9,b0]] at n;have a0:=E p;have T:=E m;have W:=E n
 have c7:Zc G (h*g)=b:=by rw [Yx _ O,L]
 have a3:=E (show bh f from by unfold bh;omega);have a6:=E (ai.new a #[A G 0,A G 0,U I 0 0] 81);clear p m n t u v L;go_enter func177,ntmps177
 go_wp2_with fail
 refine(a0.o _).mono ?_;rintro k i ⟨rfl,rfl⟩
 go_wp2_with fail
 refine(T.o _).mono ?_;rintro k i ⟨rfl,rfl⟩
 go_wp2_with fail
 refine(W.o _).mono ?_;rintro k i ⟨rfl,rfl⟩
 go_wp2_with (at_make;refine fS rfl _ _ rfl b rfl rfl rfl rfl O ?_)
 intro i j y J
 have z:X (a.alloc (M #[A G 0,A G 0,U I 0 0] 81)).heap.size (a.alloc (M #[A G 0,A G 0,U I 0 0] 81)) i:=by rw [YN];exact y
 have c1:X a a i:=ext N z;have a7:=E ((a6.o.ext z).alloc (M #[A G h,A G g,U (K ⟨a.heap.size+1,0,I⟩) b b] 81));have a1:=E (ai.new i #[A G h,A G g,U (K ⟨a.heap.size+1,0,I⟩) b b] 81);have a5:=E (show aa (i.alloc (M #[A G h,A G g,U (K ⟨a.heap.size+1,0,I⟩) b b] 81)) (a.heap.size+1) (U (K ⟨a.heap.size+1,0,I⟩) b b) (cZ (λ_=>f) (YA b 0) 0) from by rw [iH];have:=j.alloc (M #[A G h,A G g,U (K ⟨a.heap.size+1,0,I⟩) b b] 81);simpa using this)
 have c5:a.heap.size+1<i.heap.size:=by simpa using J
 clear j y J;go_wp2
 go_loopw [35] (λq wr=>∃c:Nat,c<=b/\q=A G c/\aa wr (a.heap.size+1) (U (K ⟨a.heap.size+1,0,I⟩) b b) (cZ (λ_=>f) (YA b 0) c)/\X a a wr/\ai wr a #[A G 0,A G 0,U I 0 0] 81/\ai wr i #[A G h,A G g,U (K ⟨a.heap.size+1,0,I⟩) b b] 81) (λq _=>b - (Yz q).toNat)
 case atStart=>exact⟨0,Yr _,rfl,a5.o,N,a7.o,a1.o⟩
 case round=>
  obtain⟨c,c4,rfl,j,b1,x,w⟩:=hrel;have s:=E x;have r:=E w;clear x w;obtain⟨b8,b9,c0, -, -, -⟩:=r.o.three;by_cases F:c<b
  .obtain⟨-, -, -,C,D⟩:=j.at
   have c2:=C c (by rw [df,List.length_replicate];exact F);have c3:=D c
   have l:=E (show aa (wr.setCell ⟨a.heap.size+1,c,I⟩ (A G f)) (a.heap.size+1) (U (K ⟨a.heap.size+1,0,I⟩) b b) (cZ (λ_=>f) (YA b 0) (c+1)) from by
    rw [<-iG (by rw [List.length_replicate];exact F)];exact j.xo c _ a3.o)
   have a8:=E (s.o.ab ⟨a.heap.size+1,c,I⟩ (A G f) (by show a.heap.size≠a.heap.size+1;omega));have a2:=E (r.o.ab ⟨a.heap.size+1,c,I⟩ (A G f) (by show i.heap.size≠a.heap.size+1;omega));generalize (cZ (λ_=>f) (YA b 0) c).getD c 0=c8 at*;clear C D j;go_wp2;go_roundw
   case rel=>exact⟨c+1,O,S,l.o,b1.setCell Y _,a8.o,a2.o⟩
   case measure=>simp [Yz];omega
  .have k:c=b:=O
   have l:=E (show aa wr (a.heap.size+1) (U (K ⟨a.heap.size+1,0,I⟩) b b) (bQ (λ_=>f) b) from by rw [k,kO Y] at j;exact j);obtain⟨b2,b3,b4,b5,b6,b7⟩:=s.o.three;clear k j;go_wp2;refine YD (by simp [YU,results177,go_sem,b2,b3,b4,b5,b6,b7];try rfl) rfl ?_;exact⟨_,rfl,(((l.o.ab Y _).ab Y _).ab Y _).mono O,N⟩
theorem Re(t:Z)(h g:Int)(i:List Int)(b c:Int)(a:Nat)(l:V)(n:aO l t h g i)(W:Ff h g i b c a=true):
  d prog 260 #[t,A G b,A G c,A G a] l λC v=>∃J,C=e J/\aa v l J (Fg h g i b c a)/\X l l v:=by
 obtain⟨u,e0,e1,e9,g0,g1,g2⟩:=qU.1 W
 have z:=λl n=>cR t h g i l n
 rw [dw.2 u] at z;have b1:=E (λb c l n=>Rb t h g i b c l n u);have b4:=E (λb c=>MO u b c);have b3:=E z;have L:=E n;obtain⟨c0,cap,rfl,c8⟩:=n.cells;have e5:1<=a:=O;have a5:a<=8:=O;have a6:a*a<=64:=Nat.mul_le_mul a5 a5;have b0:=E (ai.new l #[A G h,A G g,U c0 i.length cap] 81);clear z n c8 u W e0 e1;go_enter func260,ntmps260
 go_wp2_with fail
 refine(b3.o _ (L.o.ext N)).mono ?_;rintro C j ⟨rfl,D⟩;have T:X l l j:=ext N D;have x:=E (b0.o.ext D)
 have e6:l.heap.size+1<=j.heap.size:=by have:=D.size;simp at this;omega
 go_wp2
 go_loopw [9,40] (λo f wr=>∃p:Nat,p<=a/\f=A G p/\aa wr j o (bQ (qS h g i b c a) (p*a))/\X j j wr) (λ_ f _=>a - (Yz f).toNat)
 case atStart=>exact⟨0,Yr _,rfl,by rw [Nat.zero_mul];exact aa.nil _ _,Yn _ _⟩
 case round=>
  obtain⟨f,e4,rfl,s,m⟩:=hrel;obtain⟨w,rfl⟩:∃w:V,w=wr:=⟨_,rfl⟩;have q:=E s;have a1:=m;clear s;by_cases c7:f<a
  .have b6:=E (show aa w j _ (bQ (qS h g i b c a) (f*a+0)) from q.o)
   clear q;go_wp2
   go_loopw [9,44] (λo k wr=>∃p:Nat,p<=a/\k=A G p/\aa wr j o (bQ (qS h g i b c a) (f*a+p))/\X j j wr) (λ_ k _=>a - (Yz k).toNat)
   case atStart=>exact⟨0,Yr _,rfl,b6.o,a1⟩
   case round=>
    obtain⟨k,e3,rfl,s,m⟩:=hrel;have r:=E s;clear s;by_cases a3:k<a
    .have c1:_=K _:=(x.o.ext m).cell 0
     have c2:_=K _:=(x.o.ext m).cell 1;have c3:_=K _:=(x.o.ext m).cell 2;have a2:=Nz (W:=h) (H:=g) (pix:=i) (x:=b) (y:=c) (j:=f) a3;have F:=gG (qS h g i b c a) (f*a+k);rw [a2] at F;have b5:=E F;have b2:=E (b1.o (b+k) (c+f));have c5:=b4.o (b+k) (c+f);have c6:f*a+k<=64:=Yl (Nat.add_le_add_left (Nat.le_of_lt a3) _) (by rw [<-Nat.succ_mul];exact Yl (Nat.mul_le_mul_right _ c7) a6);have b7:=E (show(bQ (qS h g i b c a) (f*a+k)).length<=1099511627776 from by rw [bO];omega);clear a2 F c6 a6;generalize tU h g i (b+k) (c+f)=a9 at*;have b9:=E (show bh a9 from by unfold bh;omega);clear c5;have e7:=m.size
     go_wp2_with fail
     clear c1 c2 c3;refine(b2.o _ ((L.o.ext T).ext (ext m N))).mono ?_;rintro C e2 ⟨rfl,a0⟩;have a8:X j j e2:=ext m a0;have e8:=a8.size
     go_wp2_with (at_builtin;refine cJ rfl (.tmp 47) (.tmp 56) rfl j.heap.size _ _ a9 rfl (r.o.ext a0) rfl Y b9.o b7.o O ?_)
     intro J v a7 c4 _;have b8:=E a7;clear a7 r;have c9:X j j v:=a8.trans c4;go_wp2;go_roundw
     case rel=>exact⟨k+1,O,S,by rw [<-YW,b5.o];exact b8.o,c9⟩
     case measure=>simp [Yz];omega
    .have P:k=a:=O
     have y:=E (show aa wr j _ (bQ (qS h g i b c a) ((f+1)*a)) from by rw [Nat.succ_mul];rw [P] at r;exact r.o);clear r P;go_wp2;go_roundw
     case rel=>exact⟨f+1,O,S,y.o,m⟩
     case measure=>simp [Yz];omega
  .have R:f=a:=O
   have y:=E (show aa w j _ (Fg h g i b c a) from by rw [R] at q;exact q.o);clear q R;go_wp2;go_returns;exact⟨_,rfl,y.o.mono O,ext T a1⟩
end
section
def jo(a:List Int):Int:=(32+cu a.length λb=>a.getD b 0) / 64
def My(a:List Int):Int:=cu a.length λb=>eB (a.getD b 0) (jo a)
theorem IZ{b:List Int}(f:ax b 0 255=true)(a:Nat):0<=cu a (λc=>b.getD c 0)/\cu a (λc=>b.getD c 0)<=a*255:=by
 induction a with
 |zero=>exact⟨Int.le_refl 0,Int.le_refl 0⟩
 |succ a g=>
  have:=aQ f O O a;rw [gL];omega
theorem yC{a:List Int}(b:ax a 0 255=true)(c:a.length<=64):0<=jo a/\jo a<=255:=by
 have:=IZ b a.length;unfold jo;constructor
 .exact Int.ediv_nonneg O O
 .omega
theorem Iz{a:List Int}(f:ax a 0 255=true)(i:a.length<=64)(b:Nat):0<=cu b (λc=>eB (a.getD c 0) (jo a))/\cu b (λc=>eB (a.getD c 0) (jo a))<=b*255:=by
 induction b with
 |zero=>exact⟨Int.le_refl 0,Int.le_refl 0⟩
 |succ b k=>
  have g:=aQ f O O b;have h:=yC f i;have j:=yQ (x:=a.getD b 0) (y:=jo a) g h;rw [gL];omega
theorem zn{a:List Int}(b:ax a 0 255=true)(c:a.length<=64):0<=My a/\My a<=16320:=by
 have:=Iz b c a.length;unfold My;omega
def nP(a c:Int)(f:List Int)(b:Nat):List Int:=Fg a c f (((b%(a.toNat / 8)*8:Nat)):Int) (((b / (a.toNat / 8)*8:Nat)):Int) 8
def DN(b a:Int):Nat:=(b.toNat / 8)*(a.toNat / 8)
def tT(b a:Int)(f:List Int)(c:Nat):List (List Int):=(Za c).map (nP b a f)
theorem mZ(c b:Int)(f:List Int)(a:Nat):(tT c b f a).length=a:=by simp [tT]
theorem Pv(b a:Int)(f:List Int)(c:Nat):tT b a f (c+1)=tT b a f c++[nP b a f c]:=by simp [tT,List.range_succ]
theorem Hf(c b:Int)(g:List Int){a f:Nat}(h:a<f):(tT c b g f).getD a []=nP c b g a:=by simp [tT,h]
theorem dB(b a:Int)(f:List Int)(c:Nat):(nP b a f c).length=64:=BL ..
theorem fz{b a:Int}{c:List Int}(f:nM b a c)(g:Nat):ax (nP b a c g) 0 255=true:=Bg f ..
def xb(b a:Int)(g:List Int)(f:Nat):Int:=cu f λc=>My (nP b a g c)
def ru(b a:Int)(f g:List Int)(h:Nat):Int:=cu h λc=>min (nk (nP b a f c) (nP b a g c)) (My (nP b a f c))
def Kw(a:Fr):Int:=if gH a.W a.H a.pix then 0 else 2
def vz(a:Fr):Int:=if gH a.W a.H a.pix then xb a.W a.H a.pix (DN a.W a.H) else 0
def oz(a b:Fr):Int:=if gZ a b=0 then ru a.W a.H a.pix b.pix (DN a.W a.H) else 0
theorem rZ(b a:Int)(f:List Int)(c:Nat):xb b a f (c+1)=xb b a f c+My (nP b a f c):=rfl
theorem vY(b a:Int)(f g:List Int)(c:Nat):ru b a f g (c+1)=ru b a f g c+min (nk (nP b a f c) (nP b a g c)) (My (nP b a f c)):=rfl
theorem lC{c b:Int}{f:List Int}(g:nM c b f):∀a,0<=xb c b f a/\xb c b f a<=a*16320
 |0=>⟨Int.le_refl 0,Int.le_refl 0⟩
 |a+1=>by
  have h:=lC g a;have:=zn (fz g a) (by rw [dB];omega);rw [rZ];omega
theorem IU{b a:Int}{f g:List Int}(h:nM b a f)(i:nM b a g)(c:Nat):0<=nk (nP b a f c) (nP b a g c)/\nk (nP b a f c) (nP b a g c)<=16320:=by
 have:=zg (fz h c) (fz i c) (nP b a f c).length;unfold nk;rw [dB] at*;omega
theorem ng{f c:Int}{g b:List Int}(h:nM f c g)(i:nM f c b):∀a,0<=ru f c g b a/\ru f c g b a<=xb f c g a
 |0=>⟨Int.le_refl 0,Int.le_refl 0⟩
 |a+1=>by
  have l:=ng h i a;have j:=zn (fz h a) (by rw [dB];omega);have k:=(IU h i a).1;rw [rZ,vY];omega
theorem nM.wD{a b:Int}{h:List Int}(c:nM a b h):∃C R:Nat,a=8*C/\b=8*R/\1<=C/\C<=4/\1<=R/\R<=4/\a.toNat / 8=C/\DN a b=C*R/\C*R<=16:=by
 have j:=c.w;have i:=c.h;refine⟨a.toNat / 8,b.toNat / 8,O,O,O,O,O,O,rfl,rfl,?_⟩;have f:a.toNat / 8<=4:=O;have g:b.toNat / 8<=4:=O
 calc a.toNat / 8*(b.toNat / 8)<=4*4:=Nat.mul_le_mul f g
  _=16:=rfl
theorem tZ(a:Fr):0<=vz a/\vz a<=261120:=by
 unfold vz;split
 .rename_i b
  have b:=dw.1 b;obtain⟨C,R, -, -, -, -, -, -, -,c,f⟩:=b.wD;have:=lC b (DN a.W a.H);rw [c] at*;have:((C*R:Nat):Int)<=16:=O;omega
 .omega
theorem II(a c:Fr):0<=oz a c/\oz a c<=vz a:=by
 unfold oz;split
 .rename_i g
  obtain⟨f,h,i,j⟩:=mP g;have k:=dw.2 f;have:=ng (b:=c.pix) f (by rw [i,j];exact h) (DN a.W a.H);unfold vz;rw [if_pos k];exact this
 .exact⟨Int.le_refl 0,(tZ a).1⟩
end
section
open Go.RowKit
def dI(g:V)(f:Nat)(h:Z)(a:List (List Int)):Prop:=
 ∃c:List Z,g.ownsRow f 26 1 h a.length c/\c.length=a.length/\∀b,b<a.length->aa g f (c.getD b Ya) (a.getD b [])
theorem dI.nil(b:V)(a:Nat):dI b a (U I 0 0) []:=⟨[],YC b a _ 1,rfl,λf c=>by simp at c⟩
theorem dI.ext{a h:V}{b:Nat}{g:Z}{f:List (List Int)}(i:dI a b g f)(c:X a a h):dI h b g f:=by
 obtain⟨o,j,k,l⟩:=i;exact⟨o,aG j c,k,λn m=>(l n m).ext c⟩
theorem dI.mono{g:V}{a B':Nat}{f:Z}{c:List (List Int)}(h:dI g a f c)(b:B'<=a):dI g B' f c:=by
 obtain⟨n,i,j,k⟩:=h;exact⟨n,aA i b,j,λm l=>(k m l).mono b⟩
theorem dI.dm{k:V}{f:Nat}{c:Z}{b:List (List Int)}(h:dI k f c b){n:Nat}(a:b.length=n):∃g cap,c=U g n cap:=by
 obtain⟨p,j,m,o⟩:=h
 rcases aV j with⟨rfl,i⟩|⟨l,cap,rfl,_⟩
 .exact⟨I,0,by rw [<-a,i]⟩
 .exact⟨_,cap,by rw [a]⟩
theorem dI.at{w:V}{B:Nat}{ao:Option Yi}{n cap:Nat}{b:List (List Int)}(i:dI w B (U ao n cap) b){j:Nat}(l:j<b.length):
  ∃a g,ao=K ⟨a,0,I⟩/\a<w.heap.size/\w.cell? ⟨a,j,I⟩=K g/\aa w B g (b.getD j []):=by
 obtain⟨h,c,r,k⟩:=i
 rcases aV c with⟨f,q⟩|⟨a,p,f,_,m,_,_,_,_⟩
 .omega
 .cases f
  have o:h[j]? =K (h.getD j Ya):=by
   rw [Yp,YM O];rfl
  exact⟨a,_,rfl,m,au c o,k j l⟩
theorem LO{i:V}{j k c f t u r s:Nat}{h b:Z}{l m:List Z}(n:i.ownsRow j c t h r l)(o:i.ownsRow k f u b s m)(p:c≠f):b.ownBlock=I∨b.ownBlock≠h.ownBlock:=by
 rcases o.2 with⟨rfl,_⟩|⟨z,v,x,rfl,_,a,_⟩
 .exact Yg rfl
 .right
  rcases n.2 with⟨rfl,_⟩|⟨y,cap,w,rfl,_,q,_⟩
  .simp [YT]
  .intro g
   simp only [YT,YQ] at g;rw [g,q] at a;simp only [YQ,Obj.cells.injEq] at a;exact p a.2.1
theorem SU:(prog.info? 26).map (λa=>(a.zero,a.size,a.bytes))=K (K (U I 0 0),1,24):=B
section
variable {ops:Array Oper} {rest:List Oper} {o:Oper} {a:Act} {Q:Exit->Act->V->Prop}
theorem xw{f:V}(P:o.guard=I)(p s:Operand)(W:o.op= .call {callee:= .builtin .append,args:=#[p,s],argTypes:=#[317,317]})
  (c:Nat)(r h:Z)(b:List (List Int))(g:List Int)(a2:a.eval p=r)(a0:dI f c r b)(w:aa f c h g){t:Nat}(a3:a.eval s=U (K t) 1 1)(F:t=f.heap.size)
  (T:b.length<=1000000)(D:c<=f.heap.size)
  (z:∀j i,dI i c j (b++[g])->X c f i->wpList prog ops Q rest (a.put o.dst j) i):wpList prog ops Q (o::rest) a (f.alloc (M #[h] 26)):=by
 obtain⟨n,u,v,C⟩:=a0;refine aX 317 26 1 24 _ underlying317 SU rfl H P p s W c r b.length n [h] a2 u a3 F rfl ?_ T H D ?_
 .intro a6 y
  simp at y;subst y;obtain⟨a5,cap,rfl⟩:=w.shape;rfl
 .intro j i a1 J L _
  refine z j i ⟨n++[h],by simpa using a1,by simp [v],λl R=>?_⟩ J
  have aD:∀{q:Z} {m:List Int},aa f c q m->aa i c q m:=λ{q m} x=>x.Oc L (LO u x.1 H)
  rcases Nat.lt_or_ge l b.length with k|k
  .rw [Yp,List.getElem?_append_left O,<-Yp,Yp (l:=b++[g]),List.getElem?_append_left k,<-Yp]
   exact aD (C l k)
  .have:l=b.length:=by simp at R;omega
   subst this;rw [(Y:(b++[g]).getD b.length []=g),show(n++[h]).getD b.length Ya=h from by rw [<-v];simp];exact aD w
end
theorem xt{P:Program}{v:Array Oper}{o:Oper}{f:Act}{b:V}{q:Act->V->Prop}{z:Exit->Act->V->Prop}{y:Prop}(L:o.guard=I)(r w:Operand)(g:TypeId)
  (W:o.op= .call {callee:= .builtin .copy,args:=#[r,w],argTypes:=#[g,g]})(elem:TypeId)(a5:P.underlying g=K (.slice elem))(a3:(P.info? elem).map (·.size)=K 1)
  (a off n s:Nat)(m:Yi)(p x:Nat)(F:f.eval r=U (K ⟨a,off,I⟩) n s)(a1:f.eval w=U (K m) p x)
  (i:List Z)(j:TypeId)(t:b.heap[a]? =K (M i.toArray j (0,0)))(c:List Z)(T:c.length=Nat.min p n)
  (a2:∀u k,c[u]? =K k->b.cell? (m.add u)=K k)(J:off+c.length<=i.length)(D:∀k∈c,k.oneCell'=true)
  (C:∀l,Hd (l.heap[a]? =K (M (splice i off c).toArray j (0,0))/\(∀h,h≠a->l.heap[h]? =b.heap[h]?)/\X a b l)->q (f.put o.dst (goInt c.length)) l):
  if Region.wanted o (yielded v f.tmps)=true then Oper.wp P o f b q z else y:=by
 have a6:Region.wanted o (yielded v f.tmps)=true:=by simp [Region.wanted,L]
 rw [if_pos a6];have a0:=run_copy_row (P:=P) b g g o.type elem a off n s m p x i.toArray j c a5 a3 t T a2 (by simpa using J) D;unfold Oper.wp;simp [execOp,W,resolve,invoke,builtin,F,a1,a0,Result.andThen];exact C _ ⟨by simpa [splice] using setRow_heap b a _ _ j _ t,λh R=>setRow_other b a h _ R,below_setRow (Yn _ _) (Yk _) _⟩
theorem Hc{b:Type}(a:List b)(off:Nat):splice a off []=a:=by simp [splice]
theorem DL{c:Type}(a:List c)(off:Nat)(b:List c)(f:c)(g:off+b.length<a.length):splice a off (b++[f])=(splice a off b).set (off+b.length) f:=by
 unfold splice;rw [List.set_append_right _ _ (by rw [List.length_take];omega),List.length_take,Nat.min_eq_left O,Nat.add_sub_cancel_left,List.set_append_right _ _ (Yk _),Nat.sub_self,Yq,Zb,<-YW];generalize h:off+b.length=q at*;rw [show a.drop q=a[q]::a.drop (q+1) from List.drop_eq_getElem_cons g,YJ,List.append_assoc b];rfl
theorem DM{f:Type}(a:List f)(off:Nat)(c:List f){b:Nat}(j:b<=a.length)(i:off+c.length<=b):(splice a off c).take b=splice (a.take b) off c:=by
 unfold splice
 have g:(a.take off).length=off:=by rw [List.length_take];omega
 have h:(a.take off).take b=(a.take b).take off:=by rw [List.take_take,List.take_take,Nat.min_comm]
 rw [List.take_append,List.take_append,g,h,List.take_of_length_le (l:=c) O,List.drop_take,Nat.sub_sub]
theorem G'{b g:Type}(a:b->g)(c:List b)(off:Nat)(f:List b):(splice c off f).map a=splice (c.map a) off (f.map a):=by
 simp [splice,List.map_take,List.map_drop]
theorem FI{c:Type}{f:List c}{off:Nat}{g:List c}{b:c}(a:b∈splice f off g):b∈f∨b∈g:=by
 unfold splice at a;simp only [List.mem_append] at a
 rcases a with a|a|a
 .exact Yg (List.mem_of_mem_take a)
 .exact Yh a
 .exact Yg (List.mem_of_mem_drop a)
theorem aa.row{o:V}{l f j cap:Nat}{c:List Int}(h:aa o l (U (K f) j cap) c):
  ∃b:List Z,o.heap[f]? =K (M b.toArray 3 (0,0))/\c.length<=b.length/\
   ∀(off:Nat) (a:List Int) (k:V),off+a.length<=c.length->(∀D∈a,Proofs.YtajkpgaheechmaaGreatDoor.bh D)->k.heap[f]? =K (M (splice b off (a.map (A G))).toArray 3 (0,0))->
    aa k l (U (K f) j cap) (splice c off a):=by
 have v:j=c.length:=h.at.1;subst v;obtain⟨⟨L,h|⟨J,F,b,m,q,s,w,u,x,y⟩⟩,t⟩:=h
 .cases h.1
 .simp only [Yy,YQ,Addr.mk.injEq] at m
  obtain⟨⟨rfl, -, -⟩, -,rfl⟩:=m;simp only [Nat.mul_one] at*
  have r:b.toList.length=cap:=by simpa using x
  refine⟨b.toList,by simpa using s,O,λoff a k n C z=>?_⟩;have i:(splice c off a).length=c.length:=length_splice c off a n;refine⟨⟨?_,Yh ⟨f,cap,_,?_,q,z,?_,u,?_,?_⟩⟩,?_⟩
  .rw [List.length_map,i,Nat.mul_one]
  .rw [i]
  .rw [i];exact w
  .have:=length_splice b.toList off (a.map (A G)) (by rw [List.length_map];omega)
   simp only [List.size_toArray,this,Nat.mul_one];exact r
  .rw [i,Nat.mul_one]
   rw [(Y:(splice b.toList off (a.map (A G))).toArray.toList=splice b.toList off (a.map (A G)))];rw [DM _ _ _ O (by rw [List.length_map];exact n),y,G']
  .intro p g
   rcases FI g with g|g
   .exact t p g
   .exact C p g
theorem QK{g h y a c:Nat}{b j:List Int}(v:h+a<=g)(s:0<a)(r:c<a)(z:a*a<=b.length)(t:∀q,q<a*a->spot g h y a q<j.length):
  splice (kJ g h y a (c*a) b j) ((y+c)*g+h) ((b.drop (c*a)).take a)=kJ g h y a ((c+1)*a) b j:=by
 have x:∀f,f<=a->splice (kJ g h y a (c*a) b j) ((y+c)*g+h) ((b.drop (c*a)).take f)=kJ g h y a (c*a+f) b j:=by
  intro f D
  have C:c*a+a<=a*a:=by rw [<-Nat.succ_mul];exact Nat.mul_le_mul_right _ r
  induction f with
  |zero=>rw [List.take_zero,Hc];rfl
  |succ f w=>
   have l:c*a+f<a*a:=O;have o:=nb (n:=a) (j:=c) (i:=f) O
   have p:spot g h y a (c*a+f)=(y+c)*g+h+f:=by unfold spot;rw [o.1,o.2];omega
   have n:=t _ l
   have m:((b.drop (c*a)).take f).length=f:=by rw [List.length_take,List.length_drop];omega
   have k:c*a+f<b.length:=O
   have u:(b.drop (c*a)).take (f+1)=(b.drop (c*a)).take f++[b.getD (c*a+f) 0]:=by
    rw [List.take_add_one,List.getElem?_drop,YM k,Yp,YM k];rfl
   rw [u,DL _ _ _ _ (by rw [m,gN,<-p];exact n),w O,m,<-p];exact(Fu v s l n).symm
 rw [x a (Yk _),Nat.succ_mul]
theorem SS:(prog.info? 3).map (·.size)=K 1:=B
theorem aa.cap{i:V}{c g b cap:Nat}{j:List Int}(a:aa i c (U (K g) b cap) j):b<=cap:=by
 obtain⟨p,h|⟨m,k,l,f,n,o,r,q,s,t⟩⟩:=a.1
 .cases h.1
 .have:=a.at.1
  simp only [Yy] at f;omega
theorem aY.cap{h:V}{c:Option Yi}{b cap:Nat}{i:List Int}(f:aY h (U c b cap) i):b<=cap:=by
 obtain⟨j,k,a,g,_⟩:=f;simp only [Yy] at a;obtain⟨-,rfl,rfl⟩:=a;exact g
theorem aY.TI{f:V}{b off k cap:Nat}{a:List Int}(h:aY f (U (K ⟨b,off,I⟩) k cap) a){j:Nat}(i:j<a.length):f.cell? ⟨b,off+j,I⟩=K (A G (a.getD j 0)):=by
 obtain⟨l,m,c,g,_⟩:=h.gQ i;simp only [YQ,Addr.mk.injEq,and_true] at c;obtain⟨rfl,rfl⟩:=c;exact g
theorem wrap_mul{b c:Int}{a:Nat}(f:b*c=a)(g:a<=9223372036854775807):Zc G (b*c)=a:=by rw [f];exact Yx _ O
theorem Rc(v:Z)(s r:Int)(u:List Int)(m n l:Int)(a:V)(p:aO a v s r u)(t:Ff s r u m n l=false):
  d prog 260 #[v,A G m,A G n,A G l] a λh x=>h=e (U I 0 0)/\X a a x:=by
 have k:=λa p=>cR v s r u a p
 have i:=E p;obtain⟨y,cap,rfl,w⟩:=p.cells;clear p w
 cases hm:gH s r u with
 |false=>
  rw [hm] at k;have g:=E k;clear k t hm;go_enter func260,ntmps260
  go_wp2_with fail
  refine(g.o _ (i.o.ext N)).mono ?_;rintro h f ⟨rfl,c⟩;have b:X a a f:=ext N c;go_wp2;go_returns;exact⟨rfl,b⟩
 |true=>
  rw [hm] at k;have g:=E k
  have j:¬(1<=l/\l<=8/\ -65536<=m/\m<=65536/\ -65536<=n/\n<=65536):=λq=>by rw [qU.2 ⟨dw.1 hm,q⟩] at t;cases t
  clear k t hm;by_cases z:l<1
  .clear j
   go_enter func260,ntmps260
   go_wp2_with fail
   refine(g.o _ (i.o.ext N)).mono ?_;rintro h f ⟨rfl,c⟩;have b:X a a f:=ext N c;go_wp2;go_returns;exact⟨rfl,b⟩
  .skip
   by_cases C:8<l
   .clear j
    go_enter func260,ntmps260
    go_wp2_with fail
    refine(g.o _ (i.o.ext N)).mono ?_;rintro h f ⟨rfl,c⟩;have b:X a a f:=ext N c;go_wp2;go_returns;exact⟨rfl,b⟩
   .skip
    by_cases D:m< -65536
    .clear j
     go_enter func260,ntmps260
     go_wp2_with fail
     refine(g.o _ (i.o.ext N)).mono ?_;rintro h f ⟨rfl,c⟩;have b:X a a f:=ext N c;go_wp2;go_returns;exact⟨rfl,b⟩
    .skip
     by_cases F:65536<m
     .clear j
      go_enter func260,ntmps260
      go_wp2_with fail
      refine(g.o _ (i.o.ext N)).mono ?_;rintro h f ⟨rfl,c⟩;have b:X a a f:=ext N c;go_wp2;go_returns;exact⟨rfl,b⟩
     .skip
      by_cases J:n< -65536
      .clear j
       go_enter func260,ntmps260
       go_wp2_with fail
       refine(g.o _ (i.o.ext N)).mono ?_;rintro h f ⟨rfl,c⟩;have b:X a a f:=ext N c;go_wp2;go_returns;exact⟨rfl,b⟩
      .skip
       by_cases L:65536<n
       .clear j
        go_enter func260,ntmps260
        go_wp2_with fail
        refine(g.o _ (i.o.ext N)).mono ?_;rintro h f ⟨rfl,c⟩;have b:X a a f:=ext N c;go_wp2;go_returns;exact⟨rfl,b⟩
       .skip
        exact absurd O j
def Ny(b a:Int)(f:List Int)(g h c:Int):List Int:=if Ff b a f g h c then Fg b a f g h c.toNat else []
theorem Cv(k:Z)(f c:Int)(g:List Int)(i j b:Int)(a:V)(n:aO a k f c g):
  d prog 260 #[k,A G i,A G j,A G b] a λm p=>∃o,m=e o/\aa p a o (Ny f c g i j b)/\X a a p:=by
 unfold Ny
 cases h:Ff f c g i j b with
 |false=>
  refine(Rc k f c g i j b a n h).mono ?_;rintro m r ⟨rfl,q⟩;exact⟨_,rfl,aa.nil _ _,q⟩
 |true=>
  obtain⟨l,rfl⟩:∃l:Nat,b=l:=⟨b.toNat,by have:=(qU.1 h).2.1;omega⟩;exact Re k f c g i j l a n h
end
section
open Go.RowKit Go.Extern.Stop Go.Stop Go.Extern
theorem MJ{x y:Int}:(if y - x>x - y then y - x else x - y)=eB x y:=by unfold eB;split<;>omega
theorem tq(v:Z)(c:List Int)(k:V)(u:aY k v c)(m:ax c 0 255=true)(p:c.length=64):
  d prog 229 #[v] k λh b5=>h=e (A G (My c))/\X k k b5:=by
 have C:=E u;have z:=E p
 obtain⟨r,cap,rfl⟩:∃r cap,v=U r 64 cap:=by obtain⟨r,cap,h,_⟩:=u;exact⟨r,cap,by rw [h,p]⟩
 have D:=E (λa=>aQ m (O:(0:Int)<=0) (O:(0:Int)<=255) a);have a2:=E (λa=>IZ m a);have a3:=E (λa=>Iz m O a);have a1:=E (yC m O)
 have w:Hd (My c=cu 64 λb=>eB (c.getD b 0) (jo c)):=by show _=_;unfold My;rw [p]
 have x:Hd (jo c=(32+cu 64 λb=>c.getD b 0) / 64):=by show _=_;unfold jo;rw [p]
 clear u m p;go_enter func229,ntmps229;go_wp2
 go_loopw [3,11] (λb0 b wr=>∃a:Nat,a<=64/\b=A G a/\b0=A G (32+cu a λb=>c.getD b 0)/\X k k wr) (λ_ b _=>64 - (Yz b).toNat)
 case atStart=>exact⟨0,Yr _,rfl,rfl,Yn _ _⟩
 case round=>
  obtain⟨a,a8,rfl,rfl,i⟩:=hrel;obtain⟨b6,b7⟩:=a2.o a;by_cases t:a<64
  .obtain⟨a5,b3,rfl,a6,a9⟩:=(C.o.ext i).gQ (j:=a) (by rw [z.o];exact t)
   obtain⟨T,W⟩:=D.o a
   have n:=gL a λb=>c.getD b 0
   generalize (cu a λb=>c.getD b 0)=s at*;generalize c.getD a 0=g at*;have l:=E n;clear n;have b8:Zc G (32+s+g)=32+s+g:=Yx _ O;go_wp2;go_roundw
   case rel=>exact⟨a+1,O,S,int_eq (by rw [l.o];omega),i⟩
   case measure=>simp [Yz];omega
  .obtain rfl:a=64:=O
   have J:jo c=(32+cu 64 λb=>c.getD b 0) / 64:=x.o;obtain⟨b1,b2⟩:=a1.o;generalize (cu 64 λb=>c.getD b 0)=s at*
   have b4:Int.tdiv (32+s) 64=jo c:=by rw [J,Int.tdiv_eq_ediv_of_nonneg O]
   clear J x;generalize jo c=f at*;have b9:Zc G f=f:=Yx _ O;obtain⟨R,rfl⟩:∃R:V,R=wr:=⟨_,rfl⟩;have a7:=i;clear i;go_wp2
   go_loopw [6,23] (λq b wr=>∃a:Nat,a<=64/\b=A G a/\q=A G (cu a λb=>eB (c.getD b 0) f)/\X k k wr) (λ_ b _=>64 - (Yz b).toNat)
   case atStart=>exact⟨0,Yr _,rfl,rfl,a7⟩
   case round=>
    obtain⟨a,a8,rfl,rfl,i⟩:=hrel;obtain⟨c3,c4⟩:=a3.o a;by_cases t:a<64
    .obtain⟨a5,b3,rfl,a6,a9⟩:=(C.o.ext i).gQ (j:=a) (by rw [z.o];exact t)
     obtain⟨T,W⟩:=D.o a
     have n:=gL a λb=>eB (c.getD b 0) f
     generalize (cu a λb=>eB (c.getD b 0) f)=q at*;generalize c.getD a 0=g at*;have l:=E n;have F:=yQ (x:=g) (y:=f) ⟨T,W⟩ ⟨b1,b2⟩;have L:=MJ (x:=g) (y:=f);clear n b4;have c0:Zc G (g - f)=g - f:=Yx _ O;have c1:Zc G (f - g)=f - g:=Yx _ O;have P:Zc G (q+eB g f)=q+eB g f:=Yx _ O;by_cases c2:g - f<f - g
     .have h:eB g f=f - g:=by unfold eB;omega
      rw [h] at P l;clear L F h;go_wp2;go_roundw
      case rel=>exact⟨a+1,O,S,int_eq l.o.symm,i⟩
      case measure=>simp [Yz];omega
     .have h:eB g f=g - f:=by unfold eB;omega
      rw [h] at P l;clear L F h;go_wp2;go_roundw
      case rel=>exact⟨a+1,O,S,int_eq l.o.symm,i⟩
      case measure=>simp [Yz];omega
    .obtain rfl:a=64:=O
     have a0:=E w.o.symm;generalize (cu 64 λb=>eB (c.getD b 0) f)=q at*;clear w;go_wp2;go_returns;exact⟨by rw [<-a0.o];rfl,i⟩
theorem Th{c f:Int}{pix:List Int}(j:nM c f pix){C a b:Nat}(h:c.toNat / 8=C)(g:a<C)(k:a<=4)(l:b<=4):Ny c f pix ((a:Int)*8) ((b:Int)*8) 8=nP c f pix (b*C+a):=by
 have i:Ff c f pix ((a:Int)*8) ((b:Int)*8) 8=true:=qU.2 ⟨j,O,O,O,O,O,O⟩;unfold Ny nP;rw [if_pos i,h,(nb g).1,(nb g).2,show((a*8:Nat):Int)=(a:Int)*8 from O,show((b*8:Nat):Int)=(b:Int)*8 from O];rfl
theorem ni(b7:Z)(g f:Int)(h:List Int)(b:V)(P:aO b b7 g f h)(L:nM g f h):
  d prog 228 #[b7] b λt z=>∃W,t=e W/\dI z b W (tT g f h (DN g f))/\X b b z:=by
 obtain⟨C,R,b1,a9,e6,e7,g3,g4,a8,b0,g0⟩:=L.wD;have c6:=E P;obtain⟨s,cap,rfl, -⟩:=P.cells;have e0:=E (λa7 c a b (c9:aO b a7 g f h)=>Cv a7 g f h ((c:Int)*8) ((a:Int)*8) 8 b c9);have c4:=E (λc a (b2:c<C) (b3:a<=4)=>Th (pix:=h) L a8 b2 O b3);have c1:=E (mZ g f h);have c5:=E (Pv g f h);have c2:=E b0;have r:=E (YI b1 a9);have a3:=E (ai.new b #[A G g,A G f,U s h.length cap] 81);clear P L a8 b0 b1 a9;go_enter func228,ntmps228;go_wp2
 go_loopw [3,4] (λT a2 wr=>∃a:Nat,a<=R/\a2=A G ((a:Int)*8)/\dI wr (b.heap.size+1) T (tT g f h (a*C))/\X b b wr/\b.heap.size+1<=wr.heap.size/\ai wr b #[A G g,A G f,U s h.length cap] 81) (λ_ a2 _=>40 - (Yz a2).toNat)
 case atStart=>exact⟨0,Yr _,Y,by rw [Nat.zero_mul];exact dI.nil _ _,N,Y,a3.o⟩
 case round=>
  clear a3;obtain⟨a,b3,rfl,n,k,p,m⟩:=hrel;have j:=E n;have i:=E m;clear n m;obtain⟨a0,rfl⟩:∃a0:V,a0=wr:=⟨_,rfl⟩;have b5:=i.o.lt;obtain⟨D,F,J, -, -, -⟩:=i.o.three;by_cases g2:a<R
  .have q:decide ((a:Int)*8<f)=true:=by have:=r.o;simp;omega
   go_wp2;clear D F J
   go_loopw [3,5] (λT a1 wr=>∃c:Nat,c<=C/\a1=A G ((c:Int)*8)/\dI wr (b.heap.size+1) T (tT g f h (a*C+c))/\X b b wr/\b.heap.size+1<=wr.heap.size/\ai wr b #[A G g,A G f,U s h.length cap] 81) (λ_ a1 _=>40 - (Yz a1).toNat)
   case atStart=>exact⟨0,Yr _,Y,j.o,k,p,i.o⟩
   case round=>
    clear j i k p b5;obtain⟨c,b2,rfl,n,k,p,m⟩:=hrel;have j:=E n;have i:=E m;clear n m;have b5:=i.o.lt;obtain⟨D,F,J, -, -, -⟩:=i.o.three;by_cases e2:c<C
    .have e4:decide ((c:Int)*8<g)=true:=by have:=r.o;simp;omega
     have g1:a*C+c<16:=by
      have:(a+1)*C<=R*C:=Nat.mul_le_mul O (Yk C)
      have e8:(a+1)*C=a*C+C:=by rw [Nat.add_mul,Nat.one_mul]
      have e9:R*C=C*R:=Nat.mul_comm R C;omega
     have e5:Zc G (((c:Int)*8)+8)=(c:Int)*8+8:=Yx _ O;have b9:=E (e0.o (Yc #[A G g,A G f,U s h.length cap]) c a)
     go_wp2_with fail
     clear D F J;refine(b9.o _ (c6.o.ext (ext k N))).mono ?_;rintro t b8 ⟨e3,rfl,v,e1⟩;have w:X wr wr b8:=ext N e1;have c7:X b b b8:=ext k w;have g5:=w.size;rw [c4.o c a e2 O] at v
     obtain⟨x,b6,y,rfl⟩:∃x b6 y,e3=U x b6 y:=by obtain⟨x,y,t⟩:=v.shape;exact⟨x,_,y,t⟩
     have c3:=E (v.mono (B':=b.heap.size+1) p);have a6:=E (j.o.ext w);have a5:=E (i.o.ext w);clear v j i
     go_wp2_with (at_builtin;refine xw rfl (.tmp 18) (.tmp 23) rfl (b.heap.size+1) _ _ _ _ rfl a6.o c3.o rfl Y (by rw [c1.o];omega) O ?_)
     intro W z b4 u;have c0:=E (a5.o.below u O);have c8:X b b z:=c7.trans (u.mono O);have g6:=u.size;have l:=E b4;clear b4 u a6 a5;go_wp2;go_roundw
     case rel=>exact⟨c+1,O,int_eq O,by rw [show a*C+(c+1)=(a*C+c)+1 from rfl,c5.o];exact l.o,c8,O,c0.o⟩
     case measure=>simp [Yz];omega
    .obtain rfl:c=C:=O
     have e4:decide ((c:Int)*8<g)=false:=by have:=r.o;simp;omega
     have e5:Zc G (((a:Int)*8)+8)=(a:Int)*8+8:=Yx _ O;have l:=E (show dI wr (b.heap.size+1) _ (tT g f h ((a+1)*c)) from by rw [show(a+1)*c=a*c+c from by rw [Nat.add_mul,Nat.one_mul]];exact j.o);clear j;go_wp2;go_roundw
     case rel=>exact⟨a+1,O,int_eq O,l.o,k,p,i.o⟩
     case measure=>simp [Yz];omega
  .obtain rfl:a=R:=O
   have q:decide ((a:Int)*8<f)=false:=by have:=r.o;simp;omega
   have l:=E (show dI a0 (b.heap.size+1) _ (tT g f h (DN g f)) from by rw [c2.o,Nat.mul_comm];exact j.o);clear j;go_wp2;go_returns;exact⟨_,rfl,l.o.mono O,k⟩
end
section
open Go.RowKit
theorem DX(b:Int)(g:V):d prog 279 #[A G b] g λa h=>a=e (.bool (mz (-1048576) 1048576 b))/\g=h:=by
 by_cases c:b< -1048576
 .have a:mz (-1048576) 1048576 b=true:=by simp [mz,c]
  rw [a];clear a;go_enter func279,ntmps279;go_wp2;go_returns;exact⟨rfl,rfl⟩
 .by_cases f:1048576<b
  .have a:mz (-1048576) 1048576 b=true:=by simp [mz,f]
   rw [a];clear a;go_enter func279,ntmps279;go_wp2;go_returns;exact⟨rfl,rfl⟩
  .have a:mz (-1048576) 1048576 b=false:=by simp [mz,c,f]
   rw [a];clear a;go_enter func279,ntmps279;go_wp2;go_returns;exact⟨rfl,rfl⟩
theorem Au(p n:Z)(a b:List Int)(f:V)(i:aY f p a)(h:aY f n b):
  d prog 261 #[p,n] f λc v=>c=e (bj (dR a b))/\f=v:=by
 have z:=i.len;have C:=h.len;have l:=fW 279 f279 func279 B B #[] (mz (-1048576) 1048576) p a f i (λr _=>DX r f);have m:=fW 279 f279 func279 B B #[] (mz (-1048576) 1048576) n b f h (λr _=>DX r f);rw [yS] at l m;obtain⟨w,cap,rfl⟩:=i.shape;obtain⟨x,y,rfl⟩:=h.shape;have k:=E l;have s:=E m;clear l m i h;by_cases g:a.length=b.length
 .have t:((a.length:Int) !=(b.length:Int))=false:=by simp [g]
  have c:dR a b=if ax a (-1048576) 1048576&&ax b (-1048576) 1048576 then 0 else 3:=by unfold dR;rw [if_pos g]
  rw [c];clear c g;generalize ax a (-1048576) 1048576=u at*;generalize ax b (-1048576) 1048576=q at*;generalize a.length=F at*;generalize b.length=D at*
  cases u with
  |false=>
   go_enter func261,ntmps261
   go_wp2_with fail
   refine k.o.mono ?_;rintro c j ⟨rfl,rfl⟩;go_wp2;go_returns;exact⟨rfl,rfl⟩
  |true=>
   cases q with
   |false=>
    go_enter func261,ntmps261
    go_wp2_with fail
    refine k.o.mono ?_;rintro c j ⟨rfl,rfl⟩
    go_wp2_with fail
    refine s.o.mono ?_;rintro c j ⟨rfl,rfl⟩;go_wp2;go_returns;exact⟨rfl,rfl⟩
   |true=>
    go_enter func261,ntmps261
    go_wp2_with fail
    refine k.o.mono ?_;rintro c j ⟨rfl,rfl⟩
    go_wp2_with fail
    refine s.o.mono ?_;rintro c j ⟨rfl,rfl⟩;go_wp2;go_returns;exact⟨rfl,rfl⟩
 .have t:((a.length:Int) !=(b.length:Int))=true:=by simp;omega
  rw [JD g];clear g;go_enter func261,ntmps261;go_wp2;go_returns;exact⟨rfl,rfl⟩
theorem Pk{a b g:Int}{c:Nat->Int}{f:Nat}(i:cu f c=g)(h:c f=eB a b)(j:¬a - b<b - a):g+(a - b)=cu (f+1) c:=by
 rw [gL,i,h];unfold eB;omega
theorem LS{a b g:Int}{c:Nat->Int}{f:Nat}(i:cu f c=g)(h:c f=eB a b)(j:a - b<b - a):g+(b - a)=cu (f+1) c:=by
 rw [gL,i,h];unfold eB;omega
theorem GM{b c:List Int}(h:ax b (-1048576) 1048576=true)(i:ax c (-1048576) 1048576=true)(g:Nat):0<=cu g (λa=>eB (b.getD a 0) (c.getD a 0))/\cu g (λa=>eB (b.getD a 0) (c.getD a 0))<=g*2097152:=by
 have:=rH (n:=g) (f:=λa=>eB (b.getD a 0) (c.getD a 0)) (lo:=0) (hi:=2097152) λa _=>by
  have j:=aQ h O O a;have k:=aQ i O O a;unfold eB;omega
 omega
theorem OX(q p:Z)(a b:List Int)(f:V)(m:aY f q a)(l:aY f p b)(b6:a.length<=5000):
  d prog 310 #[q,p] f λi s=>∃r,i=e (Ye #[r,bj (dR a b)])/\aa s f r (Ec (dR a b) (wI a b))/\X f f s:=by
 have z:=Au q p a b f m l;have T:=E m;have R:=E l;obtain⟨b0,cap,rfl⟩:=m.shape;obtain⟨b3,b4,rfl⟩:=l.shape;have n:=E z;clear z m l;by_cases h:dR a b=0
 .obtain⟨y,x,g⟩:=uH h
  rw [Cl h];rw [h] at n⊢;have a9:=E y;have b5:a.length<=b.length:=O;have L:=E x;have P:=E g;clear y x g h;go_enter func310,ntmps310
  go_wp2_with fail
  refine n.o.mono ?_;rintro i a6 ⟨rfl,rfl⟩;go_wp2
  go_loopw [7,18] (λo j wr=>∃c:Nat,c<=a.length/\j=A G c/\aa wr f o (bQ (λj=>a.getD j 0 - b.getD j 0) c)/\X f f wr) (λ_ j _=>a.length - (Yz j).toNat)
  case atStart=>exact⟨0,Yr _,rfl,aa.nil _ _,Yn _ _⟩
  case round=>
   obtain⟨c,a3,rfl,C,g⟩:=hrel;have k:=E C;clear C;by_cases a5:c<a.length
   .obtain⟨b1,b9,b2,c0,rfl,rfl,v,w⟩:=lH T.o R.o g a5 O
    have t:=aQ L.o O O c;have u:=aQ P.o O O c;have b7:c<b.length:=O;generalize F:a.getD c 0=a7 at v t;generalize J:b.getD c 0=a8 at w u;obtain⟨t,c1⟩:=t;obtain⟨u,c2⟩:=u;have a0:=E F;have a1:=E J;clear F J;have b8:=g.size
    go_wp2_with (at_builtin;refine cJ rfl (.tmp 23) (.tmp 30) rfl f.heap.size _ _ (a7 - a8) rfl k.o rfl Y (by unfold bh;omega) (by rw [bO];omega) O ?_)
    intro r s D a2 _;have W:=E D;clear D k v w;go_wp2;go_roundw
    case rel=>exact⟨c+1,O,S,by rw [gG,a0.o,a1.o];exact W.o,g.trans a2⟩
    case measure=>simp [Yz];omega
   .have i:c=a.length:=O
    rw [i] at k;clear i;go_wp2;go_returns;exact⟨_,rfl,k.o,g⟩
 .rw [zy h]
  have a3:(dR a b==0)=false:=by simpa using h
  clear h;generalize dR a b=c3 at*;go_enter func310,ntmps310
  go_wp2_with fail
  refine n.o.mono ?_;rintro i a6 ⟨rfl,rfl⟩;go_wp2;go_returns;exact⟨_,rfl,aa.nil _ _,Yn _ _⟩
theorem De(s r:Z)(a c:List Int)(h:V)(n:aY h s a)(m:aY h r c)(b7:a.length<=5000):
  d prog 230 #[s,r] h λk a6=>k=e (Ye #[A G (MB (dR a c) (nk a c)),bj (dR a c)])/\X h h a6:=by
 have z:=Au s r a c h n m;have W:=E n;have T:=E m;obtain⟨b1,cap,rfl⟩:=n.shape;obtain⟨b4,b5,rfl⟩:=m.shape;have p:=E z;clear z n m;by_cases i:dR a c=0
 .obtain⟨y,x,g⟩:=uH i
  rw [kN i];rw [i] at p⊢;have a8:=E y;have b6:a.length<=c.length:=O;have v:=E x;have w:=E g;clear y x g i;go_enter func230,ntmps230
  go_wp2_with fail
  refine p.o.mono ?_;rintro k a7 ⟨rfl,rfl⟩;go_wp2
  go_loopw [7,18] (λa5 f wr=>∃b:Nat,b<=a.length/\f=A G b/\a5=A G (cu b (λf=>eB (a.getD f 0) (c.getD f 0)))/\X h h wr) (λ_ f _=>a.length - (Yz f).toNat)
  case atStart=>exact⟨0,Yr _,rfl,rfl,Yn _ _⟩
  case round=>
   obtain⟨b,a2,rfl,rfl,g⟩:=hrel;have F:=GM v.o w.o b;have l:=E (show(λf=>eB (a.getD f 0) (c.getD f 0)) b=eB (a.getD b 0) (c.getD b 0) from rfl);generalize D:cu b (λf=>eB (a.getD f 0) (c.getD f 0))=c2 at*;have j:=E D;obtain⟨F,b9⟩:=F;clear D;by_cases a3:b<a.length
   .obtain⟨b2,c0,b3,c1,rfl,rfl,a0,a1⟩:=lH W.o T.o g a3 O
    have t:=aQ v.o O O b;have u:=aQ w.o O O b;have b8:b<c.length:=O;generalize J:a.getD b 0=P at a0 t l;generalize L:c.getD b 0=R at a1 u l;obtain⟨t,c3⟩:=t;obtain⟨u,c4⟩:=u;have a9:=E J;have b0:=E L;clear J L;by_cases C:P - R<R - P
    .have q:=E (LS j.o l.o C)
     clear l j;go_wp2;go_quiet (fail);go_wp2;go_roundw
     case rel=>exact⟨b+1,O,S,int_eq q.o,by first|exact g|exact g.drew|exact ag g _⟩
     case measure=>simp [Yz];omega
    .have q:=E (Pk j.o l.o C)
     clear l j;go_wp2;go_quiet (fail);go_wp2;go_roundw
     case rel=>exact⟨b+1,O,S,int_eq q.o,by first|exact g|exact g.drew|exact ag g _⟩
     case measure=>simp [Yz];omega
   .have k:b=a.length:=O
    rw [k] at j;clear k;go_wp2;go_returns;exact⟨by rw [<-j.o];rfl,g⟩
 .rw [oy i]
  have a2:(dR a c==0)=false:=by simpa using i
  clear i;generalize dR a c=c5 at*;go_enter func230,ntmps230
  go_wp2_with fail
  refine p.o.mono ?_;rintro k a7 ⟨rfl,rfl⟩;go_wp2;go_returns;exact⟨rfl,Yn _ _⟩
theorem UQ(b:Int)(f:V):d prog 309 #[A G b] f λa g=>a=e (.bool (mz 0 0 b))/\f=g:=by
 by_cases c:b=0
 .have a:mz 0 0 b=false:=by subst c;rfl
  rw [a];subst c;clear a;go_enter func309,ntmps309;go_wp2;go_returns;exact⟨rfl,rfl⟩
 .have a:mz 0 0 b=true:=by simp [mz];omega
  have h:(b !=0)=true:=by simpa using c
  rw [a];clear a c;go_enter func309,ntmps309;go_wp2;go_returns;exact⟨rfl,rfl⟩
theorem Lv(i:Z)(c:List Int)(a:V)(j:aY a i c):
  d prog 294 #[i] a λg k=>g=e (.bool (ax c 0 0))/\a=k:=by
 have f:=fW 309 f309 func309 B B #[] (mz 0 0) i c a j (λm _=>UQ m a);rw [yS] at f;have b:=E f;clear f j
 cases h:ax c 0 0 with
 |true=>
  rw [h] at b;clear h;go_enter func294,ntmps294
  go_wp2_with fail
  refine b.o.mono ?_;rintro g l ⟨rfl,rfl⟩;go_wp2;go_returns;exact⟨rfl,rfl⟩
 |false=>
  rw [h] at b;clear h;go_enter func294,ntmps294
  go_wp2_with fail
  refine b.o.mono ?_;rintro g l ⟨rfl,rfl⟩;go_wp2;go_returns;exact⟨rfl,rfl⟩
end
section
open Go.RowKit Go.Extern.Stop Go.Stop Go.Extern
theorem aa.GU{k:V}{g:Nat}{c:Z}{f:List Int}(i:aa k g c f){b:Nat}(j:f.length=b):∃a cap,c=U a b cap:=by
 obtain⟨a,cap,h⟩:=i.shape;exact⟨a,cap,by rw [h,j]⟩
theorem TH{b a:Int}{f g:List Int}(n:nM b a f)(o:nM b a g)(c:Nat):dR (nP b a f c) (nP b a g c)=0:=by
 have l:=within_iff.1 (fz n c);have m:=within_iff.1 (fz o c)
 have j:ax (nP b a f c) (-1048576) 1048576=true:=within_iff.2 λi h=>by have:=l i h;omega
 have k:ax (nP b a g c) (-1048576) 1048576=true:=within_iff.2 λi h=>by have:=m i h;omega
 unfold dR;rw [if_pos (by rw [dB,dB]),j,k];rfl
theorem Ln(k:Z)(c b:Int)(h:List Int)(a:V)(g:aO a k c b h)(j:gH c b h=false):
  d prog 174 #[k] a λi s=>i=e (Ye #[A G 0,Yd 49 (A G 2)])/\X a a s:=by
 have f:=λr a p=>cR r c b h a p
 rw [j] at f;have l:=E f;have m:=E g;obtain⟨u,cap,rfl, -⟩:=g.cells;clear g j f;go_enter func174,ntmps174
 go_wp2_with fail
 refine(l.o _ _ (m.o.ext N)).mono ?_;rintro i t ⟨rfl,q⟩;have n:X a a t:=ext N q;go_wp2;go_returns;exact⟨rfl,n⟩
theorem Gh(T:Z)(c b:Int)(g:List Int)(f:V)(w:aO f T c b g)(u:gH c b g=true):
  d prog 174 #[T] f λn c3=>n=e (Ye #[A G (xb c b g (DN c b)),Ya])/\X f f c3:=by
 have m:=λi f h=>cR i c b g f h
 rw [u] at m;have a0:=E m;have k:=dw.1 u;have a1:=E (λi f h=>ni i c b g f h k);have a2:=E (λi a f h=>tq i (nP c b g a) f h (fz k a) (dB ..));have a6:=E (λa=>lC k a);have a7:=E (λa=>zn (fz k a) (by rw [dB];omega));have b2:=E (λa=>rZ c b g a);have z:=E (mZ c b g)
 have e3:DN c b<=16:=by obtain⟨C,R, -, -, -, -, -, -, -,n,h⟩:=k.wD;omega
 have a5:=E (λa (h:a<DN c b)=>Hf c b g h);have b0:=E (λa=>dB c b g a);have D:=E w;obtain⟨b3,cap,rfl, -⟩:=w.cells;have y:=E (ai.new f #[A G c,A G b,U b3 g.length cap] 81);clear w u m k;generalize b8:DN c b=l at*;clear b8;go_enter func174,ntmps174
 go_wp2_with fail
 refine(a0.o _ _ (D.o.ext N)).mono ?_;rintro n c4 ⟨rfl,s⟩;have F:X f f c4:=ext N s;obtain⟨b4,m,b5, -, -, -⟩:=(y.o.ext s).three;have c1:=(y.o.ext s).lt
 go_wp2_with fail
 clear b4 m b5 c1;refine(a1.o _ _ (D.o.ext (ext F N))).mono ?_;rintro n p ⟨q,rfl,v,b9⟩;have b6:X f f p:=ext F (ext N b9);obtain⟨e9,e8,rfl⟩:=v.dm (z.o l);have b1:=E v;clear v;go_wp2
 go_loopw [4,14] (λc2 x wr=>∃a:Nat,a<=l/\x=A G a/\c2=A G (xb c b g a)/\X p p wr) (λ_ x _=>l - (Yz x).toNat)
 case atStart=>exact⟨0,Yr _,rfl,rfl,Yn _ _⟩
 case round=>
  obtain⟨a,e2,rfl,rfl,t⟩:=hrel;obtain⟨e0,e1⟩:=a6.o a;by_cases L:a<l
  .obtain⟨c9,e4,rfl,lg,c6,r⟩:=(b1.o.ext t).at (j:=a) (by rw [z.o];exact L)
   rw [a5.o a L] at r;obtain⟨e6,e5,rfl⟩:=r.GU (b0.o a);have a9:=E r.ints;obtain⟨c7,c8⟩:=a7.o a;have J:=b2.o a;have a3:=E (λi f h=>a2.o i a f h);generalize xb c b g a=P at*;generalize My (nP c b g a)=W at*;have a8:=E J;clear r J;have e7:Zc G (P+W)=P+W:=Yx _ O
   go_wp2_with fail
   refine(a3.o _ _ (a9.o.ext N)).mono ?_;rintro n c5 ⟨rfl,c0⟩;have b7:X p p c5:=ext t (ext N c0);go_wp2;go_roundw
   case rel=>exact⟨a+1,O,S,int_eq a8.o.symm,b7⟩
   case measure=>simp [Yz];omega
  .obtain rfl:a=l:=O
   go_wp2;go_returns;exact⟨rfl,ext b6 t⟩
theorem Gg(c:Z)(a:Fr)(b:V)(f:aO b c a.W a.H a.pix):
  d prog 174 #[c] b λg h=>g=e (Ye #[A G (vz a),bj (Kw a)])/\X b b h:=by
 unfold vz Kw
 cases hm:gH a.W a.H a.pix with
 |true=>exact Gh c a.W a.H a.pix b f hm
 |false=>exact Ln c a.W a.H a.pix b f hm
theorem Lq(w v:Z)(c b:Int)(f:List Int)(h g:Int)(i:List Int)(a:V)(m:aO a w c b f)(l:aO a v h g i)(u:gH c b f=false):
  d prog 175 #[w,v] a λt F=>t=e (Ye #[A G 0,Yd 49 (A G 2)])/\X a a F:=by
 have j:=λn a k=>cR n c b f a k
 have s:=λn a k=>cR n h g i a k
 rw [u] at j;clear u;have y:=E j;have P:=E s;have z:=E m;have R:=E l;obtain⟨p,cap,rfl, -⟩:=m.cells;obtain⟨r,q,rfl, -⟩:=l.cells;have L:=E ((ai.new a #[A G c,A G b,U p f.length cap] 81).alloc (M #[A G h,A G g,U r i.length q] 81));have x:=E (ai.new (a.alloc (M #[A G c,A G b,U p f.length cap] 81)) #[A G h,A G g,U r i.length q] 81);simp only [YN] at x;clear m l j s;go_enter func175,ntmps175
 go_wp2_with fail
 refine(y.o _ _ (z.o.ext N)).mono ?_;rintro t J ⟨rfl,D⟩;have C:X a a J:=ext N D;go_wp2;go_returns;exact⟨rfl,C⟩
theorem Lr(L J:Z)(f b:Int)(h:List Int)(g c:Int)(i:List Int)(a:V)(s:aO a L f b h)(r:aO a J g c i)(D:gH f b h=true)(F:gH g c i=false):
  d prog 175 #[L,J] a λn a3=>n=e (Ye #[A G 0,Yd 49 (A G 2)])/\X a a a3:=by
 have l:=λt a p=>cR t f b h a p
 have m:=λt a p=>cR t g c i a p
 rw [D] at l;rw [F] at m;clear D F;have R:=E l;have T:=E m;have a0:=E s;have W:=E r;obtain⟨u,cap,rfl, -⟩:=s.cells;obtain⟨w,v,rfl, -⟩:=r.cells;have P:=E ((ai.new a #[A G f,A G b,U u h.length cap] 81).alloc (M #[A G g,A G c,U w i.length v] 81));have k:=E (ai.new (a.alloc (M #[A G f,A G b,U u h.length cap] 81)) #[A G g,A G c,U w i.length v] 81);simp only [YN] at k;clear s r l m;go_enter func175,ntmps175
 go_wp2_with fail
 refine(R.o _ _ (a0.o.ext N)).mono ?_;rintro n a5 ⟨rfl,j⟩;have C:X a a a5:=ext N j;obtain⟨x,y,z, -, -, -⟩:=(k.o.ext j).three;have a2:=(k.o.ext j).lt
 go_wp2_with fail
 clear x y z a2;refine(T.o _ _ (W.o.ext (ext C N))).mono ?_;rintro n a6 ⟨rfl,q⟩;have a1:X a a a6:=ext C (ext N q);obtain⟨a7,l,m, -, -, -⟩:=((P.o.ext j).ext q).three;obtain⟨x,y,z, -, -, -⟩:=((k.o.ext j).ext q).three;go_wp2;go_returns;exact⟨rfl,a1⟩
theorem OU(R P:Z)(b f:Int)(h:List Int)(c g:Int)(i:List Int)(a:V)(t:aO a R b f h)(s:aO a P c g i)(F:gH b f h=true)(J:gH c g i=true)(L:b≠c):
  d prog 175 #[R,P] a λn a6=>n=e (Ye #[A G 0,Yd 49 (A G 14)])/\X a a a6:=by
 have l:=λu a p=>cR u b f h a p
 have m:=λu a p=>cR u c g i a p
 rw [F] at l;rw [J] at m
 have q:(b !=c)=true:=by simp;exact L
 clear F J L;have W:=E l;have a0:=E m;have a2:=E t;have a1:=E s;obtain⟨v,cap,rfl, -⟩:=t.cells;obtain⟨x,w,rfl, -⟩:=s.cells;have T:=E ((ai.new a #[A G b,A G f,U v h.length cap] 81).alloc (M #[A G c,A G g,U x i.length w] 81));have k:=E (ai.new (a.alloc (M #[A G b,A G f,U v h.length cap] 81)) #[A G c,A G g,U x i.length w] 81);simp only [YN] at k;clear t s l m;go_enter func175,ntmps175
 go_wp2_with fail
 refine(W.o _ _ (a2.o.ext N)).mono ?_;rintro n a7 ⟨rfl,j⟩;have D:X a a a7:=ext N j;obtain⟨y,z,C, -, -, -⟩:=(k.o.ext j).three;have a5:=(k.o.ext j).lt
 go_wp2_with fail
 clear y z C a5;refine(a0.o _ _ (a1.o.ext (ext D N))).mono ?_;rintro n a8 ⟨rfl,r⟩;have a3:X a a a8:=ext D (ext N r);obtain⟨a9,l,m, -, -, -⟩:=((T.o.ext j).ext r).three;obtain⟨y,z,C, -, -, -⟩:=((k.o.ext j).ext r).three;go_wp2;go_returns;exact⟨rfl,a3⟩
theorem OT(T R:Z)(f b:Int)(h:List Int)(g c:Int)(i:List Int)(a:V)(t:aO a T f b h)(s:aO a R g c i)(J:gH f b h=true)(L:gH g c i=true)(F:f=g)(P:b≠c):
  d prog 175 #[T,R] a λn a7=>n=e (Ye #[A G 0,Yd 49 (A G 14)])/\X a a a7:=by
 have l:=λu a p=>cR u f b h a p
 have m:=λu a p=>cR u g c i a p
 rw [J] at l;rw [L] at m
 have b1:(f !=g)=false:=by simp;exact F
 have q:(b !=c)=true:=by simp;exact P
 clear F J L P;have a0:=E l;have a1:=E m;have a3:=E t;have a2:=E s;obtain⟨v,cap,rfl, -⟩:=t.cells;obtain⟨x,w,rfl, -⟩:=s.cells;have W:=E ((ai.new a #[A G f,A G b,U v h.length cap] 81).alloc (M #[A G g,A G c,U x i.length w] 81));have k:=E (ai.new (a.alloc (M #[A G f,A G b,U v h.length cap] 81)) #[A G g,A G c,U x i.length w] 81);simp only [YN] at k;clear t s l m;go_enter func175,ntmps175
 go_wp2_with fail
 refine(a0.o _ _ (a3.o.ext N)).mono ?_;rintro n a8 ⟨rfl,j⟩;have D:X a a a8:=ext N j;obtain⟨y,z,C, -, -, -⟩:=(k.o.ext j).three;have a6:=(k.o.ext j).lt
 go_wp2_with fail
 clear y z C a6;refine(a1.o _ _ (a2.o.ext (ext D N))).mono ?_;rintro n a9 ⟨rfl,r⟩;have a5:X a a a9:=ext D (ext N r);obtain⟨b0,l,m, -, -, -⟩:=((W.o.ext j).ext r).three;obtain⟨y,z,C, -, -, -⟩:=((k.o.ext j).ext r).three;go_wp2;go_returns;exact⟨rfl,a5⟩
theorem Gq(e4 e3:Z)(c b:Int)(g i:List Int)(f:V)(a9:aO f e4 c b g)(a8:aO f e3 c b i)(p:gH c b g=true)(r:gH c b i=true):
  d prog 175 #[e4,e3] f λl b4=>l=e (Ye #[A G (ru c b g i (DN c b)),Ya])/\X f f b4:=by
 have t:=λh f k=>cR h c b g f k
 have u:=λh f k=>cR h c b i f k
 rw [p] at t;rw [r] at u;have e7:=E t;have e8:=E u;have n:=dw.1 p;have y:=dw.1 r;have e9:=E (λh f k=>ni h c b g f k n);have g0:=E (λh f k=>ni h c b i f k y);have g1:=E (λh a f k=>tq h (nP c b g a) f k (fz n a) (dB ..))
 have g2:Hd (∀(h m:Z) (a:Nat) (f:V),aY f h (nP c b g a)->aY f m (nP c b i a)->d prog 230 #[h,m] f λl b4=>l=e (Ye #[A G (nk (nP c b g a) (nP c b i a)),Ya])/\X f f b4):=λh m a f p r=>by
  have c8:=De h m (nP c b g a) (nP c b i a) f p r (by rw [dB];omega);rw [TH n y a,kN rfl,ar] at c8;exact c8
 have g9:=E (λa=>lC n a);have h0:=E (λa=>ng n y a);have g7:=E (λa=>zn (fz n a) (by rw [dB];omega));have h7:=E (λa=>IU n y a);have h8:=E (λa=>vY c b g i a);have b7:=E (mZ c b g);have b8:=E (mZ c b i)
 have k3:DN c b<=16:=by obtain⟨C,R, -, -, -, -, -, -, -,l,k⟩:=n.wD;omega
 have g5:=E (λa (k:a<DN c b)=>Hf c b g k);have g6:=E (λa (k:a<DN c b)=>Hf c b i k);have h2:=E (λa=>dB c b g a);have h3:=E (λa=>dB c b i a);have c1:=E a9;have c0:=E a8;obtain⟨c2,cap,rfl, -⟩:=a9.cells;obtain⟨c4,c3,rfl, -⟩:=a8.cells;have e6:=E ((ai.new f #[A G c,A G b,U c2 g.length cap] 81).alloc (M #[A G c,A G b,U c4 i.length c3] 81));have F:=E (ai.new (f.alloc (M #[A G c,A G b,U c2 g.length cap] 81)) #[A G c,A G b,U c4 i.length c3] 81);simp only [YN] at F;clear a9 a8 p r t u n y;generalize i2:DN c b=x at*;clear i2;go_enter func175,ntmps175
 go_wp2_with fail
 refine(e7.o _ _ (c1.o.ext N)).mono ?_;rintro l j0 ⟨rfl,z⟩;have c5:X f f j0:=ext N z;obtain⟨a2,a3,a5, -, -, -⟩:=(F.o.ext z).three;have b3:=(F.o.ext z).lt
 go_wp2_with fail
 clear a2 a3 a5 b3;refine(e8.o _ _ (c0.o.ext (ext c5 N))).mono ?_;rintro l b5 ⟨rfl,a6⟩;have c6:X f f b5:=ext c5 (ext N a6);have D:=E ((e6.o.ext z).ext a6);have b6:=E ((F.o.ext z).ext a6);obtain⟨a1,t,u, -, -, -⟩:=D.o.three;obtain⟨a2,a3,a5, -, -, -⟩:=b6.o.three;have b2:=D.o.lt;have b3:=b6.o.lt;have l8:(c !=c)=false:=Y;have l3:(b !=b)=false:=Y
 go_wp2_with fail
 clear a1 t u a2 a3 a5 b2 b3;refine(g0.o _ _ (c0.o.ext (ext c6 N))).mono ?_;rintro l W ⟨q,rfl,v,i3⟩;have b1:X b5 b5 W:=ext N i3;have c7:X f f W:=ext c6 b1;obtain⟨l7,l2,rfl⟩:=v.dm (b8.o x);have h5:=E v;clear v;obtain⟨a1,t,u, -, -, -⟩:=(D.o.ext b1).three;have b2:=(D.o.ext b1).lt
 go_wp2_with fail
 clear a1 t u b2;refine(e9.o _ _ (c1.o.ext (ext c7 N))).mono ?_;rintro l s ⟨q,rfl,v,i4⟩;have c9:X W W s:=ext N i4;have h9:X f f s:=ext c7 c9;obtain⟨m0,l9,rfl⟩:=v.dm (b7.o x);have h4:=E v;have h6:=E (h5.o.ext c9);clear v;go_wp2
 go_loopw [6,41] (λi9 b0 wr=>∃a:Nat,a<=x/\b0=A G a/\i9=A G (ru c b g i a)/\X s s wr) (λ_ b0 _=>x - (Yz b0).toNat)
 case atStart=>exact⟨0,Yr _,rfl,rfl,Yn _ _⟩
 case round=>
  obtain⟨a,k2,rfl,rfl,J⟩:=hrel;obtain⟨p,r⟩:=h0.o a;obtain⟨k0,k1⟩:=g9.o a;by_cases L:a<x
  .obtain⟨j8,k5,rfl,lg,j2,P⟩:=(h4.o.ext J).at (j:=a) (by rw [b7.o];exact L)
   obtain⟨j9,k6,rfl,k4,j3,T⟩:=(h6.o.ext J).at (j:=a) (by rw [b8.o];exact L);rw [g5.o a L] at P;rw [g6.o a L] at T;obtain⟨k9,k7,rfl⟩:=P.GU (h2.o a);obtain⟨l0,k8,rfl⟩:=T.GU (h3.o a);have b9:=E P.ints;have h1:=E T.ints;obtain⟨j4,j5⟩:=g7.o a;obtain⟨j6,j7⟩:=h7.o a;have a7:=h8.o a;have g4:=E (λh f k=>g1.o h a f k);have g3:=E (λh m f p r=>g2.o h m a f p r);generalize ru c b g i a=e2 at*;generalize xb c b g a=m1 at*;generalize My (nP c b g a)=a0 at*;generalize nk (nP c b g a) (nP c b i a)=m at*;have i7:∃w:Int,(if a0<m then a0 else m)=w/\min m a0=w/\0<=w/\w<=a0:=⟨_,rfl,by split<;>omega,by split<;>omega,by split<;>omega⟩;obtain⟨w,l4,e1,l5,l6⟩:=i7;rw [e1] at a7;have g8:=E a7;clear P T a7 e1;have l1:Zc G (e2+w)=e2+w:=Yx _ O
   go_wp2_with fail
   refine(g3.o _ _ _ (b9.o.ext N) (h1.o.ext N)).mono ?_;rintro l e5 ⟨rfl,i5⟩;have e0:X wr wr e5:=ext N i5;have i0:X s s e5:=ext J e0
   go_wp2_with fail
   refine(g4.o _ _ ((b9.o.ext e0).ext N)).mono ?_;rintro l j1 ⟨rfl,i6⟩;have i1:X s s j1:=ext i0 (ext N i6);go_wp2;go_roundw
   case rel=>exact⟨a+1,O,S,int_eq g8.o.symm,i1⟩
   case measure=>simp [Yz];omega
  .obtain rfl:a=x:=O
   go_wp2;go_returns;exact⟨rfl,ext h9 J⟩
theorem Gp(h g:Z)(a b:Fr)(f:V)(k:aO f h a.W a.H a.pix)(i:aO f g b.W b.H b.pix):
  d prog 175 #[h,g] f λc m=>c=e (Ye #[A G (oz a b),bj (gZ a b)])/\X f f m:=by
 cases h1:gH a.W a.H a.pix with
 |false=>
  have c:gZ a b=2:=by unfold gZ cX;rw [h1];rfl
  rw [show oz a b=0 from by unfold oz;rw [c];rfl,c];exact Lq h g a.W a.H a.pix b.W b.H b.pix f k i h1
 |true=>
  cases h2:gH b.W b.H b.pix with
  |false=>
   have c:gZ a b=2:=by unfold gZ cX;rw [h1,h2];rfl
   rw [show oz a b=0 from by unfold oz;rw [c];rfl,c];exact Lr h g a.W a.H a.pix b.W b.H b.pix f k i h1 h2
  |true=>
   by_cases j:a.W=b.W
   .by_cases l:a.H=b.H
    .have c:gZ a b=0:=by unfold gZ cX;rw [h1,h2];simp [j,l]
     rw [c,ar,show oz a b=ru a.W a.H a.pix b.pix (DN a.W a.H) from by unfold oz;rw [if_pos c]];rw [<-j,<-l] at i h2;exact Gq h g a.W a.H a.pix b.pix f k i h1 h2
    .have c:gZ a b=14:=by unfold gZ cX;rw [h1,h2];simp [l]
     rw [show oz a b=0 from by unfold oz;rw [c];rfl,c];exact OT h g a.W a.H a.pix b.W b.H b.pix f k i h1 h2 j l
   .have c:gZ a b=14:=by unfold gZ cX;rw [h1,h2];simp [j]
    rw [show oz a b=0 from by unfold oz;rw [c];rfl,c];exact OU h g a.W a.H a.pix b.W b.H b.pix f k i h1 h2 j
def uC(a:List (Int×Int))(c:Nat):Int:=cu c λb=>(a.getD b (0,0)).2
theorem ma(a:List (Int×Int))(b:Nat):uC a (b+1)=uC a b+(a.getD b (0,0)).2:=rfl
def kz(b:List (Int×Int))(f c:Nat):Prop:=∀a,a<c->(b.getD a (0,0)).1=uC b a/\1<=(b.getD a (0,0)).2/\(b.getD a (0,0)).2<=f - uC b a
def Ih(a:List (Int×Int))(b:Nat):Prop:=kz a b a.length/\uC a a.length=b/\1<=b/\b<=16
theorem kz.bd{a:List (Int×Int)}{b:Nat}:∀{k:Nat},kz a b k->0<=uC a k/\uC a k<=b
 |0,_=>⟨Int.le_refl 0,by show(0:Int)<=b;omega⟩
 |k+1,h=>by
  have i:=kz.bd (k:=k) λc f=>h c O
  have g:=h k O;rw [ma];omega
theorem kz.snoc{b:List (Int×Int)}{f a:Nat}(h:kz b f a)(i:(b.getD a (0,0)).1=uC b a)(j:1<=(b.getD a (0,0)).2)(k:(b.getD a (0,0)).2<=f - uC b a):kz b f (a+1):=by
 intro c l
 rcases Nat.lt_or_ge c a with g|g
 .exact h c g
 .obtain rfl:c=a:=O
  exact⟨i,j,k⟩
theorem qF{c:List (Int×Int)}{i:Nat}{a:Nat}:∀{b:Nat},kz c i b->a<b->uC c a+(c.getD a (0,0)).2<=uC c b
 |0,_,h=>by omega
 |b+1,ht,h=>by
  have j:=ht b O;rw [ma]
  rcases Nat.lt_or_ge a b with f|f
  .have:=qF (b:=b) (λg k=>ht g O) f
   omega
  .obtain rfl:a=b:=O
   omega
def uE(a:List (Int×Int))(b:Nat):Bool:=a.any λc=>c.1==(b:Int)
theorem As{f:List (Int×Int)}{g:Nat}:uE f g=true↔∃a,a<f.length/\(f.getD a (0,0)).1=g:=by
 unfold uE;rw [List.any_eq_true];constructor
 .rintro⟨j,i,h⟩
  obtain⟨a,b,c⟩:=List.getElem_of_mem i;exact⟨a,b,by rw [Yp,YM b,Option.getD_some,c];simpa using h⟩
 .rintro⟨a,b,c⟩
  refine⟨f[a],List.getElem_mem b,?_⟩;rw [Yp,YM b,Option.getD_some] at c
  simpa using c
theorem Qj{a:List (Int×Int)}{i b f:Nat}(g:kz a i a.length)(c:b<a.length)(h:(f:Int)=uC a b):uE a f=true:=As.2 ⟨b,c,by rw [(g b c).1,h]⟩
theorem Si{a:List (Int×Int)}{m k f:Nat}(c:kz a m a.length)(r:k<a.length)(n:uC a k<f)(o:(f:Int)<uC a k+(a.getD k (0,0)).2):uE a f=false:=by
 cases i:uE a f with
 |false=>rfl
 |true=>
  obtain⟨g,j,i⟩:=As.1 i;have q:=(c g j).1;have p:=(c g j).2.1;exfalso
  rcases Nat.lt_trichotomy g k with b|b|b
  .have:=qF (λh l=>c h O) b
   omega
  .subst b;omega
  .have:=qF (λh l=>c h O) b
   omega
def wE(b:List Fr)(c:List (Int×Int))(a:Nat):Int:=if uE c a then Kw (sS b a) else gZ (sS b a) (sS b (a - 1))
def wV(b:List Fr)(c:List (Int×Int))(a:Nat):Int:=64+(if uE c a then vz (sS b a)*2 else oz (sS b a) (sS b (a - 1)))
theorem MR{j:V}{g k c f p o:Nat}{l:Array Z}{i:Z}{q:List Z}(h:ai j g l c)(m:j.ownsRow k f p i o q)(n:c≠f):K g≠i.ownBlock:=by
 intro a
 rcases m.2 with⟨rfl,_⟩|⟨s,cap,r,rfl,_,b,_⟩
 .cases a
 .simp only [YT,YQ] at a
  subst a;unfold ai at h;rw [h] at b;simp only [YQ,Obj.cells.injEq] at b;exact n b.2.1
theorem OV(a0:Z)(b:List (Int×Int))(f:Nat)(n:V)(u:nJ n a0 b)(b5:(f:Int)<=9223372036854775807)(h:Bool)(i:h=true↔Ih b f):
  d prog 173 #[a0,A G f] n λk a9=>k=e (.bool h)/\X n n a9:=by
 have a6:=E u;have a1:=E (λL=>u.bh L);have z:=E i;obtain⟨l,x⟩:∃l,b.length=l:=⟨_,rfl⟩;have D:=E x;have a8:=u.len;rw [x] at a8;obtain⟨b0,cap,rfl⟩:=u.dm x;clear u i x;go_enter func173,ntmps173;go_wp2
 go_loopw [5,10] (λa7 J wr=>∃a:Nat,a<=l/\J=A G a/\a7=A G (uC b a)/\kz b f a/\X n n wr) (λ_ J _=>l - (Yz J).toNat)
 case atStart=>exact⟨0,Yr _,rfl,rfl,λL j=>O,Yn _ _⟩
 case round=>
  obtain⟨a,b4,rfl,rfl,t,m⟩:=hrel;obtain⟨c4,c5⟩:=t.bd;have c3:=m.size;have C:=E t;clear t;by_cases R:a<l
  .obtain⟨b1,off,rfl,c0,b2,b3⟩:=(a6.o.ext m).cellAt (j:=a) (by rw [D.o];exact R)
   obtain⟨T,W⟩:=a1.o a;unfold bh at T W;have a2:=E (ma b a);have a3:=E (λc p r=>C.o.snoc c p r)
   have y:Hd (∀(j:¬((b.getD a (0,0)).1=uC b a/\1<=(b.getD a (0,0)).2/\(b.getD a (0,0)).2<=f - uC b a)),h=false):=λj=>by
    cases hrr:h with
    |false=>rfl
    |true=>exact absurd ((z.o.1 hrr).1 a (by rw [D.o];exact R)) j
   generalize (b.getD a (0,0)).1=F at*;generalize (b.getD a (0,0)).2=w at*;generalize uC b a=g at*;obtain⟨b6,b7⟩:=T;obtain⟨b8,b9⟩:=W;have c1:Zc G ((f:Int) - g)=(f:Int) - g:=Yx _ O;by_cases c:F=g
   .have P:(F !=g)=false:=by simp;exact c
    by_cases p:w<1
    .have s:=E (y.o O)
     clear c;go_wp2;go_returns;exact⟨by rw [s.o];rfl,N⟩
    .by_cases r:(f:Int) - g<w
     .have s:=E (y.o O)
      clear c;go_wp2;go_returns;exact⟨by rw [s.o];rfl,N⟩
     .have a5:=E (a3.o c O O)
      have c2:Zc G (g+w)=g+w:=Yx _ O;clear c;go_wp2;go_roundw
      case rel=>exact⟨a+1,O,S,int_eq a2.o.symm,a5.o,N⟩
      case measure=>simp [Yz];omega
   .have P:(F !=g)=true:=by simp;exact c
    have s:=E (y.o O);go_wp2;go_returns;exact⟨by rw [s.o];rfl,N⟩
  .obtain rfl:a=l:=O
   have v:Hd (h=true↔(uC b a=f/\1<=f/\f<=16)):=by
    have j:=z.o;have t:=C.o;unfold Ih at j;rw [D.o] at j;exact⟨λq=>(j.1 q).2,λq=>j.2 ⟨t,q⟩⟩
   generalize uC b a=g at*;clear z C;by_cases c:g=(f:Int)
   .have P:(g==(f:Int))=true:=by simp;exact c
    by_cases p:1<=f
    .by_cases r:f<=16
     .have i:=E (v.o.2 ⟨c,p,r⟩)
      clear c;go_wp2;go_returns;exact⟨by rw [i.o];first|rfl|(simp;omega),m⟩
     .have i:Hd (h=false):=by cases k:h with|false=>rfl|true=>exact absurd (v.o.1 k).2.2 r
      clear c;go_wp2;go_returns;exact⟨by rw [i.o];first|rfl|(simp;omega),m⟩
    .have i:Hd (h=false):=by cases k:h with|false=>rfl|true=>exact absurd (v.o.1 k).2.1 p
     clear c;go_wp2;go_returns;exact⟨by rw [i.o];first|rfl|(simp;omega),m⟩
   .have P:(g==(f:Int))=false:=by rw [beq_eq_false_iff_ne];exact c
    have i:Hd (h=false):=by cases k:h with|false=>rfl|true=>exact absurd (v.o.1 k).1 c
    go_wp2;go_returns;exact⟨by rw [i.o];first|rfl|(simp;omega),m⟩
end
end Go.Proofs.YtajkpgaheechmaaGreatDoor
