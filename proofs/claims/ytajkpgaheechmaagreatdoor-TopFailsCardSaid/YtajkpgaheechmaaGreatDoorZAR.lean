/- SrcI -/
import Derived.Test.YtajkpgaheechmaaGreatDoorZAO
import Derived.Test.YtajkpgaheechmaaGreatDoorZAM
set_option maxRecDepth 100000
set_option maxHeartbeats 16000000
set_option linter.unusedSimpArgs false
set_option linter.unusedVariables false
set_option linter.unusedSectionVars false
namespace Go.Proofs.YtajkpgaheechmaaGreatDoor
open _root_.Go.Proofs.Tryz
open Go.Value renaming int->A,slice->U,pointer->Q,nilIface->Ya,agg->Yc,iface->Yd,tuple->Ye
open Go.IntKind renaming i64->G,u8->Yf,wrap_i64->Yo,wrap->Zc
open Option renaming none->I,some->K
open Go.Obj renaming cells->M
open Go.Ending renaming returned->e
open Go renaming World->V,Value->Z,Calls->d,maxLen->YO
open Go.RowKit renaming Below->X,intOf->Yz
open Or renaming inl->Yg,inr->Yh
open Go.World renaming block_lt_of_cell?->Yj
open Nat renaming le_refl->Yk,zero_le->Yr,lt_of_lt_of_le->Yv
open Go.RowKit.Below renaming refl->Yn
open List renaming length_append->Yq
open Go.Value.slice renaming injEq->Yy
open Go.RowKit Go.Extern.Stop Go.Stop Go.Extern
theorem Kp{g:Bs}{f c j b a:Nat}{h:Int}(i:ia g f c j b= .error h)(m:b<=a):ia g f c j a= .error h:=by
 induction a with
 |zero=>
  obtain rfl:b=0:=O;exact i
 |succ a l=>
  by_cases k:b=a+1
  .subst k;exact i
  .rw [ia,l O]
def RO(h:Nat)(f:Int)(i:V)(g:Ending)(b:V):Prop:=∃a c,g=e (Ye #[Yc #[A G 0,A G 0,U I 0 0],Yd a c])/\cx b 1 (Yd a c) f/\af (·=h) i b
def ME(j:Nat)(h:Bs)(b a:Nat)(c:List Int)(i:Nat)(k:V)(l:Ending)(f:V):Prop:=∃g cap,l=e (Ye #[Yc #[A G b,A G a,U g (b*a) cap],Ya])/\aa f k (U g (b*a) cap) c/\c.length=b*a/\ax c 0 255=true/\Rd f j h i/\i<=8*h.length/\af (·=j) k f
section
variable {p:Nat} {b:Bs} {n W H:Nat} {w:V} (h:Rd w p b n) (hb:b.length<=140737488355328) (hn:n<=8*b.length) (hW1:8<=W) (hW:W<=32) (hH1:8<=H) (hH:H<=32)
include h hb hn hW1 hW hH1 hH
theorem Kn{c:Int}(i:j_ b W H n= .error c):d prog 47 #[Q (K p),A G W,A G H] w λf j=>RO p c w f j:=by
 refine(xU p b n W H w h hb hn hW1 hW hH1 hH).mono ?_;rintro f j (⟨k,err,a,l,g,m⟩|⟨s,t,r,cap,a,_⟩)
 .rw [i] at a
  obtain rfl:c=k:=by cases a;rfl
  obtain⟨o,q,rfl⟩:=g.shape;exact⟨o,q,l,g,m⟩
 .rw [i] at a;cases a
theorem E_{c:List Int}{f:Nat}(l:j_ b W H n= .ok (c,f)):d prog 47 #[Q (K p),A G W,A G H] w λg m=>ME p b W H c f w g m:=by
 refine(xU p b n W H w h hb hn hW1 hW hH1 hH).mono ?_;rintro g m (⟨x,err,a,_⟩|⟨u,v,o,cap,a,i,j,k,q,r,s,t⟩)
 .rw [l] at a;cases a
 .rw [l] at a
  obtain⟨rfl,rfl⟩:c=u/\f=v:=by cases a;exact⟨rfl,rfl⟩
  rw [k] at i j;exact⟨o,cap,i,j,k,q,r,s,t⟩
end
theorem iw.mono{j:V}{a B':Nat}{i:Z}{b:List Fr}(k:iw j a i b)(f:B'<=a):iw j B' i b:=by
 obtain⟨n,l,m,c⟩:=k;exact⟨n,aA l f,m,λh g=>⟨(c h g).1.mono f,(c h g).2⟩⟩
theorem iw.dS{m n:V}{b:Nat}{F:Nat->Prop}{l:Z}{c:List Fr}(o:iw m b l c)(j:af F m n)(h:∀a,F a->a<b):iw n b l c:=by
 obtain⟨s,f,p,g⟩:=o;refine⟨s,an f λa r=>?_,p,λk i=>⟨(g k i).1.dS j h,(g k i).2⟩⟩;have:=f.lt a r
 exact j.block a this.2 λq=>by have:=h a q;omega
theorem yO.below{f:Nat}{k l:V}{b j B:Nat}{g:Bs}(r:yO f k b g j)(i:X B k l)(u:b<B):yO f l b g j:=by
 obtain⟨m,cap,s,t,h⟩:=r;refine⟨m,cap,s.below i u,?_,h⟩;obtain⟨y,z,a,n,o,p,q⟩:=t;simp only [Yy] at a;obtain⟨rfl, -,rfl⟩:=a;refine⟨_,_,rfl,n,o,p,λx w=>?_⟩;obtain⟨c,off,a,v⟩:=q x w;have C:c<b:=h _ a;exact⟨c,off,a,(i.cell (p:=⟨c,_,I⟩) (O:c<B)).trans v⟩
theorem gz{a b c:V}(f:X a a b)(g:X b b c):X a a c:=ext f g
theorem jh{b a:Nat}{f g:V}(h:X b f g)(c:b<=a)(i j k:Z):X b f (((g.setCell a i).setCell ⟨a,1,I⟩ j).setCell ⟨a,2,I⟩ k):=
 ((h.setCell (by show b<=a;exact c) _).setCell (by show b<=a;exact c) _).setCell (by show b<=a;exact c) _
theorem di{f:Nat}{a g h:V}(b:X a a g)(c:af (·=f) g h)(i:a.heap.size<=f):X a a h:=b.trans (c.below (λj c=>O) b.size)
theorem JR(n1:Z)(b:Bs)(i:V)(v:ah i n1 b)(p4:b.length<=140737488355328)(c9:¬b.length<5)(l3:¬(av b 0≠75∨av b 1≠83))(l4:¬(dU (av b 2)=false∨dU (av b 3)=false∨av b 4<1∨16<av b 4)):
  d prog 18 #[n1] i λt z=>qB b i t z:=by
 have g9:=E (Ti c9 l3 l4);obtain⟨k,off,cap,rfl,p5,s7⟩:=v.ft O;obtain⟨b5,i6⟩:∃b5,b.length=b5:=⟨_,rfl⟩;rw [i6] at c9 v p5 p4⊢;have n2:i.cell? ⟨k,off,I⟩=K (A Yf (av b 0:Int)):=v.at (j:=0) O;have j3:i.cell? ⟨k,off+1,I⟩=K (A Yf (av b 1:Int)):=v.at (j:=1) O;have n3:i.cell? ⟨k,off+2,I⟩=K (A Yf (av b 2:Int)):=v.at (j:=2) O;have n4:i.cell? ⟨k,off+3,I⟩=K (A Yf (av b 3:Int)):=v.at (j:=3) O;have r1:i.cell? ⟨k,off+4,I⟩=K (A Yf (av b 4:Int)):=v.at (j:=4) O;have e1:=Yj i _ j3;have m9:av b 2<256:=UInt8.toNat_lt _;have n0:av b 3<256:=UInt8.toNat_lt _;have q5:av b 4<256:=UInt8.toNat_lt _;have k7:av b 0=75:=O;have k8:av b 1=83:=O;rw [k7] at n2;rw [k8] at j3
 have e9:dU (av b 2)=true:=by cases hh:dU (av b 2)<;>simp_all
 have g0:dU (av b 3)=true:=by cases hh:dU (av b 3)<;>simp_all
 have m8:1<=av b 4/\av b 4<=16:=O;have j5:=E (λh=>rG (av b 2) h m9);have j6:=E (λh=>rG (av b 3) h n0);rw [e9] at j5;rw [g0] at j6
 have l5:1<=av b 2/\av b 2<=4:=by unfold dU at e9;simpa using e9
 have l6:1<=av b 3/\av b 3<=4:=by unfold dU at g0;simpa using g0
 obtain⟨p,rfl⟩:∃p,b5=5+p:=⟨b5 - 5,O⟩;obtain⟨c8,rfl⟩:∃c7,cap=5+c7:=⟨cap - 5,O⟩;obtain⟨c,e7⟩:∃c,b.drop 5=c:=⟨_,rfl⟩
 have l9:c.length=p:=by rw [<-e7,List.length_drop,i6];omega
 have o6:=E (show ah i (U (K ⟨k,off+5,I⟩) p c8) c from by
  have:=kv (a:=5) (m:=p) v rfl;rw [e7,show 5+c8 - 5=c8 from O] at this
  exact this)
 rw [e7] at g9;have g1:8<=8*av b 2/\8*av b 2<=32:=O;have g2:8<=8*av b 3/\8*av b 3<=32:=O
 have s0:Zc G (8*(av b 2:Int))=((8*av b 2:Nat):Int):=by rw [Yo];omega
 have s3:Zc G (8*(av b 3:Int))=((8*av b 3:Nat):Int):=by rw [Yo];omega
 generalize 8*av b 2=D at*;generalize 8*av b 3=F at*;generalize av b 2=c5 at*;generalize av b 3=c6 at*;generalize av b 4=a2 at*;have u5:0<5+p:=O;have u6:1<5+p:=O;have u7:2<5+p:=O;have u9:3<5+p:=O;have v3:4<5+p:=O
 have s6:Zc G (a2:Int)=(a2:Int):=by rw [Yo];omega
 have s4:Zc G (c5:Int)=(c5:Int):=by rw [Yo];omega
 have s5:Zc G (c6:Int)=(c6:Int):=by rw [Yo];omega
 have v5:¬a2<1:=O;have v7:¬16<a2:=O;have o1:=E (λ(h:V) (y:X i i h)=>pF (U (K ⟨k,off+5,I⟩) p c8) c h (o6.o.ext y) O)
 have o2:=E (λ(q1:p=0) (h:V) (y:X i i h)=>pF (U (K ⟨k,off,I⟩) p 0) c h (by
  have p6:c=[]:=List.length_eq_zero_iff.1 O;subst p6;subst q1
  exact⟨_,0,rfl,Yk _,by simp [YO],λc9=>(by cases c9),λn m1=>by simp at m1⟩) O)
 have j8:=E m8;have r3:=E l5;have r4:=E l6;have g8:=E l9;have h4:=E (O:p<=140737488355328);have s8:p<=c8:=O;clear v i6 c9 l3 l4 k7 k8 m9 n0 q5 e9 g0 e7 l9 m8 l5 l6;go_enter func18,ntmps18
 go_wp2_with (first
  |(go_at_call 44;first|(with_reducible refine(j5.o _).mono ?_;rintro t z ⟨rfl,rfl⟩)|(with_reducible refine(j6.o _).mono ?_;rintro t z ⟨rfl,rfl⟩))
  |(go_at_call 46;(first|(with_reducible refine(o1.o _ N).mono ?_)|(refine(o2.o O _ N).mono ?_));rintro t q9 ⟨g,rfl,m6,e5,e6⟩;have p0:=E m6;have o3:=E e6;have r2:=(e6.cell (p:=⟨k,off+4,I⟩) e1).trans r1;have u0:k<q9.heap.size:=Yv e1 e6.size;clear m6 e6))
 all_goals
  have r5:=j8.o;have k5:=E n3;have k6:=E n4;clear n2 j3 n3 n4 r2
  go_loopw [6,67] (λb4 j1 wr=>∃(n:Nat) (R:List Fr) (l:Nat),n<=a2/\j1=A G n/\ia c D F 0 n= .ok (R,l)/\R.length=n/\iw wr (g+1) b4 R/\Rd wr g c l/\l<=8*c.length/\X i i wr) (λ_ j1 _=>a2 - (Yz j1).toNat)
  case atStart=>exact⟨0,[],0,Yr _,rfl,rfl,rfl,iw.nil _ _,p0.o,Yr _,o3.o⟩
  case round=>
   obtain⟨n,R,l,m1,rfl,m0,i3,i7,m7,i5,l7⟩:=hrel;obtain⟨q7,q6,rfl⟩:=i7.dm i3;have h1:=E m0;have j9:=E i3;have k4:=E i7;have a9:=E m7;have w:=E l7;clear m0 i3 i7 m7 l7;by_cases u2:n<a2
   .have x:=E (λ(h:V) (y:X i i h)=>show h.cell? ⟨k,off+2,I⟩=K (A Yf (c5:Int))/\h.cell? ⟨k,off+3,I⟩=K (A Yf (c6:Int)) from⟨(y.cell (p:=⟨k,off+2,I⟩) e1).trans k5.o,(y.cell (p:=⟨k,off+3,I⟩) e1).trans k6.o⟩)
    have h6:=E (x.o wr.drew w.o.drew);have u1:k<wr.heap.size:=Yv e1 w.o.size;have v8:(2:Int)<5+(p:Int):=O;have v9:(3:Int)<5+(p:Int):=O;have b6:=E (show X wr wr (wr.alloc (M #[A G 0,A G 0,U I 0 0] 81)).drew from((Yn _ _).alloc (Yk _) _).drew);have j4:=E (show ai (wr.alloc (M #[A G 0,A G 0,U I 0 0] 81)).drew wr #[A G 0,A G 0,U I 0 0] 81 from(ai.new wr _ _).bw);have h7:=E (x.o _ (gz w.o b6.o));have c1:=E (show X wr wr wr.drew from(Yn _ _).drew);have q0:=a9.o.lt;have m5:¬wr.heap.size=g:=O;have s9:k≠wr.heap.size:=O
    have g5:wr.heap.size<(wr.alloc (M #[A G 0,A G 0,U I 0 0] 81)).drew.heap.size:=by show wr.heap.size<(wr.alloc _).heap.size;simp
    have q3:g+1<=(wr.alloc (M #[A G 0,A G 0,U I 0 0] 81)).drew.heap.size:=O
    cases hfr:j_ c D F l with
    |error c7=>
     have a8:=E (λ(h:V) (y:Rd h g c l)=>Kn y (by rw [g8.o];exact h4.o) i5 g1.1 g1.2 g2.1 g2.2 hfr)
     have o7:=E (show jq b= .error c7 from by
      have q2:ia c D F 0 (n+1)= .error c7:=by rw [ia,h1.o];simp only;rw [hfr]
      rw [g9.o,Kp q2 O])
     clear hfr;simp only [RO] at a8
     go_wp2_with fail
     go_region_held3 (λz=>z.cell? ⟨k,off+2,I⟩=K (A Yf (c5:Int))/\z.cell? ⟨k,off+3,I⟩=K (A Yf (c6:Int)))
      (first|with_reducible exact h6.o|with_reducible exact h7.o|with_reducible exact b8.o|with_reducible exact h8.o _ _ _|with_reducible exact h9.o _ _ _|with_reducible exact i0.o _|with_reducible exact i1.o _)
      (first
       |(go_at_call 47;with_reducible refine(a8.o _ (a9.o.ext b6.o)).mono ?_;rintro t j ⟨q8,C,rfl,e0,m⟩;have f:=E (di (gz w.o b6.o) m e5);have b8:=E (x.o j f.o);have h8:=E (λ(C T r:Z)=>x.o (((j.setCell wr C).setCell ⟨wr,1,I⟩ T).setCell ⟨wr,2,I⟩ r) (jh f.o w.o.size C T r));have h9:=E (λ(C T r:Z)=>x.o (((j.setCell wr C).setCell ⟨wr,1,I⟩ T).setCell ⟨wr,2,I⟩ r).drew (jh f.o w.o.size C T r).drew);have a7:=E (j4.o.dS m m5);obtain⟨⟨n6,n8,n9⟩,k9,l0,l1⟩:=a7.o.tS;have p8:=a7.o.lt;have g7:=E (e0.Nk (a7.o.cell 2) Y (A G 0) (A G 0) (U I 0 0));clear e0 m)
       |(go_at_call 47;with_reducible refine(a8.o _ (a9.o.ext c1.o)).mono ?_;rintro t j ⟨q8,C,rfl,e0,m⟩;have f:=E (di (gz w.o c1.o) m e5);have b8:=E (x.o j f.o);have i0:=E (λ(b0:Array Z)=>x.o (j.alloc (M b0 81)) (f.o.alloc f.o.size _));have i1:=E (λ(b0:Array Z)=>x.o (j.alloc (M b0 81)).drew (f.o.alloc f.o.size _).drew);have g7:=E e0;clear e0 m))
     all_goals go_wp2_with fail
     all_goals
      refine(jm _ _ _ _ _).mono ?_;rintro t j2 ⟨l2,rfl,a5,m2,J⟩;have c3:=E a5;have P:=E J;clear a5 J;go_wp2;go_returns;exact Yg ⟨c7,_,o7.o,rfl,cx.SO (n:=1) c3.o (by first|exact g7.o.ext P.o|exact(g7.o.ext (N:X j j _)).ext P.o),by first|exact ext (jh f.o w.o.size _ _ _) P.o|exact ext (ext f.o (N:X j j _)) P.o⟩
    |ok q=>
     obtain⟨b4,g3⟩:=q;have a8:=E (λ(h:V) (y:Rd h g c l)=>E_ y (by rw [g8.o];exact h4.o) i5 g1.1 g1.2 g2.1 g2.2 hfr);have p1:=E (show ia c D F 0 (n+1)= .ok (R++[⟨D,F,b4⟩],g3) from by rw [ia,h1.o];simp only;rw [hfr]);clear hfr;obtain⟨a0,p2⟩:∃a0,D*F=a0:=⟨_,rfl⟩;simp only [ME,p2] at a8
     go_wp2_with fail
     go_region_held3 (λz=>z.cell? ⟨k,off+2,I⟩=K (A Yf (c5:Int))/\z.cell? ⟨k,off+3,I⟩=K (A Yf (c6:Int)))
      (first|with_reducible exact h6.o|with_reducible exact h7.o|with_reducible exact b8.o|with_reducible exact h8.o _ _ _|with_reducible exact h9.o _ _ _|with_reducible exact i0.o _|with_reducible exact i1.o _)
      (first
       |(go_at_call 47;with_reducible refine(a8.o _ (a9.o.ext b6.o)).mono ?_;rintro t j ⟨a1,a3,rfl,e4,i4,i9,a6,e3,m⟩;have f:=E (di (gz w.o b6.o) m e5);have b8:=E (x.o j f.o);have h8:=E (λ(C T r:Z)=>x.o (((j.setCell wr C).setCell ⟨wr,1,I⟩ T).setCell ⟨wr,2,I⟩ r) (jh f.o w.o.size C T r));have h9:=E (λ(C T r:Z)=>x.o (((j.setCell wr C).setCell ⟨wr,1,I⟩ T).setCell ⟨wr,2,I⟩ r).drew (jh f.o w.o.size C T r).drew);have a7:=E (j4.o.dS m m5);obtain⟨⟨n6,n8,n9⟩,k9,l0,l1⟩:=a7.o.tS;have p8:=a7.o.lt;have c4:=E e4;have b7:=E a6;have h2:=E m;have k3:=E e3;clear e4 a6 m e3 i4 i9)
       |(go_at_call 47;with_reducible refine(a8.o _ (a9.o.ext c1.o)).mono ?_;rintro t j ⟨a1,a3,rfl,e4,i4,i9,a6,e3,m⟩;have f:=E (di (gz w.o c1.o) m e5);have b8:=E (x.o j f.o);have i0:=E (λ(b0:Array Z)=>x.o (j.alloc (M b0 81)) (f.o.alloc f.o.size _));have i1:=E (λ(b0:Array Z)=>x.o (j.alloc (M b0 81)).drew (f.o.alloc f.o.size _).drew);have c4:=E e4;have b7:=E a6;have h2:=E m;have k3:=E e3;clear e4 a6 m e3 i4 i9))
     all_goals
      clear k5 k6 h6 h7 b8
      first
       |(obtain⟨s,u⟩:∃s,(((j.setCell wr (A G D)).setCell ⟨wr,1,I⟩ (A G F)).setCell ⟨wr,2,I⟩ (U a1 a0 a3))=s:=⟨_,rfl⟩;obtain⟨b1,b2⟩:∃b1,wr.heap.size=b1:=⟨_,rfl⟩;have g4:=E (show ai s b1 #[A G D,A G F,U a1 a0 a3] 81 from by rw [<-u,<-b2];exact a7.o.rD _ _ _);rw [u];have h5:=E (show Rd s g c g3 from by rw [<-u];exact b7.o.up O _ _ _);have k2:=E (show af (·=g) wr s from by rw [<-u];exact fY ((af.aj b6.o).trans h2.o) (Yk _) _ _ _);have k1:=E (show aa s (g+1) (U a1 a0 a3) b4 from by rw [<-u];exact(((c4.o.ab (a:=wr) (by show wr.heap.size<_;exact g5) _).ab (a:=⟨wr,1,I⟩) (by show wr.heap.size<_;exact g5) _).ab (a:=⟨wr,2,I⟩) (by show wr.heap.size<_;exact g5) _).mono q3);have k0:=E (show X i i s from by rw [<-u];exact jh f.o w.o.size _ _ _);rw [b2];clear u b2)
       |(obtain⟨s,u⟩:∃s,(j.alloc (M #[A G D,A G F,U a1 a0 a3] 81))=s:=⟨_,rfl⟩;obtain⟨b1,b2⟩:∃b1,j.heap.size=b1:=⟨_,rfl⟩;have g4:=E (show ai s b1 #[A G D,A G F,U a1 a0 a3] 81 from by rw [<-u,<-b2];exact ai.new _ _ _);rw [u];have h5:=E (show Rd s g c g3 from by rw [<-u];exact b7.o.ext N);have k2:=E (show af (·=g) wr s from by rw [<-u];exact aE ((af.aj c1.o).trans h2.o) N);have k1:=E (show aa s (g+1) (U a1 a0 a3) b4 from by rw [<-u];exact(c4.o.alloc _).mono (by show g+1<=wr.heap.size;omega));have k0:=E (show X i i s from by rw [<-u];exact f.o.alloc f.o.size _);rw [b2];clear u b2)
      have o9:=E (k4.o.dS k2.o (by intro q4 p7;omega))
      try clear n6 n8 n9 k9 l0 l1
      obtain⟨⟨r7,r8,r9⟩, -⟩:=g4.o.tS;have u3:=g4.o.lt;have u4:=h5.o.lt;have o8:=E (show R.length<=1000000 from by have:=j9.o;have:=j8.o;omega)
      go_wp2_with (at_builtin;refine oJ (W:=s) rfl (.tmp 90) (.tmp 92) rfl (g+1) (U q7 n q6) (U a1 a0 a3) R ⟨(D:Int),(F:Int),b4⟩ rfl o9.o k1.o (by constructor<;>(unfold bh;simp only;omega)) rfl rfl o8.o O ?_;intro w1 j2 m4 J;have h3:=E m4;have P:=E J;clear m4 J)
      go_roundw
      case rel=>
       refine⟨n+1,R++[⟨(D:Int),(F:Int),b4⟩],g3,O,S,p1.o,by rw [Yq,j9.o];rfl,h3.o,(h5.o.ext N).below P.o (Nat.lt_succ_self _),k3.o,?_⟩;exact k0.o.trans (P.o.mono (O:i.heap.size<=g+1))
      case measure=>simp [Yz];omega
   .obtain rfl:n=a2:=O
    have l8:c.length<=140737488355328:=by rw [g8.o];exact h4.o
    obtain⟨r,j0⟩:∃r,bI c l ((8 - l%8)%8)=r:=⟨_,rfl⟩;obtain⟨L,m3⟩:∃L,l+(8 - l%8)%8=L:=⟨_,rfl⟩;have p9:L<=8*c.length:=O
    have o0:=E (λ(h:V) (y:Rd h g c l)=>show d prog 48 #[Q (K g)] h λt z=>∃err,t=e err/\Sc z err r/\Rd z g c L/\af (·=g) h z from by
     have:=Jm g c l h y l8 i5;rw [j0,m3] at this;exact this)
    have j7:=E (λ(h:V) (y:Rd h g c L)=>sH g c L h y p9 l8)
    have b9:rV c l=if r≠0 then 2 else if L<8*c.length then 5 else 0:=by
     unfold rV;rw [j0];by_cases b3:r≠0
     .rw [if_pos b3,if_pos b3]
     .rw [if_neg b3,if_neg b3]
      by_cases e2:L<8*c.length
      .rw [if_pos e2,if_pos O]
      .rw [if_neg e2,if_neg O]
    have h0:=E (show jq b=if rV c l≠0 then .error (rV c l) else .ok R from by rw [g9.o,h1.o]);have q0:=a9.o.lt
    go_wp2_with fail
    refine(o0.o _ a9.o).mono ?_;rintro t j ⟨err,rfl,p3,a6,m⟩;have b7:=E a6;have f:=E (di w.o m e5);have c4:=E (k4.o.dS m (by intro q4 p7;omega));clear a6 m j0 m3
    rcases p3 with⟨b3,rfl⟩|⟨b3,i2⟩
    .by_cases e2:L<8*c.length
     .have c2:=E (show jq b= .error 5 from by
       have v:rV c l=5:=by rw [b9,if_neg O,if_pos e2]
       rw [h0.o,v];rfl)
      have e8:0<8*c.length - L:=O;clear b9
      go_wp2_with fail
      refine(j7.o _ b7.o).mono ?_;rintro t j2 ⟨rfl,J⟩;have P:=E (ext f.o J);generalize 8*c.length - L=r6 at e8⊢;clear J
      go_wp2_with fail
      refine(jm _ _ _ _ _).mono ?_;rintro t r0 ⟨l2,rfl,a5,m2,c0⟩;have c3:=E a5;have g6:=E (ext P.o c0);clear a5 c0;go_wp2;go_returns;exact Yg ⟨5,_,c2.o,rfl,Yg (cx.SO (n:=0) c3.o rfl),g6.o⟩
     .have c2:=E (show jq b= .ok R from by
       have v:rV c l=0:=by rw [b9,if_neg O,if_neg e2]
       rw [h0.o,v];rfl)
      have e8:8*c.length - L=0:=O;clear b9
      go_wp2_with fail
      refine(j7.o _ b7.o).mono ?_;rintro t j2 ⟨rfl,J⟩;have P:=E (ext f.o J);have h3:=E (c4.o.ext J);rw [e8];clear J e8;go_wp2;go_returns;exact Yh ⟨R,_,c2.o,rfl,h3.o.mono O,P.o⟩
    .obtain⟨w0,w2,rfl⟩:=i2.shape
     have c2:=E (show jq b= .error 2 from by
      have v:rV c l=2:=by rw [b9,if_pos b3]
      rw [h0.o,v];rfl)
     have o4:=E i2;clear i2 b9
     go_wp2_with fail
     refine(jm _ _ _ _ _).mono ?_;rintro t r0 ⟨l2,rfl,a5,m2,c0⟩;have c3:=E a5;have o5:=E (o4.o.ext c0);have g6:=E (ext f.o c0);clear a5 c0;go_wp2;go_returns;exact Yg ⟨2,_,c2.o,rfl,cx.SO (n:=1) c3.o o5.o,g6.o⟩
theorem kC(c:Z)(a:Bs)(b:V)(g:ah b c a)(k:a.length<=140737488355328):d prog 18 #[c] b λj l=>qB a b j l:=by
 by_cases f:a.length<5
 .exact zc c a b g f
 by_cases h:av a 0≠75∨av a 1≠83
 .exact AG c a b g f h
 by_cases i:dU (av a 2)=false∨dU (av a 3)=false∨av a 4<1∨16<av a 4
 .exact za c a b g f h i
 .exact JR c a b g k f h i
end Go.Proofs.YtajkpgaheechmaaGreatDoor
