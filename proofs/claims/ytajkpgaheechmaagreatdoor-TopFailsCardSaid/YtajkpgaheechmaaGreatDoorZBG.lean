/- RefM -/
import Derived.Test.YtajkpgaheechmaaGreatDoorZBF
set_option maxRecDepth 100000
set_option maxHeartbeats 16000000
set_option linter.unusedSimpArgs false
set_option linter.unusedVariables false
set_option linter.unusedSectionVars false
namespace Go.Proofs.YtajkpgaheechmaaGreatDoor
open _root_.Go.Proofs.Tryz
open Go.Value renaming int->A,slice->U
open Go.IntKind renaming i64->G,u8->Yf,wrap_i64->Yo,wrap->Zc
open Option renaming none->I,some->K
open Go.Obj renaming cells->M
open Go renaming World->V,Value->Z,Calls->d,Addr->Yi,bodyPost_ret->YD,maxLen->YO,results->YU
open Go.RowKit renaming Below->X,intOf->Yz
open Or renaming inl->Yg,inr->Yh
open Go.World renaming block_lt_of_cell?->Yj
open Nat renaming le_refl->Yk,le_trans->Yl,zero_le->Yr,lt_of_lt_of_le->Yv
open Go.RowKit.Below renaming refl->Yn
open List renaming length_append->Yq
open Go.Value.slice renaming injEq->Yy
open Go.RowKit Go.Extern.Stop Go.Stop Go.Extern
theorem Br(e7:Z)(a:Bs)(b:V)(b5:ah b e7 a)(p8:a.length<=20000)(q0:∀w3 cap,e7=U w3 a.length cap->cap=5)(i1:¬a.length<5)(w4:¬(av a 0≠75∨av a 1≠83))(i2:¬(dU (av a 2)=false∨dU (av a 3)=false∨av a 4<1∨16<av a 4)):
  d prog 65 #[e7] b (Jh b):=by
 have v9:=E (ai.new b #[A G 0,U I 0 0] 100);have b7:=E (N:X b b (b.alloc (M #[A G 0,U I 0 0] 100)));have j1:=E (λ(n:V)=>nf (U I 0 0) n);have h4:=E (λ(h:Int) (p4:Option Yi) (e6 j9:Nat) (x2:(h==0)=false) (n:V)=>pG h x2 (U p4 e6 j9) n);have j0:=E (λ(g9:Int) (e7:Z) (n:V) (b0:eX n e7)=>Dr #[115,111,117,114,99,101] g9 e7 n b0);have s3:=E (λ(n:V)=>nZ 5 n);obtain⟨x,off,cap,rfl,w6,y9⟩:=b5.ft O;have w5:=q0 _ _ rfl;obtain⟨e6,l0⟩:∃e6,a.length=e6:=⟨_,rfl⟩;rw [l0] at i1 b5 w6 p8⊢;have r9:b.cell? ⟨x,off,I⟩=K (A Yf (av a 0:Int)):=b5.at (j:=0) O;have m0:b.cell? ⟨x,off+1,I⟩=K (A Yf (av a 1:Int)):=b5.at (j:=1) O;have i7:b.cell? ⟨x,off+2,I⟩=K (A Yf (av a 2:Int)):=b5.at (j:=2) O;have i9:b.cell? ⟨x,off+3,I⟩=K (A Yf (av a 3:Int)):=b5.at (j:=3) O;have y1:b.cell? ⟨x,off+4,I⟩=K (A Yf (av a 4:Int)):=b5.at (j:=4) O;have e5:=Yj b _ m0;have p5:av a 0=75:=O;have p6:av a 1=83:=O;rw [p5] at r9;rw [p6] at m0;rw [mC,mC] at i2;obtain⟨C,rfl⟩:∃C,e6=5+C:=⟨e6 - 5,O⟩;obtain⟨g4,rfl⟩:∃j9,cap=5+j9:=⟨cap - 5,O⟩;have z1:g4=0:=O;obtain⟨g,k8⟩:∃g,a.drop 5=g:=⟨_,rfl⟩
 have q1:g.length=C:=by rw [<-k8,List.length_drop,l0];omega
 have s8:=E (show ah b (U (K ⟨x,off+5,I⟩) C g4) g from by
  have:=kv (a:=5) (m:=C) b5 rfl;rw [k8,show 5+g4 - 5=g4 from O] at this
  exact this)
 have s9:=E (show C=0->ah b (U (K ⟨x,off,I⟩) C 0) g from λx1=>by
  have w7:g=[]:=List.length_eq_zero_iff.1 O;subst w7;subst x1
  exact⟨_,0,rfl,Yk _,by simp [YO],λi1=>(by cases i1),λR q3=>by simp at q3⟩)
 have r4:8<=8*av a 2/\8*av a 2<=32:=O;have r5:8<=8*av a 3/\8*av a 3<=32:=O
 have y4:Zc G (8*(av a 2:Int))=((8*av a 2:Nat):Int):=by rw [Yo];omega
 have y5:Zc G (8*(av a 3:Int))=((8*av a 3:Nat):Int):=by rw [Yo];omega
 have c5:1<=av a 4/\av a 4<=16:=O;have A4:¬av a 2<1:=O;have A5:¬4<av a 2:=O;have A6:¬av a 3<1:=O;have A7:¬4<av a 3:=O;have A8:¬av a 4<1:=O;have A9:¬16<av a 4:=O;generalize 8*av a 2=b3 at*;generalize 8*av a 3=b4 at*;generalize av a 2=h9 at*;generalize av a 3=i0 at*;generalize av a 4=e3 at*;have z7:0<5+C:=O;have z8:1<5+C:=O;have z9:2<5+C:=O;have A0:3<5+C:=O;have A1:4<5+C:=O
 have y8:Zc G (e3:Int)=(e3:Int):=by rw [Yo];omega
 have y6:Zc G (h9:Int)=(h9:Int):=by rw [Yo];omega
 have y7:Zc G (i0:Int)=(i0:Int):=by rw [Yo];omega
 have u0:=E q1;have j6:=E (O:g.length<=1000000);have h5:=E c5;have z0:C<=g4:=O;clear q0 w5 b5 l0 i1 w4 i2 p5 p6 k8 q1 c5 p8;go_enter func65,ntmps65;go_wp2
 all_goals
  have o2:=E i7;have o3:=E i9;clear r9 m0 i7 i9 y1
  go_loopw [5,7] (λi6 g9 wr=>∃(R:Nat) (e4:List Fr) (b9:Nat),R<=e3/\g9=A G R/\e4.length=R/\iw wr (b.heap.size+2) i6 e4/\l_ wr (b.heap.size+1) g b9/\b9<=8*g.length/\ai wr b #[A G 0,U I 0 0] 100/\X b b wr) (λ_ g9 _=>e3 - (Yz g9).toNat)
  case atStart=>exact⟨0,[],0,Yr _,rfl,rfl,iw.nil _ _,IS (by first|exact s8.o|exact s9.o O) b7.o Y u0.o.symm (by intro y3 t;cases t;exact e5),Yr _,v9.o.alloc _,ext b7.o N⟩
  case round=>
   obtain⟨R,e4,b9,q3,rfl,k9,l1,r3,q4,p7,p9⟩:=hrel;obtain⟨x6,x5,rfl⟩:=l1.dm k9;have j4:=E k9;have o1:=E l1;have a9:=E r3;have n8:=E p7;have a3:=E p9;clear k9 l1 r3 p9 p7;by_cases z5:R<e3
   .have z3:x<wr.heap.size:=Yv e5 a3.o.size
    have i7:=(a3.o.cell (p:=⟨x,off+2,I⟩) e5).trans o2.o;have i9:=(a3.o.cell (p:=⟨x,off+3,I⟩) e5).trans o3.o;have p3:=E (λ(n:V) (b0:X b b n)=>show n.cell? ⟨x,off+2,I⟩=K (A Yf (h9:Int))/\n.cell? ⟨x,off+3,I⟩=K (A Yf (i0:Int)) from⟨(b0.cell (p:=⟨x,off+2,I⟩) e5).trans o2.o,(b0.cell (p:=⟨x,off+3,I⟩) e5).trans o3.o⟩);have e1:=E (λ(n:V) (b0:l_ n (b.heap.size+1) g b9)=>vD (b.heap.size+1) g b9 b3 b4 n b0 j6.o q4 r4.1 r4.2 r5.1 r5.2);have A2:(2:Int)<5+(C:Int):=O;have A3:(3:Int)<5+(C:Int):=O;have z6:=a3.o.size;have b7:=E (show X wr wr (((wr.alloc (M #[A G 0,A G 0,U I 0 0] 81)).alloc (M #[A G 0,U I 0 0] 100)).drew) from(((Yn _ _).alloc (Yk _) _).alloc Y _).drew);have o8:=E (a9.o.ext b7.o);have e8:=E (show X wr wr (((wr.alloc (M #[A G 0,U I 0 0] 100)).alloc (M #[A G 0,A G 0,U I 0 0] 81)).drew) from(((Yn _ _).alloc (Yk _) _).alloc Y _).drew);have o9:=E (a9.o.ext e8.o);have e9:=E (show X wr wr ((wr.alloc (M #[A G 0,A G 0,U I 0 0] 81)).drew) from((Yn _ _).alloc (Yk _) _).drew);have p0:=E (a9.o.ext e9.o);have g0:=E (show X wr wr ((wr.alloc (M #[A G 0,U I 0 0] 100)).drew) from((Yn _ _).alloc (Yk _) _).drew);have p1:=E (a9.o.ext g0.o);have b1:=E (show X wr wr (wr.drew) from(Yn _ _).drew);have p2:=E (a9.o.ext b1.o);have n1:=E (show ai (((wr.alloc (M #[A G 0,A G 0,U I 0 0] 81)).alloc (M #[A G 0,U I 0 0] 100)).drew) wr #[A G 0,A G 0,U I 0 0] 81 from((ai.new wr _ _).alloc _).bw);have m7:=E (show ai (((wr.alloc (M #[A G 0,A G 0,U I 0 0] 81)).alloc (M #[A G 0,U I 0 0] 100)).drew) (wr.heap.size+1) #[A G 0,U I 0 0] 100 from(fI _ _ _ _ Y).bw);have m8:=E (show ai (((wr.alloc (M #[A G 0,U I 0 0] 100)).alloc (M #[A G 0,A G 0,U I 0 0] 81)).drew) wr #[A G 0,U I 0 0] 100 from((ai.new wr _ _).alloc _).bw);have n2:=E (show ai (((wr.alloc (M #[A G 0,U I 0 0] 100)).alloc (M #[A G 0,A G 0,U I 0 0] 81)).drew) (wr.heap.size+1) #[A G 0,A G 0,U I 0 0] 81 from(fI _ _ _ _ Y).bw);have n3:=E (show ai ((wr.alloc (M #[A G 0,A G 0,U I 0 0] 81)).drew) wr #[A G 0,A G 0,U I 0 0] 81 from(ai.new wr _ _).bw);have m9:=E (show ai ((wr.alloc (M #[A G 0,U I 0 0] 100)).drew) wr #[A G 0,U I 0 0] 100 from(ai.new wr _ _).bw);have o4:=E (show wr.heap.size+1<(((wr.alloc (M #[A G 0,A G 0,U I 0 0] 81)).alloc (M #[A G 0,U I 0 0] 100)).drew).heap.size from by show _<((wr.alloc _).alloc _).heap.size;simp);have o5:=E (show wr.heap.size+1<(((wr.alloc (M #[A G 0,U I 0 0] 100)).alloc (M #[A G 0,A G 0,U I 0 0] 81)).drew).heap.size from by show _<((wr.alloc _).alloc _).heap.size;simp);have o6:=E (show wr.heap.size<((wr.alloc (M #[A G 0,A G 0,U I 0 0] 81)).drew).heap.size from by show _<(wr.alloc _).heap.size;simp);have o7:=E (show wr.heap.size<((wr.alloc (M #[A G 0,U I 0 0] 100)).drew).heap.size from by show _<(wr.alloc _).heap.size;simp)
    have i4:¬wr.heap.size=b.heap.size+1:=by have:=a9.o.lt;omega
    have q6:¬wr.heap.size+1=b.heap.size+1:=by have:=a9.o.lt;omega
    have g7:=a9.o.lt;clear i7 i9
    go_wp2_with fail
    go_region_held3 (λr7=>r7.cell? ⟨x,off+2,I⟩=K (A Yf (h9:Int))/\r7.cell? ⟨x,off+3,I⟩=K (A Yf (i0:Int)))
     ((refine p3.o _ ?_;repeat' (first|with_reducible exact a3.o|with_reducible exact a8.o|with_reducible refine Below.drew ?_|with_reducible refine Below.alloc ?_ ?_ _|with_reducible refine Below.setCell ?_ ?_ _|omega|(simp;done)|(simp;omega))))
     (first
      |(go_at_call 98;with_reducible refine(e1.o _ o8.o).mono ?_;intro t f L;obtain⟨y,z,v,fn,w,h,k,m,l,rfl,P,c⟩:=fx L;have a1:=E (n1.o.dS c i4);obtain⟨⟨m3,m4,m5⟩,k3,k4,k5⟩:=a1.o.tS;have l3:=a1.o.lt;have a0:=E (m7.o.dS c q6);obtain⟨m1,m2,k6,g6⟩:=a0.o.two;have l2:=a0.o.lt;have a6:=E P;have a5:=E c;have a8:=E (di (gz a3.o b7.o) c (Nat.le_succ _));have c5:=a8.o.size;have i5:wr.heap.size<=f.heap.size:=Yl b7.o.size c.size;clear L P c)
      |(go_at_call 98;with_reducible refine(e1.o _ o9.o).mono ?_;intro t f L;obtain⟨y,z,v,fn,w,h,k,m,l,rfl,P,c⟩:=fx L;have a0:=E (m8.o.dS c i4);obtain⟨m1,m2,k6,g6⟩:=a0.o.two;have l2:=a0.o.lt;have a1:=E (n2.o.dS c q6);obtain⟨⟨m3,m4,m5⟩,k3,k4,k5⟩:=a1.o.tS;have l3:=a1.o.lt;have a6:=E P;have a5:=E c;have a8:=E (di (gz a3.o e8.o) c (Nat.le_succ _));have c5:=a8.o.size;have i5:wr.heap.size<=f.heap.size:=Yl e8.o.size c.size;clear L P c)
      |(go_at_call 98;with_reducible refine(e1.o _ p0.o).mono ?_;intro t f L;obtain⟨y,z,v,fn,w,h,k,m,l,rfl,P,c⟩:=fx L;have a1:=E (n3.o.dS c i4);obtain⟨⟨m3,m4,m5⟩,k3,k4,k5⟩:=a1.o.tS;have l3:=a1.o.lt;have a6:=E P;have a5:=E c;have a8:=E (di (gz a3.o e9.o) c (Nat.le_succ _));have c5:=a8.o.size;have i5:wr.heap.size<=f.heap.size:=Yl e9.o.size c.size;clear L P c)
      |(go_at_call 98;with_reducible refine(e1.o _ p1.o).mono ?_;intro t f L;obtain⟨y,z,v,fn,w,h,k,m,l,rfl,P,c⟩:=fx L;have a0:=E (m9.o.dS c i4);obtain⟨m1,m2,k6,g6⟩:=a0.o.two;have l2:=a0.o.lt;have a6:=E P;have a5:=E c;have a8:=E (di (gz a3.o g0.o) c (Nat.le_succ _));have c5:=a8.o.size;have i5:wr.heap.size<=f.heap.size:=Yl g0.o.size c.size;clear L P c)
      |(go_at_call 98;with_reducible refine(e1.o _ p2.o).mono ?_;intro t f L;obtain⟨y,z,v,fn,w,h,k,m,l,rfl,P,c⟩:=fx L;have a6:=E P;have a5:=E c;have a8:=E (di (gz a3.o b1.o) c (Nat.le_succ _));have c5:=a8.o.size;have i5:wr.heap.size<=f.heap.size:=Yl b1.o.size c.size;clear L P c))
    all_goals
     try clear m3 m4 m5 k3 k4 k5 l3
     try clear m1 m2 k6 g6 l2
     first
      |(obtain⟨i,j⟩:∃i,((f.alloc (M #[A G y,A G z,U v fn w] 81)).alloc (M #[A G h,U k m l] 100))=i:=⟨_,rfl⟩;have T:=E (show Aa wr (b.heap.size+1) g b3 b4 (f.heap.size) (f.heap.size+1) y z (U v fn w) h (U k m l) i from by rw [<-j];exact TO a6.o a5.o b1.o);rw [j];clear j)
      |(obtain⟨i,j⟩:∃i,((f.alloc (M #[A G h,U k m l] 100)).alloc (M #[A G y,A G z,U v fn w] 81))=i:=⟨_,rfl⟩;have T:=E (show Aa wr (b.heap.size+1) g b3 b4 (f.heap.size+1) (f.heap.size) y z (U v fn w) h (U k m l) i from by rw [<-j];exact TQ a6.o a5.o b1.o);rw [j];clear j)
      |(obtain⟨i,j⟩:∃i,((((f.setCell wr (A G y)).setCell ⟨wr,1,I⟩ (A G z)).setCell ⟨wr,2,I⟩ (U v fn w)).alloc (M #[A G h,U k m l] 100))=i:=⟨_,rfl⟩;have T:=E (show Aa wr (b.heap.size+1) g b3 b4 (wr.heap.size) (f.heap.size) y z (U v fn w) h (U k m l) i from by rw [<-j];exact TR a6.o a5.o e9.o g7 a1.o o6.o);rw [j];clear j)
      |(obtain⟨i,j⟩:∃i,(((((f.setCell wr (A G y)).setCell ⟨wr,1,I⟩ (A G z)).setCell ⟨wr,2,I⟩ (U v fn w)).setCell ⟨wr.heap.size+1,0,I⟩ (A G h)).setCell ⟨wr.heap.size+1,1,I⟩ (U k m l))=i:=⟨_,rfl⟩;have T:=E (show Aa wr (b.heap.size+1) g b3 b4 (wr.heap.size) (wr.heap.size+1) y z (U v fn w) h (U k m l) i from by rw [<-j];exact TS a6.o a5.o b7.o g7 a1.o a0.o o4.o);rw [j];clear j)
      |(obtain⟨i,j⟩:∃i,(((f.setCell wr (A G h)).setCell ⟨wr,1,I⟩ (U k m l)).alloc (M #[A G y,A G z,U v fn w] 81))=i:=⟨_,rfl⟩;have T:=E (show Aa wr (b.heap.size+1) g b3 b4 (f.heap.size) (wr.heap.size) y z (U v fn w) h (U k m l) i from by rw [<-j];exact TU a6.o a5.o g0.o g7 a0.o o7.o);rw [j];clear j)
      |(obtain⟨i,j⟩:∃i,(((((f.setCell ⟨wr.heap.size+1,0,I⟩ (A G y)).setCell ⟨wr.heap.size+1,1,I⟩ (A G z)).setCell ⟨wr.heap.size+1,2,I⟩ (U v fn w)).setCell wr (A G h)).setCell ⟨wr,1,I⟩ (U k m l))=i:=⟨_,rfl⟩;have T:=E (show Aa wr (b.heap.size+1) g b3 b4 (wr.heap.size+1) (wr.heap.size) y z (U v fn w) h (U k m l) i from by rw [<-j];exact TV a6.o a5.o e8.o g7 a0.o a1.o o5.o);rw [j];clear j)
     have j5:=E T.o.aD
     try clear a1
     try clear a0
     clear a6 a5 p3 e1 n1 m7 m8 n2 n3 m9 o4 o5 o6 o7 o8 o9 p0 p1 p2 b7 e8 e9 g0 b1;have h6:=E (di a3.o j5.o (Nat.le_succ _));have v5:=E (o1.o.dS j5.o (by intro x4 w8;omega));have n9:=E (dJ n8.o j5.o O);obtain⟨⟨k0,k1,k2⟩, -⟩:=T.o.bf.tS;have l4:=T.o.bf.lt;obtain⟨r,s, -, -⟩:=T.o.be.two;have u:=T.o.be.lt
     rcases T.o.res with c4|⟨rfl,rfl,rfl,g8,i6,x7,q7,r1,q5⟩
     .have j3:=E c4
      have h7:=E c4.nz;clear c4
      go_wp2_with fail
      refine(h4.o h k m l h7.o _).mono ?_;rintro t h2 ⟨rfl,q⟩;have b2:=E q;have s5:=E (j3.o.ext q);have b6:=E (T.o.be.ext q);clear r s u k0 k1 k2 l4 q;obtain⟨r,s, -, -⟩:=b6.o.two;have u:=b6.o.lt
      go_wp2_with fail
      refine(j0.o _ _ _ s5.o).mono ?_;rintro t l9 ⟨⟨r6,rfl,h0,g3,h1,g5,rfl,b8⟩,J⟩;have a2:=E (w_ h6.o (gz b2.o J) h6.o.size);have a7:=E ((n9.o.ext b2.o).ext J);have g2:=E b8;clear J b8 r s u;obtain⟨l5,l6,l7,l8⟩:=a7.o.two;have lt:=a7.o.lt;go_wp2;obtain⟨c6,c7,c8,c9⟩:=(a7.o.dC (A G h0) (U g3 h1 g5)).two;refine YD (by simp [YU,results65,go_sem,c6,c7,c8,c9];try rfl) rfl ?_;exact Yg ⟨_,_,_,_,rfl,⟨_,_,_,_,rfl,g2.o⟩,cH a2.o (Yk _) _ _⟩
     .simp only [Yy] at g8
      obtain⟨rfl,rfl,rfl⟩:=g8;have u3:=E (q7.mono (O:b.heap.size+2<=wr.heap.size));have v7:=E r1;have u5:=E q5;clear q7 r1 q5
      go_wp2_with fail
      refine(j1.o _).mono ?_;rintro t h2 ⟨rfl,q⟩;have b2:=E q;have n0:=E (T.o.bf.ext q);have u7:=E (v5.o.ext q);have u4:=E (u3.o.ext q);have h8:=E (v7.o.ext q);have w0:=E (n9.o.ext q)
      have x3:b.heap.size+2<=h2.heap.size:=by have:=h8.o.lt;omega
      clear r s u k0 k1 k2 l4 q;obtain⟨⟨k0,k1,k2⟩, -⟩:=n0.o.tS;have l4:=n0.o.lt;have u2:=E (show e4.length<=1000000 from by have:=j4.o;have:=h5.o;omega)
      go_wp2_with (at_builtin;refine oJ (W:=h2) rfl (.tmp 98) (.tmp 100) rfl (b.heap.size+2) (U x6 R x5) (U v fn w) e4 ⟨(b3:Int),(b4:Int),i6⟩ rfl u7.o u4.o (by constructor<;>(unfold bh;simp only;omega)) rfl rfl u2.o x3 ?_;intro B0 l9 q8 J;have u9:=E q8;have a2:=E J;clear q8 J)
      go_roundw
      case rel=>
       refine⟨R+1,e4++[⟨(b3:Int),(b4:Int),i6⟩],x7,O,S,by rw [Yq,j4.o];rfl,u9.o,h8.o.below a2.o (Nat.lt_succ_self _),u5.o,?_,?_⟩
       .exact w0.o.bS (a2.o.block _ O)
       .exact(w_ h6.o b2.o h6.o.size).trans (a2.o.mono O)
      case measure=>simp [Yz];omega
   .obtain rfl:R=e3:=O
    have n4:=E (λ(n:V) (b0:l_ n (b.heap.size+1) g b9)=>vA (b.heap.size+1) g b9 n b0 j6.o q4);have s4:=E (λ(c0:Nat) (n:V) (b0:l_ n (b.heap.size+1) g c0) (i2:c0<=8*g.length)=>oR (b.heap.size+1) g c0 n b0 i2 j6.o)
    go_wp2_with fail
    refine(n4.o _ a9.o).mono ?_;rintro t f ⟨h,k,m,l,c0,rfl,q2,r2,x0,i3⟩;have e2:=E (di a3.o i3 (Nat.le_succ _));have u6:=E (o1.o.dS i3 (by intro x4 w8;omega));have g7:=a9.o.lt;have j7:=E (dJ n8.o i3 O);have v8:=E r2;have u1:=E q2;clear r2 i3 q2 n4;have b1:=E (N:X f f (f.alloc (M #[A G h,U k m l] 100)));have h3:=E (ai.new f #[A G h,U k m l] 100);obtain⟨r,s,D,F⟩:=h3.o.two;have u:=h3.o.lt
    rcases u1.o with⟨rfl,g8⟩|c4
    .simp only [Yy] at g8
     obtain⟨rfl,rfl,rfl⟩:=g8
     go_wp2_with fail
     refine(j1.o _).mono ?_;rintro t h2 ⟨rfl,q⟩;have b2:=E (gz b1.o q);have b6:=E (h3.o.ext q);have h8:=E (v8.o.ext b2.o);clear q r s D F u
     go_wp2_with fail
     refine(s4.o c0 _ h8.o x0).mono ?_;rintro t l9 ⟨rfl,J⟩;have a2:=E (gz b2.o J);have c1:=E (b6.o.ext J);clear J;obtain⟨r,s,D,F⟩:=c1.o.two;have u:=c1.o.lt;by_cases q9:0<8*g.length - c0
     .generalize 8*g.length - c0=y2 at q9⊢
      go_wp2_with fail
      refine(s3.o _).mono ?_;rintro t r8 ⟨rfl,c2⟩;have g1:=E (gz a2.o c2);have e0:=E (c1.o.ext c2);have s0:=E (e0.o.dC (A G 5) (U I 0 0));have s7:=E (show X f f ((r8.setCell f (A G 5)).setCell ⟨f,1,I⟩ (U I 0 0)) from cH g1.o (Yk _) _ _);clear c2 r s D F u;obtain⟨r,s,D,F⟩:=e0.o.two;have u:=e0.o.lt
      go_wp2_with fail
      refine(h4.o 5 I 0 0 H _).mono ?_;rintro t B1 ⟨rfl,k7⟩;have n6:=E (gz s7.o k7);have m6:=E (s0.o.ext k7);clear k7 r s D F u;obtain⟨r,s,D,F⟩:=m6.o.two;have u:=m6.o.lt
      go_wp2_with fail
      refine(j0.o _ _ _ (eX.fail _ H)).mono ?_;rintro t y0 ⟨⟨r6,rfl,h0,g3,h1,g5,rfl,b8⟩,c3⟩;have j2:=E (w_ e2.o (gz n6.o c3) e2.o.size);have a7:=E ((j7.o.ext n6.o).ext c3);have g2:=E b8;clear c3 b8 r s D F u;obtain⟨l5,l6,l7,l8⟩:=a7.o.two;have lt:=a7.o.lt;go_wp2;obtain⟨c6,c7,c8,c9⟩:=(a7.o.dC (A G h0) (U g3 h1 g5)).two;refine YD (by simp [YU,results65,go_sem,c6,c7,c8,c9];try rfl) rfl ?_;exact Yg ⟨_,_,_,_,rfl,⟨_,_,_,_,rfl,g2.o⟩,cH j2.o (Yk _) _ _⟩
     .have r0:8*g.length - c0=0:=O
      rw [r0]
      go_wp2_with fail
      refine(j1.o _).mono ?_;rintro t r8 ⟨rfl,c2⟩;have g1:=E (gz a2.o c2);have e0:=E (c1.o.ext c2);have j8:=E (j7.o.ext g1.o);have o0:=E (w_ e2.o g1.o e2.o.size);have v3:=E (u6.o.ext g1.o);clear c2 r s D F u q9 r0;obtain⟨r,s,D,F⟩:=e0.o.two;have u:=e0.o.lt;obtain⟨l5,l6,l7,l8⟩:=j8.o.two;have lt:=j8.o.lt
      go_wp2_with fail
      go_region
      all_goals
       go_wp2;obtain⟨c6,c7,c8,c9⟩:=(j8.o.dC (A G 0) (U I 0 0)).two;refine YD (by simp [YU,results65,go_sem,c6,c7,c8,c9];try rfl) rfl ?_;obtain⟨g6,w1,w2,w9,z2,x8,x9⟩:=yn v3.o j4.o h5.o.1;subst w9;exact Yh ⟨g6,_,_,w1,w2,rfl,h5.o.1,h5.o.2,oL x8 O,oL x9 O,(by first|exact(cH o0.o (Yk _) _ _).drew|exact cH o0.o (Yk _) _ _)⟩
    .have j3:=E c4
     have h7:=E c4.nz;clear c4
     go_wp2_with fail
     refine(h4.o h k m l h7.o _).mono ?_;rintro t h2 ⟨rfl,q⟩;have b2:=E (gz b1.o q);have b6:=E (h3.o.ext q);clear q r s D F u;obtain⟨r,s,D,F⟩:=b6.o.two;have u:=b6.o.lt
     go_wp2_with fail
     refine(h4.o h k m l h7.o _).mono ?_;rintro t l9 ⟨rfl,J⟩;have a2:=E (gz b2.o J);have c1:=E (b6.o.ext J);have s6:=E (j3.o.ext a2.o);clear J r s D F u;obtain⟨r,s,D,F⟩:=c1.o.two;have u:=c1.o.lt
     go_wp2_with fail
     refine(j0.o _ _ _ s6.o).mono ?_;rintro t y0 ⟨⟨r6,rfl,h0,g3,h1,g5,rfl,b8⟩,c3⟩;have j2:=E (w_ e2.o (gz a2.o c3) e2.o.size);have a7:=E ((j7.o.ext a2.o).ext c3);have g2:=E b8;clear c3 b8 r s D F u;obtain⟨l5,l6,l7,l8⟩:=a7.o.two;have lt:=a7.o.lt;go_wp2;obtain⟨c6,c7,c8,c9⟩:=(a7.o.dC (A G h0) (U g3 h1 g5)).two;refine YD (by simp [YU,results65,go_sem,c6,c7,c8,c9];try rfl) rfl ?_;exact Yg ⟨_,_,_,_,rfl,⟨_,_,_,_,rfl,g2.o⟩,cH j2.o (Yk _) _ _⟩
end Go.Proofs.YtajkpgaheechmaaGreatDoor
