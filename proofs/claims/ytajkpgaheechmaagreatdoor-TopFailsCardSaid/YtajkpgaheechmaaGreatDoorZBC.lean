/- FmU FmV FmW FmX StA FmY StD StE StF KnA KnC StB KnD StC -/
import Derived.Test.YtajkpgaheechmaaGreatDoorZBB
import Derived.Lib.AppendZerosOnto
import Derived.Lib.SlBytesConst
set_option maxRecDepth 100000
set_option maxHeartbeats 16000000
set_option linter.unusedSimpArgs false
set_option linter.unusedVariables false
set_option linter.unusedSectionVars false
namespace Go.Proofs.YtajkpgaheechmaaGreatDoor
open _root_.Go.Proofs.Tryz
open Go.Value renaming int->A,slice->U,pointer->Q,nilIface->Ya,string->Yb,agg->Yc,iface->Yd,tuple->Ye
open Go.IntKind renaming i64->G,u8->Yf
open Option renaming none->I,some->K
open Go.Obj renaming cells->M
open Go.Ending renaming returned->e
open Go renaming World->V,Value->Z,Calls->d,Addr->Yi,bodyPost_ret->YD,maxLen->YO,results->YU
open Go.RowKit renaming Below->X,intOf->Yz
open Or renaming inl->Yg,inr->Yh
open Go.World renaming block_lt_of_cell?->Yj
open Nat renaming le_refl->Yk,le_trans->Yl,zero_le->Yr
open Go.RowKit.Below renaming refl->Yn
open List renaming replicate->YA,getElem?_eq_getElem->YM,getD->YR
open And renaming intro->YI
open Bool renaming and_eq_true->YV
section
open Go.RowKit
def qt(a b:TC):Array Z:=#[.bool a.has,A G (a.n:Int),A G (a.step:Int),a.data,.bool b.has,A G (b.n:Int),A G (b.step:Int),b.data]
structure RS(W:V)(p q jp jb tb:Nat)(fv gv cv mv:Z)(a b:TC)(D:DS)(J:bJ)(L:bY)(w:V):Prop where
 fs:FS W p q jp jb (Mx p fv gv cv (Q (K jp)) (U (K tb) 2 2) mv) L D J w
 pl:d_ w 0 fv gv cv
 tk:ai w tb (qt a b) 117
 tW:W.heap.size<=tb
structure RN(p q jp jb tb:Nat)(L:bY)(w:V)(L':bY)(w':V):Prop where
 aD:af (λk=>(L.has p k∨k=jp∨k=jb)∨k=q∨k=tb) w w'
 new:∀k,L'.has p k->L.has p k∨w.heap.size<=k
def Me(f:Z):Prop:=∃a c b,f=U a c b
theorem cA.Me{i:Nat}{b:bY}{j:V}{a:Z}{f:Bs}(h:cA i b j a f):Me a:=by
 obtain⟨c,cap,g⟩:=aK h.1;exact⟨c,_,cap,g⟩
section
variable {W:V} {p q jp jb tb:Nat} {cs:Array Z} {L L1 L2:bY} {D D1:DS} {J J1:bJ} {w w0 w1 w2:V} {fv gv cv mv:Z} {a b:TC}
theorem RN.refl(p q jp jb tb:Nat)(L:bY)(w:V):RN p q jp jb tb L w L w:=⟨af.refl _ _,λ_ a=>Yg a⟩
theorem RN.trans(c:RN p q jp jb tb L w L1 w1)(g:RN p q jp jb tb L1 w1 L2 w2):RN p q jp jb tb L w L2 w2:=
 ⟨c.aD.js g.aD λf a=>by
  rcases a with(a|a|a)|a|a
  .rcases c.new f a with b|b
   .exact Yg (Yg (Yg b))
   .exact Yh b
  .exact Yg (Yg (Yh (Yg a)))
  .exact Yg (Yg (Yh (Yh a)))
  .exact Yg (Yh (Yg a))
  .exact Yg (Yh (Yh a)),λf a=>by
  rcases g.new f a with b|b
  .exact c.new f b
  .exact Yh (Yl c.aD.size b)⟩
theorem RN.fn(a:FN p jp jb L w L1 w1):RN p q jp jb tb L w L1 w1:=⟨a.aD.mono λc _ b=>Yg b,a.new⟩
theorem RN.own(a:af (λa=>a=q∨a=tb) w w1):RN p q jp jb tb L w L w1:=⟨a.mono λ_ _ b=>Yh b,λ_ b=>Yg b⟩
theorem RS.ext(c:RS W p q jp jb tb fv gv cv mv a b D J L w)(f:X w w w1):RS W p q jp jb tb fv gv cv mv a b D J L w1:=⟨c.fs.ext f,c.pl.ext f,c.tk.ext f,c.tW⟩
theorem RS.fn(c:RS W p q jp jb tb fv gv cv mv a b D J L w)(g:FS W p q jp jb (Mx p fv gv cv (Q (K jp)) (U (K tb) 2 2) mv) L1 D1 J1 w1)(f:FN p jp jb L w L1 w1):RS W p q jp jb tb fv gv cv mv a b D1 J1 L1 w1:=
 ⟨g,c.pl.fn c.fs f,FN.ay c.fs f c.tk H H H H H,c.tW⟩
theorem RS.own{j:Z}{f g:TC}(c:RS W p q jp jb tb fv gv cv mv a b D J L w)(h:af (λi=>i=q∨i=tb) w w1)(k:ai w1 q (Mx p fv gv cv (Q (K jp)) (U (K tb) 2 2) j) 114)(l:ai w1 tb (qt f g) 117):RS W p q jp jb tb fv gv cv j f g D J L w1:=
 ⟨c.fs.own h c.tk c.tW k rfl rfl,c.pl.own c.fs.ay c.tk h,l,c.tW⟩
theorem RS.UH(c:RS W p q jp jb tb fv gv cv mv a b D J L w):q≠tb:=gq c.fs.ay c.tk H
theorem RS.VT(c:RS W p q jp jb tb fv gv cv mv a b D J L w)(k:Me a.data)(l:Me b.data):TK w tb [a,b]:=λj m=>by
 obtain rfl|rfl:j=0∨j=1:=by simp at m;omega
 .obtain⟨g,i,h,f⟩:=k
  exact⟨c.tk.cell 0,c.tk.cell 1,c.tk.cell 2,g,h,i,f,(c.tk.cell 3).trans (by rw [<-f];rfl)⟩
 .obtain⟨g,i,h,f⟩:=l
  exact⟨c.tk.cell 4,c.tk.cell 5,c.tk.cell 6,g,h,i,f,(c.tk.cell 7).trans (by rw [<-f];rfl)⟩
def DG(f:Nat)(c a b:TC):TC×TC:=if f=0 then (c,b) else (a,c)
def vj(c:Nat)(a b:TC):TC:=if c=0 then a else b
theorem yo(c:Nat)(f:RS W p q jp jb tb fv gv cv mv a b D J L w)(k:Me a.data)(l:Me b.data)(n:c<2)(o:J.state=1)(s:J.chunks=1)(j:(vj c a b).has=false)(r:jO [a,b] (oB J)= -1):
  d prog 31 #[Q (K q),A G c] w λh g=>h=e Ya/\RS W p q jp jb tb fv gv cv mv a b D J L g/\X w w g:=
 (Lm c tb 2 [a,b] f.fs rfl rfl (f.VT k l) Y O n o (by
  obtain rfl|rfl:c=0∨c=1:=O
  .exact j
  .exact j) r).mono λh g ⟨m,i⟩=>⟨m,f.ext i,i⟩
theorem IL(c f:Nat)(k:Z)(j:Bs)(g:RS W p q jp jb tb fv gv cv mv a b D J L w)(T:c<2)(a2:J.state=1)(v:J.chunks=1)(a9:J.done.length<=1){h:Nat}(i:vj c a b=⟨true,h,f,k⟩)(y:cA p L w k j)(a3:1<=f)(a5:f<7)(F:(cr 1 h j D J f).2.2=0)(a1:nO (fR 1 h j))(a0:h<=99)(P:Inv D 150):
  d prog 31 #[Q (K q),A G c] w λs o=>s=e Ya/\∃l,RS W p q jp jb tb fv gv cv mv (DG c ⟨true,h,f+1,k⟩ a b).1 (DG c ⟨true,h,f+1,k⟩ a b).2 (cr 1 h j D J f).1 (cr 1 h j D J f).2.1 l o/\cA p l o k j/\RN p q jp jb tb L w l o:=by
 have R:(qt a b)[c*4]? =K (.bool true)/\(qt a b)[c*4+1]? =K (A G h)/\(qt a b)[c*4+2]? =K (A G f)/\(qt a b)[c*4+3]? =K k:=by
  obtain rfl|rfl:c=0∨c=1:=O
  .simp only [vj,if_true] at i
   subst i;exact⟨rfl,rfl,rfl,rfl⟩
  .simp only [vj,if_neg (H:¬(1:Nat)=0)] at i
   subst i;exact⟨rfl,rfl,rfl,rfl⟩
 obtain⟨a6,a7,C,a8⟩:=R;have x:=yL 150 tb (c*4) h f k j g.fs a3 O a0 y.bytes ((g.tk.cell _).trans a7) ((g.tk.cell _).trans C) ((g.tk.cell _).trans a8) (by rw [v];exact a1) P O O;rw [v,F,ar] at x;refine(Rg c tb 2 2 f (qt a b) g.fs rfl rfl T a2 g.tk a6 a5 x (λo ⟨l,t,n⟩=>⟨_,FN.ay g.fs n g.tk H H H H H,C⟩)).mono ?_;rintro s o ⟨rfl,w1,⟨l,t,n⟩,rfl⟩;have m:=g.fn t n;have r:af (λz=>z=q∨z=tb) w1 (w1.setCell ⟨tb,c*4+2,I⟩ (A G ((f+1:Nat):Int))):=aL (af.refl _ _) (Yh rfl);refine⟨rfl,l,m.own r (m.fs.ay.ab ⟨tb,c*4+2,I⟩ _ m.UH) ?_,(y.fn g.fs n).own m.fs.ay m.tk r,(RN.fn n).trans (RN.own r)⟩;have u:=m.tk.set (c*4+2) (A G ((f+1:Nat):Int));obtain rfl|rfl:c=0∨c=1:=O
 .simp only [vj,if_true] at i
  subst i;exact u
 .simp only [vj,if_neg (H:¬(1:Nat)=0)] at i
  subst i;exact u
theorem IA(w:V)(q tb a:Nat)(f g h c:Z):af (λb=>b=q∨b=tb) w ((((w.setCell ⟨tb,a,I⟩ f).setCell ⟨tb,a+1,I⟩ g).setCell ⟨tb,a+2,I⟩ h).setCell ⟨tb,a+3,I⟩ c):=
 aL (aL (aL (aL (af.refl _ _) (Yh rfl)) (Yh rfl)) (Yh rfl)) (Yh rfl)
theorem ai.TN{w:V}{b a c:Nat}{cs:Array Z}{g:Nat}(l:ai w b cs g)(f:b≠a)(i j k h:Z):ai ((((w.setCell ⟨a,c,I⟩ i).setCell ⟨a,c+1,I⟩ j).setCell ⟨a,c+2,I⟩ k).setCell ⟨a,c+3,I⟩ h) b cs g:=
 (((l.ab ⟨a,c,I⟩ i f).ab ⟨a,c+1,I⟩ j f).ab ⟨a,c+2,I⟩ k f).ab ⟨a,c+3,I⟩ h f
theorem RS.Tf(c:Nat)(f:TC)(g:RS W p q jp jb tb fv gv cv mv a b D J L w)(i:c<2):RS W p q jp jb tb fv gv cv mv (DG c f a b).1 (DG c f a b).2 D J L ((((w.setCell ⟨tb,c*4,I⟩ (.bool f.has)).setCell ⟨tb,c*4+1,I⟩ (A G (f.n:Int))).setCell ⟨tb,c*4+2,I⟩ (A G (f.step:Int))).setCell ⟨tb,c*4+3,I⟩ f.data):=by
 refine g.own (IA w q tb (c*4) _ _ _ _) (g.fs.ay.TN g.UH _ _ _ _) ?_;have h:=(((g.tk.set (c*4) (.bool f.has)).set (c*4+1) (A G (f.n:Int))).set (c*4+2) (A G (f.step:Int))).set (c*4+3) f.data;obtain rfl|rfl:c=0∨c=1:=O
 .exact h
 .exact h
theorem Cz(c:Nat)(k:Z)(h:Bs)(g:RS W p q jp jb tb fv gv cv mv a b D J L w)(v:c<2)(a2:J.state=1)(u:J.chunks=1)(a8:J.done.length<=1){f:Nat}(i:vj c a b=⟨true,f,7,k⟩)(a3:cA p L w k h)(F:(cr 1 f h D J 7).2.2=0)(a1:nO (fR 1 f h))(a0:f<=99)(P:Inv D 150):
  d prog 31 #[Q (K q),A G c] w λo n=>o=e Ya/\∃j,RS W p q jp jb tb fv gv cv mv (DG c TC.ae a b).1 (DG c TC.ae a b).2 (cr 1 f h D J 7).1 (cr 1 f h D J 7).2.1 j n/\RN p q jp jb tb L w j n:=by
 have T:(qt a b)[c*4]? =K (.bool true)/\(qt a b)[c*4+1]? =K (A G f)/\(qt a b)[c*4+2]? =K (A G 7)/\(qt a b)[c*4+3]? =K k:=by
  obtain rfl|rfl:c=0∨c=1:=O
  .simp only [vj,if_true] at i
   subst i;exact⟨rfl,rfl,rfl,rfl⟩
  .simp only [vj,if_neg (H:¬(1:Nat)=0)] at i
   subst i;exact⟨rfl,rfl,rfl,rfl⟩
 obtain⟨a5,a6,C,a7⟩:=T;have y:=yL 150 tb (c*4) f 7 k h g.fs O O a0 a3.bytes ((g.tk.cell _).trans a6) ((g.tk.cell _).trans C) ((g.tk.cell _).trans a7) (by rw [u];exact a1) P O O;rw [u,F,ar] at y;refine(Ll c tb 2 2 (qt a b) g.fs rfl rfl v a2 g.tk a5 y (λn ⟨j,r,m⟩=>⟨_,FN.ay g.fs m g.tk H H H H H,C,show c*4+3<8 by omega⟩)).mono ?_;rintro o n ⟨rfl,w1,⟨j,r,m⟩,rfl⟩;have l:=g.fn r m;have x:af (λz=>z=q∨z=tb) w1 (w1.setCell ⟨tb,c*4+2,I⟩ (A G 8)):=aL (af.refl _ _) (Yh rfl)
 have R:RS W p q jp jb tb fv gv cv mv (DG c ⟨true,f,8,k⟩ a b).1 (DG c ⟨true,f,8,k⟩ a b).2 (cr 1 f h D J 7).1 (cr 1 f h D J 7).2.1 j (w1.setCell ⟨tb,c*4+2,I⟩ (A G 8)):=by
  refine l.own x (l.fs.ay.ab ⟨tb,c*4+2,I⟩ _ l.UH) ?_;have s:=l.tk.set (c*4+2) (A G 8);obtain rfl|rfl:c=0∨c=1:=O
  .simp only [vj,if_true] at i
   subst i;exact s
  .simp only [vj,if_neg (H:¬(1:Nat)=0)] at i
   subst i;exact s
 have t:=R.Tf c TC.ae v;refine⟨rfl,j,?_,(RN.fn m).trans (RN.own (x.trans (IA _ q tb (c*4) _ _ _ _)))⟩;obtain rfl|rfl:c=0∨c=1:=O
 .exact t
 .exact t
theorem Gf(g:RS W p q jp jb tb fv gv cv (U I 0 0) TC.ae TC.ae D J L w)(v:J.state=1)(r:J.chunks=1)(t:oB J=[0]):
  d prog 31 #[Q (K q),A G 0] w λi b=>i=e Ya/\∃a mv,RS W p q jp jb tb fv gv cv mv ⟨true,0,1,a⟩ TC.ae D J L b/\cA p L b a cU/\RN p q jp jb tb L w L b:=by
 have m:Me TC.ae.data:=⟨I,0,0,rfl⟩;refine(show d prog 31 #[Q (K q),A G 0] w _ from yq (P:=λb=>∃a mv,RS W p q jp jb tb fv gv cv mv ⟨true,0,0,a⟩ TC.ae D J L b/\cA p L b a cU/\RN p q jp jb tb L w L b) 0 tb 2 0 [TC.ae,TC.ae] (qt TC.ae TC.ae) g.fs rfl rfl (g.VT m m) Y O H v rfl (by rw [t];rfl) g.tk H ?_ ?_).mono ?_
 .intro w1 k
  have h:=(g.ext k).Tf 0 ⟨true,0,0,U I 0 0⟩ H;refine Jd tb (0*4) 0 h.fs H (h.tk.cell 1) (h.tk.cell 2) ?_;intro w2 l;have f:=h.ext l;refine(Fz tb (0*4) fv gv cv _ _ f.fs f.pl r f.tk rfl H).mono ?_;rintro i F ⟨rfl,a,mv,y,C,z,o⟩;have u:RN p q jp jb tb L w L w2:=(RN.fn (FN.aj p jp jb L k)).trans ((RN.own (IA w1 q tb 0 _ _ _ _)).trans (RN.fn (FN.aj p jp jb L l)));exact⟨rfl,a,mv,f.own o y C,cA.new f.fs z,u.trans (RN.own o)⟩
 .rintro b ⟨a,mv,c, -⟩
  exact⟨_,c.tk,rfl⟩
 .rintro i b ⟨rfl,w1,⟨a,mv,c,x,s⟩,rfl⟩
  have j:af (λn=>n=q∨n=tb) w1 (w1.setCell ⟨tb,0*4+2,I⟩ (A G 1)):=aL (af.refl _ _) (Yh rfl);exact⟨rfl,a,mv,c.own j (c.fs.ay.ab ⟨tb,0*4+2,I⟩ _ c.UH) (c.tk.set 2 (A G 1)),x.own c.fs.ay c.tk j,s.trans (RN.own j)⟩
theorem OS(g:RS W p q jp jb tb fv gv cv mv TC.ae TC.ae D J L w)(y:J.state=1)(u:J.chunks=1)(x:oB J=[1])(t:Inv D 150)(k:eh D (iz 0)=0)(l:cy D (iz 0)=cU):
  d prog 31 #[Q (K q),A G 1] w λi b=>i=e Ya/\∃a,RS W p q jp jb tb fv gv cv mv TC.ae ⟨true,1,1,a⟩ D J L b/\cA p L b a gj/\RN p q jp jb tb L w L b:=by
 have o:Me TC.ae.data:=⟨I,0,0,rfl⟩;refine(show d prog 31 #[Q (K q),A G 1] w _ from yq (P:=λb=>∃a,RS W p q jp jb tb fv gv cv mv TC.ae ⟨true,1,0,a⟩ D J L b/\cA p L b a gj/\RN p q jp jb tb L w L b) 1 tb 2 1 [TC.ae,TC.ae] (qt TC.ae TC.ae) g.fs rfl rfl (g.VT o o) Y O H y rfl (by rw [x];rfl) g.tk H ?_ ?_).mono ?_
 .intro w1 m
  have h:=(g.ext m).Tf 1 ⟨true,1,0,U I 0 0⟩ H;refine Jd tb (1*4) 1 h.fs H (h.tk.cell 5) (h.tk.cell 6) ?_;intro w2 n;have f:=h.ext n;refine(Om 150 tb (1*4) fv gv cv _ mv _ f.fs f.pl u f.tk rfl H t H k l).mono ?_;rintro i R ⟨rfl,a,z,F,C,s⟩;have k:RN p q jp jb tb L w L w2:=(RN.fn (FN.aj p jp jb L m)).trans ((RN.own (IA w1 q tb 4 _ _ _ _)).trans (RN.fn (FN.aj p jp jb L n)));exact⟨rfl,a,f.own s z F,cA.new f.fs C,k.trans (RN.own s)⟩
 .rintro b ⟨a,c, -⟩
  exact⟨_,c.tk,rfl⟩
 .rintro i b ⟨rfl,w1,⟨a,c,l,v⟩,rfl⟩
  have j:af (λr=>r=q∨r=tb) w1 (w1.setCell ⟨tb,1*4+2,I⟩ (A G 1)):=aL (af.refl _ _) (Yh rfl);exact⟨rfl,a,c.own j (c.fs.ay.ab ⟨tb,1*4+2,I⟩ _ c.UH) (c.tk.set 6 (A G 1)),l.own c.fs.ay c.tk j,v.trans (RN.own j)⟩
end
section
variable {W:V} {p q jp jb tb:Nat} {L L1 L2:bY} {w w0 w1 w2:V} {fv gv cv:Z}
def St(W:V)(p q jp jb tb:Nat)(fv gv cv:Z)(a:Nat)(L:bY)(w:V):Prop:=
 if a=0 then RS W p q jp jb tb fv gv cv (U I 0 0) TC.ae TC.ae (eO 0).1 (eO 0).2 L w
 else if a<=7 then∃b c,RS W p q jp jb tb fv gv cv b ⟨true,0,a,c⟩ TC.ae (eO a).1 (eO a).2 L w/\cA p L w c cU
 else if a<=14 then∃b c,RS W p q jp jb tb fv gv cv b TC.ae ⟨true,1,a - 7,c⟩ (eO a).1 (eO a).2 L w/\cA p L w c gj
 else∃b,RS W p q jp jb tb fv gv cv b TC.ae TC.ae (eO 15).1 (eO 15).2 L w
def ky(W:V)(p q jp jb tb:Nat)(fv gv cv:Z)(a:Nat)(L:bY)(w:V):Prop:=
 if a<=6 then St W p q jp jb tb fv gv cv (a+1) L w
 else if a=7 then∃b,RS W p q jp jb tb fv gv cv b TC.ae TC.ae (eO 8).1 (eO 8).2 L w
 else St W p q jp jb tb fv gv cv a L w
theorem Ow:Me TC.ae.data:=⟨I,0,0,rfl⟩
theorem qg{a:Nat}(g:1<=a)(c:a<=7):St W p q jp jb tb fv gv cv a L w=∃f b,RS W p q jp jb tb fv gv cv f ⟨true,0,a,b⟩ TC.ae (eO a).1 (eO a).2 L w/\cA p L w b cU:=by
 unfold St;rw [if_neg O,if_pos c]
theorem qb{a:Nat}(g:8<=a)(c:a<=14):St W p q jp jb tb fv gv cv a L w=∃f b,RS W p q jp jb tb fv gv cv f TC.ae ⟨true,1,a - 7,b⟩ (eO a).1 (eO a).2 L w/\cA p L w b gj:=by
 unfold St;rw [if_neg O,if_neg O,if_pos c]
theorem sK{a:Nat}(c:15<=a):St W p q jp jb tb fv gv cv a L w=∃b,RS W p q jp jb tb fv gv cv b TC.ae TC.ae (eO 15).1 (eO 15).2 L w:=by
 unfold St;rw [if_neg O,if_neg O,if_neg O]
theorem UD(b:Nat)(a:St W p q jp jb tb fv gv cv b L w):
  d prog 31 #[Q (K q),A G 0] w λm i=>m=e Ya/\∃l,ky W p q jp jb tb fv gv cv b l i/\RN p q jp jb tb L w l i:=by
 by_cases v:b=0
 .subst v
  have a:RS W p q jp jb tb fv gv cv (U I 0 0) TC.ae TC.ae (eO 0).1 (eO 0).2 L w:=a;obtain⟨j,k,n⟩:=lh 0 H;refine(Gf a j k (Ip 0 H)).mono ?_;rintro m i ⟨rfl,h,g,c,f,r⟩;refine⟨rfl,L,?_,r⟩
  show ky W p q jp jb tb fv gv cv 0 L i
  unfold ky;rw [if_pos H,qg H H];exact⟨g,h,c,f⟩
 .by_cases x:b<=6
  .rw [qg O O] at a
   obtain⟨g,h,c,f⟩:=a;obtain⟨j,k,n⟩:=lh b O;refine(show d prog 31 #[Q (K q),A G 0] w _ from IL 0 b h cU c H j k n rfl f O O (Nb b O O) Cm H (mq b)).mono ?_;rintro m i ⟨rfl,l,o,y,r⟩;refine⟨rfl,l,?_,r⟩;unfold ky;rw [if_pos x,qg O O,AI b O O];exact⟨g,h,o,y⟩
  .by_cases s:b=7
   .subst s
    rw [qg O O] at a;obtain⟨g,h,c,f⟩:=a;obtain⟨j,k,n⟩:=lh 7 O;refine(show d prog 31 #[Q (K q),A G 0] w _ from Cz 0 h cU c H j k n rfl f (Nb 7 O O) Cm H (mq 7)).mono ?_;rintro m i ⟨rfl,l,o,r⟩;refine⟨rfl,l,?_,r⟩;unfold ky;rw [if_neg H,if_pos rfl,AI 7 O O];exact⟨g,o⟩
   .by_cases z:b<=14
    .have u:=a
     rw [qb O O] at a;obtain⟨g,h,c,f⟩:=a;obtain⟨j,k,n⟩:=lh b O;refine(show d prog 31 #[Q (K q),A G 0] w _ from yo 0 c Ow f.Me H j k rfl (by rw [AJ b O O];rfl)).mono ?_;rintro m i ⟨rfl,o,t⟩;refine⟨rfl,L,?_,RN.fn (FN.aj p jp jb L t)⟩;unfold ky;rw [if_neg O,if_neg s,qb O O];exact⟨g,h,o,f.fn c.fs (FN.aj p jp jb L t)⟩
    .have u:=a
     rw [sK O] at a;obtain⟨g,c⟩:=a;refine(show d prog 31 #[Q (K q),A G 0] w _ from pf (U I 0 0) 0 2 2 (K tb) c.fs rfl rfl H (by rw [EG.1];decide)).mono ?_;rintro m i ⟨rfl,rfl⟩;refine⟨rfl,L,?_,RN.refl _ _ _ _ _ _ _⟩;unfold ky;rw [if_neg O,if_neg s];exact u
theorem UE(a:Nat)(b:ky W p q jp jb tb fv gv cv a L w):
  d prog 31 #[Q (K q),A G 1] w λn l=>n=e Ya/\∃m,St W p q jp jb tb fv gv cv (a+1) m l/\RN p q jp jb tb L w m l:=by
 unfold ky at b;by_cases s:a<=6
 .rw [if_pos s,qg O O] at b
  obtain⟨f,h,c,g⟩:=b;obtain⟨i,j,o⟩:=lh (a+1) O;refine(show d prog 31 #[Q (K q),A G 1] w _ from yo 1 c g.Me Ow H i j rfl (by rw [Ip (a+1) O];rfl)).mono ?_;rintro n l ⟨rfl,k,u⟩;refine⟨rfl,L,?_,RN.fn (FN.aj p jp jb L u)⟩;rw [qg O O];exact⟨f,h,k,g.fn c.fs (FN.aj p jp jb L u)⟩
 .rw [if_neg s] at b
  by_cases t:a=7
  .subst t
   rw [if_pos rfl] at b;obtain⟨f,c⟩:=b;obtain⟨i,j,o⟩:=lh 8 H;refine(OS c i j (AJ 8 H H) (mq 8) Iq.1 Iq.2).mono ?_;rintro n l ⟨rfl,h,k,g,r⟩;refine⟨rfl,L,?_,r⟩;rw [qb H H];exact⟨f,h,k,g⟩
  .rw [if_neg t] at b
   by_cases y:a<=13
   .rw [qb O O] at b
    obtain⟨f,h,c,g⟩:=b;obtain⟨i,j,o⟩:=lh a O;refine(show d prog 31 #[Q (K q),A G 1] w _ from IL 1 (a - 7) h gj c H i j o rfl g O O (Io a O O) Cn H (mq a)).mono ?_;rintro n l ⟨rfl,m,k,x,r⟩;refine⟨rfl,m,?_,r⟩;rw [qb O O,Nd a O O,show a+1 - 7=a - 7+1 by omega];exact⟨f,h,k,x⟩
   .by_cases v:a=14
    .subst v
     rw [qb O O] at b;obtain⟨f,h,c,g⟩:=b;obtain⟨i,j,o⟩:=lh 14 O;refine(show d prog 31 #[Q (K q),A G 1] w _ from Cz 1 h gj c H i j o rfl g (Io 14 O O) Cn H (mq 14)).mono ?_;rintro n l ⟨rfl,m,k,r⟩;refine⟨rfl,m,?_,r⟩;rw [sK O,Nd 14 O O];exact⟨f,k⟩
    .rw [sK O] at b
     obtain⟨f,c⟩:=b;refine(show d prog 31 #[Q (K q),A G 1] w _ from pf (U I 0 0) 1 2 2 (K tb) c.fs rfl rfl H (by rw [EG.1];decide)).mono ?_;rintro n l ⟨rfl,rfl⟩;refine⟨rfl,L,?_,RN.refl _ _ _ _ _ _ _⟩;rw [sK O];exact⟨f,c⟩
end
section
variable {W:V} {p q jp jb:Nat} {cs:Array Z} {L L1 L2:bY} {D D1:DS} {J J1:bJ} {w w0 w1 w2:V}
theorem DV(F:FS W p q jp jb cs L D J w)(v:J.state=1)(T:J.chunks<=100)(t:∀a,a<J.chunks->pB J.done a=I):
  d prog 168 #[Q (K q)] w λc l=>c=e Ya/\X w w l:=by
 have m:=E (λb f=>eI jp jb J b f);have x:=E (λb f=>fO jp jb J b f)
 have y:=E (λ(a:Nat) (u:a<J.chunks) (b:V) (f:ct b jp jb J)=>show d prog 213 #[Q (K jp),A G a] b λc l=>c=e (Ye #[Yc #[A G 0,A G 0,A G 0,A G 0,A G 0],.bool false])/\X b b l from by
  have r:=Nf jp jb J a b f O;rw [t a u] at r
  exact r)
 rw [v] at m;have h:=E F;have P:=F.dP;have a0:=F.ay.lt;generalize J.chunks=k at*;clear F t v;go_enter func168,ntmps168
 go_wp2_with (first
  |(go_at_call 39;refine(m.o _ h.o.jD).mono ?_;rintro c w2 ⟨rfl,rfl⟩)
  |(go_at_call 101;refine(x.o _ h.o.jD).mono ?_;rintro c w2 ⟨rfl,rfl⟩))
 go_loopw [19] (λj wr=>∃a:Nat,a<=k/\j=A G a/\X w w wr) (λj _=>k - (Yz j).toNat)
 case atStart=>exact⟨0,Yr _,rfl,Yn _ _⟩
 case round=>
  obtain⟨a,u,rfl,g⟩:=hrel;have n:=E g;by_cases C:a<k
  .have i:=E (h.o.ext g)
   have R:=i.o.dP;have a1:=i.o.ay.lt;clear g
   go_wp2_with (first
    |(go_at_call 213;refine(y.o a C _ i.o.jD).mono ?_;rintro c a2 ⟨rfl,s⟩;have z:=E (ext n.o s);clear s))
   go_roundw
   case rel=>exact⟨a+1,O,S,ext z.o N⟩
   case measure=>simp [Yz];omega
  .clear g
   go_wp2;go_returns;exact⟨rfl,n.o⟩
theorem AT(h:Nat)(F:FS W p q jp jb cs L D J w)(y:J.state=1)(a3:J.chunks<=100)(a5:(dY J.done J.chunks).length≠0)(r:Inv D h)(s:h<=100000):
  d prog 169 #[Q (K q)] w λb k=>b=e Ya/\X w w k:=by
 have m:=E (λa j=>eI jp jb J a j);rw [y] at m;have l:=E (ra p L D h w F.aB.dp r s);have P:=E (λ(f:Z) (a:V) (a6:a.ownsRow w 9 1 f D.names.length ((aI D).map encStr))=>show d prog 115 #[f,Yb ⟨#[111,117,116]⟩] a λb k=>b=e (.bool ((aI D).contains fM))/\a=k from pJ w (aI D) fM f a (by rw [dk];exact a6));have R:=E (λ(a:V) (j:ct a jp jb J)=>tl jp jb J a j O);unfold qv at l;have n:=E F;have a9:=F.dP;have a8:=F.cell0;have b3:=F.ay.lt;generalize (aI D).contains fM=b5 at*;generalize dY J.done J.chunks=C at*;obtain⟨c,u⟩:∃c,C.length=c+1:=⟨C.length - 1,O⟩;have a1:=E u;have b1:((c+1:Nat):Int)>0:=O;have b2:(c:Int)+1>0:=O;clear F a5 y r s a3 u;go_enter func169,ntmps169
 go_wp2_with (first
  |(go_at_call 39;refine(m.o _ n.o.jD).mono ?_;rintro b w2 ⟨rfl,rfl⟩)
  |(go_at_call 115;refine(P.o _ _ a2.o).mono ?_;rintro b w2 ⟨rfl,rfl⟩)
  |(go_at_call 78;refine l.o.mono ?_;rintro b w1 ⟨f,rfl,x,i⟩;have a2:=E x;have T:=E i;have g:=E (n.o.ext i);have b0:=g.o.dP;have b4:=g.o.ay.lt;clear x i)
  |(go_at_call 40;refine(R.o _ g.o.jD).mono ?_;rintro b b7 ⟨b6,rfl,v,t⟩;obtain⟨a7,cap,z⟩:=v.ints.shape;rw [a1.o] at z;subst z;have a0:=E (ext T.o t);clear v t))
 go_returns;exact⟨rfl,a0.o⟩
end
section
variable {W:V} {p q jp jb:Nat} {cs:Array Z} {L L1 L2:bY} {D D1 D2:DS} {J J1:bJ} {w w0 w1 w2:V}
def xy(W:V)(p q:Nat)(L:bY)(f:Nat->Array Z)(R:DS×bJ×Nat×Int)(w:V)(c:Ending)(b:V):Prop:=
 c=e (Ye #[A G ((if R.2.2.2=0 then 7 else R.2.2.1:Nat):Int),bj R.2.2.2])/\∃a,aC W p a R.1 b/\ON p q L w a b/\(R.2.2.2=0->∃jp jb,FS W p q jp jb (f jp) a R.1 R.2.1 b/\w.heap.size<=jp/\w.heap.size<=jb)
theorem K_(h7 f a1:Nat)(c:cF)(a6 a5 T J k7 a7 a2:Z)(a0:Option Yi)(P:Bool)(g6:Z)(i:Bs)(h6:aC W p L D w)(h2:ai w q (bZ p c a6 a5 T (U a0 f a1) J k7 a7 a2 P) 114)(m1:W.heap.size<=q)
  (k1:iB c=true)(l8:ah w g6 i)(k6:∀l1 l,ON p q L w l1 l->ah l g6 i)(k5:i.length<=1000000)(k2:f<=16)(h0:Inv D h7)(l5:h7+3*D.names.length+60<=100000)(b3:(bz (cl c i) f 0 D).2.2.2=0->(bz (cl c i) f 0 D).2.1.state=1/\(bz (cl c i) f 0 D).2.1.chunks<=100/\(∀k8,k8<(bz (cl c i) f 0 D).2.1.chunks->pB (bz (cl c i) f 0 D).2.1.done k8=I)/\(dY (bz (cl c i) f 0 D).2.1.done (bz (cl c i) f 0 D).2.1.chunks).length≠0)
  (k4:(cy (bk (bm (aI D) false D).1).1 aw).length<=90000):
  d prog 120 #[Q (K q),g6,Ya] w (xy W p q L (λjp=>bZ p c a6 a5 T (U a0 f a1) J (Q (K ⟨jp,0,I⟩)) a7 a2 P) (bz (cl c i) f 0 D) w):=by
 have l7:=dk D;have i6:=ml (aI D) false h0;have c2:=E (uW q h7 h6 ⟨_,h2,rfl⟩ h0 O);have i7:=pR i6;have c3:=E (λ(y:bY) (l:V) (i3:aC W p y (bm (aI D) false D).1 l) (i1:FD l q p)=>sR q _ i3 i1 i6 O);have i9:=pS i7;have b4:=E (λ(y:bY) (l:V) (i3:aC W p y (bk (bm (aI D) false D).1).1 l) (i1:ai l q (bZ p c a6 a5 T (U a0 f a1) J k7 a7 a2 P) 114)=>sT _ i3 i1 m1 rfl (by simp [bZ]) i7 O k4);have j5:=AM (cy (bk (bm (aI D) false D).1).1 aw);have b5:=E (λ(y:bY) (l:V) (jp jb:Nat) (c9:FS W p q jp jb (bZ p c a6 a5 T (U a0 f a1) J (Q (K ⟨jp,0,I⟩)) a7 a2 P) y (cG (bk (bm (aI D) false D).1).1).1 (nD (cy (bk (bm (aI D) false D).1).1 aw)) l) (l6:ah l g6 i)=>uU _ f a1 c a6 a5 T J a7 a2 a0 P g6 i c9 k1 l6 k5 k2 i9 O O);have j0:=r_ (cl c i) f 0 h0;obtain⟨R,i2⟩:∃R,bz (cl c i) f 0 D=R:=⟨_,rfl⟩;have b2:=i2.symm;rw [i2] at b3 j0⊢;have m3:=E b3;have k9:=E (λ(y:bY) (l:V) (jp jb:Nat) (k:R.2.2.2=0) (c9:FS W p q jp jb (bZ p c a6 a5 T (U a0 f a1) J (Q (K ⟨jp,0,I⟩)) a7 a2 P) y R.1 R.2.1 l)=>DV c9 (b3 k).1 (b3 k).2.1 (b3 k).2.2.1);have l0:=E (λ(y:bY) (l:V) (jp jb:Nat) (k:R.2.2.2=0) (c9:FS W p q jp jb (bZ p c a6 a5 T (U a0 f a1) J (Q (K ⟨jp,0,I⟩)) a7 a2 P) y R.1 R.2.1 l)=>AT _ c9 (b3 k).1 (b3 k).2.1 (b3 k).2.2.2 j0 O);clear i2;unfold bz at b2;obtain⟨e8,h1⟩:∃F,nD (cy (bk (bm (aI D) false D).1).1 aw)=F:=⟨_,rfl⟩;rw [h1] at j5;have m0:=mj (cl c i) f e8 i9;have l4:=uQ (D:=(cG (bk (bm (aI D) false D).1).1).1) (cl c i) f e8;have c4:=E (λ(y:bY) (l:V) (jp jb:Nat) (c9:FS W p q jp jb (bZ p c a6 a5 T (U a0 f a1) J (Q (K ⟨jp,0,I⟩)) a7 a2 P) y (gR (cl c i) f (cG (bk (bm (aI D) false D).1).1).1 e8).1 (gR (cl c i) f (cG (bk (bm (aI D) false D).1).1).1 e8).2.1 l)=>Nj c9);have e4:=E h6;have e3:=E h2;have h8:=E k6;have m5:=h2.lt;simp only [h1] at b4 b5 b2;obtain⟨g1,j6⟩:∃F,bm (aI D) false D=F:=⟨_,rfl⟩;simp only [j6] at c2 c3 b4 b5 c4 b2;obtain⟨g2,j7⟩:∃F,bk g1.1=F:=⟨_,rfl⟩;simp only [j7] at c3 b4 b5 c4 b2;obtain⟨g3,j8⟩:∃F,cG g2.1=F:=⟨_,rfl⟩;simp only [j8] at b4 b5 c4 b2;obtain⟨c7,j9⟩:∃F,gR (cl c i) f g3.1 e8=F:=⟨_,rfl⟩;simp only [j9] at b5 c4 b2;obtain⟨C,k0⟩:∃F,jd 0 c7.1 c7.2.1=F:=⟨_,rfl⟩;simp only [k0] at c4 b2;have m4:=E h1;clear j6 j7 j8 j9 k0 i6 i7 i9 m0 j5 l4 k4 b3 j0 k6 l8 k5 k2 h0 l5 k1 h6 h2 l7 h1;have e1:=E b2;clear b2;unfold xy;generalize k3:(if R.2.2.2=0 then 7 else R.2.2.1)=e5;have e2:=E k3;clear k3;by_cases t:g1.2=0
 case neg=>
  have b6:=E (aT t)
  have j:Hd (R=(g1.1,nd,1,g1.2)):=by show R=_;rw [e1.o];simp [t]
  have u:=E t;clear t;go_enter func120,ntmps120
  go_wp2_with (first
   |(go_at_call 163;refine c2.o.mono ?_;rintro h w1 ⟨a,L1,b⟩;rw [b6.o] at a;subst a;have m:=E b.aB;have z:=E (b.on (q:=q));have s:=E (b.ay e4.o.dp e3.o);clear b))
  go_returns
  obtain rfl:e5=1:=by rw [<-e2.o,j.o];exact if_neg u.o
  rw [j.o];exact⟨by rw [b6.o];rfl,_,m.o,z.o,λk=>absurd k u.o⟩
 have b6:Hd (bj g1.2=Ya):=by rw [t];exact ar
 by_cases v:g2.2=0
 case neg=>
  have c5:=E (aT v)
  have j:Hd (R=(g2.1,nd,2,g2.2)):=by show R=_;rw [e1.o];simp [t,v]
  have u:=E v;clear t v;go_enter func120,ntmps120
  go_wp2_with (first
   |(go_at_call 164;refine(c3.o _ _ m.o ⟨_,s.o,rfl⟩).mono ?_;rintro h w2 ⟨a,L2,g⟩;rw [c5.o] at a;subst a;have b0:=E g.aB;have r:=E (z.o.sn g);have b7:=E (g.ay m.o.dp s.o);clear g)
   |(go_at_call 163;refine c2.o.mono ?_;rintro h w1 ⟨a,L1,b⟩;rw [b6.o] at a;subst a;have m:=E b.aB;have z:=E (b.on (q:=q));have s:=E (b.ay e4.o.dp e3.o);clear b))
  go_returns
  obtain rfl:e5=2:=by rw [<-e2.o,j.o];exact if_neg u.o
  rw [j.o];exact⟨by rw [c5.o];rfl,_,b0.o,r.o,λk=>absurd k u.o⟩
 have c5:Hd (bj g2.2=Ya):=by rw [v];exact ar
 by_cases x:g3.2=0
 case neg=>
  have e0:=E (aT x)
  have j:Hd (R=(g3.1,nd,3,g3.2)):=by show R=_;rw [e1.o];simp [t,v,x]
  have u:=E x;clear t v x;go_enter func120,ntmps120
  go_wp2_with (first
   |(go_at_call 165;refine(b4.o _ _ b0.o b7.o).mono ?_;rintro h j1 ⟨a,h4,s3,a3,n⟩;rw [e0.o] at a;subst a;have g9:=E s3;have a8:=E (r.o.trans a3);clear n a3;clear s3)
   |(go_at_call 164;refine(c3.o _ _ m.o ⟨_,s.o,rfl⟩).mono ?_;rintro h w2 ⟨a,L2,g⟩;rw [c5.o] at a;subst a;have b0:=E g.aB;have r:=E (z.o.sn g);have b7:=E (g.ay m.o.dp s.o);clear g)
   |(go_at_call 163;refine c2.o.mono ?_;rintro h w1 ⟨a,L1,b⟩;rw [b6.o] at a;subst a;have m:=E b.aB;have z:=E (b.on (q:=q));have s:=E (b.ay e4.o.dp e3.o);clear b))
  go_returns
  obtain rfl:e5=3:=by rw [<-e2.o,j.o];exact if_neg u.o
  rw [j.o];exact⟨by rw [e0.o];rfl,_,g9.o,a8.o,λk=>absurd k u.o⟩
 have e0:Hd (bj g3.2=Ya):=by rw [x];exact ar
 have h9:=E x;by_cases b1:c7.2.2=0
 case neg=>
  have e6:=E (aT b1)
  have j:Hd (R=(c7.1,c7.2.1,4,c7.2.2)):=by show R=_;rw [e1.o];simp [t,v,x,b1]
  have u:=E b1;clear t v x b1;go_enter func120,ntmps120
  go_wp2_with (first
   |(go_at_call 166;refine(b5.o _ _ _ _ e7.o (h8.o _ _ a8.o)).mono ?_;rintro h g7 ⟨a,e9,b9,c0⟩;rw [e6.o] at a;subst a;have c6:=E b9;have g0:=E (a8.o.fn c0 a9.o.1 a9.o.2);clear b9 c0)
   |(go_at_call 165;refine(b4.o _ _ b0.o b7.o).mono ?_;rintro h j1 ⟨a,h4,s3,a3,n⟩;rw [e0.o] at a;subst a;have g9:=E s3;have a8:=E (r.o.trans a3);obtain⟨jp,jb,n,c1,b8⟩:=n h9.o;have e7:=E n;have a9:=E (YI (Yl r.o.aD.size c1) (Yl r.o.aD.size b8));clear n a3 c1 b8;clear s3)
   |(go_at_call 164;refine(c3.o _ _ m.o ⟨_,s.o,rfl⟩).mono ?_;rintro h w2 ⟨a,L2,g⟩;rw [c5.o] at a;subst a;have b0:=E g.aB;have r:=E (z.o.sn g);have b7:=E (g.ay m.o.dp s.o);clear g)
   |(go_at_call 163;refine c2.o.mono ?_;rintro h w1 ⟨a,L1,b⟩;rw [b6.o] at a;subst a;have m:=E b.aB;have z:=E (b.on (q:=q));have s:=E (b.ay e4.o.dp e3.o);clear b))
  go_returns
  obtain rfl:e5=4:=by rw [<-e2.o,j.o];exact if_neg u.o
  rw [j.o];exact⟨by rw [e6.o];rfl,_,c6.o.aB,g0.o,λk=>absurd k u.o⟩
 have e6:Hd (bj c7.2.2=Ya):=by rw [b1];exact ar
 by_cases c8:C.2.2=0
 case neg=>
  have g8:=E (aT c8)
  have j:Hd (R=(C.1,C.2.1,5,C.2.2)):=by show R=_;rw [e1.o];simp [t,v,x,b1,c8]
  have u:=E c8;clear t v x b1 c8;go_enter func120,ntmps120
  go_wp2_with (first
   |(go_at_call 167;refine(c4.o _ _ _ _ c6.o).mono ?_;rintro h m2 ⟨a,g4,g5,rfl⟩;rw [g8.o] at a;subst a;have h3:=E (show FS W p q jp jb (bZ p c a6 a5 T (U a0 f a1) J (Q (K ⟨jp,0,I⟩)) a7 a2 P) e9 C.1 C.2.1 g7 from by rw [g4,g5];exact c6.o);have h5:=E g0.o;clear g4 g5)
   |(go_at_call 166;refine(b5.o _ _ _ _ e7.o (h8.o _ _ a8.o)).mono ?_;rintro h g7 ⟨a,e9,b9,c0⟩;rw [e6.o] at a;subst a;have c6:=E b9;have g0:=E (a8.o.fn c0 a9.o.1 a9.o.2);clear b9 c0)
   |(go_at_call 165;refine(b4.o _ _ b0.o b7.o).mono ?_;rintro h j1 ⟨a,h4,s3,a3,n⟩;rw [e0.o] at a;subst a;have g9:=E s3;have a8:=E (r.o.trans a3);obtain⟨jp,jb,n,c1,b8⟩:=n h9.o;have e7:=E n;have a9:=E (YI (Yl r.o.aD.size c1) (Yl r.o.aD.size b8));clear n a3 c1 b8;clear s3)
   |(go_at_call 164;refine(c3.o _ _ m.o ⟨_,s.o,rfl⟩).mono ?_;rintro h w2 ⟨a,L2,g⟩;rw [c5.o] at a;subst a;have b0:=E g.aB;have r:=E (z.o.sn g);have b7:=E (g.ay m.o.dp s.o);clear g)
   |(go_at_call 163;refine c2.o.mono ?_;rintro h w1 ⟨a,L1,b⟩;rw [b6.o] at a;subst a;have m:=E b.aB;have z:=E (b.on (q:=q));have s:=E (b.ay e4.o.dp e3.o);clear b))
  go_returns
  obtain rfl:e5=5:=by rw [<-e2.o,j.o];exact if_neg u.o
  rw [j.o];exact⟨by rw [g8.o];rfl,_,h3.o.aB,h5.o,λk=>absurd k u.o⟩
 have g8:Hd (bj C.2.2=Ya):=by rw [c8];exact ar
 have j:Hd (R=(C.1,C.2.1,0,0)):=by show R=_;rw [e1.o];simp [t,v,x,b1,c8]
 clear t v x b1 c8;have i0:Hd (R.2.2.2=0):=E (by rw [j.o]);go_enter func120,ntmps120
 go_wp2_with (first
  |(go_at_call 168;refine(k9.o _ _ _ _ i0.o j2.o).mono ?_;rintro h m6 ⟨rfl,i4⟩;have l2:=E i4;have j3:=E (j2.o.ext i4);clear i4)
  |(go_at_call 169;refine(l0.o _ _ _ _ i0.o j3.o).mono ?_;rintro h m7 ⟨rfl,i5⟩;have l3:=E (ext l2.o i5);have j4:=E (j3.o.ext i5);clear i5)
  |(go_at_call 167;refine(c4.o _ _ _ _ c6.o).mono ?_;rintro h m2 ⟨a,g4,g5,rfl⟩;rw [g8.o] at a;subst a;have h3:=E (show FS W p q jp jb (bZ p c a6 a5 T (U a0 f a1) J (Q (K ⟨jp,0,I⟩)) a7 a2 P) e9 C.1 C.2.1 g7 from by rw [g4,g5];exact c6.o);have h5:=E g0.o;have j2:=E (show FS W p q jp jb (bZ p c a6 a5 T (U a0 f a1) J (Q (K ⟨jp,0,I⟩)) a7 a2 P) e9 R.1 R.2.1 g7 from by rw [j.o];exact h3.o);clear g4 g5)
  |(go_at_call 166;refine(b5.o _ _ _ _ e7.o (h8.o _ _ a8.o)).mono ?_;rintro h g7 ⟨a,e9,b9,c0⟩;rw [e6.o] at a;subst a;have c6:=E b9;have g0:=E (a8.o.fn c0 a9.o.1 a9.o.2);clear b9 c0)
  |(go_at_call 165;refine(b4.o _ _ b0.o b7.o).mono ?_;rintro h j1 ⟨a,h4,s3,a3,n⟩;rw [e0.o] at a;subst a;have g9:=E s3;have a8:=E (r.o.trans a3);obtain⟨jp,jb,n,c1,b8⟩:=n h9.o;have e7:=E n;have a9:=E (YI (Yl r.o.aD.size c1) (Yl r.o.aD.size b8));clear n a3 c1 b8;clear s3)
  |(go_at_call 164;refine(c3.o _ _ m.o ⟨_,s.o,rfl⟩).mono ?_;rintro h w2 ⟨a,L2,g⟩;rw [c5.o] at a;subst a;have b0:=E g.aB;have r:=E (z.o.sn g);have b7:=E (g.ay m.o.dp s.o);clear g)
  |(go_at_call 163;refine c2.o.mono ?_;rintro h w1 ⟨a,L1,b⟩;rw [b6.o] at a;subst a;have m:=E b.aB;have z:=E (b.on (q:=q));have s:=E (b.ay e4.o.dp e3.o);clear b))
 go_returns
 obtain rfl:e5=7:=by rw [<-e2.o,j.o];exact if_pos rfl
 have l9:=i0.o;refine⟨by rw [l9];rfl,_,j4.o.aB,h5.o.ext l3.o,λ_=>⟨_,_,j4.o,a9.o.1,a9.o.2⟩⟩
end
theorem NV(a:V):d prog 70 #[Ya,Yd 49 (A G 10)] a λb c=>b=e (.bool false)/\a=c:=by
 have f:=λa=>run_eql_iface_nil_left (P:=prog) (w:=a) (ti:=32) 49 (A G 10) underlying32
 go_enter func70,ntmps70;go_wp2;go_returns;exact⟨rfl,rfl⟩
section
variable {W:V} {p q jp jb tb:Nat} {cs:Array Z} {L L1 L2:bY} {D D1:DS} {J J1:bJ} {w w0 w1 w2:V} {fv gv cv mv:Z} {a b:TC}
theorem mR(g:Option Yi)(c h:Nat)(a:ai w q cs 114)(b:cs[15]? =K (U g c h)):
  d prog 77 #[Q (K q)] w λf i=>f=e (A G c)/\w=i:=by
 have j:=(a.cell 15).trans b;have k:=a.lt;clear a b;go_enter func77,ntmps77;go_wp2;go_returns;exact⟨rfl,rfl⟩
theorem RS.mh{i c:Nat}{j:Array Z}(h:RS W p q jp jb tb fv gv cv mv a b D J L w)(t:RN p q jp jb tb L w L1 w1)(f:ai w i j c)(k:c≠126)(l:c≠129)(m:c≠131)(n:c≠5)(o:c≠140)(r:c≠114)(s:c≠117):ai w1 i j c:=
 f.bS (t.aD.block i f.lt λg=>by
  rcases g with g|rfl|rfl
  .exact h.fs.apart f k l m n o g
  .exact gq f h.fs.ay r rfl
  .exact gq f h.tk s rfl)
theorem St.rs{f:Nat}(c:St W p q jp jb tb fv gv cv f L w):∃mv a b,RS W p q jp jb tb fv gv cv mv a b (eO f).1 (eO f).2 L w:=by
 by_cases h:f=0
 .subst h;exact⟨_,_,_,c⟩
 .by_cases j:f<=7
  .rw [qg O j] at c
   obtain⟨mv,k,g, -⟩:=c;exact⟨_,_,_,g⟩
  .by_cases i:f<=14
   .rw [qb O i] at c
    obtain⟨mv,k,g, -⟩:=c;exact⟨_,_,_,g⟩
   .rw [sK O] at c
    obtain⟨mv,g⟩:=c;rw [Nc f O];exact⟨_,_,_,g⟩
theorem ky.rs{g:Nat}(c:ky W p q jp jb tb fv gv cv g L w):∃mv a b D J,RS W p q jp jb tb fv gv cv mv a b D J L w:=by
 unfold ky at c;split at c
 .obtain⟨mv,a,b,f⟩:=St.rs c;exact⟨_,_,_,_,_,f⟩
 .split at c
  .obtain⟨mv,f⟩:=c;exact⟨_,_,_,_,_,f⟩
  .obtain⟨mv,a,b,f⟩:=St.rs c;exact⟨_,_,_,_,_,f⟩
def eu(a:cF)(c:Z)(f:Int)(p:Nat)(b:Option Yi):Array Z:=#[A G a.fq,A G a.eC,A G a.reach,A G a.cut,A G a.gop,A G a.bX,A G a.room,A G a.fill,c,A G f,Q (K p),Q b]
theorem LJ(l m:Nat)(t:cF)(v:Z)(x:Int)(b2:St W p q jp jb tb fv gv cv 0 L w)(R:ai w l (eu t v x p (K q)) 67)(P:m<=1000):
  d prog 36 #[Q (K l),A G m] w λn T=>n=e Ya/\∃j,St W p q jp jb tb fv gv cv m j T/\RN p q jp jb tb L w j T:=by
 have b9:=E R;have b8:=E b2;have b0:=E (λc=>NV c)
 have b5:=E (λ(i:Nat) (h:bY) (c:V) (f:St W p q jp jb tb fv gv cv i h c)=>show d prog 77 #[Q (K q)] c λn T=>n=e (A G 2)/\c=T from by
  obtain⟨mv,a,b,y⟩:=f.rs
  exact mR (K tb) 2 2 y.fs.ay rfl)
 have b3:=E (λ(i:Nat) (h:bY) (c:V) (f:St W p q jp jb tb fv gv cv i h c)=>UD i f);have b4:=E (λ(i:Nat) (h:bY) (c:V) (f:ky W p q jp jb tb fv gv cv i h c)=>UE i f)
 have b6:=E (λ(i:Nat) (h:bY) (c:V) (a2:bY) (F:V) (f:St W p q jp jb tb fv gv cv i h c) (g:ai c l (eu t v x p (K q)) 67) (P:RN p q jp jb tb h c a2 F)=>show ai F l (eu t v x p (K q)) 67 from by
  obtain⟨mv,a,b,y⟩:=f.rs
  exact y.mh P g H H H H H H H)
 have b7:=E (λ(i:Nat) (h:bY) (c:V) (a2:bY) (F:V) (f:ky W p q jp jb tb fv gv cv i h c) (g:ai c l (eu t v x p (K q)) 67) (P:RN p q jp jb tb h c a2 F)=>show ai F l (eu t v x p (K q)) 67 from by
  obtain⟨mv,a,b,D,J,y⟩:=f.rs
  exact y.mh P g H H H H H H H)
 have mJ:w.cell? ⟨l,11,I⟩=K (Q (K q)):=R.cell 11;have e3:=R.lt;have c7:¬(m:Int)<0:=O;have c8:¬(m:Int)>1000:=O;clear b2 R;go_enter func36,ntmps36;go_wp2
 go_loopw [23] (λa9 wr=>∃k:Nat,k<=m/\a9=A G k/\∃j,St W p q jp jb tb fv gv cv k j wr/\ai wr l (eu t v x p (K q)) 67/\RN p q jp jb tb L w j wr) (λa9 _=>m - (Yz a9).toNat)
 case atStart=>exact⟨0,Yr _,rfl,L,b8.o,b9.o,RN.refl _ _ _ _ _ _ _⟩
 case round=>
  obtain⟨k,c9,rfl,L1,a8,g,r⟩:=hrel;have ST:=E a8;have c1:=E g;have b1:=E r;by_cases e0:k<m
  .have c5:wr.cell? ⟨l,11,I⟩=K (Q (K q)):=g.cell 11
   have e2:=g.lt;clear a8 g r
   go_wp2_with (first
    |(go_at_call 77;refine(b5.o _ _ _ ST.o).mono ?_;rintro n w2 ⟨rfl,rfl⟩))
   go_loopw [30] (λC c=>∃j,((C=A G 0/\St W p q jp jb tb fv gv cv k j c)∨(C=A G 1/\ky W p q jp jb tb fv gv cv k j c)∨(C=A G 2/\St W p q jp jb tb fv gv cv (k+1) j c))/\ai c l (eu t v x p (K q)) 67/\RN p q jp jb tb L w j c) (λC _=>(2 - Yz C).toNat)
   case atStart=>exact⟨L1,Yg ⟨rfl,ST.o⟩,c1.o,b1.o⟩
   case round=>
    obtain⟨c0,c2,g,r⟩:=hrel;have a6:=E g;have a5:=E r;have c6:=(show _=K (Q (K q)) from g.cell 11);have e1:=g.lt
    rcases c2 with⟨rfl,f⟩|⟨rfl,f⟩|⟨rfl,f⟩
    .have s:=E f
     clear f g r
     go_wp2_with (first
      |(go_at_call 70;refine(b0.o _).mono ?_;rintro n c4 ⟨rfl,rfl⟩)
      |(go_at_call 31;refine(b3.o _ _ _ s.o).mono ?_;rintro n c3 ⟨rfl,a1,z,u⟩;have a0:=E z;have a3:=E (a5.o.trans u);have a7:=E (b6.o _ _ _ _ _ s.o a6.o u);clear z u))
     go_roundw
     case rel=>exact⟨a1,Yh (Yg ⟨rfl,a0.o⟩),a7.o,a3.o⟩
     case measure=>decide
    .have s:=E f
     clear f g r
     go_wp2_with (first
      |(go_at_call 70;refine(b0.o _).mono ?_;rintro n c4 ⟨rfl,rfl⟩)
      |(go_at_call 31;refine(b4.o _ _ _ s.o).mono ?_;rintro n c3 ⟨rfl,a1,z,u⟩;have a0:=E z;have a3:=E (a5.o.trans u);have a7:=E (b7.o _ _ _ _ _ s.o a6.o u);clear z u))
     go_roundw
     case rel=>exact⟨a1,Yh (Yh ⟨rfl,a0.o⟩),a7.o,a3.o⟩
     case measure=>decide
    .have s:=E f
     clear f g r;go_wp2;go_roundw
     case rel=>exact⟨k+1,O,S,c0,s.o,a6.o,a5.o⟩
     case measure=>simp [Yz];omega
  .obtain rfl:k=m:=O
   clear a8 g r;go_wp2;go_returns;exact⟨rfl,L1,ST.o,b1.o⟩
end
theorem NS:(prog.info? 117).map (λa=>(a.zero,a.size,a.bytes))=K (K (Yc #[.bool false,A G 0,A G 0,U I 0 0]),4,48):=B
def sM(a:Nat):Array Z:=madeCells #[.bool false,A G 0,A G 0,U I 0 0] (a*4)
theorem yx(a:Nat)(k:a<=64)(b:V):(Instr.makeSlice 112 (A G a) (A G a)).run prog b= .ok (U (K b) a a) (b.alloc (M (sM a) 117)):=by
 obtain⟨j,f,g,h,i⟩:=info_parts NS;have c:=run_make (P:=prog) b 112 117 j _ underlying112 f g G G (a:Int) (a:Int) O (Int.le_refl _) (by rw [i];omega) O;rw [c,h,Int.toNat_natCast];rfl
theorem Ho:sM 2=qt TC.ae TC.ae:=B
section
variable {W:V} {p q jp jb:Nat} {cs:Array Z} {L L1 L2:bY} {D D1:DS} {J J1:bJ} {w w0 w1 w2:V}
theorem ai.VQ{b c a h j i:Z}{f:cF}{g:Bool}(k:ai w q (bZ p f (A G 0) (A G 0) (U I 0 0) (U I 0 0) (U I 0 0) h j i g) 114):ai (((((w.setCell ⟨q,9,I⟩ (A G 8)).setCell ⟨q,10,I⟩ (A G 8)).setCell ⟨q,11,I⟩ b).setCell ⟨q,12,I⟩ c).setCell ⟨q,13,I⟩ a) q (bZ p f (A G 8) (A G 8) b c a h j i g) 114:=
 ((((k.set 9 (A G 8)).set 10 (A G 8)).set 11 b).set 12 c).set 13 a
theorem xZ(w:V)(q:Nat)(c f g a b:Z):af (·=q) w (((((w.setCell ⟨q,9,I⟩ c).setCell ⟨q,10,I⟩ f).setCell ⟨q,11,I⟩ g).setCell ⟨q,12,I⟩ a).setCell ⟨q,13,I⟩ b):=
 aL (aL (aL (aL (aL (af.refl _ _) rfl) rfl) rfl) rfl) rfl
theorem aC.mh(a:aC W p L D w)(h:ai w q cs 114)(j:W.heap.size<=q)(g:af (·=q) w w1):aC W p L D w1:=
 ⟨a.dp.stays λc f=>g.block c (a.dp.lt f) (λb=>mO a.dp h (b▸f)),a.own,a.below.trans (g.below (λc b=>by have i:c=q:=b;omega) a.size)⟩
theorem cA.on{k:Z}{g:Bs}(c:cA p L w k g)(m:ai w q cs 114)(j:ON p q L w L1 w1):cA p L1 w1 k g:=by
 have i:=λa b=>(c.1.lt a b).2
 refine⟨an c.1 λa b=>j.aD.block a (i a b) (λf=>?_),λa b l=>?_⟩
 .rcases f with f|rfl
  .exact c.2 a b f
  .exact cW m c.1 H b
 .rcases j.new a l with h|h
  .exact c.2 a b h
  .have:=i a b;omega
theorem cA.RU{g:Z}{b:Bs}(a:cA p L w g b)(j:ai w q cs 114)(i:af (·=q) w w1):cA p L w1 g b:=
 ⟨an a.1 λf c=>i.block f (a.1.lt f c).2 (λh=>cW j a.1 H (by rw [c,h])),a.2⟩
theorem cA.ext{c:Z}{a:Bs}(b:cA p L w c a)(f:X w w w1):cA p L w1 c a:=⟨aG b.1 f,b.2⟩
theorem Eu{c a:Nat}{g:Array Z}(h:aC W p L D w)(n:ai w q cs 114)(o:ON p q L w L1 w1)(b:ai w c g a)(i:a≠126)(j:a≠129)(k:a≠131)(l:a≠5)(m:a≠114):ai w1 c g a:=
 b.bS (o.aD.block c b.lt (λf=>by
  rcases f with f|rfl
  .exact dr h.dp b i j k l f
  .exact gq b n m rfl))
theorem zP{b a i h:Nat}{j:Z}{k:List Z}(l:aC W p L D w)(x:ai w q cs 114)(C:ON p q L w L1 w1)(y:w.ownsRow b a i j h k)(n:a≠126)(o:a≠129)(r:a≠131)(s:a≠5)(t:a≠114):w1.ownsRow b a i j h k:=by
 obtain⟨g,m|⟨f,cap,c,rfl,u,v,z⟩⟩:=y
 .exact⟨g,Yg m⟩
 .exact⟨g,Yh ⟨f,cap,c,rfl,u,Eu l x C (show ai w f c a from v) n o r s t,z⟩⟩
theorem d_.on{i:Nat}{k l j:Z}(u:d_ w i k l j)(a:aC W p L D w)(b:ai w q cs 114)(c:ON p q L w L1 w1):d_ w1 i k l j:=by
 obtain⟨⟨v,m,n,f⟩,⟨o,r⟩,⟨s,t⟩⟩:=u;exact⟨⟨v,zP a b c m H H H H H,n,λh g=>⟨⟨zP a b c (f h g).1.1 H H H H H,(f h g).1.2⟩,(f h g).2⟩⟩,⟨zP a b c o H H H H H,r⟩,⟨zP a b c s H H H H H,t⟩⟩
theorem d_.Uy{i:Nat}{g h f:Z}(p:d_ w i g h f):d_ w 0 g h f:=by
 obtain⟨⟨q,j,k,a⟩,⟨l,m⟩,⟨n,o⟩⟩:=p;exact⟨⟨q,aA j (Yr _),k,λc b=>⟨⟨aA (a c b).1.1 (Yr _),(a c b).1.2⟩,(a c b).2⟩⟩,⟨aA l (Yr _),m⟩,⟨aA n (Yr _),o⟩⟩
theorem ON.S'(b:af (·=q) w w1):ON p q L w L w1:=⟨b.mono λ_ _ a=>Yh a,λ_ a=>Yg a⟩
def je(W:V)(p g:Nat)(L:bY)(R:DS×bJ×Nat×Int)(w:V)(j:Ending)(a:V):Prop:=
 ∃b,aC W p b R.1 a/\af (L.has p) w a/\(∀f,b.has p f->L.has p f∨w.heap.size<=f)/\
 ((R.2.2.2=0/\∃q jp jb h k l i,j=e (Ye #[Q (K ⟨q,0,I⟩),Ya])/\FS W p q jp jb (Mx p k l i (Q (K ⟨jp,0,I⟩)) (U (K ⟨h,0,I⟩) g g) (U I 0 0)) b R.1 R.2.1 a/\d_ a 0 k l i/\ai a h (sM g) 117/\w.heap.size<=h/\w.heap.size<=q/\w.heap.size<=jp/\w.heap.size<=jb)∨
  (R.2.2.2≠0/\∃c,j=e (Ye #[Q I,Yd 142 (Q (K ⟨c,0,I⟩))])/\ai a c (EX #[102,97,114,109] (R.2.2.1:Int) R.2.2.2) 144/\w.heap.size<=c))
theorem Kl(a7 c:Nat)(n:Z)(e3:aC W p L D w)(i0:cA p L w n dx)(m7:1<=c)(b4:c<=64)(h4:D.down=false)(g8:Inv D a7)(h1:a7+3*D.names.length+60<=100000)(h5:(bz (cl bu dx) 1 0 D).2.2.2=0->(bz (cl bu dx) 1 0 D).2.1.state=1/\(bz (cl bu dx) 1 0 D).2.1.chunks<=100/\(∀f,f<(bz (cl bu dx) 1 0 D).2.1.chunks->pB (bz (cl bu dx) 1 0 D).2.1.done f=I)/\(dY (bz (cl bu dx) 1 0 D).2.1.done (bz (cl bu dx) 1 0 D).2.1.chunks).length≠0)(h9:(cy (bk (bm (aI D) false D).1).1 aw).length<=90000):
  d prog 76 #[Q (K p),Yc bE,n,A G c] w (je W p c L (bz (cl bu dx) 1 0 D) w):=by
 have c7:=E (λg=>vB g);have c6:=E (λg b7=>uR p L D g b7);rw [h4] at c6;have F:=E (λg (b7:ah g n dx)=>Dc n g b7);unfold bE at c7 F⊢;unfold oA at F;have j4:=E i0;have a5:=E e3;have i7:=E (ai.new w #[A G 0,A G 3,A G 0,A G 0,A G 4,A G 8,A G 64,A G 8] 23);have j2:=E (N:X w w (w.alloc (M #[A G 0,A G 3,A G 0,A G 0,A G 4,A G 8,A G 64,A G 8] 23)));have m5:¬(c:Int)<1:=O;have m6:¬(c:Int)>64:=O
 have l1:=λw=>yx c b4 w
 have c8:=E (λ(q m3 g7:Nat) (b0 a9 i1 i4:Z) (g6:Option Yi) (g:V) (k9:aC W p L D g) (g9:ai g q (bZ p bu (A G 8) (A G 8) b0 (U g6 1 g7) a9 i1 i4 (U I 0 0) false) 114) (l0:W.heap.size<=q) (h2:cA p L g n dx)=>K_ a7 1 g7 bu (A G 8) (A G 8) b0 a9 i1 i4 (U I 0 0) g6 false n dx k9 g9 l0 H h2.bytes (λm0 n2 b4=>(h2.on g9 b4).bytes) H H g8 h1 h5 h9);obtain⟨R,h0⟩:∃R,bz (cl bu dx) 1 0 D=R:=⟨_,rfl⟩;rw [h0] at c8⊢;clear e3 i0 h4 g8 h1 h5 h9 h0;go_enter func76,ntmps76
 go_wp2_with (first
  |(go_at_call 63;refine(c7.o _).mono ?_;rintro k w1 ⟨rfl,b2⟩;have t:=E (ext j2.o b2);have T:=E (i7.o.ext b2);obtain⟨b8,b9,c0,c1,c2,c3,c4,c5⟩:=T.o.eight;have i2:=T.o.lt;clear b2)
  |(go_at_call 119;refine(c6.o _ (a5.o.ext t.o).dp).mono ?_;rintro k w2 ⟨rfl,rfl⟩))
 go_region
 obtain⟨y,j⟩:∃a8,a8=((w1.alloc (M (sM c) 117)).alloc (M #[Q (K p),A G 0,A G 3,A G 0,A G 0,A G 4,A G 8,A G 64,A G 8,A G 0,A G 0,U I 0 0,U I 0 0,U I 0 0,Q I,U (K w1) c c,U I 0 0,.bool false] 114)).drew:=⟨_,rfl⟩;have l9:=E j;have J:=E (show X w w y from by rw [j];exact ext t.o (N:X w1 w1 _));have e0:=E (show ai y w #[A G 0,A G 3,A G 0,A G 0,A G 4,A G 8,A G 64,A G 8] 23 from by rw [j];exact T.o.ext (N:X w1 w1 _));have e5:=E (show ai y w1 (sM c) 117 from by rw [j];exact((ai.new w1 _ _).alloc _).bw);have a2:=E (show ai y (w1.heap.size+1) (bZ p bu (A G 0) (A G 0) (U I 0 0) (U I 0 0) (U I 0 0) (Q I) (U (K w1) c c) (U I 0 0) false) 114 from by rw [j];exact(h_ _ _ _ _ Y).bw);rw [<-j];clear j b8 b9 c0 c1 c2 c3 c4 c5 i2;have e2:=E (show W.heap.size<=w1.heap.size from Yl a5.o.size t.o.size);obtain⟨a,b6⟩:∃l3,w1.heap.size=l3:=⟨_,rfl⟩;rw [b6] at e5 a2 e2⊢;have j3:=E (show w.heap.size<=a from b6▸t.o.size);clear b6 l1;obtain⟨b8,b9,c0,c1,c2,c3,c4,c5⟩:=e0.o.eight;have i2:=e0.o.lt;have j9:=E (a5.o.ext J.o);have e6:=E (j4.o.ext J.o);have m9:=a2.o.lt
 go_wp2_with (first
  |(go_at_call 89;refine(F.o _ e6.o.bytes).mono ?_;rintro k i ⟨b0,m4,a9,rfl,b5,b3⟩;obtain⟨e8,e9,g0,g1,g2,g3,rfl,rfl,rfl⟩:=b5.shape;have j6:=E b5;have u:=E b3;have b:=E (a2.o.ext b3);have l8:i.cell? ⟨a+1,9,I⟩=K (A G 0):=b.o.cell 9;have l4:i.cell? ⟨a+1,10,I⟩=K (A G 0):=b.o.cell 10;have l5:i.cell? ⟨a+1,11,I⟩=K (U I 0 0):=b.o.cell 11;have l6:i.cell? ⟨a+1,12,I⟩=K (U I 0 0):=b.o.cell 12;have l7:i.cell? ⟨a+1,13,I⟩=K (U I 0 0):=b.o.cell 13;have k8:=b.o.free 9;have k4:=b.o.free 10;have k5:=b.o.free 11;have k6:=b.o.free 12;have k7:=b.o.free 13;have n0:=b.o.lt;clear b5 b3))
 obtain⟨z,C⟩:∃a8,a8=(((((i.setCell ⟨a+1,9,I⟩ (A G 8)).setCell ⟨a+1,10,I⟩ (A G 8)).setCell ⟨a+1,11,I⟩ (U e8 1 e9)).setCell ⟨a+1,12,I⟩ (U g0 1 g1)).setCell ⟨a+1,13,I⟩ (U g2 1 g3)):=⟨_,rfl⟩
 have l:af (·=a+1) i z:=by rw [C];exact xZ i (a+1) _ _ _ _ _
 have h8:ai z (a+1) (bZ p bu (A G 8) (A G 8) (U e8 1 e9) (U g0 1 g1) (U g2 1 g3) (Q I) (U (K a) c c) (U I 0 0) false) 114:=by rw [C];exact b.o.VQ
 have m8:=e2.o;have l2:=j3.o;have x:=j9.o.ext u.o;have a6:=E (x.mh b.o O l);have j7:=E (j6.o.Uy.on x b.o (ON.S' l));have k0:=E (Eu x b.o (ON.S' l) (e5.o.ext u.o) H H H H H);have k2:=E ((e6.o.ext u.o).RU b.o l);have a3:=E h8;have v:=E (show af (L.has p) w z from(af.aj (ext J.o u.o)).js l (λf k=>Yh (by have m2:f=a+1:=k;omega)));rw [<-C];clear C l h8 x l8 l4 l5 l6 l7 k8 k4 k5 k6 k7 b8 b9 c0 c1 c2 c3 c4 c5;refine(c8.o _ 0 _ _ _ _ _ _ z a6.o a3.o O k2.o).mono ?_;rintro k i5 ⟨rfl,a1,i3,m,g4⟩;have e4:=E i3;have m1:=E m;have j0:=E g4;have j8:=E (j7.o.on a6.o a3.o m);have k1:=E (Eu a6.o a3.o m k0.o H H H H H)
 have a0:=E (show af (L.has p) w i5 from v.o.js m.aD (λf s=>by
  rcases s with s|rfl
  .exact Yg s
  .exact Yh O))
 have e7:=E (show∀f,a1.has p f->L.has p f∨w.heap.size<=f from λf s=>by
  rcases m.new f s with b1|b1
  .exact Yg b1
  .exact Yh (Yl v.o.size b1))
 clear i3 m g4;unfold je;by_cases h:R.2.2.2=0
 .rw [if_pos h,h,ar]
  obtain⟨jp,jb,g5,h7,r⟩:=j0.o h;have j1:=E g5;have c9:=E (YI (Yl v.o.size h7) (Yl v.o.size r));have P:=E h;clear g5 h7 r h;go_wp2;go_returns;exact⟨a1,e4.o,a0.o,e7.o,Yg ⟨P.o,_,jp,jb,a,_,_,_,rfl,j1.o,j8.o,k1.o,l2,O,c9.o.1,c9.o.2⟩⟩
 .rw [if_neg h,aT h]
  have i9:=E (jm #[102,97,114,109] (R.2.2.1:Int) 49 (A G R.2.2.2) i5);have P:=E h;clear h
  go_wp2_with (go_at_call 45;refine i9.o.mono ?_;rintro k n1 ⟨k3,rfl,r,h6,h3⟩;have i6:=E r;have j5:=E h6;have e1:=E h3;clear r h6 h3)
  go_returns;exact⟨a1,e4.o.ext e1.o,a0.o.trans (af.aj e1.o),e7.o,Yh ⟨P.o,k3,rfl,i6.o,Yl a0.o.size j5.o⟩⟩
end
section
variable {W:V} {p q jp jb tb:Nat} {cs:Array Z} {L L1 L2:bY} {D D1:DS} {J J1:bJ} {w w0 w1 w2:V}
theorem AW(F:FS W p q jp jb cs L D J w):
  d prog 38 #[Q (K q)] w λc h=>∃a b,c=e (Q (K ⟨a,0,I⟩))/\ct h a b J/\X w w h:=by
 have i:=E (Ky jp jb J w F.jD);have k:=F.dP;have l:=F.ay.lt;clear F;go_enter func38,ntmps38
 go_wp2_with (go_at_call 79;refine i.o.mono ?_;rintro c w1 ⟨a,b,rfl,g, -, -,f⟩;have J1:=E g;have j:=E f;clear g f)
 go_returns;exact⟨_,_,rfl,J1.o,j.o⟩
theorem p_(c:Nat)(m:cF)(r:Z)(t:Int)(F:FS W p q jp jb cs L D J w)(b:ai w c (eu m r t p (K q)) 67):
  d prog 11 #[Q (K c)] w λa s=>a=e (A G (J.state:Int))/\X w w s:=by
 have j:=E (AW F);have k:=E (λ(f g:Nat) (u:V) n=>eI f g J u n);have mJ:w.cell? ⟨c,11,I⟩=K (Q (K q)):=b.cell 11;have v:=b.lt;clear F b;go_enter func11,ntmps11
 go_wp2_with (first
  |(go_at_call 38;refine j.o.mono ?_;rintro a w1 ⟨f,g,rfl,i,h⟩;have J1:=E i;have l:=E h;clear i h)
  |(go_at_call 39;refine(k.o _ _ _ J1.o).mono ?_;rintro a w2 ⟨rfl,rfl⟩))
 go_returns;exact⟨rfl,l.o⟩
theorem zW(b:Nat)(l:cF)(m:Z)(r:Int)(i:Option Yi)(c j:Nat)(h:ai w q cs 114)(f:cs[15]? =K (U i c j))(a:ai w b (eu l m r p (K q)) 67):
  d prog 62 #[Q (K b)] w λg n=>g=e (A G c)/\w=n:=by
 have k:=E (mR i c j h f);have mJ:w.cell? ⟨b,11,I⟩=K (Q (K q)):=a.cell 11;have s:=a.lt;clear h f a;go_enter func62,ntmps62
 go_wp2_with (go_at_call 77;refine k.o.mono ?_;rintro g w1 ⟨rfl,rfl⟩)
 go_returns;exact⟨rfl,rfl⟩
end
def pZ:List FV->Option Bs
 |[]=>I
 |a::b=>if a.name=fM then K a.data else pZ b
section
variable {W:V} {p q jp jb tb:Nat} {cs:Array Z} {L L1 L2:bY} {D D1:DS} {J J1:bJ} {w w0 w1 w2:V}
def P_(w:V)(o:Option Bs)(b:Ending)(f:V):Prop:=
 X w w f/\match o with
 |none=>b=e (Ye #[U I 0 0,.bool false])
 |some a=>∃c,b=e (Ye #[c,.bool true])/\f.ownsRow w 5 1 c a.length (ak a)
theorem wF(R a6:Nat)(P:aC W p L D w)(Eb:w.cell? ⟨a6,10,I⟩=K (Q (K p)))(n:Inv D R)(a1:R<=100000):
  d prog 19 #[Q (K a6)] w (P_ w (pZ (cY D))):=by
 have z:=E (P.files n a1);have c9:=Yj w _ Eb
 have b4:(cY D).length<=100000:=by rw [jw];have:=n.gI;omega
 generalize cY D=b at*;obtain⟨c,s⟩:∃c,b.length=c:=⟨_,rfl⟩;have J:=E s;rw [s] at b4 z;clear P n a1 s;go_enter func19,ntmps19
 go_wp2_with (go_at_call 37;refine z.o.mono ?_;rintro a0 w1 ⟨c2,cap,rfl,a5, -,a2⟩;have b0:=E a5;have C:=E a2;clear a5 a2)
 go_loopw [12] (λx wr=>∃a:Nat,a<=c/\x=A G a/\pZ b=pZ (b.drop a)/\X w1 w1 wr) (λx _=>c - (Yz x).toNat)
 case atStart=>exact⟨0,Yr _,rfl,Y,Yn _ _⟩
 case round=>
  obtain⟨a,c8,rfl,t,h⟩:=hrel;have k:=E t;have j:=E h;by_cases b5:a<c
  .have r:a<b.length:=by rw [J.o];exact b5
   have a3:b.drop a=b.getD a FV.ae::b.drop (a+1):=by simp [YR,YM r]
   have F:=E a3;obtain⟨b2,e1,rfl,c7,y,b7,b8,u⟩:=(b0.o.ext h).cellAt r;obtain⟨b9,c0,v⟩:=aK u;have a9:=E u;generalize b.getD a FV.ae=b1 at*;obtain⟨f,T,b6⟩:=b1;simp only at y b7 b8 v;obtain⟨l,q⟩:∃l,T.length=l:=⟨_,rfl⟩;rw [q] at v;subst v;clear a3 t h u r;have c1:=E q;clear q;by_cases i:f=fM
   .subst i
    have e0:wr.cell? ⟨b2,a*3,I⟩=K (Yb ⟨#[111,117,116]⟩):=y;clear y;go_wp2;go_returns
    have g:pZ b=K T:=by rw [k.o,F.o];exact if_pos rfl
    rw [g];have c6:X wr wr (wr.alloc (M #[Yb ⟨#[111,117,116]⟩,U b9 l c0,A G b6] 74)):=N;exact⟨ext (ext C.o j.o) N,_,rfl,aG a9.o N⟩
   .have m:¬f=[111,117,116]:=i
    have c3:¬f.toArray.toList=[111,117,116]:=by simpa using m
    have b3:¬[111,117,116]=f:=λa0=>m a0.symm
    have c4:(f==[111,117,116])=false:=by simpa using m
    have c5:([111,117,116]==f)=false:=by simpa using b3
    have a8:=E i;clear i;go_wp2;go_roundw
    case rel=>exact⟨a+1,O,S,by rw [k.o,F.o];exact if_neg a8.o,ext j.o N⟩
    case measure=>simp [Yz];omega
  .obtain rfl:a=c:=O
   have g:pZ b=I:=by rw [k.o,<-J.o,List.drop_length];rfl
   have a7:=E g;clear t h g;go_wp2;go_returns;rw [a7.o];exact⟨ext C.o j.o,rfl⟩
end
section
variable {w:V}
theorem sI{P:Z->V->Prop}(m l j:Nat)(c:Int)(i:Option Yi)
  (h:∀g,X w w g->d prog 33 #[Q (K m),A G c] g λb f=>∃a,b=e a/\P a f):
  d prog 9 #[Q (K m),Yc #[A G 3,A G c,U i l j]] w λb f=>∃a,b=e a/\P a f:=by
 have C:=E h;have n:=E (N:X w w (w.alloc (M #[A G 3,A G c,U i l j] 35)));clear h;go_enter func9,ntmps9
 go_wp2_with (go_at_call 33;refine(C.o _ n.o).mono ?_;rintro b g ⟨a,rfl,k⟩;have p:=E k;clear k)
 go_returns;exact⟨_,rfl,p.o⟩
theorem yA{P:Z->V->Prop}(m l j:Nat)(c:Int)(i:Option Yi)
  (h:∀g,X w w g->d prog 36 #[Q (K m),A G c] g λb f=>∃a,b=e a/\P a f):
  d prog 9 #[Q (K m),Yc #[A G 6,A G c,U i l j]] w λb f=>∃a,b=e a/\P a f:=by
 have C:=E h;have n:=E (N:X w w (w.alloc (M #[A G 6,A G c,U i l j] 35)));clear h;go_enter func9,ntmps9
 go_wp2_with (go_at_call 36;refine(C.o _ n.o).mono ?_;rintro b g ⟨a,rfl,k⟩;have p:=E k;clear k)
 go_returns;exact⟨_,rfl,p.o⟩
theorem yz(g c b:Nat)(f:Int)(a:Option Yi)(mJ:w.cell? ⟨g,11,I⟩=K (Q I)):
  d prog 9 #[Q (K g),Yc #[A G 1,A G f,U a c b]] w λi j=>i=e (bj 12)/\X w w j:=by
 have m:=Yj w _ mJ;have h:=E (N:X w w (w.alloc (M #[A G 1,A G f,U a c b] 35)));have l:(w.alloc (M #[A G 1,A G f,U a c b] 35)).cell? ⟨g,11,I⟩=K (Q I):=aZ h.o mJ;rw [aT (k:=12) H];go_enter func9,ntmps9;go_wp2;go_returns;exact⟨rfl,N⟩
end
theorem EA(a:V):d prog 57 #[] a λc f=>c=e (Yc bE)/\X a a f:=by
 unfold bE;have b:=ai.new a #[A G 0,A G 3,A G 0,A G 0,A G 4,A G 8,A G 64,A G 8] 23;obtain⟨g,h,i,j,k,l,m,n⟩:=b.eight;go_enter func57,ntmps57;go_wp2;refine YD (by simp [YU,results57,go_sem,g,h,i,j,k,l,m,n];try rfl) rfl ?_;exact⟨rfl,N⟩
theorem Gx(k j:Z)(a c:Bs)(g:V)(i:ah g k a)(h:ah g j c):
  d prog 41 #[k,j] g λb m=>b=e (.bool (a==c))/\g=m:=by
 have n:=i.str;have p:=h.str;clear i h;by_cases f:a=c
 .subst f
  have b:(a==a)=true:=Y;rw [b];clear b;go_enter func41,ntmps41;go_wp2;go_returns;exact⟨Y,rfl⟩
 .have b:(a==c)=false:=by simpa using f
  rw [b];have l:Hd (¬a=c):=f;clear b f;go_enter func41,ntmps41;go_wp2;go_returns;exact⟨by simp;exact l.o,rfl⟩
theorem ym{g:Bs}:∀{f:List FV},(∃a∈f,a.name=fM)->(∀a∈f,a.name=fM->a.data=g)->pZ f=K g
 |[],h,_=>by obtain⟨a,b, -⟩:=h;cases b
 |j::k,h,ha=>by
  unfold pZ;by_cases c:j.name=fM
  .rw [if_pos c,ha j (List.mem_cons_self) c]
  .rw [if_neg c]
   refine ym ?_ (λa b=>ha a (List.mem_cons_of_mem _ b));obtain⟨a,b,i⟩:=h
   rcases List.mem_cons.1 b with rfl|b
   .exact absurd i c
   .exact⟨a,b,i⟩
theorem yk:∀{b:List FV},(∀a∈b,a.name≠fM)->pZ b=I
 |[],_=>rfl
 |c::g,h=>by
  unfold pZ;rw [if_neg (h c (List.mem_cons_self))]
  exact yk λa f=>h a (List.mem_cons_of_mem _ f)
theorem pU{a:DS}{b:FV}:b∈cY a↔∃c∈cK a.names,uX a c=b:=by
 unfold cY aI;simp
theorem Lc{a:DS}(f:fM∈cK a.names):pZ (cY a)=K (a.file (aM a.names fM)).data:=by
 refine ym ⟨uX a fM,pU.2 ⟨_,f,rfl⟩,rfl⟩ ?_;intro i g b;obtain⟨h, -,rfl⟩:=pU.1 g;have c:h=fM:=b;subst c;rfl
theorem IJ{a:DS}(f:¬fM∈cK a.names):pZ (cY a)=I:=
 yk λj g b=>by
  obtain⟨i,h,rfl⟩:=pU.1 g;have c:i=fM:=b;exact f (c▸h)
theorem NI:((cK (eO 15).1.names).contains fM&&((eO 15).1.file (aM (eO 15).1.names fM)).data==gj&&!((cK (bz (cl bu dx) 1 0 (dZ 0)).1.names).contains fM))=true:=B
theorem Ra:pZ (cY (eO 15).1)=K gj:=by
 have a:=NI;simp only [YV,List.contains_iff_mem,beq_iff_eq,Bool.not_eq_true'] at a;rw [Lc a.1.1,a.1.2]
theorem OF:pZ (cY (bz (cl bu dx) 1 0 (dZ 0)).1)=I:=by
 have a:=NI;simp only [YV,List.contains_iff_mem,beq_iff_eq,Bool.not_eq_true'] at a
 refine IJ λc=>?_
 have b:=a.2;rw [List.contains_iff_mem.2 c] at b;cases b
section
variable {W:V} {p q jp jb:Nat} {cs:Array Z} {L L1 L2:bY} {D D1:DS} {J J1:bJ} {w w0 w1 w2:V}
def uu(w:V)(g:cF)(i k:Int)(j:Bs)(h:Ending)(b:V):Prop:=
 ∃c p L f,h=e (Ye #[Q (K ⟨c,0,I⟩),Ya])/\DP b p L (dZ i)/\(∀a,L.has p a->w.heap.size<=a)/\ai b c (eu g f k p I) 67/\cA p L b f j/\w.heap.size<=c/\(∀a,f.ownBlock=K a->w.heap.size<=a)/\X w w b
theorem Mc{o:cF}{t u:Int}{k:Bs}{w w1 w2 c g:V}{p:Ending}{l:Z}{f:Nat}(z:p=e (Ye #[Q (K f),Ya]))(v:X w w w1)(h:X w w w2)(i:DP w2 (w1.heap.size+2) ⟨U I 0 0,U I 0 0,w1.heap.size,w1.heap.size+1,[]⟩ (dZ t))(m:X w2 w2 c)(j:c.ownsRow w2 5 1 l k.length (ak k))(C:f=c.heap.size)(n:X c c g)(y:ai g f (eu o l u (w1.heap.size+2) I) 67):uu w o t u k p g:=by
 have s:X w2 w2 g:=ext m n;refine⟨f,w1.heap.size+2,_,l,z,i.stays λb a=>s.block b (i.lt a),λb a=>Yl v.size (Qz rfl b a),y,⟨aA (aG j n) (Yr _),λb a x=>?_⟩,?_,λb a=>?_,ext h s⟩
 .have q:=(j.lt b a).1
  have r:=i.lt x;omega
 .have q:=h.size;have r:=m.size;omega
 .have q:=(j.lt b a).1;have r:=h.size;omega
theorem yD(f:cF)(g b:Int)(u:Z)(a:Bs)(w:V)(F:iB f=true)(W:ah w u a)(T:a.length<=140737488355328)(R:0<=g/\g<=16777216)(b8:1<=b)(b9:b<=64):
  d prog 28 #[f.val,u,A G g,A G b] w (uu w f g b a):=by
 have x:=E (λv=>by have:=fV f v;rw [F,if_pos rfl,ar] at this;exact this);have a2:=E (λv=>QP g R v);obtain⟨i,j,k,l,m,n,p,q⟩:=f;have r:cF.val ⟨i,j,k,l,m,n,p,q⟩=Yc #[A G i,A G j,A G k,A G l,A G m,A G n,A G p,A G q]:=rfl;rw [r] at x⊢;have a8:=E W;have a6:=E T;have a1:=E (ai.new w #[A G i,A G j,A G k,A G l,A G m,A G n,A G p,A G q] 23);have a5:=E (N:X w w (w.alloc (M #[A G i,A G j,A G k,A G l,A G m,A G n,A G p,A G q] 23)));have c0:¬b<1:=O;have c1:¬b>64:=O;clear F W T R r;go_enter func28,ntmps28
 go_wp2_with (first
  |(go_at_call 63;refine(x.o _).mono ?_;rintro r w1 ⟨rfl,s⟩;have y:=E (ext a5.o s);have b0:=E (a1.o.ext s);clear s)
  |(go_at_call 64;refine(a2.o _).mono ?_;rintro r w2 ⟨rfl,J,t⟩;have z:=E (ext y.o t);have h:=E (b0.o.ext t);have a3:=E J;obtain⟨c3,c4,c5,c6,c7,c8,c9,e0⟩:=h.o.eight;have c2:=h.o.lt;clear J t))
 have D:=E (show(w2.alloc (M #[] 5)).drew.ownsRow w2 5 1 (U (K w2) 0 0) ([]:Bs).length (ak []) from World.ownsRow_lit w2 #[] 0 (Yk _) (by simp [YO]) Y);have c:=E (N:X w2 w2 (w2.alloc (M #[] 5)).drew);have a9:=E (a8.o.ext (ext z.o c.o));have a7:=E (show([]:Bs).length+a.length<=140737488355328 from by have:=a6.o;simp;omega);have b1:=E (h.o.ext c.o);obtain⟨e1,e2,e3,e4,e5,e6,e7,e8⟩:=b1.o.eight
 go_region_law ((refine Mp (by rfl) _ _ (by rfl) w2 (U (K w2) 0 0) u [] a (by rfl) D.o (by rfl) a9.o a7.o c.o.size ?_;intro b3 b4 a0 P L b5;have C:=E (show X w2 w2 a0 from c.o.grown L c.o.size (λb7 b6=>(D.o.lt b7 b6).1));have b2:=E (show a0.ownsRow w2 5 1 (U b3 a.length b4) a.length (ak a) from by simpa using P);obtain⟨e9,g0,g1,g2,g3,g4,g5,g6⟩:=(h.o.ext C.o).eight;clear P L b5))
 all_goals go_wp2
 all_goals go_returns
 all_goals exact Mc rfl y.o z.o a3.o C.o b2.o rfl N (ai.new _ _ _)
end
def jU:Array Z:=#[A Yf 75,A Yf 83,A Yf 1,A Yf 1,A Yf 1]
def Tq:Bs:=[75,83,1,1,1]++YA 9 0
theorem Mw:jU.toList++(Builtin.zeroCells #[A Yf 0] 9).toList=ak Tq:=B
theorem size_zeroCells(a:Nat):(Builtin.zeroCells #[A Yf 0] a).size=a:=by simp [Builtin.zeroCells]
theorem Pj(k:TypeId)(b:Nat×Nat)(a:V):∃cap c,(Builtin.append_ #[24,3] k #[U (K a) 5 5,A G 9]).run prog (a.alloc (M jU 5 b))= .ok (U (K ⟨a.heap.size+1,0,I⟩) 14 cap) ((a.alloc (M jU 5 b)).drew.alloc (M c 5))/\14<=cap/\cap<=YO/\c.size=cap/\c.toList.take 14=ak Tq:=by
 obtain⟨g,s,x,h,i⟩:=info_parts NJ;have w:(a.alloc (M jU 5 b)).heap.size=a.heap.size+1:=Y
 have v:(Builtin.firstCells g.size 5 (U (K a) 5 5)).run prog (a.alloc (M jU 5 b)).drew= .ok jU.toList.toArray (a.alloc (M jU 5 b)).drew:=by
  rw [h];refine run_firstCells_some (P:=prog) _ 1 5 a 5 5 jU.toList rfl ?_;intro j y t;rw [Go.WideShapes.add_plain,Nat.zero_add];have m:(a.alloc (M jU 5 b)).heap[a.heap.size]? =K (M jU 5 b):=heap_alloc_new a _;have n:=cell_of_row (a.alloc (M jU 5 b)) a j jU 5 b m
  have o:jU[j]? =K y:=by simpa using t
  exact(show(a.alloc (M jU 5 b)).drew.cell? _=_ from n).trans o
 have q:Builtin.nextslicecap (5+9) 5*g.bytes<=281474976710656:=by rw [i];decide
 have f:=Lib.run_append_grow_zeros (P:=prog) (a.alloc (M jU 5 b)) 24 3 k 5 g _ G G underlying24 underlying3 s x (K a) 5 5 jU.toList v 9 H (by rw [h];decide) H H (by rw [i];decide) q;rw [w] at f;have r:=grownCap_ge (a.alloc (M jU 5 b)) (5+9) 5 5;have u:=grownCap_le_maxLen (a.alloc (M jU 5 b)) (5+9) 5 5 (by unfold YO;omega);generalize grownCap (a.alloc (M jU 5 b)) (5+9) 5 5=cap at*;have p:(A Yf 0).cells=#[A Yf 0]:=rfl;rw [p] at f;refine⟨cap,_,f,r,u,?_,?_⟩
 .simp only [Array.size_append,size_zeroCells]
  have:jU.toList.toArray.size=5:=rfl;omega
 .have l:(jU.toList.toArray++Builtin.zeroCells #[A Yf 0] 9++Builtin.zeroCells #[A Yf 0] (cap - (5+9))).toList=ak Tq++(Builtin.zeroCells #[A Yf 0] (cap - (5+9))).toList:=by
   rw [Array.toList_append,Array.toList_append,<-Mw]
  rw [l,List.take_append_of_le_length (by rw [ie];decide)];exact List.take_of_length_le (by rw [ie];decide)
theorem DY{g:Array Oper}{h:List Oper}{o:Oper}{c:Act}{f:Exit->Act->V->Prop}(b:V)(r:o.guard=I)(i j:Operand)(s:o.op= .call {callee:= .builtin .append,args:=#[i,j],argTypes:=#[24,3]})
  (u:c.eval i=U (K b) 5 5)(v:c.eval j=A G 9)
  (k:∀cap a,14<=cap->cap<=YO->a.size=cap->a.toList.take 14=ak Tq->wpList prog g f h (c.put o.dst (U (K ⟨b.heap.size+1,0,I⟩) 14 cap)) ((b.alloc (M jU 5 (5,6))).drew.alloc (M a 5))):
  wpList prog g f (o::h) c (b.alloc (M jU 5 (5,6))):=by
 obtain⟨cap,a,t,l,m,n,p⟩:=Pj o.type (5,6) b
 refine wpList_plain r λw q=>?_
 unfold Oper.wp execOp;simp only [s,resolve,invoke,builtin,Sem.run_bind,Sem.run_pure,Result.andThen_ok,List.map_toArray,List.map_cons,List.map_nil,u,v,t];exact q _ _ (k cap a l m n p)
theorem Mg(a:V):d prog 58 #[] a λn k=>∃j,n=e j/\k.ownsRow a 5 1 j Tq.length (ak Tq)/\X a a k:=by
 have r:=λ(a:V) (C:Array Z) (q m:Nat)=>Lib.run_convert_bytes_const (P:=prog) a 24 5 C q m underlying24 underlying5
 go_enter func58,ntmps58
 go_wp2_with (at_builtin;go_loud (refine DY a rfl (.tmp 2) (.const (A G 9)) rfl rfl rfl ?_;intro cap h b c g f;have l:=E (YI b (YI c (YI g f)));clear b c g f))
 go_returns;obtain⟨b,c,g,f⟩:=l.o;refine⟨_,rfl,⟨by rw [ie,Nat.mul_one],Yh ⟨a.heap.size+1,cap,h,rfl,Nat.le_succ _,?_,b,c,O,f⟩⟩,N⟩;have i:=heap_alloc_new (a.alloc (M jU 5 (5,6))).drew (M h 5);have p:(a.alloc (M jU 5 (5,6))).drew.heap.size=a.heap.size+1:=Y;rw [p] at i;exact i
section
variable {W:V} {p q jp jb tb:Nat} {cs:Array Z} {L L1 L2:bY} {D D1:DS} {J J1:bJ} {w w0 w1 w2:V}
def Jl(W:V)(p b g:Nat)(h:Z)(L:bY)(R:DS×bJ×Nat×Int)(w:V)(a:Ending)(c:V):Prop:=
 (R.2.2.2=0/\a=e Ya/\∃w1 q,je W p b L R w.drew (e (Ye #[Q (K ⟨q,0,I⟩),Ya])) w1/\c=w1.setCell ⟨g,11,I⟩ (Q (K ⟨q,0,I⟩)))∨
 (R.2.2.2≠0/\∃f,a=e f/\je W p b L R w.drew (e (Ye #[Q I,f])) c)
theorem wG(v f a:Nat)(m:Z)(u:aC W p L D w)(b:ai w a (eu bu m (f:Int) p I) 67)(z:cA p L w m dx)(b3:1<=f)(b2:f<=64)(a1:D.down=false)(P:Inv D v)(a0:v+3*D.names.length+60<=100000)(a2:(bz (cl bu dx) 1 0 D).2.2.2=0->(bz (cl bu dx) 1 0 D).2.1.state=1/\(bz (cl bu dx) 1 0 D).2.1.chunks<=100/\(∀a5,a5<(bz (cl bu dx) 1 0 D).2.1.chunks->pB (bz (cl bu dx) 1 0 D).2.1.done a5=I)/\(dY (bz (cl bu dx) 1 0 D).2.1.done (bz (cl bu dx) 1 0 D).2.1.chunks).length≠0)(a3:(cy (bk (bm (aI D) false D).1).1 aw).length<=90000):
  d prog 33 #[Q (K a),A G 0] w (Jl W p f a m L (bz (cl bu dx) 1 0 D) w):=by
 have J:=E (show X w w w.drew from ag (Yn _ _) _);have j:=E (Kl v f m (u.ext J.o) (z.ext J.o) b3 b2 a1 P a0 a2 a3)
 have C:=E (λ(R:DS×bJ×Nat×Int) (c:Ending) (h:V) (g:je W p f L R w.drew c h)=>show ai h a (eu bu m (f:Int) p I) 67 from by
  obtain⟨F, -,b1, -⟩:=g
  exact(show ai w.drew a _ _ from b).bS (b1.block a b.lt (λb0=>dr u.dp b H H H H b0)))
 obtain⟨R,T⟩:∃R,bz (cl bu dx) 1 0 D=R:=⟨_,rfl⟩;rw [T] at j⊢;obtain⟨b5,b7,b6,rfl⟩:=z.Me;unfold bE at j;have b9:w.cell? a=K (A G 0):=b.cell 0;have c0:w.cell? ⟨a,1,I⟩=K (A G 3):=b.cell 1;have c1:w.cell? ⟨a,2,I⟩=K (A G 0):=b.cell 2;have c2:w.cell? ⟨a,3,I⟩=K (A G 0):=b.cell 3;have c3:w.cell? ⟨a,4,I⟩=K (A G 4):=b.cell 4;have c4:w.cell? ⟨a,5,I⟩=K (A G 8):=b.cell 5;have c5:w.cell? ⟨a,6,I⟩=K (A G 64):=b.cell 6;have c6:w.cell? ⟨a,7,I⟩=K (A G 8):=b.cell 7;have c7:w.cell? ⟨a,8,I⟩=K (U b5 b7 b6):=b.cell 8;have c8:w.cell? ⟨a,9,I⟩=K (A G f):=b.cell 9;have Eb:w.cell? ⟨a,10,I⟩=K (Q (K p)):=b.cell 10;have mJ:w.cell? ⟨a,11,I⟩=K (Q I):=b.cell 11;have e2:=b.lt;clear u b z a1 P a0 a2 a3 T;by_cases k:R.2.2.2=0
 .have r:=E (j.o.mono (R':=λc h=>∃q,c=e (Ye #[Q (K ⟨q,0,I⟩),Ya])/\je W p f L R w.drew c h) (λc h l=>by
   obtain⟨F,a7,a8,a9,x⟩:=id l
   rcases x with⟨-,q,jp,jb,tb,e0,e1,c9,rfl, -⟩|⟨y, -⟩
   .exact⟨q,rfl,l⟩
   .exact absurd k y))
  have t:=E k;clear j k;go_enter func33,ntmps33;go_wp2
  go_region_with ((go_at_call 76;refine r.o.mono ?_;rintro c w1 ⟨q,rfl,g⟩;have i:=E (C.o _ _ w1 g);have b8:w1.cell? ⟨a,11,I⟩=K (Q I):=i.o.cell 11;have a6:=i.o.free 11;have b4:=i.o.lt;have s:=E g;clear g))
  all_goals (
   go_wp2;go_returns
   exact Yg ⟨t.o,rfl,w1,q,s.o,rfl⟩)
 .have r:=E (j.o.mono (R':=λc h=>∃n,c=e (Ye #[Q I,Yd 142 (Q (K ⟨n,0,I⟩))])/\je W p f L R w.drew c h) (λc h l=>by
   obtain⟨F,a7,a8,a9,x⟩:=id l
   rcases x with⟨y, -⟩|⟨-,n,rfl, -⟩
   .exact absurd y k
   .exact⟨n,rfl,l⟩))
  have t:=E k;clear j k;go_enter func33,ntmps33;go_wp2
  go_region_with ((go_at_call 76;refine r.o.mono ?_;rintro c w1 ⟨n,rfl,g⟩;have i:=E (C.o _ _ w1 g);have b8:w1.cell? ⟨a,11,I⟩=K (Q I):=i.o.cell 11;have a6:=i.o.free 11;have b4:=i.o.lt;have s:=E g;clear g))
  all_goals (
   go_wp2;go_returns
   exact Yh ⟨t.o,_,rfl,s.o⟩)
end
end
end Go.Proofs.YtajkpgaheechmaaGreatDoor
