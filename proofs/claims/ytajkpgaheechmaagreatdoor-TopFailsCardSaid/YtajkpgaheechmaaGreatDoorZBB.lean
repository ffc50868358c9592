/- FmI FmJ FmK FmL FmM FmN FmO FmQ FmR FmS FmT -/
import Derived.Test.YtajkpgaheechmaaGreatDoorZAQ
import Derived.Test.YtajkpgaheechmaaGreatDoorZBA
set_option maxRecDepth 100000
set_option maxHeartbeats 16000000
set_option linter.unusedSimpArgs false
set_option linter.unusedVariables false
set_option linter.unusedSectionVars false
namespace Go.Proofs.YtajkpgaheechmaaGreatDoor
open _root_.Go.Proofs.Tryz
open Go.Value renaming int->A,slice->U,pointer->Q,nilIface->Ya,string->Yb,agg->Yc,tuple->Ye,ownBlock->YT
open Go.IntKind renaming i64->G,wrap_i64->Yo,wrap->Zc
open Option renaming none->I,some->K
open Go.Obj renaming cells->M
open Go.Ending renaming returned->e
open Go renaming World->V,Value->Z,Calls->d,Addr->Yi,bodyPost_ret->YD,maxLen->YO,results->YU
open Go.RowKit renaming Below->X,ownsRow_setCell_below->Yu,intOf->Yz
open Or renaming inl->Yg,inr->Yh
open Go.World renaming block_lt_of_cell?->Yj,ownsRow_nil->YC
open Nat renaming le_refl->Yk,le_trans->Yl,zero_le->Yr
open Go.RowKit.Below renaming refl->Yn
open List renaming getElem?_eq_getElem->YM,getD->YR,range->Za
open Go.Value.slice renaming injEq->Yy
open Option.some renaming inj->YG
open And renaming intro->YI
open Bool renaming and_eq_true->YV
section
open Go.RowKit
theorem PD(a:Bs):Zc G (aF a:Int)=(aF a:Int):=by
 have:=iZ a;rw [Yo];omega
def DQ(kind b:Nat)(a:Bs):aU:=⟨kind,aF a,b,a.length,0⟩
theorem Ba(kind f:Nat)(j:Z)(a:Bs)(b:V)(h:ah b j a):
  d prog 158 #[A G kind,A G f,j] b λc w=>c=e (DQ kind f a).val/\X b b w:=by
 have n:=E (N:X b b (b.alloc (M #[A G 0,A G 0,A G 0,A G 0,A G 0] 93)));have g:=E (ai.new b #[A G 0,A G 0,A G 0,A G 0,A G 0] 93);have k:=E (λx q=>px j a x q);have l:=E (h.ext n.o);have a1:=PD a;obtain⟨y,cap,rfl⟩:=h.shape;have c:aU.val (DQ kind f a)=Yc #[A G kind,A G (aF a:Int),A G f,A G (a.length:Int),A G 0]:=rfl;rw [c];generalize aF a=p at*;obtain⟨i,m⟩:∃i,a.length=i:=⟨_,rfl⟩;rw [m] at k l⊢;clear h c m;obtain⟨P,R,T,W,a0⟩:=g.o.cL;obtain⟨z,C,D,F,J⟩:=g.o.eU;have L:=g.o.lt;go_enter func158,ntmps158
 go_wp2_with (first
  |(go_at_call 135;refine(k.o _ l.o).mono ?_;rintro c a2 ⟨rfl,rfl⟩))
 obtain⟨r,s,t,u,v⟩:=(g.o.rE (A G kind) (A G p) (A G f) (A G i) (A G 0)).cL;refine YD (by simp [YU,results158,go_sem,r,s,t,u,v];try rfl) rfl ?_;exact⟨rfl,N⟩
def nr(b a:Nat):Bs:=if a=b then TE else I' a
def Ab(b a:Nat):Bs:=if a=b then fM else iz a
section
variable {W:V} {p q jp jb:Nat} {cs:Array Z} {L L1 L2:bY} {D D1:DS} {J J1:bJ} {w w0 w1 w2:V}
theorem iF(a:Nat)(F:FS W p q jp jb cs L D J w)(i:a<=99):
  d prog 103 #[Q (K q),A G a] w λc v=>c=e (Ye #[Yb ⟨(nr J.chunks a).toArray⟩,Yb ⟨(Ab J.chunks a).toArray⟩])/\X w w v:=by
 have h:=E (λf u=>fO jp jb J f u);have r:=E (λf=>Ms a i f);have n:=E (λf=>uL a i f);have j:=E F;have y:=F.dP;have z:=F.ay.lt;clear F i;unfold nr Ab;obtain⟨b,m⟩:∃b,J.chunks=b:=⟨_,rfl⟩;rw [m] at h⊢;clear m;by_cases g:a=b
 .subst g
  rw [if_pos rfl,if_pos rfl];go_enter func103,ntmps103
  go_wp2_with (first
   |(go_at_call 101;refine(h.o _ j.o.jD).mono ?_;rintro c w1 ⟨rfl,rfl⟩))
  go_returns;exact⟨rfl,Yn _ _⟩
 .rw [if_neg g,if_neg g]
  have x:¬(a:Int)=(b:Int):=O
  have P:((a:Int)==(b:Int))=false:=by simpa using x
  clear g;go_enter func103,ntmps103
  go_wp2_with (first
   |(go_at_call 101;refine(h.o _ j.o.jD).mono ?_;rintro c w1 ⟨rfl,rfl⟩)
   |(go_at_call 147;refine(r.o _).mono ?_;rintro c w2 ⟨rfl,k⟩;have s:=E k;clear k)
   |(go_at_call 148;refine(n.o _).mono ?_;rintro c C ⟨rfl,l⟩;have t:=E (ext s.o l);clear l))
  go_returns;exact⟨rfl,t.o⟩
theorem JK{w g:V}{a c f:Nat}{i j:Z}(h:X w w g)(b:w.cell? ⟨a,c,I⟩=K i/\w.cell? ⟨a,f,I⟩=K j):g.cell? ⟨a,c,I⟩=K i/\g.cell? ⟨a,f,I⟩=K j:=
 ⟨(h.cell (p:=⟨a,c,I⟩) (Yj w _ b.1)).trans b.1,(h.cell (p:=⟨a,f,I⟩) (Yj w _ b.2)).trans b.2⟩
def fR(c b:Nat)(a:Bs):aU:=if b=c then DQ 51 0 a else DQ 49 b a
theorem wh(g off b step:Nat)(e2 i:Z)(a:Bs)(F:FS W p q jp jb cs L D J w)(c3:ah w i a)
  (a0:w.cell? ⟨g,off+1,I⟩=K (A G b))(a9:w.cell? ⟨g,off+3,I⟩=K i):
  d prog 111 #[Q (K q),Q (K ⟨g,off,I⟩)] w λc h=>c=e (fR J.chunks b a).val/\X w w h:=by
 have lt:=Yj w _ a0;have l:=E (N:X w w (w.alloc (M #[A G 0,A G 0,A G 0,A G 0,A G 0] 93)));have a1:=E (ai.new w #[A G 0,A G 0,A G 0,A G 0,A G 0] 93);have u:=E (λf t=>fO jp jb J f t);have v:=E (F.ext l.o);have b7:=v.o.dP;have e3:=v.o.ay.lt;have a5:=E c3;have b0:(w.alloc (M #[A G 0,A G 0,A G 0,A G 0,A G 0] 93)).cell? ⟨g,off+1,I⟩=K (A G b):=(l.o.cell (p:=⟨g,off+1,I⟩) lt).trans a0;have e0:(w.alloc (M #[A G 0,A G 0,A G 0,A G 0,A G 0] 93)).cell? ⟨g,off+3,I⟩=K i:=(l.o.cell (p:=⟨g,off+3,I⟩) lt).trans a9;clear a0 a9;have a6:=E (show((w.alloc (M #[A G 0,A G 0,A G 0,A G 0,A G 0] 93)).drew).cell? ⟨g,off+1,I⟩=K (A G b)/\((w.alloc (M #[A G 0,A G 0,A G 0,A G 0,A G 0] 93)).drew).cell? ⟨q,14,I⟩=K (Q (K jp)) from⟨b0,b7⟩);have a2:=E (v.o.ext (N:X _ _ (w.alloc (M #[A G 0,A G 0,A G 0,A G 0,A G 0] 93)).drew));unfold fR;obtain⟨r,a8⟩:∃r,J.chunks=r:=⟨_,rfl⟩;rw [a8] at u⊢;clear a8 F;by_cases y:b=r
 .subst y
  rw [if_pos rfl];have n:=E (λ(f:V) (t:ah f i a)=>show d prog 158 #[A G 51,A G 0,i] f λc h=>c=e (DQ 51 0 a).val/\X f f h from Ba 51 0 i a f t);have c:aU.val (DQ 51 0 a)=Yc #[A G 51,A G (aF a:Int),A G 0,A G (a.length:Int),A G 0]:=rfl;rw [c] at n⊢;clear c;go_enter func111,ntmps111;go_wp2
  go_region_held3 (λh=>h.cell? ⟨g,off+1,I⟩=K (A G b)/\h.cell? ⟨q,14,I⟩=K (Q (K jp))) (first|exact a6.o)
   ((go_at_call 101;refine(u.o _ a2.o.jD).mono ?_;rintro c w1 ⟨rfl,rfl⟩))
  go_wp2_with (first
   |(go_at_call 158;refine(n.o _ (a5.o.ext (ag (show X w w _ from l.o) _))).mono ?_;rintro c w2 ⟨rfl,k⟩;have x:=E (ext (ag (show X w w _ from l.o) _) k);have j:=E ((show ai _ w _ _ from a1.o.bw).ext k);obtain⟨c5,c6,c7,c8,c9⟩:=j.o.cL;obtain⟨b8,b9,c0,c1,c2⟩:=j.o.eU;have c4:=j.o.lt;clear k))
  obtain⟨z,C,P,R,T⟩:=(j.o.rE (A G 51) (A G (aF a:Int)) (A G 0) (A G (a.length:Int)) (A G 0)).cL;refine YD (by simp [YU,results111,go_sem,z,C,P,R,T];try rfl) rfl ?_;exact⟨rfl,dO x.o (Yk _) _ _ _ _ _⟩
 .rw [if_neg y]
  have e1:¬(b:Int)=(r:Int):=O
  have e8:((b:Int)==(r:Int))=false:=by simpa using e1
  clear y;have n:=E (λ(f:V) (t:ah f i a)=>show d prog 158 #[A G 49,A G b,i] f λc h=>c=e (DQ 49 b a).val/\X f f h from Ba 49 b i a f t);have c:aU.val (DQ 49 b a)=Yc #[A G 49,A G (aF a:Int),A G b,A G (a.length:Int),A G 0]:=rfl;rw [c] at n⊢;clear c;obtain⟨m,s⟩:∃b6,b6=(w.alloc (M #[A G 0,A G 0,A G 0,A G 0,A G 0] 93)).drew:=⟨_,rfl⟩;have b3:=E (show X w w m from by rw [s];exact ag (show X w w _ from l.o) _);have b1:=E (show ai m w #[A G 0,A G 0,A G 0,A G 0,A G 0] 93 from by rw [s];exact a1.o.bw);have a7:=E (show m.drew.cell? ⟨g,off+1,I⟩=K (A G b)/\m.drew.cell? ⟨g,off+3,I⟩=K i from by rw [s];exact⟨b0,e0⟩);have b5:=E s;have a3:=E (show X w w m.drew from ag b3.o _);have b4:=E (a5.o.ext a3.o);have b2:=E (show ai m.drew w #[A G 0,A G 0,A G 0,A G 0,A G 0] 93 from b1.o.bw);clear s;go_enter func111,ntmps111;go_wp2
  go_region_held3 (λh=>h.cell? ⟨g,off+1,I⟩=K (A G b)/\h.cell? ⟨q,14,I⟩=K (Q (K jp))) (first|exact a6.o)
   ((go_at_call 101;refine(u.o _ a2.o.jD).mono ?_;rintro c w1 ⟨rfl,rfl⟩))
  rw [<-b5.o];go_wp2;obtain⟨e4,e5⟩:=a7.o
  go_region_with ((go_at_call 158;refine(n.o _ b4.o).mono ?_;rintro c w2 ⟨rfl,k⟩;have x:=E (ext a3.o k);have j:=E (b2.o.ext k);obtain⟨e6,e7⟩:=JK k a7.o;obtain⟨c5,c6,c7,c8,c9⟩:=j.o.cL;obtain⟨b8,b9,c0,c1,c2⟩:=j.o.eU;have c4:=j.o.lt;clear k))
  all_goals (
   go_wp2;obtain⟨z,C,P,R,T⟩:=(j.o.rE (A G 49) (A G (aF a:Int)) (A G b) (A G (a.length:Int)) (A G 0)).cL;refine YD (by simp [YU,results111,go_sem,z,C,P,R,T];try rfl) rfl ?_
   exact⟨rfl,dO x.o (Yk _) _ _ _ _ _⟩)
end
section
variable {W:V} {p q jp jb:Nat} {cs:Array Z} {L L1 L2:bY} {D D1:DS} {J J1:bJ} {w w0 w1 w2:V}
theorem zO(l:FS W p q jp jb cs L D J w)(z:FN p jp jb L w L1 w1){b a i h:Nat}{j:Z}{k:List Z}(x:w.ownsRow b a i j h k)(n:a≠126)(o:a≠129)(r:a≠131)(s:a≠5)(t:a≠140):w1.ownsRow b a i j h k:=by
 obtain⟨g,m|⟨f,cap,c,rfl,u,v,y⟩⟩:=x
 .exact⟨g,Yg m⟩
 .exact⟨g,Yh ⟨f,cap,c,rfl,u,FN.ay l z (show ai w f c a from v) n o r s t,y⟩⟩
theorem d_.fn{h:Nat}{j k i:Z}(t:d_ w h j k i)(a:FS W p q jp jb cs L D J w)(b:FN p jp jb L w L1 w1):d_ w1 h j k i:=by
 obtain⟨⟨u,l,m,c⟩,⟨n,o⟩,⟨r,s⟩⟩:=t;exact⟨⟨u,zO a b l H H H H H,m,λg f=>⟨⟨zO a b (c g f).1.1 H H H H H,(c g f).1.2⟩,(c g f).2⟩⟩,⟨zO a b n H H H H H,o⟩,⟨zO a b r H H H H H,s⟩⟩
def Mx(p:Nat)(b c a f h g:Z):Array Z:=
 #[Q (K p),A G 0,A G 3,A G 0,A G 0,A G 4,A G 8,A G 64,A G 8,A G 8,A G 8,b,c,a,f,h,g,.bool false]
theorem KY{w:V}{b a:Nat}(c:b≠a)(f:lN w b)(m n o j:Z):lN ((((w.setCell a m).setCell ⟨a,1,I⟩ n).setCell ⟨a,2,I⟩ o).setCell ⟨a,3,I⟩ j) b:=by
 obtain⟨g,k,l,h,i⟩:=f;exact⟨iE c g _ _ _ _,k,l,iE c h _ _ _ _,i⟩
theorem OH(z C y b0 b2 b1:Z)(a:ai w q (Mx p z C y b0 b2 b1) 114)(D:d_ w 0 z C y):
  d prog 150 #[Q (K q),A G 0] w λg b4=>dE 0 cU w g b4:=by
 have n:=E (λJ F=>Ie 0 z C y J F);have m:=E (λ(b cap:Nat) J F=>Kr b cap J F);obtain⟨a1,a2,a3,a5,a6,a7,rfl,rfl,rfl⟩:=D.shape;have L:=E D;have b5:=E a;have b6:w.cell? ⟨q,1,I⟩=K (A G 0):=a.cell 1;have b9:w.cell? ⟨q,2,I⟩=K (A G 3):=a.cell 2;have c0:w.cell? ⟨q,3,I⟩=K (A G 0):=a.cell 3;have c1:w.cell? ⟨q,4,I⟩=K (A G 0):=a.cell 4;have c2:w.cell? ⟨q,5,I⟩=K (A G 4):=a.cell 5;have c3:w.cell? ⟨q,6,I⟩=K (A G 8):=a.cell 6;have c4:w.cell? ⟨q,7,I⟩=K (A G 64):=a.cell 7;have c5:w.cell? ⟨q,8,I⟩=K (A G 8):=a.cell 8;have c6:w.cell? ⟨q,9,I⟩=K (A G 8):=a.cell 9;have Eb:w.cell? ⟨q,10,I⟩=K (A G 8):=a.cell 10;have mJ:w.cell? ⟨q,11,I⟩=K (U a1 1 a2):=a.cell 11;have b7:w.cell? ⟨q,12,I⟩=K (U a3 1 a5):=a.cell 12;have b8:w.cell? ⟨q,13,I⟩=K (U a6 1 a7):=a.cell 13;have e2:=a.lt;unfold bE oA MX at n;simp only [dE] at m⊢;obtain⟨W,a9⟩:∃a0,a0=(w.alloc (M #[A G 0,A G 0,A G 0,U I 0 0] 231)).drew:=⟨_,rfl⟩;have t:=E (N:X w w (w.alloc (M #[A G 0,A G 0,A G 0,U I 0 0] 231)).drew);have P:=E (show ai (w.alloc (M #[A G 0,A G 0,A G 0,U I 0 0] 231)).drew w #[A G 0,A G 0,A G 0,U I 0 0] 231 from(ai.new w _ _).bw);clear a9 W;have R:=E (L.o.ext t.o);have T:=E (L.o.ext (N:X w w w.drew));clear D a;go_enter func150,ntmps150;go_wp2
 go_region_with (first
  |(go_at_call 193;refine(n.o _ T.o).mono ?_;rintro g w1 ⟨b,cap,rfl,l,j,c⟩;have k:=E j;have r:=E (ext (ag (Yn _ w) _) c);clear l j c)
  |(go_at_call 193;refine(n.o _ R.o).mono ?_;rintro g w1 ⟨b,cap,rfl,l,j,c⟩;have k:=E (YI j l);have r:=E (ext t.o c);have x:=E (P.o.ext c);obtain⟨⟨e8,e9,g0,g1⟩,⟨c7,c8,c9,e0⟩⟩:=x.o.four;have e3:=x.o.lt;clear l j c))
 all_goals (first
  |(obtain⟨⟨e4,e5,e6,e7⟩, -⟩:=(x.o.wu (A G 0) (A G 0) (A G 1) (U (K b) 1 cap)).four
    have v:=E (KY (show b≠w.heap.size by have a8:=k.o.2;have e1:=t.o.size;simp at a8;omega) k.o.1 (A G 0) (A G 0) (A G 1) (U (K b) 1 cap));have f:=E (fT r.o (Yk _) (A G 0) (A G 0) (A G 1) (U (K b) 1 cap))
    go_wp2_with (go_at_call 194;refine(m.o _ _ _ v.o).mono ?_;rintro g w2 ⟨b3,rfl,i,h⟩;have u:=E (aA i f.o.size);have s:=E (ext f.o h);clear i h)
    go_returns
    exact⟨_,rfl,u.o,s.o⟩)
  |(have f:=E (ext r.o (N:X w1 w1 (w1.alloc (M #[A G 0,A G 0,A G 1,U (K b) 1 cap] 231))))
    have v:=E (k.o.ext (N:X w1 w1 (w1.alloc (M #[A G 0,A G 0,A G 1,U (K b) 1 cap] 231))))
    go_wp2_with (go_at_call 194;refine(m.o _ _ _ v.o).mono ?_;rintro g w2 ⟨b3,rfl,i,h⟩;have u:=E (aA i f.o.size);have s:=E (ext f.o h);clear i h)
    go_returns
    exact⟨_,rfl,u.o,s.o⟩))
end
section
variable {W:V} {p q jp jb:Nat} {cs:Array Z} {L L1 L2:bY} {D D1:DS} {J J1:bJ} {w w0 w1 w2:V}
theorem Lz(b:Nat)(a:Bs)(c:aC W p L D w)(g:Inv D b)(h:b<=100000)(i:a.length<=YO):
  d prog 191 #[Q (K p),Yb ⟨a.toArray⟩] w λf j=>dE (eh D a) (cy D a) w f j:=wc p L D a b w c.dp g h i
theorem A'(y:Nat)(C P z g9 g8:Z)(F:FS W p q jp jb (Mx p C P z (Q (K jp)) g9 g8) L D J w)(T:d_ w 0 C P z)(b4:J.chunks=1)(a7:Inv D y)(a8:y<=100000)(b8:eh D (iz 0)=0)(c0:cy D (iz 0)=cU):
  d prog 149 #[Q (K q)] w λf h1=>dE 0 gj w f h1:=by
 have a0:=E (λc g=>fO jp jb J c g);rw [b4] at a0;have c3:=E (λc=>uL 0 H c);have x:=E (λc (g:aC W p L D c)=>Lz y (iz 0) g a7 a8 H);have c4:=E (λv c g=>Fh v c g);have a1:=E (λ(b s k cap:Nat) c g g6=>wH 0 b s k cap C P z c g g6);obtain⟨e5,e6,e7,e8,e9,g0,rfl,rfl,rfl⟩:=T.shape;rw [b8,c0] at x;simp only [dE] at x⊢;unfold bE oA at a1;have c8:=E T;have r:=E F;have i6:=F.ay.lt;have h7:=F.dP;clear T b8 c0 a7 a8 F b4;go_enter func149,ntmps149
 go_wp2_with (first
  |(go_at_call 101;refine(a0.o _ r.o.jD).mono ?_;rintro f w1 ⟨rfl,rfl⟩))
 go_loopw [4,14] (λc2 u wr=>(u=A G 0/\c2=U I 0 0/\w=wr)∨(u=A G 1/\∃b h s k,c2=U (K ⟨b,0,I⟩) 1 h/\Ea wr b s k/\X w w wr)) (λ_ u _=>(1 - Yz u).toNat)
 case atStart=>exact Yg ⟨rfl,rfl,rfl⟩
 case round=>
  rcases hrel with⟨rfl,rfl,rfl⟩|⟨rfl,b,h,s,k,rfl,b7,t⟩
  .have h3:=r.o.cell0
   go_wp2
   go_region_with (first
    |(go_at_call 148;refine(c3.o _).mono ?_;rintro f w1 ⟨rfl,a9⟩;have a2:=E (ext (ag (Yn _ w) _) a9);have i:=E (r.o.ext a2.o);have i5:=i.o.cell0;have g7:=i.o.ay.lt;clear a9)
    |(go_at_call 191;refine(x.o _ i.o.aB).mono ?_;rintro f w2 ⟨v,b5,m,b0⟩;rw [ar] at b5;subst b5;have e4:=E (aq m);have c5:=E (ext a2.o b0);clear m b0))
   all_goals (
    go_wp2_with (first
     |(go_at_call 192;refine(c4.o _ _ e4.o).mono ?_;rintro f n ⟨b,h,g1,cap,rfl,R,c1,b1⟩;have e2:=E (show lN n b from⟨au R (j:=0) rfl,g1,cap,au R (j:=1) rfl,c1⟩);have c6:=E (ext c5.o b1);clear R c1 b1)
     |(at_builtin;go_loud (refine aX 166 231 4 48 _ underlying166 NK rfl H rfl (.tmp 38) (.tmp 40) rfl (n.heap.size+1) (U I 0 0) 0 [] [A G 0,A G 0,A G 1,U (K ⟨b,0,I⟩) 1 h] rfl (YC _ _ _ _) rfl (by first|rfl|simp) rfl (by intro i7 b9;simp at b9;rcases b9 with rfl|rfl|rfl<;>rfl) H H (by first|exact Yk _|simp) ?_;intro h0 h2 b6 b3 g5 _;have a5:=E b6;have c9:=E b3;clear b6 b3 g5)))
    obtain⟨g2,l,rfl⟩:∃b l,h0=U (K ⟨b,0,I⟩) 1 l:=by
     rcases aV a5.o with⟨_,g3⟩|⟨b,l,f,_⟩
     .cases g3
     .exact⟨b,l,f⟩
    have g4:X n n (n.alloc (M #[A G 0,A G 0,A G 1,U (K ⟨b,0,I⟩) 1 h] 231)):=N;have a6:=ext g4 (show X _ _ h2 from by simpa using c9.o)
    refine⟨Yh ⟨rfl,g2,l,b,h,rfl,uK a5.o (e2.o.ext a6),ext c6.o a6⟩,H⟩)
  .have i:=E (r.o.ext t)
   have e0:=E (c8.o.ext (ext t (N:X wr wr wr.drew)));have e3:=E (b7.ext (N:X wr wr wr.drew));have a3:=E t;have a:=i.o.ay;have h4:wr.cell? ⟨q,1,I⟩=K (A G 0):=a.cell 1;have k:wr.cell? ⟨q,2,I⟩=K (A G 3):=a.cell 2;have h8:wr.cell? ⟨q,3,I⟩=K (A G 0):=a.cell 3;have h9:wr.cell? ⟨q,4,I⟩=K (A G 0):=a.cell 4;have i0:wr.cell? ⟨q,5,I⟩=K (A G 4):=a.cell 5;have i1:wr.cell? ⟨q,6,I⟩=K (A G 8):=a.cell 6;have i2:wr.cell? ⟨q,7,I⟩=K (A G 64):=a.cell 7;have i3:wr.cell? ⟨q,8,I⟩=K (A G 8):=a.cell 8;have i4:wr.cell? ⟨q,9,I⟩=K (A G 8):=a.cell 9;have Eb:wr.cell? ⟨q,10,I⟩=K (A G 8):=a.cell 10;have mJ:wr.cell? ⟨q,11,I⟩=K (U e5 1 e6):=a.cell 11;have h5:wr.cell? ⟨q,12,I⟩=K (U e7 1 e8):=a.cell 12;have h6:wr.cell? ⟨q,13,I⟩=K (U e9 1 g0):=a.cell 13;have g7:=a.lt;clear a t b7;go_wp2
   go_region_with ((go_at_call 91;refine(a1.o _ _ _ _ _ e0.o e3.o).mono ?_;rintro f i9 ⟨v,rfl,m,b2⟩;have e1:=E (aA m a3.o.size);have c7:=E (ext (ext a3.o (ag (Yn _ wr) _)) b2);clear m b2))
   all_goals (
    go_wp2;go_returns
    exact⟨v,by rw [ar];rfl,e1.o,c7.o⟩)
end
def cr(b c:Nat)(g:Bs)(a:DS)(f:bJ):Nat->DS×bJ×Int
 |1=>(br a (nr b c),f,b_ a (bU a (nr b c)))
 |2=>(du a (nr b c) g,f,gf a (nr b c) g)
 |3=>(cV a (nr b c),f,fQ a (nr b c))
 |4=>(gO a (nr b c) (Ab b c),f,oC a (nr b c) (Ab b c))
 |5=>(dG a,f,jY a)
 |6=>(du a aw (eK aF (fR b c g)),f,gf a aw (eK aF (fR b c g)))
 |_=>kI (fR b c g) a f
theorem uh(a b:Nat):(nr a b).length<=YO:=by unfold nr;split<;>simp [TE,I',FL,YO]
theorem Qu(a b:Nat):(Ab a b).length<=YO:=by unfold Ab;split<;>simp [fM,iz,FL,YO]
theorem aZ{a g:V}{b c:Nat}{h:Z}(i:X a a g)(f:a.cell? ⟨b,c,I⟩=K h):g.cell? ⟨b,c,I⟩=K h:=(i.cell (p:=⟨b,c,I⟩) (Yj a _ f)).trans f
section
variable {W:V} {p q jp jb:Nat} {cs:Array Z} {L L1 L2:bY} {D D1:DS} {J J1:bJ} {w w0 w1 w2:V}
theorem RF(m h off a:Nat)(C:Z)(b:Bs)(F:FS W p q jp jb cs L D J w)(t:a<=99)(a7:ah w C b)(x:w.cell? ⟨h,off+1,I⟩=K (A G a))(y:w.cell? ⟨h,off+2,I⟩=K (A G 1))(z:w.cell? ⟨h,off+3,I⟩=K C)(b0:nO (fR J.chunks a b))(r:Inv D m)(a6:m+3<=100000)(a9:J.done.length<=100000):
  d prog 69 #[Q (K q),Q (K ⟨h,off,I⟩)] w λf i=>f=e (bj (cr J.chunks a b D J 1).2.2)/\∃l,FS W p q jp jb cs l (cr J.chunks a b D J 1).1 (cr J.chunks a b D J 1).2.1 i/\FN p jp jb L w l i:=by
 have P:=E (iF a F t);have T:=E F;have j:=E (YI x (YI y z));have lt:=Yj w _ x;have b7:=F.ay.lt;have s:cr J.chunks a b D J 1=(br D (nr J.chunks a),J,b_ D (bU D (nr J.chunks a))):=rfl;rw [s];have R:=E (λ(k:V) (a5:aC W p L D k)=>show d prog 105 #[Q (K p),Yb ⟨(nr J.chunks a).toArray⟩] k λf i=>f=e (bj (b_ D (bU D (nr J.chunks a))))/\bM W p L (br D (nr J.chunks a)) k i from a5.create r O (uh _ _));clear F y z s a7 b0 r a6 a9 t;generalize b1:nr J.chunks a=c0 at*;generalize a8:Ab J.chunks a=b6 at*;clear b1 a8;go_enter func69,ntmps69
 go_wp2_with (first
  |(go_at_call 103;refine P.o.mono ?_;rintro f w1 ⟨rfl,c⟩;have a1:=E c;have g:=E (T.o.ext c);have b3:=g.o.cell0;have a3:=aZ c j.o.1;have b4:=aZ c j.o.2.1;have b5:=aZ c j.o.2.2;have b9:=Yj w1 _ a3;have b8:=g.o.ay.lt;clear c)
  |(go_at_call 105;refine(R.o _ g.o.aB).mono ?_;rintro f c1 ⟨rfl,u⟩;obtain⟨b2,n,v⟩:=g.o.lR u;have a0:=E n;have a2:=E ((FN.aj p jp jb L a1.o).trans v);clear n v u))
 go_returns;exact⟨rfl,_,a0.o,a2.o⟩
theorem RG(r g off a:Nat)(h:Z)(b:Bs)(F:FS W p q jp jb cs L D J w)(x:a<=99)(u:ah w h b)(C:w.cell? ⟨g,off+1,I⟩=K (A G a))(P:w.cell? ⟨g,off+2,I⟩=K (A G 2))(R:w.cell? ⟨g,off+3,I⟩=K h)(b6:nO (fR J.chunks a b))(t:Inv D r)(b3:r+3<=100000)(b5:J.done.length<=100000):
  d prog 69 #[Q (K q),Q (K ⟨g,off,I⟩)] w λf i=>f=e (bj (cr J.chunks a b D J 2).2.2)/\∃n,FS W p q jp jb cs n (cr J.chunks a b D J 2).1 (cr J.chunks a b D J 2).2.1 i/\FN p jp jb L w n i:=by
 have T:=E (iF a F x);have a1:=E F;have m:=E (YI C (YI P R));have lt:=Yj w _ C;have c3:=F.ay.lt;have a5:=E u;have v:cr J.chunks a b D J 2=(du D (nr J.chunks a) b,J,gf D (nr J.chunks a) b):=rfl;rw [v];have a0:=E (λ(j:V) (b2:aC W p L D j) (b8:ah j h b)=>show d prog 106 #[Q (K p),Yb ⟨(nr J.chunks a).toArray⟩,h] j λf i=>f=e (bj (gf D (nr J.chunks a) b))/\bM W p L (du D (nr J.chunks a) b) j i from b2.append t O (uh _ _) b8);clear F P R v u b6 t b3 b5 x;generalize b7:nr J.chunks a=c6 at*;generalize b4:Ab J.chunks a=c2 at*;clear b7 b4;go_enter func69,ntmps69
 go_wp2_with (first
  |(go_at_call 103;refine T.o.mono ?_;rintro f w1 ⟨rfl,c⟩;have a3:=E c;have k:=E (a1.o.ext c);have a9:=k.o.cell0;have b0:=aZ c m.o.1;have c1:=aZ c m.o.2.1;have b1:=aZ c m.o.2.2;have c5:=Yj w1 _ b0;have c4:=k.o.ay.lt;have a7:=E (a5.o.ext c);clear c)
  )
 have c0:=E (show w1.drew.cell? q=K (Q (K p))/\w1.drew.cell? ⟨g,off+3,I⟩=K h from⟨a9,b1⟩);have l:=E (show X w1 w1 w1.drew from ag (Yn _ _) _);have FD:=E (k.o.ext l.o);have a8:=E (a7.o.ext l.o)
 go_region_with ((go_at_call 106;refine(a0.o _ FD.o.aB a8.o).mono ?_;rintro f c7 ⟨rfl,y⟩;obtain⟨b9,s,z⟩:=FD.o.lR y;have a2:=E s;have a6:=E ((FN.aj p jp jb L (ext a3.o l.o)).trans z);clear s z y))
 all_goals (
  go_wp2;go_returns
  exact⟨rfl,_,a2.o,a6.o⟩)
theorem RH(m h off a:Nat)(C:Z)(b:Bs)(F:FS W p q jp jb cs L D J w)(t:a<=99)(a7:ah w C b)(x:w.cell? ⟨h,off+1,I⟩=K (A G a))(y:w.cell? ⟨h,off+2,I⟩=K (A G 3))(z:w.cell? ⟨h,off+3,I⟩=K C)(b0:nO (fR J.chunks a b))(r:Inv D m)(a6:m+3<=100000)(a9:J.done.length<=100000):
  d prog 69 #[Q (K q),Q (K ⟨h,off,I⟩)] w λf i=>f=e (bj (cr J.chunks a b D J 3).2.2)/\∃l,FS W p q jp jb cs l (cr J.chunks a b D J 3).1 (cr J.chunks a b D J 3).2.1 i/\FN p jp jb L w l i:=by
 have P:=E (iF a F t);have T:=E F;have j:=E (YI x (YI y z));have lt:=Yj w _ x;have b7:=F.ay.lt;have s:cr J.chunks a b D J 3=(cV D (nr J.chunks a),J,fQ D (nr J.chunks a)):=rfl;rw [s];have R:=E (λ(k:V) (a5:aC W p L D k)=>show d prog 107 #[Q (K p),Yb ⟨(nr J.chunks a).toArray⟩] k λf i=>f=e (bj (fQ D (nr J.chunks a)))/\bM W p L (cV D (nr J.chunks a)) k i from a5.sync r O (uh _ _));clear F y z s a7 b0 r a6 a9 t;generalize b1:nr J.chunks a=c0 at*;generalize a8:Ab J.chunks a=b6 at*;clear b1 a8;go_enter func69,ntmps69
 go_wp2_with (first
  |(go_at_call 103;refine P.o.mono ?_;rintro f w1 ⟨rfl,c⟩;have a1:=E c;have g:=E (T.o.ext c);have b3:=g.o.cell0;have a3:=aZ c j.o.1;have b4:=aZ c j.o.2.1;have b5:=aZ c j.o.2.2;have b9:=Yj w1 _ a3;have b8:=g.o.ay.lt;clear c)
  |(go_at_call 107;refine(R.o _ g.o.aB).mono ?_;rintro f c1 ⟨rfl,u⟩;obtain⟨b2,n,v⟩:=g.o.lR u;have a0:=E n;have a2:=E ((FN.aj p jp jb L a1.o).trans v);clear n v u))
 go_returns;exact⟨rfl,_,a0.o,a2.o⟩
theorem RI(m h off a:Nat)(C:Z)(b:Bs)(F:FS W p q jp jb cs L D J w)(t:a<=99)(a7:ah w C b)(x:w.cell? ⟨h,off+1,I⟩=K (A G a))(y:w.cell? ⟨h,off+2,I⟩=K (A G 4))(z:w.cell? ⟨h,off+3,I⟩=K C)(b0:nO (fR J.chunks a b))(r:Inv D m)(a6:m+3<=100000)(a9:J.done.length<=100000):
  d prog 69 #[Q (K q),Q (K ⟨h,off,I⟩)] w λf i=>f=e (bj (cr J.chunks a b D J 4).2.2)/\∃l,FS W p q jp jb cs l (cr J.chunks a b D J 4).1 (cr J.chunks a b D J 4).2.1 i/\FN p jp jb L w l i:=by
 have P:=E (iF a F t);have T:=E F;have j:=E (YI x (YI y z));have lt:=Yj w _ x;have b7:=F.ay.lt;have s:cr J.chunks a b D J 4=(gO D (nr J.chunks a) (Ab J.chunks a),J,oC D (nr J.chunks a) (Ab J.chunks a)):=rfl;rw [s];have R:=E (λ(k:V) (a5:aC W p L D k)=>show d prog 108 #[Q (K p),Yb ⟨(nr J.chunks a).toArray⟩,Yb ⟨(Ab J.chunks a).toArray⟩] k λf i=>f=e (bj (oC D (nr J.chunks a) (Ab J.chunks a)))/\bM W p L (gO D (nr J.chunks a) (Ab J.chunks a)) k i from a5.rename r O (uh _ _) (Qu _ _));clear F y z s a7 b0 r a6 a9 t;generalize b1:nr J.chunks a=c0 at*;generalize a8:Ab J.chunks a=b6 at*;clear b1 a8;go_enter func69,ntmps69
 go_wp2_with (first
  |(go_at_call 103;refine P.o.mono ?_;rintro f w1 ⟨rfl,c⟩;have a1:=E c;have g:=E (T.o.ext c);have b3:=g.o.cell0;have a3:=aZ c j.o.1;have b4:=aZ c j.o.2.1;have b5:=aZ c j.o.2.2;have b9:=Yj w1 _ a3;have b8:=g.o.ay.lt;clear c)
  |(go_at_call 108;refine(R.o _ g.o.aB).mono ?_;rintro f c1 ⟨rfl,u⟩;obtain⟨b2,n,v⟩:=g.o.lR u;have a0:=E n;have a2:=E ((FN.aj p jp jb L a1.o).trans v);clear n v u))
 go_returns;exact⟨rfl,_,a0.o,a2.o⟩
theorem RJ(m h off a:Nat)(C:Z)(b:Bs)(F:FS W p q jp jb cs L D J w)(t:a<=99)(a7:ah w C b)(x:w.cell? ⟨h,off+1,I⟩=K (A G a))(y:w.cell? ⟨h,off+2,I⟩=K (A G 5))(z:w.cell? ⟨h,off+3,I⟩=K C)(b0:nO (fR J.chunks a b))(r:Inv D m)(a6:m+3<=100000)(a9:J.done.length<=100000):
  d prog 69 #[Q (K q),Q (K ⟨h,off,I⟩)] w λf i=>f=e (bj (cr J.chunks a b D J 5).2.2)/\∃l,FS W p q jp jb cs l (cr J.chunks a b D J 5).1 (cr J.chunks a b D J 5).2.1 i/\FN p jp jb L w l i:=by
 have P:=E (iF a F t);have T:=E F;have j:=E (YI x (YI y z));have lt:=Yj w _ x;have b7:=F.ay.lt;have s:cr J.chunks a b D J 5=(dG D,J,jY D):=rfl;rw [s];have R:=E (λ(k:V) (a5:aC W p L D k)=>show d prog 109 #[Q (K p)] k λf i=>f=e (bj (jY D))/\bM W p L (dG D) k i from a5.rC r O);clear F y z s a7 b0 r a6 a9 t;generalize b1:nr J.chunks a=c0 at*;generalize a8:Ab J.chunks a=b6 at*;clear b1 a8;go_enter func69,ntmps69
 go_wp2_with (first
  |(go_at_call 103;refine P.o.mono ?_;rintro f w1 ⟨rfl,c⟩;have a1:=E c;have g:=E (T.o.ext c);have b3:=g.o.cell0;have a3:=aZ c j.o.1;have b4:=aZ c j.o.2.1;have b5:=aZ c j.o.2.2;have b9:=Yj w1 _ a3;have b8:=g.o.ay.lt;clear c)
  |(go_at_call 109;refine(R.o _ g.o.aB).mono ?_;rintro f c1 ⟨rfl,u⟩;obtain⟨b2,n,v⟩:=g.o.lR u;have a0:=E n;have a2:=E ((FN.aj p jp jb L a1.o).trans v);clear n v u))
 go_returns;exact⟨rfl,_,a0.o,a2.o⟩
theorem RK(x h off a:Nat)(i:Z)(b:Bs)(F:FS W p q jp jb cs L D J w)(a3:a<=99)(T:ah w i b)(b4:w.cell? ⟨h,off+1,I⟩=K (A G a))(b5:w.cell? ⟨h,off+2,I⟩=K (A G 6))(b6:w.cell? ⟨h,off+3,I⟩=K i)(a7:nO (fR J.chunks a b))(C:Inv D x)(e1:x+3<=100000)(e3:J.done.length<=100000):
  d prog 69 #[Q (K q),Q (K ⟨h,off,I⟩)] w λf m=>f=e (bj (cr J.chunks a b D J 6).2.2)/\∃u,FS W p q jp jb cs u (cr J.chunks a b D J 6).1 (cr J.chunks a b D J 6).2.1 m/\FN p jp jb L w u m:=by
 have b8:=E (iF a F a3);have c0:=E F;have r:=E (YI b4 (YI b5 b6));have lt:=Yj w _ b4;have g3:=F.ay.lt;have c3:=E T;have n:=E (λ(c:V) (c9:FS W p q jp jb cs L D J c) (t:ah c i b) (e6:c.cell? ⟨h,off+1,I⟩=K (A G a)) (e7:c.cell? ⟨h,off+3,I⟩=K i)=>wh h off a 0 i i b c9 t e6 e7);have a2:cr J.chunks a b D J 6=(du D aw (eK aF (fR J.chunks a b)),J,gf D aw (eK aF (fR J.chunks a b))):=rfl;rw [a2];have j:=E (λc=>zA (fR J.chunks a b) c a7);have b9:=E (λ(s:Bs) (c:V) (b7:Z) (e0:aC W p L D c) (t:ah c b7 s)=>show d prog 106 #[Q (K p),Yb ⟨#[106,111,98]⟩,b7] c λf m=>f=e (bj (gf D aw s))/\bM W p L (du D aw s) c m from e0.append C O H t);clear F b5 b6 a2 T a7 C e1 e3 a3;obtain⟨R,P⟩:∃R,fR J.chunks a b=R:=⟨_,rfl⟩;rw [P] at n j⊢;clear P;obtain⟨g7,a6⟩:∃e5,eK aF R=e5:=⟨_,rfl⟩;rw [a6] at j⊢;clear a6;obtain⟨b1,rs,b3,b2,b0⟩:=R;have f:aU.val ⟨b1,rs,b3,b2,b0⟩=Yc #[A G b1,A G rs,A G b3,A G b2,A G b0]:=rfl;rw [f] at n j;clear f;generalize e4:nr J.chunks a=g9 at*;generalize e2:Ab J.chunks a=g2 at*;clear e4 e2;go_enter func69,ntmps69
 go_wp2_with (first
  |(go_at_call 103;refine b8.o.mono ?_;rintro f w1 ⟨rfl,g⟩;have c2:=E g;have k:=E (c0.o.ext g);have e9:=k.o.cell0;have y:=aZ g r.o.1;have g0:=aZ g r.o.2.1;have c8:=aZ g r.o.2.2;have g6:=Yj w1 _ y;have g4:=k.o.ay.lt;have c7:=E (c3.o.ext g);clear g)
  |(go_at_call 111;refine(n.o _ k.o c7.o y c8).mono ?_;rintro f w2 ⟨rfl,a0⟩;have c4:=E a0;clear a0)
  |(go_at_call 110;refine(j.o _).mono ?_;rintro f h1 ⟨g8,rfl,a5,a1⟩;have c6:=E (aq a5);have v:=E (ext c4.o a1);have l:=E (k.o.ext v.o);have g1:=l.o.cell0;have g5:=l.o.ay.lt;clear a5 a1)
  |(go_at_call 106;refine(b9.o _ _ _ l.o.aB c6.o).mono ?_;rintro f h0 ⟨rfl,a8⟩;obtain⟨e8,z,a9⟩:=l.o.lR a8;have c1:=E z;have c5:=E ((FN.aj p jp jb L (ext c2.o v.o)).trans a9);clear z a9 a8))
 go_returns;exact⟨rfl,_,c1.o,c5.o⟩
theorem RL(m g off a:Nat)(h:Z)(b:Bs)(F:FS W p q jp jb cs L D J w)(a2:a<=99)(T:ah w h b)(b0:w.cell? ⟨g,off+1,I⟩=K (A G a))(b1:w.cell? ⟨g,off+2,I⟩=K (A G 7))(b2:w.cell? ⟨g,off+3,I⟩=K h)(a3:nO (fR J.chunks a b))(y:Inv D m)(C:m+3<=100000)(a1:J.done.length<=100000):
  d prog 69 #[Q (K q),Q (K ⟨g,off,I⟩)] w λc b3=>c=e (bj (cr J.chunks a b D J 7).2.2)/\∃t,FS W p q jp jb cs t (cr J.chunks a b D J 7).1 (cr J.chunks a b D J 7).2.1 b3/\FN p jp jb L w t b3:=by
 have b4:=E (iF a F a2);have b5:=E F;have n:=E (YI b0 (YI b1 b2));have lt:=Yj w _ b0;have e3:=F.ay.lt;have b9:=E T;have l:=E (λ(i:V) (r:FS W p q jp jb cs L D J i) (c6:ah i h b) (c7:i.cell? ⟨g,off+1,I⟩=K (A G a)) (c8:i.cell? ⟨g,off+3,I⟩=K h)=>wh g off a 0 h h b r c6 c7 c8);have a0:cr J.chunks a b D J 7=kI (fR J.chunks a b) D J:=rfl;rw [a0];have j:=E (λ(i:V) (r:FS W p q jp jb cs L D J i)=>Bx m (fR J.chunks a b) r a3 y C a1);clear F b1 b2 a0 T a3 y C a1 a2;obtain⟨R,z⟩:∃R,fR J.chunks a b=R:=⟨_,rfl⟩;rw [z] at l j⊢;clear z;obtain⟨u,P⟩:∃u,kI R D J=u:=⟨_,rfl⟩;rw [P] at j⊢;clear P;obtain⟨a7,rs,a9,a8,a6⟩:=R;have c:aU.val ⟨a7,rs,a9,a8,a6⟩=Yc #[A G a7,A G rs,A G a9,A G a8,A G a6]:=rfl;rw [c] at l j;clear c;generalize c5:nr J.chunks a=e6 at*;generalize c4:Ab J.chunks a=e2 at*;clear c5 c4;go_enter func69,ntmps69
 go_wp2_with (first
  |(go_at_call 103;refine b4.o.mono ?_;rintro c w1 ⟨rfl,f⟩;have b8:=E f;have k:=E (b5.o.ext f);have e0:=k.o.cell0;have v:=aZ f n.o.1;have e1:=aZ f n.o.2.1;have c3:=aZ f n.o.2.2;have e5:=Yj w1 _ v;have e4:=k.o.ay.lt;have c2:=E (b9.o.ext f);clear f)
  |(go_at_call 111;refine(l.o _ k.o c2.o v c3).mono ?_;rintro c w2 ⟨rfl,s⟩;have c0:=E s;have b6:=E (k.o.ext s);clear s)
  |(go_at_call 112;refine(j.o _ b6.o).mono ?_;rintro c e7 ⟨rfl,c9,x,a5⟩;have b7:=E x;have c1:=E ((FN.aj p jp jb L (ext b8.o c0.o)).trans a5);clear x a5))
 go_returns;exact⟨rfl,_,b7.o,c1.o⟩
end
theorem NQ:(prog.info? 3).map (λa=>(a.zero,a.size,a.bytes))=K (K (A G 0),1,8):=B
section
variable {W:V} {p q jp jb:Nat} {cs:Array Z} {L L1 L2:bY} {D D1:DS} {J J1:bJ} {w w0 w1 w2:V}
theorem FS.own{g:Nat}{u h:Array Z}(F:FS W p q jp jb cs L D J w)(i:af (λa=>a=q∨a=g) w w1)(j:ai w g u 117)(n:W.heap.size<=g)(s:ai w1 q h 114)(k:h[0]? =K (Q (K p)))(l:h[14]? =K (Q (K jp))):FS W p q jp jb h L D J w1:=by
 have t:=dr F.aB.dp j H H H H
 have o:∀a,a=q∨a=g->a≠jp:=λa b c=>by
  rcases b with rfl|rfl
  .exact F.VY c
  .exact gq j F.jD.ay H c
 have r:∀a,a=q∨a=g->a≠jb:=λa b c=>by
  rcases b with rfl|rfl
  .exact F.VX c
  .exact oa j F.jD.map c
 refine⟨⟨F.aB.dp.stays λa f=>i.block a (F.aB.dp.lt f) (λm=>?_),F.aB.own,F.aB.below.trans (i.below (λa f=>?_) F.aB.size)⟩,s,F.jD.aD i (λb=>o _ b rfl) (λb=>r _ b rfl),F.QH,F.QI,F.QG,F.qW,k,l⟩
 .rcases m with rfl|rfl
  .exact F.qn f
  .exact t f
 .rcases f with rfl|rfl
  .exact F.qW
  .exact n
theorem Fz(b off:Nat)(l m k v:Z)(r:Array Z)(F:FS W p q jp jb (Mx p l m k (Q (K jp)) v (U I 0 0)) L D J w)(b1:d_ w 0 l m k)(a9:J.chunks=1)(n:ai w b r 117)(P:r[off+1]? =K (A G 0))(c6:off+3<r.size):
  d prog 104 #[Q (K q),Q (K ⟨b,off,I⟩)] w λg h=>g=e Ya/\∃c e1,ai h q (Mx p l m k (Q (K jp)) v e1) 114/\ai h b (r.setIfInBounds (off+3) c) 117/\h.ownsRow w 5 1 c cU.length (ak cU)/\af (λj=>j=q∨j=b) w h:=by
 have R:=E (λe5 c9=>fO jp jb J e5 c9);rw [a9] at R;have T:=E (OH l m k (Q (K jp)) v (U I 0 0) (w:=w.drew) F.ay (b1.ext (ag (Yn _ w) _)));simp only [dE] at T;have b8:=E F;have FD:=E (F.ext (ag (Yn _ w) _:X w w w.drew));have b7:=E n;have b6:w.cell? ⟨b,off+1,I⟩=K (A G 0):=(n.cell (off+1)).trans P;have c3:=F.dP;have lt:=n.lt;have b4:=F.ay.lt;have c0:=E (show w.drew.cell? ⟨b,off+1,I⟩=K (A G 0)/\w.drew.cell? ⟨q,14,I⟩=K (Q (K jp)) from⟨b6,c3⟩);have b2:q≠b:=gq F.ay n H;have c1:=E P;clear b1 F a9 n P;go_enter func104,ntmps104;go_wp2
 go_region_held3 (λh=>h.cell? ⟨b,off+1,I⟩=K (A G 0)/\h.cell? ⟨q,14,I⟩=K (Q (K jp))) (first|exact c0.o)
  ((go_at_call 101;refine(R.o _ FD.o.jD).mono ?_;rintro g w1 ⟨rfl,rfl⟩))
 have h0:w.drew.cell? ⟨b,off+1,I⟩=K (A G 0):=b6;have g6:b<w.drew.heap.size:=lt;have g3:q<w.drew.heap.size:=b4
 go_wp2_with (first
  |(go_at_call 150;refine T.o.mono ?_;rintro g w2 ⟨c,b0,C,a7⟩;obtain⟨e3,e2,rfl⟩:=aK C;rw [ar] at b0;subst b0;have a3:=E C;have a0:=E (ext (ag (Yn _ w) _) a7);have u:=E (b7.o.ext a0.o);have c4:=u.o.free (off+3);have b5:=u.o.cell (off+3);rw [Array.getElem?_eq_getElem c6] at b5;have e0:=u.o.lt;clear C a7))
 obtain⟨c,c8⟩:∃c,U e3 cU.length e2=c:=⟨_,rfl⟩;rw [c8] at a3⊢;obtain⟨f,i⟩:∃c2,c2=w2.setCell ⟨b,off+3,I⟩ c:=⟨_,rfl⟩;have y:=a0.o;have x:=E (show ai f b (r.setIfInBounds (off+3) c) 117 from by rw [i];exact u.o.set (off+3) c);have s:=E (show ai f q (Mx p l m k (Q (K jp)) v (U I 0 0)) 114 from by rw [i];exact(b8.o.ay.ext y).ab ⟨b,off+3,I⟩ c b2);have a2:=E (show af (λj=>j=q∨j=b) w f from by rw [i];exact aL (af.aj y) (Yh rfl));have a5:=E (show f.ownsRow w 5 1 c cU.length (ak cU) from by rw [i];exact aA (Yu a3.o (a:=⟨b,off+3,I⟩) (show b<w.drew.heap.size from lt) c) (Yk _));rw [<-i];clear i b5 c4 e0 y;have g7:f.cell? ⟨b,off+1,I⟩=K (A G 0):=(x.o.cell (off+1)).trans (by rw [Array.getElem?_setIfInBounds_ne O];exact c1.o);have g8:f.cell? ⟨q,16,I⟩=K (U I 0 0):=s.o.cell 16;have e7:=s.o.free 16;have g4:=x.o.lt;have g5:=s.o.lt;have a6:=E a2.o.size;have g0:Zc G 0=0:=H
 go_region_law ((refine pr 26 3 1 8 _ underlying26 NQ rfl H (by rfl) _ _ (by rfl) f w (U I 0 0) 0 [] [A G 0] (by rfl) (YC _ _ _ 1) _ (by rfl) (heap_alloc_new _ _) N (by rfl) (by intro g9 b3;simp at b3;rcases b3 with rfl;rfl) O H a6.o ?_;intro e8 e6 e4 c7 a8 z e9;have b9:=E a8;have a1:=E z;have t:=E (s.o.grown z (show K q≠(I:Option Nat) from λg=>by cases g));have g1:e4.cell? ⟨q,16,I⟩=K (U I 0 0):=t.o.cell 16;have h1:=t.o.free 16;have g2:=t.o.lt;clear c7 a8 z))
 all_goals go_wp2
 all_goals go_returns
 all_goals exact⟨rfl,c,_,t.o.set 16 _,(x.o.grown a1.o (show K b≠(I:Option Nat) from λg=>by cases g)).ab ⟨q,16,I⟩ _ (Ne.symm b2),Yu (a5.o.kept a1.o (kQ (YC f 0 3 1) a5.o (H:(3:Nat)≠5))) (a:=⟨q,16,I⟩) (show q<w.heap.size from b4) _,aL (a2.o.js (vC b9.o a6.o) (λj c5=>Yh c5)) (Yg rfl)⟩
theorem Om(m b off:Nat)(i j h u t:Z)(k:Array Z)(F:FS W p q jp jb (Mx p i j h (Q (K jp)) u t) L D J w)(T:d_ w 0 i j h)(r:J.chunks=1)(f:ai w b k 117)(a3:k[off+1]? =K (A G 1))(b0:off+3<k.size)(z:Inv D m)(C:m<=100000)(a0:eh D (iz 0)=0)(a1:cy D (iz 0)=cU):
  d prog 104 #[Q (K q),Q (K ⟨b,off,I⟩)] w λn c=>n=e Ya/\∃v,ai c q (Mx p i j h (Q (K jp)) u t) 114/\ai c b (k.setIfInBounds (off+3) v) 117/\c.ownsRow w 5 1 v gj.length (ak gj)/\af (λa2=>a2=q∨a2=b) w c:=by
 have x:=E (λb6 b2=>fO jp jb J b6 b2);rw [r] at x;have FD:=E (F.ext (ag (Yn _ w) _:X w w w.drew));have y:=E (A' m i j h u t FD.o (T.ext (ag (Yn _ w) _)) r z C a0 a1);simp only [dE] at y;have a6:=E F;have a5:=E f;have b5:w.cell? ⟨b,off+1,I⟩=K (A G 1):=(f.cell (off+1)).trans a3;have a9:=F.dP;have lt:=f.lt;have b3:=F.ay.lt;have a8:=E (show w.drew.cell? ⟨b,off+1,I⟩=K (A G 1)/\w.drew.cell? ⟨q,14,I⟩=K (Q (K jp)) from⟨b5,a9⟩);have b1:q≠b:=gq F.ay f H;clear T F r f a3 z C a0 a1;go_enter func104,ntmps104;go_wp2
 go_region_held3 (λc=>c.cell? ⟨b,off+1,I⟩=K (A G 1)/\c.cell? ⟨q,14,I⟩=K (Q (K jp))) (first|exact a8.o)
  ((go_at_call 101;refine(x.o _ FD.o.jD).mono ?_;rintro n w1 ⟨rfl,rfl⟩))
 have b9:b<w.drew.heap.size:=lt;have b8:q<w.drew.heap.size:=b3
 go_wp2_with (first
  |(go_at_call 149;refine y.o.mono ?_;rintro n w2 ⟨v,R,s,P⟩;obtain⟨c2,c1,rfl⟩:=aK s;rw [ar] at R;subst R;have a7:=E s;have l:=E (ext (ag (Yn _ w) _) P);have g:=E (a5.o.ext l.o);have b7:=g.o.free (off+3);have b4:=g.o.cell (off+3);rw [Array.getElem?_eq_getElem b0] at b4;have c0:=g.o.lt;clear s P))
 go_returns;exact⟨rfl,_,(a6.o.ay.ext l.o).ab ⟨b,off+3,I⟩ _ b1,g.o.set (off+3) _,aA (Yu a7.o (a:=⟨b,off+3,I⟩) (show b<w.drew.heap.size from lt) _) (Yk _),aL (af.aj l.o) (Yh rfl)⟩
end
structure TC where
 has:Bool
 n:Nat
 step:Nat
 data:Z
def TC.at'(b:Nat)(a:TC):Bool:=a.has&&decide (a.n=b)
def TC.ae:TC:=⟨false,0,0,U I 0 0⟩
def TK(f:V)(c:Nat)(b:List TC):Prop:=∀a,a<b.length->f.cell? ⟨c,a*4,I⟩=K (.bool (b.getD a TC.ae).has)/\f.cell? ⟨c,a*4+1,I⟩=K (A G ((b.getD a TC.ae).n:Int))/\f.cell? ⟨c,a*4+2,I⟩=K (A G ((b.getD a TC.ae).step:Int))/\∃g h i,(b.getD a TC.ae).data=U g i h/\f.cell? ⟨c,a*4+3,I⟩=K (U g i h)
theorem TK.ext{b g:V}{f:Nat}{c:List TC}(n:TK b f c)(a:X b b g):TK g f c:=λp o=>by
 obtain⟨h,j,k,i,q,r,m,l⟩:=n p o;exact⟨aZ a h,aZ a j,aZ a k,i,q,r,m,aZ a l⟩
theorem Tk(f:Bool)(b k c h j i:Nat)(g:Option Yi)(a:V)(l:a.cell? h=K (A G c)):
  d prog 146 #[Yc #[.bool f,A G b,A G k,U g j i],Q (K h)] a λn r=>n=e (.bool (f&&decide (b=c)))/\X a a r:=by
 have t:=Yj a _ l
 cases f with
 |false=>
  go_enter func146,ntmps146;go_wp2;go_returns;exact⟨Y,N⟩
 |true=>
  have m:=E (N:X a a (a.alloc (M #[.bool true,A G b,A G k,U g j i] 117)));have s:(a.alloc (M #[.bool true,A G b,A G k,U g j i] 117)).cell? h=K (A G c):=aZ m.o l
  have p:Hd (((b:Int)==(c:Int))=decide (b=c)):=E (by
   by_cases f:b=c
   .subst f;simp
   .have q:¬(b:Int)=(c:Int):=O
    simp [f,q])
  go_enter func146,ntmps146;go_wp2;go_returns;exact⟨by rw [p.o];rfl,N⟩
theorem NH(L cap r c:Nat)(b:List TC)(f:V)(j:TK f L b)(p:f.cell? r=K (A G c))(a2:b.length<=1000):
  d prog 189 #[U (K L) b.length cap,.func (.func 146) #[] #[Q (K r)]] f λC b1=>∃g:Int,C=e (A G g)/\((g>=0)=(b.any (TC.at' c)=true))/\ -1<=g/\g<=1000/\X f f b1:=by
 have R:=E j;have T:=E p;have P:=E (λ(a7:Bool) (h a6 J z:Nat) (y:Option Yi) (b2:V) p=>Tk a7 h a6 c r J z y b2 p)
 have b4:=λ(W:Array Z) (f:V)=>eL func146 B B W f
 obtain⟨h,s⟩:∃h,b.length=h:=⟨_,rfl⟩;have w:=E s;rw [s] at a2⊢;clear j p s;go_enter func189,ntmps189;go_wp2
 go_loopw [8] (λg wr=>∃a:Nat,a<=h/\g=A G a/\(b.take a).any (TC.at' c)=false/\X f f wr) (λg _=>h - (Yz g).toNat)
 case atStart=>exact⟨0,Yr _,rfl,Y,Yn _ _⟩
 case round=>
  obtain⟨a,b3,rfl,t,l⟩:=hrel;have q:=E l;have x:=E t;by_cases a3:a<h
  .have n:a<b.length:=by rw [w.o];exact a3
   obtain⟨a8,b5,b6,y,z,J,a0,b7⟩:=(R.o.ext l) a n;have lt:=Yj wr _ a8
   have m:(b.take (a+1)).any (TC.at' c)=((b.take a).any (TC.at' c)||TC.at' c (b.getD a TC.ae)):=by
    rw [List.take_add_one,List.any_append];simp [YR,YM n]
   have v:=E m
   have k:TC.at' c (b.getD a TC.ae)=true->b.any (TC.at' c)=true:=λj=>List.any_eq_true.2 ⟨_,by simp [YR,YM n],j⟩
   have i:=E k;have D:TC.at' c (b.getD a TC.ae)=((b.getD a TC.ae).has&&decide ((b.getD a TC.ae).n=c)):=rfl;rw [D] at m k;have v:=E m;have i:=E k;generalize (b.getD a TC.ae).has=a9 at*;generalize (b.getD a TC.ae).n=b0 at*;generalize (b.getD a TC.ae).step=b8 at*;clear m k D t l a0 n
   go_wp2_with fail
   refine(P.o _ _ _ _ _ _ _ (aZ q.o T.o)).mono ?_;rintro C b9 ⟨rfl,F⟩;have u:=E (ext q.o F);clear F;generalize (a9&&decide (b0=c))=a5 at*
   cases a5 with
   |true=>
    go_wp2;go_returns;exact⟨a,rfl,by rw [i.o trivial];simp,O,O,u.o⟩
   |false=>
    go_wp2;go_roundw
    case rel=>exact⟨a+1,O,S,by rw [v.o,x.o];rfl,u.o⟩
    case measure=>simp [Yz];omega
  .obtain rfl:a=h:=O
   have i:b.any (TC.at' c)=false:=by
    have a1:=x.o
    rwa [<-w.o,List.take_length] at a1
   clear t l;go_wp2;go_returns;exact⟨-1,rfl,by simp [i],O,O,q.o⟩
theorem JN(g cap f c:Nat)(a:List TC)(b:V)(i:TK b g a)(m:b.cell? f=K (A G c))(l:a.length<=1000):
  d prog 145 #[U (K g) a.length cap,.func (.func 146) #[] #[Q (K f)]] b λh t=>h=e (.bool (a.any (TC.at' c)))/\X b b t:=by
 have n:=E (NH g cap f c a b i m l);generalize a.any (TC.at' c)=s at*;generalize a.length=x at*;clear i m l;go_enter func145,ntmps145
 go_wp2_with (go_at_call 189;refine n.o.mono ?_;rintro h y ⟨w,rfl,k,u,v,j⟩;have p:=E j;have q:=E k;clear k j)
 go_returns;refine⟨?_,p.o⟩;have r:=q.o;cases s<;>simp at r<;>simp<;>omega
section
variable {W:V} {p q jp jb:Nat} {cs:Array Z} {L L1 L2:bY} {D D1:DS} {J J1:bJ} {w w0 w1 w2:V}
theorem Mr(f h b:Nat)(a:List TC)(g:ai w q cs 114)(i:cs[15]? =K (U (K f) a.length h))(k:TK w f a)(p:a.length<=1000):
  d prog 102 #[Q (K q),A G b] w λj r=>j=e (.bool (a.any (TC.at' b)))/\X w w r:=by
 have c:=E (N:X w w (w.alloc (M #[A G b] 3)));have m:=E (JN f h w b a (w.alloc (M #[A G b] 3)) (k.ext c.o) ((ai.new w #[A G b] 3).cell 0) p);have s:(w.alloc (M #[A G b] 3)).cell? ⟨q,15,I⟩=K (U (K f) a.length h):=aZ c.o ((g.cell 15).trans i);have t:=(g.ext c.o).lt;generalize a.any (TC.at' b)=v at*;generalize a.length=u at*;clear k i g;go_enter func102,ntmps102
 go_wp2_with (go_at_call 145;refine m.o.mono ?_;rintro j w1 ⟨rfl,l⟩;have n:=E (ext c.o l);clear l)
 go_returns;exact⟨rfl,n.o⟩
end
def jO(a:List TC):List Int->Int
 |[]=> -1
 |b::c=>if a.any (TC.at' b.toNat) then jO a c else b
def oB(a:bJ):List Int:=if (dY a.done a.chunks).length=0 then [(a.chunks:Int)] else dY a.done a.chunks
theorem pW(f:RM):∀b,∀c∈dY f b,∃g:Nat,c=(g:Int)
 |0,c,a=>by simp [dY] at a
 |b+1,c,a=>by
  unfold dY at a;split at a
  .exact pW f b c a
  .rcases List.mem_append.1 a with a|a
   .exact pW f b c a
   .simp at a;exact⟨b,a⟩
theorem ints_at{h:V}{c:Option Yi}{m i:Nat}{b:List Int}(j:aY h (U c m i) b){a:Nat}(l:a<b.length):∃f off,c=K ⟨f,off,I⟩/\h.cell? ⟨f,off+a,I⟩=K (A G (b.getD a 0)):=by
 obtain⟨n,cap,g, -, -, -, -,k⟩:=j;simp only [Yy] at g;obtain⟨rfl, -,rfl⟩:=g;exact k a l
theorem Oz(b:V)(a:Nat)(f:a<=1000):aY (b.alloc (M #[A G a] 3)) (U (K b) 1 1) [(a:Int)]:=
 aa.ints (B:=b.heap.size) ⟨World.ownsRow_lit b #[A G a] 1 (Yk _) (by simp [YO]) Y,λg c=>by
  simp at c;subst c;unfold bh
  omega⟩
section
variable {W:V} {p q jp jb:Nat} {cs:Array Z} {L L1 L2:bY} {D D1:DS} {J J1:bJ} {w w0 w1 w2:V}
theorem DT(b7 c7:Nat)(f:List TC)(F:FS W p q jp jb cs L D J w)(c3:cs[15]? =K (U (K b7) f.length c7))(c4:TK w b7 f)(c6:f.length<=1000)(m:J.chunks<=1000):
  d prog 68 #[Q (K q)] w λl e9=>l=e (A G (jO f (oB J)))/\X w w e9:=by
 have b1:=E (tl jp jb J w F.jD m);have e0:=E m;have c0:=E (λb8 a3=>fO jp jb J b8 a3);have c1:=E (λ(c:Nat) (b8:V) (c5:X w w b8)=>Mr b7 c7 c f (F.ay.ext c5) c3 (c4.ext c5) c6);have c2:=E F;have g1:=F.dP;have g5:=F.ay.lt;obtain⟨k,a9⟩:∃k,dY J.done J.chunks=k:=⟨_,rfl⟩
 have e6:k.length<=1000:=by rw [<-a9];exact Yl (pV _ _) m
 have e1:=E (show∀b9∈k,∃c:Nat,b9=(c:Int) from by rw [<-a9];exact pW _ _);unfold oB;rw [a9] at b1⊢;clear a9 F c3 c4 c6 m;by_cases a5:k.length=0
 .rw [if_pos a5]
  obtain rfl:=List.length_eq_zero_iff.1 a5;obtain⟨b,z⟩:∃b,[(J.chunks:Int)]=b:=⟨_,rfl⟩;have e3:=E z;obtain⟨h,m⟩:∃h,J.chunks=h:=⟨_,rfl⟩;rw [m] at c0 z;have c9:=E (show h<=1000 from m▸e0.o)
  have b3:=E (show∀a,a<b.length->∃c:Nat,b.getD a 0=(c:Int) from λa a1=>by
   subst z
   have:a=0:=by simp at a1;omega
   subst this
   exact⟨h,rfl⟩)
  obtain⟨c,y⟩:∃c,b.length=c:=⟨_,rfl⟩;have s:=E y
  obtain rfl:c=1:=by rw [<-y,<-z];rfl
  rw [e3.o];have e2:=E z;clear y z m a5;go_enter func68,ntmps68
  go_wp2_with (first
   |(go_at_call 40;refine b1.o.mono ?_;rintro l w1 ⟨e8,rfl,a2,u⟩;obtain⟨e4,cap,rfl⟩:=a2.ints.shape;have c8:=E u;have a6:=E (c2.o.ext u);have g2:=a6.o.dP;have g6:=a6.o.ay.lt;clear a2 u)
   |(go_at_call 101;refine(c0.o _ a6.o.jD).mono ?_;rintro l w2 ⟨rfl,rfl⟩))
  have n:=E (show X w w (w1.alloc (M #[A G h] 3)) from ext c8.o N)
  have b2:=E (show aY (w1.alloc (M #[A G h] 3)) (U (K w1) 1 1) b from by
   rw [<-e2.o]
   exact Oz w1 h c9.o)
  go_loopw [22] (λx wr=>∃a:Nat,a<=1/\x=A G a/\jO f b=jO f (b.drop a)/\X (w1.alloc (M #[A G h] 3)).heap.size (w1.alloc (M #[A G h] 3)) wr) (λx _=>1 - (Yz x).toNat)
  case atStart=>exact⟨0,Yr _,rfl,Y,Yn _ _⟩
  case round=>
   obtain⟨a,a1,rfl,v,i⟩:=hrel;have r:=E i;have t:=E v;by_cases b5:a<1
   .have j:a<b.length:=by rw [s.o];exact b5
    obtain⟨e5,off,l,a8⟩:=ints_at (b2.o.ext i) j;obtain⟨rfl,rfl, -⟩:=Addr.mk.inj (YG l);rw [Nat.zero_add] at a8
    have a0:b.drop a=b.getD a 0::b.drop (a+1):=by simp [YR,YM j]
    have a3:=b3.o a j;have lt:=Yj wr _ a8;generalize b.getD a 0=b9 at*;obtain⟨g,rfl⟩:=a3;have P:=E a0;clear a0 v i j;have b0:=E (c1.o g _ (ext n.o r.o))
    go_wp2_with fail
    refine b0.o.mono ?_;rintro l g0 ⟨rfl,T⟩;have C:=E (ext r.o T);clear T;have R:=E (show jO f ((g:Int)::b.drop (a+1))=if f.any (TC.at' g)=true then jO f (b.drop (a+1)) else (g:Int) from by simp [jO]);generalize f.any (TC.at' g)=b6 at*
    cases b6 with
    |true=>
     go_wp2;go_roundw
     case rel=>exact⟨a+1,O,S,by rw [t.o,P.o,R.o];rfl,C.o⟩
     case measure=>simp [Yz];omega
    |false=>
     go_wp2;go_returns;exact⟨by rw [t.o,P.o,R.o];rfl,ext n.o C.o⟩
   .obtain rfl:a=1:=O
    have b4:jO f b= -1:=by
     rw [t.o,<-s.o,List.drop_length];rfl
    clear v i;go_wp2;go_returns;exact⟨by rw [b4];rfl,ext n.o r.o⟩
 .rw [if_neg a5]
  obtain⟨c,y⟩:∃c,k.length=c:=⟨_,rfl⟩;have g4:c<=1000:=O;have e7:¬(c:Int)=0:=O
  have g3:((c:Int)==0)=false:=by simpa using e7
  have s:=E y;have b3:=E (show∀a,a<k.length->∃c:Nat,k.getD a 0=(c:Int) from λa a1=>e1.o _ (by simp [YR,YM a1]));clear a5 y e6;generalize k=b at*;go_enter func68,ntmps68
  go_wp2_with (first
   |(go_at_call 40;refine b1.o.mono ?_;rintro l w1 ⟨e8,rfl,a2,u⟩;have a7:=a2.ints;obtain⟨e4,cap,rfl⟩:=a7.shape;rw [s.o] at a7;have b2:=E a7;have n:=E u;have a6:=E (c2.o.ext u);rw [s.o];clear a2 u a7))
  go_loopw [22] (λx wr=>∃a:Nat,a<=c/\x=A G a/\jO f b=jO f (b.drop a)/\X w1 w1 wr) (λx _=>c - (Yz x).toNat)
  case atStart=>exact⟨0,Yr _,rfl,Y,Yn _ _⟩
  case round=>
   obtain⟨a,a1,rfl,v,i⟩:=hrel;have r:=E i;have t:=E v;by_cases b5:a<c
   .have j:a<b.length:=by rw [s.o];exact b5
    obtain⟨e5,off,rfl,a8⟩:=ints_at (b2.o.ext i) j
    have a0:b.drop a=b.getD a 0::b.drop (a+1):=by simp [YR,YM j]
    have a3:=b3.o a j;have lt:=Yj wr _ a8;generalize b.getD a 0=b9 at*;obtain⟨g,rfl⟩:=a3;have P:=E a0;clear a0 v i j;have b0:=E (c1.o g _ (ext n.o r.o))
    go_wp2_with fail
    refine b0.o.mono ?_;rintro l g0 ⟨rfl,T⟩;have C:=E (ext r.o T);clear T;have R:=E (show jO f ((g:Int)::b.drop (a+1))=if f.any (TC.at' g)=true then jO f (b.drop (a+1)) else (g:Int) from by simp [jO]);generalize f.any (TC.at' g)=b6 at*
    cases b6 with
    |true=>
     go_wp2;go_roundw
     case rel=>exact⟨a+1,O,S,by rw [t.o,P.o,R.o];rfl,C.o⟩
     case measure=>simp [Yz];omega
    |false=>
     go_wp2;go_returns;exact⟨by rw [t.o,P.o,R.o];rfl,ext n.o C.o⟩
   .obtain rfl:a=c:=O
    have b4:jO f b= -1:=by
     rw [t.o,<-s.o,List.drop_length];rfl
    clear v i;go_wp2;go_returns;exact⟨by rw [b4];rfl,ext n.o r.o⟩
end
theorem uG{c:V}{b g i:Nat}{a:Array Z}(f:ai c b a g)(h:i+3<a.size):c.cell? ⟨b,i,I⟩=K (a[i]'O)/\c.cell? ⟨b,i+1,I⟩=K (a[i+1]'O)/\c.cell? ⟨b,i+2,I⟩=K (a[i+2]'O)/\c.cell? ⟨b,i+3,I⟩=K (a[i+3]'O):=
 ⟨(f.cell i).trans (Array.getElem?_eq_getElem O),(f.cell (i+1)).trans (Array.getElem?_eq_getElem O),(f.cell (i+2)).trans (Array.getElem?_eq_getElem O),(f.cell (i+3)).trans (Array.getElem?_eq_getElem O)⟩
theorem xF{c:V}{b g:Nat}{h:Array Z}(f:ai c b h g)(a:Nat):c.frozen? ⟨b,a,I⟩=false/\c.frozen? ⟨b,a+1,I⟩=false/\c.frozen? ⟨b,a+2,I⟩=false/\c.frozen? ⟨b,a+3,I⟩=false:=⟨f.free a,f.free (a+1),f.free (a+2),f.free (a+3)⟩
section
variable {W:V} {p q jp jb:Nat} {cs:Array Z} {L L1 L2:bY} {D D1:DS} {J J1:bJ} {w w0 w1 w2:V}
theorem pf(R:Z)(a b j:Nat)(i:Option Yi)(F:FS W p q jp jb cs L D J w)(c:cs[15]? =K (U i b j))(f:cs[17]? =K (.bool false))(z:a<b)(C:J.state≠1):
  d prog 31 #[Q (K q),A G a] w λg n=>g=e Ya/\w=n:=by
 have k:=E (λr m=>eI jp jb J r m);have l:=E F;have t:=F.dP;have u:w.cell? ⟨q,15,I⟩=K (U i b j):=(F.ay.cell 15).trans c;have v:w.cell? ⟨q,17,I⟩=K (.bool false):=(F.ay.cell 17).trans f;have P:=F.ay.lt;have x:¬(a:Int)<0:=O;have y:¬(a:Int)>=(b:Int):=O;generalize J.state=h at*;have s:¬(h:Int)=1:=O
 have T:((h:Int)==1)=false:=by simpa using s
 clear F c f;go_enter func31,ntmps31
 go_wp2_with (first
  |(go_at_call 39;refine(k.o _ l.o.jD).mono ?_;rintro g w2 ⟨rfl,rfl⟩))
 go_returns;exact⟨rfl,rfl⟩
theorem Lm(b c i:Nat)(a:List TC)(F:FS W p q jp jb cs L D J w)(f:cs[15]? =K (U (K c) a.length i))(l:cs[17]? =K (.bool false))(h:TK w c a)(s:a.length<=1000)(n:J.chunks<=1000)(z:b<a.length)(t:J.state=1)(r:(a.getD b TC.ae).has=false)(u:jO a (oB J)= -1):
  d prog 31 #[Q (K q),A G b] w λg P=>g=e Ya/\X w w P:=by
 have j:=E (λR C=>eI jp jb J R C);rw [t] at j;have k:=E (DT c i a F f h s n);rw [u] at k;have x:=E F;have T:=F.dP;have a0:w.cell? ⟨q,15,I⟩=K (U (K c) a.length i):=(F.ay.cell 15).trans f;have a1:w.cell? ⟨q,17,I⟩=K (.bool false):=(F.ay.cell 17).trans l;have a5:=F.ay.lt;have a2:¬(b:Int)<0:=O;have a3:¬(b:Int)>=(a.length:Int):=O;obtain⟨v, -⟩:=h b z;rw [r] at v;have lt:=Yj w _ v;generalize a.length=a6 at*;clear F f l h s n t r u;go_enter func31,ntmps31
 go_wp2_with (first
  |(go_at_call 39;refine(j.o _ x.o.jD).mono ?_;rintro g w2 ⟨rfl,rfl⟩)
  |(go_at_call 68;refine k.o.mono ?_;rintro g w2 ⟨rfl,m⟩;have y:=E m;clear m))
 go_returns;exact⟨rfl,y.o⟩
theorem Rg{P:V->Prop}(a b i y g:Nat)(z:Array Z)(F:FS W p q jp jb cs L D J w)(n:cs[15]? =K (U (K b) i y))(r:cs[17]? =K (.bool false))(b1:a<i)(v:J.state=1)(x:ai w b z 117)(t:z[a*4]? =K (.bool true))(b2:g<7)
  (l:d prog 69 #[Q (K q),Q (K ⟨b,a*4,I⟩)] w λf c=>f=e Ya/\P c)
  (u:∀c,P c->∃k,ai c b k 117/\k[a*4+2]? =K (A G g)):
  d prog 31 #[Q (K q),A G a] w λf c=>f=e Ya/\∃w1,P w1/\c=w1.setCell ⟨b,a*4+2,I⟩ (A G ((g+1:Nat):Int)):=by
 have m:=E (λa3 a1=>eI jp jb J a3 a1);rw [v] at m;have C:=E l;have T:=E u;have R:=E F;have a5:=F.dP;have a6:w.cell? ⟨q,15,I⟩=K (U (K b) i y):=(F.ay.cell 15).trans n;have a7:w.cell? ⟨q,17,I⟩=K (.bool false):=(F.ay.cell 17).trans r;have b4:=F.ay.lt;have a9:¬(a:Int)<0:=O;have b0:¬(a:Int)>=(i:Int):=O;have a2:w.cell? ⟨b,a*4,I⟩=K (.bool true):=(x.cell _).trans t;have lt:=Yj w _ a2;have b3:¬(g:Int)+1>7:=O;clear F n r v x t l u;go_enter func31,ntmps31
 go_wp2_with (first
  |(go_at_call 39;refine(m.o _ R.o.jD).mono ?_;rintro f w2 ⟨rfl,rfl⟩)
  |(go_at_call 69;refine C.o.mono ?_;rintro f w2 ⟨rfl,j⟩;have a0:=E j;obtain⟨k,h,s⟩:=T.o _ j;have b6:w2.cell? ⟨b,a*4+2,I⟩=K (A G g):=(h.cell _).trans s;have a8:=h.free (a*4+2);have b5:=h.lt;clear j h s))
 go_returns;exact⟨rfl,_,a0.o,by push_cast;rfl⟩
theorem Ll{P:V->Prop}(a b h y:Nat)(z:Array Z)(F:FS W p q jp jb cs L D J w)(n:cs[15]? =K (U (K b) h y))(r:cs[17]? =K (.bool false))(b7:a<h)(v:J.state=1)(x:ai w b z 117)(t:z[a*4]? =K (.bool true))
  (l:d prog 69 #[Q (K q),Q (K ⟨b,a*4,I⟩)] w λg f=>g=e Ya/\P f)
  (u:∀f,P f->∃i,ai f b i 117/\i[a*4+2]? =K (A G 7)/\a*4+3<i.size):
  d prog 31 #[Q (K q),A G a] w λg f=>g=e Ya/\∃w1,P w1/\f=(((((w1.setCell ⟨b,a*4+2,I⟩ (A G 8)).setCell ⟨b,a*4,I⟩ (.bool false)).setCell ⟨b,a*4+1,I⟩ (A G 0)).setCell ⟨b,a*4+2,I⟩ (A G 0)).setCell ⟨b,a*4+3,I⟩ (U I 0 0)):=by
 have m:=E (λa5 a1=>eI jp jb J a5 a1);rw [v] at m;have C:=E l;have T:=E u;have R:=E F;have a7:=F.dP;have a8:w.cell? ⟨q,15,I⟩=K (U (K b) h y):=(F.ay.cell 15).trans n;have a9:w.cell? ⟨q,17,I⟩=K (.bool false):=(F.ay.cell 17).trans r;have c2:=F.ay.lt;have b5:¬(a:Int)<0:=O;have b6:¬(a:Int)>=(h:Int):=O;have a3:w.cell? ⟨b,a*4,I⟩=K (.bool true):=(x.cell _).trans t;have lt:=Yj w _ a3;clear F n r v x t l u;go_enter func31,ntmps31
 go_wp2_with (first
  |(go_at_call 39;refine(m.o _ R.o.jD).mono ?_;rintro g w2 ⟨rfl,rfl⟩)
  |(go_at_call 69;refine C.o.mono ?_;rintro g w2 ⟨rfl,j⟩;have a0:=E j;obtain⟨i,c,s,a2⟩:=T.o _ j;have c4:w2.cell? ⟨b,a*4+2,I⟩=K (A G 7):=(c.cell _).trans s;have a6:=E c;have b0:=c.free (a*4+2);have c3:=c.lt;have k:=E (c.set (a*4+2) (A G 8));obtain⟨b8,b9,c0,c1⟩:=uG k.o (i:=a*4) (by simpa using a2);obtain⟨b1,b2,b3,b4⟩:=xF k.o (a*4);clear j c s))
 go_returns;exact⟨rfl,_,a0.o,rfl⟩
theorem yq{P:V->Prop}(a b r n:Nat)(c:List TC)(a6:Array Z)(F:FS W p q jp jb cs L D J w)(k:cs[15]? =K (U (K b) c.length r))(x:cs[17]? =K (.bool false))(l:TK w b c)(T:c.length<=1000)(C:J.chunks<=1000)(b3:a<c.length)(a0:J.state=1)(R:(c.getD a TC.ae).has=false)(a2:jO c (oB J)=(n:Int))(a1:ai w b a6 117)(a3:a*4+3<a6.size)
  (t:∀w1,X w w w1->d prog 69 #[Q (K q),Q (K ⟨b,a*4,I⟩)] ((((w1.setCell ⟨b,a*4,I⟩ (.bool true)).setCell ⟨b,a*4+1,I⟩ (A G n)).setCell ⟨b,a*4+2,I⟩ (A G 0)).setCell ⟨b,a*4+3,I⟩ (U I 0 0)) λf g=>f=e Ya/\P g)
  (z:∀g,P g->∃s,ai g b s 117/\s[a*4+2]? =K (A G 0)):
  d prog 31 #[Q (K q),A G a] w λf g=>f=e Ya/\∃w1,P w1/\g=w1.setCell ⟨b,a*4+2,I⟩ (A G 1):=by
 have u:=E (λb5 b4=>eI jp jb J b5 b4);rw [a0] at u;have v:=E (DT b r c F k l T C);rw [a2] at v;have a7:=E t;have b0:=E z;have a8:=E F;have j:=E a1;have b1:=E a3;have b6:=F.dP;have b7:w.cell? ⟨q,15,I⟩=K (U (K b) c.length r):=(F.ay.cell 15).trans k;have b8:w.cell? ⟨q,17,I⟩=K (.bool false):=(F.ay.cell 17).trans x;have e1:=F.ay.lt;have c4:¬(a:Int)<0:=O;have c5:¬(a:Int)>=(c.length:Int):=O;have c6:¬(n:Int)<0:=O;obtain⟨a5, -⟩:=l a b3;rw [R] at a5;have lt:=Yj w _ a5;generalize c.length=e4 at*;clear F k x l T C a0 R a2 a1 a3 t z;go_enter func31,ntmps31
 go_wp2_with (first
  |(go_at_call 39;refine(u.o _ a8.o.jD).mono ?_;rintro f w2 ⟨rfl,rfl⟩)
  |(go_at_call 68;refine v.o.mono ?_;rintro f w1 ⟨rfl,h⟩;have a9:=E h;obtain⟨c7,c8,c9,e0⟩:=uG (j.o.ext h) (i:=a*4) b1.o;obtain⟨c0,c1,c2,c3⟩:=xF (j.o.ext h) (a*4);have e2:=(j.o.ext h).lt;clear h)
  |(go_at_call 69;refine(a7.o _ a9.o).mono ?_;rintro f w2 ⟨rfl,m⟩;have b2:=E m;obtain⟨s,i,y⟩:=b0.o _ m;have e5:w2.cell? ⟨b,a*4+2,I⟩=K (A G 0):=(i.cell _).trans y;have b9:=i.free (a*4+2);have e3:=i.lt;clear m i y))
 go_returns;exact⟨rfl,_,b2.o,rfl⟩
end
def Wg:DS×bJ:=((bz (cl bu dx) 1 0 (dZ 65536)).1,(bz (cl bu dx) 1 0 (dZ 65536)).2.1)
def eO:Nat->DS×bJ
 |0=>Wg
 |a+1=>if a=0∨15<=a then eO a else if a<=7 then ((cr 1 0 cU (eO a).1 (eO a).2 a).1,(cr 1 0 cU (eO a).1 (eO a).2 a).2.1) else ((cr 1 1 gj (eO a).1 (eO a).2 (a - 7)).1,(cr 1 1 gj (eO a).1 (eO a).2 (a - 7)).2.1)
def QX:Bool:=
 (Za 15).all (λa=>(eO a).2.state==1&&(eO a).2.chunks==1&&decide ((eO a).2.done.length<=1))&&
 (Za 7).all (λa=>decide ((cr 1 0 cU (eO (a+1)).1 (eO (a+1)).2 (a+1)).2.2=0))&&
 (Za 7).all (λa=>decide ((cr 1 1 gj (eO (a+8)).1 (eO (a+8)).2 (a+1)).2.2=0))&&
 (Za 8).all (λa=>oB (eO a).2==[0])&&(Za 7).all (λa=>oB (eO (a+8)).2==[1])&&
 decide (eh (eO 8).1 (iz 0)=0)&&(cy (eO 8).1 (iz 0)==cU)&&
 (eO 15).2.state==3&&decide (eh (eO 15).1 fM=0)&&(cy (eO 15).1 fM==gj)&&
 decide ((bz (cl bu dx) 1 0 (dZ 65536)).2.2=(0,0))&&decide ((bz (cl bu dx) 1 0 (dZ 0)).2.2=(4,9))
theorem jI:QX=true:=B
section
variable {W:V} {p q jp jb:Nat} {cs:Array Z} {L L1 L2:bY} {D D1:DS} {J J1:bJ} {w w0 w1 w2:V}
theorem Jd{P:V->Prop}(b off f:Nat)(F:FS W p q jp jb cs L D J w)(i:f<=99)(u:w.cell? ⟨b,off+1,I⟩=K (A G f))(k:w.cell? ⟨b,off+2,I⟩=K (A G 0))
  (h:∀w1,X w w w1->d prog 104 #[Q (K q),Q (K ⟨b,off,I⟩)] w1 λa g=>a=e Ya/\P g):
  d prog 69 #[Q (K q),Q (K ⟨b,off,I⟩)] w λa g=>a=e Ya/\P g:=by
 have m:=E (iF f F i);have l:=E h;have s:=E k;have lt:=Yj w _ u;have v:=F.ay.lt;clear F k h i;go_enter func69,ntmps69
 go_wp2_with (first
  |(go_at_call 103;refine m.o.mono ?_;rintro a w1 ⟨rfl,c⟩;have n:=E c;have t:=aZ c s.o;have x:=Yj w1 _ t;clear c)
  |(go_at_call 104;refine(l.o _ n.o).mono ?_;rintro a w2 ⟨rfl,j⟩;have r:=E j;clear j))
 go_returns;exact⟨rfl,r.o⟩
def cA(p:Nat)(L:bY)(w:V)(c:Z)(a:Bs):Prop:=w.ownsRow 0 5 1 c a.length (ak a)/\∀b,c.ownBlock=K b->¬L.has p b
theorem cA.fn{g:Z}{h:Bs}(n:cA p L w g h)(F:FS W p q jp jb cs L D J w)(l:FN p jp jb L w L1 w1):cA p L1 w1 g h:=by
 obtain⟨c,i⟩:=n
 have s:∀a,g.ownBlock=K a->¬(L.has p a∨a=jp∨a=jb):=λa b=>by
  have y:=(c.lt a b).2;rintro(f|rfl|rfl)
  .exact i a b f
  .exact cW F.jD.ay c H b
  .obtain⟨v,t,r, -⟩:=F.jD.map
   obtain⟨-,o|⟨m,cap,u,rfl,x,k,z⟩⟩:=c
   .rw [o.1] at b;cases b
   .obtain rfl:m=a:=by simpa [YT] using b
    rw [r] at k;cases k
 exact⟨an c λa b=>l.aD.block a (c.lt a b).2 (s a b),λa b f=>by
  rcases l.new a f with j|j
  .exact i a b j
  .have:=(c.lt a b).2;omega⟩
theorem cA.bytes{b:Z}{a:Bs}(c:cA p L w b a):ah w b a:=aq c.1
theorem cA.own{h:Z}{f:Bs}{g:Nat}{m:Array Z}(a:cA p L w h f)(k:ai w q cs 114)(l:ai w g m 117)(j:af (λb=>b=q∨b=g) w w1):cA p L w1 h f:=
 ⟨an a.1 λb c=>j.block b (a.1.lt b c).2 (λi=>by
  rcases i with rfl|rfl
  .exact cW k a.1 H c
  .exact cW l a.1 H c),a.2⟩
theorem cA.new{c:Z}{a:Bs}(F:FS W p q jp jb cs L D J w)(b:w1.ownsRow w 5 1 c a.length (ak a)):cA p L w1 c a:=
 ⟨aA b (Yr _),λh g f=>by have i:=(b.lt h g).1;have j:=F.aB.dp.lt f;omega⟩
theorem d_.own{a r:Nat}{m n l:Z}{W:Array Z}(L:d_ w a m n l)(P:ai w q cs 114)(R:ai w r W 117)(J:af (λc=>c=q∨c=r) w w1):d_ w1 a m n l:=by
 obtain⟨⟨T,b,y,i⟩,⟨z,C⟩,⟨D,F⟩⟩:=L
 have h:∀{a f p o:Nat} {s:Z} {t:List Z},w.ownsRow a f p s o t->f≠114->f≠117->w1.ownsRow a f p s o t:=λg u v=>
  an g λc b=>J.block c (g.lt c b).2 (λx=>by
   rcases x with rfl|rfl
   .exact cW P g (Ne.symm u) b
   .exact cW R g (Ne.symm v) b)
 exact⟨⟨T,h b H H,y,λk j=>⟨⟨h (i k j).1.1 H H,(i k j).1.2⟩,(i k j).2⟩⟩,⟨h z H H,C⟩,⟨h D H H,F⟩⟩
end
theorem r_{a:DS}{c:Nat}(k i h:Nat)(j:Inv a c):Inv (bz k i h a).1 (c+3*a.names.length+36):=by
 have l:=dk a;have f:=ml (aI a) false j;have g:=pR f;have b:=pS g;unfold bz;simp only;split
 .exact f.mono O
 .split
  .exact g.mono O
  .split
   .exact b.mono O
   .split
    .exact(mj _ _ _ b).mono O
    .split
     .exact(Bn _ _ (mj _ _ _ b)).mono O
     .exact(Bn _ _ (mj _ _ _ b)).mono O
theorem Bp{b:DS}{c:Nat}(h i:Nat)(g:Bs)(f:bJ)(j:Nat)(a:Inv b c):Inv (cr h i g b f j).1 (c+6):=by
 unfold cr;split
 .exact(a.br _).mono O
 .exact(a.du _ _).mono O
 .exact(a.cV _).mono O
 .exact(a.gO _ _).mono O
 .exact a.dG.mono O
 .exact(a.du _ _).mono O
 .unfold kI
  split
  .exact(a.cV _).mono O
  .exact(a.cV _).mono O
theorem Fs:∀b,Inv (eO b).1 (36+6*b)
 |0=>by
  have a:=r_ (cl bu dx) 1 0 (Inv.new (room:=65536) O);exact a.mono (by simp [dZ])
 |b+1=>by
  have a:=Fs b;unfold eO;split
  .exact a.mono O
  .split
   .exact(Bp _ _ _ _ _ a).mono O
   .exact(Bp _ _ _ _ _ a).mono O
theorem mq:∀b,Inv (eO b).1 150:=λb=>by
 by_cases f:b<=15
 .exact(Fs b).mono O
 .have:∀a,eO (15+a)=eO 15:=λa=>by
   induction a with
   |zero=>rfl
   |succ a c=>
    show eO ((15+a)+1)=_
    rw [eO,if_pos (Yh O),c]
  obtain⟨a,rfl⟩:∃a,b=15+a:=⟨b - 15,O⟩;rw [this];exact(Fs 15).mono O
theorem Sn(a:Nat)(b:15<=a):eO (a+1)=eO a:=by rw [eO,if_pos (Yh b)]
theorem AI(a:Nat)(c:1<=a)(b:a<=7):eO (a+1)=((cr 1 0 cU (eO a).1 (eO a).2 a).1,(cr 1 0 cU (eO a).1 (eO a).2 a).2.1):=by rw [eO,if_neg O,if_pos b]
theorem Nd(a:Nat)(b:8<=a)(c:a<=14):eO (a+1)=((cr 1 1 gj (eO a).1 (eO a).2 (a - 7)).1,(cr 1 1 gj (eO a).1 (eO a).2 (a - 7)).2.1):=by rw [eO,if_neg O,if_neg O]
theorem lh(a:Nat)(f:a<=14):(eO a).2.state=1/\(eO a).2.chunks=1/\(eO a).2.done.length<=1:=by
 have c:=jI;unfold QX at c;simp only [YV,List.all_eq_true,List.mem_range,decide_eq_true_eq,beq_iff_eq] at c;have b:=c.1.1.1.1.1.1.1.1.1.1.1 a O;exact⟨b.1.1,b.1.2,b.2⟩
theorem Nb(a:Nat)(f:1<=a)(g:a<=7):(cr 1 0 cU (eO a).1 (eO a).2 a).2.2=0:=by
 have b:=jI;unfold QX at b;simp only [YV,List.all_eq_true,List.mem_range,decide_eq_true_eq,beq_iff_eq] at b;have c:=b.1.1.1.1.1.1.1.1.1.1.2 (a - 1) O
 rwa [(O:a - 1+1=a)] at c
theorem Io(a:Nat)(f:8<=a)(g:a<=14):(cr 1 1 gj (eO a).1 (eO a).2 (a - 7)).2.2=0:=by
 have b:=jI;unfold QX at b;simp only [YV,List.all_eq_true,List.mem_range,decide_eq_true_eq,beq_iff_eq] at b;have c:=b.1.1.1.1.1.1.1.1.1.2 (a - 8) O
 rwa [(O:a - 8+8=a),show a - 8+1=a - 7 by omega] at c
theorem Ip(b:Nat)(c:b<=7):oB (eO b).2=[0]:=by
 have a:=jI;unfold QX at a;simp only [YV,List.all_eq_true,List.mem_range,decide_eq_true_eq,beq_iff_eq] at a;exact a.1.1.1.1.1.1.1.1.2 b O
theorem AJ(a:Nat)(f:8<=a)(g:a<=14):oB (eO a).2=[1]:=by
 have b:=jI;unfold QX at b;simp only [YV,List.all_eq_true,List.mem_range,decide_eq_true_eq,beq_iff_eq] at b;have c:=b.1.1.1.1.1.1.1.2 (a - 8) O
 rwa [(O:a - 8+8=a)] at c
theorem Iq:eh (eO 8).1 (iz 0)=0/\cy (eO 8).1 (iz 0)=cU:=by
 have a:=jI;unfold QX at a;simp only [YV,List.all_eq_true,List.mem_range,decide_eq_true_eq,beq_iff_eq] at a;exact⟨a.1.1.1.1.1.1.2,a.1.1.1.1.1.2⟩
theorem EG:(eO 15).2.state=3/\eh (eO 15).1 fM=0/\cy (eO 15).1 fM=gj:=by
 have a:=jI;unfold QX at a;simp only [YV,List.all_eq_true,List.mem_range,decide_eq_true_eq,beq_iff_eq] at a;exact⟨a.1.1.1.1.2,a.1.1.1.2,a.1.1.2⟩
theorem ze:(bz (cl bu dx) 1 0 (dZ 65536)).2.2=(0,0)/\(bz (cl bu dx) 1 0 (dZ 0)).2.2=(4,9):=by
 have a:=jI;unfold QX at a;simp only [YV,List.all_eq_true,List.mem_range,decide_eq_true_eq,beq_iff_eq] at a;exact⟨a.1.2,a.2⟩
theorem Nc:∀b,15<=b->eO b=eO 15:=λb f=>by
 obtain⟨a,rfl⟩:∃a,b=15+a:=⟨b - 15,O⟩
 induction a with
 |zero=>rfl
 |succ a c=>
  show eO ((15+a)+1)=_
  rw [Sn _ O,c O]
theorem Cm:nO (fR 1 0 cU):=by
 have b:=iZ cU;have a:fR 1 0 cU=⟨49,aF cU,0,cU.length,0⟩:=rfl;rw [a,Cq];exact Yh (Yg ⟨rfl,by show aF cU<=_;omega,by show(0:Nat)<16;omega,by show(19:Nat)<=_;omega,rfl⟩)
theorem Cn:nO (fR 1 1 gj):=by
 have b:=iZ gj;have a:fR 1 1 gj=⟨51,aF gj,0,gj.length,0⟩:=rfl;rw [a,Ch];exact Yh (Yh (Yh ⟨rfl,by show aF gj<=_;omega,rfl,by show(83:Nat)<=_;omega,rfl⟩))
section
variable {W:V} {p q jp jb:Nat} {cs:Array Z} {L L1 L2:bY} {D D1:DS} {J J1:bJ} {w w0 w1 w2:V}
theorem yL(g f off a b:Nat)(h:Z)(c:Bs)(F:FS W p q jp jb cs L D J w)(x:1<=b)(y:b<=7)(m:a<=99)(k:ah w h c)(o:w.cell? ⟨f,off+1,I⟩=K (A G a))(r:w.cell? ⟨f,off+2,I⟩=K (A G b))(s:w.cell? ⟨f,off+3,I⟩=K h)(n:nO (fR J.chunks a c))(i:Inv D g)(j:g+3<=100000)(l:J.done.length<=100000):
  d prog 69 #[Q (K q),Q (K ⟨f,off,I⟩)] w λv u=>v=e (bj (cr J.chunks a c D J b).2.2)/\∃t,FS W p q jp jb cs t (cr J.chunks a c D J b).1 (cr J.chunks a c D J b).2.1 u/\FN p jp jb L w t u:=by
 obtain rfl|rfl|rfl|rfl|rfl|rfl|rfl:b=1∨b=2∨b=3∨b=4∨b=5∨b=6∨b=7:=O
 .exact RF g f off a h c F m k o r s n i j l
 .exact RG g f off a h c F m k o r s n i j l
 .exact RH g f off a h c F m k o r s n i j l
 .exact RI g f off a h c F m k o r s n i j l
 .exact RJ g f off a h c F m k o r s n i j l
 .exact RK g f off a h c F m k o r s n i j l
 .exact RL g f off a h c F m k o r s n i j l
end
end
end Go.Proofs.YtajkpgaheechmaaGreatDoor
