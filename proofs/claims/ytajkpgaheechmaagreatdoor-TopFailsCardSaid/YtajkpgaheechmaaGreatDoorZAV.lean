/- YIntraW YIntraR YIntraB YIntraE YOrder YRowsL YWhole YQuarter -/
import Derived.Test.YtajkpgaheechmaaGreatDoorZAT
set_option maxRecDepth 100000
set_option maxHeartbeats 16000000
set_option linter.unusedSimpArgs false
set_option linter.unusedVariables false
set_option linter.unusedSectionVars false
namespace Go.Proofs.YtajkpgaheechmaaGreatDoor
open _root_.Go.Proofs.Tryz
open Go.Value renaming int->A,slice->U,pointer->Q,nilIface->Ya,agg->Yc,tuple->Ye
open Go.IntKind renaming i64->G,wrap->Zc
open Option renaming none->I,some->K
open Go.Obj renaming cells->M
open Go.Ending renaming returned->e
open Go renaming World->V,Value->Z,Calls->d,Addr->Yi,maxLen->YO
open Go.RowKit renaming Below->X,intOf->Yz
open Or renaming inl->Yg,inr->Yh
open Nat renaming zero_le->Yr
open Go.RowKit.Below renaming refl->Yn
open List renaming length_append->Yq,replicate->YA
open Go.IntWalk renaming i64_in->Yx
open Bool renaming and_eq_true->YV
section
open Go.RowKit
theorem oZ(a left:List Int):jH a left 0=a.length:=by unfold jH;rw [Hn];omega
theorem jt{b c:Int}{a:Nat}(f:b*c=a)(g:a<=9223372036854775807):Zc G (b*c)=a:=by rw [f];exact Yx _ O
theorem Rk{a b:List Int}{c:Int}{f:Nat}:cC 0 a b c f=pE a b:=by unfold cC;rfl
theorem Rl{a c:List Int}{f:Int}{b:Nat}:cC 1 a c f b=a.getD (b%a.length) 0:=by unfold cC;rfl
theorem Rm{a b:List Int}{f:Int}{c:Nat}:cC 2 a b f c=b.getD (c / a.length) 0:=by unfold cC;rfl
theorem Rn{a c:List Int}{f:Int}{b:Nat}:cC 3 a c f b=eF (c.getD (b / a.length) 0+a.getD (b%a.length) 0 - f):=by unfold cC;rfl
theorem pj{m c:Int}{a b:List Int}(i:dh a b c=0)(h:Nat):0<=cC m a b c h/\cC m a b c h<=255:=by
 obtain⟨j,k,f,g,_,_⟩:=gy i;unfold cC;split
 .exact mw j f g
 .split
  .exact aQ f O O _
  .split
   .exact aQ g O O _
   .exact qK _
theorem xH(y x:Z)(b f:List Int)(j:Int)(p:V)(t:aY p y b)(w:aY p x f):
  d prog 336 #[y,x,A G j] p λc C=>c=e (bj (dh b f j))/\X p p C:=by
 have k:=λp t=>kj y b p t
 have s2:=λp t=>kj x f p t
 have l:=E t;have s:=E w;have L:=t.len;have P:=w.len;obtain⟨D,cap,rfl⟩:=t.shape;obtain⟨F,J,rfl⟩:=w.shape;clear t w;by_cases a:b.length=4∨b.length=8
 .by_cases g:f.length=b.length
  .have z:((f.length:Int) !=(b.length:Int))=false:=by rw [g];simp
   have m:(((b.length:Int) !=4)&&((b.length:Int) !=8))=false:=by rcases a with c|c<;>rw [c]<;>rfl
   cases h1:ax b 0 255 with
   |false=>
    rw [show dh b f j=3 from by unfold dh;rw [if_pos ⟨a,g⟩,h1];rfl];rw [h1] at k;have i:=E k;clear k s2 h1 g
    rcases a with a|a
    .have h:((b.length:Int) !=4)=false:=by rw [a];rfl
     clear a m;go_enter func336,ntmps336
     go_wp2_with fail
     refine(i.o _ (l.o.ext N)).mono ?_;rintro c r ⟨rfl,rfl⟩;go_wp2;go_returns;exact⟨rfl,N⟩
    .have h:((b.length:Int) !=4)=true:=by rw [a];rfl
     have v:((b.length:Int) !=8)=false:=by rw [a];rfl
     clear a m;go_enter func336,ntmps336
     go_wp2_with fail
     refine(i.o _ (l.o.ext N)).mono ?_;rintro c r ⟨rfl,rfl⟩;go_wp2;go_returns;exact⟨rfl,N⟩
   |true=>
    rw [h1] at k;have i:=E k
    cases h2:ax f 0 255 with
    |false=>
     rw [show dh b f j=3 from by unfold dh;rw [if_pos ⟨a,g⟩,h1,h2];rfl];rw [h2] at s2;have n:=E s2;clear k s2 h1 h2 g
     rcases a with a|a
     .have h:((b.length:Int) !=4)=false:=by rw [a];rfl
      clear a m;go_enter func336,ntmps336
      go_wp2_with fail
      refine(i.o _ (l.o.ext N)).mono ?_;rintro c r ⟨rfl,rfl⟩
      go_wp2_with fail
      refine(n.o _ (s.o.ext N)).mono ?_;rintro c u ⟨rfl,rfl⟩;go_wp2;go_returns;exact⟨rfl,N⟩
     .have h:((b.length:Int) !=4)=true:=by rw [a];rfl
      have v:((b.length:Int) !=8)=false:=by rw [a];rfl
      clear a m;go_enter func336,ntmps336
      go_wp2_with fail
      refine(i.o _ (l.o.ext N)).mono ?_;rintro c r ⟨rfl,rfl⟩
      go_wp2_with fail
      refine(n.o _ (s.o.ext N)).mono ?_;rintro c u ⟨rfl,rfl⟩;go_wp2;go_returns;exact⟨rfl,N⟩
    |true=>
     rw [h2] at s2;have n:=E s2;by_cases R:j<0
     .rw [show dh b f j=3 from by unfold dh;rw [if_pos ⟨a,g⟩,h1,h2];simp;omega]
      clear k s2 h1 h2 g
      rcases a with a|a
      .have h:((b.length:Int) !=4)=false:=by rw [a];rfl
       clear a m;go_enter func336,ntmps336
       go_wp2_with fail
       refine(i.o _ (l.o.ext N)).mono ?_;rintro c r ⟨rfl,rfl⟩
       go_wp2_with fail
       refine(n.o _ (s.o.ext N)).mono ?_;rintro c u ⟨rfl,rfl⟩;go_wp2;go_returns;exact⟨rfl,N⟩
      .have h:((b.length:Int) !=4)=true:=by rw [a];rfl
       have v:((b.length:Int) !=8)=false:=by rw [a];rfl
       clear a m;go_enter func336,ntmps336
       go_wp2_with fail
       refine(i.o _ (l.o.ext N)).mono ?_;rintro c r ⟨rfl,rfl⟩
       go_wp2_with fail
       refine(n.o _ (s.o.ext N)).mono ?_;rintro c u ⟨rfl,rfl⟩;go_wp2;go_returns;exact⟨rfl,N⟩
     .by_cases T:255<j
      .rw [show dh b f j=3 from by unfold dh;rw [if_pos ⟨a,g⟩,h1,h2];simp;omega]
       clear k s2 h1 h2 g
       rcases a with a|a
       .have h:((b.length:Int) !=4)=false:=by rw [a];rfl
        clear a m;go_enter func336,ntmps336
        go_wp2_with fail
        refine(i.o _ (l.o.ext N)).mono ?_;rintro c r ⟨rfl,rfl⟩
        go_wp2_with fail
        refine(n.o _ (s.o.ext N)).mono ?_;rintro c u ⟨rfl,rfl⟩;go_wp2;go_returns;exact⟨rfl,N⟩
       .have h:((b.length:Int) !=4)=true:=by rw [a];rfl
        have v:((b.length:Int) !=8)=false:=by rw [a];rfl
        clear a m;go_enter func336,ntmps336
        go_wp2_with fail
        refine(i.o _ (l.o.ext N)).mono ?_;rintro c r ⟨rfl,rfl⟩
        go_wp2_with fail
        refine(n.o _ (s.o.ext N)).mono ?_;rintro c u ⟨rfl,rfl⟩;go_wp2;go_returns;exact⟨rfl,N⟩
      .rw [show dh b f j=0 from Nh a g h1 h2 O O]
       clear k s2 h1 h2 g
       rcases a with a|a
       .have h:((b.length:Int) !=4)=false:=by rw [a];rfl
        clear a m;go_enter func336,ntmps336
        go_wp2_with fail
        refine(i.o _ (l.o.ext N)).mono ?_;rintro c r ⟨rfl,rfl⟩
        go_wp2_with fail
        refine(n.o _ (s.o.ext N)).mono ?_;rintro c u ⟨rfl,rfl⟩;go_wp2;go_returns;exact⟨rfl,N⟩
       .have h:((b.length:Int) !=4)=true:=by rw [a];rfl
        have v:((b.length:Int) !=8)=false:=by rw [a];rfl
        clear a m;go_enter func336,ntmps336
        go_wp2_with fail
        refine(i.o _ (l.o.ext N)).mono ?_;rintro c r ⟨rfl,rfl⟩
        go_wp2_with fail
        refine(n.o _ (s.o.ext N)).mono ?_;rintro c u ⟨rfl,rfl⟩;go_wp2;go_returns;exact⟨rfl,N⟩
  .have z:((f.length:Int) !=(b.length:Int))=true:=by simp;omega
   rw [show dh b f j=14 from by unfold dh;rw [if_neg (λq=>g q.2)]];clear k s2 g
   rcases a with a|a
   .have h:((b.length:Int) !=4)=false:=by rw [a];rfl
    clear a;go_enter func336,ntmps336;go_wp2;go_returns;exact⟨rfl,N⟩
   .have h:((b.length:Int) !=4)=true:=by rw [a];rfl
    have v:((b.length:Int) !=8)=false:=by rw [a];rfl
    clear a;go_enter func336,ntmps336;go_wp2;go_returns;exact⟨rfl,N⟩
 .have h:((b.length:Int) !=4)=true:=by simp;omega
  have v:((b.length:Int) !=8)=true:=by simp;omega
  rw [show dh b f j=14 from by unfold dh;rw [if_neg (λq=>a q.1)]];clear k s2 a;go_enter func336,ntmps336;go_wp2;go_returns;exact⟨rfl,N⟩
theorem TW(tv lv:Z)(a b:List Int)(c:Int)(w:V)(hv:aY w tv a)(hu:aY w lv b)(he:dh a b c=0):
  d prog 337 #[A G 0,tv,lv,A G c] w λe w'=>∃v',e= .returned v'/\aa w' w.heap.size v' (jJ 0 a b c)/\X w.heap.size w w':=by
 obtain⟨hn,hab,ha,hb,hc1,hc2⟩:=gy he;have HPI:=E (λk=>pj (m:=0) he k);have HA:=E (λi=>aQ ha (show(0:Int)<=0 by omega) (show(0:Int)<=255 by omega) i);have HB:=E (λi=>aQ hb (show(0:Int)<=0 by omega) (show(0:Int)<=255 by omega) i);have HN:=E (λk=>rp ha hb k);have HM:=E (show pE a b=jH a b a.length / (2*a.length) from rfl);have HMB:=E (mw hn ha hb);have HV:=E hv;have HU:=E hu;obtain⟨ao,cap,rfl⟩:=hv.shape;obtain⟨bo,cap2,rfl⟩:=hu.shape;have HLB:=E hab;have hp:jJ 0 a b c=bQ (cC 0 a b c) (a.length*a.length):=rfl;rw [hp];have HPV:=E (λk=>@Rk a b c k);have HN0:=E (oZ a b);obtain⟨N,hN⟩:∃N,a.length=N:=⟨_,rfl⟩;have HLA:=E hN;have hn8:N<=8:=O;have hn4:4<=N:=O;rw [hN] at HM HV HLB HN0⊢;rw [HLB.o] at HU⊢;clear hv hu ha hb hn hab he hp hN;obtain⟨NN,hNN⟩:∃NN,N*N=NN:=⟨_,rfl⟩
 have hNN2:NN<=64:=by rw [<-hNN];exact Nat.mul_le_mul hn8 hn8
 have qm:Zc G ((N:Int)*N)=(NN:Nat):=jt (by rw [<-hNN];simp) O;rw [hNN];have HNN:=E hNN;clear hNN;go_enter func337,ntmps337;go_wp2
 go_loopw [10,20] (λs i wr=>∃k:Nat,k<=N/\i=A G k/\s=A G (jH a b k)/\X w.heap.size w wr) (λ_ i _=>N - (Yz i).toNat)
 case atStart=>exact⟨0,Yr _,rfl,by rw [HN0.o],Yn _ _⟩
 case round=>
  obtain⟨k,hk,rfl,rfl,hbr⟩:=hrel;have hsb:=HN.o k;rw [HLA.o] at hsb;have HS:=E (oY a b k);by_cases hlt:k<N
  .obtain⟨b1,o1,b2,o2,rfl,rfl,ca,cb⟩:=lH HV.o HU.o hbr (k:=k) (by rw [HLA.o];exact hlt) (by rw [HLB.o];exact hlt)
   obtain⟨p1,p2⟩:=HA.o k;obtain⟨p3,p4⟩:=HB.o k;generalize a.getD k 0=p at*;generalize b.getD k 0=q at*;generalize jH a b k=s at*
   go_wp2_with fail
   go_quiet (fail);go_wp2;go_roundw
   case rel=>exact⟨k+1,O,S,int_eq HS.o.symm,by first|exact hbr|exact hbr.drew|exact ag hbr _⟩
   case measure=>simp [Yz];omega
  .have e:N=k:=O
   subst e;clear HS;obtain⟨wo,rfl⟩:∃wo:V,wo=wr:=⟨_,rfl⟩;have g0:=hbr;clear hbr;generalize hs:jH a b N=s at*
   go_wp2_with (at_make;refine fS rfl _ _ rfl NN rfl rfl rfl rfl O ?_)
   intro w1 hown hb1 hlt1;have g1:X w.heap.size w w1:=ext g0 hb1;have HO:=E (show aa w1 wo.heap.size (U (K ⟨wo.heap.size,0,I⟩) NN NN) (cZ (cC 0 a b c) (YA NN 0) 0) from by rw [iH];simpa using hown);have s0:=g0.size;clear hown hb1 hs;obtain⟨mn,hmn⟩:∃mn,pE a b=mn:=⟨_,rfl⟩;obtain⟨D2,hD2⟩:∃D2,2*N=D2:=⟨_,rfl⟩;rw [hmn] at HM HMB HPV;have hmn2:mn=s / (2*(N:Int)):=HM.o
   have q2:Zc G (2*(N:Int))=(D2:Nat):=by rw [Yx _ O,<-hD2];simp
   have qs:s / (D2:Int)=mn:=by rw [hmn2,<-hD2];simp
   have hd20:¬(D2:Int)=0:=O;have hd21:1<=(D2:Int):=O;have hd22:¬D2=0:=O;have hs0:0<=s:=O;have hs1:s<=5000:=O;clear hmn hmn2 HM hD2;go_wp2
   go_loopw [41] (λi wr=>∃j:Nat,j<=NN/\i=A G j/\aa wr wo.heap.size (U (K ⟨wo.heap.size,0,I⟩) NN NN) (cZ (cC 0 a b c) (YA NN 0) j)/\X w.heap.size w wr) (λi _=>NN - (Yz i).toNat)
   case atStart=>exact⟨0,Yr _,rfl,HO.o,g1⟩
   case round=>
    clear HO g1;obtain⟨j,hj,rfl,hown,hbr⟩:=hrel;have HO2:=E hown;clear hown;by_cases hlj:j<NN
    .have hjn:j<N*N:=by rw [HNN.o];exact hlj
     have hM:=Nat.mod_lt j (show 0<N by omega);have hD:j / N<N:=Nat.div_lt_of_lt_mul hjn;obtain⟨b1,o1,rfl,ca,lb1⟩:=(HV.o.ext hbr).gQ (j:=j%N) (by rw [HLA.o];exact hM);obtain⟨b2,o2,rfl,cb,lb2⟩:=(HU.o.ext hbr).gQ (j:=j / N) (by rw [HLB.o];exact hD);obtain⟨p1,p2⟩:=HA.o (j%N);obtain⟨p3,p4⟩:=HB.o (j / N);have hpv:=HPV.o j;have hpi:=HPI.o j;obtain⟨M,hMe⟩:∃M,j%N=M:=⟨_,rfl⟩;obtain⟨D,hDe⟩:∃D,j / N=D:=⟨_,rfl⟩
     have qD:(j:Int) / (N:Int)=(D:Nat):=by rw [<-hDe];simp
     have qR:(j:Int)%(N:Int)=(M:Nat):=by rw [<-hMe];simp
     have qDw:Zc G (D:Int)=(D:Nat):=Yx _ O
     have qT:Int.tmod (j:Int) N=(M:Nat):=by rw [<-hMe,Int.tmod_eq_emod_of_nonneg O];simp
     have hn0:¬(N:Int)=0:=O;have hn00:¬N=0:=O
     have qn0:((N:Int)==0)=false:=by simp;omega
     have hn1i:1<=(N:Int):=O;rw [hMe] at ca hM p1 p2;rw [hDe] at cb hD p3 p4;generalize a.getD M 0=p at*;generalize b.getD D 0=q at*;have HPV2:=E hpv;have HPI2:=E hpi;clear hpv hpi hjn hMe
     go_wp2_with fail
     go_quiet (fail)
     rename_i nq
     have j5:X wr.heap.size wr (wr.drewN nq):=ag (Yn _ _) nq;have g5:X w.heap.size w (wr.drewN nq):=ext hbr j5;have HO5:=E (HO2.o.ext j5);generalize hq5:wr.drewN nq=w5 at*;clear hq5 j5 HO2 ca cb;obtain⟨-, -, -,hcell,hfz⟩:=HO5.o.at;have hc0:=hcell j (by rw [df,List.length_replicate];exact hlj);have hf0:=hfz j
     have HS:=E (show aa (w5.setCell ⟨wo.heap.size,j,I⟩ (A G (mn))) wo.heap.size (U (K ⟨wo.heap.size,0,I⟩) NN NN) (cZ (cC 0 a b c) (YA NN 0) (j+1)) from by
      rw [<-iG (by rw [List.length_replicate];exact hlj),HPV2.o];exact HO5.o.xo j _ (by have:=HPI2.o;rw [HPV2.o] at this;unfold bh;omega))
     generalize (cZ (cC 0 a b c) (YA NN 0) j).getD j 0=z at*;clear hcell hfz hDe;go_wp2;go_roundw
     case rel=>exact⟨j+1,O,S,HS.o,g5.setCell (by show w.heap.size<=wo.heap.size;exact s0) _⟩
     case measure=>simp [Yz];omega
    .have e:j=NN:=O
     have HE:=E (show aa wr wo.heap.size (U (K ⟨wo.heap.size,0,I⟩) NN NN) (bQ (cC 0 a b c) NN) from by rw [e,kO Y] at HO2;exact HO2.o);clear e HO2;go_wp2;go_returns;exact⟨_,rfl,HE.o.mono s0,hbr⟩
theorem TY(tv lv:Z)(a b:List Int)(c:Int)(w:V)(hv:aY w tv a)(hu:aY w lv b)(he:dh a b c=0):
  d prog 337 #[A G 1,tv,lv,A G c] w λe w'=>∃v',e= .returned v'/\aa w' w.heap.size v' (jJ 1 a b c)/\X w.heap.size w w':=by
 obtain⟨hn,hab,ha,hb,hc1,hc2⟩:=gy he;have HPI:=E (λk=>pj (m:=1) he k);have HA:=E (λi=>aQ ha (show(0:Int)<=0 by omega) (show(0:Int)<=255 by omega) i);have HB:=E (λi=>aQ hb (show(0:Int)<=0 by omega) (show(0:Int)<=255 by omega) i);have HN:=E (λk=>rp ha hb k);have HM:=E (show pE a b=jH a b a.length / (2*a.length) from rfl);have HMB:=E (mw hn ha hb);have HV:=E hv;have HU:=E hu;obtain⟨ao,cap,rfl⟩:=hv.shape;obtain⟨bo,cap2,rfl⟩:=hu.shape;have HLB:=E hab;have hp:jJ 1 a b c=bQ (cC 1 a b c) (a.length*a.length):=rfl;rw [hp];have HPV:=E (λk=>@Rl a b c k);have HN0:=E (oZ a b);obtain⟨N,hN⟩:∃N,a.length=N:=⟨_,rfl⟩;have HLA:=E hN;have hn8:N<=8:=O;have hn4:4<=N:=O;rw [hN] at HM HV HLB HN0⊢;rw [hN] at HPV;rw [HLB.o] at HU⊢;clear hv hu ha hb hn hab he hp hN;obtain⟨NN,hNN⟩:∃NN,N*N=NN:=⟨_,rfl⟩
 have hNN2:NN<=64:=by rw [<-hNN];exact Nat.mul_le_mul hn8 hn8
 have qm:Zc G ((N:Int)*N)=(NN:Nat):=jt (by rw [<-hNN];simp) O;rw [hNN];have HNN:=E hNN;clear hNN;go_enter func337,ntmps337;go_wp2
 go_loopw [10,20] (λs i wr=>∃k:Nat,k<=N/\i=A G k/\s=A G (jH a b k)/\X w.heap.size w wr) (λ_ i _=>N - (Yz i).toNat)
 case atStart=>exact⟨0,Yr _,rfl,by rw [HN0.o],Yn _ _⟩
 case round=>
  obtain⟨k,hk,rfl,rfl,hbr⟩:=hrel;have hsb:=HN.o k;rw [HLA.o] at hsb;have HS:=E (oY a b k);by_cases hlt:k<N
  .obtain⟨b1,o1,b2,o2,rfl,rfl,ca,cb⟩:=lH HV.o HU.o hbr (k:=k) (by rw [HLA.o];exact hlt) (by rw [HLB.o];exact hlt)
   obtain⟨p1,p2⟩:=HA.o k;obtain⟨p3,p4⟩:=HB.o k;generalize a.getD k 0=p at*;generalize b.getD k 0=q at*;generalize jH a b k=s at*
   go_wp2_with fail
   go_quiet (fail);go_wp2;go_roundw
   case rel=>exact⟨k+1,O,S,int_eq HS.o.symm,by first|exact hbr|exact hbr.drew|exact ag hbr _⟩
   case measure=>simp [Yz];omega
  .have e:N=k:=O
   subst e;clear HS;obtain⟨wo,rfl⟩:∃wo:V,wo=wr:=⟨_,rfl⟩;have g0:=hbr;clear hbr;generalize hs:jH a b N=s at*
   go_wp2_with (at_make;refine fS rfl _ _ rfl NN rfl rfl rfl rfl O ?_)
   intro w1 hown hb1 hlt1;have g1:X w.heap.size w w1:=ext g0 hb1;have HO:=E (show aa w1 wo.heap.size (U (K ⟨wo.heap.size,0,I⟩) NN NN) (cZ (cC 1 a b c) (YA NN 0) 0) from by rw [iH];simpa using hown);have s0:=g0.size;clear hown hb1 hs;go_wp2
   go_loopw [41] (λi wr=>∃j:Nat,j<=NN/\i=A G j/\aa wr wo.heap.size (U (K ⟨wo.heap.size,0,I⟩) NN NN) (cZ (cC 1 a b c) (YA NN 0) j)/\X w.heap.size w wr) (λi _=>NN - (Yz i).toNat)
   case atStart=>exact⟨0,Yr _,rfl,HO.o,g1⟩
   case round=>
    clear HO g1;obtain⟨j,hj,rfl,hown,hbr⟩:=hrel;have HO2:=E hown;clear hown;by_cases hlj:j<NN
    .have hjn:j<N*N:=by rw [HNN.o];exact hlj
     have hM:=Nat.mod_lt j (show 0<N by omega);have hD:j / N<N:=Nat.div_lt_of_lt_mul hjn;obtain⟨b1,o1,rfl,ca,lb1⟩:=(HV.o.ext hbr).gQ (j:=j%N) (by rw [HLA.o];exact hM);obtain⟨b2,o2,rfl,cb,lb2⟩:=(HU.o.ext hbr).gQ (j:=j / N) (by rw [HLB.o];exact hD);obtain⟨p1,p2⟩:=HA.o (j%N);obtain⟨p3,p4⟩:=HB.o (j / N);have hpv:=HPV.o j;have hpi:=HPI.o j;obtain⟨M,hMe⟩:∃M,j%N=M:=⟨_,rfl⟩;obtain⟨D,hDe⟩:∃D,j / N=D:=⟨_,rfl⟩
     have qD:(j:Int) / (N:Int)=(D:Nat):=by rw [<-hDe];simp
     have qR:(j:Int)%(N:Int)=(M:Nat):=by rw [<-hMe];simp
     have qDw:Zc G (D:Int)=(D:Nat):=Yx _ O
     have qT:Int.tmod (j:Int) N=(M:Nat):=by rw [<-hMe,Int.tmod_eq_emod_of_nonneg O];simp
     have hn0:¬(N:Int)=0:=O;have hn00:¬N=0:=O
     have qn0:((N:Int)==0)=false:=by simp;omega
     have hn1i:1<=(N:Int):=O;rw [hMe] at ca hM p1 p2;rw [hDe] at cb hD p3 p4;rw [hMe] at hpv;generalize a.getD M 0=p at*;generalize b.getD D 0=q at*;have HPV2:=E hpv;have HPI2:=E hpi;clear hpv hpi hjn hMe
     go_wp2_with fail
     go_quiet (fail)
     rename_i nq
     have j5:X wr.heap.size wr (wr.drewN nq):=ag (Yn _ _) nq;have g5:X w.heap.size w (wr.drewN nq):=ext hbr j5;have HO5:=E (HO2.o.ext j5);generalize hq5:wr.drewN nq=w5 at*;clear hq5 j5 HO2 ca cb;obtain⟨-, -, -,hcell,hfz⟩:=HO5.o.at;have hc0:=hcell j (by rw [df,List.length_replicate];exact hlj);have hf0:=hfz j
     have HS:=E (show aa (w5.setCell ⟨wo.heap.size,j,I⟩ (A G (p))) wo.heap.size (U (K ⟨wo.heap.size,0,I⟩) NN NN) (cZ (cC 1 a b c) (YA NN 0) (j+1)) from by
      rw [<-iG (by rw [List.length_replicate];exact hlj),HPV2.o];exact HO5.o.xo j _ (by have:=HPI2.o;rw [HPV2.o] at this;unfold bh;omega))
     generalize (cZ (cC 1 a b c) (YA NN 0) j).getD j 0=z at*;clear hcell hfz hDe;go_wp2;go_roundw
     case rel=>exact⟨j+1,O,S,HS.o,g5.setCell (by show w.heap.size<=wo.heap.size;exact s0) _⟩
     case measure=>simp [Yz];omega
    .have e:j=NN:=O
     have HE:=E (show aa wr wo.heap.size (U (K ⟨wo.heap.size,0,I⟩) NN NN) (bQ (cC 1 a b c) NN) from by rw [e,kO Y] at HO2;exact HO2.o);clear e HO2;go_wp2;go_returns;exact⟨_,rfl,HE.o.mono s0,hbr⟩
theorem TZ(tv lv:Z)(a b:List Int)(c:Int)(w:V)(hv:aY w tv a)(hu:aY w lv b)(he:dh a b c=0):
  d prog 337 #[A G 2,tv,lv,A G c] w λe w'=>∃v',e= .returned v'/\aa w' w.heap.size v' (jJ 2 a b c)/\X w.heap.size w w':=by
 obtain⟨hn,hab,ha,hb,hc1,hc2⟩:=gy he;have HPI:=E (λk=>pj (m:=2) he k);have HA:=E (λi=>aQ ha (show(0:Int)<=0 by omega) (show(0:Int)<=255 by omega) i);have HB:=E (λi=>aQ hb (show(0:Int)<=0 by omega) (show(0:Int)<=255 by omega) i);have HN:=E (λk=>rp ha hb k);have HM:=E (show pE a b=jH a b a.length / (2*a.length) from rfl);have HMB:=E (mw hn ha hb);have HV:=E hv;have HU:=E hu;obtain⟨ao,cap,rfl⟩:=hv.shape;obtain⟨bo,cap2,rfl⟩:=hu.shape;have HLB:=E hab;have hp:jJ 2 a b c=bQ (cC 2 a b c) (a.length*a.length):=rfl;rw [hp];have HPV:=E (λk=>@Rm a b c k);have HN0:=E (oZ a b);obtain⟨N,hN⟩:∃N,a.length=N:=⟨_,rfl⟩;have HLA:=E hN;have hn8:N<=8:=O;have hn4:4<=N:=O;rw [hN] at HM HV HLB HN0⊢;rw [hN] at HPV;rw [HLB.o] at HU⊢;clear hv hu ha hb hn hab he hp hN;obtain⟨NN,hNN⟩:∃NN,N*N=NN:=⟨_,rfl⟩
 have hNN2:NN<=64:=by rw [<-hNN];exact Nat.mul_le_mul hn8 hn8
 have qm:Zc G ((N:Int)*N)=(NN:Nat):=jt (by rw [<-hNN];simp) O;rw [hNN];have HNN:=E hNN;clear hNN;go_enter func337,ntmps337;go_wp2
 go_loopw [10,20] (λs i wr=>∃k:Nat,k<=N/\i=A G k/\s=A G (jH a b k)/\X w.heap.size w wr) (λ_ i _=>N - (Yz i).toNat)
 case atStart=>exact⟨0,Yr _,rfl,by rw [HN0.o],Yn _ _⟩
 case round=>
  obtain⟨k,hk,rfl,rfl,hbr⟩:=hrel;have hsb:=HN.o k;rw [HLA.o] at hsb;have HS:=E (oY a b k);by_cases hlt:k<N
  .obtain⟨b1,o1,b2,o2,rfl,rfl,ca,cb⟩:=lH HV.o HU.o hbr (k:=k) (by rw [HLA.o];exact hlt) (by rw [HLB.o];exact hlt)
   obtain⟨p1,p2⟩:=HA.o k;obtain⟨p3,p4⟩:=HB.o k;generalize a.getD k 0=p at*;generalize b.getD k 0=q at*;generalize jH a b k=s at*
   go_wp2_with fail
   go_quiet (fail);go_wp2;go_roundw
   case rel=>exact⟨k+1,O,S,int_eq HS.o.symm,by first|exact hbr|exact hbr.drew|exact ag hbr _⟩
   case measure=>simp [Yz];omega
  .have e:N=k:=O
   subst e;clear HS;obtain⟨wo,rfl⟩:∃wo:V,wo=wr:=⟨_,rfl⟩;have g0:=hbr;clear hbr;generalize hs:jH a b N=s at*
   go_wp2_with (at_make;refine fS rfl _ _ rfl NN rfl rfl rfl rfl O ?_)
   intro w1 hown hb1 hlt1;have g1:X w.heap.size w w1:=ext g0 hb1;have HO:=E (show aa w1 wo.heap.size (U (K ⟨wo.heap.size,0,I⟩) NN NN) (cZ (cC 2 a b c) (YA NN 0) 0) from by rw [iH];simpa using hown);have s0:=g0.size;clear hown hb1 hs;go_wp2
   go_loopw [41] (λi wr=>∃j:Nat,j<=NN/\i=A G j/\aa wr wo.heap.size (U (K ⟨wo.heap.size,0,I⟩) NN NN) (cZ (cC 2 a b c) (YA NN 0) j)/\X w.heap.size w wr) (λi _=>NN - (Yz i).toNat)
   case atStart=>exact⟨0,Yr _,rfl,HO.o,g1⟩
   case round=>
    clear HO g1;obtain⟨j,hj,rfl,hown,hbr⟩:=hrel;have HO2:=E hown;clear hown;by_cases hlj:j<NN
    .have hjn:j<N*N:=by rw [HNN.o];exact hlj
     have hM:=Nat.mod_lt j (show 0<N by omega);have hD:j / N<N:=Nat.div_lt_of_lt_mul hjn;obtain⟨b1,o1,rfl,ca,lb1⟩:=(HV.o.ext hbr).gQ (j:=j%N) (by rw [HLA.o];exact hM);obtain⟨b2,o2,rfl,cb,lb2⟩:=(HU.o.ext hbr).gQ (j:=j / N) (by rw [HLB.o];exact hD);obtain⟨p1,p2⟩:=HA.o (j%N);obtain⟨p3,p4⟩:=HB.o (j / N);have hpv:=HPV.o j;have hpi:=HPI.o j;obtain⟨M,hMe⟩:∃M,j%N=M:=⟨_,rfl⟩;obtain⟨D,hDe⟩:∃D,j / N=D:=⟨_,rfl⟩
     have qD:(j:Int) / (N:Int)=(D:Nat):=by rw [<-hDe];simp
     have qR:(j:Int)%(N:Int)=(M:Nat):=by rw [<-hMe];simp
     have qDw:Zc G (D:Int)=(D:Nat):=Yx _ O
     have qT:Int.tmod (j:Int) N=(M:Nat):=by rw [<-hMe,Int.tmod_eq_emod_of_nonneg O];simp
     have hn0:¬(N:Int)=0:=O;have hn00:¬N=0:=O
     have qn0:((N:Int)==0)=false:=by simp;omega
     have hn1i:1<=(N:Int):=O;rw [hMe] at ca hM p1 p2;rw [hDe] at cb hD p3 p4;rw [hDe] at hpv;generalize a.getD M 0=p at*;generalize b.getD D 0=q at*;have HPV2:=E hpv;have HPI2:=E hpi;clear hpv hpi hjn hMe
     go_wp2_with fail
     go_quiet (fail)
     rename_i nq
     have j5:X wr.heap.size wr (wr.drewN nq):=ag (Yn _ _) nq;have g5:X w.heap.size w (wr.drewN nq):=ext hbr j5;have HO5:=E (HO2.o.ext j5);generalize hq5:wr.drewN nq=w5 at*;clear hq5 j5 HO2 ca cb;obtain⟨-, -, -,hcell,hfz⟩:=HO5.o.at;have hc0:=hcell j (by rw [df,List.length_replicate];exact hlj);have hf0:=hfz j
     have HS:=E (show aa (w5.setCell ⟨wo.heap.size,j,I⟩ (A G (q))) wo.heap.size (U (K ⟨wo.heap.size,0,I⟩) NN NN) (cZ (cC 2 a b c) (YA NN 0) (j+1)) from by
      rw [<-iG (by rw [List.length_replicate];exact hlj),HPV2.o];exact HO5.o.xo j _ (by have:=HPI2.o;rw [HPV2.o] at this;unfold bh;omega))
     generalize (cZ (cC 2 a b c) (YA NN 0) j).getD j 0=z at*;clear hcell hfz hDe;go_wp2;go_roundw
     case rel=>exact⟨j+1,O,S,HS.o,g5.setCell (by show w.heap.size<=wo.heap.size;exact s0) _⟩
     case measure=>simp [Yz];omega
    .have e:j=NN:=O
     have HE:=E (show aa wr wo.heap.size (U (K ⟨wo.heap.size,0,I⟩) NN NN) (bQ (cC 2 a b c) NN) from by rw [e,kO Y] at HO2;exact HO2.o);clear e HO2;go_wp2;go_returns;exact⟨_,rfl,HE.o.mono s0,hbr⟩
theorem T_(tv lv:Z)(a b:List Int)(c:Int)(w:V)(hv:aY w tv a)(hu:aY w lv b)(he:dh a b c=0):
  d prog 337 #[A G 3,tv,lv,A G c] w λe w'=>∃v',e= .returned v'/\aa w' w.heap.size v' (jJ 3 a b c)/\X w.heap.size w w':=by
 obtain⟨hn,hab,ha,hb,hc1,hc2⟩:=gy he;have HPI:=E (λk=>pj (m:=3) he k);have HA:=E (λi=>aQ ha (show(0:Int)<=0 by omega) (show(0:Int)<=255 by omega) i);have HB:=E (λi=>aQ hb (show(0:Int)<=0 by omega) (show(0:Int)<=255 by omega) i);have HN:=E (λk=>rp ha hb k);have HM:=E (show pE a b=jH a b a.length / (2*a.length) from rfl);have HMB:=E (mw hn ha hb);have HV:=E hv;have HU:=E hu;obtain⟨ao,cap,rfl⟩:=hv.shape;obtain⟨bo,cap2,rfl⟩:=hu.shape;have HLB:=E hab;have hp:jJ 3 a b c=bQ (cC 3 a b c) (a.length*a.length):=rfl;rw [hp];have HPV:=E (λk=>@Rn a b c k);have HN0:=E (oZ a b);obtain⟨N,hN⟩:∃N,a.length=N:=⟨_,rfl⟩;have HLA:=E hN;have hn8:N<=8:=O;have hn4:4<=N:=O;rw [hN] at HM HV HLB HN0⊢;rw [hN] at HPV;rw [HLB.o] at HU⊢;clear hv hu ha hb hn hab he hp hN;obtain⟨NN,hNN⟩:∃NN,N*N=NN:=⟨_,rfl⟩
 have hNN2:NN<=64:=by rw [<-hNN];exact Nat.mul_le_mul hn8 hn8
 have qm:Zc G ((N:Int)*N)=(NN:Nat):=jt (by rw [<-hNN];simp) O;rw [hNN];have HNN:=E hNN;clear hNN;go_enter func337,ntmps337;go_wp2
 go_loopw [10,20] (λs i wr=>∃k:Nat,k<=N/\i=A G k/\s=A G (jH a b k)/\X w.heap.size w wr) (λ_ i _=>N - (Yz i).toNat)
 case atStart=>exact⟨0,Yr _,rfl,by rw [HN0.o],Yn _ _⟩
 case round=>
  obtain⟨k,hk,rfl,rfl,hbr⟩:=hrel;have hsb:=HN.o k;rw [HLA.o] at hsb;have HS:=E (oY a b k);by_cases hlt:k<N
  .obtain⟨b1,o1,b2,o2,rfl,rfl,ca,cb⟩:=lH HV.o HU.o hbr (k:=k) (by rw [HLA.o];exact hlt) (by rw [HLB.o];exact hlt)
   obtain⟨p1,p2⟩:=HA.o k;obtain⟨p3,p4⟩:=HB.o k;generalize a.getD k 0=p at*;generalize b.getD k 0=q at*;generalize jH a b k=s at*
   go_wp2_with fail
   go_quiet (fail);go_wp2;go_roundw
   case rel=>exact⟨k+1,O,S,int_eq HS.o.symm,by first|exact hbr|exact hbr.drew|exact ag hbr _⟩
   case measure=>simp [Yz];omega
  .have e:N=k:=O
   subst e;clear HS;obtain⟨wo,rfl⟩:∃wo:V,wo=wr:=⟨_,rfl⟩;have g0:=hbr;clear hbr;generalize hs:jH a b N=s at*
   go_wp2_with (at_make;refine fS rfl _ _ rfl NN rfl rfl rfl rfl O ?_)
   intro w1 hown hb1 hlt1;have g1:X w.heap.size w w1:=ext g0 hb1;have HO:=E (show aa w1 wo.heap.size (U (K ⟨wo.heap.size,0,I⟩) NN NN) (cZ (cC 3 a b c) (YA NN 0) 0) from by rw [iH];simpa using hown);have s0:=g0.size;clear hown hb1 hs;go_wp2
   go_loopw [41] (λi wr=>∃j:Nat,j<=NN/\i=A G j/\aa wr wo.heap.size (U (K ⟨wo.heap.size,0,I⟩) NN NN) (cZ (cC 3 a b c) (YA NN 0) j)/\X w.heap.size w wr) (λi _=>NN - (Yz i).toNat)
   case atStart=>exact⟨0,Yr _,rfl,HO.o,g1⟩
   case round=>
    clear HO g1;obtain⟨j,hj,rfl,hown,hbr⟩:=hrel;have HO2:=E hown;clear hown;by_cases hlj:j<NN
    .have hjn:j<N*N:=by rw [HNN.o];exact hlj
     have hM:=Nat.mod_lt j (show 0<N by omega);have hD:j / N<N:=Nat.div_lt_of_lt_mul hjn;obtain⟨b1,o1,rfl,ca,lb1⟩:=(HV.o.ext hbr).gQ (j:=j%N) (by rw [HLA.o];exact hM);obtain⟨b2,o2,rfl,cb,lb2⟩:=(HU.o.ext hbr).gQ (j:=j / N) (by rw [HLB.o];exact hD);obtain⟨p1,p2⟩:=HA.o (j%N);obtain⟨p3,p4⟩:=HB.o (j / N);have hpv:=HPV.o j;have hpi:=HPI.o j;obtain⟨M,hMe⟩:∃M,j%N=M:=⟨_,rfl⟩;obtain⟨D,hDe⟩:∃D,j / N=D:=⟨_,rfl⟩
     have qD:(j:Int) / (N:Int)=(D:Nat):=by rw [<-hDe];simp
     have qR:(j:Int)%(N:Int)=(M:Nat):=by rw [<-hMe];simp
     have qDw:Zc G (D:Int)=(D:Nat):=Yx _ O
     have qT:Int.tmod (j:Int) N=(M:Nat):=by rw [<-hMe,Int.tmod_eq_emod_of_nonneg O];simp
     have hn0:¬(N:Int)=0:=O;have hn00:¬N=0:=O
     have qn0:((N:Int)==0)=false:=by simp;omega
     have hn1i:1<=(N:Int):=O;rw [hMe] at ca hM p1 p2;rw [hDe] at cb hD p3 p4;rw [hMe,hDe] at hpv;generalize a.getD M 0=p at*;generalize b.getD D 0=q at*;have HPV2:=E hpv;have HPI2:=E hpi;clear hpv hpi hjn hMe
     go_wp2_with fail
     go_quiet (fail)
     rename_i nq
     have j5:X wr.heap.size wr (wr.drewN nq):=ag (Yn _ _) nq;have g5:X w.heap.size w (wr.drewN nq):=ext hbr j5;have HO5:=E (HO2.o.ext j5);generalize hq5:wr.drewN nq=w5 at*;clear hq5 j5 HO2 ca cb;obtain⟨-, -, -,hcell,hfz⟩:=HO5.o.at;have hc0:=hcell j (by rw [df,List.length_replicate];exact hlj);have hf0:=hfz j
     have HS:=E (show aa (w5.setCell ⟨wo.heap.size,j,I⟩ (A G (eF (q+p - c)))) wo.heap.size (U (K ⟨wo.heap.size,0,I⟩) NN NN) (cZ (cC 3 a b c) (YA NN 0) (j+1)) from by
      rw [<-iG (by rw [List.length_replicate];exact hlj),HPV2.o];exact HO5.o.xo j _ (by have:=HPI2.o;rw [HPV2.o] at this;unfold bh;omega))
     generalize (cZ (cC 3 a b c) (YA NN 0) j).getD j 0=z at*;clear hcell hfz hDe
     go_wp2_with fail
     refine(pd _ _).mono ?_;rintro e w6 ⟨rfl,rfl⟩;go_wp2;go_roundw
     case rel=>exact⟨j+1,O,S,HS.o,g5.setCell (by show w.heap.size<=wo.heap.size;exact s0) _⟩
     case measure=>simp [Yz];omega
    .have e:j=NN:=O
     have HE:=E (show aa wr wo.heap.size (U (K ⟨wo.heap.size,0,I⟩) NN NN) (bQ (cC 3 a b c) NN) from by rw [e,kO Y] at HO2;exact HO2.o);clear e HO2;go_wp2;go_returns;exact⟨_,rfl,HE.o.mono s0,hbr⟩
def mB(f:Int)(a b:List Int)(c:Int):List Int:=Ec (pI f a b c) (jJ f a b c)
theorem AY(b:Int)(i h:Z)(c f:List Int)(g:Int)(a:V)(l:aY a i c)(k:aY a h f)(j:dh c f g=0)(p:0<=b/\b<=3):
  d prog 337 #[A G b,i,h,A G g] a λo n=>∃m,o=e m/\aa n a m (jJ b c f g)/\X a a n:=by
 rcases(O:b=0∨b=1∨b=2∨b=3) with rfl|rfl|rfl|rfl
 .exact TW i h c f g a l k j
 .exact TY i h c f g a l k j
 .exact TZ i h c f g a l k j
 .exact T_ i h c f g a l k j
theorem ry(j:Int)(p n:Z)(b c:List Int)(f:Int)(a:V)(i:aY a p b)(h:aY a n c):
  d prog 320 #[A G j,p,n,A G f] a λm x=>∃w,m=e (Ye #[w,bj (pI j b c f)])/\aa x a w (mB j b c f)/\X a a x:=by
 unfold mB;have s:=E i;have r:=E h;by_cases F:j<0
 .have g:pI j b c f=13:=by unfold pI;rw [if_pos (Yg F)]
  rw [zy (by rw [g];decide),g];clear g i h;go_enter func320,ntmps320;go_wp2;go_returns;exact⟨_,rfl,aa.nil _ _,N⟩
 .by_cases R:4<=j
  .have g:pI j b c f=13:=by unfold pI;rw [if_pos (Yh O)]
   rw [zy (by rw [g];decide),g];clear g i h;go_enter func320,ntmps320;go_wp2;go_returns;exact⟨_,rfl,aa.nil _ _,N⟩
  .have g:pI j b c f=dh b c f:=by unfold pI;rw [if_neg O]
   rw [g];have q:=E (λa i h=>xH p n b c f a i h);by_cases k:dh b c f=0
   .have y:=E (λa i h=>AY j p n b c f a i h k O)
    rw [Cl k,k];rw [k] at q;clear k g i h;go_enter func320,ntmps320
    go_wp2_with fail
    refine(q.o _ (s.o.ext N) (r.o.ext N)).mono ?_;rintro m u ⟨rfl,t⟩;have l:X a a u:=ext N t
    go_wp2_with fail
    refine(y.o _ (s.o.ext l) (r.o.ext l)).mono ?_;rintro m L ⟨T,rfl,v,D⟩;have C:X a a L:=ext l D;have J:=l.size;have z:=E v;clear v;go_wp2;go_returns;exact⟨_,rfl,z.o.mono J,C⟩
   .have P:(dh b c f==0)=false:=by simpa using k
    rw [zy k];clear k g i h;generalize dh b c f=W at*;go_enter func320,ntmps320
    go_wp2_with fail
    refine(q.o _ (s.o.ext N) (r.o.ext N)).mono ?_;rintro m u ⟨rfl,t⟩;have l:X a a u:=ext N t;go_wp2;go_returns;exact⟨_,rfl,aa.nil _ _,l⟩
def iD(f a b:List Int)(c:Int):Int:=if dh a b c=0 then (if f.length=a.length*a.length then (if ax f 0 255 then 0 else 3) else 14) else dh a b c
def nW(g a b:List Int)(c:Int)(f:Nat):Int:=nk g (jJ f a b c)
theorem uF{f b g:List Int}{h:Int}(a:iD f b g h=0):dh b g h=0/\f.length=b.length*b.length/\ax f 0 255=true:=by
 unfold iD at a;split at a
 .rename_i c
  split at a
  .rename_i i
   split at a
   .rename_i j;exact⟨c,i,j⟩
   .omega
  .omega
 .rename_i c;exact absurd a c
theorem MQ{b a c:List Int}{f:Int}(g:dh a c f=0)(h:b.length=a.length*a.length)(i:ax b 0 255=true):iD b a c f=0:=by
 unfold iD;rw [if_pos g,if_pos h,if_pos i]
theorem Ir{a b:List Int}{c:Int}(f:dh a b c=0):a.length*a.length<=64:=by
 have:=(gy f).1;exact Nat.mul_le_mul (O:a.length<=8) (O:a.length<=8)
theorem JE{f a b:List Int}{c:Int}(g:iD f a b c=0)(k:Int):dR f (jJ k a b c)=0:=by
 obtain⟨h,i,j⟩:=uF g;exact MS (by rw [zu,i]) (lL j O O) (lL (tp h) O O)
theorem Qo{g b c:List Int}{a:Int}(i:iD g b c a=0)(f:Nat):0<=nW g b c a f/\nW g b c a f<=40000:=by
 obtain⟨h,k,j⟩:=uF i;have:=Tg (m:=255) O (lL j (c:= -255) (d:=255) O O) (lL (tp (mode:=f) h) (c:= -255) (d:=255) O O);have:=Ir h;unfold nW;omega
theorem Li(x T R:Z)(c b h:List Int)(f:Int)(a:V)(n:aY a x c)(j:aY a T b)(l:aY a R h):
  d prog 319 #[x,T,R,A G f] a λm a9=>m=e (Ye #[A G (MB (iD c b h f) (eZ (nW c b h f) 4).1),A G (MB (iD c b h f) (eZ (nW c b h f) 4).2),bj (iD c b h f)])/\X a a a9:=by
 have a0:=E n;have C:=E j;have z:=E l;have y:=E (λa j l=>xH T R b h f a j l);have F:=E (λa n=>kj x c a n);have g5:=n.len;have g4:=j.len;by_cases i:dh b h f=0
 .have a6:=Ir i
  have g7:b.length<=8:=by have:=(gy i).1;omega
  rw [i] at y;by_cases t:c.length=b.length*b.length
  .cases hs:ax c 0 255 with
   |true=>
    have k:=MQ i t hs;rw [k,kN rfl,kN rfl];rw [hs] at F;have c3:=E (λ(v:Nat) (g6:v<4) a j l=>AY v T R b h f a j l i O)
    have b0:=E (show∀(v:Nat) (W:Z) (a:V),aY a x c->aY a W (jJ v b h f)->d prog 230 #[x,W] a λm a9=>m=e (Ye #[A G (nW c b h f v),Ya])/\X a a a9 from λv W a e0 e1=>by
     have:=De x W c (jJ v b h f) a e0 e1 O;rw [JE k,kN rfl] at this
     exact this)
    have a3:=λg=>Qo k g
    obtain⟨p,b7⟩:∃p,nW c b h f=p:=⟨_,rfl⟩;rw [b7] at b0 a3⊢;have g3:=E a3;obtain⟨c0,b9,rfl⟩:=n.shape;obtain⟨b2,cap,rfl⟩:=j.shape;obtain⟨b3,b4,rfl⟩:=l.shape;have c2:Zc G ((b.length:Int)*b.length)=(c.length:Nat):=jt (by rw [t];simp) O;have c1:((c.length:Int) !=(c.length:Int))=false:=Y;clear k hs i t a3 b7 n j l a6;go_enter func319,ntmps319
    go_wp2_with fail
    refine(y.o _ (C.o.ext N) (z.o.ext N)).mono ?_;rintro m w ⟨rfl,u⟩;have r:X a a w:=ext N u
    go_wp2_with fail
    refine(F.o _ (a0.o.ext r)).mono ?_;rintro m g0 ⟨rfl,rfl⟩;go_wp2
    go_loopw [12,13,40] (λe7 D a8 wr=>∃g:Nat,g<=4/\a8=A G g/\e7=A G (eZ p g).1/\D=A G (eZ p g).2/\X a a wr) (λ_ _ a8 _=>4 - (Yz a8).toNat)
    case atStart=>exact⟨0,Yr _,rfl,rfl,rfl,r⟩
    case round=>
     obtain⟨g,e4,rfl,rfl,rfl,L⟩:=hrel;by_cases e5:g<4
     .have q:decide ((g:Int)<4)=true:=by simp;omega
      have a7:=Ep (c:=p) (k:=g);have a5:=JC (c:=p) (k:=g);generalize P:eZ p g=a1 at*;obtain⟨e6,D⟩:=a1;dsimp only at a7 a5⊢;have b1:=E a7;have c8:=E a5;have c4:=E (c3.o g e5);have c5:=E (b0.o g);generalize p g=c9 at*;clear a7 a5 P
      go_wp2_with fail
      refine(c4.o _ (C.o.ext L) (z.o.ext L)).mono ?_;rintro m g1 ⟨g8,rfl,b8,e2⟩;have b5:X a a g1:=ext L e2;have c7:=E b8.ints;clear b8
      go_wp2_with fail
      refine(c5.o _ _ (a0.o.ext b5) c7.o).mono ?_;rintro m g2 ⟨rfl,e3⟩;have a2:X a a g2:=ext b5 e3;by_cases e8:D<0
      .have s:=E (b1.o (Yg e8))
       go_wp2;go_roundw
       case rel=>exact⟨g+1,O,S,by rw [s.o],by rw [s.o],a2⟩
       case measure=>simp [Yz];omega
      .by_cases e9:c9<D
       .have s:=E (b1.o (Yh e9))
        go_wp2;go_roundw
        case rel=>exact⟨g+1,O,S,by rw [s.o],by rw [s.o],a2⟩
        case measure=>simp [Yz];omega
       .have s:=E (c8.o O)
        go_wp2;go_roundw
        case rel=>exact⟨g+1,O,S,by rw [s.o],by rw [s.o],a2⟩
        case measure=>simp [Yz];omega
     .obtain rfl:g=4:=O
      generalize P:eZ p 4=a1;obtain⟨e6,D⟩:=a1;have c6:=E P;clear P;go_wp2;go_returns;exact⟨by rw [c6.o]<;>rfl,L⟩
   |false=>
    have k:iD c b h f=3:=by unfold iD;rw [if_pos i,if_pos t,hs];rfl
    rw [k,oy H,oy H];rw [hs] at F;obtain⟨c0,b9,rfl⟩:=n.shape;obtain⟨b2,cap,rfl⟩:=j.shape;obtain⟨b3,b4,rfl⟩:=l.shape;have c2:Zc G ((b.length:Int)*b.length)=(c.length:Nat):=jt (by rw [t];simp) O;have c1:((c.length:Int) !=(c.length:Int))=false:=Y;clear k hs i t n j l a6;go_enter func319,ntmps319
    go_wp2_with fail
    refine(y.o _ (C.o.ext N) (z.o.ext N)).mono ?_;rintro m w ⟨rfl,u⟩;have r:X a a w:=ext N u
    go_wp2_with fail
    refine(F.o _ (a0.o.ext r)).mono ?_;rintro m g0 ⟨rfl,rfl⟩;go_wp2;go_returns;exact⟨rfl,r⟩
  .have k:iD c b h f=14:=by unfold iD;rw [if_pos i,if_neg t]
   rw [k,oy H,oy H];obtain⟨c0,b9,rfl⟩:=n.shape;obtain⟨b2,cap,rfl⟩:=j.shape;obtain⟨b3,b4,rfl⟩:=l.shape;obtain⟨J,b6⟩:∃J,b.length*b.length=J:=⟨_,rfl⟩;have c2:Zc G ((b.length:Int)*b.length)=(J:Nat):=jt (by rw [<-b6];simp) O
   have c1:((c.length:Int) !=(J:Int))=true:=by simp;omega
   clear k i t n j l a6 b6;go_enter func319,ntmps319
   go_wp2_with fail
   refine(y.o _ (C.o.ext N) (z.o.ext N)).mono ?_;rintro m w ⟨rfl,u⟩;have r:X a a w:=ext N u;go_wp2;go_returns;exact⟨rfl,r⟩
 .have e4:(dh b h f==0)=false:=by simpa using i
  have k:iD c b h f=dh b h f:=by unfold iD;rw [if_neg i]
  rw [k,oy i,oy i];clear i k n j l;generalize dh b h f=g9 at*;go_enter func319,ntmps319
  go_wp2_with fail
  refine(y.o _ (C.o.ext N) (z.o.ext N)).mono ?_;rintro m w ⟨rfl,u⟩;have r:X a a w:=ext N u;go_wp2;go_returns;exact⟨rfl,r⟩
def iq(c:Int)(f:List Int)(a b:Int):Int:=if a<0∨b<0 then 128 else f.getD (b*c+a).toNat 0
def jQ(a:Int)(c:List Int)(f g:Int)(b:Nat):Int:=iq a c (f+b) (g - 1)
def gE(a:Int)(c:List Int)(f g:Int)(b:Nat):Int:=iq a c (f - 1) (g+b)
def Ng(c b:Int)(f:List Int)(g h a:Int):Bool:=gH c b f&&(decide (a=4∨a=8)&&Fp c b g h a)
def fC(a h:Int)(c:List Int)(f g b:Int):List Int:=if Ng a h c f g b then bQ (jQ a c f g) b.toNat else []
def dt(a h:Int)(c:List Int)(f g b:Int):List Int:=if Ng a h c f g b then bQ (gE a c f g) b.toNat else []
def fB(a g:Int)(b:List Int)(c f h:Int):Int:=if Ng a g b c f h then iq a b (c - 1) (f - 1) else 0
theorem DA{a g:Int}{b:List Int}(h:nM a g b)(c f:Int):0<=iq a b c f/\iq a b c f<=255:=by
 unfold iq;split
 .omega
 .exact aQ h.pix O O _
theorem Iy{g f b c a:Int}:Fp g f b c a=true↔0<=b/\0<=c/\b<=g - a/\c<=f - a:=by
 unfold Fp;simp only [YV,decide_eq_true_eq]
theorem yr(c g:Int)(f:List Int)(q:Option Yi)(cap:Nat)(a b:Int)(r:Nat)(l:V)(k:ai l r #[A G c,A G g,U q f.length cap] 81)(m:aY l (U q f.length cap) f)(i:nM c g f)(n: -1<=a/\a<c)(p: -1<=b/\b<g):
  d prog 335 #[A G a,A G b,Q (K r)] l λv x=>v=e (A G (iq c f a b))/\X l l x:=by
 obtain⟨a3,a5⟩:=n;obtain⟨a6,a7⟩:=p;obtain⟨z,C,D, -, -, -⟩:=k.three;have W:=k.lt;by_cases n:a<0
 .rw [show iq c f a b=128 from by unfold iq;rw [if_pos (Yg n)]]
  clear m i k;go_enter func335,ntmps335;go_wp2;go_returns;exact⟨rfl,N⟩
 .by_cases p:b<0
  .rw [show iq c f a b=128 from by unfold iq;rw [if_pos (Yh p)]]
   clear m i k;go_enter func335,ntmps335;go_wp2;go_returns;exact⟨rfl,N⟩
  .have t:8<=c/\c<=32:=by have:=i.w;omega
   have s:8<=g/\g<=32:=by have:=i.h;omega
   obtain⟨t,J⟩:=t;obtain⟨s,F⟩:=s;have u:=lP i a b;rw [show aJ b g=b from by unfold aJ;omega,show aJ a c=a from by unfold aJ;omega] at u;rw [show iq c f a b=f.getD (b*c+a).toNat 0 from by unfold iq;rw [if_neg O]];obtain⟨y,o,rfl,a1,a0⟩:=m.gQ (j:=(b*c+a).toNat) O;obtain⟨L,P,R,T⟩:=u;generalize w:f.getD (b*c+a).toNat 0=a2 at*;clear w m i k;go_enter func335,ntmps335;go_wp2;go_returns;exact⟨rfl,N⟩
theorem Lj(P:Z)(c b:Int)(i:List Int)(s t h:Int)(a:V)(l:aO a P c b i)(p:Ng c b i s t h=false):
  d prog 318 #[P,A G s,A G t,A G h] a λk W=>k=e (Ye #[U I 0 0,U I 0 0,A G 0])/\X a a W:=by
 have n:=E l;obtain⟨u,cap,rfl,T⟩:=l.cells;have J:=E (ai.new a #[A G c,A G b,U u i.length cap] 81)
 have j:=λa l=>cR (Yc #[A G c,A G b,U u i.length cap]) c b i a l
 clear l T
 cases hm:gH c b i with
 |false=>
  rw [hm] at j;have q:=E j;clear j p hm;go_enter func318,ntmps318
  go_wp2_with fail
  refine(q.o _ (n.o.ext N)).mono ?_;rintro k m ⟨rfl,g⟩;have f:X a a m:=ext N g;go_wp2;go_returns;exact⟨rfl,f⟩
 |true=>
  rw [hm] at j;have q:=E j;have r:=dw.1 hm;by_cases D:h=4∨h=8
  .have R:Fp c b s t h=false:=by unfold Ng at p;rw [hm,decide_eq_true D] at p;simpa using p
   have y:=λa l=>zD (Yc #[A G c,A G b,U u i.length cap]) c b i s t h a l (by have:=r.w;omega) (by have:=r.h;omega) O
   rw [R] at y;have L:=E y;clear j y p hm R r
   rcases D with rfl|rfl
   .go_enter func318,ntmps318
    go_wp2_with fail
    refine(q.o _ (n.o.ext N)).mono ?_;rintro k m ⟨rfl,g⟩;have f:X a a m:=ext N g;obtain⟨v,w,x, -, -, -⟩:=(J.o.ext g).three
    go_wp2_with fail
    clear v w x;refine(L.o _ ((n.o.ext f).ext N)).mono ?_;rintro k F ⟨rfl,C⟩;have z:X a a F:=ext f C;go_wp2;go_returns;exact⟨rfl,z⟩
   .go_enter func318,ntmps318
    go_wp2_with fail
    refine(q.o _ (n.o.ext N)).mono ?_;rintro k m ⟨rfl,g⟩;have f:X a a m:=ext N g;obtain⟨v,w,x, -, -, -⟩:=(J.o.ext g).three
    go_wp2_with fail
    clear v w x;refine(L.o _ ((n.o.ext f).ext N)).mono ?_;rintro k F ⟨rfl,C⟩;have z:X a a F:=ext f C;go_wp2;go_returns;exact⟨rfl,z⟩
  .have a0:(h !=4)=true:=by simp;omega
   have a1:(h !=8)=true:=by simp;omega
   clear j p hm r D;go_enter func318,ntmps318
   go_wp2_with fail
   refine(q.o _ (n.o.ext N)).mono ?_;rintro k m ⟨rfl,g⟩;have f:X a a m:=ext N g;go_wp2;go_returns;exact⟨rfl,f⟩
theorem Gd(c0:Z)(f i:Int)(g:List Int)(a b:Int)(c:V)(m:aO c c0 f i g)(a2:Ng f i g a b 4=true):
  d prog 318 #[c0,A G a,A G b,A G 4] c λj s=>∃x y,j=e (Ye #[x,y,A G (iq f g (a - 1) (b - 1))])/\aa s c x (bQ (jQ f g a b) 4)/\aa s c y (bQ (gE f g a b) 4)/\X c c s:=by
 have b9:=E m;obtain⟨k,cap,rfl,c9⟩:=m.cells;have L:=E c9;have b4:=E (ai.new c #[A G f,A G i,U k g.length cap] 81);unfold Ng at a2;simp only [YV] at a2;obtain⟨b0, -,a9⟩:=a2;have l:=dw.1 b0
 have W:=λc m=>cR (Yc #[A G f,A G i,U k g.length cap]) f i g c m
 have T:=λc m=>zD (Yc #[A G f,A G i,U k g.length cap]) f i g a b 4 c m (by have:=l.w;omega) (by have:=l.h;omega) O
 rw [b0] at W;rw [a9] at T;have e5:=E W;have e4:=E T;obtain⟨i5,i6,i7,i9⟩:=Iy.1 a9
 have i2:f<=32:=by have:=l.w;omega
 have i1:i<=32:=by have:=l.h;omega
 have J:=E (show∀(a b:Int) (n:V),ai n c #[A G f,A G i,U k g.length cap] 81->aY n (U k g.length cap) g->(-1<=a/\a<f)->(-1<=b/\b<i)->d prog 335 #[A G a,A G b,Q (K c)] n λj s=>j=e (A G (iq f g a b))/\X n n s from λa b n h0 h1 h2 h3=>yr f i g k cap a b _ n h0 h1 l h2 h3);have b7:=E (λa b=>DA l a b);have j4:((4:Int) !=4)=false:=H;clear W T b0 a9 l m c9;go_enter func318,ntmps318
 go_wp2_with fail
 refine(e5.o _ (b9.o.ext N)).mono ?_;rintro j h8 ⟨rfl,a5⟩;have a0:X c c h8:=ext N a5;have C:=E (b4.o.ext a5);obtain⟨g5,g6,g7, -, -, -⟩:=C.o.three
 go_wp2_with fail
 clear g5 g6 g7;refine(e4.o _ ((b9.o.ext a0).ext N)).mono ?_;rintro j h9 ⟨rfl,a6⟩;have c1:X c c h9:=ext a0 a6;have b3:=E (C.o.ext a6);clear b4 C a5 a6 a0;go_wp2
 go_loopw [12,13,36] (λx y b1 wr=>∃h:Nat,h<=4/\b1=A G h/\yP wr (c.heap.size+1) x (bQ (jQ f g a b) h) y (bQ (gE f g a b) h)/\X c c wr/\ai wr c #[A G f,A G i,U k g.length cap] 81) (λ_ _ b1 _=>4 - (Yz b1).toNat)
 case atStart=>exact⟨0,Yr _,rfl,yP.nil _ _,c1,b3.o⟩
 case round=>
  clear b3 c1;obtain⟨h,i3,rfl,e0,w,a3⟩:=hrel;have t:=E a3;have P:=E e0;have j3:=a3.lt;clear a3 e0;by_cases i4:h<4
  .have q:decide ((h:Int)<4)=true:=by simp;omega
   have e8:=E (gG (jQ f g a b) h);have e9:=E (gG (gE f g a b) h);have g3:=E (show(bQ (jQ f g a b) h).length<=1099511627776 from by rw [bO];omega);have g4:=E (show(bQ (gE f g a b) h).length<=1099511627776 from by rw [bO];omega);have g0:=E (show jQ f g a b h=iq f g (a+h) (b - 1) from rfl);have g1:=E (show gE f g a b h=iq f g (a - 1) (b+h) from rfl);have b5:=E (b7.o (a+h) (b - 1));have b6:=E (b7.o (a - 1) (b+h))
   go_wp2_with fail
   refine(J.o (a+h) (b - 1) _ t.o (L.o.ext w) O O).mono ?_;rintro j z ⟨rfl,r⟩;rw [<-g0.o] at b5⊢;have e6:=E (show bh (jQ f g a b h) from by have:=b5.o;unfold bh;omega);generalize jQ f g a b h=h4 at*;have b2:X wr wr z:=r;have a1:X c c z:=ext w b2;have D:=E (t.o.ext b2);have p:=E (P.o.ext b2);have j0:=D.o.lt;clear P t r
   go_wp2_with (at_builtin;refine kn rfl (.tmp 39) (.tmp 47) rfl (c.heap.size+1) _ _ h4 rfl p.o.one rfl Y e6.o g3.o O ?_)
   intro h6 e1 c7 a7 c5 c3;have b8:=E (show yP e1 (c.heap.size+1) h6 (bQ (jQ f g a b) (h+1)) _ _ from by rw [e8.o];exact p.o.app c7 c5 c3);have u:=E (D.o.below a7 O);have c2:X c c e1:=a1.trans (a7.mono O);have j1:=u.o.lt;clear c7 a7 c5 c3 p D
   go_wp2_with fail
   refine(J.o (a - 1) (b+h) _ u.o (L.o.ext c2) O O).mono ?_;rintro j i0 ⟨rfl,v⟩;rw [<-g1.o] at b6⊢;have e7:=E (show bh (gE f g a b h) from by have:=b6.o;unfold bh;omega);generalize gE f g a b h=h5 at*;have g8:X c c i0:=ext c2 v;have F:=E (u.o.ext v);have R:=E (b8.o.ext v).swap;have j2:=F.o.lt;clear b8 u v
   go_wp2_with (at_builtin;refine kn rfl (.tmp 49) (.tmp 57) rfl (c.heap.size+1) _ _ h5 rfl R.o.one rfl Y e7.o g4.o O ?_)
   intro h7 e2 c8 a8 c6 c4;have g2:=E (show yP e2 (c.heap.size+1) h7 (bQ (gE f g a b) (h+1)) _ _ from by rw [e9.o];exact R.o.app c8 c6 c4);have e3:=E (F.o.below a8 O);have g9:X c c e2:=g8.trans (a8.mono O);clear c8 a8 c6 c4 R F;go_wp2;go_roundw
   case rel=>exact⟨h+1,O,S,g2.o.swap,g9,e3.o⟩
   case measure=>simp [Yz];omega
  .obtain rfl:h=4:=O
   go_wp2_with fail
   refine(J.o (a - 1) (b - 1) _ t.o (L.o.ext w) O O).mono ?_;rintro j z ⟨rfl,r⟩;have a1:X c c z:=ext w r;have p:=E (P.o.ext r);go_wp2;go_returns;exact⟨_,_,rfl,p.o.one.mono O,p.o.two.mono O,a1⟩
theorem Ge(c0:Z)(f i:Int)(g:List Int)(a b:Int)(c:V)(m:aO c c0 f i g)(a2:Ng f i g a b 8=true):
  d prog 318 #[c0,A G a,A G b,A G 8] c λj s=>∃x y,j=e (Ye #[x,y,A G (iq f g (a - 1) (b - 1))])/\aa s c x (bQ (jQ f g a b) 8)/\aa s c y (bQ (gE f g a b) 8)/\X c c s:=by
 have b9:=E m;obtain⟨k,cap,rfl,c9⟩:=m.cells;have L:=E c9;have b4:=E (ai.new c #[A G f,A G i,U k g.length cap] 81);unfold Ng at a2;simp only [YV] at a2;obtain⟨b0, -,a9⟩:=a2;have l:=dw.1 b0
 have W:=λc m=>cR (Yc #[A G f,A G i,U k g.length cap]) f i g c m
 have T:=λc m=>zD (Yc #[A G f,A G i,U k g.length cap]) f i g a b 8 c m (by have:=l.w;omega) (by have:=l.h;omega) O
 rw [b0] at W;rw [a9] at T;have e5:=E W;have e4:=E T;obtain⟨i5,i6,i7,i9⟩:=Iy.1 a9
 have i2:f<=32:=by have:=l.w;omega
 have i1:i<=32:=by have:=l.h;omega
 have J:=E (show∀(a b:Int) (n:V),ai n c #[A G f,A G i,U k g.length cap] 81->aY n (U k g.length cap) g->(-1<=a/\a<f)->(-1<=b/\b<i)->d prog 335 #[A G a,A G b,Q (K c)] n λj s=>j=e (A G (iq f g a b))/\X n n s from λa b n h0 h1 h2 h3=>yr f i g k cap a b _ n h0 h1 l h2 h3);have b7:=E (λa b=>DA l a b);have j4:((8:Int) !=4)=true:=H;have j5:((8:Int) !=8)=false:=H;clear W T b0 a9 l m c9;go_enter func318,ntmps318
 go_wp2_with fail
 refine(e5.o _ (b9.o.ext N)).mono ?_;rintro j h8 ⟨rfl,a5⟩;have a0:X c c h8:=ext N a5;have C:=E (b4.o.ext a5);obtain⟨g5,g6,g7, -, -, -⟩:=C.o.three
 go_wp2_with fail
 clear g5 g6 g7;refine(e4.o _ ((b9.o.ext a0).ext N)).mono ?_;rintro j h9 ⟨rfl,a6⟩;have c1:X c c h9:=ext a0 a6;have b3:=E (C.o.ext a6);clear b4 C a5 a6 a0;go_wp2
 go_loopw [12,13,36] (λx y b1 wr=>∃h:Nat,h<=8/\b1=A G h/\yP wr (c.heap.size+1) x (bQ (jQ f g a b) h) y (bQ (gE f g a b) h)/\X c c wr/\ai wr c #[A G f,A G i,U k g.length cap] 81) (λ_ _ b1 _=>8 - (Yz b1).toNat)
 case atStart=>exact⟨0,Yr _,rfl,yP.nil _ _,c1,b3.o⟩
 case round=>
  clear b3 c1;obtain⟨h,i3,rfl,e0,w,a3⟩:=hrel;have t:=E a3;have P:=E e0;have j3:=a3.lt;clear a3 e0;by_cases i4:h<8
  .have q:decide ((h:Int)<8)=true:=by simp;omega
   have e8:=E (gG (jQ f g a b) h);have e9:=E (gG (gE f g a b) h);have g3:=E (show(bQ (jQ f g a b) h).length<=1099511627776 from by rw [bO];omega);have g4:=E (show(bQ (gE f g a b) h).length<=1099511627776 from by rw [bO];omega);have g0:=E (show jQ f g a b h=iq f g (a+h) (b - 1) from rfl);have g1:=E (show gE f g a b h=iq f g (a - 1) (b+h) from rfl);have b5:=E (b7.o (a+h) (b - 1));have b6:=E (b7.o (a - 1) (b+h))
   go_wp2_with fail
   refine(J.o (a+h) (b - 1) _ t.o (L.o.ext w) O O).mono ?_;rintro j z ⟨rfl,r⟩;rw [<-g0.o] at b5⊢;have e6:=E (show bh (jQ f g a b h) from by have:=b5.o;unfold bh;omega);generalize jQ f g a b h=h4 at*;have b2:X wr wr z:=r;have a1:X c c z:=ext w b2;have D:=E (t.o.ext b2);have p:=E (P.o.ext b2);have j0:=D.o.lt;clear P t r
   go_wp2_with (at_builtin;refine kn rfl (.tmp 39) (.tmp 47) rfl (c.heap.size+1) _ _ h4 rfl p.o.one rfl Y e6.o g3.o O ?_)
   intro h6 e1 c7 a7 c5 c3;have b8:=E (show yP e1 (c.heap.size+1) h6 (bQ (jQ f g a b) (h+1)) _ _ from by rw [e8.o];exact p.o.app c7 c5 c3);have u:=E (D.o.below a7 O);have c2:X c c e1:=a1.trans (a7.mono O);have j1:=u.o.lt;clear c7 a7 c5 c3 p D
   go_wp2_with fail
   refine(J.o (a - 1) (b+h) _ u.o (L.o.ext c2) O O).mono ?_;rintro j i0 ⟨rfl,v⟩;rw [<-g1.o] at b6⊢;have e7:=E (show bh (gE f g a b h) from by have:=b6.o;unfold bh;omega);generalize gE f g a b h=h5 at*;have g8:X c c i0:=ext c2 v;have F:=E (u.o.ext v);have R:=E (b8.o.ext v).swap;have j2:=F.o.lt;clear b8 u v
   go_wp2_with (at_builtin;refine kn rfl (.tmp 49) (.tmp 57) rfl (c.heap.size+1) _ _ h5 rfl R.o.one rfl Y e7.o g4.o O ?_)
   intro h7 e2 c8 a8 c6 c4;have g2:=E (show yP e2 (c.heap.size+1) h7 (bQ (gE f g a b) (h+1)) _ _ from by rw [e9.o];exact R.o.app c8 c6 c4);have e3:=E (F.o.below a8 O);have g9:X c c e2:=g8.trans (a8.mono O);clear c8 a8 c6 c4 R F;go_wp2;go_roundw
   case rel=>exact⟨h+1,O,S,g2.o.swap,g9,e3.o⟩
   case measure=>simp [Yz];omega
  .obtain rfl:h=8:=O
   go_wp2_with fail
   refine(J.o (a - 1) (b - 1) _ t.o (L.o.ext w) O O).mono ?_;rintro j z ⟨rfl,r⟩;have a1:X c c z:=ext w r;have p:=E (P.o.ext r);go_wp2;go_returns;exact⟨_,_,rfl,p.o.one.mono O,p.o.two.mono O,a1⟩
theorem vZ(k:Z)(c b:Int)(g:List Int)(i j f:Int)(a:V)(l:aO a k c b g):
  d prog 318 #[k,A G i,A G j,A G f] a λn m=>∃o p,n=e (Ye #[o,p,A G (fB c b g i j f)])/\aa m a o (fC c b g i j f)/\aa m a p (dt c b g i j f)/\X a a m:=by
 unfold fB fC dt
 cases h:Ng c b g i j f with
 |false=>
  refine(Lj k c b g i j f a l h).mono ?_;rintro n s ⟨rfl,q⟩;exact⟨_,_,rfl,aa.nil _ _,aa.nil _ _,q⟩
 |true=>
  have r:f=4∨f=8:=by unfold Ng at h;simp only [YV,decide_eq_true_eq] at h;exact h.2.1
  rcases r with rfl|rfl
  .exact Gd k c b g i j a l h
  .exact Ge k c b g i j a l h
theorem Pd{n a b:Nat}(j:a<2*n - 1)(i:n<=8)(h:b<=a+1):(iU n a++iW n a b).length<=1099511627776:=by
 rw [Yq];have c:=zt n a;have f:=q' n a b;have g:a*(a+1)<=16*17:=Nat.mul_le_mul O O;omega
theorem Rh(f:V):
  d prog 343 #[A G 4] f λF s=>∃r,F=e r/\aa s f r (iU 4 7)/\X f f s:=by
 go_enter func343,ntmps343;go_wp2
 go_loopw [3,17] (λo j wr=>∃a:Nat,a<=7/\j=A G a/\aa wr f o (iU 4 a)/\X f f wr) (λ_ j _=>7 - (Yz j).toNat)
 case atStart=>exact⟨0,Yr _,rfl,aa.nil _ _,Yn _ _⟩
 case round=>
  obtain⟨a,a1,rfl,m,i⟩:=hrel;obtain⟨t,rfl⟩:∃t:V,t=wr:=⟨_,rfl⟩;have k:=E m;have C:=i;clear m;by_cases R:a<7
  .have D:=E (show aa t f _ (iU 4 a++iW 4 a 0) from by rw [show iW 4 a 0=[] from rfl,List.append_nil];exact k.o)
   have W:decide ((a:Int)<7)=true:=by simp;omega
   clear k;go_wp2
   go_loopw [3,22] (λo j wr=>∃b:Nat,b<=a+1/\j=A G b/\aa wr f o (iU 4 a++iW 4 a b)/\X f f wr) (λ_ j _=>a+1 - (Yz j).toNat)
   case atStart=>exact⟨0,Yr _,rfl,D.o,C⟩
   case round=>
    obtain⟨b,P,rfl,m,i⟩:=hrel;have h:=E m;have x:=E (Pd (n:=4) R O P);have a2:=i.size;clear m;by_cases a0:b<a+1
    .by_cases q:a%2=0
     .have T:((a:Int)%2==0)=true:=by simp;omega
      have c:Hd (Ac a b=a - b):=by show _=_;unfold Ac;rw [if_pos q]
      clear q;by_cases J:(a:Int) - ((a:Int) - (b:Int))<4
      .by_cases L:(a:Int) - (b:Int)<4
       .have g:=E (pq (n:=4) (s:=a) (k:=b) (by rw [c.o];omega))
        rw [c.o] at g;have u:=E (O:(((a - b)*4+(a - (a - b)):Nat):Int)=((a:Int) - (b:Int))*4+((a:Int) - ((a:Int) - (b:Int))));clear c
        go_wp2_with (at_builtin;refine cJ rfl (.tmp 43) (.tmp 49) rfl f.heap.size _ _ (((a:Int) - (b:Int))*4+((a:Int) - ((a:Int) - (b:Int)))) rfl h.o rfl Y (by unfold bh;omega) x.o O ?_)
        intro r s p w _;have l:=E p;clear p h;go_wp2;go_roundw
        case rel=>exact⟨b+1,O,S,by rw [g.o,u.o];first|exact l.o|(rw [<-List.append_assoc];exact l.o),i.trans w⟩
        case measure=>simp [Yz];omega
       .have g:=E (jL (n:=4) (s:=a) (k:=b) (by rw [c.o];omega))
        clear c;go_wp2;go_roundw
        case rel=>exact⟨b+1,O,S,by rw [g.o];exact h.o,i⟩
        case measure=>simp [Yz];omega
      .have g:=E (jL (n:=4) (s:=a) (k:=b) (by rw [c.o];omega))
       clear c;go_wp2;go_roundw
       case rel=>exact⟨b+1,O,S,by rw [g.o];exact h.o,i⟩
       case measure=>simp [Yz];omega
     .have T:((a:Int)%2==0)=false:=by simp;omega
      have c:Hd (Ac a b=b):=by show _=_;unfold Ac;rw [if_neg q]
      clear q;by_cases J:(a:Int) - (b:Int)<4
      .by_cases L:(b:Int)<4
       .have g:=E (pq (n:=4) (s:=a) (k:=b) (by rw [c.o];omega))
        rw [c.o] at g;have u:=E (O:((b*4+(a - b):Nat):Int)=((b:Int))*4+((a:Int) - (b:Int)));clear c
        go_wp2_with (at_builtin;refine cJ rfl (.tmp 43) (.tmp 49) rfl f.heap.size _ _ (((b:Int))*4+((a:Int) - (b:Int))) rfl h.o rfl Y (by unfold bh;omega) x.o O ?_)
        intro r s p w _;have l:=E p;clear p h;go_wp2;go_roundw
        case rel=>exact⟨b+1,O,S,by rw [g.o,u.o];first|exact l.o|(rw [<-List.append_assoc];exact l.o),i.trans w⟩
        case measure=>simp [Yz];omega
       .have g:=E (jL (n:=4) (s:=a) (k:=b) (by rw [c.o];omega))
        clear c;go_wp2;go_roundw
        case rel=>exact⟨b+1,O,S,by rw [g.o];exact h.o,i⟩
        case measure=>simp [Yz];omega
      .have g:=E (jL (n:=4) (s:=a) (k:=b) (by rw [c.o];omega))
       clear c;go_wp2;go_roundw
       case rel=>exact⟨b+1,O,S,by rw [g.o];exact h.o,i⟩
       case measure=>simp [Yz];omega
    .have y:b=a+1:=O
     have v:=E (show aa wr f _ (iU 4 (a+1)) from by rw [y] at h;exact h.o);clear h y;go_wp2;go_roundw
     case rel=>exact⟨a+1,O,S,v.o,i⟩
     case measure=>simp [Yz];omega
  .have z:a=7:=O
   have v:=E (show aa t f _ (iU 4 7) from by rw [z] at k;exact k.o);clear k z;go_wp2;go_returns;exact⟨_,rfl,v.o,C⟩
theorem Ri(f:V):
  d prog 343 #[A G 8] f λF s=>∃r,F=e r/\aa s f r (iU 8 15)/\X f f s:=by
 go_enter func343,ntmps343;go_wp2
 go_loopw [3,17] (λo j wr=>∃a:Nat,a<=15/\j=A G a/\aa wr f o (iU 8 a)/\X f f wr) (λ_ j _=>15 - (Yz j).toNat)
 case atStart=>exact⟨0,Yr _,rfl,aa.nil _ _,Yn _ _⟩
 case round=>
  obtain⟨a,a1,rfl,m,i⟩:=hrel;obtain⟨t,rfl⟩:∃t:V,t=wr:=⟨_,rfl⟩;have k:=E m;have C:=i;clear m;by_cases R:a<15
  .have D:=E (show aa t f _ (iU 8 a++iW 8 a 0) from by rw [show iW 8 a 0=[] from rfl,List.append_nil];exact k.o)
   have W:decide ((a:Int)<15)=true:=by simp;omega
   clear k;go_wp2
   go_loopw [3,22] (λo j wr=>∃b:Nat,b<=a+1/\j=A G b/\aa wr f o (iU 8 a++iW 8 a b)/\X f f wr) (λ_ j _=>a+1 - (Yz j).toNat)
   case atStart=>exact⟨0,Yr _,rfl,D.o,C⟩
   case round=>
    obtain⟨b,P,rfl,m,i⟩:=hrel;have h:=E m;have x:=E (Pd (n:=8) R O P);have a2:=i.size;clear m;by_cases a0:b<a+1
    .by_cases q:a%2=0
     .have T:((a:Int)%2==0)=true:=by simp;omega
      have c:Hd (Ac a b=a - b):=by show _=_;unfold Ac;rw [if_pos q]
      clear q;by_cases J:(a:Int) - ((a:Int) - (b:Int))<8
      .by_cases L:(a:Int) - (b:Int)<8
       .have g:=E (pq (n:=8) (s:=a) (k:=b) (by rw [c.o];omega))
        rw [c.o] at g;have u:=E (O:(((a - b)*8+(a - (a - b)):Nat):Int)=((a:Int) - (b:Int))*8+((a:Int) - ((a:Int) - (b:Int))));clear c
        go_wp2_with (at_builtin;refine cJ rfl (.tmp 43) (.tmp 49) rfl f.heap.size _ _ (((a:Int) - (b:Int))*8+((a:Int) - ((a:Int) - (b:Int)))) rfl h.o rfl Y (by unfold bh;omega) x.o O ?_)
        intro r s p w _;have l:=E p;clear p h;go_wp2;go_roundw
        case rel=>exact⟨b+1,O,S,by rw [g.o,u.o];first|exact l.o|(rw [<-List.append_assoc];exact l.o),i.trans w⟩
        case measure=>simp [Yz];omega
       .have g:=E (jL (n:=8) (s:=a) (k:=b) (by rw [c.o];omega))
        clear c;go_wp2;go_roundw
        case rel=>exact⟨b+1,O,S,by rw [g.o];exact h.o,i⟩
        case measure=>simp [Yz];omega
      .have g:=E (jL (n:=8) (s:=a) (k:=b) (by rw [c.o];omega))
       clear c;go_wp2;go_roundw
       case rel=>exact⟨b+1,O,S,by rw [g.o];exact h.o,i⟩
       case measure=>simp [Yz];omega
     .have T:((a:Int)%2==0)=false:=by simp;omega
      have c:Hd (Ac a b=b):=by show _=_;unfold Ac;rw [if_neg q]
      clear q;by_cases J:(a:Int) - (b:Int)<8
      .by_cases L:(b:Int)<8
       .have g:=E (pq (n:=8) (s:=a) (k:=b) (by rw [c.o];omega))
        rw [c.o] at g;have u:=E (O:((b*8+(a - b):Nat):Int)=((b:Int))*8+((a:Int) - (b:Int)));clear c
        go_wp2_with (at_builtin;refine cJ rfl (.tmp 43) (.tmp 49) rfl f.heap.size _ _ (((b:Int))*8+((a:Int) - (b:Int))) rfl h.o rfl Y (by unfold bh;omega) x.o O ?_)
        intro r s p w _;have l:=E p;clear p h;go_wp2;go_roundw
        case rel=>exact⟨b+1,O,S,by rw [g.o,u.o];first|exact l.o|(rw [<-List.append_assoc];exact l.o),i.trans w⟩
        case measure=>simp [Yz];omega
       .have g:=E (jL (n:=8) (s:=a) (k:=b) (by rw [c.o];omega))
        clear c;go_wp2;go_roundw
        case rel=>exact⟨b+1,O,S,by rw [g.o];exact h.o,i⟩
        case measure=>simp [Yz];omega
      .have g:=E (jL (n:=8) (s:=a) (k:=b) (by rw [c.o];omega))
       clear c;go_wp2;go_roundw
       case rel=>exact⟨b+1,O,S,by rw [g.o];exact h.o,i⟩
       case measure=>simp [Yz];omega
    .have y:b=a+1:=O
     have v:=E (show aa wr f _ (iU 8 (a+1)) from by rw [y] at h;exact h.o);clear h y;go_wp2;go_roundw
     case rel=>exact⟨a+1,O,S,v.o,i⟩
     case measure=>simp [Yz];omega
  .have z:a=15:=O
   have v:=E (show aa t f _ (iU 8 15) from by rw [z] at k;exact k.o);clear k z;go_wp2;go_returns;exact⟨_,rfl,v.o,C⟩
theorem Gn(a:Int)(b:V):
  d prog 343 #[A G a] b λc i=>∃h,c=e h/\aa i b h (FM a)/\X b b i:=by
 by_cases f:a=4
 .subst f;exact Rh b
 .by_cases g:a=8
  .subst g;exact Ri b
  .have c:FM a=[]:=by unfold FM;rw [if_neg f,if_neg g]
   rw [c]
   have j:(a !=4)=true:=by simpa using f
   have k:(a !=8)=true:=by simpa using g
   clear c f g;go_enter func343,ntmps343;go_wp2;go_returns;exact⟨_,rfl,aa.nil _ _,Yn _ _⟩
end
section
open Go.RowKit Go.ChangeShapes Go.WideShapes Go.Deep
def Rows(h:V)(i:Z)(a:List (List Int)):Prop:=
 ∃(b:Option Yi) (cap:Nat),i=U b a.length cap/\a.length<=cap/\cap<=YO/\(b=I->cap=0)/\
  ∀c,c<a.length->∃f off g,b=K ⟨f,off,I⟩/\h.cell? ⟨f,off+c,I⟩=K g/\aY h g (a.getD c [])
structure nx(w:V)(L:Nat)(p:Nat->Z)(b:List Int)(B i:Nat):Prop where
 ay:ai w L #[p 0,p 1,p 2,p 3] 26
 own:∀q,q<4->aa w B (p q) (ff b q i)
 ne:∀q r,q<4->r<4->q≠r->(p q).ownBlock=I∨(p q).ownBlock≠(p r).ownBlock
theorem aa.kept{f g:V}{b:Nat}{a:Z}{h:List Int}{row:Option Nat}(c:aa f b a h)(i:f.grownBy g row)(j:a.ownBlock=I∨a.ownBlock≠row):aa g b a h:=⟨c.1.kept i j,c.2⟩
theorem nx.cell{c:V}{b:Nat}{p:Nat->Z}{h:List Int}{g j:Nat}(f:nx c b p h g j){a:Nat}(i:a<4):c.cell? ⟨b,a,I⟩=K (p a)/\c.frozen? ⟨b,a,I⟩=false:=by
 refine⟨?_,f.ay.free a⟩;rw [f.ay.cell a]
 match a,i with
 |0,_=>rfl
 |1,_=>rfl
 |2,_=>rfl
 |3,_=>rfl
theorem nx.step{m w':V}{n:Nat}{k:Nat->Z}{o:List Int}{h j a:Nat}{v':Z}(c:nx m n k o h j)(v:n<h)(D:h<=m.heap.size)(y:kq j=a)(i:a<4)
  (z:aa w' h v' (ff o a j++[o.getD j 0]))(t:m.grownBy w' (k a).ownBlock)(b:(k a).ownBlock=v'.ownBlock∨v'.ownBlock=K (m.heap.size+1)):
  nx (w'.setCell ⟨n,a,I⟩ v') n (λq=>if q=a then v' else k q) o h (j+1):=by
 refine⟨?_,λq f=>?_,λq l f w C=>?_⟩
 .have s:=(c.ay.grown t ((c.own a i).RX (Yg v))).set a v'
  match a,i with
  |0,_=>exact s
  |1,_=>exact s
  |2,_=>exact s
  |3,_=>exact s
 .by_cases g:q=a
  .subst g
   simp only [if_pos];rw [xk y];exact z.ab v _
  .simp only [if_neg g]
   rw [zJ O];exact((c.own q f).kept t (c.ne q a f i g)).ab v _
 .have x:∀q,q<4->∀r,(k q).ownBlock=K r->r<m.heap.size:=λq f r t=>((c.own q f).1.lt r t).2
  by_cases g:q=a
  .have p:¬l=a:=O
   simp only [if_pos g,if_neg p]
   rcases b with b|b
   .rw [<-b];exact c.ne a l i w O
   .right;rw [b];intro u;have:=x l w _ u.symm;omega
  .simp only [if_neg g]
   by_cases p:l=a
   .simp only [if_pos p]
    rcases b with b|b
    .rw [<-b];exact c.ne q a f i g
    .right;rw [b];intro u;have:=x q f _ u;omega
   .simp only [if_neg p]
    exact c.ne q l f w C
theorem nx.start(a:V)(b:List Int):nx (a.alloc (M #[U I 0 0,U I 0 0,U I 0 0,U I 0 0] 26)) a (λ_=>U I 0 0) b (a.heap.size+1) 0:=
 ⟨ai.new _ _ _,λ_ _=>aa.nil _ _,λ_ _ _ _ _=>Yg rfl⟩
theorem zZ{v:Array Oper}{w:List Oper}{o:Oper}{j:Act}{s:Exit->Act->V->Prop}{a:V}(D:o.guard=I)(p q:Operand)(P:o.op= .call {callee:= .builtin .append,args:=#[p,q],argTypes:=#[26,26]})
  (i:Nat)(c:Z)(h:List Int)(m:Int)(T:j.eval p=c)(t:aa a i c h){r:Nat}(W:j.eval q=U (K r) 1 1)(y:r=a.heap.size)(a0:Proofs.YtajkpgaheechmaaGreatDoor.bh m)
  (b2:h.length<=1099511627776)(b1:i<=a.heap.size)
  (x:∀l f,aa f i l (h++[m])->a.grownBy f c.ownBlock->(c.ownBlock=l.ownBlock∨l.ownBlock=K (a.heap.size+1))->wpList prog v s w (j.put o.dst l) f):wpList prog v s (o::w) j (a.alloc (M #[A G m] 3)):=by
 subst y;obtain⟨a5,F,a1,a2,a3⟩:=info_parts Bm;refine wpList_append_lies _ D p q 26 P i 3 a5 (A G 0) 1 8 underlying26 F a1 a2 a3 rfl H c h.length (h.map (A G)) T (t.1.alloc _) a 1 1 [A G m] W rfl ?_ ?_ O (by unfold YO;omega) O (by simp;omega) (a.heap.size+1) Y ?_
 .intro a6 a8 k
  match a6,k with
  |0,k=>simp at k;subst k;simp [Addr.add]
 .intro a8 u;simp at u;subst u;rfl
 .intro b0 cap f R g z _
  have C:a.grownBy f c.ownBlock:=⟨g.os,g.tape,g.output,by have:=g.size;simp at this;omega,λa7 J L=>(g.block a7 (by simp;omega) L).trans (heap_alloc_old a _ J)⟩;refine x _ f ⟨by simpa using R,?_⟩ C ?_
  .intro a9 b
   rcases List.mem_append.1 b with b|b
   .exact t.2 a9 b
   .simp at b;rw [b];exact a0
  .rcases z with n|n
   .left;rw [n];rfl
   .right;rw [n];rfl
end
section
open Go.RowKit
theorem SV(a:Nat):(a:Int) / 32*2+(a:Int)%8 / 4=((kq a:Nat):Int):=by unfold kq;omega
theorem Ws(a:V):(Instr.makeSlice 317 (A G 4) (A G 4)).run prog a= .ok (U (K a) 4 4) (a.alloc (M #[U I 0 0,U I 0 0,U I 0 0,U I 0 0] 26)):=B
end
end Go.Proofs.YtajkpgaheechmaaGreatDoor
