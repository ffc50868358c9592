/- DiskV DiskW Sort DiskL DiskN DiskO DiskQ DiskS -/
import Derived.Test.YtajkpgaheechmaaGreatDoorZAG
import Derived.Shelf.Sort.Plain
import Derived.Ground.Names2Prog
import Derived.Shelf.Slices.In.SortNone
set_option maxRecDepth 100000
set_option maxHeartbeats 16000000
set_option linter.unusedSimpArgs false
set_option linter.unusedVariables false
set_option linter.unusedSectionVars false
namespace Go.Proofs.YtajkpgaheechmaaGreatDoor
open _root_.Go.Proofs.Tryz
open Go.Value renaming int->A,slice->U,pointer->Q,nilIface->Ya,string->Yb,agg->Yc,tuple->Ye,ownBlock->YT
open Go.IntKind renaming i64->G,wrap->Zc
open Option renaming none->I,some->K
open Go.Obj renaming cells->M
open Go.Ending renaming returned->e
open Go renaming World->V,Value->Z,Calls->d,Addr->Yi,maxLen->YO
open Go.RowKit renaming Below->X,intOf->Yz
open Or renaming inl->Yg,inr->Yh
open Go.World renaming block_lt_of_cell?->Yj,cell?_alloc_lt->Ys,ownsRow_nil->YC
open Nat renaming le_refl->Yk,le_trans->Yl,zero_le->Yr
open Go.RowKit.Below renaming refl->Yn
open List renaming getD_eq_getElem?_getD->Yp,length_append->Yq,getElem?_eq_getElem->YM,range->Za,length_singleton->Zb
open Go.IntWalk renaming i64_in->Yx
open Option.some renaming inj->YG
open Go.Instr renaming lookup->YY
section
open Go.RowKit Go.Extern.Stop Go.Stop Go.Extern
section
variable {w w2:V} {p:Nat} {L:bY} {D:DS}
theorem uD{c:List Z}{b a:Nat}{h:Z}:(c.set b h).getD a Ya=if b=a/\a<c.length then h else c.getD a Ya:=by
 rw [Yp,List.getElem?_set];by_cases g:b=a
 .subst g
  by_cases f:b<c.length
  .simp [f]
  .simp [f,Yp,List.getElem?_eq_none (Nat.le_of_not_lt f)]
 .simp [g,Yp]
theorem DP.qO(f:DP w p L D){j v cap a1:Nat}(l:j<D.all.length)(x:L.va=U (K v) a1 cap){k:Z}{n:Bs}(q:w.grownBy w2 (L.at j).ownBlock)
  (a0:w2.ownsRow 0 5 1 k n.length (ak n))(a5:k.ownBlock=(L.at j).ownBlock∨∃g,k.ownBlock=K g/\w.heap.size<=g):
  DP (w2.setCell ⟨v,j*2,I⟩ k) p {L with fv:=L.fv.set j k} {D with all:=dy D.all j ⟨n,(D.file j).safe⟩}:=by
 obtain⟨b1,b6,b7,b8,b2⟩:=f.others;have u:=bL w2 v (j*2) k
 have s:L.va.ownBlock=K v:=by rw [x];rfl
 obtain rfl:a1=D.all.length:=by
  obtain⟨b4,b3,a,_⟩:=f.head l;rw [x] at a;simp at a;exact a.2.1
 have R:=cP f.all q (fG (f.jl j l) f.all H);have P:=R;rw [x] at P;have a9:=(P.stored (j*2) k).1
 have T:j<L.fv.length:=by rw [f.len];exact l
 have b0:(fe D.all L.fv).set (j*2) k=fe (dy D.all j ⟨n,(D.file j).safe⟩) (L.fv.set j k):=by
  unfold fe;rw [cB];refine uP (m:=2) (c:=0) (λ_=>rfl) (λ_=>rfl) l H ?_ ?_
  .unfold uY;rw [dA,if_pos ⟨rfl,l⟩,uD,if_pos ⟨rfl,T⟩];rfl
  .intro b h;unfold uY;rw [dA,if_neg (λa=>h a.1.symm),uD,if_neg (λa=>h a.1.symm)]
 have a7:∀b,b≠j->(dy D.all j ⟨n,(D.file j).safe⟩).getD b DF.ae=D.file b:=λb h=>by rw [dA,if_neg (λa=>h a.1.symm)];rfl
 have a8:(dy D.all j ⟨n,(D.file j).safe⟩).getD j DF.ae=⟨n,(D.file j).safe⟩:=by rw [dA,if_pos ⟨rfl,l⟩]
 have y:∀b,b≠j->(L.fv.set j k).getD b Ya=L.at b:=λb h=>by rw [uD,if_neg (λa=>h a.1.symm)];rfl
 have J:(L.fv.set j k).getD j Ya=k:=by rw [uD,if_pos ⟨rfl,T⟩]
 have a3:=f.ay.grown q λa=>b2 j l a.symm
 have W:∀b g,b<D.all.length->b≠j->(L.at b).ownBlock=K g->k.ownBlock≠K g:=by
  intro b g h r i a
  rcases a5 with o|⟨b5,o,z⟩
  .exact f.apart b j g h l r i (o▸a)
  .rw [o] at a
   have:=lX (f.jl b h) i;have:=YG a;omega
 refine⟨a3.bS (u _ λa=>b1 (by rw [s,a])),?_,by rw [cB,List.length_set];exact f.len,?_,?_,?_,?_,f.ne,?_⟩
 .show World.ownsRow _ 0 _ 2 L.va (dy D.all j _).length _
  rw [cB,x,<-b0];exact a9
 .intro b h
  rw [cB] at h
  show World.ownsRow _ 0 _ 1 ((L.fv.set j k).getD b Ya) ((dy D.all j ⟨n,(D.file j).safe⟩).getD b DF.ae).data.length (ak ((dy D.all j ⟨n,(D.file j).safe⟩).getD b DF.ae).data)
  by_cases r:b=j
  .subst r
   rw [a8,J]
   exact an a0 λg i=>u g λa=>by
    have a2:=fG a0 R H v s;exact a2 (by rw [i,a])
  .rw [a7 b r,y b r]
   have a6:=cP (f.jl b h) q λg i a=>f.apart b j g h l r i a.symm
   exact an a6 λg i=>u g λa=>fG f.all (f.jl b h) H g i (by rw [s,a])
 .intro b t g h C F i
  rw [cB] at h C
  show((L.fv.set j k).getD t Ya).ownBlock≠K g
  replace i:((L.fv.set j k).getD b Ya).ownBlock=K g:=i
  by_cases o:b=j
  .subst o
   rw [J] at i;rw [y t (λa=>F a.symm)]
   exact λa=>W t g C (λa=>F a.symm) a i
  .rw [y b o] at i
   by_cases z:t=j
   .subst z
    rw [J];exact W b g h o i
   .rw [y t z]
    exact f.apart b t g h C F i
 .exact(f.gI.kept q λa=>fF f.gI (f.jl j l) a.symm).ext (u _ λa=>fF f.gI f.all (by rw [s,a]))
 .exact(f.rN.kept q λa=>fF f.rN (f.jl j l) a.symm).ext (u _ λa=>fF f.rN f.all (by rw [s,a]))
 .exact an (cP f.lJ q (fG (f.jl j l) f.lJ H)) λg i=>u g λa=>fG f.all f.lJ H g i (by rw [s,a])
theorem qV{c i b:Nat}{f:Z}(a:({L with fv:=L.fv.set c f}:bY).has p b)(l:c<L.fv.length)(n:f.ownBlock=(L.at c).ownBlock∨∃b,f.ownBlock=K b/\i<=b):L.has p b∨i<=b:=by
 rcases a with a|a|a|a|a|⟨h,j,a⟩
 .exact Yg (Yg a)
 .exact Yg (Yh (Yg a))
 .exact Yg (Yh (Yh (Yg a)))
 .exact Yg (Yh (Yh (Yh (Yg a))))
 .exact Yg (Yh (Yh (Yh (Yh (Yg a)))))
 .replace a:((L.fv.set c f).getD h Ya).ownBlock=K b:=a
  simp only [List.length_set] at j;rw [uD] at a;by_cases k:c=h
  .subst k
   rw [if_pos ⟨rfl,l⟩] at a
   rcases n with g|⟨q,g,o⟩
   .exact Yg (Yh (Yh (Yh (Yh (Yh ⟨c,l,g▸a⟩)))))
   .rw [g] at a;exact Yh (by have:=YG a;omega)
  .rw [if_neg (λm=>k m.1)] at a
   exact Yg (Yh (Yh (Yh (Yh (Yh ⟨h,j,a⟩)))))
end
theorem Al(c:Nat)(f:bY)(a:DS)(g:Bs)(n:Z)(s:Bs)(i:Nat)(b:V)(h:DP b c f a)(m:ah b n s)(t:Inv a i)(u:i<=100000)(k:g.length<=YO)(l:a.down=true):
  d prog 106 #[Q (K c),Yb ⟨g.toArray⟩,n] b λj p=>iv c f 10 a b j p:=by
 have q:=E (fK c f a g k b h);have r:=E h;have y:b.cell? ⟨c,6,I⟩=K (.bool true):=l▸h.cell 6;obtain⟨x,cap,rfl⟩:=m.shape;generalize ba a g=z at*;clear h m t u k l;go_enter func106,ntmps106
 go_wp2_with (first|(go_at_call 154;refine q.o.mono ?_;rintro j p ⟨rfl,rfl⟩))
 go_returns;exact⟨by rw [aT (k:=10) H];rfl,f,r.o,λw v=>Yg v,af.refl _ _⟩
theorem yT(f:Nat)(g:bY)(a:DS)(b:Bs)(p:Z)(u:Bs)(i:Nat)(c:V)(h:DP c f g a)(m:ah c p u)(v:Inv a i)(w:i<=100000)(k:b.length<=YO)(l:a.down=false)(n:ba a b≠0):
  d prog 106 #[Q (K f),Yb ⟨b.toArray⟩,p] c λj r=>iv f g (ba a b) a c j r:=by
 have s:=E (fK f g a b k c h);have t:=E h;have z:c.cell? ⟨f,6,I⟩=K (.bool false):=l▸h.cell 6;obtain⟨y,cap,rfl⟩:=m.shape;generalize ba a b=D at*;have q:=jT n;clear h m v w k l n;go_enter func106,ntmps106
 go_wp2_with (first|(go_at_call 154;refine s.o.mono ?_;rintro j r ⟨rfl,rfl⟩))
 go_returns;exact⟨rfl,g,t.o,λC x=>Yg x,af.refl _ _⟩
theorem Am(c:Nat)(h:bY)(a:DS)(p:Bs)(z:Z)(r:Bs)(v:Nat)(b:V)(g:DP b c h a)(s:ah b z r)(k:Inv a v)(J:v<=100000)(L:p.length<=YO)(T:a.down=false)(a0:ba a p=0)(P:r≠[])(w:a.room - fD a<r.length):
  d prog 106 #[Q (K c),Yb ⟨p.toArray⟩,z] b λj t=>iv c h 9 a b j t:=by
 have C:=E (fK c h a p L b g);rw [a0] at C;have u:=E g;have b1:=E s;have b3:b.cell? ⟨c,6,I⟩=K (.bool false):=T▸g.cell 6;have b2:b.cell? c=K (A G a.room):=g.cell 0;have a7:=s.len;obtain⟨b8,b9⟩:=k.room;have D:=E (λ(b:V) (g:DP b c h a)=>oI c h a v b g k J)
 have a8:fD a<=100000*16777216:=by
  have a5:=qq (f:=iJ a) (l:=cK a.names) (M:=16777216) λa9 _=>mD k a9
  have a6:(cK a.names).length<=100000:=by unfold cK;rw [List.length_map];have:=k.gI;omega
  unfold fD;exact Yl a5 (Nat.mul_le_mul_right _ a6)
 obtain⟨i,m⟩:∃i,r.length=i:=⟨_,rfl⟩;obtain⟨n,W⟩:∃n,fD a=n:=⟨_,rfl⟩;have b0:=E m
 have b4:0<i:=by rw [<-m];exact List.length_pos_iff.2 P
 rw [W] at w a8 D;rw [m] at w a7
 obtain⟨q,cap,rfl⟩:∃q cap,z=U q i cap:=by obtain⟨q,cap,j⟩:=s.shape;exact⟨q,cap,by rw [j,m]⟩
 have b5:decide ((0:Int)<(i:Int))=true:=by simp;omega
 have b6:Zc G (a.room - (n:Int))=a.room - (n:Int):=Yx _ O
 have b7:decide (a.room - (n:Int)<(i:Int))=true:=by simp;omega
 clear g s k J L T a0 P W m w;go_enter func106,ntmps106
 go_wp2_with (first|(go_at_call 154;refine C.o.mono ?_;rintro j t ⟨rfl,rfl⟩))
 go_region_held3 (λt=>t.cell? c=K (A G a.room)) (first|with_reducible exact a3.o|go_keep)
  (first|(go_at_call 155;refine(D.o _ ?_).mono ?_;exact u.o.stays λ_ _=>rfl;rintro j a2 ⟨rfl,R⟩;have a1:X b b a2:=(by first|exact R|exact fU R);have F:=E (u.o.stays λy x=>a1.block y (u.o.lt x));have a3:=E (show a2.cell? c=K (A G a.room) from F.o.cell 0)))
 go_wp2;go_returns;exact⟨by rw [aT (k:=9) H];rfl,h,F.o.stays λ_ _=>rfl,λy x=>Yg x,af.aj a1⟩
theorem ah.Kb{f k:V}{c:Nat}{m:bY}{l:DS}{j:Z}{g:Bs}(r:ah f j g)(x:f.grownBy k (K c))(b:DP f c m l):ah k j g:=by
 obtain⟨n,cap,rfl,s,t,u,v⟩:=r;refine⟨n,cap,rfl,s,t,u,λh y=>?_⟩;obtain⟨i,off,p,a⟩:=v h y;refine⟨i,off,p,x.cell a λq=>?_⟩;obtain rfl:i=c:=YG q;rw [b.cell] at a;obtain⟨C,F,w⟩:=aK b.all;obtain⟨D,J,z⟩:=aK b.lJ;unfold e_ at a;rw [w,z] at a;generalize off+h=o at a
 match o,a with
 |0,a=>simp at a
 |1,a=>simp at a
 |2,a=>simp at a
 |3,a=>simp at a
 |4,a=>simp at a
 |5,a=>simp at a
 |6,a=>simp at a
 |7,a=>simp at a
 |L+8,a=>simp at a
theorem Jn(p:Nat)(L:bY)(D:DS)(a:Bs)(u:Z)(b:Bs)(T:Nat)(w:V)(h:DP w p L D)(hu:ah w u b)(hI:Inv D T)(hT:T<=100000)(ha:a.length<=YO)(hd:D.down=false)(hx:ba D a=0)(ad:Option Yi)(cap:Nat)(hn:u=U ad 0 cap)(hb0:b=[])(hfl:fj D=true):
  d prog 106 #[Q (K ⟨p,0,I⟩),Yb ⟨a.toArray⟩,u] w λe w'=>iv p L 10 {cI D with all:=dy D.all (aM D.names a) ⟨(D.file (aM D.names a)).data++b.take (b.length / 2),(D.file (aM D.names a)).safe⟩} w e w':=by
 have CT:=E (fK p L D a ha w h);rw [hx] at CT;have H:=E h;have HU:=E hu;have c6:w.cell? ⟨p,6,I⟩=K (.bool false):=hd▸h.cell 6;have c0:w.cell? ⟨p,0,I⟩=K (A G D.room):=h.cell 0;have hbl:=hu.len;obtain⟨r0,r1⟩:=hI.room;have CU:=E (λ(w:V) (h:DP w p L D)=>oI p L D T w h hI hT)
 have hus:fD D<=100000*16777216:=by
  have h1:=qq (f:=iJ D) (l:=cK D.names) (M:=16777216) λx _=>mD hI x
  have h2:(cK D.names).length<=100000:=by unfold cK;rw [List.length_map];have:=hI.gI;omega
  unfold fD;exact Yl h1 (Nat.mul_le_mul_right _ h2)
 obtain⟨bl,hl⟩:∃bl,b.length=bl:=⟨_,rfl⟩;obtain⟨us,hus2⟩:∃us,fD D=us:=⟨_,rfl⟩;have HBL:=E hl;have hno:=hI.kE hx;have hnog:(bT D.names a).getD 0=aM D.names a:=rfl
 have hn100:D.all.length<=100000:=by have:=hI.me;omega
 have hdl:=(hI.data _ hno).2;have CF:=E (λ(w:V) (h:DP w p L D)=>n_ p L D w h hI.done.1 (by have:=hI.done.2;omega) hI.c_.2);rw [hfl] at CF;have HA:=E ha;generalize hfn:aM D.names a=no at*;have HNG:=E hnog;have HNO:=E hno;obtain⟨nn,hnn⟩:∃nn,D.all.length=nn:=⟨_,rfl⟩;have HNN:=E hnn;rw [hnn] at hno hn100;have i1:(0:Int)<=(no:Int):=O;have i2:(no:Int)<(nn:Int):=O;obtain⟨xs,hxs⟩:∃xs,(D.file no).data=xs:=⟨_,rfl⟩;have HXS:=E hxs;rw [hxs] at hdl⊢;rw [hus2] at hus CU;rw [hl] at hbl
 have hbl0:bl=0:=by rw [<-hl,hb0];rfl
 subst hn;subst hbl0
 have HUY:Hd (∀w,ah w (U ad 0 cap) b->ah w (U ad 0 cap) []):=λw h=>hb0▸h
 have hb2:xs.length+([]:Bs).length<=1099511627776:=by simp;omega
 have q1:decide ((0:Int)<((0:Nat):Int))=false:=by decide
 rw [show b.take (b.length / 2)=[] from by first|(rw [hb0];done)|(rw [hb0];rfl)];have HYL:Hd (([]:Bs).length=0):=E rfl;have w0:Zc G 0=0:=Yx _ O;clear h hu hI hT ha hd hx hb0 hus2 hl hfl hfn hnog hnn hxs;go_enter func106,ntmps106
 go_wp2_with (first|(go_at_call 154;refine CT.o.mono ?_;rintro e w' ⟨rfl,rfl⟩))
 go_quiet (fail)
 rename_i nq
 have j5:X w.heap.size w (w.drewN nq):=ag (Yn _ _) nq;have HUW:=E (HUY.o _ (HU.o.ext j5));have H5:=E (H.o.stays λk hk=>j5.block k (H.o.lt hk));clear c6 c0 HUY;generalize hq5:w.drewN nq=w5 at*;clear hq5;go_wp2;obtain⟨g,cap9,hva,hgl,hgp, -, -, -⟩:=H5.o.head (j:=no) HNO.o;have HVA:=E hva
 have hva2:L.va=U (K ⟨g,0,I⟩) nn cap9:=by rw [hva];exact congrArg (λx=>U _ x _) HNN.o
 have c1:w5.cell? ⟨p,1,I⟩=K (U (K ⟨g,0,I⟩) nn cap9):=(H5.o.cell 1).trans (congrArg K hva2);have c2:w5.cell? ⟨p,2,I⟩=K (.map (K L.bn)):=H5.o.cell 2
 have hlk2:(YY 123 (.map (K L.bn)) (Yb ⟨a.toArray⟩) false).run prog w5= .ok (A G (no:Int)) w5:=by rw [H5.o.gI.mu HA.o];exact congrArg (λx:Nat=>Result.ok (A G (x:Int)) w5) HNG.o
 have hlk3:(YY 123 (.map (K L.bn)) (Yb ⟨a.toArray⟩) false).run prog w5.drew= .ok (A G (no:Int)) w5.drew:=by
  rw [aR.mu (w:=w5.drew) H5.o.gI HA.o];exact congrArg (λx:Nat=>Result.ok (A G (x:Int)) w5.drew) HNG.o
 have SA:=E (show w5.drew.cell? ⟨p,1,I⟩=K (U (K ⟨g,0,I⟩) nn cap9)/\w5.drew.cell? ⟨p,2,I⟩=K (.map (K L.bn))/\(YY 123 (.map (K L.bn)) (Yb ⟨a.toArray⟩) false).run prog w5.drew= .ok (A G (no:Int)) w5.drew from⟨c1,c2,hlk3⟩);clear hlk3 hva hva2
 go_region_held3 (λw'=>w'.cell? ⟨p,1,I⟩=K (U (K ⟨g,0,I⟩) nn cap9)/\w'.cell? ⟨p,2,I⟩=K (.map (K L.bn))/\(YY 123 (.map (K L.bn)) (Yb ⟨a.toArray⟩) false).run prog w'= .ok (A G (no:Int)) w')
  (first|with_reducible exact SA.o|exact SA.o|go_keep)
  (fail)
 clear c1 c2 hlk2 SA;have H6:=E (show DP w5.drew p L D from H5.o.stays λ_ _=>rfl);have HUX:=E (show ah w5.drew (U ad 0 cap) ([]:Bs) from HUW.o)
 go_wp2_with fail
 refine(CF.o _ H6.o).mono ?_;rintro e w1 ⟨rfl,hD1,hg1⟩;have HD1:=E hD1;have HG1:=E hg1;have HUZ:=E (show ah w1 (U ad 0 cap) ([]:Bs) from HUX.o.Kb hg1 H6.o);obtain⟨g2,cap2,e2,hgl2, -,k0, -,kf⟩:=hD1.head (j:=no) HNO.o
 obtain rfl:g=g2:=by have:=HVA.o;rw [e2] at this;simp at this;exact this.1.symm
 obtain⟨ao2,dcap,hdv⟩:=aK (hD1.jl no HNO.o)
 have hdv2:L.at no=U ao2 xs.length dcap:=by rw [hdv];exact congrArg (λx:Bs=>U ao2 x.length dcap) HXS.o
 have HOW:=E (show w1.ownsRow 0 5 1 (U ao2 xs.length dcap) xs.length (ak xs) from by have:=hD1.jl no HNO.o;rw [hdv2] at this;have e:((cI D).file no).data=xs:=HXS.o;rw [e] at this;exact this)
 have hgne:K g≠(U ao2 xs.length dcap).ownBlock:=by rw [<-hdv2];exact fG (hD1.jl no HNO.o) hD1.all (by decide) g (by rw [HVA.o];rfl)
 rw [hdv2] at k0;have HDV:=E hdv2;have Mz:=kf (no*2);have kfr:Hd (∀k,w1.frozen? ⟨g,k,I⟩=false):=kf;clear kf e2 hdv hdv2 hD1 hg1 hgl;go_wp2
 go_region_law ((refine cQ (by rfl) _ _ (by rfl) 0 (U ao2 xs.length dcap) (U ad 0 cap) xs ([]:Bs) (by rfl) HOW.o (by rfl) HUZ.o hb2 (Yr _) ?_;intro ao3 cap3 w3 hown3 hg3 hat3;have G3:=E (show w1.grownBy w3 (L.at no).ownBlock from by rw [HDV.o];exact⟨hg3.os,hg3.tape,hg3.output,hg3.size,hg3.block⟩);have z0:w3.cell? ⟨g,no*2,I⟩=K (U ao2 xs.length dcap):=hg3.cell k0 hgne;have zf:w3.frozen? ⟨g,no*2,I⟩=false:=(World.frozen?_of_block (a:=⟨g,no*2,I⟩) (hg3.block g hgl2 hgne)).trans Mz;have HOW3:=E hown3;have HAT3:=E hat3;clear hown3 hg3 hat3))
 all_goals
  go_wp2;go_returns
  have hat:(U ao3 (xs.length+([]:Bs).length) cap3).ownBlock=(L.at no).ownBlock∨∃k,(U ao3 (xs.length+([]:Bs).length) cap3).ownBlock=K k/\w1.heap.size<=k:=by
   rcases HAT3.o with h|h
   .exact Yg (by rw [HDV.o];exact h)
   .exact Yh ⟨_,h,Yk _⟩
  have hD3:=HD1.o.qO (j:=no) HNO.o HVA.o G3.o HOW3.o hat;have e9:((cI D).file no).safe=(D.file no).safe:=rfl;have z1:=HG1.o.size;have z5:=j5.size;have z6:w5.drew.heap.size=w5.heap.size:=rfl;refine⟨by first|(rw [aT (k:=10) (by decide)];done)|(rw [aT (k:=10) (by decide)];rfl),_,hD3,λk hk=>qV hk (by rw [H5.o.len];exact HNO.o) ?_,?_⟩
  .rcases hat with h|⟨k,h,h2⟩
   .exact Yg h
   .exact Yh ⟨k,h,O⟩
  .refine(af.aj j5).trans (af.trans (b:=w5.drew) ⟨rfl,rfl,rfl,Yk _,λ_ _ _=>rfl⟩ ((af.self HG1.o).trans ((af.grown G3.o λk hk=>?_).trans (af.grown (bD _ _ _ _) λk hk=>Yh (Yg ?_)))))
   .exact Yh (Yh (Yh (Yh (Yh ⟨no,by rw [H5.o.len];exact HNO.o,hk⟩))))
   .rw [HVA.o];exact hk
theorem Jo(p:Nat)(L:bY)(D:DS)(a:Bs)(u:Z)(b:Bs)(T:Nat)(w:V)(h:DP w p L D)(hu:ah w u b)(hI:Inv D T)(hT:T<=100000)(ha:a.length<=YO)(hd:D.down=false)(hx:ba D a=0)(ad:Option Yi)(cap:Nat)(hn:u=U ad 0 cap)(hb0:b=[])(hfl:fj D=false):
  d prog 106 #[Q (K ⟨p,0,I⟩),Yb ⟨a.toArray⟩,u] w λe w'=>iv p L 0 {cI D with all:=dy D.all (aM D.names a) ⟨(D.file (aM D.names a)).data++b,(D.file (aM D.names a)).safe⟩} w e w':=by
 have CT:=E (fK p L D a ha w h);rw [hx] at CT;have H:=E h;have HU:=E hu;have c6:w.cell? ⟨p,6,I⟩=K (.bool false):=hd▸h.cell 6;have c0:w.cell? ⟨p,0,I⟩=K (A G D.room):=h.cell 0;have hbl:=hu.len;obtain⟨r0,r1⟩:=hI.room;have CU:=E (λ(w:V) (h:DP w p L D)=>oI p L D T w h hI hT)
 have hus:fD D<=100000*16777216:=by
  have h1:=qq (f:=iJ D) (l:=cK D.names) (M:=16777216) λx _=>mD hI x
  have h2:(cK D.names).length<=100000:=by unfold cK;rw [List.length_map];have:=hI.gI;omega
  unfold fD;exact Yl h1 (Nat.mul_le_mul_right _ h2)
 obtain⟨bl,hl⟩:∃bl,b.length=bl:=⟨_,rfl⟩;obtain⟨us,hus2⟩:∃us,fD D=us:=⟨_,rfl⟩;have HBL:=E hl;have hno:=hI.kE hx;have hnog:(bT D.names a).getD 0=aM D.names a:=rfl
 have hn100:D.all.length<=100000:=by have:=hI.me;omega
 have hdl:=(hI.data _ hno).2;have CF:=E (λ(w:V) (h:DP w p L D)=>n_ p L D w h hI.done.1 (by have:=hI.done.2;omega) hI.c_.2);rw [hfl] at CF;have HA:=E ha;generalize hfn:aM D.names a=no at*;have HNG:=E hnog;have HNO:=E hno;obtain⟨nn,hnn⟩:∃nn,D.all.length=nn:=⟨_,rfl⟩;have HNN:=E hnn;rw [hnn] at hno hn100;have i1:(0:Int)<=(no:Int):=O;have i2:(no:Int)<(nn:Int):=O;obtain⟨xs,hxs⟩:∃xs,(D.file no).data=xs:=⟨_,rfl⟩;have HXS:=E hxs;rw [hxs] at hdl⊢;rw [hus2] at hus CU;rw [hl] at hbl
 have hbl0:bl=0:=by rw [<-hl,hb0];rfl
 subst hn;subst hbl0
 have HUY:Hd (∀w,ah w (U ad 0 cap) b->ah w (U ad 0 cap) []):=λw h=>hb0▸h
 have hb2:xs.length+([]:Bs).length<=1099511627776:=by simp;omega
 have q1:decide ((0:Int)<((0:Nat):Int))=false:=by decide
 rw [show b=[] from by first|(rw [hb0];done)|(rw [hb0];rfl)];have HYL:Hd (([]:Bs).length=0):=E rfl;have w0:Zc G 0=0:=Yx _ O;clear h hu hI hT ha hd hx hb0 hus2 hl hfl hfn hnog hnn hxs;go_enter func106,ntmps106
 go_wp2_with (first|(go_at_call 154;refine CT.o.mono ?_;rintro e w' ⟨rfl,rfl⟩))
 go_quiet (fail)
 rename_i nq
 have j5:X w.heap.size w (w.drewN nq):=ag (Yn _ _) nq;have HUW:=E (HUY.o _ (HU.o.ext j5));have H5:=E (H.o.stays λk hk=>j5.block k (H.o.lt hk));clear c6 c0 HUY;generalize hq5:w.drewN nq=w5 at*;clear hq5;go_wp2;obtain⟨g,cap9,hva,hgl,hgp, -, -, -⟩:=H5.o.head (j:=no) HNO.o;have HVA:=E hva
 have hva2:L.va=U (K ⟨g,0,I⟩) nn cap9:=by rw [hva];exact congrArg (λx=>U _ x _) HNN.o
 have c1:w5.cell? ⟨p,1,I⟩=K (U (K ⟨g,0,I⟩) nn cap9):=(H5.o.cell 1).trans (congrArg K hva2);have c2:w5.cell? ⟨p,2,I⟩=K (.map (K L.bn)):=H5.o.cell 2
 have hlk2:(YY 123 (.map (K L.bn)) (Yb ⟨a.toArray⟩) false).run prog w5= .ok (A G (no:Int)) w5:=by rw [H5.o.gI.mu HA.o];exact congrArg (λx:Nat=>Result.ok (A G (x:Int)) w5) HNG.o
 have hlk3:(YY 123 (.map (K L.bn)) (Yb ⟨a.toArray⟩) false).run prog w5.drew= .ok (A G (no:Int)) w5.drew:=by
  rw [aR.mu (w:=w5.drew) H5.o.gI HA.o];exact congrArg (λx:Nat=>Result.ok (A G (x:Int)) w5.drew) HNG.o
 have SA:=E (show w5.drew.cell? ⟨p,1,I⟩=K (U (K ⟨g,0,I⟩) nn cap9)/\w5.drew.cell? ⟨p,2,I⟩=K (.map (K L.bn))/\(YY 123 (.map (K L.bn)) (Yb ⟨a.toArray⟩) false).run prog w5.drew= .ok (A G (no:Int)) w5.drew from⟨c1,c2,hlk3⟩);clear hlk3 hva hva2
 go_region_held3 (λw'=>w'.cell? ⟨p,1,I⟩=K (U (K ⟨g,0,I⟩) nn cap9)/\w'.cell? ⟨p,2,I⟩=K (.map (K L.bn))/\(YY 123 (.map (K L.bn)) (Yb ⟨a.toArray⟩) false).run prog w'= .ok (A G (no:Int)) w')
  (first|with_reducible exact SA.o|exact SA.o|go_keep)
  (fail)
 clear c1 c2 hlk2 SA;have H6:=E (show DP w5.drew p L D from H5.o.stays λ_ _=>rfl);have HUX:=E (show ah w5.drew (U ad 0 cap) ([]:Bs) from HUW.o)
 go_wp2_with fail
 refine(CF.o _ H6.o).mono ?_;rintro e w1 ⟨rfl,hD1,hg1⟩;have HD1:=E hD1;have HG1:=E hg1;have HUZ:=E (show ah w1 (U ad 0 cap) ([]:Bs) from HUX.o.Kb hg1 H6.o);obtain⟨g2,cap2,e2,hgl2, -,k0, -,kf⟩:=hD1.head (j:=no) HNO.o
 obtain rfl:g=g2:=by have:=HVA.o;rw [e2] at this;simp at this;exact this.1.symm
 obtain⟨ao2,dcap,hdv⟩:=aK (hD1.jl no HNO.o)
 have hdv2:L.at no=U ao2 xs.length dcap:=by rw [hdv];exact congrArg (λx:Bs=>U ao2 x.length dcap) HXS.o
 have HOW:=E (show w1.ownsRow 0 5 1 (U ao2 xs.length dcap) xs.length (ak xs) from by have:=hD1.jl no HNO.o;rw [hdv2] at this;have e:((cI D).file no).data=xs:=HXS.o;rw [e] at this;exact this)
 have hgne:K g≠(U ao2 xs.length dcap).ownBlock:=by rw [<-hdv2];exact fG (hD1.jl no HNO.o) hD1.all (by decide) g (by rw [HVA.o];rfl)
 rw [hdv2] at k0;have HDV:=E hdv2;have Mz:=kf (no*2);have kfr:Hd (∀k,w1.frozen? ⟨g,k,I⟩=false):=kf;clear kf e2 hdv hdv2 hD1 hg1 hgl
 go_wp2_with (at_builtin;refine eA rfl (.tmp 70) (.tmp 71) rfl 0 (U ao2 xs.length dcap) (U ad 0 cap) xs ([]:Bs) rfl HOW.o rfl HUZ.o hb2 (Yr _) ?_;intro ao3 cap3 w3 hown3 hg3 hat3;have G3:=E (show w1.grownBy w3 (L.at no).ownBlock from by rw [HDV.o];exact⟨hg3.os,hg3.tape,hg3.output,hg3.size,hg3.block⟩);have z0:w3.cell? ⟨g,no*2,I⟩=K (U ao2 xs.length dcap):=hg3.cell k0 hgne;have zf:w3.frozen? ⟨g,no*2,I⟩=false:=(World.frozen?_of_block (a:=⟨g,no*2,I⟩) (hg3.block g hgl2 hgne)).trans Mz;have HOW3:=E hown3;have HAT3:=E hat3;clear hown3 hg3 hat3)
 go_returns
 have hat:(U ao3 (xs.length+([]:Bs).length) cap3).ownBlock=(L.at no).ownBlock∨∃k,(U ao3 (xs.length+([]:Bs).length) cap3).ownBlock=K k/\w1.heap.size<=k:=by
  rcases HAT3.o with h|h
  .exact Yg (by rw [HDV.o];exact h)
  .exact Yh ⟨_,h,Yk _⟩
 have hD3:=HD1.o.qO (j:=no) HNO.o HVA.o G3.o HOW3.o hat;have e9:((cI D).file no).safe=(D.file no).safe:=rfl;have z1:=HG1.o.size;have z5:=j5.size;have z6:w5.drew.heap.size=w5.heap.size:=rfl;refine⟨by first|(rw [ar];done)|(rw [ar];rfl),_,hD3,λk hk=>qV hk (by rw [H5.o.len];exact HNO.o) ?_,?_⟩
 .rcases hat with h|⟨k,h,h2⟩
  .exact Yg h
  .exact Yh ⟨k,h,O⟩
 .refine(af.aj j5).trans (af.trans (b:=w5.drew) ⟨rfl,rfl,rfl,Yk _,λ_ _ _=>rfl⟩ ((af.self HG1.o).trans ((af.grown G3.o λk hk=>?_).trans (af.grown (bD _ _ _ _) λk hk=>Yh (Yg ?_)))))
  .exact Yh (Yh (Yh (Yh (Yh ⟨no,by rw [H5.o.len];exact HNO.o,hk⟩))))
  .rw [HVA.o];exact hk
theorem Jp(k:Nat)(h:bY)(a:DS)(p:Bs)(c6:Z)(t:Bs)(b3:Nat)(c:V)(i:DP c k h a)(a8:ah c c6 t)(v:Inv a b3)(g7:b3<=100000)(b4:p.length<=YO)(h1:a.down=false)(c2:ba a p=0)(T:Yi)(cap:Nat)(h6:c6=U (K T) t.length cap)(h0:t≠[])(b6:¬a.room - fD a<t.length)(h3:fj a=true):
  d prog 106 #[Q (K k),Yb ⟨p.toArray⟩,c6] c λD y=>iv k h 10 {cI a with all:=dy a.all (aM a.names p) ⟨(a.file (aM a.names p)).data++t.take (t.length / 2),(a.file (aM a.names p)).safe⟩} c D y:=by
 have c9:=E (fK k h a p b4 c i);rw [c2] at c9;have b1:=E i;have i6:=E a8;have j2:c.cell? ⟨k,6,I⟩=K (.bool false):=h1▸i.cell 6;have j1:c.cell? k=K (A G a.room):=i.cell 0;have j6:=a8.len;obtain⟨m4,m5⟩:=v.room;have e0:=E (λ(c:V) (i:DP c k h a)=>oI k h a b3 c i v g7)
 have k3:fD a<=100000*16777216:=by
  have g5:=qq (f:=iJ a) (l:=cK a.names) (M:=16777216) λz _=>mD v z
  have g6:(cK a.names).length<=100000:=by unfold cK;rw [List.length_map];have:=v.gI;omega
  unfold fD;exact Yl g5 (Nat.mul_le_mul_right _ g6)
 obtain⟨u,J⟩:∃u,t.length=u:=⟨_,rfl⟩;obtain⟨a3,c0⟩:∃a3,fD a=a3:=⟨_,rfl⟩;have k4:=E J;have b9:=v.kE c2;have h7:(bT a.names p).getD 0=aM a.names p:=rfl
 have k2:a.all.length<=100000:=by have:=v.me;omega
 have j7:=(v.data _ b9).2;have c8:=E (λ(c:V) (i:DP c k h a)=>n_ k h a c i v.done.1 (by have:=v.done.2;omega) v.c_.2);rw [h3] at c8;have e3:=E b4;generalize j8:aM a.names p=b at*;have e6:=E h7;have C:=E b9;obtain⟨R,b8⟩:∃R,a.all.length=R:=⟨_,rfl⟩;have i3:=E b8;rw [b8] at b9 k2;have l1:(0:Int)<=(b:Int):=O;have l2:(b:Int)<(R:Int):=O;obtain⟨q,c3⟩:∃q,(a.file b).data=q:=⟨_,rfl⟩;have e8:=E c3;rw [c3] at j7⊢;rw [c0] at k3 e0;rw [J] at j6;rw [J] at h6 b6;rw [c0] at b6
 have k8:0<u:=by rw [<-J];exact List.length_pos_iff.2 h0
 subst h6
 have k9:u<=cap:=by obtain⟨_,_,D,g5,_⟩:=a8;simp at D;omega
 have m1:decide ((0:Int)<(u:Int))=true:=by simp;omega
 have m2:Zc G (a.room - (a3:Int))=a.room - (a3:Int):=Yx _ O
 have m3:decide (a.room - (a3:Int)<(u:Int))=false:=by simp;omega
 obtain⟨n,a2⟩:∃n,u / 2=n:=⟨_,rfl⟩;obtain⟨w,a9⟩:∃w,t.take (t.length / 2)=w:=⟨_,rfl⟩
 have c4:w.length=n:=by rw [<-a9,List.length_take,J,<-a2];omega
 have e7:Hd (∀c,ah c (U (K T) u cap) t->ah c (U (K T) n cap) w):=λc i=>by
  have:=i.cut (m:=n) O;rw [<-a2,<-J,a9] at this;rw [a2.symm,<-J];exact this
 have k5:=E c4
 have j5:q.length+w.length<=1099511627776:=by rw [c4];omega
 have l4:(u:Int) / 2=(n:Int):=O
 have l5:Int.tdiv (u:Int) 2=(n:Int):=by rw [Int.tdiv_eq_ediv_of_nonneg O];omega
 have l6:Zc G (n:Int)=(n:Int):=Yx _ O;have l7:(0:Int)<=(n:Int):=O;have l8:(n:Int)<=(cap:Int):=O;have l9:n<=cap:=O;have m0:u / 2=n:=a2;rw [a9];clear a2 a9 c4;clear i a8 v g7 b4 h1 c2 h0 c0 J h3 j8 h7 b8 c3 b6;go_enter func106,ntmps106
 go_wp2_with (first|(go_at_call 154;refine c9.o.mono ?_;rintro D y ⟨rfl,rfl⟩))
 go_region_held3 (λy=>y.cell? k=K (A G a.room)) (first|with_reducible exact e9.o|go_keep)
  (first|(go_at_call 155;refine(e0.o _ ?_).mono ?_;exact b1.o.stays λ_ _=>rfl;rintro D g ⟨rfl,b5⟩;have b0:X c c g:=(by first|exact b5|exact fU b5);have x:=E (b1.o.stays λr P=>b0.block r (b1.o.lt P));have e9:=E (show g.cell? k=K (A G a.room) from x.o.cell 0)))
 have i7:=E (e7.o _ (i6.o.ext b0));clear e9 j2 j1 e7 b5;go_wp2;obtain⟨s,a7,c1,j9,l0, -, -, -⟩:=x.o.head (j:=b) C.o;have a6:=E c1
 have h9:h.va=U (K s) R a7:=by rw [c1];exact congrArg (λz=>U _ z _) i3.o
 have g1:g.cell? ⟨k,1,I⟩=K (U (K s) R a7):=(x.o.cell 1).trans (congrArg K h9);have g2:g.cell? ⟨k,2,I⟩=K (.map (K h.bn)):=x.o.cell 2
 have k1:(YY 123 (.map (K h.bn)) (Yb ⟨p.toArray⟩) false).run prog g= .ok (A G b) g:=by rw [x.o.gI.mu e3.o];exact congrArg (λz:Nat=>Result.ok (A G z) g) e6.o
 have h5:(YY 123 (.map (K h.bn)) (Yb ⟨p.toArray⟩) false).run prog g.drew= .ok (A G b) g.drew:=by
  rw [aR.mu (w:=g.drew) x.o.gI e3.o];exact congrArg (λz:Nat=>Result.ok (A G z) g.drew) e6.o
 have b2:=E (show g.drew.cell? ⟨k,1,I⟩=K (U (K s) R a7)/\g.drew.cell? ⟨k,2,I⟩=K (.map (K h.bn))/\(YY 123 (.map (K h.bn)) (Yb ⟨p.toArray⟩) false).run prog g.drew= .ok (A G b) g.drew from⟨g1,g2,h5⟩);clear h5 c1 h9
 go_region_held3 (λy=>y.cell? ⟨k,1,I⟩=K (U (K s) R a7)/\y.cell? ⟨k,2,I⟩=K (.map (K h.bn))/\(YY 123 (.map (K h.bn)) (Yb ⟨p.toArray⟩) false).run prog y= .ok (A G b) y)
  (first|with_reducible exact b2.o|exact b2.o|go_keep)
  (fail)
 clear g1 g2 k1 b2;have e2:=E (show DP g.drew k h a from x.o.stays λ_ _=>rfl);have i9:=E (show ah g.drew (U (K T) n cap) w from i7.o)
 go_wp2_with fail
 refine(c8.o _ e2.o).mono ?_;rintro D a5 ⟨rfl,L,b7⟩;have i2:=E L;have e5:=E b7;have j0:=E (show ah a5 (U (K T) n cap) w from i9.o.Kb b7 e2.o);obtain⟨j3,k6,g4,k0, -,i0, -,c5⟩:=L.head (j:=b) C.o
 obtain rfl:s=j3:=by have:=a6.o;rw [g4] at this;simp at this;exact this.1.symm
 obtain⟨W,a0,h2⟩:=aK (L.jl b C.o)
 have a1:h.at b=U W q.length a0:=by rw [h2];exact congrArg (λz:Bs=>U W z.length a0) e8.o
 have i4:=E (show a5.ownsRow 0 5 1 (U W q.length a0) q.length (ak q) from by have:=L.jl b C.o;rw [a1] at this;have D:((cI a).file b).data=q:=e8.o;rw [D] at this;exact this)
 have h4:K s≠(U W q.length a0).ownBlock:=by rw [<-a1];exact fG (L.jl b C.o) L.all H s (by rw [a6.o];rfl)
 rw [a1] at i0;have e4:=E a1;have Mz:=c5 (b*2);have l3:Hd (∀r,a5.frozen? ⟨s,r,I⟩=false):=c5;clear c5 g4 h2 a1 L b7 j9;go_wp2
 go_region_law ((refine cQ (by rfl) _ _ (by rfl) 0 (U W q.length a0) (U (K T) n cap) q w (by rfl) i4.o (by rfl) j0.o j5 (Yr _) ?_;intro g0 g3 c7 h8 F g9;have e1:=E (show a5.grownBy c7 (h.at b).ownBlock from by rw [e4.o];exact⟨F.os,F.tape,F.output,F.size,F.block⟩);have m6:c7.cell? ⟨s,b*2,I⟩=K (U W q.length a0):=F.cell i0 h4;have n0:c7.frozen? ⟨s,b*2,I⟩=false:=(World.frozen?_of_block (a:=⟨s,b*2,I⟩) (F.block s k0 h4)).trans Mz;have i5:=E h8;have i1:=E g9;clear h8 F g9))
 all_goals
  go_wp2;go_returns
  have g8:(U g0 (q.length+w.length) g3).ownBlock=(h.at b).ownBlock∨∃r,(U g0 (q.length+w.length) g3).ownBlock=K r/\a5.heap.size<=r:=by
   rcases i1.o with i|i
   .exact Yg (by rw [e4.o];exact i)
   .exact Yh ⟨_,i,Yk _⟩
  have j4:=i2.o.qO (j:=b) C.o a6.o e1.o i5.o g8;have k7:((cI a).file b).safe=(a.file b).safe:=rfl;have m7:=e5.o.size;have m8:=b0.size;have m9:g.drew.heap.size=g.heap.size:=rfl;refine⟨by first|(rw [aT (k:=10) H];done)|(rw [aT (k:=10) H];rfl),_,j4,λr P=>qV P (by rw [x.o.len];exact C.o) ?_,?_⟩
  .rcases g8 with i|⟨r,i,g6⟩
   .exact Yg i
   .exact Yh ⟨r,i,O⟩
  .refine(af.aj b0).trans (af.trans (b:=g.drew) ⟨rfl,rfl,rfl,Yk _,λ_ _ _=>rfl⟩ ((af.self e5.o).trans ((af.grown e1.o λr P=>?_).trans (af.grown (bD _ _ _ _) λr P=>Yh (Yg ?_)))))
   .exact Yh (Yh (Yh (Yh (Yh ⟨b,by rw [x.o.len];exact C.o,P⟩))))
   .rw [a6.o];exact P
theorem Jq(k:Nat)(h:bY)(a:DS)(m:Bs)(c2:Z)(u:Bs)(b0:Nat)(c:V)(i:DP c k h a)(a5:ah c c2 u)(r:Inv a b0)(g3:b0<=100000)(b1:m.length<=YO)(g7:a.down=false)(b9:ba a m=0)(L:Yi)(cap:Nat)(h2:c2=U (K L) u.length cap)(g6:u≠[])(b3:¬a.room - fD a<u.length)(g9:fj a=false):
  d prog 106 #[Q (K k),Yb ⟨m.toArray⟩,c2] c λz v=>iv k h 0 {cI a with all:=dy a.all (aM a.names m) ⟨(a.file (aM a.names m)).data++u,(a.file (aM a.names m)).safe⟩} c z v:=by
 have c5:=E (fK k h a m b1 c i);rw [b9] at c5;have a8:=E i;have i2:=E a5;have i7:c.cell? ⟨k,6,I⟩=K (.bool false):=g7▸i.cell 6;have i6:c.cell? k=K (A G a.room):=i.cell 0;have j2:=a5.len;obtain⟨l2,l3⟩:=r.room;have c6:=E (λ(c:V) (i:DP c k h a)=>oI k h a b0 c i r g3)
 have j9:fD a<=100000*16777216:=by
  have g1:=qq (f:=iJ a) (l:=cK a.names) (M:=16777216) λw _=>mD r w
  have g2:(cK a.names).length<=100000:=by unfold cK;rw [List.length_map];have:=r.gI;omega
  unfold fD;exact Yl g1 (Nat.mul_le_mul_right _ g2)
 obtain⟨q,T⟩:∃q,u.length=q:=⟨_,rfl⟩;obtain⟨a0,b7⟩:∃a0,fD a=a0:=⟨_,rfl⟩;have k0:=E T;have b6:=r.kE b9;have h3:(bT a.names m).getD 0=aM a.names m:=rfl
 have j8:a.all.length<=100000:=by have:=r.me;omega
 have j3:=(r.data _ b6).2;have c4:=E (λ(c:V) (i:DP c k h a)=>n_ k h a c i r.done.1 (by have:=r.done.2;omega) r.c_.2);rw [g9] at c4;have c9:=E b1;generalize j4:aM a.names m=b at*;have e2:=E h3;have y:=E b6;obtain⟨J,b5⟩:∃J,a.all.length=J:=⟨_,rfl⟩;have h9:=E b5;rw [b5] at b6 j8;have k6:(0:Int)<=(b:Int):=O;have k7:(b:Int)<(J:Int):=O;obtain⟨n,c0⟩:∃n,(a.file b).data=n:=⟨_,rfl⟩;have e4:=E c0;rw [c0] at j3⊢;rw [b7] at j9 c6;rw [T] at j2;rw [T] at h2 b3;rw [b7] at b3
 have k3:0<q:=by rw [<-T];exact List.length_pos_iff.2 g6
 subst h2
 have k4:q<=cap:=by obtain⟨_,_,z,g1,_⟩:=a5;simp at z;omega
 have k9:decide ((0:Int)<(q:Int))=true:=by simp;omega
 have l0:Zc G (a.room - (a0:Int))=a.room - (a0:Int):=Yx _ O
 have l1:decide (a.room - (a0:Int)<(q:Int))=false:=by simp;omega
 obtain⟨x,a6⟩:∃x,u=x:=⟨_,rfl⟩
 have e3:Hd (∀c,ah c (U (K L) q cap) u->ah c (U (K L) q cap) x):=λc i=>a6▸i
 have j1:n.length+x.length<=1099511627776:=by rw [<-a6,T];omega
 rw [a6];clear a6;clear i a5 r g3 b1 g7 b9 g6 b7 T g9 j4 h3 b5 c0 b3;go_enter func106,ntmps106
 go_wp2_with (first|(go_at_call 154;refine c5.o.mono ?_;rintro z v ⟨rfl,rfl⟩))
 go_region_held3 (λv=>v.cell? k=K (A G a.room)) (first|with_reducible exact e5.o|go_keep)
  (first|(go_at_call 155;refine(c6.o _ ?_).mono ?_;exact a8.o.stays λ_ _=>rfl;rintro z g ⟨rfl,b2⟩;have a7:X c c g:=(by first|exact b2|exact fU b2);have t:=E (a8.o.stays λs F=>a7.block s (a8.o.lt F));have e5:=E (show g.cell? k=K (A G a.room) from t.o.cell 0)))
 have i3:=E (e3.o _ (i2.o.ext a7));clear e5 i7 i6 e3 b2;go_wp2;obtain⟨p,a3,b8,j5,k5, -, -, -⟩:=t.o.head (j:=b) y.o;have a2:=E b8
 have h5:h.va=U (K p) J a3:=by rw [b8];exact congrArg (λw=>U _ w _) h9.o
 have e7:g.cell? ⟨k,1,I⟩=K (U (K p) J a3):=(t.o.cell 1).trans (congrArg K h5);have e8:g.cell? ⟨k,2,I⟩=K (.map (K h.bn)):=t.o.cell 2
 have j7:(YY 123 (.map (K h.bn)) (Yb ⟨m.toArray⟩) false).run prog g= .ok (A G b) g:=by rw [t.o.gI.mu c9.o];exact congrArg (λw:Nat=>Result.ok (A G w) g) e2.o
 have h1:(YY 123 (.map (K h.bn)) (Yb ⟨m.toArray⟩) false).run prog g.drew= .ok (A G b) g.drew:=by
  rw [aR.mu (w:=g.drew) t.o.gI c9.o];exact congrArg (λw:Nat=>Result.ok (A G w) g.drew) e2.o
 have a9:=E (show g.drew.cell? ⟨k,1,I⟩=K (U (K p) J a3)/\g.drew.cell? ⟨k,2,I⟩=K (.map (K h.bn))/\(YY 123 (.map (K h.bn)) (Yb ⟨m.toArray⟩) false).run prog g.drew= .ok (A G b) g.drew from⟨e7,e8,h1⟩);clear h1 b8 h5
 go_region_held3 (λv=>v.cell? ⟨k,1,I⟩=K (U (K p) J a3)/\v.cell? ⟨k,2,I⟩=K (.map (K h.bn))/\(YY 123 (.map (K h.bn)) (Yb ⟨m.toArray⟩) false).run prog v= .ok (A G b) v)
  (first|with_reducible exact a9.o|exact a9.o|go_keep)
  (fail)
 clear e7 e8 j7 a9;have c8:=E (show DP g.drew k h a from t.o.stays λ_ _=>rfl);have i4:=E (show ah g.drew (U (K L) q cap) x from i3.o)
 go_wp2_with fail
 refine(c4.o _ c8.o).mono ?_;rintro z a1 ⟨rfl,D,b4⟩;have h8:=E D;have e1:=E b4;have i5:=E (show ah a1 (U (K L) q cap) x from i4.o.Kb b4 c8.o);obtain⟨i9,k1,g0,j6, -,h6, -,c1⟩:=D.head (j:=b) y.o
 obtain rfl:p=i9:=by have:=a2.o;rw [g0] at this;simp at this;exact this.1.symm
 obtain⟨P,R,g8⟩:=aK (D.jl b y.o)
 have W:h.at b=U P n.length R:=by rw [g8];exact congrArg (λw:Bs=>U P w.length R) e4.o
 have i0:=E (show a1.ownsRow 0 5 1 (U P n.length R) n.length (ak n) from by have:=D.jl b y.o;rw [W] at this;have z:((cI a).file b).data=n:=e4.o;rw [z] at this;exact this)
 have h0:K p≠(U P n.length R).ownBlock:=by rw [<-W];exact fG (D.jl b y.o) D.all H p (by rw [a2.o];rfl)
 rw [W] at h6;have e0:=E W;have Mz:=c1 (b*2);have k8:Hd (∀s,a1.frozen? ⟨p,s,I⟩=false):=c1;clear c1 g0 g8 W D b4 j5
 go_wp2_with (at_builtin;refine eA rfl (.tmp 70) (.tmp 71) rfl 0 (U P n.length R) (U (K L) q cap) n x rfl i0.o rfl i5.o j1 (Yr _) ?_;intro e6 e9 c3 h4 C g5;have c7:=E (show a1.grownBy c3 (h.at b).ownBlock from by rw [e0.o];exact⟨C.os,C.tape,C.output,C.size,C.block⟩);have l4:c3.cell? ⟨p,b*2,I⟩=K (U P n.length R):=C.cell h6 h0;have l8:c3.frozen? ⟨p,b*2,I⟩=false:=(World.frozen?_of_block (a:=⟨p,b*2,I⟩) (C.block p j6 h0)).trans Mz;have i1:=E h4;have h7:=E g5;clear h4 C g5)
 go_returns
 have g4:(U e6 (n.length+x.length) e9).ownBlock=(h.at b).ownBlock∨∃s,(U e6 (n.length+x.length) e9).ownBlock=K s/\a1.heap.size<=s:=by
  rcases h7.o with i|i
  .exact Yg (by rw [e0.o];exact i)
  .exact Yh ⟨_,i,Yk _⟩
 have j0:=h8.o.qO (j:=b) y.o a2.o c7.o i1.o g4;have k2:((cI a).file b).safe=(a.file b).safe:=rfl;have l5:=e1.o.size;have l6:=a7.size;have l7:g.drew.heap.size=g.heap.size:=rfl;refine⟨by first|(rw [ar];done)|(rw [ar];rfl),_,j0,λs F=>qV F (by rw [t.o.len];exact y.o) ?_,?_⟩
 .rcases g4 with i|⟨s,i,g2⟩
  .exact Yg i
  .exact Yh ⟨s,i,O⟩
 .refine(af.aj a7).trans (af.trans (b:=g.drew) ⟨rfl,rfl,rfl,Yk _,λ_ _ _=>rfl⟩ ((af.self e1.o).trans ((af.grown c7.o λs F=>?_).trans (af.grown (bD _ _ _ _) λs F=>Yh (Yg ?_)))))
  .exact Yh (Yh (Yh (Yh (Yh ⟨b,by rw [t.o.len];exact y.o,F⟩))))
  .rw [a2.o];exact F
theorem Ek(i:Nat)(j:bY)(a:DS)(b:Bs)(m:Z)(c:Bs)(k:Nat)(h:V)(l:DP h i j a)(n:ah h m c)(q:Inv a k)(r:k<=100000)(s:b.length<=YO):
  d prog 106 #[Q (K i),Yb ⟨b.toArray⟩,m] h λx F=>iv i j (gf a b c) (du a b c) h x F:=by
 cases hd:a.down with
 |true=>
  have f:iN a b c=10:=by unfold iN;rw [if_pos hd]
  have o:gf a b c=10:=by unfold gf;rw [f,if_pos H]
  have p:du a b c=a:=by unfold du;rw [f,if_pos H]
  rw [o,p];exact Al i j a b m c k h l n q r s hd
 |false=>
  by_cases g:ba a b=0
  .by_cases u:c≠[]/\a.room - fD a<c.length
   .have f:iN a b c=9:=by unfold iN;rw [hd,if_neg H,if_neg (by simp [g]),if_pos u]
    have o:gf a b c=9:=by unfold gf;rw [f,if_pos H]
    have p:du a b c=a:=by unfold du;rw [f,if_pos H]
    rw [o,p];exact Am i j a b m c k h l n q r s hd g u.1 u.2
   .have f:iN a b c=0:=by unfold iN;rw [hd,if_neg H,if_neg (by simp [g]),if_neg u]
    have o:gf a b c=if fj a then 10 else 0:=by unfold gf;rw [f];simp
    have p:du a b c={cI a with all:=dy a.all (aM a.names b) (tH a b c)}:=by unfold du;rw [f];simp
    rw [o,p];unfold tH;obtain⟨w,cap,v,J,L,P,C⟩:=id n;by_cases t:c=[]
    .have D:c.length=0:=by rw [t];rfl
     rw [D] at v
     cases hfl:fj a with
     |true=>rw [if_pos rfl,if_pos rfl];exact Jn i j a b m c k h l n q r s hd g w cap v t hfl
     |false=>rw [if_neg H,if_neg H];exact Jo i j a b m c k h l n q r s hd g w cap v t hfl
    .have z:¬a.room - fD a<c.length:=λl=>u ⟨t,l⟩
     cases w with
     |none=>obtain⟨_,_,x,_⟩:=C 0 (List.length_pos_iff.2 t);cases x
     |some y=>
      cases hfl:fj a with
      |true=>rw [if_pos rfl,if_pos rfl];exact Jp i j a b m c k h l n q r s hd g y cap v t z hfl
      |false=>rw [if_neg H,if_neg H];exact Jq i j a b m c k h l n q r s hd g y cap v t z hfl
  .have f:iN a b c=ba a b:=by unfold iN;rw [hd,if_neg H,if_pos g]
   have o:gf a b c=ba a b:=by unfold gf;rw [f,if_pos g]
   have p:du a b c=a:=by unfold du;rw [f,if_pos g]
   rw [o,p];exact yT i j a b m c k h l n q r s hd g
def dE(h:Int)(b:Bs)(a:V)(g:Ending)(f:V):Prop:=
 ∃c,g=e (Ye #[c,bj h])/\f.ownsRow a 5 1 c b.length (ak b)/\X a a f
theorem nh(a:V):(a.alloc (M #[] 5)).ownsRow a 5 1 (U (K a) 0 0) ([]:Bs).length (ak []):=
 World.ownsRow_lit a #[] 0 (Yk _) (by simp [YO]) Y
theorem wc(f:Nat)(h:bY)(a:DS)(c:Bs)(b4:Nat)(b:V)(n:DP b f h a)(C:Inv a b4)(a3:b4<=100000)(J:c.length<=YO):
  d prog 191 #[Q (K f),Yb ⟨c.toArray⟩] b λz k=>dE (eh a c) (cy a c) b z k:=by
 have R:=E (fK f h a c J b n);have p:=E n;have b5:b.cell? ⟨f,6,I⟩=K (.bool a.down):=n.cell 6
 cases hd:a.down with
 |true=>
  have l:eh a c=10:=by unfold eh;rw [if_pos hd]
  have v:cy a c=[]:=by unfold cy;rw [l,if_neg H]
  rw [l,v];rw [hd] at b5;generalize ba a c=x at*;clear n C a3 J hd l v;go_enter func191,ntmps191
  go_wp2_with (first|(go_at_call 154;refine R.o.mono ?_;rintro z k ⟨rfl,rfl⟩))
  go_returns;exact⟨_,by rw [aT (k:=10) H];rfl,YC _ _ _ 1,Yn _ _⟩
 |false=>
  rw [hd] at b5;by_cases r:ba a c=0
  .have l:eh a c=0:=by unfold eh;rw [hd,if_neg H,r]
   have v:cy a c=(a.file (aM a.names c)).data:=by unfold cy;rw [l,if_pos rfl]
   rw [l,v];rw [r] at R;have a7:=C.kE r;have b8:(bT a.names c).getD 0=aM a.names c:=rfl
   have e4:a.all.length<=100000:=by have:=C.me;omega
   have e2:=(C.data _ a7).2;have c2:=E J;generalize e3:aM a.names c=g at*;have c7:=E b8;have a0:=E a7;obtain⟨s,a6⟩:∃s,a.all.length=s:=⟨_,rfl⟩;have c8:=E a6;rw [a6] at a7 e4;have e8:(0:Int)<=(g:Int):=O;have e9:(g:Int)<(s:Int):=O;obtain⟨i,a8⟩:∃i,(a.file g).data=i:=⟨_,rfl⟩;have b1:=E a8;rw [a8] at e2⊢;have c5:=E (show([]:Bs).length+i.length<=1099511627776 from by simp;omega);obtain⟨m,y,c0,b7,e7,W, -, -⟩:=n.head (j:=g) a0.o
   have c1:h.va=U (K m) s y:=by rw [c0];exact congrArg (λx=>U _ x _) c8.o
   obtain⟨t,u,b6⟩:=aK (n.jl g a0.o)
   have a5:h.at g=U t i.length u:=by rw [b6];exact congrArg (λx:Bs=>U t x.length u) b1.o
   have c3:=E (show ah b (U t i.length u) i from by have:=aq (n.jl g a0.o);rw [a5] at this;have z:(a.file g).data=i:=b1.o;rw [z] at this;exact this);rw [a5] at W;have a1:b.cell? ⟨f,1,I⟩=K (U (K m) s y):=(n.cell 1).trans (congrArg K c1);have a2:b.cell? ⟨f,2,I⟩=K (.map (K h.bn)):=n.cell 2
   have a9:Hd (∀P,aR P h.bn a.names->(YY 123 (.map (K h.bn)) (Yb ⟨c.toArray⟩) false).run prog P= .ok (A G g) P):=λP r=>by
    rw [r.mu c2.o];exact congrArg (λx:Nat=>Result.ok (A G x) P) c7.o
   have b2:=E (show b.drew.cell? ⟨f,1,I⟩=K (U (K m) s y)/\b.drew.cell? ⟨f,2,I⟩=K (.map (K h.bn))/\b.drew.cell? ⟨m,g*2,I⟩=K (U t i.length u)/\(YY 123 (.map (K h.bn)) (Yb ⟨c.toArray⟩) false).run prog b.drew= .ok (A G g) b.drew from⟨a1,a2,W,a9.o _ p.o.gI⟩);have c6:=(p.o.gI.alloc (M #[] 5))
   have b0:=p.o.stays (w':=b.alloc (M #[] 5)) λT L=>heap_alloc_old b _ (p.o.lt L)
   have b3:=E (show(b.alloc (M #[] 5)).drew.cell? ⟨f,1,I⟩=K (U (K m) s y)/\(b.alloc (M #[] 5)).drew.cell? ⟨f,2,I⟩=K (.map (K h.bn))/\(b.alloc (M #[] 5)).drew.cell? ⟨m,g*2,I⟩=K (U t i.length u)/\(YY 123 (.map (K h.bn)) (Yb ⟨c.toArray⟩) false).run prog (b.alloc (M #[] 5)).drew= .ok (A G g) (b.alloc (M #[] 5)).drew from⟨(Ys _ _ _ p.o.ay.lt).trans a1,(Ys _ _ _ p.o.ay.lt).trans a2,(Ys _ _ _ b7).trans W,a9.o _ b0.gI⟩);clear n C a3 J hd r e3 b8 a6 a8 b6 a5 c0 c1 l v c6 b0;go_enter func191,ntmps191
   go_wp2_with (first|(go_at_call 154;refine R.o.mono ?_;rintro z k ⟨rfl,rfl⟩))
   go_region_held3 (λk=>k.cell? ⟨f,1,I⟩=K (U (K m) s y)/\k.cell? ⟨f,2,I⟩=K (.map (K h.bn))/\k.cell? ⟨m,g*2,I⟩=K (U t i.length u)/\(YY 123 (.map (K h.bn)) (Yb ⟨c.toArray⟩) false).run prog k= .ok (A G g) k)
    (first|with_reducible exact b2.o|with_reducible exact b3.o|with_reducible exact e0.o|exact b2.o|exact b3.o)
    ((refine cQ (by rfl) _ _ (by rfl) b (U (K b) 0 0) (U t i.length u) [] i (by rfl) (nh b) (by rfl) (c3.o.ext N) c5.o Y ?_;intro e5 e6 w b9 D e1;have F:=E (show X b b w from((Yn _ _).alloc (Yk _) (M #[] 5)).grown (w':=w) ⟨D.os,D.tape,D.output,D.size,D.block⟩ Y (by intro T L;simp [YT] at L;omega));have c4:=E (p.o.stays λT L=>F.o.block T (p.o.lt L));have e0:=E (show w.cell? ⟨f,1,I⟩=K (U (K m) s y)/\w.cell? ⟨f,2,I⟩=K (.map (K h.bn))/\w.cell? ⟨m,g*2,I⟩=K (U t i.length u)/\(YY 123 (.map (K h.bn)) (Yb ⟨c.toArray⟩) false).run prog w= .ok (A G g) w from⟨(F.o.cell (p:=⟨f,1,I⟩) p.o.ay.lt).trans a1,(F.o.cell (p:=⟨f,2,I⟩) p.o.ay.lt).trans a2,(F.o.cell (p:=⟨m,g*2,I⟩) b7).trans W,a9.o _ c4.o.gI⟩);have c9:=E b9;clear b9 D e1))
   all_goals go_wp2
   all_goals go_returns
   all_goals exact⟨_,by first|(rw [ar];done)|(rw [ar];rfl),by simpa using c9.o,F.o⟩
  .have l:eh a c=ba a c:=by unfold eh;rw [hd,if_neg H]
   have v:cy a c=[]:=by unfold cy;rw [l,if_neg r]
   rw [l,v];generalize ba a c=x at*;have q:=jT r;clear n C a3 J hd r l v;go_enter func191,ntmps191
   go_wp2_with (first|(go_at_call 154;refine R.o.mono ?_;rintro z k ⟨rfl,rfl⟩))
   go_returns;exact⟨_,rfl,YC _ _ _ 1,Yn _ _⟩
end
end Go.Proofs.YtajkpgaheechmaaGreatDoor
namespace Go.Proofs
section
open Go.Shelf
def Tryz.tQ:Go.Shelf.Ren:=⟨λ|189=>117|125=>162|257=>161|128=>205|129=>206|294=>196|295=>197|296=>198|297=>199|298=>200|299=>201|216=>202|300=>203|301=>204|328=>243|329=>244|330=>245|331=>246|332=>247|215=>248|343=>274|a=>a,λ|28=>26|3=>3|46=>206|0=>0|51=>238|53=>304|4=>4|183=>297|182=>296|131=>253|5=>5|9=>9|218=>333|222=>337|228=>358|229=>359|a=>a,λ|a=>a⟩
theorem Tryz.tz:Go.Proofs.Lays.n189 prog Tryz.tQ:={
 mixed:=by kernel_rfl
 f125:=func162.trans (congrArg some (by kernel_rfl))
 f128:=func205.trans (congrArg some (by kernel_rfl))
 f129:=func206.trans (congrArg some (by kernel_rfl))
 f189:=func117.trans (congrArg some (by kernel_rfl))
 f215:=func248.trans (congrArg some (by kernel_rfl))
 f216:=func202.trans (congrArg some (by kernel_rfl))
 f257:=func161.trans (congrArg some (by kernel_rfl))
 f294:=func196.trans (congrArg some (by kernel_rfl))
 f295:=func197.trans (congrArg some (by kernel_rfl))
 f296:=func198.trans (congrArg some (by kernel_rfl))
 f297:=func199.trans (congrArg some (by kernel_rfl))
 f298:=func200.trans (congrArg some (by kernel_rfl))
 f299:=func201.trans (congrArg some (by kernel_rfl))
 f300:=func203.trans (congrArg some (by kernel_rfl))
 f301:=func204.trans (congrArg some (by kernel_rfl))
 f328:=func243.trans (congrArg some (by kernel_rfl))
 f329:=func244.trans (congrArg some (by kernel_rfl))
 f330:=func245.trans (congrArg some (by kernel_rfl))
 f331:=func246.trans (congrArg some (by kernel_rfl))
 f332:=func247.trans (congrArg some (by kernel_rfl))
 f343:=func274.trans (congrArg some (by kernel_rfl))
 t0:=underlying0
 a0:=Tryz.isAgg0
 z0:=Tryz.sizeOf0
 v0:=Tryz.zeroValue0
 t3:=underlying3
 a3:=Tryz.isAgg3
 z3:=Tryz.sizeOf3
 v3:=Tryz.zeroValue3
 t4:=underlying4
 a4:=Tryz.isAgg4
 z4:=Tryz.sizeOf4
 v4:=Tryz.zeroValue4
 t5:=underlying5
 a5:=Tryz.isAgg5
 z5:=Tryz.sizeOf5
 v5:=Tryz.zeroValue5
 t9:=underlying9
 a9:=Tryz.isAgg9
 z9:=Tryz.sizeOf9
 v9:=Tryz.zeroValue9
 t28:=underlying26
 a28:=Tryz.isAgg26
 z28:=Tryz.sizeOf26
 v28:=Tryz.zeroValue26
 t46:=underlying206
 a46:=Tryz.isAgg206
 z46:=Tryz.sizeOf206
 v46:=Tryz.zeroValue206
 t51:=underlying238
 a51:=Tryz.isAgg238
 z51:=Tryz.sizeOf238
 v51:=Tryz.zeroValue238
 t53:=underlying304
 a53:=Tryz.isAgg304
 z53:=Tryz.sizeOf304
 v53:=Tryz.zeroValue304
 t131:=underlying253
 a131:=Tryz.isAgg253
 z131:=Tryz.sizeOf253
 v131:=Tryz.zeroValue253
 t182:=underlying296
 a182:=Tryz.isAgg296
 z182:=Tryz.sizeOf296
 v182:=Tryz.zeroValue296
 t183:=underlying297
 a183:=Tryz.isAgg297
 z183:=Tryz.sizeOf297
 v183:=Tryz.zeroValue297
 t218:=underlying333
 a218:=Tryz.isAgg333
 z218:=Tryz.sizeOf333
 v218:=Tryz.zeroValue333
 t222:=underlying337
 a222:=Tryz.isAgg337
 z222:=Tryz.sizeOf337
 v222:=Tryz.zeroValue337
 t228:=underlying358
 a228:=Tryz.isAgg358
 z228:=Tryz.sizeOf358
 v228:=Tryz.zeroValue358
 t229:=underlying359
 a229:=Tryz.isAgg359
 z229:=Tryz.sizeOf359
 v229:=Tryz.zeroValue359}
open Go.Sort Go.RowKit in
theorem Tryz.Pu(ay off cap:Nat)(zs:List Int)(w:World)(hH:Holds (Value.int .i64) w ay off zs.toArray)(hblk:ay<w.heap.size)(hsz:zs.length<4611686018427387904):
  Calls prog 117 #[.slice (some ⟨ay,off,none⟩) zs.length cap] w λe w'=>
   e= .returned (.tuple #[])/\∃n os,w'=grow (putRow (Value.int .i64) (Sort.ahead w n) ay off (zs.mergeSort λx y=>decide (x<=y)).toArray) os:=Any.slices_Sort_int Tryz.tz ay off cap zs w hH hblk hsz
def Tryz.tR:Go.Shelf.Ren:=⟨λ|190=>121|125=>162|258=>170|128=>205|129=>206|302=>217|303=>218|304=>219|305=>220|306=>221|307=>222|308=>223|309=>224|310=>225|333=>253|329=>244|330=>245|334=>254|335=>255|336=>256|344=>276|a=>a,λ|31=>136|9=>9|3=>3|46=>206|0=>0|51=>238|53=>304|4=>4|183=>297|182=>296|131=>253|5=>5|218=>333|222=>337|228=>358|229=>359|a=>a,λ|a=>a⟩
theorem Tryz.tA:Go.Proofs.Lays.n190 prog Tryz.tR:={
 mixed:=by kernel_rfl
 f125:=func162.trans (congrArg some (by kernel_rfl))
 f128:=func205.trans (congrArg some (by kernel_rfl))
 f129:=func206.trans (congrArg some (by kernel_rfl))
 f190:=func121.trans (congrArg some (by kernel_rfl))
 f258:=func170.trans (congrArg some (by kernel_rfl))
 f302:=func217.trans (congrArg some (by kernel_rfl))
 f303:=func218.trans (congrArg some (by kernel_rfl))
 f304:=func219.trans (congrArg some (by kernel_rfl))
 f305:=func220.trans (congrArg some (by kernel_rfl))
 f306:=func221.trans (congrArg some (by kernel_rfl))
 f307:=func222.trans (congrArg some (by kernel_rfl))
 f308:=func223.trans (congrArg some (by kernel_rfl))
 f309:=func224.trans (congrArg some (by kernel_rfl))
 f310:=func225.trans (congrArg some (by kernel_rfl))
 f329:=func244.trans (congrArg some (by kernel_rfl))
 f330:=func245.trans (congrArg some (by kernel_rfl))
 f333:=func253.trans (congrArg some (by kernel_rfl))
 f334:=func254.trans (congrArg some (by kernel_rfl))
 f335:=func255.trans (congrArg some (by kernel_rfl))
 f336:=func256.trans (congrArg some (by kernel_rfl))
 f344:=func276.trans (congrArg some (by kernel_rfl))
 t0:=underlying0
 a0:=Tryz.isAgg0
 z0:=Tryz.sizeOf0
 v0:=Tryz.zeroValue0
 t3:=underlying3
 a3:=Tryz.isAgg3
 z3:=Tryz.sizeOf3
 v3:=Tryz.zeroValue3
 t4:=underlying4
 a4:=Tryz.isAgg4
 z4:=Tryz.sizeOf4
 v4:=Tryz.zeroValue4
 t5:=underlying5
 a5:=Tryz.isAgg5
 z5:=Tryz.sizeOf5
 v5:=Tryz.zeroValue5
 t9:=underlying9
 a9:=Tryz.isAgg9
 z9:=Tryz.sizeOf9
 v9:=Tryz.zeroValue9
 t31:=underlying136
 a31:=Tryz.isAgg136
 z31:=Tryz.sizeOf136
 v31:=Tryz.zeroValue136
 t46:=underlying206
 a46:=Tryz.isAgg206
 z46:=Tryz.sizeOf206
 v46:=Tryz.zeroValue206
 t51:=underlying238
 a51:=Tryz.isAgg238
 z51:=Tryz.sizeOf238
 v51:=Tryz.zeroValue238
 t53:=underlying304
 a53:=Tryz.isAgg304
 z53:=Tryz.sizeOf304
 v53:=Tryz.zeroValue304
 t131:=underlying253
 a131:=Tryz.isAgg253
 z131:=Tryz.sizeOf253
 v131:=Tryz.zeroValue253
 t182:=underlying296
 a182:=Tryz.isAgg296
 z182:=Tryz.sizeOf296
 v182:=Tryz.zeroValue296
 t183:=underlying297
 a183:=Tryz.isAgg297
 z183:=Tryz.sizeOf297
 v183:=Tryz.zeroValue297
 t218:=underlying333
 a218:=Tryz.isAgg333
 z218:=Tryz.sizeOf333
 v218:=Tryz.zeroValue333
 t222:=underlying337
 a222:=Tryz.isAgg337
 z222:=Tryz.sizeOf337
 v222:=Tryz.zeroValue337
 t228:=underlying358
 a228:=Tryz.isAgg358
 z228:=Tryz.sizeOf358
 v228:=Tryz.zeroValue358
 t229:=underlying359
 a229:=Tryz.isAgg359
 z229:=Tryz.sizeOf359
 v229:=Tryz.zeroValue359}
open Go.Sort Go.RowKit in
theorem Tryz.DK(ay off cap:Nat)(ss:List (List UInt8))(w:World)(hH:Holds encStr w ay off ss.toArray)(hblk:ay<w.heap.size)(hsz:ss.length<4611686018427387904):
  Calls prog 121 #[.slice (some ⟨ay,off,none⟩) ss.length cap] w λe w'=>
   e= .returned (.tuple #[])/\∃n os,w'=grow (putRow encStr (Sort.ahead w n) ay off (ss.mergeSort λx y=>decide (x<=y)).toArray) os:=Any.slices_Sort_string Tryz.tA ay off cap ss w hH hblk hsz
open Go.RowKit Go.Sort in
theorem Tryz.sJ(p:Option Addr)(cap:Nat)(w:World):
  Calls prog 121 #[.slice p 0 cap] w λe w'=>e= .returned (.tuple #[])/\w'=w:=Any.slices_Sort_string_none Tryz.tA p cap w
open Go.RowKit Go.Sort in
theorem Tryz.xq(p:Option Addr)(cap:Nat)(w:World):
  Calls prog 117 #[.slice p 0 cap] w λe w'=>e= .returned (.tuple #[])/\w'=w:=Any.slices_Sort_int_none Tryz.tz p cap w
end
end Go.Proofs
namespace Go.Proofs.YtajkpgaheechmaaGreatDoor
open _root_.Go.Proofs.Tryz
open Go.Value renaming int->A,slice->U,pointer->Q,nilIface->Ya,string->Yb,agg->Yc,tuple->Ye,ownBlock->YT
open Go.IntKind renaming i64->G,wrap->Zc
open Option renaming none->I,some->K
open Go.Obj renaming cells->M
open Go.Ending renaming returned->e
open Go renaming World->V,Value->Z,Calls->d,Addr->Yi,maxLen->YO
open Go.RowKit renaming Below->X,intOf->Yz
open Or renaming inl->Yg,inr->Yh
open Go.World renaming block_lt_of_cell?->Yj,cell?_alloc_lt->Ys,ownsRow_nil->YC
open Nat renaming le_refl->Yk,le_trans->Yl,zero_le->Yr
open Go.RowKit.Below renaming refl->Yn
open List renaming getD_eq_getElem?_getD->Yp,length_append->Yq,getElem?_eq_getElem->YM,range->Za,length_singleton->Zb
open Go.IntWalk renaming i64_in->Yx
open Option.some renaming inj->YG
open Go.Instr renaming lookup->YY
section
open Go.RowKit Go.Extern.Stop Go.Stop Go.Extern Go.Maps Go.Sort
def aI(a:DS):List Bs:=(cK a.names).mergeSort λb c=>decide (b<=c)
theorem dk(a:DS):(aI a).length=a.names.length:=by simp [aI,cK]
theorem Uq:(prog.info? 9).map (λa=>(a.zero,a.size,a.bytes))=K (K (Yb ⟨#[]⟩),1,16):=B
theorem By{a:DS}{f:V}{i:Nat}{c:bY}(g:DP f i c a):∀b∈cK a.names,b.length<=YO:=by
 intro b h;exact strKeys_le (show f.ownsMap prog 9 (plainElem prog 3) c.bn a.names.length (ui a.names) from g.gI) underlying9 b (by rw [lK];exact h)
def qv(b:DS)(a:V)(g:Ending)(f:V):Prop:=∃c,g=e c/\f.ownsRow a 9 1 c b.names.length ((aI b).map encStr)/\X a a f
theorem ra(T:Nat)(l:bY)(c:DS)(a7:Nat)(a:V)(r:DP a T l c)(b7:Inv c a7)(g0:a7<=100000):
  d prog 78 #[Q (K T)] a (qv c a):=by
 have h6:=E r;have a3:=E (show a.ownsMap prog 9 (plainElem prog 3) l.bn c.names.length (ui c.names) from r.gI);have g3:=r.gI.lt
 have i2:c.names.length<=100000:=by have:=b7.gI;omega
 have h8:a.cell? ⟨T,2,I⟩=K (.map (K l.bn)):=r.cell 2;clear r b7 g0;go_enter func78,ntmps78
 go_wp2_with (at_range;refine wpList_range_own _ rfl _ 123 rfl 9 3 qj underlying123 _ l.bn _ _ rfl a3.o ?_;intro w0 c8 n g8)
 go_frame;have e5:=E c8;have g1:X a a w0:=⟨n.os,n.tape,n.output,n.size,λh2 L=>n.block h2 L Y⟩;clear c8 n g8
 go_loopw [3] (λh4 wr=>∃(left:Lit->Bool) (C:Nat) (b:List Bs),wr.ranges prog 9 (plainElem prog 3) l.bn a c.names.length (ui c.names) left C/\b.length+C<=c.names.length/\Collected (ui c.names) left b/\wr.ownsRow a 9 1 h4 b.length (b.map encStr)/\X a a wr)
  (λ_ wr=>wr.rangeLeft l.bn a)
 case atStart=>exact⟨_,_,[],e5.o,by simp [rI],Collected.start _,YC _ _ _ _,g1⟩
 case round=>
  obtain⟨left,C,b,c7,g4,b6,g,s⟩:=hrel;have x:=E c7;have a0:=E b6;obtain⟨f,R⟩:∃f,b.length=f:=⟨_,rfl⟩;have i:Hd (b.length=f):=R;rw [R] at g4 g;obtain⟨a8,q,rfl⟩:=aK g;have z:=E g;have i1:f<=100000:=O;clear c7 b6 g R
  go_wp2_with (at_next;refine wpList_next_ranges _ rfl _ rfl 9 qj (plainElem prog 3) Go.Proofs.encStr (A G) (λi3 h3 L=>by obtain⟨h,h0,_⟩:=Maps.keyOf_str underlying9 L;exact⟨h,h0⟩) (λi5 v p=>by obtain⟨a9,rfl,_⟩:=plainElem_int_inv underlying3 p;exact⟨a9,rfl⟩) l.bn a _ _ _ _ rfl x.o ?_ ?_)
  .intro c1 P
   have u:=a0.o.perm a3.o qj underlying9 P;rw [lK] at u;have w:Hd (b.mergeSort (λh v=>decide (h<=v))=aI c):=mergeSort_of_perm u
   have a1:Hd (f=c.names.length):=by show _=_;rw [<-i.o,u.length_eq];simp [cK]
   have g:=z.o;rw [<-i.o] at g
   rcases g.2 with⟨c6,b1⟩|⟨j,cap,h9,p,c0,t,b2,b3,b4,b5⟩
   .obtain⟨rfl,e9,rfl⟩:=Value.slice.inj c6
    have c2:b=[]:=List.length_eq_zero_iff.1 b1
    obtain rfl:f=0:=by rw [<-i.o,c2];rfl
    clear u g P c1 c6 b1 e9
    go_wp2_with (go_at_call 121;refine(Tryz.sJ I 0 _).mono ?_;rintro D W ⟨rfl,rfl⟩)
    go_returns;refine⟨U I 0 0,rfl,?_,s⟩;rw [<-w.o,c2,<-a1.o];exact(show _ from by rw [List.mergeSort_nil];exact YC _ _ _ _)
   .obtain⟨rfl, -,rfl⟩:=Value.slice.inj p
    have e4:Hd (Holds encStr wr j 0 b.toArray):=holds_of_block t (by simpa using b5);have g6:j<wr.heap.size:=(Array.getElem?_eq_some_iff.1 t).1;have h7:=E t
    have e6:Hd (∀(m:Nat) (k:Array Obj),(grow (putRow encStr (Sort.ahead wr m) j 0 (aI c).toArray) k).ownsRow a 9 1 (U (K j) f q) f ((aI c).map encStr)):=λm k=>by have:=ownsRow_sorted (n:=m) (os:=k) (ts:=b.mergeSort λh v=>decide (h<=v)) (ss:=b) Y c0 t b2 b3 b4;rw [w.o,i.o] at this;exact this
    have e7:Hd (b.length<4611686018427387904):=by show _<_;rw [i.o];omega
    clear u g P c1 t p b5 b4 b3 b2
    have e3:Hd (d prog 121 #[U (K j) f q] wr λD W=>D=e (Ye #[])/\∃m k,W=grow (putRow encStr (Sort.ahead wr m) j 0 (aI c).toArray) k):=by
     have:=Tryz.DK j 0 q b wr e4.o g6 e7.o;rw [w.o,i.o] at this;exact this
    go_wp2_with (go_at_call 121;refine e3.o.mono ?_;rintro D W ⟨rfl,m,k,rfl⟩)
    go_returns;refine⟨U (K j) f q,rfl,?_,s.grown (grownBy_sorted _) s.size (λh1 J=>by cases J;exact c0)⟩;rw [<-a1.o];exact e6.o m k
  .intro h a9 h3 i9 j0 e1 e8 c3 c4 p b8 c9 c5 F g9 i0
   obtain⟨h5,b0,rfl,_⟩:=Maps.keyOf_str underlying9 c3;obtain rfl:h=h5:=encStr_inj b0
   have y:Hd (e1.ownsRow a 9 1 (U a8 f q) f (b.map encStr)):=by
    have:=z.o.kept F (Or.inr (row_ne_iter z.o x.o).symm);exact this
   have b9:X a a e1:=s.grown F s.size (λh1 J=>by cases J;exact Yk _);have e2:=E (a0.o.step c4 b8);have a5:=E c9;have a2:=E c5;clear c3 c4 p b8 c9 c5 F g9 b0
   go_wp2_with (at_builtin;refine aX 136 9 1 16 _ underlying136 Uq rfl H rfl _ _ rfl a.heap.size (U a8 f q) f (b.map encStr) [encStr h] rfl y.o rfl rfl rfl (by intro i4 e0;simp at e0;subst e0;rfl) O H b9.size ?_;intro i6 i7 g7 g2 g5 _;go_frame)
   have a6:=E (a5.o.kept g5 (row_ne_low y.o g3) (row_ne_iter y.o a5.o));go_roundw
   case rel=>exact⟨_,e8,b++[h],a6.o,by rw [Yq,Zb];have:=a2.o;have:=i.o;omega,e2.o,by rw [Yq,Zb,i.o];simpa using g7,b9.trans g2⟩
   case measure=>rw [a6.o.left_eq,x.o.left_eq];exact a2.o
structure FV where
 name:Bs
 data:Bs
 safe:Nat
def FV.ae:FV:=⟨[],[],0⟩
def Nx(b:List FV)(c:List Z)(a:Nat):List Z:=[Yb ⟨(b.getD a FV.ae).name.toArray⟩,c.getD a Ya,A G ((b.getD a FV.ae).safe:Int)]
def mM(a:List FV)(b:List Z):List Z:=(Za a.length).flatMap (Nx a b)
theorem AH(b:List FV)(c:List Z)(a:FV)(h:Z)(g:c.length=b.length):mM (b++[a]) (c++[h])=mM b c++[Yb ⟨a.name.toArray⟩,h,A G (a.safe:Int)]:=by
 unfold mM;rw [Yq,Zb,List.range_succ,List.flatMap_append];congr 1
 .refine mL λi f=>?_
  unfold Nx;rw [dQ f,dQ (by rw [g];exact f)]
 .rw [List.flatMap_cons,List.flatMap_nil,List.append_nil]
  unfold Nx;rw [cS,<-g,cS]
def iC(g:V)(f:Nat)(h:Z)(a:List FV):Prop:=
 ∃c:List Z,g.ownsRow f 74 3 h a.length (mM a c)/\c.length=a.length/\∀b,b<a.length->g.ownsRow f 5 1 (c.getD b Ya) (a.getD b FV.ae).data.length (ak (a.getD b FV.ae).data)
theorem iC.nil(b:V)(a:Nat):iC b a (U I 0 0) []:=⟨[],YC b a _ 3,rfl,λf c=>by simp at c⟩
theorem iC.ext{a h:V}{b:Nat}{g:Z}{c:List FV}(i:iC a b g c)(f:X a a h):iC h b g c:=by
 obtain⟨o,j,k,l⟩:=i;exact⟨o,aG j f,k,λn m=>aG (l n m) f⟩
theorem iC.dm{k:V}{f:Nat}{c:Z}{b:List FV}(h:iC k f c b){n:Nat}(j:b.length=n):∃a cap,c=U a n cap:=by
 obtain⟨o,i,l,m⟩:=h;obtain⟨a,cap,g⟩:=aK i;exact⟨a,cap,by rw [g,j]⟩
theorem iC.mono{g:V}{a B':Nat}{f:Z}{b:List FV}(h:iC g a f b)(c:B'<=a):iC g B' f b:=by
 obtain⟨n,i,j,k⟩:=h;exact⟨n,aA i c,j,λm l=>aA (k m l) c⟩
theorem iC.cellAt{f:V}{i:Nat}{k:Option Yi}{n cap:Nat}{b:List FV}(p:iC f i (U k n cap) b){j:Nat}(h:j<b.length):
  ∃a l,k=K ⟨a,0,I⟩/\a<f.heap.size/\f.cell? ⟨a,j*3,I⟩=K (Yb ⟨(b.getD j FV.ae).name.toArray⟩)/\f.cell? ⟨a,j*3+1,I⟩=K l/\f.cell? ⟨a,j*3+2,I⟩=K (A G ((b.getD j FV.ae).safe:Int))/\f.ownsRow i 5 1 l (b.getD j FV.ae).data.length (ak (b.getD j FV.ae).data):=by
 obtain⟨s,g,v,q⟩:=p
 rcases aV g with⟨_,u⟩|⟨a,t,o, -,r, -⟩
 .omega
 .obtain⟨rfl,rfl,rfl⟩:=Value.slice.inj o
  refine⟨a,s.getD j Ya,rfl,r,?_,?_,?_,q j h⟩
  .exact au g (dz (m:=3) (c:=0) (λ_=>rfl) _ h H)
  .exact au g (dz (m:=3) (c:=1) (λ_=>rfl) _ h H)
  .exact au g (dz (m:=3) (c:=2) (λ_=>rfl) _ h H)
theorem Sm:(prog.info? 74).map (λa=>(a.zero,a.size,a.bytes))=K (K (Yc #[Yb ⟨#[]⟩,U I 0 0,A G 0]),3,48):=B
theorem iC.app{g h:V}{b:Nat}{v v' c:Z}{fs:List FV}{ps:List Z}{f:FV}(n:g.ownsRow b 74 3 v fs.length (mM fs ps))(j:ps.length=fs.length)
  (o:∀a,a<fs.length->g.ownsRow b 5 1 (ps.getD a Ya) (fs.getD a FV.ae).data.length (ak (fs.getD a FV.ae).data))
  (s:g.ownsRow b 5 1 c f.data.length (ak f.data))(p:g.grownBy h v.ownBlock)(t:h.ownsRow b 74 3 v' (fs.length+1) (mM fs ps++[Yb ⟨f.name.toArray⟩,c,A G (f.safe:Int)])):iC h b v' (fs++[f]):=by
 refine⟨ps++[c],by rw [AH fs ps f c j,Yq,Zb];exact t,by simp [j],λa r=>?_⟩
 have aD:∀{q:Z} {l:Nat} {i:List Z},g.ownsRow b 5 1 q l i->h.ownsRow b 5 1 q l i:=λ{q l i} m=>cP m p (fG n m H)
 rcases Nat.lt_or_ge a fs.length with k|k
 .rw [dQ O,dQ k]
  exact aD (o a k)
 .obtain rfl:a=fs.length:=by simp at r;omega
  rw [cS,show(ps++[c]).getD fs.length Ya=c from by rw [<-j];exact cS];exact aD s
def uX(a:DS)(b:Bs):FV:=⟨b,(a.file (aM a.names b)).data,(a.file (aM a.names b)).safe⟩
def cY(a:DS):List FV:=(aI a).map (uX a)
theorem jw(a:DS):(cY a).length=a.names.length:=by rw [cY,List.length_map,dk]
theorem oV{a:NM}{c:Bs}(f:c∈cK a):∃b,bT a c=K b/\(c,b)∈a:=by
 obtain⟨q,g,rfl⟩:=List.mem_map.1 f
 cases e:bT a q.1 with
 |some b=>exact⟨b,rfl,jF e⟩
 |none=>
  unfold bT at e;rw [Option.map_eq_none_iff,List.find?_eq_none] at e;exact absurd (e q g) Y
theorem Fx{a:DS}{g:Nat}(j:Inv a g){b:Nat}(k:b<a.names.length):aM a.names ((aI a).getD b [])<a.all.length/\(aI a).getD b []∈cK a.names:=by
 have c:b<(aI a).length:=by rw [dk];exact k
 have l:(aI a).getD b []∈aI a:=by rw [Yp,YM c];exact List.getElem_mem c
 have f:(aI a).getD b []∈cK a.names:=List.mem_mergeSort.1 l;obtain⟨m,h,i⟩:=oV f;refine⟨?_,f⟩;unfold aM;rw [h];exact j.PO _ i
theorem oO{f:Type}(b:List f)(g:f){a:Nat}(c:a<b.length):b.take (a+1)=b.take a++[b.getD a g]:=by
 rw [List.take_succ_eq_append_getElem c,Yp,YM c];rfl
theorem Kf(a:DS){b:Nat}(f:b<a.names.length):(cY a).getD b FV.ae=uX a ((aI a).getD b []):=by
 have c:b<(aI a).length:=by rw [dk];exact f
 unfold cY;rw [Yp,List.getElem?_map,YM c,Yp,YM c];rfl
def Jj(f:DS)(a:V)(g:Ending)(c:V):Prop:=∃b,g=e b/\iC c a b (cY f)/\X a a c
theorem Kg(s:Nat)(m:bY)(a:DS)(L:Nat)(a0:V)(b4:DP a0 s m a)(b5:Inv a L)(l5:L<=100000):
  d prog 37 #[Q (K s)] a0 (Jj a a0):=by
 have j3:=E (ra s m a L a0 b4 b5 l5);have g3:=E b4;have a9:=E b5;have k2:=E (By b4)
 have m4:a.names.length<=100000:=by have:=b5.gI;omega
 obtain⟨T,e2⟩:∃T,a.names.length=T:=⟨_,rfl⟩;have b0:Hd (a.names.length=T):=e2;rw [e2] at m4;clear b4 b5 e2;go_enter func37,ntmps37
 go_wp2_with (go_at_call 78;refine j3.o.mono ?_;rintro z i ⟨n0,rfl,b6,P⟩;rw [b0.o] at b6;obtain⟨m8,o2,rfl⟩:=aK b6;have k8:=E b6;clear b6)
 go_loopw [3,10] (λo e9 wr=>∃b:Nat,b<=T/\e9=A G b/\iC wr i o ((cY a).take b)/\X i i wr) (λ_ e9 _=>T - (Yz e9).toNat)
 case atStart=>exact⟨0,Yr _,rfl,iC.nil _ _,Yn _ _⟩
 case round=>
  obtain⟨b,R,rfl,e5,x⟩:=hrel;have n1:=E P;have j4:=E x
  have e7:((cY a).take b).length=b:=by rw [List.length_take,jw,b0.o];exact Nat.min_eq_left R
  obtain⟨c0,b9,rfl⟩:=e5.dm e7;have g5:=E e5;have c3:=E e7;clear e5 e7;by_cases m1:b<T
  .have a3:b<a.names.length:=by rw [b0.o];exact m1
   obtain⟨a5,i2⟩:=Fx a9.o a3;have l0:=E (k2.o _ i2);have k9:=E (show(cY a).take (b+1)=(cY a).take b++[uX a ((aI a).getD b [])] from by rw [oO _ FV.ae (by rw [jw];exact a3),Kf a a3]);have g6:=E (aG k8.o x)
   obtain⟨b3,m0,n9,n6⟩:∃b3,m8=K ⟨b3,0,I⟩/\b3<wr.heap.size/\wr.cell? ⟨b3,b,I⟩=K (Yb ⟨((aI a).getD b []).toArray⟩):=by
    rcases aV g6.o with⟨_,n4⟩|⟨q,n3,z, -,l9, -⟩
    .omega
    .obtain⟨rfl, -,rfl⟩:=Value.slice.inj z
     refine⟨q,rfl,l9,au g6.o ?_⟩
     have:b<(aI a).length:=by rw [dk];exact a3
     simp [List.getElem?_map,YM this,Yp,Go.Proofs.encStr]
   subst m0;have c9:X a0 a0 wr:=P.trans (x.mono P.size);have u:=E (g3.o.stays λb R=>c9.block b (g3.o.lt R));have m9:=x.size;have n2:=E c9
   have g4:Hd (uX a ((aI a).getD b [])=⟨(aI a).getD b [],(a.file (aM a.names ((aI a).getD b []))).data,(a.file (aM a.names ((aI a).getD b []))).safe⟩):=by rfl
   have i3:(bT a.names ((aI a).getD b [])).getD 0=aM a.names ((aI a).getD b []):=rfl
   have m3:a.all.length<=100000:=by have:=a9.o.me;omega
   have l7:=(a9.o.data _ a5).2;have i6:=(a9.o.data _ a5).1;generalize l8:aM a.names ((aI a).getD b [])=g at*;generalize (aI a).getD b []=l at*;have k3:=E i3;have c2:=E a5;obtain⟨C,e4⟩:∃C,a.all.length=C:=⟨_,rfl⟩;have k4:=E e4;rw [e4] at a5 m3;have o0:(0:Int)<=(g:Int):=O;have o1:(g:Int)<(C:Int):=O;obtain⟨c,e8⟩:∃c,(a.file g).data=c:=⟨_,rfl⟩;have c4:=E e8;obtain⟨k,e6⟩:∃k,(a.file g).safe=k:=⟨_,rfl⟩;have g7:=E e6;rw [e8] at l7 i6;rw [e6] at i6
   have k1:Hd (uX a l=⟨l,c,k⟩):=by show _=_;rw [g4.o,c4.o,g7.o]
   have j9:=E (show([]:Bs).length+c.length<=1099511627776 from by simp;omega);obtain⟨q,a1,i9,i1,n8,b7,b8, -⟩:=u.o.head (j:=g) c2.o
   have j0:m.va=U (K q) C a1:=by rw [i9];exact congrArg (λl=>U _ l _) k4.o
   obtain⟨n,p,h9⟩:=aK (u.o.jl g c2.o)
   have e0:m.at g=U n c.length p:=by rw [h9];exact congrArg (λl:Bs=>U n l.length p) c4.o
   have j6:=E (show ah wr (U n c.length p) c from by have:=aq (u.o.jl g c2.o);rw [e0] at this;have z:(a.file g).data=c:=c4.o;rw [z] at this;exact this);rw [e0] at b7;rw [g7.o] at b8;have c6:wr.cell? ⟨s,1,I⟩=K (U (K q) C a1):=(u.o.cell 1).trans (congrArg K j0);have c7:wr.cell? ⟨s,2,I⟩=K (.map (K m.bn)):=u.o.cell 2
   have g0:Hd (∀v,aR v m.bn a.names->(YY 123 (.map (K m.bn)) (Yb ⟨l.toArray⟩) false).run prog v= .ok (A G g) v):=λv m7=>by
    rw [m7.mu l0.o];exact congrArg (λl:Nat=>Result.ok (A G l) v) k3.o
   have F:=E (show wr.drew.cell? ⟨s,1,I⟩=K (U (K q) C a1)/\wr.drew.cell? ⟨s,2,I⟩=K (.map (K m.bn))/\wr.drew.cell? ⟨q,g*2,I⟩=K (U n c.length p)/\wr.drew.cell? ⟨q,g*2+1,I⟩=K (A G k)/\(YY 123 (.map (K m.bn)) (Yb ⟨l.toArray⟩) false).run prog wr.drew= .ok (A G g) wr.drew from⟨c6,c7,b7,b8,g0.o _ u.o.gI⟩)
   have J:Hd (∀r:Array Z,(wr.alloc (M r 129)).drew.cell? ⟨s,1,I⟩=K (U (K q) C a1)/\(wr.alloc (M r 129)).drew.cell? ⟨s,2,I⟩=K (.map (K m.bn))/\(wr.alloc (M r 129)).drew.cell? ⟨q,g*2,I⟩=K (U n c.length p)/\(wr.alloc (M r 129)).drew.cell? ⟨q,g*2+1,I⟩=K (A G k)/\(YY 123 (.map (K m.bn)) (Yb ⟨l.toArray⟩) false).run prog (wr.alloc (M r 129)).drew= .ok (A G g) (wr.alloc (M r 129)).drew):=λr=>
    ⟨(Ys _ _ _ u.o.ay.lt).trans c6,(Ys _ _ _ u.o.ay.lt).trans c7,(Ys _ _ _ i1).trans b7,(Ys _ _ _ i1).trans b8,g0.o _ ((u.o.stays (w':=wr.alloc (M r 129)) λb R=>heap_alloc_old wr _ (u.o.lt R)).gI)⟩
   clear a5 i2 P x c9 i3 l8 e4 e8 e6 i9 j0 h9 e0 a3 g4;go_wp2
   go_region_held3 (λt=>t.cell? ⟨s,1,I⟩=K (U (K q) C a1)/\t.cell? ⟨s,2,I⟩=K (.map (K m.bn))/\t.cell? ⟨q,g*2,I⟩=K (U n c.length p)/\t.cell? ⟨q,g*2+1,I⟩=K (A G k)/\(YY 123 (.map (K m.bn)) (Yb ⟨l.toArray⟩) false).run prog t= .ok (A G g) t)
    (first|with_reducible exact F.o|with_reducible exact J.o _|exact F.o|exact J.o _)
    (fail)
   clear F J;go_wp2
   all_goals
    obtain⟨h,a6⟩:∃h,(wr.alloc (M #[U n c.length p,A G k] 129)).drew=h:=⟨_,rfl⟩
    have a2:X wr wr h:=by rw [<-a6];exact((Yn _ _).alloc (Yk _) _).drew
    have c8:h.cell? wr=K (U n c.length p):=by rw [<-a6];exact cell_of_row _ _ _ _ _ (0,0) (heap_alloc_new wr _)
    have h3:h.cell? ⟨wr,1,I⟩=K (A G k):=by rw [<-a6];exact cell_of_row _ _ _ _ _ (0,0) (heap_alloc_new wr _)
    have h7:wr.heap.size<h.heap.size:=Yj _ _ c8;rw [a6];clear a6;obtain⟨c1,g1,j1,j2⟩:=g5.o;have j7:=E (j6.o.ext a2)
    have k5:Hd (∀j,(U c0 b b9).ownBlock=K j->j<wr.heap.size):=λj z=>(g1.lt j z).2
    have g2:=aG g1 a2;rw [c3.o] at g2;have g8:=E g2;have l1:=E j1
    have l2:Hd (∀j,j<((cY a).take b).length->h.ownsRow i 5 1 (c1.getD j Ya) (((cY a).take b).getD j FV.ae).data.length (ak (((cY a).take b).getD j FV.ae).data)):=λj e1=>aG (j2 j e1) a2
    have h6:i.heap.size<=h.heap.size:=O;have j8:=E a2
    have b1:Hd (∀v,X h h v->v.cell? wr=K (U n c.length p)/\v.cell? ⟨wr,1,I⟩=K (A G k)):=λv x=>⟨(x.cell h7).trans c8,(x.cell h7).trans h3⟩
    have F:=E (b1.o h.drew (Yn _ _).drew);have J:=E (b1.o (h.alloc (M #[] 5)).drew ((Yn _ _).alloc (Yk _) _).drew);generalize wr.heap.size=y at*;clear g1 g2 j1 j2 g0 c6 c7 b7 b8 a2
    go_region_held3 (λt=>t.cell? y=K (U n c.length p)/\t.cell? ⟨y,1,I⟩=K (A G k))
     (first|with_reducible exact F.o|with_reducible exact J.o|with_reducible exact b2.o|with_reducible exact c5.o _ _|with_reducible exact g9.o|exact F.o|exact J.o|exact c5.o _ _)
     (first
      |(refine cQ (by rfl) _ _ (by rfl) i (U (K h) 0 0) (U n c.length p) [] c (by rfl) (aA (nh h) h6) (by rfl) (j7.o.ext N) j9.o (by simp;omega) ?_;intro h0 h1 D i4 W l6;have w:=E (show X h h D from((Yn _ _).alloc (Yk _) (M #[] 5)).grown (w':=D) ⟨W.os,W.tape,W.output,W.size,W.block⟩ Y (by intro b R;simp [YT] at R;omega));have b2:=E (b1.o D w.o);have c5:Hd (∀(r:Array Z) (L:Nat),(D.alloc (M r L)).cell? y=K (U n c.length p)/\(D.alloc (M r L)).cell? ⟨y,1,I⟩=K (A G k)):=(λr L=>b1.o _ (w.o.alloc w.o.size _));have k6:=E (show D.ownsRow i 5 1 (U h0 c.length h1) c.length (ak c) from by simpa using i4);clear i4 W l6)
      |(refine pr 36 74 3 48 _ underlying36 Sm rfl H (by rfl) _ _ (by rfl) D i (U c0 b b9) b (mM ((cY a).take b) c1) [Yb ⟨l.toArray⟩,U h0 c.length h1,A G k] (by rfl) (aG g8.o w.o) _ (by rfl) (heap_alloc_new _ _) ((Yn _ _).alloc (Yk _) _) (by rfl) (by intro o4 i7;simp at i7;rcases i7 with rfl|rfl|rfl<;>rfl) O H (Yl h6 w.o.size) ?_;intro h5 h2 a7 i5 h8 i0 m2;have k7:=E i5;have a8:=E i0;have j5:=E h8;clear i5 i0 h8 m2;have e3:K y≠(U c0 b b9).ownBlock:=(λz=>absurd (k5.o y z.symm) O);have g9:Hd (a7.cell? y=K (U n c.length p)/\a7.cell? ⟨y,1,I⟩=K (A G k)):=⟨a8.o.cell b2.o.1 e3,a8.o.cell b2.o.2 e3⟩;clear e3))
    clear F J b2 c5 g9 c8 h3;have o3:h.heap.size<=a7.heap.size:=Yl w.o.size a8.o.size
    have m5:iC a7 i (U (K h5) (b+1) h2) ((cY a).take (b+1)):=by
     rw [k9.o,k1.o];have:=iC.app (f:=⟨l,c,k⟩) (v:=U c0 b b9) (v':=U (K h5) (b+1) h2) (fs:=(cY a).take b) (ps:=c1) (by rw [c3.o];exact aG g8.o w.o) l1.o (λj e1=>aG (l2.o j e1) w.o) k6.o a8.o (by rw [c3.o];exact k7.o);exact this
    have m6:X i i a7:=by
     have h4:X i i h:=j4.o.trans (j8.o.mono m9);have l3:X i i D:=h4.trans (w.o.mono h4.size);exact l3.trans j5.o
    go_wp2;go_roundw
    case rel=>exact⟨b+1,O,S,m5,m6⟩
    case measure=>simp [Yz];omega
  .have l4:b=T:=O
   subst l4;have k0:=E (show(cY a).take b=cY a from by rw [<-b0.o,<-jw];exact List.take_length);go_wp2;go_returns;exact⟨_,rfl,by rw [<-k0.o];exact g5.o.mono P.size,P.trans (x.mono P.size)⟩
end
section
open Go.RowKit
theorem Cx(C:Z)(c:List Int)(a g:Nat)(t:V)(x:aY t C c)(W:a<=1000000000)(a1:g<=1000000000):
  d prog 72 #[C,A G a,A G g] t λf J=>f=e (A G ((kP c a g:Nat):Int))/\J=t:=by
 have l:=E x;obtain⟨P,cap,rfl,r,k,n,u,p⟩:=x;obtain⟨j,h⟩:∃j,c.length=j:=⟨_,rfl⟩;have L:=E h
 have a0:j<=9223372036854775807:=by rw [<-h];exact l.o.len
 by_cases w:a<j
 .obtain⟨R,off,rfl,T⟩:=p a (by rw [h];exact w)
  clear u;have s:=rX n a
  have f:kP c a g=if 0<=c.getD a 0 then (c.getD a 0).toNat%(g+1) else 0:=by
   unfold kP;rw [h];by_cases m:0<=c.getD a 0
   .rw [if_pos ⟨w,m⟩,if_pos m]
   .rw [if_neg (λk=>m k.2),if_neg m]
  rw [f,h];generalize c.getD a 0=q at*
  have a3:decide ((a:Int)>=(j:Int))=false:=by simp;omega
  have a5:(0:Int)<=(a:Int):=O;have a6:(a:Int)<(j:Int):=O;unfold bh at s;by_cases y:0<=q
  .rw [if_pos y]
   obtain⟨i,rfl⟩:∃i:Nat,q=(i:Int):=⟨q.toNat,O⟩;rw [Int.toNat_natCast];have F:decide ((i:Int)<0)=false:=decide_eq_false O;obtain⟨b,v⟩:∃b,g+1=b:=⟨_,rfl⟩
   have a7:Zc G ((g:Int)+1)=(b:Int):=by rw [Yx _ O];omega
   rw [v];have a8:¬(b:Int)=0:=O
   have a9:Int.tmod (i:Int) (b:Int)=((i%b:Nat):Int):=by rw [<-Int.ofNat_tmod]
   have D:i%b<b:=Nat.mod_lt _ O;generalize i%b=z at*;have b0:Zc G (z:Int)=(z:Int):=Yx _ O;clear l r k n p f s D v;go_enter func72,ntmps72;go_wp2
   all_goals go_returns
   all_goals exact⟨rfl,rfl⟩
  .rw [if_neg y]
   have F:decide (q<0)=true:=by simp;omega
   clear l r k n p f s;go_enter func72,ntmps72;go_wp2
   all_goals go_returns
   all_goals exact⟨rfl,rfl⟩
 .have f:kP c a g=0:=by unfold kP;rw [if_neg];rw [h];omega
  rw [f,h];clear l r k n u p f
  have a2:((a:Int)>=(j:Int))=True:=by simp;omega
  go_enter func72,ntmps72;go_wp2
  all_goals go_returns
  all_goals exact⟨rfl,rfl⟩
end
section
open Go.RowKit Go.Extern.Stop Go.Stop Go.Extern Go.Maps Go.Sort
def pA(a:Nat):Z:=A G a
theorem tL{j:V}{f:Nat}{b:Array Z}{k:TypeId}{a:List Int}(h:j.heap[f]? =K (M b k (0,0)))(m:b.toList.take a.length=a.map (A G)):Holds (A G) j f 0 a.toArray:=by
 intro c l
 have i:c<a.length:=by simpa using l
 refine⟨?_,by simp [World.frozen?,h]⟩
 have g:(b.toList.take a.length)[c]? =(a.map (A G))[c]?:=by rw [m]
 rw [List.getElem?_take_of_lt i] at g;simp only [World.cell?,h,Nat.zero_add];simp only [Option.isSome_none,Bool.false_eq_true,if_false];rw [<-Array.getElem?_toList,g];simp [i]
theorem zm{b:V}{a k:Nat}{l:Array Obj}{c:Array Z}{g:TypeId}{h:Nat×Nat}(f:Array Int)(i:b.heap[a]? =K (M c g h)):
  (grow (putRow (A G) (Sort.ahead b k) a 0 f) l).heap[a]? =K (M (putCells (A G) 0 f c) g h):=by
 have j:a<b.heap.size:=(Array.getElem?_eq_some_iff.1 i).1;rw [heap_grow_old _ _ (by simpa using j)];simp [putRow,mapBlock,Sort.ahead,Array.getElem?_modify,i,onCells]
theorem tK{b:V}{a j:Nat}{k:Array Obj}(c:Array Int):b.grownBy (grow (putRow (A G) (Sort.ahead b j) a 0 c) k) (K a):=by
 refine⟨rfl,rfl,rfl,Y,λi g h=>?_⟩;rw [heap_grow_old _ _ (by simpa using g)]
 have:a≠i:=λf=>h (by rw [f])
 simp [putRow,mapBlock,Sort.ahead,Array.getElem?_modify,this]
theorem wL(b:Array Z)(a:List Int)(g:a.length<=b.size):(putCells (A G) 0 a.toArray b).toList.take a.length=a.map (A G):=by
 apply List.ext_getElem?;intro f;by_cases c:f<a.length
 .rw [List.getElem?_take_of_lt c,Array.getElem?_toList]
  simp [putCells,c,show f<b.size by omega]
 .rw [List.getElem?_take_eq_none O,List.getElem?_eq_none (by simp;omega)]
theorem tN{g:V}{base a cap n:Nat}{c:TypeId}{os:Array Obj}{b:Array Z}{ss ts:List Int}(f:ts.length=ss.length)(l:base<=a)(k:g.heap[a]? =K (M b c (0,0)))
  (h:ss.length<=cap)(i:cap<=YO)(j:b.size=cap*1):
  (grow (putRow (A G) (Sort.ahead g n) a 0 ts.toArray) os).ownsRow base c 1 (U (K a) ss.length cap) ss.length (ts.map (A G)):=
 ⟨by simp [f],Yh ⟨a,cap,_,rfl,l,zm _ k,h,i,by simp [putCells,j],by rw [Nat.mul_one,<-f];exact wL b ts O⟩⟩
theorem xp{c f:List Int}(n:c.Perm f):(c.mergeSort λh i=>decide (h<=i))=f.mergeSort λh i=>decide (h<=i):=by
 have m:∀a b g:Int,decide (a<=b)=true->decide (b<=g)=true->decide (a<=g)=true:=λa b g j k=>by simp only [decide_eq_true_eq] at*;omega
 have l:∀a b:Int,(decide (a<=b)||decide (b<=a))=true:=λa b=>by simp only [Bool.or_eq_true,decide_eq_true_eq];omega
 refine List.Perm.eq_of_pairwise (le:=λa b=>decide (a<=b)=true) (λa b _ _ j k=>?_) (List.pairwise_mergeSort m l c) (List.pairwise_mergeSort m l f) (((List.mergeSort_perm c _).trans n).trans (List.mergeSort_perm f _).symm);simp only [decide_eq_true_eq] at j k;omega
theorem G_(f:List Nat):((f.map λa:Nat=>(a:Int)).mergeSort λg h=>decide (g<=h))=(f.mergeSort λb c=>decide (b<=c)).map λa:Nat=>(a:Int):=by
 rw [List.map_mergeSort];intro b _ c _;simp
def fP(c:List kY)(b:Nat):List Nat:=((c.take b).filter λa=>a.kind==0).map λa=>a.file
theorem Fy(a:List kY){b:Nat}(f:b<a.length):fP a (b+1)=if (a.getD b ⟨0,[],[],0⟩).kind=0 then fP a b++[(a.getD b ⟨0,[],[],0⟩).file] else fP a b:=by
 unfold fP;rw [oO a ⟨0,[],[],0⟩ f,List.filter_append,List.map_append];generalize a.getD b ⟨0,[],[],0⟩=g;by_cases c:g.kind=0
 .rw [if_pos c,List.filter_cons_of_pos (by simp [c]),List.filter_nil,List.map_cons,List.map_nil]
 .rw [if_neg c,List.filter_cons_of_neg (by simp [c]),List.filter_nil,List.map_nil,List.append_nil]
theorem Ol(b:List kY)(a:Nat):(fP b a).length<=a:=by
 unfold fP;rw [List.length_map];exact Yl (List.length_filter_le _ _) (by rw [List.length_take];omega)
end
end Go.Proofs.YtajkpgaheechmaaGreatDoor
