/- KnE KnG KnF -/
import Derived.Test.YtajkpgaheechmaaGreatDoorZBD
set_option maxRecDepth 100000
set_option maxHeartbeats 16000000
set_option linter.unusedSimpArgs false
set_option linter.unusedVariables false
set_option linter.unusedSectionVars false
namespace Go.Proofs.YtajkpgaheechmaaGreatDoor
open _root_.Go.Proofs.Tryz
open Go.Value renaming int->A,slice->U,pointer->Q,nilIface->Ya,agg->Yc,iface->Yd
open Go.IntKind renaming i64->G
open Option renaming none->I,some->K
open Go.Ending renaming returned->e
open Go renaming World->V,Value->Z,Calls->d
open Go.RowKit renaming Below->X
open Or renaming inl->Yg,inr->Yh
open Nat renaming le_trans->Yl,lt_of_lt_of_le->Yv
open And renaming intro->YI
open Bool renaming and_eq_true->YV
section
open Go.RowKit
theorem NC:(bz (cl bu dx) 1 0 (dZ 65536)).2.1.state=1/\(bz (cl bu dx) 1 0 (dZ 65536)).2.1.chunks=1/\(bz (cl bu dx) 1 0 (dZ 65536)).2.1.done=[]:=by
 have a:(decide ((bz (cl bu dx) 1 0 (dZ 65536)).2.1.state=1)&&decide ((bz (cl bu dx) 1 0 (dZ 65536)).2.1.chunks=1)&&(bz (cl bu dx) 1 0 (dZ 65536)).2.1.done.isEmpty)=true:=B;simp only [YV,decide_eq_true_eq,List.isEmpty_iff] at a;exact⟨a.1.1,a.1.2,a.2⟩
theorem yt(a:Int)(b:a=65536∨a=0):(cy (bk (bm (aI (dZ a)) false (dZ a)).1).1 aw).length<=90000:=by
 rcases b with rfl|rfl
 .exact of_decide_eq_true B
 .exact of_decide_eq_true B
section
variable {W:V} {p q s jp jb tb:Nat} {cs:Array Z} {sv:Z} {L L1 L2:bY} {D D1:DS} {J J1:bJ} {w w0 w1 w2:V}
theorem rB{c a f k j g:Nat}{r:Array Z}{l:Z}{m:List Z}(b:w.ownsRow c a k l j m)(q:ai w g r f)(o:f≠a)(p:af (·=g) w w1):w1.ownsRow c a k l j m:=
 an b λi h=>p.block i (b.lt i h).2 (λn=>cW q b o (by rw [h,n]))
theorem d_.sF{h:Nat}{j k i:Z}{u:Array Z}(r:d_ w h j k i)(b:ai w s u 67)(a:af (·=s) w w1):d_ w1 h j k i:=by
 obtain⟨⟨t,l,m,c⟩,⟨n,o⟩,⟨p,q⟩⟩:=r;exact⟨⟨t,rB l b H a,m,λg f=>⟨⟨rB (c g f).1.1 b H a,(c g f).1.2⟩,(c g f).2⟩⟩,⟨rB n b H a,o⟩,⟨rB p b H a,q⟩⟩
theorem Py(o:aC W p L (dZ 65536) w)(h:ai w s (eu bu sv 2 p I) 67)(a9:W.heap.size<=s)(a2:cA p L w sv dx):
  d prog 33 #[Q (K s),A G 0] w λa n=>a=e Ya/\∃q jp jb tb k l i c,St W p q jp jb tb k l i 0 c n/\ai n s (eu bu sv 2 p (K ⟨q,0,I⟩)) 67/\af (λb=>L.has p b∨b=s) w n/\(∀b,c.has p b->L.has p b∨w.heap.size<=b)/\w.heap.size<=q/\w.heap.size<=jp/\w.heap.size<=jb/\w.heap.size<=tb:=by
 obtain⟨D,v,x⟩:=NC;have sn:¬L.has p s:=dr o.dp h H H H H;refine(wG 0 2 s sv o h a2 H H rfl (Inv.new O) H (λ_=>⟨D,by rw [v];decide,λb _=>by rw [x];rfl,by rw [v,x];decide⟩) (yt _ (Yg rfl))).mono ?_;rintro a n (⟨-,rfl,w1,g,⟨c,J,f,P,r⟩,rfl⟩|⟨t, -⟩)
 .rcases r with⟨-,q,jp,jb,tb,k,l,i,a1,T,a0,y,C,a5,a6,a7⟩|⟨t, -⟩
  .obtain rfl:g=q:=by simpa using a1
   have u:ai w1 s (eu bu sv 2 p I) 67:=(show ai w.drew s _ _ from h).bS (f.block s h.lt sn);have m:af (·=s) w1 (w1.setCell ⟨s,11,I⟩ (Q (K g))):=aL (af.refl _ _) rfl;have b0:w.drew.heap.size=w.heap.size:=rfl;have a8:s<w.heap.size:=h.lt;have a3:¬c.has p s:=dr J.dp u H H H H;refine⟨rfl,g,jp,jb,tb,k,l,i,c,?_,?_,?_,P,a5,a6,a7,C⟩
   .show RS W p g jp jb tb k l i (U I 0 0) TC.ae TC.ae (eO 0).1 (eO 0).2 c _
    refine⟨T.sF m (λb r a=>a3 ((show b=s from a)▸r)) (λa=>by have j:g=s:=a;omega) (λa=>by have j:jp=s:=a;omega) (λa=>by have j:jb=s:=a;omega) (λb a=>by have j:b=s:=a;omega),a0.sF u m,?_,Yl o.size C⟩;have z:=y;rw [Ho] at z;exact z.bS (m.block tb y.lt (λa=>by have j:tb=s:=a;omega))
   .exact u.set 11 (Q (K g))
   .have R:af (L.has p) w w1:=⟨f.os,f.tape,f.output,f.size,f.block⟩
    exact R.mono (λb _ F=>Yg F)|>.js m (λb a=>Yg (Yh a))
  .exact absurd (congrArg Prod.snd ze.1) t
 .exact absurd (congrArg Prod.snd ze.1) t
theorem Pz(j:aC W p L (dZ 0) w)(h:ai w s (eu bu sv 1 p I) 67)(u:cA p L w sv dx):
  d prog 33 #[Q (K s),A G 0] w λk f=>∃b i,k=e (Yd 142 (Q (K ⟨b,0,I⟩)))/\ai f b (EX #[102,97,114,109] 4 9) 144/\aC W p i (bz (cl bu dx) 1 0 (dZ 0)).1 f/\ai f s (eu bu sv 1 p I) 67/\af (L.has p) w f:=by
 have sn:¬L.has p s:=dr j.dp h H H H H;have l:=ze.2;have g:(bz (cl bu dx) 1 0 (dZ 0)).2.2.2=9:=congrArg Prod.snd l;have o:(bz (cl bu dx) 1 0 (dZ 0)).2.2.1=4:=congrArg Prod.fst l;refine(wG 0 1 s sv j h u H H rfl (Inv.new O) H (λm=>by rw [g] at m;exact absurd m H) (yt _ (Yh rfl))).mono ?_;rintro k f (⟨c, -⟩|⟨-,v,rfl,i,q,a,x,r⟩)
 .rw [g] at c;exact absurd c H
 .rcases r with⟨c, -⟩|⟨-,b,t,n, -⟩
  .rw [g] at c;exact absurd c H
  .obtain rfl:v=Yd 142 (Q (K ⟨b,0,I⟩)):=by simpa using t
   rw [g,o] at n;exact⟨b,i,rfl,n,q,(show ai w.drew s _ _ from h).bS (a.block s h.lt sn),⟨a.os,a.tape,a.output,a.size,a.block⟩⟩
end
section
variable {W:V} {p s t pt:Nat} {sv:Z} {L L1:bY} {D D1:DS} {J:bJ} {cs:Array Z} {w w1 w':V}
theorem UK(v:aC W p L (dZ 65536) w)(R:ai w s (eu bu sv 2 p I) 67)(a0:W.heap.size<=s)(T:cA p L w sv dx):
  d prog 9 #[Q (K s),Yc #[A G 3,A G 0,U I 0 0]] w λm w'=>m=e Ya/\∃q f c g i j h b,St W p q f c g i j h 0 b w'/\ai w' s (eu bu sv 2 p (K ⟨q,0,I⟩)) 67/\af (λa=>L.has p a∨a=s) w w'/\(∀a,b.has p a->L.has p a∨w.heap.size<=a)/\w.heap.size<=q/\w.heap.size<=f/\w.heap.size<=c/\w.heap.size<=g:=by
 have u:=sI (w:=w) (P:=λt w'=>t=Ya/\∃q f c g i j h b,St W p q f c g i j h 0 b w'/\ai w' s (eu bu sv 2 p (K ⟨q,0,I⟩)) 67/\af (λa=>L.has p a∨a=s) w w'/\(∀a,b.has p a->L.has p a∨w.heap.size<=a)/\w.heap.size<=q/\w.heap.size<=f/\w.heap.size<=c/\w.heap.size<=g) s 0 0 0 I (λw1 k=>(Py (v.ext k) (R.ext k) a0 (T.ext k)).mono (λm w' F=>by
  obtain⟨rfl,q,f,c,g,i,j,h,b,n,o,r,x,y,z,C,D⟩:=F;have l:=k.size
  exact⟨_,rfl,rfl,q,f,c,g,i,j,h,b,n,o,(af.aj k).trans r,λa J=>(x a J).imp id (Yl l),Yl l y,Yl l z,Yl l C,Yl l D⟩))
 exact u.mono λm w' ⟨t,n,o,r⟩=>⟨by rw [n,o],r⟩
theorem Rw{q jp jb tb:Nat}{fv gv cv:Z}(h:St W p q jp jb tb fv gv cv 0 L w)(hs:ai w s (eu bu sv 2 p (K ⟨q,0,I⟩)) 67):
  d prog 9 #[Q (K ⟨s,0,I⟩),Yc #[A G 6,A G 99,U I 0 0]] w λe w'=>e= .returned Ya/\∃L' mv,RS W p q jp jb tb fv gv cv mv TC.ae TC.ae (eO 15).1 (eO 15).2 L' w'/\RN p q jp jb tb L w L' w':=by
 have h5:∀{w1:V},X w.heap.size w w1->St W p q jp jb tb fv gv cv 0 L w1:=λhb=>RS.ext h hb
 have HP:=yA (w:=w) (P:=λx w'=>x=Ya/\∃L' mv,RS W p q jp jb tb fv gv cv mv TC.ae TC.ae (eO 15).1 (eO 15).2 L' w'/\RN p q jp jb tb L w L' w') s 0 0 99 I (λw1 hb=>(LJ s 99 bu sv 2 (h5 hb) (hs.ext hb) H).mono (λe w' hd=>by
  obtain⟨rfl,L',h1,h2⟩:=hd;rw [sK H] at h1;obtain⟨mv,h1⟩:=h1;have z:=hb.size
  exact⟨_,rfl,rfl,L',mv,h1,⟨(af.aj hb).trans h2.aD,λk hk=>(h2.new k hk).imp id (Yl z)⟩⟩))
 exact HP.mono λe w' ⟨x,h1,h2,h3⟩=>⟨by rw [h1,h2],h3⟩
theorem UL(l:aC W pt L (dZ 0) w)(o:ai w t (eu bu sv 1 pt I) 67)(p:cA pt L w sv dx):
  d prog 9 #[Q (K t),Yc #[A G 3,A G 0,U I 0 0]] w λf w'=>∃a b,f=e (Yd 142 (Q (K ⟨a,0,I⟩)))/\ai w' a (EX #[102,97,114,109] 4 9) 144/\aC W pt b (bz (cl bu dx) 1 0 (dZ 0)).1 w'/\ai w' t (eu bu sv 1 pt I) 67/\af (L.has pt) w w':=by
 have k:=sI (w:=w) (P:=λj w'=>∃a b,j=Yd 142 (Q (K ⟨a,0,I⟩))/\ai w' a (EX #[102,97,114,109] 4 9) 144/\aC W pt b (bz (cl bu dx) 1 0 (dZ 0)).1 w'/\ai w' t (eu bu sv 1 pt I) 67/\af (L.has pt) w w') t 0 0 0 I (λw1 c=>(Pz (l.ext c) (o.ext c) (p.ext c)).mono (λf w' n=>by
  obtain⟨a,b,rfl,g,h,i,m⟩:=n
  exact⟨_,rfl,a,b,rfl,g,h,i,(af.aj c).trans m⟩))
 exact k.mono λf w' ⟨j,g,a,b,h,i⟩=>⟨a,b,by rw [g,h],i⟩
structure TT(W:V)(a b pt t:Nat)(L:bY)(sv:Z)(w:V):Prop where
 st:aC W pt L (dZ 0) w
 ay:ai w t (eu bu sv 1 pt I) 67
 jl:cA pt L w sv dx
 has:∀k,L.has pt k->a<=k/\k<b
 own:a<=t/\t<b
 row:∀k,sv.ownBlock=K k->a<=k/\k<b
variable {a b:Nat}
theorem TT.sF{F:Nat->Prop}(f:TT W a b pt t L sv w)(h:af F w w')(m:∀c,F c->W.heap.size<=c)(l:∀c,F c->c<a∨b<=c):TT W a b pt t L sv w':=by
 have i:∀c,a<=c/\c<b->¬F c:=λc g j=>by rcases l c j with k|k<;>omega
 exact⟨⟨f.st.dp.stays λc g=>h.block c (f.st.dp.lt g) (i c (f.has c g)),f.st.own,f.st.below.trans (h.below m f.st.size)⟩,f.ay.bS (h.block t f.ay.lt (i t f.own)),⟨an f.jl.1 λc g=>h.block c (f.jl.1.lt c g).2 (i c (f.row c g)),f.jl.2⟩,f.has,f.own,f.row⟩
theorem TT.ext(c:TT W a b pt t L sv w)(f:X w w w'):TT W a b pt t L sv w':=⟨c.st.ext f,c.ay.ext f,c.jl.ext f,c.has,c.own,c.row⟩
structure SR(W:V)(a b p s q jp jb:Nat)(cs:Array Z)(L:bY)(D:DS)(J:bJ)(sv:Z)(w:V):Prop where
 fs:FS W p q jp jb cs L D J w
 ay:ai w s (eu bu sv 2 p (K q)) 67
 has:∀k,L.has p k->k<a∨b<=k
 os:s<a
 oq:b<=q
 oj:b<=jp
 ob:b<=jb
theorem SR.sF{F:Nat->Prop}{q n m:Nat}(f:SR W a b p s q n m cs L D J sv w)(u:a<=b)(l:af F w w')(t:∀c,F c->W.heap.size<=c)(r:∀c,F c->a<=c/\c<b):SR W a b p s q n m cs L D J sv w':=by
 have g:∀c,c<a∨b<=c->¬F c:=λc i h=>by have:=r c h;omega
 have i:=f.os;have h:=f.oq;have j:=f.oj;have k:=f.ob;exact⟨f.fs.sF l (λc o=>g c (f.has c o)) (g _ (Yh h)) (g _ (Yh j)) (g _ (Yh k)) t,f.ay.bS (l.block s f.ay.lt (g s (Yg i))),f.has,i,h,j,k⟩
theorem SR.ext{q h g:Nat}(c:SR W a b p s q h g cs L D J sv w)(f:X w w w'):SR W a b p s q h g cs L D J sv w':=⟨c.fs.ext f,c.ay.ext f,c.has,c.os,c.oq,c.oj,c.ob⟩
end
theorem AU(m:V)(h6:bN m):
  d prog 27 #[] m λg k6=>g=e (.bool true)/\X m m k6:=by
 have e5:=E h6;have a9:=E (λx=>EA x);have a8:=E (λx=>Mg x);have c8:=E (λ(P R:Int) (c5:Z) (x:V) (m2:ah x c5 dx) (i:0<=P/\P<=16777216) (j:1<=R) (h:R<=64)=>show d prog 28 #[Yc bE,c5,A G P,A G R] x (uu x bu P R dx) from yD bu P R c5 dx x H m2 H i j h);clear h6;go_enter func27,ntmps27
 go_wp2_with fail
 refine(a9.o _).mono ?_;rintro g p7 ⟨rfl,a⟩;have i6:=E a;clear a
 go_wp2_with fail
 refine(a8.o _).mono ?_;rintro g q5 ⟨p5,rfl,i,a⟩;have k4:=E (aq i);have W:=E (ext i6.o a);obtain⟨n8,o3,l3⟩:=aK i;subst l3;clear a i
 go_wp2_with fail
 refine(c8.o 65536 2 _ _ k4.o H H H).mono ?_;rintro g n0 ⟨r,C,b2,c3,rfl,j,h,k,l,n,p,v⟩;have J:=E (YI j (YI h (YI k (YI l (YI n p)))));have b1:=E (ext W.o v);clear j h k l n p v
 go_wp2_with fail
 refine(a9.o _).mono ?_;rintro g q9 ⟨rfl,a⟩;have i7:=E a;clear a
 go_wp2_with fail
 refine(a8.o _).mono ?_;rintro g i2 ⟨p6,rfl,i,a⟩;have k5:=E (aq i);have e6:=E (ext i7.o a);obtain⟨n9,o4,l4⟩:=aK i;subst l4;clear a i
 go_wp2_with fail
 refine(c8.o 0 1 _ _ k5.o H H H).mono ?_;rintro g a6 ⟨c4,c2,b3,h9,rfl,j,h,k,l,n,p,v⟩;have j9:=E (YI j (YI h (YI k (YI l (YI n p)))));have F:=E (ext e6.o v);clear j h k l n p v;have e3:=E (ext b1.o F.o);have mJ:a6.cell? ⟨r,11,I⟩=K (Q I):=(J.o.2.2.1.ext F.o).cell 11;have c9:=E (yz (w:=a6) r 0 0 0 I mJ);rw [aT (k:=12) H] at c9;clear mJ
 go_wp2_with fail
 refine c9.o.mono ?_;rintro g a7 ⟨rfl,a⟩;have z:=E a;have n1:=E (ext e3.o a);clear a
 obtain⟨s,u,h1⟩:∃s u,TT m s u c2 c4 b3 h9 a7/\s<=u/\(∀b,b2.has C b->b<s)/\r<s/\u=a7.heap.size/\m.heap.size<=s:=by
  obtain⟨j,h,k,l,n,p⟩:=j9.o;obtain⟨c0,g8,g9,l6,l7,l8⟩:=J.o;have r3:=W.o.size;have r4:=b1.o.size;have i3:=e6.o.size;have r5:=F.o.size;have c7:=z.o.size;have r6:i2.heap.size<=a6.heap.size:=Yl n (Nat.le_of_lt k.lt);have j7:aC m c2 b3 (dZ 0) a6:=⟨j,λb c=>by have:=h b c;omega,e3.o⟩;exact⟨i2.heap.size,a7.heap.size,⟨j7.ext z.o,k.ext z.o,l.ext z.o,λb c=>⟨h b c,Yv (j.lt c) c7⟩,⟨n,Yv k.lt c7⟩,λb c=>⟨p b c,Yv (l.1.lt b c).2 c7⟩⟩,O,λb c=>Yv (c0.lt c) i3,Yv g9.lt i3,rfl,O⟩
 have L:=E h1;clear h1
 have g3:=E (show aC m C b2 (dZ 65536) a7 from by
  obtain⟨c0,g8,g9,l6,l7,l8⟩:=J.o;have j6:aC m C b2 (dZ 65536) n0:=⟨c0,λb c=>Yl W.o.size (g8 b c),b1.o⟩
  exact j6.ext (ext F.o z.o))
 have h8:=E (show m.heap.size<=r from Yl W.o.size J.o.2.2.2.2.1);have e1:=E (UK g3.o (J.o.2.2.1.ext (ext F.o z.o)) h8.o (J.o.2.2.2.1.ext (ext F.o z.o)))
 go_wp2_with fail
 refine e1.o.mono ?_;rintro g r0 ⟨rfl,q,h7,m3,i0,l5,l9,k9,e7,j,h,k,l,n,p,v,h0⟩;have e4:=E j;have T:=E h;have j3:=E l;have j5:=E (YI n (YI p (YI v h0)));have g6:=E k.size
 have j8:=E (L.o.1.sF k (λb c=>by
  rcases c with c|rfl
  .exact g3.o.own b c
  .exact h8.o) (λb c=>by
  obtain⟨-, -,a3,a5, -, -⟩:=L.o
  rcases c with c|rfl
  .exact Yg (a3 b c)
  .exact Yg a5))
 clear j h k l n p v h0 e1;have e0:=E (Rw e4.o T.o)
 go_wp2_with fail
 refine e0.o.mono ?_;rintro g c6 ⟨rfl,i9,m4,j,h⟩;obtain⟨a2,c1⟩:∃a2,Mx C l5 l9 k9 (Q (K h7)) (U (K i0) 2 2) m4=a2:=⟨_,rfl⟩;have k8:=E (show a2[15]? =K (U (K i0) 2 2) from by rw [<-c1];rfl)
 have g2:=E (show SR m s u C r q h7 m3 a2 i9 (eO 15).1 (eO 15).2 c3 c6/\TT m s u c2 c4 b3 h9 c6 from by
  obtain⟨-,m5,a3,a5,m6,m7⟩:=L.o;obtain⟨o9,p0,p1,p2⟩:=j5.o;obtain⟨o7,r1,r2,h5⟩:=e4.o.rs;have sn:¬e7.has C r:=dr h5.fs.aB.dp T.o H H H H;have o6:=g6.o
  have h3:∀b,e7.has C b->b<s∨u<=b:=λb c=>by
   rcases j3.o b c with f|f
   .exact Yg (a3 b f)
   .exact Yh O
  have h2:=j.fs;rw [c1] at h2;refine⟨⟨h2,T.o.bS (h.aD.block r T.o.lt ?_),λb c=>?_,a5,O,O,O⟩,j8.o.sF h.aD (λb c=>?_) (λb c=>?_)⟩
  .rintro((f|f|f)|f|f)
   .exact sn f
   all_goals omega
  .rcases h.new b c with f|f
   .exact h3 b f
   .exact Yh O
  .rcases c with(f|f|f)|f|f
   .exact h5.fs.aB.own b f
   all_goals omega
  .rcases c with(f|f|f)|f|f
   .exact h3 b f
   all_goals exact Yh O)
 have g7:=E (show u<=c6.heap.size from by
  have:=h.aD.size;have:=g6.o;obtain⟨-,m5,a3,a5,m6,m7⟩:=L.o;omega)
 clear j h e0 c1
 go_wp2_with fail
 refine(a9.o _).mono ?_;rintro g p8 ⟨rfl,a⟩;have j0:=E a;clear a
 go_wp2_with fail
 refine(a8.o _).mono ?_;rintro g m8 ⟨p3,rfl,i,a⟩;have k2:=E (aq i);have e8:=E (ext j0.o a);obtain⟨n3,o0,l0⟩:=aK i;subst l0;clear a i;have e2:=E (Rt _ m8 k2.o)
 go_wp2_with fail
 refine e2.o.mono ?_;rintro g p9 ⟨o8,rfl,i,a⟩;have k0:=E i;have b4:=E (ext e8.o a);obtain⟨n4,o1,l1⟩:=aK i;subst l1;clear a i e2;have a0:=E (YI (g2.o.1.ext b4.o) (g2.o.2.ext b4.o));have y:=E (wF 150 r a0.o.1.fs.aB (a0.o.1.ay.cell 10) (mq 15) H);rw [Ra] at y
 go_wp2_with fail
 refine y.o.mono ?_;rintro g q0 ⟨a,p4,rfl,i⟩;have b9:=E i;obtain⟨n6,o2,l2⟩:=aK i;subst l2;have t:=E (YI (a0.o.1.ext a) (a0.o.2.ext a));have b8:=E (aG k0.o a);have g5:=E (YI (Yl g7.o e8.o.size) (Yl g7.o b4.o.size));clear a i y;have D:=E (UL t.o.2.st t.o.2.ay t.o.2.jl)
 go_wp2_with fail
 refine D.o.mono ?_;rintro g i1 ⟨k7,n2,rfl,j,h,k,l⟩;have i5:=E j;have g4:=E (YI h k);have a1:=E (t.o.1.sF L.o.2.1 l (λb c=>t.o.2.st.own b c) (λb c=>t.o.2.has b c));have k1:=E (show i1.ownsRow _ _ _ _ _ _ from an b8.o λb c=>l.block b (b8.o.lt b c).2 (λf=>by have:=(b8.o.lt b c).1;have:=t.o.2.has b f;have:=g5.o;omega));have k3:=E (show i1.ownsRow _ _ _ _ _ _ from an b9.o λb c=>l.block b (b9.o.lt b c).2 (λf=>by have:=(b9.o.lt b c).1;have:=t.o.2.has b f;have:=g5.o;omega));clear j h k l D;have y:=E (wF 36 c4 g4.o.1 (g4.o.2.cell 10) (r_ (cl bu dx) 1 0 (Inv.new O)) H);rw [OF] at y
 go_wp2_with fail
 refine y.o.mono ?_;rintro g q1 ⟨a,rfl⟩;have j1:=E a;clear a y
 go_wp2_with fail
 refine(nZ 12 _).mono ?_;rintro g q2 ⟨rfl,a⟩;have e9:=E (ext j1.o a);clear a;have m0:=E (e5.o.ext (a1.o.ext e9.o).fs.aB.below)
 go_wp2_with fail
 refine(Ru 12 H _ m0.o).mono ?_;rintro g q3 ⟨rfl,a⟩;have g0:=E (ext e9.o a);clear a;have g1:=E (a1.o.ext g0.o);have D:=E (p_ r bu c3 2 g1.o.fs g1.o.ay);rw [EG.1] at D
 go_wp2_with fail
 refine D.o.mono ?_;rintro g m9 ⟨rfl,a⟩;have b5:=E (ext g0.o a);clear a D;have b0:=E (Gx _ _ gj gj m9 (aq (aG k3.o b5.o)) (aq (aG k1.o b5.o)));rw [beq_self_eq_true] at b0
 go_wp2_with fail
 refine b0.o.mono ?_;rintro g q4 ⟨rfl,rfl⟩;clear b0
 go_wp2_with fail
 refine(kU _ 4 9 H _).mono ?_;rintro g q6 ⟨o5,rfl,h4,a⟩;have j4:=E h4;have b6:=E (ext b5.o a);clear a h4;have m1:=E (e5.o.ext (a1.o.ext b6.o).fs.aB.below)
 go_wp2_with fail
 refine(GN k7 _ 4 9 H _ _ m1.o (i5.o.ext b6.o) j4.o).mono ?_;rintro g q7 ⟨rfl,a⟩;have j2:=E (ext b6.o a);clear a;have b7:=E (a1.o.ext j2.o);have i4:=E (zW r bu c3 2 _ 2 2 b7.o.fs.ay k8.o b7.o.ay)
 go_wp2_with fail
 refine i4.o.mono ?_;rintro g q8 ⟨rfl,rfl⟩;go_wp2;go_returns;exact⟨rfl,b7.o.fs.aB.below⟩
end
end Go.Proofs.YtajkpgaheechmaaGreatDoor
