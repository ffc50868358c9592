/- UnA UnB UnC UnD UnE UnG UnH -/
import Derived.Laws.BitsAllLaws
import Derived.Test.YtajkpgaheechmaaGreatDoorZAJ
import Derived.Test.YtajkpgaheechmaaGreatDoorZAK
set_option maxRecDepth 100000
set_option maxHeartbeats 16000000
set_option linter.unusedSimpArgs false
set_option linter.unusedVariables false
set_option linter.unusedSectionVars false
namespace Go.Proofs.YtajkpgaheechmaaGreatDoor
open _root_.Go.Proofs.Tryz
open Go.Value renaming int->A,slice->U,pointer->Q,nilIface->Ya,agg->Yc,iface->Yd,tuple->Ye,ownBlock->YT
open Go.IntKind renaming i64->G,u8->Yf,wrap_i64->Yo,wrap->Zc
open Option renaming none->I,some->K
open Go.Obj renaming cells->M
open Go.Ending renaming returned->e
open Go renaming World->V,Value->Z,Calls->d,bodyPost_ret->YD,maxLen->YO,results->YU
open Go.RowKit renaming Below->X,intOf->Yz
open Or renaming inl->Yg,inr->Yh
open Go.World renaming block_lt_of_cell?->Yj,cell?_alloc_lt->Ys,ownsRow_nil->YC,size_alloc->YN,cell?_of_block->YS
open Nat renaming le_refl->Yk,le_trans->Yl,zero_le->Yr,add_assoc->YW
open UInt8 renaming ofNat->Ym
open Go.RowKit.Below renaming refl->Yn,heap_setCell->Yt
open List renaming getD->YR
open Go.Value.slice renaming injEq->Yy
open Option.some renaming injEq->YQ
open And renaming intro->YI
section
open Go.RowKit
def rT(a:Nat):Nat:=if a%2=1 then (a / 2)^^^3988292384 else a / 2
def pC(a:Nat):Nat->Nat
 |0=>a
 |b+1=>rT (pC a b)
def lZ(a:Bs):Nat->Nat
 |0=>4294967295
 |b+1=>pC (lZ a b^^^(a.getD b 0).toNat) 8
def aF(a:Bs):Nat:=4294967295^^^lZ a a.length
theorem rM{a b:Nat}(c:a<4294967296)(f:b<4294967296):a^^^b<4294967296:=Nat.xor_lt_two_pow (n:=32) c f
theorem JQ{a:Nat}(b:a<4294967296):rT a<4294967296:=by
 unfold rT;split
 .exact rM O O
 .omega
theorem AB{b:Nat}(c:b<4294967296)(a:Nat):pC b a<4294967296:=by
 induction a with
 |zero=>exact c
 |succ a f=>exact JQ f
theorem yM(b:Bs)(a:Nat):lZ b a<4294967296:=by
 induction a with
 |zero=>show 4294967295<4294967296;omega
 |succ a c=>exact AB (rM c (by have:=(b.getD a 0).toNat_lt;omega)) 8
theorem iZ(a:Bs):aF a<4294967296:=rM O (yM a _)
theorem px(J:Z)(b:Bs)(v:V)(a3:ah v J b):
  d prog 135 #[J] v λw a6=>w=e (A .u32 (aF b:Int))/\v=a6:=by
 obtain⟨a7,cap,rfl,y,z,a0,s⟩:=a3;obtain⟨i,t⟩:∃i,b.length=i:=⟨_,rfl⟩;rw [t] at y s⊢
 have b3:i<=9223372036854775807:=by unfold YO at z;omega
 have P:=E t;have L:=E s;obtain⟨r,u⟩:∃r,aF b=r:=⟨_,rfl⟩;rw [u];have R:=E u;clear s z y a0 t u;go_enter func135,ntmps135;go_wp2;go_loop [3,8] (λg h=>∃a:Nat,a<=i/\h=A G a/\g=A .u32 (lZ b a)) (λ_ h=>i - (Yz h).toNat)
 case atStart=>exact⟨0,Yr _,rfl,rfl⟩
 case round=>
  obtain⟨a,b2,rfl,rfl⟩:=hrel;have q:=yM b a;by_cases a2:a<i
  .have n:Hd (lZ b (a+1)=pC (lZ b a^^^(b.getD a 0).toNat) 8):=E rfl
   obtain⟨a9,off,rfl,a1⟩:=L.o a a2;have a5:=(b.getD a 0).toNat_lt;generalize (b.getD a 0).toNat=j at a1 a5 n;generalize lZ b a=g at q n;have T:bits .xor .u32 (g:Int) (j:Int)=((g^^^j:Nat):Int):=u32_xor_nat g j q O;have F:=rM q (O:j<4294967296);generalize g^^^j=k at T F n
   have a8:IntKind.u32.wrap (j:Int)=(j:Int):=by rw [IntKind.wrap_u32'];omega
   go_wp2;go_loop [3,16] (λg h=>∃c:Nat,c<=8/\h=A G c/\g=A .u32 (pC k c)) (λ_ h=>8 - (Yz h).toNat)
   case atStart=>exact⟨0,Yr _,rfl,rfl⟩
   case round=>
    obtain⟨c,b0,rfl,rfl⟩:=hrel;have C:=AB F c;by_cases b1:c<8
    .have l:Hd (pC k (c+1)=rT (pC k c)):=E rfl
     generalize pC k c=f at C l
     have x:bits .and .u32 (f:Int) 1=((f%2:Nat):Int):=by
      have:=u32_and_nat f 1 C O;rw [Nat.and_one_is_mod] at this;exact this
     by_cases m:f%2=1
     .rw [m] at x
      have W:bits .xor .u32 ((f:Int) / 2) 3988292384=(((f / 2)^^^3988292384:Nat):Int):=by
       have:=u32_xor_nat (f / 2) 3988292384 O O;rw [Int.natCast_ediv] at this;exact this
      have p:Hd (pC k (c+1)=(f / 2)^^^3988292384):=E (by rw [l.o];unfold rT;rw [if_pos m]);clear l m;generalize (f / 2)^^^3988292384=r at W p;go_wp2;go_round
      case rel=>exact⟨c+1,O,S,by rw [p.o]⟩
      case measure=>simp [Yz];omega
     .have p:Hd (pC k (c+1)=f / 2):=E (by rw [l.o];unfold rT;rw [if_neg m])
      have D:f%2=0:=O;rw [D] at x;clear l m D;go_wp2;go_round
      case rel=>exact⟨c+1,O,S,by rw [p.o];simp⟩
      case measure=>simp [Yz];omega
    .have:c=8:=O
     subst this;rw [<-n.o];go_wp2;go_round
     case rel=>exact⟨a+1,O,S,rfl⟩
     case measure=>simp [Yz];omega
  .have:a=i:=O
   subst this
   have w:bits .xor .u32 IntKind.u32.max (lZ b a:Int)=(r:Int):=by
    have:=u32_xor_nat 4294967295 (lZ b a) O q;rw [<-R.o];unfold aF;rw [P.o];exact this
   generalize lZ b a=g at*;go_wp2;go_returns;exact⟨rfl,rfl⟩
end
section
open Go.RowKit Go.Extern.Stop Go.Stop Go.Extern
theorem wrap_u8(a:Nat):Zc Yf (a:Int)=((Ym a).toNat:Int):=by rw [IntKind.wrap_u8',nt];omega
theorem ve(g:V)(a b c f:UInt8):(g.alloc (M #[A Yf (a.toNat:Int),A Yf (b.toNat:Int),A Yf (c.toNat:Int),A Yf (f.toNat:Int)] 5)).ownsRow g 5 1 (U (K g) 4 4) ([a,b,c,f]:Bs).length (ak [a,b,c,f]):=
 World.ownsRow_lit g #[A Yf (a.toNat:Int),A Yf (b.toNat:Int),A Yf (c.toNat:Int),A Yf (f.toNat:Int)] 4 (Yk _) (by simp [YO]) Y
theorem rb(a:Nat)(P:Z)(b:Bs)(g:V)(n:ah g P b)(c0:1<=a)(i:a<=255)(b9:b.length<=65536):
  d prog 157 #[A G a,P] g λw R=>dE 0 (bV aF a b) g w R:=by
 obtain⟨f,m⟩:∃f,b.length=f:=⟨_,rfl⟩;obtain⟨b4,cap,rfl⟩:=n.shape;have y:bV aF a b=gw a b++g_ (aF (gw a b)):=rfl
 have t:gw a b=[Ym a,Ym (f / 65536),Ym (f / 256),Ym f]++b:=by rw [<-m];rfl
 have l:=gM a b;have c1:=iZ (gw a b);have u:=E (λ(L:Z) (g:V) (b5:ah g L (gw a b))=>px L (gw a b) g b5);rw [y];rw [m] at b9 l n⊢;obtain⟨h,x⟩:∃h,gw a b=h:=⟨_,rfl⟩;rw [x] at t l c1 u⊢;have c4:=wrap_u8 a
 have c5:Zc Yf ((f:Int) / 65536)=((Ym (f / 65536)).toNat:Int):=by rw [<-wrap_u8];congr 1
 have c6:Zc Yf ((f:Int) / 256)=((Ym (f / 256)).toNat:Int):=by rw [<-wrap_u8];congr 1
 have c7:=wrap_u8 f;generalize Ym a=T at*;generalize Ym (f / 65536)=W at*;generalize Ym (f / 256)=a0 at*;generalize Ym f=a1 at*;generalize b6:aF h=c at*
 have c8:Zc Yf ((c:Int) / 16777216)=((Ym (c / 16777216)).toNat:Int):=by rw [<-wrap_u8];congr 1
 have c9:Zc Yf ((c:Int) / 65536)=((Ym (c / 65536)).toNat:Int):=by rw [<-wrap_u8];congr 1
 have e0:Zc Yf ((c:Int) / 256)=((Ym (c / 256)).toNat:Int):=by rw [<-wrap_u8];congr 1
 have e1:=wrap_u8 c;have s:g_ c=[Ym (c / 16777216),Ym (c / 65536),Ym (c / 256),Ym c]:=rfl;obtain⟨v,z⟩:∃v,g_ c=v:=⟨_,rfl⟩;rw [z] at s⊢;generalize Ym (c / 16777216)=a2 at*;generalize Ym (c / 65536)=a3 at*;generalize Ym (c / 256)=a5 at*;generalize Ym c=a6 at*;have b3:=E n;have a9:=E t;have a7:=E s;have b1:=E m;have b0:=E l;have e2:decide ((a:Int)<0)=false:=Y
 have e3:decide (255<(a:Int))=false:=by simp;omega
 have e4:((a:Int)==0)=false:=by simp;omega
 have e5:decide (65536<(f:Int))=false:=by simp;omega
 clear n t s m l y x z b6 c0 i;go_enter func157,ntmps157
 go_wp2_with (first
  |(at_builtin;refine eA rfl (.tmp 52) (.tmp 64) rfl g.heap.size (U q (4+b.length) r) (U (K j) 4 4) h [a2,a3,a5,a6] rfl (aG p.o N) rfl (aq (ve j a2 a3 a5 a6)) (by simp;have:=b0.o;omega) (by have:=k.o.size;simp;omega) ?_;intro c2 c3 e6 J D b8;have b2:=E J;have a8:=E D;clear J D b8)
  |(go_at_call 135;with_reducible refine(u.o (U q (4+b.length) r) j (aq p.o)).mono ?_;rintro w R ⟨rfl,rfl⟩)
  |(at_builtin;refine eA rfl (.tmp 47) (.tmp 48) rfl g.heap.size (U (K g) 4 4) (U b4 f cap) [T,W,a0,a1] b rfl (ve g T W a0 a1) rfl (b3.o.ext N) (by simp;have:=b1.o;omega) Y ?_;intro q r j F C b7;have p:Hd (j.ownsRow g 5 1 (U q (4+b.length) r) h.length (ak h)):=E (by rw [a9.o];exact F);have k:Hd (X g g j):=E (((Yn _ g).alloc (Yk _) _).grown C Y (by intro a i;simp [YT] at i;omega));clear F C b7))
 go_returns;refine⟨_,rfl,?_,?_⟩
 .rw [a7.o];exact b2.o
 .exact(k.o.alloc k.o.size _).grown a8.o (Yl k.o.size Y) (λa i=>(p.o.lt a i).1)
theorem Pt(a:Nat)(b:V)(g:a<=1000000):d prog 273 #[A G a] b λc f=>c=e (A G ((a+8:Nat):Int))/\b=f:=by
 go_enter func273,ntmps273;go_wp2;go_returns;exact⟨S,rfl⟩
theorem ai.four{b:V}{a:Nat}{g h i f:Z}{j:Nat}(c:ai b a #[g,h,i,f] j):(b.cell? a=K g/\b.cell? ⟨a,1,I⟩=K h/\b.cell? ⟨a,2,I⟩=K i/\b.cell? ⟨a,3,I⟩=K f)/\(b.frozen? a=false/\b.frozen? ⟨a,1,I⟩=false/\b.frozen? ⟨a,2,I⟩=false/\b.frozen? ⟨a,3,I⟩=false):=
 ⟨⟨c.cell 0,c.cell 1,c.cell 2,c.cell 3⟩,c.free 0,c.free 1,c.free 2,c.free 3⟩
theorem ai.wu{i:V}{a:Nat}{l m n k:Z}{h:Nat}(j:ai i a #[l,m,n,k] h)(c f g b:Z):ai ((((i.setCell a c).setCell ⟨a,1,I⟩ f).setCell ⟨a,2,I⟩ g).setCell ⟨a,3,I⟩ b) a #[c,f,g,b] h:=(((j.set 0 c).set 1 f).set 2 g).set 3 b
theorem ai.Vd{i:V}{c a:Nat}{g:Array Z}{f:Nat}(m:ai i c g f)(b:c≠a)(j k l h:Z):ai ((((i.setCell a j).setCell ⟨a,1,I⟩ k).setCell ⟨a,2,I⟩ l).setCell ⟨a,3,I⟩ h) c g f:=
 (((m.ab a j b).ab ⟨a,1,I⟩ k b).ab ⟨a,2,I⟩ l b).ab ⟨a,3,I⟩ h b
theorem fT{b a:Nat}{f g:V}(h:X b f g)(c:b<=a)(j k l i:Z):X b f ((((g.setCell a j).setCell ⟨a,1,I⟩ k).setCell ⟨a,2,I⟩ l).setCell ⟨a,3,I⟩ i):=
 (((h.setCell (by show b<=a;exact c) _).setCell (by show b<=a;exact c) _).setCell (by show b<=a;exact c) _).setCell (by show b<=a;exact c) _
theorem my(i:Int)(c:Nat)(l:Int)(a:V)(f:a.cell? c=K (A G l)):
  d prog 134 #[A G i,Q (K c)] a λj m=>∃b,j=e (Ye #[Yc #[A G 0,U I 0 0,A G 0,A G 0],Yd 142 (Q (K ⟨b,0,I⟩))])/\m.cell? ⟨b,2,I⟩=K (Yd 49 (A G i))/\X a a m:=by
 have D:(a.alloc (M #[A G 0,U I 0 0,A G 0,A G 0] 171)).cell? c=K (A G l):=(Ys _ _ c (Yj a _ f)).trans f;have n:=E (ai.new a #[A G 0,U I 0 0,A G 0,A G 0] 171);clear f;go_enter func134,ntmps134
 go_wp2_with (go_at_call 45;with_reducible refine(jm _ _ _ _ _).mono ?_;rintro j F ⟨b,rfl,k,r,g⟩;have h:=E (n.o.ext g);obtain⟨⟨J,L,P,R⟩,x,y,z,C⟩:=h.o.four;have p:=E g;have q:=E k;clear g k)
 obtain⟨⟨t,u,v,w⟩, -⟩:=(h.o.wu (A G 0) (U I 0 0) (A G 0) (A G 0)).four;refine YD (by simp [YU,results134,go_sem,t,u,v,w];try rfl) rfl ?_
 have s:b≠a.heap.size:=by have:=r;simp only [YN] at this;omega
 exact⟨b,rfl,(q.o.Vd s _ _ _ _).cell 2,fT (ext N p.o) (Yk _) _ _ _ _⟩
theorem ah.sub{k:V}{g off j cap:Nat}{c:Bs}(f:ah k (U (K ⟨g,off,I⟩) j cap) c){a m:Nat}(u:a+m<=j):ah k (U (K ⟨g,off+a,I⟩) m (cap - a)) ((c.drop a).take m):=by
 obtain⟨p,q,b,r,s,t,l⟩:=f;simp only [Yy] at b;obtain⟨rfl,rfl,rfl⟩:=b
 have h:((c.drop a).take m).length=m:=by rw [List.length_take,List.length_drop];omega
 refine⟨_,cap - a,by rw [h],O,O,λf=>(by cases f),λi o=>?_⟩;rw [h] at o;obtain⟨v,w,b,n⟩:=l (a+i) O;simp only [YQ,Addr.mk.injEq,and_true] at b;obtain⟨rfl,rfl⟩:=b;refine⟨_,_,rfl,?_⟩;rw [YW,n];have:i<m:=O;simp [YR,List.getElem?_take,List.getElem?_drop,this]
theorem ah.at{w:V}{c off n cap:Nat}{b:Bs}(f:ah w (U (K ⟨c,off,I⟩) n cap) b){j:Nat}(i:j<n):w.cell? ⟨c,off+j,I⟩=K (A Yf ((b.getD j 0).toNat:Int)):=by
 obtain⟨l,m,a,o,p,q,g⟩:=f;simp only [Yy] at a;obtain⟨rfl,rfl,rfl⟩:=a;obtain⟨k,r,a,h⟩:=g j i;simp only [YQ,Addr.mk.injEq,and_true] at a;obtain⟨rfl,rfl⟩:=a;exact h
theorem ah.ft{l:V}{b:Z}{a:Bs}(f:ah l b a)(j:0<a.length):∃c off cap,b=U (K ⟨c,off,I⟩) a.length cap/\a.length<=cap/\cap<=YO:=by
 obtain⟨m,cap,rfl,g,h,n,i⟩:=f;obtain⟨k,off,rfl,o⟩:=i 0 j;exact⟨k,off,cap,rfl,g,h⟩
def oK(a:V)(b:Ending)(f:V):Prop:=∃c g,b=e (Ye #[Yc #[A G 0,U I 0 0,A G 0,A G 0],Yd c g])/\X a a f
theorem KU(m:Z)(f:Bs)(a:Nat)(c:V)(h:ah c m f)(q:f.length<=a):
  d prog 92 #[m,A G a] c λp r=>oK c p r:=by
 obtain⟨s,cap,rfl⟩:=h.shape;obtain⟨b,g⟩:∃b,f.length=b:=⟨_,rfl⟩;rw [g] at q⊢;have n:=E ((ai.new (c.alloc (M #[A G a] 3)) #[A G 0,U I 0 0,A G 0,A G 0] 171));have t:decide ((a:Int)<0)=false:=Y
 have u:decide ((a:Int)>=(b:Int))=true:=by simp;omega
 have v:decide ((b:Int)<=(a:Int))=true:=by simp;omega
 clear h g;go_enter func92,ntmps92;go_wp2;obtain⟨⟨i,j,k,l⟩, -⟩:=n.o.four;simp only [YN] at i j k l;refine YD (by simp [YU,results92,go_sem,i,j,k,l];try rfl) rfl ?_;exact⟨_,_,rfl,N⟩
theorem Ci(C:Z)(c:Bs)(a:Nat)(b:V)(h:ah b C c)(w:a<c.length)(k:c.getD a 0≠0)(t:c.length - a<4):
  d prog 92 #[C,A G a] b λr a2=>oK b r a2:=by
 obtain⟨s,off,cap,rfl,u,v⟩:=h.ft O;obtain⟨i,y⟩:∃i,c.length=i:=⟨_,rfl⟩;rw [y] at w h t u⊢;have m:=h.at w;generalize R:c.getD a 0=p at k m
 have x:p.toNat≠0:=λj=>k (UInt8.toNat_inj.1 (by simpa using j))
 generalize p.toNat=z at m x;clear R k p;obtain⟨f,rfl⟩:∃f,i=a+f:=⟨i - a,O⟩;obtain⟨g,rfl⟩:∃g,cap=a+g:=⟨cap - a,O⟩;have F:=E (λ(n:V) (j:n.cell? b=K (A G a))=>my 1 b a n j)
 have D:Hd (ai ((b.alloc (M #[A G a] 3)).alloc (M #[A G 0,U I 0 0,A G 0,A G 0] 171)) (b.heap.size+1) #[A G 0,U I 0 0,A G 0,A G 0] 171):=E (by
  have:=ai.new (b.alloc (M #[A G a] 3)) #[A G 0,U I 0 0,A G 0,A G 0] 171
  simpa only [YN] using this)
 have L:Hd (((b.alloc (M #[A G a] 3)).alloc (M #[A G 0,U I 0 0,A G 0,A G 0] 171)).cell? b=K (A G a)):=E (by
  rw [Ys _ _ b Y];simp)
 have b1:decide ((a:Int)<0)=false:=Y;have b2:f<4:=O;have b3:¬(z:Int)=0:=O
 have b4:((z:Int)==0)=false:=by simpa using x
 have b5:0<f:=O;have b6:f<=g:=O;have b7:a+g<=YO:=v;have a9:s<b.heap.size:=Yj b _ m;have b0:s<b.heap.size+1:=O;clear h y u v t;go_enter func92,ntmps92
 go_wp2_with (go_at_call 134;with_reducible refine(F.o _ L.o).mono ?_;rintro r n ⟨a3,rfl,P,l⟩;have q:=E (D.o.ext l);obtain⟨⟨b8,b9,c0,c1⟩,a5,a6,a7,a8⟩:=q.o.four;have J:=E l;clear l P)
 obtain⟨⟨T,W,a0,a1⟩, -⟩:=(q.o.wu (A G 0) (U I 0 0) (A G 0) (A G 0)).four;refine YD (by simp [YU,results92,go_sem,T,W,a0,a1];try rfl) rfl ?_;exact⟨_,_,rfl,fT (ext N J.o) O _ _ _ _⟩
theorem ir(c:Nat)(a b:Nat)(f:a%2^c=0)(g:b<2^c)(i:a<4611686018427387904)(h:2^c<4611686018427387904):bits .or G (a:Int) (b:Int)=((a+b:Nat):Int):=by
 rw [vq a b O O,nat_join c a b f g]
theorem Cj(a6:Z)(b:Bs)(a:Nat)(c:V)(i:ah c a6 b)(a0:a<b.length)(s:b.getD a 0≠0)(R:4<=b.length - a)(t:mF (b.drop (a+1))<=65536)(m:b.length - a<mF (b.drop (a+1))+8):
  d prog 92 #[a6,A G a] c λF b9=>oK c F b9:=by
 obtain⟨P,off,cap,rfl,W,v⟩:=i.ft O;obtain⟨n,a2⟩:∃n,b.length=n:=⟨_,rfl⟩;rw [a2] at a0 i R W m⊢;have w:=i.at a0;have b2:=i.at (j:=a+1) O;have b3:=i.at (j:=a+2) O;have b4:=i.at (j:=a+3) O
 have a3:mF (b.drop (a+1))=(b.getD (a+1) 0).toNat*65536+(b.getD (a+2) 0).toNat*256+(b.getD (a+3) 0).toNat:=by
  unfold mF;simp [YR,List.getElem?_drop]
 rw [a3] at t m;clear a3;generalize b1:b.getD a 0=y at s w
 have a1:y.toNat≠0:=λr=>s (UInt8.toNat_inj.1 (by simpa using r))
 generalize y.toNat=a5 at w a1;clear b1 s y;have e3:=(b.getD (a+1) 0).toNat_lt;have e4:=(b.getD (a+2) 0).toNat_lt;have e5:=(b.getD (a+3) 0).toNat_lt;generalize (b.getD (a+1) 0).toNat=f at*;generalize (b.getD (a+2) 0).toNat=h at*;generalize (b.getD (a+3) 0).toNat=q at*;obtain⟨g,rfl⟩:∃g,n=a+g:=⟨n - a,O⟩;obtain⟨l,rfl⟩:∃l,cap=a+l:=⟨cap - a,O⟩;have a8:=E (λ(x:V) (r:x.cell? c=K (A G a))=>my 1 c a x r)
 have a7:Hd (ai ((c.alloc (M #[A G a] 3)).alloc (M #[A G 0,U I 0 0,A G 0,A G 0] 171)) (c.heap.size+1) #[A G 0,U I 0 0,A G 0,A G 0] 171):=E (by
  have:=ai.new (c.alloc (M #[A G a] 3)) #[A G 0,U I 0 0,A G 0,A G 0] 171
  simpa only [YN] using this)
 have D:Hd (((c.alloc (M #[A G a] 3)).alloc (M #[A G 0,U I 0 0,A G 0,A G 0] 171)).cell? c=K (A G a)):=E (by
  rw [Ys _ _ c Y];simp)
 have e6:decide ((a:Int)<0)=false:=Y;have e7:¬g<4:=O;have e8:¬(a5:Int)=0:=O
 have e9:((a5:Int)==0)=false:=by simpa using a1
 have g0:0<g:=O;have g1:g<=l:=O;have g2:a+l<=YO:=v;have c7:P<c.heap.size:=Yj c _ w;have c8:P<c.heap.size+1:=O;have e0:1<g:=O;have e1:2<g:=O;have e2:3<g:=O
 have g3:Zc G ((f:Int)*65536)=(f:Int)*65536:=by rw [Yo];omega
 have s2:Zc G ((h:Int)*256)=(h:Int)*256:=by rw [Yo];omega
 have s3:Zc G (f:Int)=(f:Int):=by rw [Yo];omega
 obtain⟨k,u⟩:∃k,f*65536+h*256+q=k:=⟨_,rfl⟩
 have a9:Hd (bits .or G (bits .or G ((f:Int)*65536) ((h:Int)*256)) (q:Int)=(k:Int)):=E (by
  have J:=ir 16 (f*65536) (h*256) O O O O;have L:=ir 8 (f*65536+h*256) q O O O O;simp only [Int.natCast_mul,Int.natCast_add] at J L;rw [show((f:Int)*65536)=(f:Int)*((65536:Nat):Int) from rfl,show((h:Int)*256)=(h:Int)*((256:Nat):Int) from rfl,J,L,<-u]
  simp only [Int.natCast_mul,Int.natCast_add])
 rw [u] at t m;have c5:¬65536<k:=O;have c6:g<k+8:=O
 have c9:g<=9223372036854775807:=by unfold YO at v;omega
 clear i a2 W v R u t m;simp only [<-YW] at b2 b3 b4;go_enter func92,ntmps92
 go_wp2_with fail
 go_quiet (fail);rw [a9.o]
 go_wp2_with (go_at_call 134;refine(a8.o _ (by first|exact D.o|exact((ag (Yn _ _) _).cell (p:=c) (by simp;omega)).trans D.o)).mono ?_;rintro F x ⟨c0,rfl,b0,T⟩;have C:=E (ext (ag (Yn _ _) _) T);have z:=E (a7.o.ext C.o);obtain⟨⟨g4,g5,g6,g7⟩,c1,c2,c3,c4⟩:=z.o.four;clear T b0)
 obtain⟨⟨b5,b6,b7,b8⟩, -⟩:=(z.o.wu (A G 0) (U I 0 0) (A G 0) (A G 0)).four;refine YD (by simp [YU,results92,go_sem,b5,b6,b7,b8];try rfl) rfl ?_;exact⟨_,_,rfl,fT (ext N C.o) O _ _ _ _⟩
theorem wb{j:FuncId}{i:Array Z}{b:V}{h k:Nat}{l:Z}(a:∀c:V,X b b c->d prog j i c λf g=>f=e l/\c=g):
  d prog j i (b.drewN (h+k)) λf g=>f=e l/\∃m,g=b.drewN (h+m):=
 (a _ (ag (Yn _ _) _)).mono λ_ _ a=>⟨a.1,k,a.2.symm⟩
theorem kr(c:Nat)(a b:Nat)(f:a%2^c=0)(g:b<2^c)(i:a<4294967296)(h:2^c<4294967296):bits .or .u32 (a:Int) (b:Int)=((a+b:Nat):Int):=by
 rw [u32_or_nat a b O O,nat_join c a b f g]
theorem iE{c:V}{a f o:Nat}{g:Z}(b:f≠a)(h:c.cell? ⟨f,o,I⟩=K g)(j k l i:Z):((((c.setCell a j).setCell ⟨a,1,I⟩ k).setCell ⟨a,2,I⟩ l).setCell ⟨a,3,I⟩ i).cell? ⟨f,o,I⟩=K g:=by
 rw [YS (w:=_) (Yt _ _ _ _ b),YS (w:=_) (Yt _ _ _ _ b),YS (w:=_) (Yt _ _ _ _ b),YS (w:=c) (Yt _ _ _ _ b)];exact h
def Eg(kind:Nat)(b:Bs)(i h:Nat)(a:V)(g:Ending)(f:V):Prop:=
 ∃c,g=e (Ye #[Yc #[A G kind,c,A G i,A G h],Ya])/\f.ownsRow a 5 1 c b.length (ak b)/\X a a f
theorem QQ(h4:Z)(f:Bs)(a:Nat)(c:V)(i:ah c h4 f)(C:a<f.length)(b2:f.getD a 0≠0)(e4:4<=f.length - a)(e5:mF (f.drop (a+1))<=65536)(b6:mF (f.drop (a+1))+8<=f.length - a)(F:aF ((f.drop a).take (4+mF (f.drop (a+1))))=kW (f.drop (a+4+mF (f.drop (a+1))))):
  d prog 92 #[h4,A G a] c λa9 w=>Eg ((f.getD a 0).toNat) ((f.drop (a+4)).take (mF (f.drop (a+1)))) a (a+8+mF (f.drop (a+1))) c a9 w:=by
 obtain⟨h,off,cap,rfl,e7,b4⟩:=i.ft O;obtain⟨L,g2⟩:∃L,f.length=L:=⟨_,rfl⟩;rw [g2] at C i e4 e7 b6⊢;have J:=i.at C;have g7:=i.at (j:=a+1) O;have g8:=i.at (j:=a+2) O;have g9:=i.at (j:=a+3) O
 have b5:mF (f.drop (a+1))=(f.getD (a+1) 0).toNat*65536+(f.getD (a+2) 0).toNat*256+(f.getD (a+3) 0).toNat:=by
  unfold mF;simp [YR,List.getElem?_drop]
 obtain⟨b,e6⟩:∃b,mF (f.drop (a+1))=b:=⟨_,rfl⟩;rw [e6] at e5 b6 F b5⊢
 have e8:kW (f.drop (a+4+b))=(f.getD (a+4+b) 0).toNat*16777216+(f.getD (a+4+b+1) 0).toNat*65536+(f.getD (a+4+b+2) 0).toNat*256+(f.getD (a+4+b+3) 0).toNat:=by
  unfold kW;simp [YR,List.getElem?_drop]
 have h0:=i.at (j:=a+4+b) O;have h1:=i.at (j:=a+4+b+1) O;have h2:=i.at (j:=a+4+b+2) O;have h3:=i.at (j:=a+4+b+3) O;have m4:=(f.getD (a+4+b) 0).toNat_lt;have m5:=(f.getD (a+4+b+1) 0).toNat_lt;have m6:=(f.getD (a+4+b+2) 0).toNat_lt;have m7:=(f.getD (a+4+b+3) 0).toNat_lt;rw [e8] at F;clear e8 e6;generalize (f.getD (a+4+b) 0).toNat=m at*;generalize (f.getD (a+4+b+1) 0).toNat=n at*;generalize (f.getD (a+4+b+2) 0).toNat=s at*;generalize (f.getD (a+4+b+3) 0).toNat=D at*;generalize b7:f.getD a 0=a6 at b2 J
 have g1:a6.toNat≠0:=λb1=>b2 (UInt8.toNat_inj.1 (by simpa using b1))
 have j2:=a6.toNat_lt;generalize a6.toNat=l at J g1 j2⊢;clear b7 b2 a6;have m1:=(f.getD (a+1) 0).toNat_lt;have m2:=(f.getD (a+2) 0).toNat_lt;have m3:=(f.getD (a+3) 0).toNat_lt;generalize (f.getD (a+1) 0).toNat=t at*;generalize (f.getD (a+2) 0).toNat=v at*;generalize (f.getD (a+3) 0).toNat=c9 at*;have i2:=E i;have i1:=E F;have g3:L=a+(8+b+(L - a - (8+b))):=O;obtain⟨r,g5⟩:∃r,r=L - a - (8+b):=⟨_,rfl⟩;rw [<-g5] at g3;clear g5;obtain⟨k,i9⟩:∃k,cap=a+(4+b+k):=⟨cap - a - (4+b),O⟩;subst g3;subst i9;have h6:=E (λ(a3:V) (b1:a3.cell? c=K (A G a))=>my 1 c a a3 b1)
 have c0:Hd (ai ((c.alloc (M #[A G a] 3)).alloc (M #[A G 0,U I 0 0,A G 0,A G 0] 171)) (c.heap.size+1) #[A G 0,U I 0 0,A G 0,A G 0] 171):=E (by
  have:=ai.new (c.alloc (M #[A G a] 3)) #[A G 0,U I 0 0,A G 0,A G 0] 171
  simpa only [YN] using this)
 have c4:Hd (((c.alloc (M #[A G a] 3)).alloc (M #[A G 0,U I 0 0,A G 0,A G 0] 171)).cell? c=K (A G a)):=E (by
  rw [Ys _ _ c Y];simp)
 have m8:decide ((a:Int)<0)=false:=Y;have m9:¬8+b+r<4:=O;have n0:¬(l:Int)=0:=O
 have n1:((l:Int)==0)=false:=by simpa using g1
 have n2:0<8+b+r:=O;have n3:8+b+r<=4+b+k:=O;have j6:a+(4+b+k)<=YO:=b4;have j1:h<c.heap.size:=Yj c _ J;have l3:h<c.heap.size+1:=O;have j3:1<8+b+r:=O;have j4:2<8+b+r:=O;have j5:3<8+b+r:=O
 have k1:Zc G ((t:Int)*65536)=(t:Int)*65536:=by rw [Yo];omega
 have s2:Zc G ((v:Int)*256)=(v:Int)*256:=by rw [Yo];omega
 have s3:Zc G (t:Int)=(t:Int):=by rw [Yo];omega
 have c5:Hd (bits .or G (bits .or G ((t:Int)*65536) ((v:Int)*256)) (c9:Int)=(b:Int)):=E (by
  have x:=ir 16 (t*65536) (v*256) O O O O;have y:=ir 8 (t*65536+v*256) c9 O O O O;simp only [Int.natCast_mul,Int.natCast_add] at x y;rw [show((t:Int)*65536)=(t:Int)*((65536:Nat):Int) from rfl,show((v:Int)*256)=(v:Int)*((256:Nat):Int) from rfl,x,y,b5]
  simp only [Int.natCast_mul,Int.natCast_add])
 have i4:¬65536<b:=O;have i5:¬8+b+r<b+8:=O
 have l6:8+b+r<=9223372036854775807:=by unfold YO at b4;omega
 have a3:IntKind.u32.wrap ((m:Int)*16777216)=(m:Int)*16777216:=by rw [IntKind.wrap_u32'];omega
 have k6:IntKind.u32.wrap ((n:Int)*65536)=(n:Int)*65536:=by rw [IntKind.wrap_u32'];omega
 have u:IntKind.u32.wrap ((s:Int)*256)=(s:Int)*256:=by rw [IntKind.wrap_u32'];omega
 obtain⟨T,b3⟩:∃T,m*16777216+n*65536+s*256+D=T:=⟨_,rfl⟩
 have c6:Hd (bits .or .u32 (bits .or .u32 (bits .or .u32 ((m:Int)*16777216) ((n:Int)*65536)) ((s:Int)*256)) (D:Int)=(T:Int)):=E (by
  have x:=kr 24 (m*16777216) (n*65536) O O O O;have y:=kr 16 (m*16777216+n*65536) (s*256) O O O O;have b0:=kr 8 (m*16777216+n*65536+s*256) D O O O O;simp only [Int.natCast_mul,Int.natCast_add] at x y b0;rw [show((m:Int)*16777216)=(m:Int)*((16777216:Nat):Int) from rfl,show((n:Int)*65536)=(n:Int)*((65536:Nat):Int) from rfl,show((s:Int)*256)=(s:Int)*((256:Nat):Int) from rfl,x,y,b0,<-b3]
  simp only [Int.natCast_mul,Int.natCast_add])
 have c2:=E (λ(a5:V) (b7:X c c a5)=>show d prog 135 #[U (K ⟨h,off+a,I⟩) (4+b) (4+b+k)] a5 λa9 w=>a9=e (A .u32 (T:Int))/\a5=w from by
  have q:=(i.ext b7).sub (a:=a) (m:=4+b) O;rw [Nat.add_sub_cancel_left] at q;have:=px _ _ a5 q;rw [F,b3] at this
  exact this)
 have c3:=E (show ah c (U (K ⟨h,off+a+4,I⟩) b (4+b+k - 4)) ((f.drop (a+4)).take b) from by
  have q:=i.sub (a:=a+4) (m:=b) O;rw [(O:a+(4+b+k) - (a+4)=4+b+k - 4),<-YW] at q
  exact q)
 have h7:Hd (((f.drop (a+4)).take b).length=b):=E (by rw [List.length_take,List.length_drop];omega);generalize (f.drop (a+4)).take b=a0 at*;clear i g2 e7 b4 e4 e5 b6 b5 F h6 i1 i2 b3
 have k2:IntKind.u32.wrap (m:Int)=(m:Int):=by rw [IntKind.wrap_u32'];omega
 have k3:IntKind.u32.wrap (n:Int)=(n:Int):=by rw [IntKind.wrap_u32'];omega
 have k4:IntKind.u32.wrap (s:Int)=(s:Int):=by rw [IntKind.wrap_u32'];omega
 have k5:IntKind.u32.wrap (D:Int)=(D:Int):=by rw [IntKind.wrap_u32'];omega
 have n4:Zc G (4+(b:Int))=4+(b:Int):=by rw [Yo];omega
 have n6:(4+(b:Int)).toNat=4+b:=O;have n8:0<=4+(b:Int):=O;simp only [<-YW] at g7 g8 g9;rw [(O:off+(a+4+b)=off+a+(4+b))] at h0;rw [(O:off+(a+4+b+1)=off+a+(4+b)+1)] at h1;rw [(O:off+(a+4+b+2)=off+a+(4+b)+2)] at h2;rw [(O:off+(a+4+b+3)=off+a+(4+b)+3)] at h3;go_enter func92,ntmps92
 go_wp2_with fail
 go_quiet (fail);rename Nat=>a1;rw [c5.o]
 go_wp2_with fail
 try rw [(O:8+b - (4+b)=4)]
 try rw [(O:4+b+k - (4+b)=k)]
 go_quiet ((go_at_call 135;exact wb (λg i6=>c2.o g (ext N i6))));rename Nat=>a2;rw [c6.o]
 go_wp2_with fail
 have R:=E (show X ((c.alloc (M #[A G a] 3)).alloc (M #[A G 0,U I 0 0,A G 0,A G 0] 171)).heap.size ((c.alloc (M #[A G a] 3)).alloc (M #[A G 0,U I 0 0,A G 0,A G 0] 171)) ((((c.alloc (M #[A G a] 3)).alloc (M #[A G 0,U I 0 0,A G 0,A G 0] 171)).drewN a1).drewN a2) from ag (ag (Yn _ _) _) _);have a7:=E (show X c c ((((c.alloc (M #[A G a] 3)).alloc (M #[A G 0,U I 0 0,A G 0,A G 0] 171)).drewN a1).drewN a2) from ext N R.o);have h5:=E (c0.o.ext R.o);have b8:=(R.o.cell (p:=c) (by simp;omega)).trans c4.o;have b9:=(a7.o.cell (p:=⟨h,off+a,I⟩) j1).trans J;have h8:=E (c3.o.ext a7.o)
 have g6:((((c.alloc (M #[A G a] 3)).alloc (M #[A G 0,U I 0 0,A G 0,A G 0] 171)).drewN a1).drewN a2).heap.size=c.heap.size+2:=by show((c.alloc (M #[A G a] 3)).alloc (M #[A G 0,U I 0 0,A G 0,A G 0] 171)).heap.size=_;simp
 generalize ((((c.alloc (M #[A G a] 3)).alloc (M #[A G 0,U I 0 0,A G 0,A G 0] 171)).drewN a1).drewN a2)=g at*;have k7:=E g6;have e9:c.heap.size<g.heap.size:=O;have g0:h<g.heap.size:=O;have l5:c.heap.size+1<g.heap.size:=O
 have l2:a+8+b<=9223372036854775807:=by unfold YO at j6;omega
 have x:Zc G ((a:Int)+8)=(a:Int)+8:=by rw [Yo];omega
 have y:Zc G ((a:Int)+8+(b:Int))=(a:Int)+8+(b:Int):=by rw [Yo];omega
 have b0:Zc G (l:Int)=(l:Int):=by rw [Yo];omega
 have m0:¬4+b+k=4:=O;have l7:(0:Int)<8+(b:Int)+(r:Int):=O;have l8:(4:Int)<=4+(b:Int):=O;have l9:4+(b:Int)<=4+(b:Int)+(k:Int):=O;have h9:=E (show([]:Bs).length+a0.length<=1099511627776 from by rw [h7.o];simp;omega);clear R g6 k1 s2 s3 c5 i4 i5 a3 k6 u c6 c2 c3 k2 k3 k4 k5 g7 g8 g9 h0 h1 h2 h3 J c4 c0 j3 j4 j5;have c7:=E (show g.drew.cell? c=K (A G a)/\g.drew.cell? ⟨h,off+a,I⟩=K (A Yf (l:Int)) from⟨b8,b9⟩);have c8:=E (show(g.alloc (M #[] 5)).drew.cell? c=K (A G a)/\(g.alloc (M #[] 5)).drew.cell? ⟨h,off+a,I⟩=K (A Yf (l:Int)) from⟨(Ys _ _ c e9).trans b8,(Ys _ _ ⟨h,off+a,I⟩ g0).trans b9⟩)
 go_region_held3 (λw=>w.cell? c=K (A G a)/\w.cell? ⟨h,off+a,I⟩=K (A Yf (l:Int)))
  (first|with_reducible exact c7.o|with_reducible exact c8.o|with_reducible exact a8.o|exact c7.o|exact c8.o|exact i3.o _ _ _ _)
  ((refine cQ (by rfl) _ _ (by rfl) g (U (K g) 0 0) (U (K ⟨h,off+a+4,I⟩) b (4+b+k - 4)) [] a0 (by rfl) (nh g) (by rfl) (h8.o.ext N) h9.o Y ?_;intro e0 e2 u g4 z i7;have P:=E (show X g g u from((Yn _ _).alloc (Yk _) (M #[] 5)).grown (w':=u) ⟨z.os,z.tape,z.output,z.size,z.block⟩ Y (by intro a C;simp [YT] at C;omega));have a8:=E (show u.cell? c=K (A G a)/\u.cell? ⟨h,off+a,I⟩=K (A Yf (l:Int)) from⟨(P.o.cell (p:=c) e9).trans b8,(P.o.cell (p:=⟨h,off+a,I⟩) g0).trans b9⟩);have i3:=E (λ(W f e1 e3:Z)=>show((((u.setCell ⟨c.heap.size+1,0,I⟩ W).setCell ⟨c.heap.size+1,1,I⟩ f).setCell ⟨c.heap.size+1,2,I⟩ e1).setCell ⟨c.heap.size+1,3,I⟩ e3).cell? c=K (A G a)/\((((u.setCell ⟨c.heap.size+1,0,I⟩ W).setCell ⟨c.heap.size+1,1,I⟩ f).setCell ⟨c.heap.size+1,2,I⟩ e1).setCell ⟨c.heap.size+1,3,I⟩ e3).cell? ⟨h,off+a,I⟩=K (A Yf (l:Int)) from⟨iE O a8.o.1 _ _ _ _,iE O a8.o.2 _ _ _ _⟩);have c1:=E (h5.o.ext P.o);obtain⟨⟨n9,o0,o1,o2⟩,k8,k9,l0,l1⟩:=c1.o.four;have i0:=E g4;clear g4 z i7))
 all_goals go_wp2
 all_goals obtain⟨⟨j7,j8,j9,k0⟩, -⟩:=(c1.o.wu (A G l) (U e0 a0.length e2) (A G a) (A G ((a:Int)+8+(b:Int)))).four
 all_goals refine YD (by simp [YU,results92,go_sem,j7,j8,j9,k0];try rfl) rfl ?_
 all_goals
  have j0:((a+8+b:Nat):Int)=(a:Int)+8+(b:Int):=O;refine⟨U e0 a0.length e2,by rw [j0],?_,fT (ext a7.o P.o) O _ _ _ _⟩;have q:=i0.o;simp only [List.nil_append,List.length_nil,Nat.zero_add] at q;refine aA (an q λa C=>?_) O;have l4:=(q.lt a C).1;rw [Yt _ _ _ _ (O:a≠c.heap.size+1),Yt _ _ _ _ (O:a≠c.heap.size+1),Yt _ _ _ _ (O:a≠c.heap.size+1),Yt _ _ _ _ (O:a≠c.heap.size+1)]
theorem KT(a5:Z)(b:Bs)(a:Nat)(c:V)(i:ah c a5 b)(W:a<b.length)(r:b.getD a 0≠0)(P:4<=b.length - a)(s:65536<mF (b.drop (a+1))):
  d prog 92 #[a5,A G a] c λD b8=>oK c D b8:=by
 obtain⟨L,off,cap,rfl,T,u⟩:=i.ft O;obtain⟨m,a1⟩:∃m,b.length=m:=⟨_,rfl⟩;rw [a1] at W i P T⊢;have v:=i.at W;have b1:=i.at (j:=a+1) O;have b2:=i.at (j:=a+2) O;have b3:=i.at (j:=a+3) O
 have a2:mF (b.drop (a+1))=(b.getD (a+1) 0).toNat*65536+(b.getD (a+2) 0).toNat*256+(b.getD (a+3) 0).toNat:=by
  unfold mF;simp [YR,List.getElem?_drop]
 rw [a2] at s;clear a2;generalize b0:b.getD a 0=x at r v
 have a0:x.toNat≠0:=λq=>r (UInt8.toNat_inj.1 (by simpa using q))
 generalize x.toNat=a3 at v a0;clear b0 r x;have e1:=(b.getD (a+1) 0).toNat_lt;have e2:=(b.getD (a+2) 0).toNat_lt;have e3:=(b.getD (a+3) 0).toNat_lt;generalize (b.getD (a+1) 0).toNat=f at*;generalize (b.getD (a+2) 0).toNat=h at*;generalize (b.getD (a+3) 0).toNat=n at*;obtain⟨g,rfl⟩:∃g,m=a+g:=⟨m - a,O⟩;obtain⟨l,rfl⟩:∃l,cap=a+l:=⟨cap - a,O⟩;have a7:=E (λ(w:V) (q:w.cell? c=K (A G a))=>my 5 c a w q)
 have a6:Hd (ai ((c.alloc (M #[A G a] 3)).alloc (M #[A G 0,U I 0 0,A G 0,A G 0] 171)) (c.heap.size+1) #[A G 0,U I 0 0,A G 0,A G 0] 171):=E (by
  have:=ai.new (c.alloc (M #[A G a] 3)) #[A G 0,U I 0 0,A G 0,A G 0] 171
  simpa only [YN] using this)
 have C:Hd (((c.alloc (M #[A G a] 3)).alloc (M #[A G 0,U I 0 0,A G 0,A G 0] 171)).cell? c=K (A G a)):=E (by
  rw [Ys _ _ c Y];simp)
 have e4:decide ((a:Int)<0)=false:=Y;have e5:¬g<4:=O;have e6:¬(a3:Int)=0:=O
 have e7:((a3:Int)==0)=false:=by simpa using a0
 have e8:0<g:=O;have e9:g<=l:=O;have g0:a+l<=YO:=u;have c5:L<c.heap.size:=Yj c _ v;have c6:L<c.heap.size+1:=O;have c8:1<g:=O;have c9:2<g:=O;have e0:3<g:=O
 have g1:Zc G ((f:Int)*65536)=(f:Int)*65536:=by rw [Yo];omega
 have s2:Zc G ((h:Int)*256)=(h:Int)*256:=by rw [Yo];omega
 have s3:Zc G (f:Int)=(f:Int):=by rw [Yo];omega
 obtain⟨k,t⟩:∃k,f*65536+h*256+n=k:=⟨_,rfl⟩
 have a8:Hd (bits .or G (bits .or G ((f:Int)*65536) ((h:Int)*256)) (n:Int)=(k:Int)):=E (by
  have F:=ir 16 (f*65536) (h*256) O O O O;have J:=ir 8 (f*65536+h*256) n O O O O;simp only [Int.natCast_mul,Int.natCast_add] at F J;rw [show((f:Int)*65536)=(f:Int)*((65536:Nat):Int) from rfl,show((h:Int)*256)=(h:Int)*((256:Nat):Int) from rfl,F,J,<-t]
  simp only [Int.natCast_mul,Int.natCast_add])
 rw [t] at s;have c4:65536<k:=O
 have c7:g<=9223372036854775807:=by unfold YO at u;omega
 clear i a1 T u P t s;simp only [<-YW] at b1 b2 b3;go_enter func92,ntmps92
 go_wp2_with fail
 go_quiet (fail);rw [a8.o]
 go_wp2_with (go_at_call 134;refine(a7.o _ (by first|exact C.o|exact((ag (Yn _ _) _).cell (p:=c) (by simp;omega)).trans C.o)).mono ?_;rintro D w ⟨b9,rfl,a9,R⟩;have z:=E (ext (ag (Yn _ _) _) R);have y:=E (a6.o.ext z.o);obtain⟨⟨g2,g3,g4,g5⟩,c0,c1,c2,c3⟩:=y.o.four;clear R a9)
 obtain⟨⟨b4,b5,b6,b7⟩, -⟩:=(y.o.wu (A G 0) (U I 0 0) (A G 0) (A G 0)).four;refine YD (by simp [YU,results92,go_sem,b4,b5,b6,b7];try rfl) rfl ?_;exact⟨_,_,rfl,fT (ext N z.o) O _ _ _ _⟩
theorem Ov(c4:Z)(f:Bs)(b:Nat)(g:V)(h:ah g c4 f)(b9:b<f.length)(P:f.getD b 0≠0)(b3:4<=f.length - b)(b4:mF (f.drop (b+1))<=65536)(a2:mF (f.drop (b+1))+8<=f.length - b)(y:aF ((f.drop b).take (4+mF (f.drop (b+1))))≠kW (f.drop (b+4+mF (f.drop (b+1))))):
  d prog 92 #[c4,A G b] g λv a6=>oK g v a6:=by
 obtain⟨C,off,cap,rfl,b7,a0⟩:=h.ft O;obtain⟨z,c1⟩:∃z,f.length=z:=⟨_,rfl⟩;rw [c1] at b9 h b3 b7 a2⊢;have a5:=h.at b9;have e8:=h.at (j:=b+1) O;have e9:=h.at (j:=b+2) O;have g0:=h.at (j:=b+3) O
 have a1:mF (f.drop (b+1))=(f.getD (b+1) 0).toNat*65536+(f.getD (b+2) 0).toNat*256+(f.getD (b+3) 0).toNat:=by
  unfold mF;simp [YR,List.getElem?_drop]
 obtain⟨c,b5⟩:∃c,mF (f.drop (b+1))=c:=⟨_,rfl⟩;rw [b5] at b4 a2 y a1
 have b8:kW (f.drop (b+4+c))=(f.getD (b+4+c) 0).toNat*16777216+(f.getD (b+4+c+1) 0).toNat*65536+(f.getD (b+4+c+2) 0).toNat*256+(f.getD (b+4+c+3) 0).toNat:=by
  unfold kW;simp [YR,List.getElem?_drop]
 have g1:=h.at (j:=b+4+c) O;have g2:=h.at (j:=b+4+c+1) O;have g3:=h.at (j:=b+4+c+2) O;have g4:=h.at (j:=b+4+c+3) O;have j0:=(f.getD (b+4+c) 0).toNat_lt;have j1:=(f.getD (b+4+c+1) 0).toNat_lt;have j2:=(f.getD (b+4+c+2) 0).toNat_lt;have j3:=(f.getD (b+4+c+3) 0).toNat_lt;rw [b8] at y;clear b8 b5;generalize (f.getD (b+4+c) 0).toNat=i at*;generalize (f.getD (b+4+c+1) 0).toNat=k at*;generalize (f.getD (b+4+c+2) 0).toNat=m at*;generalize (f.getD (b+4+c+3) 0).toNat=u at*;generalize a3:f.getD b 0=J at P a5
 have c0:J.toNat≠0:=λL=>P (UInt8.toNat_inj.1 (by simpa using L))
 have e7:=J.toNat_lt;generalize J.toNat=D at a5 c0 e7⊢;clear a3 P J;have i6:=(f.getD (b+1) 0).toNat_lt;have i7:=(f.getD (b+2) 0).toNat_lt;have i9:=(f.getD (b+3) 0).toNat_lt;generalize (f.getD (b+1) 0).toNat=r at*;generalize (f.getD (b+2) 0).toNat=s at*;generalize (f.getD (b+3) 0).toNat=b1 at*;have c9:=E h;have c8:=E y;have c2:z=b+(8+c+(z - b - (8+c))):=O;obtain⟨n,c3⟩:∃n,n=z - b - (8+c):=⟨_,rfl⟩;rw [<-c3] at c2;clear c3;obtain⟨l,e5⟩:∃l,cap=b+(4+c+l):=⟨cap - b - (4+c),O⟩;subst c2;subst e5;have c6:=E (λ(a7:V) (L:a7.cell? g=K (A G b))=>my 4 g b a7 L)
 have c5:Hd (ai ((g.alloc (M #[A G b] 3)).alloc (M #[A G 0,U I 0 0,A G 0,A G 0] 171)) (g.heap.size+1) #[A G 0,U I 0 0,A G 0,A G 0] 171):=E (by
  have:=ai.new (g.alloc (M #[A G b] 3)) #[A G 0,U I 0 0,A G 0,A G 0] 171
  simpa only [YN] using this)
 have b0:Hd (((g.alloc (M #[A G b] 3)).alloc (M #[A G 0,U I 0 0,A G 0,A G 0] 171)).cell? g=K (A G b)):=E (by
  rw [Ys _ _ g Y];simp)
 have j6:decide ((b:Int)<0)=false:=Y;have j7:¬8+c+n<4:=O;have j8:¬(D:Int)=0:=O
 have j9:((D:Int)==0)=false:=by simpa using c0
 have k0:0<8+c+n:=O;have k1:8+c+n<=4+c+l:=O;have k2:b+(4+c+l)<=YO:=a0;have i0:C<g.heap.size:=Yj g _ a5;have i1:C<g.heap.size+1:=O;have i3:1<8+c+n:=O;have i4:2<8+c+n:=O;have i5:3<8+c+n:=O
 have k3:Zc G ((r:Int)*65536)=(r:Int)*65536:=by rw [Yo];omega
 have s2:Zc G ((s:Int)*256)=(s:Int)*256:=by rw [Yo];omega
 have s3:Zc G (r:Int)=(r:Int):=by rw [Yo];omega
 have e0:Hd (bits .or G (bits .or G ((r:Int)*65536) ((s:Int)*256)) (b1:Int)=(c:Int)):=E (by
  have w:=ir 16 (r*65536) (s*256) O O O O;have x:=ir 8 (r*65536+s*256) b1 O O O O;simp only [Int.natCast_mul,Int.natCast_add] at w x;rw [show((r:Int)*65536)=(r:Int)*((65536:Nat):Int) from rfl,show((s:Int)*256)=(s:Int)*((256:Nat):Int) from rfl,w,x,a1]
  simp only [Int.natCast_mul,Int.natCast_add])
 have h7:¬65536<c:=O;have h8:¬8+c+n<c+8:=O
 have i2:8+c+n<=9223372036854775807:=by unfold YO at a0;omega
 have a7:IntKind.u32.wrap ((i:Int)*16777216)=(i:Int)*16777216:=by rw [IntKind.wrap_u32'];omega
 have l1:IntKind.u32.wrap ((k:Int)*65536)=(k:Int)*65536:=by rw [IntKind.wrap_u32'];omega
 have l2:IntKind.u32.wrap ((m:Int)*256)=(m:Int)*256:=by rw [IntKind.wrap_u32'];omega
 obtain⟨t,W⟩:∃t,i*16777216+k*65536+m*256+u=t:=⟨_,rfl⟩;obtain⟨R,T⟩:∃R,aF ((f.drop b).take (4+c))=R:=⟨_,rfl⟩
 have e3:¬(R:Int)=(t:Int):=by intro v;exact y (by rw [T,W];omega)
 have h9:((R:Int)==(t:Int))=false:=by simpa using e3
 have e1:Hd (bits .or .u32 (bits .or .u32 (bits .or .u32 ((i:Int)*16777216) ((k:Int)*65536)) ((m:Int)*256)) (u:Int)=(t:Int)):=E (by
  have w:=kr 24 (i*16777216) (k*65536) O O O O;have x:=kr 16 (i*16777216+k*65536) (m*256) O O O O;have b2:=kr 8 (i*16777216+k*65536+m*256) u O O O O;simp only [Int.natCast_mul,Int.natCast_add] at w x b2;rw [show((i:Int)*16777216)=(i:Int)*((16777216:Nat):Int) from rfl,show((k:Int)*65536)=(k:Int)*((65536:Nat):Int) from rfl,show((m:Int)*256)=(m:Int)*((256:Nat):Int) from rfl,w,x,b2,<-W]
  simp only [Int.natCast_mul,Int.natCast_add])
 have c7:=E (λ(F:V) (a3:X g g F)=>show d prog 135 #[U (K ⟨C,off+b,I⟩) (4+c) (4+c+l)] F λv a6=>v=e (A .u32 (R:Int))/\F=a6 from by
  have q:=(h.ext a3).sub (a:=b) (m:=4+c) O;rw [Nat.add_sub_cancel_left] at q;have:=px _ _ F q;rw [T] at this
  exact this)
 have g9:=E (show ah g (U (K ⟨C,off+b+4,I⟩) c (4+c+l - 4)) ((f.drop (b+4)).take c) from by
  have q:=h.sub (a:=b+4) (m:=c) O;rw [(O:b+(4+c+l) - (b+4)=4+c+l - 4),<-YW] at q
  exact q)
 have h0:Hd (((f.drop (b+4)).take c).length=c):=E (by rw [List.length_take,List.length_drop];omega);generalize (f.drop (b+4)).take c=h2 at*;clear h c1 b7 a0 b3 b4 a2 a1 y c8 c9 W T
 have k7:IntKind.u32.wrap (i:Int)=(i:Int):=by rw [IntKind.wrap_u32'];omega
 have k8:IntKind.u32.wrap (k:Int)=(k:Int):=by rw [IntKind.wrap_u32'];omega
 have k9:IntKind.u32.wrap (m:Int)=(m:Int):=by rw [IntKind.wrap_u32'];omega
 have l0:IntKind.u32.wrap (u:Int)=(u:Int):=by rw [IntKind.wrap_u32'];omega
 have k4:Zc G (4+(c:Int))=4+(c:Int):=by rw [Yo];omega
 have k5:(4+(c:Int)).toNat=4+c:=O;have k6:0<=4+(c:Int):=O;simp only [<-YW] at e8 e9 g0;rw [(O:off+(b+4+c)=off+b+(4+c))] at g1;rw [(O:off+(b+4+c+1)=off+b+(4+c)+1)] at g2;rw [(O:off+(b+4+c+2)=off+b+(4+c)+2)] at g3;rw [(O:off+(b+4+c+3)=off+b+(4+c)+3)] at g4;go_enter func92,ntmps92
 go_wp2_with fail
 go_quiet (fail);rename Nat=>j4;rw [e0.o]
 go_wp2_with fail
 try rw [(O:8+c - (4+c)=4)]
 try rw [(O:4+c+l - (4+c)=l)]
 go_quiet ((go_at_call 135;exact wb (λe2 e4=>c7.o e2 (ext N e4))));rename Nat=>j5;rw [e1.o]
 go_wp2_with (go_at_call 134;refine(c6.o _ (by first|exact b0.o|exact((ag (Yn _ _) _).cell (p:=g) (by simp;omega)).trans b0.o)).mono ?_;rintro v l3 ⟨h1,rfl,e6,b6⟩;have a9:=E (ext (ag (Yn _ _) _) b6);have a8:=E (c5.o.ext a9.o);obtain⟨⟨l4,l5,l6,l7⟩,h3,h4,h5,h6⟩:=a8.o.four;clear b6 e6)
 obtain⟨⟨g5,g6,g7,g8⟩, -⟩:=(a8.o.wu (A G 0) (U I 0 0) (A G 0) (A G 0)).four;refine YD (by simp [YU,results92,go_sem,g5,g6,g7,g8];try rfl) rfl ?_;exact⟨_,_,rfl,fT (ext N a9.o) O _ _ _ _⟩
theorem KS(t:Z)(c:Bs)(a:Nat)(b:V)(f:ah b t c)(q:a<c.length)(m:c.getD a 0=0):
  d prog 92 #[t,A G a] b λw z=>Eg 0 [] a (a+1) b w z:=by
 obtain⟨l,off,cap,rfl,n,p⟩:=f.ft O;obtain⟨s,r⟩:∃s,c.length=s:=⟨_,rfl⟩;rw [r] at q f n⊢;have g:=f.at q;rw [m] at g;have g:b.cell? ⟨l,off+a,I⟩=K (A Yf 0):=g;have D:l<b.heap.size:=Yj b _ g;have F:l<b.heap.size+1:=O;have J:decide ((a:Int)<0)=false:=Y
 have y:a+1<=9223372036854775807:=by unfold YO at p;omega
 have C:Zc G ((a:Int)+1)=(a:Int)+1:=by rw [Yo];omega
 have u:Hd (ai ((b.alloc (M #[A G a] 3)).alloc (M #[A G 0,U I 0 0,A G 0,A G 0] 171)) (b.heap.size+1) #[A G 0,U I 0 0,A G 0,A G 0] 171):=E (by
  have:=ai.new (b.alloc (M #[A G a] 3)) #[A G 0,U I 0 0,A G 0,A G 0] 171
  simpa only [YN] using this)
 have x:=E (O:((a+1:Nat):Int)=(a:Int)+1);obtain⟨⟨h,i,j,k⟩, -⟩:=(u.o.wu (A G 0) (U I 0 0) (A G a) (A G ((a:Int)+1))).four;have v:=E (YI h (YI i (YI j k)));clear h i j k f r n p m y;go_enter func92,ntmps92;go_wp2;obtain⟨h,i,j,k⟩:=v.o
 all_goals refine YD (by simp [YU,results92,go_sem,h,i,j,k];try rfl) rfl ?_
 refine⟨U I 0 0,by rw [x.o];rfl,YC _ _ _ 1,N⟩
def MG(c:Bs)(b:Nat)(g:V)(f:Ending)(h:V):Prop:=
 (∃i,gJ aF c b= .error i/\oK g f h)∨∃a,gJ aF c b= .ok a/\Eg a.kind a.data b a.fin g f h
theorem vS(h:Z)(b:Bs)(a:Nat)(g:V)(l:ah g h b):d prog 92 #[h,A G a] g λi k=>MG b a g i k:=by
 by_cases j:b.length<=a
 .exact(KU h b a g l j).mono λi k c=>Yg ⟨7,by unfold gJ;rw [if_pos j],c⟩
 by_cases f:b.getD a 0=0
 .exact(KS h b a g l O f).mono λi k c=>Yh ⟨⟨0,[],a+1⟩,by unfold gJ;rw [if_neg j,if_pos f],c⟩
 by_cases m:b.length - a<4
 .exact(Ci h b a g l O f m).mono λi k c=>Yg ⟨1,by unfold gJ;rw [if_neg j,if_neg f,if_pos m],c⟩
 by_cases n:65536<mF (b.drop (a+1))
 .exact(KT h b a g l O f O n).mono λi k c=>Yg ⟨5,by unfold gJ;rw [if_neg j,if_neg f,if_neg m,if_pos n],c⟩
 by_cases o:b.length - a<mF (b.drop (a+1))+8
 .exact(Cj h b a g l O f O O o).mono λi k c=>Yg ⟨1,by unfold gJ;rw [if_neg j,if_neg f,if_neg m,if_neg n,if_pos o],c⟩
 by_cases p:aF ((b.drop a).take (4+mF (b.drop (a+1))))=kW (b.drop (a+4+mF (b.drop (a+1))))
 .exact(QQ h b a g l O f O O O p).mono λi k c=>Yh ⟨_,by unfold gJ;rw [if_neg j,if_neg f,if_neg m,if_neg n,if_neg o,if_pos p],c⟩
 .exact(Ov h b a g l O f O O O p).mono λi k c=>Yg ⟨4,by unfold gJ;rw [if_neg j,if_neg f,if_neg m,if_neg n,if_neg o,if_neg p],c⟩
end
end Go.Proofs.YtajkpgaheechmaaGreatDoor
