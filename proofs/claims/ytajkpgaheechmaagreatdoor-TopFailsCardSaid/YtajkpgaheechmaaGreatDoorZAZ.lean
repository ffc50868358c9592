/- WhD GopE BoxA BoxB BoxC BoxD BoxE BoxF BoxH BoxG WhE GopF GopG GopH -/
import Derived.Test.YtajkpgaheechmaaGreatDoorZAY
set_option maxRecDepth 100000
set_option maxHeartbeats 16000000
set_option linter.unusedSimpArgs false
set_option linter.unusedVariables false
set_option linter.unusedSectionVars false
namespace Go.Proofs.YtajkpgaheechmaaGreatDoor
open _root_.Go.Proofs.Tryz
open Go.Value renaming int->A,slice->U,pointer->Q,nilIface->Ya,agg->Yc,tuple->Ye
open Go.IntKind renaming i64->G,u8->Yf,wrap->Zc
open Option renaming none->I,some->K
open Go.Obj renaming cells->M
open Go.Ending renaming returned->e
open Go renaming World->V,Value->Z,Calls->d,Addr->Yi,maxLen->YO
open Go.RowKit renaming Below->X,ownsRow_setCell_below->Yu,intOf->Yz
open Or renaming inl->Yg,inr->Yh
open Go.World renaming block_lt_of_cell?->Yj,ownsRow_nil->YC,cell?_of_block->YS
open Nat renaming le_refl->Yk,le_trans->Yl,zero_le->Yr
open UInt8 renaming ofNat->Ym
open Go.RowKit.Below renaming refl->Yn,heap_setCell->Yt
open List renaming length_append->Yq,replicate->YA,length_singleton->Zb
open Go.IntWalk renaming i64_in->Yx
open Go.Value.slice renaming injEq->Yy
open Option.some renaming injEq->YQ
open And renaming intro->YI
section
open Go.RowKit
theorem NK:(prog.info? 231).map (λa=>(a.zero,a.size,a.bytes))=K (K (Yc #[A G 0,A G 0,A G 0,U I 0 0]),4,48):=B
theorem z_{p:Array Oper}{q:List Oper}{o:Oper}{g:Act}{m:Exit->Act->V->Prop}{b:V}(w:o.guard=I)(k l:Operand)(F:o.op= .call {callee:= .builtin .append,args:=#[k,l],argTypes:=#[44,44]})
  (a s:Nat)(P:g.eval k=U I 0 0){j i:Nat}{c:List Z}(R:g.eval l=U (K j) 1 i)(J:b.ownsRow s 81 3 (U (K j) 1 i) 1 c)(D:c.length=3)(u:∀r∈c,r.oneCell'=true)(n:a<=b.heap.size)
  (t:∀h f,f.ownsRow a 81 3 h 1 c->X a b f->wpList prog p m q (g.put o.dst h) f):wpList prog p m (o::q) g b:=by
 obtain⟨a1,y,T,W,a0⟩:=info_parts pQ;refine wpList_append_own_at _ w k l 44 F a 81 a1 _ 3 40 underlying44 y T W a0 rfl H (U I 0 0) 0 [] P (YC _ _ _ _) j 1 i c R (by rw [D]) ?_ u H H n ?_
 .intro a2 r z
  have v:=au J z;rw [Go.WideShapes.add_plain,Nat.zero_add];exact v
 .intro h f L x _ _
  exact t h f L ((Yn a b).grown x n λa3 C=>by cases C)
theorem Ei.shape{k:V}{f:Nat}{i:Option Yi}{h:Nat}(l:Ei k f (U i 1 h)):∃a b c,i=K ⟨a,0,I⟩/\k.ownsRow f 81 3 (U (K ⟨a,0,I⟩) 1 h) 1 [A G 8,A G 8,U (K ⟨b,0,I⟩) 64 c]:=by
 obtain⟨b,c,j⟩:=l
 rcases aV j with⟨_,m⟩|⟨a,cap,g,_⟩
 .cases m
 .simp only [Yy] at g
  obtain⟨rfl, -,rfl⟩:=g;exact⟨a,b,c,rfl,j⟩
theorem Qd(s:Nat)(a5 a6 a2:Z)(a:V)(C:d_ a s a5 a6 a2):
  d prog 90 #[Yc bE,oA a5 a6 a2] a λn r=>∃f cap h g b m,n=e (Ye #[U (K ⟨f,0,I⟩) 1 cap,U h 1 g,Ya])/\r.ownsRow a 231 4 (U (K ⟨f,0,I⟩) 1 cap) 1 [A G 0,A G 0,A G 1,U (K ⟨b,0,I⟩) 1 m]/\a.heap.size<=b/\lN r b/\Ei r a (U h 1 g)/\X a a r:=by
 obtain⟨u,v,w,x,y,z,rfl,rfl,rfl⟩:=C.shape;have b8:=E C;have R:=E (λ(b7:V) (F:d_ b7 s (U u 1 v) (U w 1 x) (U y 1 z))=>xI s _ _ _ b7 F.fr F.gr F.ca);unfold bE at R⊢;unfold oA;obtain⟨l,j⟩:∃c5,c5=(a.alloc (M #[A G 0,A G 3,A G 0,A G 0,A G 4,A G 8,A G 64,A G 8] 23)).alloc (M #[A G 8,A G 8,U u 1 v,U w 1 x,U y 1 z] 111):=⟨_,rfl⟩;have t:=E (show X a a l from by rw [j];go_grown);have L:=E (show ai l a #[A G 0,A G 3,A G 0,A G 0,A G 4,A G 8,A G 64,A G 8] 23 from by rw [j];exact(ai.new a _ _).alloc _);have P:=E (show ai l (a.heap.size+1) #[A G 8,A G 8,U u 1 v,U w 1 x,U y 1 z] 111 from by rw [j];exact h_ _ _ _ _ Y);have c1:=E j;clear C j;go_enter func90,ntmps90;go_wp2;rw [<-c1.o];obtain⟨g7,g8,g9,h0,h1,h2,h3,h4⟩:=L.o.eight;obtain⟨h5,h6,h7,h8,h9⟩:=P.o.cL;have g2:=L.o.lt;have g3:=P.o.lt
 go_loopw [7,8,16] (λb6 a3 q wr=>(q=A G 0/\b6=U I 0 0/\a3=U I 0 0/\l=wr)∨(q=A G 1/\∃f cap h g b m,b6=U (K ⟨f,0,I⟩) 1 cap/\a3=U h 1 g/\wr.ownsRow a 231 4 (U (K ⟨f,0,I⟩) 1 cap) 1 [A G 0,A G 0,A G 1,U (K ⟨b,0,I⟩) 1 m]/\a.heap.size<=b/\lN wr b/\Ei wr a (U h 1 g)/\X a a wr)) (λ_ _ q _=>(1 - Yz q).toNat)
 case atStart=>exact Yg ⟨rfl,rfl,rfl,rfl⟩
 case round=>
  rcases hrel with⟨rfl,rfl,rfl,rfl⟩|⟨rfl,f,cap,h,g,b,m,rfl,rfl,e1,p,e3,e2,e0⟩
  .go_wp2_with (first
    |(go_at_call 130;go_loud (refine(R.o _ (b8.o.ext t.o)).mono ?_;rintro n c ⟨b,cap,h,g,rfl,p,b5,b3,b0⟩;have c4:=E b5;have b9:=E p;obtain⟨e9,g4,g5,rfl,b4⟩:=b3.shape;have c2:=E b4;clear b4;have T:=E (ext t.o b0);clear p b5 b3 b0))
    |(at_builtin;go_loud (refine aX 166 231 4 48 _ underlying166 NK rfl H rfl (.tmp 30) (.tmp 32) rfl (c.heap.size+1) (U I 0 0) 0 [] [A G 0,A G 0,A G 1,U (K ⟨b,0,I⟩) 1 cap] rfl (YC _ _ _ _) rfl (by first|rfl|simp) rfl (by intro e6 k;simp at k;rcases k with rfl|rfl|rfl<;>rfl) H H (by first|exact Yk _|simp) ?_;intro e7 J b2 D e4 _;have a1:=E b2;have c0:=E D;have c3:=E (aG c2.o (show X c c J from ext (N:X c c (c.alloc (M #[A G 0,A G 0,A G 1,U (K ⟨b,0,I⟩) 1 cap] 231))) (by simpa using D)));clear b2 D e4))
    |(at_builtin;go_loud (refine z_ rfl (.tmp 34) (.tmp 35) rfl J.heap.size _ rfl rfl c3.o rfl (by intro e6 k;simp at k;rcases k with rfl|rfl<;>rfl) (Yk _) ?_;intro g6 e8 b1 a9;have a0:=E b1;have W:=E a9;clear b1 a9)))
   obtain⟨f,i,rfl⟩:∃f i,e7=U (K ⟨f,0,I⟩) 1 i:=by
    rcases aV a1.o with⟨_,c8⟩|⟨f,i,n,_⟩
    .cases c8
    .exact⟨f,i,n⟩
   obtain⟨c7,c6,rfl⟩:=gK a0.o;have c9:X c c (c.alloc (M #[A G 0,A G 0,A G 1,U (K ⟨b,0,I⟩) 1 cap] 231)):=N;have a8:X c c J:=ext c9 (by simpa using c0.o);have a7:X c c e8:=ext a8 W.o;have g0:=T.o.size;have g1:=a8.size;have e5:=aG a1.o W.o;refine⟨Yh ⟨rfl,f,i,c7,c6,b,cap,rfl,rfl,aA e5 O,Yl t.o.size b9.o,c4.o.ext a7,⟨_,_,aA a0.o O⟩,ext T.o a7⟩,H⟩
  .go_wp2
   go_returns;exact⟨_,_,_,_,_,_,rfl,e1,p,e3,e2,e0⟩
def cU:Bs:=bV aF 32 [0,0,1]++bV aF 4 []
theorem kp(b:Nat)(a:Bs):(bV aF b a).length=a.length+8:=by
 unfold bV gw;simp [g_]
theorem tE(a:V):ah (a.alloc (M #[A Yf 0,A Yf 0,A Yf 1] 5)) (U (K a) 3 3) [0,0,1]:=
 aq (World.ownsRow_lit a #[A Yf 0,A Yf 0,A Yf 1] 3 (Yk _) (by simp [YO]) Y)
theorem Kr(b cap:Nat)(a:V)(P:lN a b):
  d prog 194 #[Yc #[A G 0,A G 0,A G 1,U (K b) 1 cap]] a λl c3=>dE 0 cU a l c3:=by
 have u:=E P;have a9:=E (λf c0=>Bh b cap f c0);have y:=E (λq f b9=>rb 32 q [0,0,1] f b9 H H H);have z:=E (λ(i:Option Yi) (j:Nat) (x:Eh i j) (f:V)=>rb 4 (U i 0 j) [] f (x.bytes f) H H H);simp only [dE] at y z;have W:=kp 32 [0,0,1];have a1:=kp 4 [];have F:cU=bV aF 32 [0,0,1]++bV aF 4 []:=rfl;have C:=E (N:X a a (a.alloc (M #[A G 0,A G 0,A G 1,U (K b) 1 cap] 231)));have a8:=E (ai.new a #[A G 0,A G 0,A G 1,U (K b) 1 cap] 231);rw [F];generalize bV aF 32 [0,0,1]=g at*;generalize bV aF 4 []=h at*;have a0:g.length=11:=W;have a2:h.length=8:=a1;have b1:=E (O:g.length+h.length<=1099511627776);have c4:=E a0;have c5:=E a2;clear P F W a1 a0 a2;unfold dE;go_enter func194,ntmps194
 go_wp2_with (first
  |(go_at_call 237;refine(a9.o _ (u.o.ext C.o)).mono ?_;rintro l r ⟨rfl,v⟩;have R:=ext C.o v;have s:=E R;have c:=a8.o.ext v;have D:=E c;have c9:r.cell? a=K (A G 0):=c.cell 0;have e0:r.cell? ⟨a,1,I⟩=K (A G 0):=c.cell 1;have e1:r.cell? ⟨a,2,I⟩=K (A G 1):=c.cell 2;have e3:=c.lt;clear v c R)
  |(go_at_call 157;go_loud (refine(y.o _ _ (tE r)).mono ?_;rintro l k ⟨a7,rfl,a3,n⟩;have b2:=E (aA a3 (Yl s.o.size Y));have m:=ext (s.o.alloc s.o.size _) n;have J:=E m;have c8:k.cell? ⟨a,3,I⟩=K (U (K b) 1 cap):=((D.o.alloc _).ext n).cell 3;have e2:=((D.o.alloc _).ext n).lt;obtain⟨e5,i,j,e6,x⟩:=u.o.ext m;have b5:=E x;have e4:=(u.o.ext m).lt;clear a3 n m)))
 go_loopw [4,33] (λq p wr=>(p=A G 0/\a7=q/\k=wr)∨(p=A G 1/\wr.ownsRow a 5 1 q (g++h).length (ak (g++h))/\X a a wr)) (λ_ p _=>(1 - Yz p).toNat)
 case atStart=>exact Yg ⟨rfl,rfl,rfl⟩
 case round=>
  rcases hrel with⟨rfl,rfl,rfl⟩|⟨rfl,b7,b6⟩
  .go_wp2_with (first
    |(go_at_call 157;go_loud (refine(z.o _ _ b5.o _).mono ?_;rintro l e7 ⟨c2,rfl,a5,w⟩;have t:=E (ext (J.o.alloc J.o.size (M #[A G 4,U i 0 j] 284)) w);have L:=E (aG (aG b2.o (N:X k k (k.alloc (M #[A G 4,U i 0 j] 284)))) w);have b3:=E (aq a5);clear a5 w))
    |(at_builtin;go_loud (refine eA rfl (.tmp 45) (.tmp 46) rfl a.heap.size a7 c2 g h rfl L.o rfl b3.o b1.o t.o.size ?_;intro c6 c7 e8 a6 T _;have b4:=E a6;have b0:=E (t.o.grown T t.o.size (λc1 b8=>(L.o.lt c1 b8).1));clear a6 T)))
   go_roundw
   case rel=>exact Yh ⟨rfl,b4.o,b0.o⟩
   case measure=>decide
  .go_wp2
   go_returns;exact⟨_,rfl,b7,b6⟩
def kX(f:Nat)(i:Z)(c:Bs)(j:V)(g:Ending)(b:V):Prop:=
 ∃a,g=e a/\b.ownsRow f 5 1 a c.length (ak c)/\af (λh=>i.ownBlock=K h) j b
theorem nV(g a:Nat)(i j:Z)(c b:Bs)(f:V)(x:f.ownsRow g 5 1 i c.length (ak c))(q:ah f j b)(p:g<=f.heap.size)(t:1<=a)(s:a<=255)(u:b.length<=65536)(l:c.length<=1000000):
  d prog 181 #[i,A G a,j] f λh a0=>kX g i (c++bV aF a b) f h a0:=by
 have R:=E x;have m:=E (λa1 l=>rb a j b a1 l t s u);simp only [dE] at m;have T:=kp a b;have C:=E q;have z:=E p;generalize bV aF a b=y at*;have F:=E (O:c.length+y.length<=1099511627776);clear x q p u l T t s;unfold kX;go_enter func181,ntmps181
 go_wp2_with (first
  |(go_at_call 157;go_loud (refine(m.o _ C.o).mono ?_;rintro h a5 ⟨W,rfl,v,k⟩;have n:=E k;have L:=E (aG R.o k);have J:=E (aq v);clear v k))
  |(at_builtin;go_loud (refine eA rfl _ _ rfl g i W c y rfl L.o rfl J.o F.o (Yl z.o n.o.size) ?_;intro a2 a3 a6 w r _;have P:=E w;have D:=E r;clear w r)))
 go_returns;exact⟨_,rfl,P.o,(af.aj n.o).trans (af.grown D.o (λa h=>h))⟩
def fy(c b:Nat):Nat->Bs
 |0=>[]
 |a+1=>fy c b a++[Ym (c / 2^(8*(b - 1 - a)))]
theorem il(f c a:Nat):(fy f c a).length=a:=by
 induction a with
 |zero=>rfl
 |succ a b=>simp [fy,b]
theorem qG(h f a:Nat)(i:Z)(g:Bs)(j:V)(y:j.ownsRow h 5 1 i g.length (ak g))(u:h<=j.heap.size)(a8:a<=4)(W:(f:Int)<4294967296)(a6:g.length<=1000000):
  d prog 240 #[i,A G f,A G a] j λR C=>∃z,R=e z/\C.ownsRow h 5 1 z (g++fy f a a).length (ak (g++fy f a a))/\X h j C:=by
 have P:=E y;have D:=E u;clear y u W;go_enter func240,ntmps240;go_wp2
 go_loopw [0,7] (λi p wr=>∃(c:Nat) (k:Z),c<=a/\p=A G ((a:Int) - 1 - c)/\k=i/\wr.ownsRow h 5 1 k (g++fy f a c).length (ak (g++fy f a c))/\X h j wr) (λ_ p _=>(Yz p+1).toNat)
 case atStart=>exact⟨0,i,Yr _,Y,rfl,by simpa [fy] using P.o,Yn _ _⟩
 case round=>
  obtain⟨c,k,a5,rfl,rfl,v,n⟩:=hrel;have m:=E v;have r:=E n;have l:=E (show h<=wr.heap.size from Yl D.o n.size);clear v n;by_cases a7:c<a
  .have a3:(0:Int)<=(a:Int) - 1 - c:=O
   have t:=E (Y:(f:Int) / 2^(8*(a - 1 - c))%256=((Ym (f / 2^(8*(a - 1 - c)))).toNat:Int));have s:=E (show fy f a (c+1)=fy f a c++[Ym (f / 2^(8*(a - 1 - c)))] from rfl);have J:=E (show(g++fy f a c).length+1<=1099511627776 from by rw [Yq,il];omega);generalize Ym (f / 2^(8*(a - 1 - c)))=q at t s
   go_wp2_with (first
    |(at_builtin;go_loud (rw [t.o];refine eA rfl _ _ rfl h k (U (K wr) 1 1) (g++fy f a c) [q] rfl (aG m.o N) rfl (aq (b:=[q]) (World.ownsRow_lit wr #[A Yf (q.toNat:Int)] 1 (Yk _) (by simp [YO]) Y)) J.o (Yl l.o Y) ?_;intro a1 a2 a9 x w _;have L:=E x;have F:=E ((r.o.alloc l.o _).grown w (Yl l.o Y) (λa0 T=>(m.o.lt a0 T).1));clear x w)))
   go_roundw
   case rel=>exact⟨c+1,_,O,S,rfl,by rw [s.o,<-List.append_assoc];simpa only [Yq,Zb] using L.o,F.o⟩
   case measure=>simp [Yz];omega
  .obtain rfl:c=a:=O
   go_wp2;go_returns;exact⟨_,rfl,m.o,r.o⟩
def tD(a:Bs)(at':Nat):Bs:=[]++fy at' 4 4++fy (aF a) 4 4
theorem JI(f:Z)(a:Bs)(at':Nat)(b:V)(y:ah b f a)(s:(at':Int)<4294967296)(a3:a.length<=1000000):
  d prog 184 #[f,A G at'] b λj C=>∃z,j=e z/\C.ownsRow b 5 1 z (tD a at').length (ak (tD a at'))/\X b b C:=by
 have R:=E y;have k:=E (λ(h:Nat) (f:Z) (m:Bs) g (W:g.ownsRow b 5 1 f m.length (ak m)) a2 (a0:(h:Int)<4294967296) a1=>qG b h 4 f m g W a2 O a0 a1);have n:=E (λg (a5:ah g f a)=>px f a g a5);have i:=E (show((aF a:Nat):Int)<4294967296 from by have:=iZ a;omega);have q:tD a at'=[]++fy at' 4 4++fy (aF a) 4 4:=rfl;have D:=E s;have T:=E (YC b b 5 1);rw [q];obtain⟨c,x⟩:∃c,aF a=c:=⟨_,rfl⟩;simp only [x] at n i⊢;clear y s q x a3;have p:=E (il at' 4 4);obtain⟨P,r⟩:∃P:Nat->Bs,∀h,fy h 4 4=P h:=⟨_,λ_=>rfl⟩;simp only [r,show((4:Nat):Int)=4 from rfl] at k p⊢;clear r;go_enter func184,ntmps184;have a6:Zc G (c:Int)=(c:Int):=Yx _ (by have:=i.o;omega)
 have a7:(c:Int)%18446744073709551616=(c:Int):=by have:=i.o;omega
 go_wp2_with fail
 refine(k.o at' _ [] _ T.o (Yk _) D.o Y).mono ?_;rintro j b0 ⟨a8,rfl,v,t⟩;have J:=E v;have l:=E t;clear v t
 go_wp2_with fail
 refine(n.o _ (R.o.ext l.o)).mono ?_;rintro j b2 ⟨rfl,rfl⟩
 go_wp2_with fail
 refine(k.o c _ ([]++P at') _ J.o l.o.size i.o (by have:=p.o;simp;omega)).mono ?_;rintro j b1 ⟨a9,rfl,w,u⟩;have L:=E w;have F:=E (l.o.trans u);clear w u;go_wp2;go_returns;exact⟨_,rfl,L.o,F.o⟩
def sX(a b h g qn i k f cut j l c:Nat):Bs:=
 [Ym a,Ym b,Ym h,Ym g,Ym qn,Ym i,Ym k,Ym f]++fy cut 2 2++fy j 4 4++fy l 4 4++fy c 4 4
theorem xX(a b h g qn i k f cut j l c:Nat):(sX a b h g qn i k f cut j l c).length=22:=by
 unfold sX;simp only [Yq,il];rfl
theorem pM{a:Nat}(b:a<=255):((Ym a).toNat:Int)=(a:Int):=by rw [nt];omega
theorem ai.UA(c:V)(f:Nat)(b:Array Z)(a:Nat)(g:f=c.heap.size):ai (c.alloc (M b a)) f b a:=by subst g;exact ai.new c b a
theorem JY(k:V)(a b c f g h i j:UInt8):(k.alloc (M #[A Yf (a.toNat:Int),A Yf (b.toNat:Int),A Yf (c.toNat:Int),A Yf (f.toNat:Int),A Yf (g.toNat:Int),A Yf (h.toNat:Int),A Yf (i.toNat:Int),A Yf (j.toNat:Int)] 5)).ownsRow k 5 1 (U (K k) 8 8) ([a,b,c,f,g,h,i,j]:Bs).length (ak [a,b,c,f,g,h,i,j]):=
 World.ownsRow_lit k #[A Yf (a.toNat:Int),A Yf (b.toNat:Int),A Yf (c.toNat:Int),A Yf (f.toNat:Int),A Yf (g.toNat:Int),A Yf (h.toNat:Int),A Yf (i.toNat:Int),A Yf (j.toNat:Int)] 8 (Yk _) (by simp [YO]) Y
def Ts(a cut f g c:Nat)(b:V):Prop:=b.cell? ⟨a,3,I⟩=K (A G cut)/\b.cell? ⟨a,5,I⟩=K (A G f)/\b.cell? ⟨a,6,I⟩=K (A G g)/\b.cell? ⟨a,7,I⟩=K (A G c)
theorem Fo(j k s r qn h i g cut b c f:Nat)(a3:Option Yi)(a5:Nat)(a:V)(g4:j<=255)(l:k<=255)(g6:s<=255)(g5:r<=255)(R:qn<=255)(T:h<=255)(g2:i<=255)(g3:g<=255)(b5:(cut:Int)<4294967296)(b6:(b:Int)<4294967296)(b7:(c:Int)<4294967296)(b8:(f:Int)<4294967296):
  d prog 182 #[Yc #[A G (8*(j:Int)),A G (8*(k:Int)),A G s,A G qn,A G h,A G i,A G cut,A G g,A G b,A G c,A G f,U a3 r a5]] a λw m=>∃x,w=e x/\m.ownsRow a 5 1 x (sX j k s r qn h i g cut b c f).length (ak (sX j k s r qn h i g cut b c f))/\X a a m:=by
 have c1:=E (λ(p u:Nat) (z:Z) (n:Bs) (t:V) (b1:t.ownsRow p 5 1 z n.length (ak n)) (b2:p<=t.heap.size) (R:(u:Int)<4294967296) (T:n.length<=1000000)=>show d prog 240 #[z,A G u,A G 2] t λw m=>∃x,w=e x/\m.ownsRow p 5 1 x (n++fy u 2 2).length (ak (n++fy u 2 2))/\X p t m from qG p u 2 z n t b1 b2 H R T);have a6:=E (λ(p u:Nat) (z:Z) (n:Bs) (t:V) (b1:t.ownsRow p 5 1 z n.length (ak n)) (b2:p<=t.heap.size) (R:(u:Int)<4294967296) (T:n.length<=1000000)=>show d prog 240 #[z,A G u,A G 4] t λw m=>∃x,w=e x/\m.ownsRow p 5 1 x (n++fy u 4 4).length (ak (n++fy u 4 4))/\X p t m from qG p u 4 z n t b1 b2 H R T);have e9:(8*(j:Int)) / 8=(j:Int):=O;have g0:(8*(k:Int)) / 8=(k:Int):=O
 have h1:(8*(j:Int)).tdiv 8=(j:Int):=by rw [Int.tdiv_eq_ediv_of_nonneg O];exact e9
 have h2:(8*(k:Int)).tdiv 8=(k:Int):=by rw [Int.tdiv_eq_ediv_of_nonneg O];exact g0
 have c3:=E b5;have c4:=E b6;have c5:=E b7;have c6:=E b8;clear b5 b6 b7 b8;obtain⟨v,a2⟩:∃b0:Bs,b0=[Ym j,Ym k,Ym s,Ym r,Ym qn,Ym h,Ym i,Ym g]:=⟨_,rfl⟩
 have b9:sX j k s r qn h i g cut b c f=v++fy cut 2 2++fy b 4 4++fy c 4 4++fy f 4 4:=by rw [a2];rfl
 obtain⟨y,D⟩:∃b0,b0=(((a.alloc (M #[A G (8*(j:Int)),A G (8*(k:Int)),A G s,A G qn,A G h,A G i,A G cut,A G g,A G b,A G c,A G f,U a3 r a5] 276)).alloc (M #[A G qn,A G h,A G i,A G cut,A G g,A G b,A G c,A G f] 23)).alloc (M #[A Yf (j:Int),A Yf (k:Int),A Yf (s:Int),A Yf (r:Int),A Yf (qn:Int),A Yf (h:Int),A Yf (i:Int),A Yf (g:Int)] 5)):=⟨_,rfl⟩
 have c0:y.ownsRow (a.heap.size+1+1) 5 1 (U (K ⟨a.heap.size+1+1,0,I⟩) 8 8) v.length (ak v):=by
  have b4:=JY ((a.alloc (M #[A G (8*(j:Int)),A G (8*(k:Int)),A G s,A G qn,A G h,A G i,A G cut,A G g,A G b,A G c,A G f,U a3 r a5] 276)).alloc (M #[A G qn,A G h,A G i,A G cut,A G g,A G b,A G c,A G f] 23)) (Ym j) (Ym k) (Ym s) (Ym r) (Ym qn) (Ym h) (Ym i) (Ym g);have g1:((a.alloc (M #[A G (8*(j:Int)),A G (8*(k:Int)),A G s,A G qn,A G h,A G i,A G cut,A G g,A G b,A G c,A G f,U a3 r a5] 276)).alloc (M #[A G qn,A G h,A G i,A G cut,A G g,A G b,A G c,A G f] 23)).heap.size=a.heap.size+1+1:=Y;rw [pM g4,pM l,pM g6,pM g5,pM R,pM T,pM g2,pM g3,g1] at b4;rw [D,a2];exact b4
 have a0:=E (show v.length=8 from by rw [a2];rfl);have c9:=E (show y.drew.ownsRow (a.heap.size+1+1) 5 1 (U (K ⟨a.heap.size+1+1,0,I⟩) 8 8) v.length (ak v) from c0)
 have C:ai y (a.heap.size+1) #[A G qn,A G h,A G i,A G cut,A G g,A G b,A G c,A G f] 23:=by rw [D];exact(ai.UA _ _ _ _ Y).alloc _
 have a1:=E (show ai y.drew (a.heap.size+1) #[A G qn,A G h,A G i,A G cut,A G g,A G b,A G c,A G f] 23 from C);have e4:=E (show Ts (a.heap.size+1) cut b c f y.drew from⟨C.cell 3,C.cell 5,C.cell 6,C.cell 7⟩);have W:=E (show a.heap.size+1+1<=y.drew.heap.size from by rw [D];simp);have c2:=E (show X a a y.drew from by rw [D];go_grown);have c8:=E D;have c7:=E b9;clear a2 b9 D c0 C;go_enter func182,ntmps182;go_wp2;rw [<-c8.o]
 go_region_held3 (λm=>m.cell? ⟨a.heap.size+1,3,I⟩=K (A G cut)/\m.cell? ⟨a.heap.size+1,5,I⟩=K (A G b)/\m.cell? ⟨a.heap.size+1,6,I⟩=K (A G c)/\m.cell? ⟨a.heap.size+1,7,I⟩=K (A G f)) (first|exact e4.o|exact e5.o|exact e6.o|exact e7.o|exact e8.o)
  (first
   |(go_at_call 240;(with_reducible refine(a6.o (a.heap.size+1+1) f _ (v++fy cut 2 2++fy b 4 4++fy c 4 4) _ e2.o (Yl W.o a9.o.size) c6.o (by simp [a0.o,il])).mono ?_);rintro w h0 ⟨h6,rfl,q,l⟩;have e3:=E q;have b3:=E (a9.o.trans l);have P:=a1.o.below b3.o O;have e8:=E (show Ts (a.heap.size+1) cut b c f h0 from⟨P.cell 3,P.cell 5,P.cell 6,P.cell 7⟩);clear q l P)
   |(go_at_call 240;(with_reducible refine(a6.o (a.heap.size+1+1) c _ (v++fy cut 2 2++fy b 4 4) _ e1.o (Yl W.o a8.o.size) c5.o (by simp [a0.o,il])).mono ?_);rintro w g9 ⟨h5,rfl,q,l⟩;have e2:=E q;have a9:=E (a8.o.trans l);have L:=a1.o.below a9.o O;have e7:=E (show Ts (a.heap.size+1) cut b c f g9 from⟨L.cell 3,L.cell 5,L.cell 6,L.cell 7⟩);clear q l L)
   |(go_at_call 240;(with_reducible refine(a6.o (a.heap.size+1+1) b _ (v++fy cut 2 2) _ e0.o (Yl W.o a7.o.size) c4.o (by simp [a0.o,il])).mono ?_);rintro w g8 ⟨h4,rfl,q,l⟩;have e1:=E q;have a8:=E (a7.o.trans l);have J:=a1.o.below a8.o O;have e6:=E (show Ts (a.heap.size+1) cut b c f g8 from⟨J.cell 3,J.cell 5,J.cell 6,J.cell 7⟩);clear q l J)
   |(go_at_call 240;(with_reducible refine(c1.o (a.heap.size+1+1) cut _ (v) _ c9.o W.o c3.o (by simp [a0.o,il])).mono ?_);rintro w g7 ⟨h3,rfl,q,l⟩;have e0:=E q;have a7:=E l;have F:=a1.o.below a7.o O;have e5:=E (show Ts (a.heap.size+1) cut b c f g7 from⟨F.cell 3,F.cell 5,F.cell 6,F.cell 7⟩);clear q l F))
 all_goals go_wp2
 all_goals go_returns
 all_goals
  rw [c7.o];exact⟨_,rfl,aA e3.o O,c2.o.trans (b3.o.mono O)⟩
def lT(b a o c:Nat):Bs:=[Ym b,Ym a]++fy o 4 4++fy c 4 4
def Tt(a f c o g:Nat)(b:V):Prop:=b.cell? a=K (A G f)/\b.cell? ⟨a,1,I⟩=K (A G c)/\b.cell? ⟨a,2,I⟩=K (A G o)/\b.cell? ⟨a,3,I⟩=K (A G g)
theorem PM(c:V)(a b:UInt8):(c.alloc (M #[A Yf (a.toNat:Int),A Yf (b.toNat:Int)] 5)).ownsRow c 5 1 (U (K c) 2 2) ([a,b]:Bs).length (ak [a,b]):=
 World.ownsRow_lit c #[A Yf (a.toNat:Int),A Yf (b.toNat:Int)] 2 (Yk _) (by simp [YO]) Y
theorem Ku(x cap c b o g:Nat)(a:V)(e2:a.cell? x=K (A G c))(a5:a.cell? ⟨x,1,I⟩=K (A G b))(a6:a.cell? ⟨x,2,I⟩=K (A G o))(e9:a.cell? ⟨x,3,I⟩=K (A G g))(e5:c<=255)(e4:b<=255)(l:(o:Int)<4294967296)(a8:(g:Int)<4294967296):
  d prog 183 #[U (K x) 1 cap] a λw i=>∃C,w=e C/\i.ownsRow a 5 1 C (lT c b o g).length (ak (lT c b o g))/\X a a i:=by
 have a1:=E (λ(q D:Nat) (n:Z) (p:Bs) (j:V) (e1:j.ownsRow q 5 1 n p.length (ak p)) (W:q<=j.heap.size) (a5:(D:Int)<4294967296) (a6:p.length<=1000000)=>show d prog 240 #[n,A G D,A G 4] j λw i=>∃C,w=e C/\i.ownsRow q 5 1 C (p++fy D 4 4).length (ak (p++fy D 4 4))/\X q j i from qG q D 4 n p j e1 W H a5 a6);have b4:=E l;have b2:=E a8;have g1:=Yj a _ e2;obtain⟨h,F⟩:∃R:Bs,R=[Ym c,Ym b]:=⟨_,rfl⟩;have b1:=E (show lT c b o g=h++fy o 4 4++fy g 4 4 from by rw [F];rfl);have m:=E (show h.length=2 from by rw [F];rfl)
 have b8:=E (λ(j:V)=>show(j.alloc (M #[A Yf (c:Int),A Yf (b:Int)] 5)).ownsRow j 5 1 (U (K j) 2 2) h.length (ak h) from by
  have:=PM j (Ym c) (Ym b);rw [pM e5,pM e4] at this
  rw [F];exact this)
 obtain⟨f,y⟩:∃R,R=a.alloc (M #[A G c,A G b,A G o,A G g] 279):=⟨_,rfl⟩;have k:=E (show ai f a #[A G c,A G b,A G o,A G g] 279 from by rw [y];exact ai.new a _ _);have a3:=E (show X a a f from by rw [y];go_grown);have b5:=E y;have s:=E (show f.heap.size=a.heap.size+1 from by rw [y];simp);clear l a8 F y;go_enter func183,ntmps183;go_wp2
 go_loopw [3,8] (λn J wr=>(J=A G 0/\n=U I 0 0/\a=wr)∨(J=A G 1/\wr.ownsRow a 5 1 n (lT c b o g).length (ak (lT c b o g))/\X a a wr)) (λ_ J _=>(1 - Yz J).toNat)
 case atStart=>exact Yg ⟨rfl,rfl,rfl⟩
 case round=>
  rcases hrel with⟨rfl,rfl,rfl⟩|⟨rfl,e3,W⟩
  .go_wp2
   rw [<-b5.o]
   have g3:Zc Yf (c:Int)=(c:Int):=by rw [IntKind.wrap_u8'];omega
   have g2:Zc Yf (b:Int)=(b:Int):=by rw [IntKind.wrap_u8'];omega
   have c4:=E (show Tt a c b o g f.drew from⟨k.o.cell 0,k.o.cell 1,k.o.cell 2,k.o.cell 3⟩);have r:=k.o.alloc (M #[A Yf (c:Int),A Yf (b:Int)] 5);have c5:=E (show Tt a c b o g (f.alloc (M #[A Yf (c:Int),A Yf (b:Int)] 5)).drew from⟨r.cell 0,r.cell 1,r.cell 2,r.cell 3⟩);have c3:=E (show(f.alloc (M #[A Yf (c:Int),A Yf (b:Int)] 5)).drew.ownsRow f 5 1 (U (K f) 2 2) h.length (ak h) from b8.o f);have b9:=E (YC (f.alloc (M #[A Yf (c:Int),A Yf (b:Int)] 5)).drew (a.heap.size+1) 5 1);have b3:=E (show([]:Bs).length+h.length<=1099511627776 from by rw [m.o];show 0+2<=_;omega);have b0:=E (show a.heap.size+1<=(f.alloc (M #[A Yf (c:Int),A Yf (b:Int)] 5)).drew.heap.size from by have T:=s.o;simp;omega);have b6:=E (show(h++fy o 4 4).length<=1000000 from by rw [Yq,m.o,il];omega);have b7:=E (show h.length<=1000000 from by rw [m.o];omega);clear r
   go_region_held3 (λi=>i.cell? a=K (A G c)/\i.cell? ⟨a,1,I⟩=K (A G b)/\i.cell? ⟨a,2,I⟩=K (A G o)/\i.cell? ⟨a,3,I⟩=K (A G g))
    (first|exact c4.o|exact c5.o|exact c6.o|exact c7.o|exact c8.o)
    (first
     |(go_at_call 240;(with_reducible refine(a1.o (a.heap.size+1) g _ (h++fy o 4 4) _ c1.o (Yl (Nat.le_of_eq s.o.symm) P.o.size) b2.o b6.o).mono ?_);rintro w e8 ⟨g5,rfl,l,z⟩;have c2:=E l;have a2:=E (P.o.trans (z.mono (Nat.le_of_eq s.o)));have v:=k.o.ext a2.o;have c8:=E (show Tt a c b o g e8 from⟨v.cell 0,v.cell 1,v.cell 2,v.cell 3⟩);clear l z v)
     |(go_at_call 240;(with_reducible refine(a1.o (a.heap.size+1) o _ h _ c0.o (Yl (Nat.le_of_eq s.o.symm) L.o.size) b4.o b7.o).mono ?_);rintro w e7 ⟨g4,rfl,l,z⟩;have c1:=E l;have P:=E (L.o.trans (z.mono (Nat.le_of_eq s.o)));have u:=k.o.ext P.o;have c7:=E (show Tt a c b o g e7 from⟨u.cell 0,u.cell 1,u.cell 2,u.cell 3⟩);clear l z u)
     |(refine cQ (by rfl) (.tmp 12) (.tmp 19) (by rfl) (a.heap.size+1) (U I 0 0) (U (K f) 2 2) [] h (by rfl) b9.o (by rfl) (aq c3.o) b3.o b0.o ?_;intro c9 e0 a0 a9 a7 _;have c0:=E (show a0.ownsRow (a.heap.size+1) 5 1 (U c9 2 e0) h.length (ak h) from by have T:=a9;simp only [List.nil_append,List.length_nil,Nat.zero_add,m.o] at T;rw [m.o];exact T);rw [m.o];have L:=E (show X f f a0 from(N:X f f (f.alloc (M #[A Yf (c:Int),A Yf (b:Int)] 5)).drew).grown a7 Y (λg0 e6=>by cases e6));have t:=k.o.ext L.o;have c6:=E (show Tt a c b o g a0 from⟨t.cell 0,t.cell 1,t.cell 2,t.cell 3⟩);clear a9 t a7))
   go_wp2;go_roundw
   case rel=>
    refine Yh ⟨rfl,?_,a3.o.trans (a2.o.mono a3.o.size)⟩;rw [b1.o];exact aA c2.o (Nat.le_succ _)
   case measure=>decide
  .go_wp2
   go_returns;exact⟨_,rfl,e3,W⟩
structure Ea(w:V)(g b c2:Nat):Prop where
 x0:w.cell? g=K (A G 0)
 x1:w.cell? ⟨g,1,I⟩=K (A G 0)
 x2:w.cell? ⟨g,2,I⟩=K (A G 1)
 x3:w.cell? ⟨g,3,I⟩=K (U (K b) 1 c2)
 q:lN w b
theorem Ea.lt{a:V}{b c f:Nat}(g:Ea a b c f):b<a.heap.size:=Yj a _ g.x0
theorem Ea.ext{f i:V}{b g h:Nat}(a:Ea f b g h)(c:X f f i):Ea i b g h:=
 ⟨(c.cell (p:=b) a.lt).trans a.x0,(c.cell (p:=⟨b,1,I⟩) a.lt).trans a.x1,(c.cell (p:=⟨b,2,I⟩) a.lt).trans a.x2,(c.cell (p:=⟨b,3,I⟩) a.lt).trans a.x3,a.q.ext c⟩
theorem uK{c:V}{h g cap b f:Nat}(a:c.ownsRow h 231 4 (U (K g) 1 cap) 1 [A G 0,A G 0,A G 1,U (K b) 1 f])(i:lN c b):Ea c g b f:=
 ⟨au a (j:=0) rfl,au a (j:=1) rfl,au a (j:=2) rfl,au a (j:=3) rfl,i⟩
theorem TD(b c:Nat)(a:V)(g:lN a b):
  d prog 236 #[Yc #[A G 0,A G 0,A G 1,U (K b) 1 c]] a λf m=>f=e (.bool false)/\X a a m:=by
 have i:=E (λn l=>Bh b c n l);have k:=E g;clear g;go_enter func236,ntmps236
 go_wp2_with (go_at_call 237;refine(i.o _ (k.o.ext N)).mono ?_;rintro f p ⟨rfl,h⟩;have j:=E (ext (N:X a a _) h);clear h)
 go_returns;exact⟨rfl,j.o⟩
theorem NF(h c f cap:Nat)(a:V)(i:Ea a h c f):
  d prog 269 #[U (K h) 1 cap,.func (.func 236) #[] #[]] a λg s=>g=e (A G (-1))/\X a a s:=by
 have j:=E (λt p=>TD c f t p)
 have v:=λ(l:Array Z) (a:V)=>eL func236 B B l a
 have k:=E i;obtain⟨r,w,x,y, -⟩:=i;have u:=Yj a _ r;go_enter func269,ntmps269;go_wp2
 go_loopw [8] (λb wr=>(b=A G 0/\a=wr)∨(b=A G 1/\X a a wr)) (λb _=>(1 - Yz b).toNat)
 case atStart=>exact Yg ⟨rfl,rfl⟩
 case round=>
  rcases hrel with⟨rfl,rfl⟩|⟨rfl,m⟩
  .go_wp2_with fail
   refine(j.o a k.o.q).mono ?_;rintro g z ⟨rfl,n⟩;go_wp2;go_roundw
   case rel=>exact Yh ⟨rfl,n⟩
   case measure=>decide
  .go_wp2
   go_returns;exact⟨rfl,m⟩
theorem JM(b c f cap:Nat)(a:V)(h:Ea a b c f):
  d prog 235 #[U (K b) 1 cap,.func (.func 236) #[] #[]] a λg k=>g=e (.bool false)/\X a a k:=by
 have i:=E (NF b c f cap a h);clear h;go_enter func235,ntmps235
 go_wp2_with (go_at_call 269;refine i.o.mono ?_;rintro g l ⟨rfl,j⟩)
 go_returns;exact⟨rfl,j⟩
theorem En(c i j cap:Nat)(a:V)(l:Ea a c i j):
  d prog 178 #[U (K c) 1 cap] a λk s=>k=e Ya/\X a a s:=by
 have m:=E (λu r=>JM c i j cap u r);have g:=E l;clear l;go_enter func178,ntmps178
 go_wp2_with (first
  |(go_at_call 235;go_loud (refine(m.o _ g.o).mono ?_;rintro k t ⟨rfl,f⟩;have n:=E f;have h:=E (g.o.ext f);clear f)))
 obtain⟨v,w,x,y, -⟩:=h.o;have lg:=h.o.lt
 go_loopw [3,16] (λp b wr=>(b=A G 0/\p=A G 0/\t=wr)∨(b=A G 1/\X a a wr)) (λ_ b _=>(1 - Yz b).toNat)
 case atStart=>exact Yg ⟨rfl,rfl,rfl⟩
 case round=>
  rcases hrel with⟨rfl,rfl,rfl⟩|⟨rfl,q⟩
  .go_wp2
   go_roundw
   case rel=>exact Yh ⟨rfl,ext n.o N⟩
   case measure=>decide
  .go_wp2
   go_returns;exact⟨rfl,q⟩
theorem Tn:∃a,prog.underlying 3=K (.int a):=⟨_,underlying3⟩
theorem Ph(p:TypeId)(b:Option Yi)(f c:Nat)(a:V)(g:f<=c):(Builtin.append_ #[24,3] p #[U b f c,A G 0]).run prog a= .ok (U b f c) a:=by
 obtain⟨o,n,r,s,m⟩:=info_parts NJ;have h:=underlying24;obtain⟨t,i⟩:=Tn;have j:(sizeOf 5).run prog a= .ok 1 a:=B
 have k:(typeInfo 5).run prog a= .ok o a:=by simp [typeInfo,n,go_sem]
 have l:Zc G 0=0:=H
 cases b with
 |none=>
  simp [Builtin.append_,go_sem,run_underlying h,run_underlying i,j,k,m,g,asInt,l]
 |some q=>
  simp [Builtin.append_,go_sem,run_underlying h,run_underlying i,j,k,m,g,asInt,l]
section
variable {ops:Array Oper} {o:Oper} {a:Act} {w:V} {Q:Exit->Act->V->Prop}
theorem Mo{g:Act->V->Prop}{j:Prop}(l:o.guard=I)(h i:Operand)(n:o.op= .call {callee:= .builtin .append,args:=#[h,i],argTypes:=#[24,3]})
  (f:Option Yi)(c b:Nat)(p:a.eval h=U f c b)(r:a.eval i=A G 0)(m:c<=b)(k:g (a.put o.dst (U f c b)) w):
  if Region.wanted o (yielded ops a.tmps)=true then Oper.wp prog o a w g Q else j:=by
 have q:Region.wanted o (yielded ops a.tmps)=true:=by simp [Region.wanted,l]
 rw [if_pos q];unfold Oper.wp execOp;simp only [n,resolve,invoke,builtin,Sem.run_bind,Sem.run_pure,Result.andThen_ok,List.map_toArray,List.map_cons,List.map_nil,p,r,Ph _ f c b w m];exact k
end
theorem Uo:(prog.info? 279).map (λa=>(a.zero,a.size,a.bytes))=K (K (Yc #[A G 0,A G 0,A G 0,A G 0]),4,32):=B
theorem ai.Tl{b:V}{a:Nat}{f g j k l m n o p q h i:Z}{r:Nat}(c:ai b a #[f,g,j,k,l,m,n,o,p,q,h,i] r):(b.cell? a=K f/\b.cell? ⟨a,1,I⟩=K g/\b.cell? ⟨a,2,I⟩=K j/\b.cell? ⟨a,3,I⟩=K k/\b.cell? ⟨a,4,I⟩=K l/\b.cell? ⟨a,5,I⟩=K m)/\b.cell? ⟨a,6,I⟩=K n/\b.cell? ⟨a,7,I⟩=K o/\b.cell? ⟨a,8,I⟩=K p/\b.cell? ⟨a,9,I⟩=K q/\b.cell? ⟨a,10,I⟩=K h/\b.cell? ⟨a,11,I⟩=K i:=
 ⟨⟨c.cell 0,c.cell 1,c.cell 2,c.cell 3,c.cell 4,c.cell 5⟩,c.cell 6,c.cell 7,c.cell 8,c.cell 9,c.cell 10,c.cell 11⟩
theorem Ea.Oa{g n:V}{l k o i:Nat}(c:Ea g l k o)(u:af (·=i) g n)(j:l≠i)(p:k≠i):Ea n l k o:=by
 have f:∀{b h:Nat} {m:Z},b≠i->g.cell? ⟨b,h,I⟩=K m->n.cell? ⟨b,h,I⟩=K m:=λ{b h m} v r=>
  (YS (w:=g) (a:=⟨b,h,I⟩) (u.block b (Yj g ⟨b,h,I⟩ r) v)).trans r
 exact⟨f j c.x0,f j c.x1,f j c.x2,f j c.x3,f p c.q.c0,by
  obtain⟨w,x,s,t⟩:=c.q.c1
  exact⟨w,x,f p s,t⟩⟩
theorem Np{i:V}{b h:Nat}{f:Option Yi}{k:Nat}(o:h<b)(g:aa i b (U f 1 k) [0]):∃a,a≠h/\f=K ⟨a,0,I⟩/\i.cell? ⟨a,0,I⟩=K (A G 0):=by
 rcases aV g.1 with⟨_,m⟩|⟨l,cap,c,n,_⟩
 .cases m
 .simp only [Yy] at c
  obtain⟨rfl, -,rfl⟩:=c;exact⟨l,O,rfl,au g.1 (j:=0) rfl⟩
def VV(b f c:Nat)(g:Option Yi)(h:Nat)(a:V):Prop:=a.cell? b=K (A G 4)/\a.cell? ⟨b,1,I⟩=K (U g 0 h)/\a.cell? f=K (A G 0)/\a.cell? c=K (A G 0)
def Ce:Bs:=[]++bV aF 16 (sX 1 1 1 1 0 3 0 4 0 8 64 8)
def Cf:Bs:=Ce++bV aF 17 [0,0,1]
def Cg:Bs:=Cf++bV aF 4 []
def sw:Bs:=Cg++bV aF 18 (lT 0 1 30 19)
def gj:Bs:=sw++bV aF 19 (tD sw 49)
theorem vK:Ce.length=30:=by unfold Ce;rw [Yq,cD,xX];rfl
theorem vL:Cf.length=41:=by unfold Cf;rw [Yq,cD,vK];rfl
theorem vM:Cg.length=49:=by unfold Cg;rw [Yq,cD,vL];rfl
theorem vx(b a o c:Nat):(lT b a o c).length=10:=by unfold lT;simp [il]
theorem yK(a:Bs)(b:Nat):(tD a b).length=8:=by unfold tD;simp [il]
theorem rj:sw.length=67:=by unfold sw;rw [Yq,cD,vM,vx]
theorem Ch:gj.length=83:=by unfold gj;rw [Yq,cD,rj,yK]
def PB(h:V)(g c b o f:Nat):Prop:=∃a,ai h g a 279/\a[0]? =K (A G c)/\a[1]? =K (A G b)/\a[2]? =K (A G o)/\a[3]? =K (A G f)
theorem PB.ext{a h:V}{g c b o f:Nat}(j:PB a g c b o f)(m:X a a h):PB h g c b o f:=by
 obtain⟨i,k,l⟩:=j;exact⟨i,k.ext m,l⟩
theorem PB.lt{b:V}{a f c o i:Nat}(g:PB b a f c o i):a<b.heap.size:=by
 obtain⟨j,h,k⟩:=g;exact h.lt
theorem PB.cells{b:V}{a g f o h:Nat}(i:PB b a g f o h):b.cell? a=K (A G g)/\b.cell? ⟨a,1,I⟩=K (A G f)/\b.cell? ⟨a,2,I⟩=K (A G o)/\b.cell? ⟨a,3,I⟩=K (A G h):=by
 obtain⟨n,c,j,k,l,m⟩:=i;exact⟨(c.cell 0).trans j,(c.cell 1).trans k,(c.cell 2).trans l,(c.cell 3).trans m⟩
theorem PB.free{c:V}{b g f o j:Nat}(h:PB c b g f o j)(a:Nat):c.frozen? ⟨b,a,I⟩=false:=by
 obtain⟨k,i,l⟩:=h;exact i.free a
theorem LK{m:V}{b f l:Nat}{c:Z}{g:List Z}(i:m.ownsRow b f l c 1 g):∃a cap,c=U (K ⟨a,0,I⟩) 1 cap/\b<=a:=by
 rcases aV i with⟨_,j⟩|⟨a,cap,h,k,_⟩
 .cases j
 .exact⟨a,cap,h,k⟩
theorem PB.Ta{k:V}{p g c o h cap i:Nat}(m:k.ownsRow p 279 4 (U (K i) 1 cap) 1 [A G g,A G c,A G o,A G h]):PB k i g c o h:=by
 rcases aV m with⟨_,q⟩|⟨u,t,l, -, -, -, -, -,f,r⟩
 .cases q
 .simp only [Yy,YQ,Addr.mk.injEq] at l
  obtain⟨⟨rfl, -, -⟩, -, -⟩:=l;have n:ai k i f 279:=r
  have b:∀a j,[A G g,A G c,A G o,A G h][a]? =K j->f[a]? =K j:=λa j s=>(n.cell a).symm.trans (au m s)
  exact⟨f,n,b 0 _ rfl,b 1 _ rfl,b 2 _ rfl,b 3 _ rfl⟩
theorem PB.dC{h:V}{a c b o f:Nat}(j:PB h a c b o f)(g:Nat):PB (h.setCell ⟨a,2,I⟩ (A G g)) a c b g f:=by
 obtain⟨i,k,l,m,n,p⟩:=j;have q:2<i.size:=(Array.getElem?_eq_some_iff.1 n).1;refine⟨_,k.set 2 _,?_,?_,?_,?_⟩
 .rw [Array.getElem?_setIfInBounds_ne H];exact l
 .rw [Array.getElem?_setIfInBounds_ne H];exact m
 .rw [Array.getElem?_setIfInBounds_self_of_lt q]
 .rw [Array.getElem?_setIfInBounds_ne H];exact p
theorem PB.rD{g:V}{a c b o q:Nat}(i:PB g a c b o q)(f:Nat):PB (g.setCell ⟨a,3,I⟩ (A G f)) a c b o f:=by
 obtain⟨h,j,k,l,m,n⟩:=i;have p:3<h.size:=(Array.getElem?_eq_some_iff.1 n).1;refine⟨_,j.set 3 _,?_,?_,?_,?_⟩
 .rw [Array.getElem?_setIfInBounds_ne H];exact k
 .rw [Array.getElem?_setIfInBounds_ne H];exact l
 .rw [Array.getElem?_setIfInBounds_ne H];exact m
 .rw [Array.getElem?_setIfInBounds_self_of_lt p]
theorem PB.mh{h:V}{a f c o g b n:Nat}{p:Z}(j:PB h a f c o g)(m:a≠b):PB (h.setCell ⟨b,n,I⟩ p) a f c o g:=by
 obtain⟨i,k,l⟩:=j;exact⟨i,k.ab _ _ m,l⟩
theorem PB.below{g h:V}{B a c b o f:Nat}(j:PB g a c b o f)(n:X B g h)(m:a<B):PB h a c b o f:=by
 obtain⟨i,k,l⟩:=j;exact⟨i,k.below n m,l⟩
theorem vC{b:Nat}{c g:V}(a:X b c g)(i:b<=c.heap.size):af (λf=>b<=f) c g:=⟨a.os,a.tape,a.output,Nat.le_of_not_lt (λh=>by have:=a.size;omega),λf _ j=>a.block f O⟩
theorem UI{n:V}{f g m b:Nat}{c:Z}{i:List Z}(j:n.ownsRow f g m c b i):∃h cap,c=U h b cap/\b<=cap:=by
 rcases aV j with⟨a,k⟩|⟨o,cap,a,_,_,l,_⟩
 .subst k;exact⟨I,0,a,Yk _⟩
 .exact⟨_,cap,a,l⟩
theorem oM{F:Nat->Prop}{c i:V}(j:af F c i){b f:Nat}{h:Z}(k:¬F b)(g:c.cell? ⟨b,f,I⟩=K h):i.cell? ⟨b,f,I⟩=K h:=
 (YS (w:=c) (a:=⟨b,f,I⟩) (j.block b (Yj c ⟨b,f,I⟩ g) k)).trans g
def PX(b:Z)(a:Int):Array Z:=#[A G 8,A G 8,A G a,A G 0,A G 3,A G 0,A G 0,A G 4,A G 8,A G 64,A G 8,b]
theorem QO(g2 C R cap:Nat)(t:V)(o9:Ea t g2 C R):
  d prog 133 #[Yc bE,A G 8,A G 8,U (K g2) 1 cap] t λf h=>∃g,f=e (Ye #[g,Ya])/\h.ownsRow t 5 1 g gj.length (ak gj)/\X t t h:=by
 have b1:=E o9;have m1:=E (λb=>vB b)
 have v3:=E (λb=>show d prog 177 #[A G 8,A G 8,A G 0] b λf h=>∃g7 m,f=e (Ye #[Yc #[A G 8,A G 8,U g7 64 m],Ya])/\X b b h from(zG 8 8 0 64 b H H H).mono λf h ⟨s0,T,a5,a6⟩=>by
  obtain⟨g7,m,rfl⟩:=a5.ints.shape;rw [bO] at T
  exact⟨g7,m,T,a6⟩)
 have u6:=E (λb e1=>En g2 C R cap b e1);have v5:=E (λb e1=>Fj C R b e1);have m0:=E (λ(g:Z) (b:V) (e1:aY b g [8])=>Kh g b e1);have u7:=E (λ(s4:Option Yi) (m:Nat) (b:V)=>show d prog 182 #[Yc #[A G 8,A G 8,A G 1,A G 0,A G 3,A G 0,A G 0,A G 4,A G 8,A G 64,A G 8,U s4 1 m]] b λf h=>∃v,f=e v/\ah h v (sX 1 1 1 1 0 3 0 4 0 8 64 8)/\X b b h from(Fo 1 1 1 1 0 3 0 4 0 8 64 8 s4 m b H H H H H H H H H H H H).mono λf h ⟨v,T,a5,a6⟩=>⟨v,T,aq a5,a6⟩);have g9:=E (λ(s:Z) (b:V) (a9:ah b s (sX 1 1 1 1 0 3 0 4 0 8 64 8)) (j:Nat) (w:j<=b.heap.size)=>show d prog 181 #[U I 0 0,A G 16,s] b λf h=>kX j (U I 0 0) Ce b f h from nV j 16 (U I 0 0) s [] _ b (YC _ _ _ _) a9 w H H (by rw [xX];decide) H);have h0:=E (λ(g s:Z) (b:V) (j:Nat) (b0:b.ownsRow j 5 1 g Ce.length (ak Ce)) (a9:ah b s [0,0,1]) (w:j<=b.heap.size)=>show d prog 181 #[g,A G 17,s] b λf h=>kX j g Cf b f h from nV j 17 g s Ce [0,0,1] b b0 a9 w H H H (by rw [vK];decide));have h1:=E (λ(g:Z) (x:Option Yi) (y:Nat) (g5:Eh x y) (b:V) (j:Nat) (b0:b.ownsRow j 5 1 g Cf.length (ak Cf)) (w:j<=b.heap.size)=>show d prog 181 #[g,A G 4,U x 0 y] b λf h=>kX j g Cg b f h from nV j 4 g (U x 0 y) Cf [] b b0 (g5.bytes b) w H H H (by rw [vL];decide));have h2:=E (λ(g s:Z) (b:V) (j:Nat) (b0:b.ownsRow j 5 1 g Cg.length (ak Cg)) (a9:ah b s (lT 0 1 30 19)) (w:j<=b.heap.size)=>show d prog 181 #[g,A G 18,s] b λf h=>kX j g sw b f h from nV j 18 g s Cg _ b b0 a9 w H H (by rw [vx];decide) (by rw [vM];decide));have h3:=E (λ(g s:Z) (b:V) (j:Nat) (b0:b.ownsRow j 5 1 g sw.length (ak sw)) (a9:ah b s (tD sw 49)) (w:j<=b.heap.size)=>show d prog 181 #[g,A G 19,s] b λf h=>kX j g gj b f h from nV j 19 g s sw _ b b0 a9 w H H (by rw [yK];decide) (by rw [rj];decide));have u9:=E (λ(c m:Nat) (b:V) (g4:PB b c 0 1 30 19)=>show d prog 183 #[U (K ⟨c,0,I⟩) 1 m] b λf h=>∃v,f=e v/\ah h v (lT 0 1 30 19)/\X b b h from(Ku c m 0 1 30 19 b g4.cells.1 g4.cells.2.1 g4.cells.2.2.1 g4.cells.2.2.2 H H H H).mono λf h ⟨v,T,a5,a6⟩=>⟨v,T,aq a5,a6⟩);have m2:=E (λ(g:Z) (b:V) (A1:ah b g sw)=>show d prog 184 #[g,A G 49] b λf h=>∃v,f=e v/\ah h v (tD sw 49)/\X b b h from(JI g sw 49 b A1 H (by rw [rj];decide)).mono λf h ⟨v,T,a5,a6⟩=>⟨v,T,aq a5,a6⟩);have n3:=E vK;have n4:=E vL;have n6:=E vM;have n8:=E rj;have x4:=E Ch;obtain⟨r9,p8⟩:∃L,Ce=L:=⟨_,rfl⟩;obtain⟨G5,p9⟩:∃L,Cf=L:=⟨_,rfl⟩;obtain⟨g6,q0⟩:∃L,Cg=L:=⟨_,rfl⟩;obtain⟨G6,q1⟩:∃L,sw=L:=⟨_,rfl⟩;obtain⟨G7,q2⟩:∃L,gj=L:=⟨_,rfl⟩;simp only [p8,p9,q0,q1,q2] at m2 g9 h0 h1 h2 h3 n3 n4 n6 n8 x4⊢;clear p8 p9 q0 q1 q2;simp only [kX] at g9 h0 h1 h2 h3;unfold bE at m1 m0⊢;have u1:=E (ai.new t #[A G 0,A G 3,A G 0,A G 0,A G 4,A G 8,A G 64,A G 8] 23);have v9:=E (N:X t t (t.alloc (M #[A G 0,A G 3,A G 0,A G 0,A G 4,A G 8,A G 64,A G 8] 23)));clear o9;go_enter func133,ntmps133
 go_wp2_with (first
  |(go_at_call 63;go_loud (refine(m1.o _).mono ?_;rintro f J3 ⟨rfl,i7⟩;have w0:=E (ext v9.o i7);have w9:=E (u1.o.ext i7);clear i7))
  |(go_at_call 177;go_loud (refine(v3.o _).mono ?_;rintro f s8 ⟨g7,m,rfl,j1⟩;have m4:=E (ext w0.o j1);have x0:=E (w9.o.ext j1);clear j1))
  |(go_at_call 178;go_loud (refine(u6.o _ (b1.o.ext (ext m4.o N))).mono ?_;rintro f a3 ⟨rfl,p3⟩;have n9:=E (show X s8 s8 a3 from ext N p3);have w1:=E (ext m4.o n9.o);have e7:=E (x0.o.ext n9.o);obtain⟨k6,k7,k8,k9,l0,l1,l2,l3⟩:=e7.o.eight;have k5:=e7.o.lt;clear p3)))
 obtain⟨p,e0⟩:∃c7,c7=a3.alloc (M #[A G 8,A G 8,A G 0,A G 0,A G 3,A G 0,A G 0,A G 4,A G 8,A G 64,A G 8,U I 0 0] 276):=⟨_,rfl⟩
 have h8:X a3 a3 p:=by rw [e0];go_grown
 have F:=E (show ai p a3 (PX (U I 0 0) 0) 276 from by rw [e0];exact ai.new a3 _ _);have i5:=E (show p.heap.size=a3.heap.size+1 from by rw [e0];simp);have m9:=E (e7.o.ext h8);have b8:=E (ext w1.o h8);have b4:=E (b1.o.ext b8.o);rw [<-e0];clear e0 h8 k6 k7 k8 k9 l0 l1 l2 l3 k5;have k5:=e7.o.lt;obtain⟨k,W⟩:∃k,a3.heap.size=k:=⟨_,rfl⟩;rw [W] at F i5 k5⊢;clear W;obtain⟨r5,r6,r7,r8, -⟩:=b4.o;have lg:=b4.o.lt;have z7:p.cell? ⟨k,11,I⟩=K (U I 0 0):=F.o.cell 11;have F9:=F.o.lt
 go_loopw [15,52] (λs7 u wr=>(u=A G 0/\s7=U I 0 0/\p=wr)∨(u=A G 1/\∃e3 e2 c m,s7=U e3 1 e2/\aa wr p (U e3 1 e2) [8]/\ai wr k (PX (U (K ⟨c,0,I⟩) 1 m) 0) 276/\PB wr c 0 1 0 0/\p.heap.size<=c/\af (·=k) p wr)) (λ_ u _=>(1 - Yz u).toNat)
 case atStart=>exact Yg ⟨rfl,rfl,rfl⟩
 case round=>
  rcases hrel with⟨rfl,rfl,rfl⟩|⟨rfl,e3,e2,c,m,rfl,a0,W,c9,k3,a7⟩
  .have u3:=E (show ai (p.alloc (M #[A G 0,A G 0,A G 1,U (K C) 1 R] 231)) p #[A G 0,A G 0,A G 1,U (K C) 1 R] 231 from ai.new _ _ _)
   have l6:=E (N:X p p (p.alloc (M #[A G 0,A G 0,A G 1,U (K C) 1 R] 231)))
   go_wp2_with (first
    |(go_at_call 179;go_loud (refine(v5.o _ (b4.o.q.ext l6.o)).mono ?_;rintro f B1 ⟨A8,rfl,q4,j2⟩;have x7:=E q4.ints;have o0:=E (ext l6.o j2);have u4:=E (u3.o.ext j2);clear q4 j2))
    |(at_builtin;go_loud (refine tF rfl (.tmp 56) (.tmp 59) rfl B1.heap.size (U I 0 0) A8 [] [8] rfl (aa.nil _ _) rfl x7.o H (Yk _) ?_;intro J0 s9 k1 j3 z5;obtain⟨e3,e2,rfl⟩:=k1.ints.shape;have x8:=E k1;have e9:=E (ext o0.o j3);have l9:=E (u4.o.ext j3);obtain⟨⟨D3,D4,D5,D6⟩, -⟩:=l9.o.four;have F2:s9.cell? ⟨k,11,I⟩=K (U I 0 0):=(F.o.ext e9.o).cell 11;have F4:=(F.o.ext e9.o).lt;have F7:=l9.o.lt;clear k1 j3 z5))
    |(at_builtin;go_loud (refine aX 274 279 4 32 _ underlying274 Uo rfl H rfl (.tmp 62) (.tmp 70) rfl s9.heap.size (U I 0 0) 0 [] [A G 0,A G 1,A G 0,A G 0] rfl (YC _ _ _ _) rfl rfl rfl (by intro I0 r0;simp at r0;rcases r0 with rfl|rfl|rfl|rfl<;>rfl) H H (Yk _) ?_;intro A9 i a2 a1 z6 _;obtain⟨c,m,rfl,q5⟩:=LK a2;have y3:=E q5;have x9:=E a2;have J:=E a1;clear q5;have c4:=E (ext e9.o a1);have F3:i.cell? ⟨k,11,I⟩=K (U I 0 0):=(F.o.ext c4.o).cell 11;have E0:=(F.o.ext c4.o).free 11;have A4:=(F.o.ext c4.o).lt;clear a2 a1 z6)))
   have A0:=o0.o.size;have E6:=e9.o.size;have k3:=y3.o;have z9:=i5.o;refine⟨Yh ⟨rfl,e3,e2,c,m,rfl,((x8.o.ext J.o).mono A0).ab (a:=⟨k,11,I⟩) (O:k<p.heap.size) _,(F.o.ext c4.o).set 11 _,PB.mh (PB.Ta x9.o) O,O,aL (af.aj c4.o) rfl⟩,H⟩
  .have z9:=i5.o
   have y2:=E (a0.ab (a:=⟨k,2,I⟩) (O:k<p.heap.size) (A G 1)).ints;have y4:=E c9;have b3:=E k3;have x3:=E a7;have w7:=E W;have x1:=E (m9.o.bS (a7.block _ m9.o.lt O));have A2:wr.cell? ⟨k,2,I⟩=K (A G 0):=W.cell 2;have y9:=W.free 2;have F5:=W.lt;clear a0 W c9 k3 a7;have n1:=E (x1.o.ab ⟨k,2,I⟩ (A G 1) (O:t.heap.size≠k));obtain⟨k6,k7,k8,k9,l0,l1,l2,l3⟩:=n1.o.eight;have A6:=n1.o.lt;have w8:=E (show ai (wr.setCell ⟨k,2,I⟩ (A G 1)) k (PX (U (K ⟨c,0,I⟩) 1 m) 1) 276 from w7.o.set 2 _);have x2:=E (show af (·=k) p (wr.setCell ⟨k,2,I⟩ (A G 1)) from aL x3.o rfl);have o4:=E (show PB (wr.setCell ⟨k,2,I⟩ (A G 1)) c 0 1 0 0 from PB.mh y4.o (by have:=b3.o;omega))
   go_wp2_with (first
    |(go_at_call 180;go_loud (refine(m0.o _ _ y2.o).mono ?_;rintro f i ⟨A9,rfl,a2,a1⟩;obtain⟨E2,E1,rfl⟩:=a2.ints.shape;have C6:=E a2;have v8:=E (Np (show c<_ from(o4.o.lt)) a2);have J:=E (show af (·=k) p i from x2.o.trans (af.aj a1));have c3:=E (w8.o.ext a1);have i2:=E (o4.o.ext a1);obtain⟨⟨B3,B4,B7,B8,B9,C0⟩,C1,C2,C3,C4,B5,B6⟩:=(show ai i k #[A G 8,A G 8,A G 1,A G 0,A G 3,A G 0,A G 0,A G 4,A G 8,A G 64,A G 8,U (K ⟨c,0,I⟩) 1 m] 276 from c3.o).Tl;have A4:=c3.o.lt;clear a2 a1))
    |(go_at_call 182;go_loud (refine(u7.o _ _ _).mono ?_;rintro f B2 ⟨J1,rfl,p5,p4⟩;have v7:=E p5;have o1:=E p4;clear p5 p4))
    |(go_at_call 181;go_loud (refine(g9.o _ _ v7.o i o1.o.size).mono ?_;rintro f b6 ⟨J2,rfl,k2,p7⟩;obtain⟨o8,s6,r4⟩:=aK k2;rw [n3.o] at r4;subst r4;have y0:=E k2;have c5:=E (ext o1.o (p7.below (B:=B2.heap.size) (λl z=>by cases z) (Yk _)));clear k2 p7)))
   have j5:g2≠k:=by have:=b1.o.lt;omega
   have j4:C≠k:=by have:=b1.o.q.lt;omega
   have o6:=E ((b4.o.Oa J.o j5 j4).ext c5.o);have g1:=E (i2.o.ext c5.o);have m8:=E (c3.o.ext c5.o)
   have E5:c≠k:=by have:=b3.o;omega
   clear k6 k7 k8 k9 l0 l1 l2 l3 B3 B4 B7 B8 B9 C0 C1 C2 C3 C4 B5 B6 A2 y9 A6 r5 r6 r7 r8 z7;obtain⟨r5,r6,r7,r8, -⟩:=o6.o;have F8:=o6.o.lt;have F1:b6.cell? ⟨k,11,I⟩=K (U (K ⟨c,0,I⟩) 1 m):=m8.o.cell 11;have G0:=m8.o.lt;obtain⟨G8,H0,H3,H5⟩:=g1.o.cells;have H7:=g1.o.free 2;have G2:=g1.o.lt
   go_loopw [20,91] (λg u wr=>(u=A G 0/\g=U o8 30 s6/\b6=wr)∨(u=A G 1/\∃P q,g=U P 49 q/\wr.ownsRow i 5 1 (U P 49 q) g6.length (ak g6)/\PB wr c 0 1 30 19/\af (λl=>l=c∨i.heap.size<=l) i wr)) (λ_ u _=>(1 - Yz u).toNat)
   case atStart=>exact Yg ⟨rfl,rfl,rfl⟩
   case round=>
    rcases hrel with⟨rfl,rfl,rfl⟩|⟨rfl,P,q,rfl,a0,c9,a7⟩
    .go_wp2
     obtain⟨r,a8⟩:∃c7,c7=(b6.setCell ⟨c,2,I⟩ (A G 30)).alloc (M #[A G 0,A G 0,A G 1,U (K C) 1 R] 231):=⟨_,rfl⟩;have b5:=i2.o.lt
     have w2:X i (b6.setCell ⟨c,2,I⟩ (A G 30)) r:=by rw [a8];exact(Yn _ _).alloc (by simpa using c5.o.size) _
     have h5:=E (show PB r c 0 1 30 0 from by rw [a8];exact(show PB (b6.setCell ⟨c,2,I⟩ (A G 30)) c 0 1 30 0 from g1.o.dC 30).ext N);have u5:=E (show ai r b6 #[A G 0,A G 0,A G 1,U (K C) 1 R] 231 from by rw [a8];exact ai.UA _ _ _ _ Y);have y1:=E (show r.ownsRow i 5 1 (U o8 30 s6) r9.length (ak r9) from by rw [a8];exact aG (Yu y0.o (a:=⟨c,2,I⟩) (show c<i.heap.size from b5) _) N);have n0:=E (show af (λl=>l=c∨i.heap.size<=l) i r from(af.aj c5.o).trans ((aL (af.refl _ _) (Yg rfl)).trans (af.aj (by rw [a8];go_grown))));have C7:=E (show i.heap.size<=r.heap.size from n0.o.size);rw [<-a8];clear a8 w2;have g0:=E (N:X r r (r.alloc (M #[A Yf 0,A Yf 0,A Yf 1] 5)).drew);have i3:=E (show r.drew.cell? ⟨c,0,I⟩=K (A G 0)/\r.drew.cell? ⟨c,1,I⟩=K (A G 1) from⟨h5.o.cells.1,h5.o.cells.2.1⟩);have c2:=h5.o.ext g0.o;have i4:=E (show(r.alloc (M #[A Yf 0,A Yf 0,A Yf 1] 5)).drew.cell? ⟨c,0,I⟩=K (A G 0)/\(r.alloc (M #[A Yf 0,A Yf 0,A Yf 1] 5)).drew.cell? ⟨c,1,I⟩=K (A G 1) from⟨c2.cells.1,c2.cells.2.1⟩);have h9:=E (aG y1.o g0.o);have h4:=E (u5.o.ext g0.o);have y7:=E (show ah (r.alloc (M #[A Yf 0,A Yf 0,A Yf 1] 5)).drew (U (K r) 3 3) [0,0,1] from tE r);have c2:=E c2;have b2:=E (n0.o.trans (af.aj g0.o));have I1:Zc Yf 0=0:=H;have I2:Zc Yf 1=1:=H
     go_region_held3 (λh=>h.cell? ⟨c,0,I⟩=K (A G 0)/\h.cell? ⟨c,1,I⟩=K (A G 1)) (first|exact i3.o|exact i4.o|exact y6.o)
      ((go_at_call 181;(refine(h0.o _ _ _ i h9.o y7.o b2.o.size).mono ?_);rintro f n ⟨I4,rfl,j8,j6⟩;obtain⟨y8,A7,r1⟩:=aK j8;rw [n4.o] at r1;subst r1;have x5:=E j8;have e8:=E (j6.below (B:=i.heap.size) (λl z=>(h9.o.lt l z).1) b2.o.size);have l8:=E (h4.o.bS (j6.block _ h4.o.lt (cW h4.o h9.o H)));have e4:=E (c2.o.below e8.o b5);have y6:=E (show n.cell? ⟨c,0,I⟩=K (A G 0)/\n.cell? ⟨c,1,I⟩=K (A G 1) from⟨e4.o.cells.1,e4.o.cells.2.1⟩);clear j8 j6))
     have e6:=E (show af (λl=>l=c∨i.heap.size<=l) i n from b2.o.trans ((vC e8.o b2.o.size).mono λl _ c8=>Yh c8))
     have o5:=E (show lN n C from⟨oM e6.o (by have l4:=b1.o.q.lt;have l5:=b3.o;have C5:=b8.o.size;have u0:=J.o.size;omega) ((b4.o.Oa J.o j5 j4).q.c0),by
      obtain⟨x,y,z0,c8⟩:=(b4.o.Oa J.o j5 j4).q.c1
      exact⟨x,y,oM e6.o (by have l4:=b1.o.q.lt;have l5:=b3.o;have C5:=b8.o.size;have u0:=J.o.size;omega) z0,c8⟩⟩)
     obtain⟨D,E3,g3⟩:=v8.o;have z3:n.cell? D=K (A G 0):=oM e6.o (by have l4:D<i.heap.size:=Yj i D g3.2;omega) g3.2;obtain rfl:=g3.1;have m7:=E z3;obtain⟨⟨C9,D0,D1,D2⟩, -⟩:=l8.o.four;have F6:=l8.o.lt;obtain⟨D7,x,y,D8,g5⟩:=o5.o;have h6:=E g5;clear g5;have G4:=o5.o.lt;go_wp2
     go_loopw [20,123] (λg u wr=>(u=A G 0/\g=U y8 41 A7/\n=wr)∨(u=A G 1/\∃P q,g=U P 49 q/\wr.ownsRow i 5 1 (U P 49 q) g6.length (ak g6)/\X i n wr)) (λ_ u _=>(1 - Yz u).toNat)
     case atStart=>exact Yg ⟨rfl,rfl,rfl⟩
     case round=>
      rcases hrel with⟨rfl,rfl,rfl⟩|⟨rfl,P,q,rfl,a0,w⟩
      .go_wp2
       have l7:=E (show ai (n.alloc (M #[A G 4,U x 0 y] 284)) n #[A G 4,U x 0 y] 284 from ai.new _ _ _);obtain⟨c6,i6⟩:∃c7,c7=n.alloc (M #[A G 4,U x 0 y] 284):=⟨_,rfl⟩;have w3:=E (show X n n c6 from by rw [i6];go_grown);rw [<-i6] at l7⊢;have b9:=E (show X n n c6.drew from ext w3.o N);have q7:=e8.o.size;have q8:=b2.o.size;have i0:=E (aG x5.o b9.o);have m6:=E (e4.o.ext b9.o);have m3:=E ((b9.o.cell (p:=D) (Yj n _ m7.o)).trans m7.o);have b7:=E (show ai c6.drew n #[A G 4,U x 0 y] 284 from l7.o);have A5:D<i.heap.size:=Yj i D g3.2;have I3:Zc G 0=0:=H;have i3:=E (show VV n c D x y c6.drew from⟨b7.o.cell 0,b7.o.cell 1,m6.o.cells.1,m3.o⟩);have q9:=E (show i.heap.size<=c6.drew.heap.size from Yl (Yl q8 q7) b9.o.size);clear i6
       go_region_held3 (λh=>h.cell? n=K (A G 4)/\h.cell? ⟨n,1,I⟩=K (U x 0 y)/\h.cell? ⟨c,0,I⟩=K (A G 0)/\h.cell? D=K (A G 0)) (first|exact i3.o|exact i4.o)
        (first
         |(refine Mo (by rfl) (.tmp 133) (.tmp 142) (by rfl) o7 49 s5 (by rfl) (by rfl) w6.o ?_)
         |(go_at_call 181;(refine(h1.o _ _ _ h6.o _ i i0.o q9.o).mono ?_);rintro f B0 ⟨I5,rfl,j9,j7⟩;obtain⟨o7,s5,r2,k4⟩:=UI j9;rw [n6.o] at r2 k4;subst r2;have x6:=E j9;have w6:=E k4;have h7:=E (j7.below (B:=i.heap.size) (λl z=>(i0.o.lt l z).1) q9.o);have g8:=b7.o.bS (j7.block _ b7.o.lt (cW b7.o i0.o H));have m5:=m6.o.below h7.o b5;have i4:=E (show VV n c D x y B0 from⟨g8.cell 0,g8.cell 1,m5.cells.1,(h7.o.cell (p:=D) A5).trans m3.o⟩);clear j9 j7 g8 m5 k4))
       go_wp2;go_roundw
       case rel=>exact Yh ⟨rfl,o7,s5,rfl,x6.o,(b9.o.mono (Yl q8 q7)).trans h7.o⟩
       case measure=>decide
      .have e5:=E (e4.o.below w b5)
       have i1:=E a0;have u2:=E w;obtain⟨G9,H2,s3,H6⟩:=e5.o.cells;have H4:wr.cell? ⟨c,2,I⟩=K (A G 30):=s3;have H8:=e5.o.free 3;have G3:=e5.o.lt;clear a0 w s3;go_wp2;go_roundw
       case rel=>exact Yh ⟨rfl,P,q,rfl,Yu i1.o (a:=⟨c,3,I⟩) (show c<i.heap.size from b5) _,(show PB (wr.setCell ⟨c,3,I⟩ (A G 19)) c 0 1 30 19 from e5.o.rD 19),aL (e6.o.trans ((vC u2.o (Yl b2.o.size e8.o.size)).mono λl _ c8=>Yh c8)) (Yg rfl)⟩
       case measure=>decide
    .have i1:=E a0
     have y5:=E c9;have n2:=E a7;have b5:=i2.o.lt;have E4:=c3.o.lt;have A3:wr.cell? ⟨k,11,I⟩=K (U (K ⟨c,0,I⟩) 1 m):=oM a7 (by have l5:=b3.o;omega) (c3.o.cell 11);have G1:=Yj wr _ A3;clear a0 c9 a7;have F0:=n2.o.size
     go_wp2_with fail
     refine(u9.o c m wr y5.o).mono ?_;rintro f J4 ⟨I6,rfl,z1,i9⟩;have E7:=i9.size;have o2:=aG i1.o i9
     go_wp2_with fail
     refine(h2.o _ _ _ i o2 z1 O).mono ?_;rintro f J5 ⟨I7,rfl,k0,z8⟩;obtain⟨C8,H9,r3⟩:=aK k0;rw [n8.o] at r3;subst r3;have p1:=z8.below (B:=i.heap.size) (λl z=>(o2.lt l z).1) O;have E8:=p1.size
     go_wp2_with fail
     refine(m2.o _ _ (aq k0)).mono ?_;rintro f J6 ⟨I8,rfl,z2,j0⟩;have E9:=j0.size;have o3:=aG k0 j0
     go_wp2_with fail
     refine(h3.o _ _ _ i o3 z2 O).mono ?_;rintro f J7 ⟨I9,rfl,q3,p6⟩;have p2:=p6.below (B:=i.heap.size) (λl z=>(o3.lt l z).1) O;have w5:=E q3;have l4:=b8.o.size;have l5:=b3.o;have u0:=J.o.size;have p0:X t t i:=b8.o.trans (J.o.below (λl z=>by have D9:l=k:=z;omega) O);have q6:X t t wr:=p0.trans (n2.o.below (λl z=>O) O);have w4:=E (((((q6.trans (i9.mono O)).trans (p1.mono O)).trans (j0.mono O)).trans (p2.mono O)));have h6:=E (O:t.heap.size<=i.heap.size);clear q3 p6 p2 q6 p0;go_wp2;go_returns;exact⟨_,rfl,aA w5.o h6.o,w4.o⟩
theorem RD(b c:Nat)(a:V):
  d prog 132 #[Yc #[A G 0,A G 0,A G 1,U (K b) 1 c],Yc #[A G 0,A G 1]] a λf g=>f=e (.bool true)/\X a a g:=by
 go_enter func132,ntmps132;go_wp2;go_returns;exact⟨rfl,N⟩
theorem J_(i c f cap b r:Nat)(a:V)(s:Ea a i c f)(j:a.cell? b=K (A G 0))(q:a.cell? ⟨b,1,I⟩=K (A G 1)):
  d prog 131 #[U (K i) 1 cap,U (K b) 1 r,.func (.func 132) #[] #[]] a λh w=>h=e (.bool true)/\X a a w:=by
 have m:=E (λx=>RD c f x)
 have D:=λ(n:Array Z) (a:V)=>eL func132 B B n a
 obtain⟨v,F,J,L, -⟩:=s;have C:=Yj a _ v;have k:=Yj a _ j;go_enter func131,ntmps131;go_wp2
 go_loopw [17] (λg wr=>(g=A G 0/\a=wr)∨(g=A G 1/\X a a wr)) (λg _=>(1 - Yz g).toNat)
 case atStart=>exact Yg ⟨rfl,rfl⟩
 case round=>
  rcases hrel with⟨rfl,rfl⟩|⟨rfl,t⟩
  .have y:(a.alloc (M #[A G 0,A G 0,A G 1,U (K c) 1 f] 231)).cell? b=K (A G 0):=((N:X a a _).cell (p:=b) k).trans j
   have z:(a.alloc (M #[A G 0,A G 0,A G 1,U (K c) 1 f] 231)).cell? ⟨b,1,I⟩=K (A G 1):=((N:X a a _).cell (p:=⟨b,1,I⟩) k).trans q
   go_wp2_with fail
   refine(m.o _).mono ?_;rintro h P ⟨rfl,u⟩;have l:=E (ext (N:X a a _) u);go_wp2;go_roundw
   case rel=>exact Yh ⟨rfl,l.o⟩
   case measure=>decide
  .go_wp2
   go_returns;exact⟨rfl,t⟩
theorem wH(a5 k r s cap:Nat)(P T L:Z)(a:V)(u:d_ a a5 P T L)(a1:Ea a k r s):
  d prog 91 #[Yc bE,oA P T L,U (K k) 1 cap] a λc a3=>∃w,c=e (Ye #[w,Ya])/\a3.ownsRow a 5 1 w gj.length (ak gj)/\X a a a3:=by
 obtain⟨C,D,b3,q,F,J,rfl,rfl,rfl⟩:=u.shape;obtain⟨b,b4,c,t,R, -⟩:=u.gr.UB;simp only [Yy] at c;obtain⟨rfl, -,rfl⟩:=c;have z:=E a1;have y:=E (YI t R);have a2:=Yj a _ t;have a6:=E (λi v (b1:i.cell? b=K (A G 0)) (b2:i.cell? ⟨b,1,I⟩=K (A G 1))=>J_ k r s cap b q i v b1 b2);have x:=E (λi v=>QO k r s cap i v);unfold bE at x⊢;unfold oA;obtain⟨j,h⟩:∃b0,b0=(a.alloc (M #[A G 0,A G 3,A G 0,A G 0,A G 4,A G 8,A G 64,A G 8] 23)).alloc (M #[A G 8,A G 8,U C 1 D,U (K b) 1 q,U F 1 J] 111):=⟨_,rfl⟩;have g:=E (show X a a j from by rw [h];go_grown);have l:=E (show ai j a #[A G 0,A G 3,A G 0,A G 0,A G 4,A G 8,A G 64,A G 8] 23 from by rw [h];exact(ai.new a _ _).alloc _);have m:=E (show ai j (a.heap.size+1) #[A G 8,A G 8,U C 1 D,U (K b) 1 q,U F 1 J] 111 from by rw [h];exact h_ _ _ _ _ Y);rw [h] at g l m;clear u a1 h j t R;go_enter func91,ntmps91
 go_wp2_with (first
  |(go_at_call 131;go_loud (refine(a6.o _ (z.o.ext g.o) ((g.o.cell (p:=b) a2).trans y.o.1) ((g.o.cell (p:=⟨b,1,I⟩) a2).trans y.o.2)).mono ?_;rintro c b7 ⟨rfl,f⟩;have n:=E (ext g.o f);have a9:=E (z.o.ext n.o);obtain⟨b9,c0,c1,c2,c3,c4,c5,c6⟩:=(l.o.ext f).eight;have b5:=(l.o.ext f).lt;obtain⟨c7,c8,c9,e0,e1⟩:=(m.o.ext f).cL;have b6:=(m.o.ext f).lt;clear f))
  |(go_at_call 133;go_loud (refine(x.o _ a9.o).mono ?_;rintro c b8 ⟨w,rfl,a0,W⟩;have a8:=E (aA a0 n.o.size);have a7:=E (ext n.o W);clear a0 W)))
 go_returns;exact⟨_,rfl,a8.o,a7.o⟩
def dx:Bs:=[75,83,1,1,1]++YA 9 0
theorem RC:jq dx= .ok [vk]:=B
theorem Fi:mT bu [vk]=[(0,1)]:=B
theorem MV:Ij bu [vk]=[8]:=B
theorem Dc(g:Z)(a:V)(o:ah a g dx):
  d prog 89 #[Yc bE,g] a λi h=>∃c f b,i=e (Ye #[oA c f b,Ya])/\d_ h a c f b/\X a a h:=
 (show d prog 89 #[Yc bE,g] a _ from Gs bu g dx [vk] a H o H RC).mono λi h ⟨c,f,b,l,m,j,k,n⟩=>by
  rw [Fi] at j;rw [MV] at k;exact⟨c,f,b,l,⟨m,j,k⟩,n⟩
theorem Rt(w:Z)(a:V)(T:ah a w dx):
  d prog 53 #[Yc bE,w] a λh W=>∃v,h=e (Ye #[v,Ya])/\W.ownsRow a 5 1 v gj.length (ak gj)/\X a a W:=by
 have n:=E (λf c=>Dc w f c);have m:=E (λ(l:Nat) (i j g:Z) f c=>Qd l i j g f c);have p:=E (λ(l L F J cap:Nat) (i j g:Z) f c b5=>wH l L F J cap i j g f c b5);unfold bE at n m p⊢;unfold oA at n m p;have a5:=E T;have a0:=E (ai.new a #[A G 0,A G 3,A G 0,A G 0,A G 4,A G 8,A G 64,A G 8] 23);have x:=E (N:X a a (a.alloc (M #[A G 0,A G 3,A G 0,A G 0,A G 4,A G 8,A G 64,A G 8] 23)));clear T;go_enter func53,ntmps53
 go_wp2_with (first
  |(go_at_call 89;go_loud (refine(n.o _ (a5.o.ext x.o)).mono ?_;rintro h k ⟨i,j,g,rfl,u,s⟩;obtain⟨a8,a9,b0,b1,b2,b3,rfl,rfl,rfl⟩:=u.shape;have C:=E u;have a1:=E (ext x.o s);have q:=E (a0.o.ext s);obtain⟨c3,c4,c5,c6,c7,c8,c9,e0⟩:=q.o.eight;have b8:=q.o.lt;clear s u))
  |(go_at_call 90;go_loud (refine(m.o _ _ _ _ _ (C.o.ext N)).mono ?_;rintro h c1 ⟨L,cap,b7,b6,F,J,rfl,b,b4,R, -,t⟩;have a7:=E (uK b R);have r:=E (ext (N:X k k _) t);have a6:=E (C.o.ext r.o);have y:=E (ext a1.o r.o);have z:=E (q.o.ext r.o);obtain⟨e6,e7,e8,e9,g0,g1,g2,g3⟩:=z.o.eight;have b9:=z.o.lt;have D:=E ((show ai _ k #[A G 8,A G 8,U a8 1 a9,U b0 1 b1,U b2 1 b3] 111 from ai.new k _ _).ext t);obtain⟨e1,e2,e3,e4,e5⟩:=D.o.cL;have c0:=D.o.lt;clear b b4 R t))
  |(go_at_call 91;go_loud (refine(p.o _ _ _ _ _ _ _ _ _ a6.o a7.o).mono ?_;rintro h c2 ⟨v,rfl,b,P⟩;have a3:=E (aA b y.o.size);have a2:=E (ext y.o P);clear b P)))
 go_returns;exact⟨_,rfl,a3.o,a2.o⟩
theorem NT:(prog.info? 171).map (λa=>(a.zero,a.size,a.bytes))=K (K (Yc #[A G 0,U I 0 0,A G 0,A G 0]),4,48):=B
theorem Co:gJ aF cU 0= .ok ⟨32,[0,0,1],11⟩:=sD aF iZ [] (bV aF 4 []) 32 [0,0,1] H H
theorem Cp:gJ aF cU 11= .ok ⟨4,[],19⟩:=by
 have a:=sD aF iZ (bV aF 32 [0,0,1]) [] 4 [] H H;rw [List.append_nil,kp] at a;exact a
theorem Cq:cU.length=19:=by unfold cU;rw [Yq,kp,kp];rfl
theorem QR(f:Z)(b:V)(l:ah b f cU):d prog 92 #[f,A G 0] b λh g=>
  ∃c cap,h=e (Ye #[Yc #[A G 32,U c 3 cap,A G 0,A G 11],Ya])/\g.ownsRow b 5 1 (U c 3 cap) 3 (ak [0,0,1])/\X b b g:=
 (vS f cU 0 b l).mono λh g a=>by
  rcases a with⟨m,a, -⟩|⟨o,a,n,k,i,j⟩
  .rw [Co] at a;cases a
  .rw [Co] at a;cases a
   obtain⟨c,cap,rfl⟩:=(aq i).shape;exact⟨c,cap,k,i,j⟩
theorem QT(g:Z)(b:V)(f:ah b g cU):d prog 92 #[g,A G 11] b λh i=>
  ∃c cap,h=e (Ye #[Yc #[A G 4,U c 0 cap,A G 11,A G 19],Ya])/\Eh c cap/\X b b i:=
 (vS g cU 11 b f).mono λh i a=>by
  rcases a with⟨m,a, -⟩|⟨o,a,n,k,l,j⟩
  .rw [Cp] at a;cases a
  .rw [Cp] at a;cases a
   have f:=aq l;obtain⟨c,cap,rfl⟩:=f.shape;exact⟨c,cap,k,Eh.of f,j⟩
def Wd(c:V)(a:Nat)(f b:Z):Prop:=c.ownsRow a 171 4 f 1 [A G 32,b,A G 0,A G 11]/\c.ownsRow a 5 1 b 3 (ak [0,0,1])
def UT(g:V)(a:Nat)(h c f:Z):Prop:=(∀b cap,f=U b 0 cap->Eh b cap)/\g.ownsRow a 171 4 h 2 [A G 32,c,A G 0,A G 11,A G 4,f,A G 11,A G 19]/\g.ownsRow a 5 1 c 3 (ak [0,0,1])
theorem He(u:Z)(a:V)(J:ah a u cU):d prog 241 #[u] a λh b1=>
  ∃l g r cap,h=e (Ye #[l,Ya])/\UT b1 a l g (U r 0 cap)/\X a a b1:=by
 have z:=E J;have W:=E (λT L=>QR u T L);have a0:=E (λT L=>QT u T L);obtain⟨c3,c2,rfl⟩:=J.shape;rw [Cq] at z W a0⊢;clear J;go_enter func241,ntmps241;go_wp2
 go_loopw [4,5] (λl q wr=>(q=A G 0/\U I 0 0=l/\a=wr)∨(q=A G 11/\∃g,Wd wr a l g/\X a a wr)∨(q=A G 19/\∃g r cap,UT wr a l g (U r 0 cap)/\X a a wr)) (λ_ q _=>(19 - Yz q).toNat)
 case atStart=>exact Yg ⟨rfl,rfl,rfl⟩
 case round=>
  rcases hrel with⟨rfl,rfl,rfl⟩|⟨rfl,g,⟨F,a8⟩,s⟩|⟨rfl,g,r,cap,b5,s⟩
  .go_wp2_with (first
    |(go_at_call 92;go_loud (refine(W.o _ z.o).mono ?_;rintro h f ⟨b,c,rfl,a9,i⟩;have a5:=E a9;have k:=E i;clear a9 i))
    |(at_builtin;go_loud (refine aX 329 171 4 48 _ underlying329 NT rfl H rfl (.tmp 22) (.tmp 24) rfl a.heap.size (U I 0 0) 0 [] [A G 32,U b 3 c,A G 0,A G 11] rfl (YC _ _ _ _) rfl Y rfl (by intro b7 p;simp at p;rcases p with rfl|rfl|rfl|rfl<;>rfl) H H ((k.o.alloc k.o.size (M #[A G 32,U b 3 c,A G 0,A G 11] 171)).size) ?_;intro P R n m j _;have y:=E (show R.ownsRow a 171 4 P 1 [A G 32,U b 3 c,A G 0,A G 11] from n);have w:=E ((k.o.alloc k.o.size (M #[A G 32,U b 3 c,A G 0,A G 11] 171)).trans m);have x:=E ((aG a5.o (N:X f f (f.alloc (M #[A G 32,U b 3 c,A G 0,A G 11] 171)))).kept j (kQ (YC f 0 171 4) a5.o (H:(171:Nat)≠5)));have b8:=((ai.new f #[A G 32,U b 3 c,A G 0,A G 11] 171).grown j (show K f.heap.size≠(I:Option Nat) from λh=>by cases h)).cell 3;have b9:=((ai.new f #[A G 32,U b 3 c,A G 0,A G 11] 171).grown j (show K f.heap.size≠(I:Option Nat) from λh=>by cases h)).lt;clear n m j)))
   go_roundw
   case rel=>exact Yh (Yg ⟨rfl,_,⟨y.o,x.o⟩,w.o⟩)
   case measure=>decide
  .obtain⟨b6,b4,rfl⟩:=gK F
   have a2:=E F;have b2:=E a8;have v:=E s;clear F a8 s
   go_wp2_with (first
    |(go_at_call 92;go_loud (refine(a0.o _ (z.o.ext v.o)).mono ?_;rintro h f ⟨b,c,rfl,b0,i⟩;have b3:=E b0;clear b0;have k:=E i;have t:=v.o.trans (i.mono v.o.size);have c0:=E t;have a6:=E (t.alloc t.size (M #[A G 4,U b 0 c,A G 11,A G 19] 171));have C:X wr wr (f.alloc (M #[A G 4,U b 0 c,A G 11,A G 19] 171)):=i.alloc i.size _;have a3:=E (aG a2.o C);have a1:=E (aG b2.o C);clear i t C))
    |(at_builtin;go_loud (refine aX 329 171 4 48 _ underlying329 NT rfl H rfl (.tmp 22) (.tmp 24) rfl a.heap.size (U b6 1 b4) 1 [A G 32,g,A G 0,A G 11] [A G 4,U b 0 c,A G 11,A G 19] rfl a3.o rfl Y rfl (by intro b7 p;simp at p;rcases p with rfl|rfl|rfl|rfl<;>rfl) H H a6.o.size ?_;intro P R n m j _;have y:=E (show R.ownsRow a 171 4 P 2 [A G 32,g,A G 0,A G 11,A G 4,U b 0 c,A G 11,A G 19] from n);have w:=E (a6.o.trans m);have x:=E (a1.o.kept j (kQ a3.o a1.o (H:(171:Nat)≠5)));have D:=(ai.new f #[A G 4,U b 0 c,A G 11,A G 19] 171).grown j (λh=>by have c1:=(a2.o.lt f h.symm).2;have:=k.o.size;omega);have b8:=D.cell 3;have b9:=D.lt;clear n m j D)))
   go_roundw
   case rel=>exact Yh (Yh ⟨rfl,_,_,_,⟨λ_ _ a7=>by simp only [Yy] at a7;obtain⟨rfl, -,rfl⟩:=a7;exact b3.o,y.o,x.o⟩,w.o⟩)
   case measure=>decide
  .go_wp2
   go_returns;exact⟨_,_,_,_,rfl,b5,s⟩
theorem ai.Gw{b:V}{a:Nat}{g h i f:Z}{j:Nat}(c:ai b a #[g,h,i,f] j):(b.cell? a=K g/\b.cell? ⟨a,1,I⟩=K h/\b.cell? ⟨a,2,I⟩=K i/\b.cell? ⟨a,3,I⟩=K f)/\(b.frozen? a=false/\b.frozen? ⟨a,1,I⟩=false/\b.frozen? ⟨a,2,I⟩=false/\b.frozen? ⟨a,3,I⟩=false):=
 ⟨⟨c.cell 0,c.cell 1,c.cell 2,c.cell 3⟩,⟨c.free 0,c.free 1,c.free 2,c.free 3⟩⟩
theorem NY(b:V)(a f off cap:Nat)(h:ai b a #[A G 0,A G 0,A G 0,U I 0 0] 231):
  ai (((((b.setCell a (A G 0)).setCell ⟨a,1,I⟩ (A G 0)).setCell ⟨a,2,I⟩ (A G 1)).alloc (M #[A G 32,U (K ⟨f,off,I⟩) 3 cap,A G 0,A G 11] 171)).drew) a #[A G 0,A G 0,A G 1,U I 0 0] 231/\af (·=a) b (((((b.setCell a (A G 0)).setCell ⟨a,1,I⟩ (A G 0)).setCell ⟨a,2,I⟩ (A G 1)).alloc (M #[A G 32,U (K ⟨f,off,I⟩) 3 cap,A G 0,A G 11] 171)).drew):=by
 refine⟨((((h.set 0 (A G 0)).set 1 (A G 0)).set 2 (A G 1)).alloc _).drew,?_⟩;refine⟨rfl,rfl,rfl,by simp [World.setCell,World.drew],λg j i=>?_⟩;have c:g≠a:=i
 show(World.alloc _ _).heap[g]? =_
 rw [heap_alloc_old _ _ (by simp [World.setCell];omega),Yt _ _ _ _ c,Yt _ _ _ _ c,Yt _ _ _ _ c]
theorem KC(a c off cap:Nat)(b:V)(n:ai b a #[A G 0,A G 0,A G 0,U I 0 0] 231)
  (m:ah b (U (K ⟨c,off,I⟩) 3 cap) [0,0,1])(q:c≠a):
  d prog 242 #[Q (K a),A G 0,Yc #[A G 32,U (K ⟨c,off,I⟩) 3 cap,A G 0,A G 11]] b
   λl f=>l=e Ya/\ai f a #[A G 0,A G 0,A G 1,U I 0 0] 231/\af (·=a) b f:=by
 have v:=E n;have u:=E (λa6=>Bl a6);have t:b.cell? ⟨c,off,I⟩=K (A Yf 0):=m.at (j:=0) H;have z:b.cell? ⟨c,off+1,I⟩=K (A Yf 0):=m.at (j:=1) H;have C:b.cell? ⟨c,off+2,I⟩=K (A Yf 1):=m.at (j:=2) H;have lg:c<b.heap.size:=Yj b ⟨c,off,I⟩ t;obtain⟨⟨R,T,W,a0⟩,⟨a7,a8,a9,b0⟩⟩:=n.Gw;have a1:=n.lt;have D:¬a=b.heap.size:=O;have F:¬b.heap.size=a:=O;have J:¬c=b.heap.size:=O
 have L:¬a=c:=λl=>q l.symm
 have P:¬c=a:=q;clear m n q;go_enter func242,ntmps242;go_wp2
 go_region
 obtain⟨h,p⟩:=NY b a c off cap v.o;generalize ((((b.setCell a (A G 0)).setCell ⟨a,1,I⟩ (A G 0)).setCell ⟨a,2,I⟩ (A G 1)).alloc (M #[A G 32,U (K ⟨c,off,I⟩) 3 cap,A G 0,A G 11] 171)).drew=g at h p⊢;obtain⟨⟨a2,a3,a5,b2⟩, -⟩:=h.Gw;have b1:=h.lt;have k:=E h;have w:=E p;have x:=E (show g.drew.cell? a=K (A G 0)/\g.drew.cell? ⟨a,1,I⟩=K (A G 0)/\g.drew.cell? ⟨a,2,I⟩=K (A G 1) from⟨a2,a3,a5⟩);clear h p t z C lg R T W a0 a7 a8 a9 b0 a1 D F J L P;go_wp2
 go_region_held3 (λf=>f.cell? a=K (A G 0)/\f.cell? ⟨a,1,I⟩=K (A G 0)/\f.cell? ⟨a,2,I⟩=K (A G 1))
  (first|with_reducible exact x.o|with_reducible exact y.o)
  ((go_at_call 270;refine(u.o _).mono ?_;rintro l r ⟨rfl,i⟩;have s:=E i;have y:=E (show r.cell? a=K (A G 0)/\r.cell? ⟨a,1,I⟩=K (A G 0)/\r.cell? ⟨a,2,I⟩=K (A G 1) from⟨((k.o.drew.ext i).cell 0),((k.o.drew.ext i).cell 1),((k.o.drew.ext i).cell 2)⟩);clear i))
 all_goals go_wp2
 all_goals go_returns
 all_goals exact⟨rfl,k.o.drew.ext s.o,w.o.trans (af.aj (ext (Yn g g).drew s.o))⟩
theorem Ob{b f:V}(a:X b b f)(c:Yi)(j:Z):af (·=c.block) b (f.setCell c j):=
 ⟨a.os,a.tape,a.output,by simp [World.setCell];exact a.size,λi g h=>(Yt _ _ _ _ h).trans (a.block i g)⟩
theorem Kz(c cap:Nat)(b:Option Yi)(a:V)(R:ai a c #[A G 0,A G 0,A G 1,U I 0 0] 231):
  d prog 242 #[Q (K c),A G 1,Yc #[A G 4,U b 0 cap,A G 11,A G 19]] a
   λf u=>∃J F,f=e Ya/\ai u c #[A G 0,A G 0,A G 1,U (K ⟨J,0,I⟩) 1 F] 231/\u.ownsRow a 284 2 (U (K ⟨J,0,I⟩) 1 F) 1 [A G 4,U b 0 cap]/\af (·=c) a u:=by
 have D:=E R;have b1:=E (λv=>wg b cap v);have b0:=E (λv=>u_ v);have b2:=E (N:X a a ((a.alloc (M #[A G 4,U b 0 cap,A G 11,A G 19] 171)).alloc (M #[A G 4,U b 0 cap] 284)));have p:=ai.new (a.alloc (M #[A G 4,U b 0 cap,A G 11,A G 19] 171)) #[A G 4,U b 0 cap] 284;rw [(Y:(a.alloc (M #[A G 4,U b 0 cap,A G 11,A G 19] 171)).heap.size=a.heap.size+1)] at p;have b3:=E p;have b9:=E ((ai.new a #[A G 4,U b 0 cap,A G 11,A G 19] 171).alloc (M #[A G 4,U b 0 cap] 284));clear R p;go_enter func242,ntmps242
 go_wp2_with (first
  |(go_at_call 272;refine(b1.o _).mono ?_;rintro f a3 ⟨rfl,i⟩;have m:=ext b2.o i;have z:=E m;have k:=D.o.ext m;obtain⟨⟨r,s,t,a0⟩,⟨w,x,y,a9⟩⟩:=k.Gw;have a1:=k.lt;have b5:=E k;have j:=b3.o.ext i;obtain⟨a5,a6,a7,a8⟩:=j.two;have a2:=j.lt;have c0:=E j;have q:=b9.o.ext i;obtain⟨⟨c5,c6,c7,c8⟩, -⟩:=q.Gw;have c4:=q.lt;clear i m k j q)
  |(go_at_call 271;refine(b0.o _).mono ?_;rintro f e4 ⟨rfl,rfl⟩))
 have g:=b5.o.alloc (M #[A G 4,A G 0,U I 0 0] 354);have l:=(show ai a3 (a.heap.size+1) #[A G 4,U b 0 cap] 284 from c0.o).alloc (M #[A G 4,A G 0,U I 0 0] 354);have n:=z.o.alloc z.o.size (M #[A G 4,A G 0,U I 0 0] 354);generalize (a3.alloc (M #[A G 4,A G 0,U I 0 0] 354))=c1 at g l n⊢;clear r s t a0 w x y a9 a1 a5 a6 a7 a8 a2 c5 c6 c7 c8 c4;obtain⟨⟨r,s,t,a0⟩,⟨w,x,y,a9⟩⟩:=g.Gw;obtain⟨a5,a6,a7,a8⟩:=l.two;have a1:=g.lt;have a2:=l.lt;have b6:=E g;have C:=E n;clear g l n r s t w x y
 go_region_law ((refine pr 229 284 2 32 _ underlying229 vy rfl H (by rfl) _ _ (by rfl) c1 a (U I 0 0) 0 [] [A G 4,U b 0 cap] (by rfl) (YC _ _ _ 2) _ (by rfl) (heap_alloc_new _ _) N (by rfl) (by intro e3 W;simp at W;rcases W with rfl|rfl<;>rfl) O H C.o.size ?_;intro c3 c2 c9 T L P e0;have h:=b6.o.grown P (show K c≠(I:Option Nat) from λf=>by cases f);have b7:=E h;have e1:c9.cell? ⟨c,3,I⟩=K (U I 0 0):=h.cell 3;have e5:=h.free 3;have e2:=h.lt;have b8:=E T;have b4:=E (C.o.trans L);clear T L P h))
 all_goals go_wp2
 all_goals go_returns
 all_goals exact⟨c3,c2,rfl,b7.o.set 3 _,Yu b8.o D.o.lt _,Ob b4.o ⟨c,3,I⟩ _⟩
end
end Go.Proofs.YtajkpgaheechmaaGreatDoor
