/- LgA LgB LgC LgD LgE LgF LgG LgK LgL -/
import Derived.Test.YtajkpgaheechmaaGreatDoorZAL
set_option maxRecDepth 100000
set_option maxHeartbeats 16000000
set_option linter.unusedSimpArgs false
set_option linter.unusedVariables false
set_option linter.unusedSectionVars false
namespace Go.Proofs.YtajkpgaheechmaaGreatDoor
open _root_.Go.Proofs.Tryz
open Go.Value renaming int->A,slice->U,nilIface->Ya,agg->Yc,iface->Yd,tuple->Ye
open Go.IntKind renaming i64->G,u8->Yf,wrap_i64->Yo,wrap->Zc
open Option renaming none->I,some->K
open Go.Obj renaming cells->M
open Go.Ending renaming returned->e
open Go renaming World->V,Value->Z,Calls->d,Addr->Yi,bodyPost_ret->YD,wpAnyH_take->YH,maxLen->YO,results->YU
open Go.RowKit renaming Below->X
open Or renaming inl->Yg,inr->Yh
open Go.World renaming block_lt_of_cell?->Yj,cell?_alloc_lt->Ys,ownsRow_nil->YC,size_alloc->YN,cell?_of_block->YS
open Nat renaming le_refl->Yk,le_trans->Yl,zero_le->Yr,lt_of_lt_of_le->Yv
open UInt8 renaming ofNat->Ym
open Go.RowKit.Below renaming refl->Yn,heap_setCell->Yt
open List renaming length_append->Yq,setIfInBounds_toArray->Yw,getElem_cons_zero->YE,getElem_cons_succ->YF,set_cons_zero->YJ,getElem_toArray->YK,set_cons_succ->YL
open Go.Value.slice renaming injEq->Yy
section
open Go.RowKit Go.Extern.Stop Go.Stop Go.Extern
def lD(a:Int):Bool:=decide (48<=a)&&decide (a<=51)
theorem iR(a:Int)(g:V):
  d prog 136 #[A G a] g λb h=>b=e (.bool (lD a))/\g=h:=by
 have b:lD a=(decide (48<=a)&&decide (a<=51)):=rfl;rw [b];clear b;by_cases c:48<=a
 .by_cases f:a<=51
  .go_enter func136,ntmps136
   go_wp2;go_returns;exact⟨by simp [c,f],rfl⟩
  .go_enter func136,ntmps136
   go_wp2;go_returns;exact⟨by simp [c,f]<;>omega,rfl⟩
 .go_enter func136,ntmps136
  go_wp2;go_returns;exact⟨by simp [c]<;>omega,rfl⟩
theorem Cb(r:Z)(b:Bs)(a:Nat)(f:Nat)(c:V)(h:c.ownsRow f 5 1 r b.length (ak b))(j:f<=c.heap.size)(l:b.length<=1000000):
  d prog 185 #[r,A G a] c λF t=>∃s,F=e s/\t.ownsRow f 5 1 s (b++g_ a).length (ak (b++g_ a))/\X f c t:=by
 obtain⟨D,cap,rfl⟩:=aK h;obtain⟨q,n⟩:∃q,b.length=q:=⟨_,rfl⟩
 have a0:Zc Yf ((a:Int) / 16777216)=((Ym (a / 16777216)).toNat:Int):=by rw [<-wrap_u8];congr 1
 have a1:Zc Yf ((a:Int) / 65536)=((Ym (a / 65536)).toNat:Int):=by rw [<-wrap_u8];congr 1
 have a2:Zc Yf ((a:Int) / 256)=((Ym (a / 256)).toNat:Int):=by rw [<-wrap_u8];congr 1
 have a3:=wrap_u8 a;have k:g_ a=[Ym (a / 16777216),Ym (a / 65536),Ym (a / 256),Ym a]:=rfl;rw [k];generalize Ym (a / 16777216)=u at*;generalize Ym (a / 65536)=v at*;generalize Ym (a / 256)=w at*;generalize Ym a=x at*;have i:=E h;have R:=E n;have y:=E l;have g:=E j;clear k h n l j;go_enter func185,ntmps185
 go_wp2_with (at_builtin;refine eA rfl (.tmp 5) (.tmp 17) rfl f (U D b.length cap) (U (K c) 4 4) b [u,v,w,x] rfl (aG i.o N) rfl (aq (ve c u v w x)) (by have:=y.o;simp;omega) (by have:=g.o;simp;omega) ?_;intro T W a5 p m J;have C:=E p;have z:=E m;clear p m J)
 go_returns;exact⟨_,rfl,C.o,((Yn f c).alloc g.o _).grown z.o (Yl g.o Y) (λP L=>(i.o.lt P L).1)⟩
def aU.val(a:aU):Z:=Yc #[A G (a.kind:Int),A G (a.sum:Int),A G (a.number:Int),A G (a.length:Int),A G (a.code:Int)]
def nO(a:aU):Prop:=
 (a.kind=48/\a.sum<=4294967295/\a.number<=16/\a.length=0/\a.code=0)∨(a.kind=49/\a.sum<=4294967295/\a.number<16/\a.length<=16777216/\a.code=0)∨
 (a.kind=50/\a.sum=0/\a.number=0/\a.length=0/\1<=a.code/\a.code<=15)∨(a.kind=51/\a.sum<=4294967295/\a.number=0/\a.length<=16777216/\a.code=0)
theorem JH(i:aU)(h:V)(l:nO i):
  d prog 186 #[i.val] h λk q=>k=e (.bool true)/\X h h q:=by
 obtain⟨m,p,o,n,j⟩:=i
 show d prog 186 #[Yc #[A G m,A G p,A G o,A G n,A G j]] h _
 rcases l with⟨a,b,c,f,g⟩|⟨a,b,c,f,g⟩|⟨a,b,c,f,g,r⟩|⟨a,b,c,f,g⟩
 all_goals
  simp only at a b c f g;subst a;go_enter func186,ntmps186;go_wp2;go_returns;refine⟨?_,N⟩;simp<;>omega
theorem Q_(u:aU)(l:V)(y:nO u):
  d prog 187 #[u.val] l λv w=>v=e u.val/\X l l w:=by
 obtain⟨x,q,s,r,t⟩:=u
 show d prog 187 #[Yc #[A G x,A G q,A G s,A G r,A G t]] l λv w=>v=e (Yc #[A G x,A G q,A G s,A G r,A G t])/\X l l w
 rcases y with⟨c,p,m,n,k⟩|⟨c,p,m,n,k⟩|⟨c,p,m,n,k,z⟩|⟨c,p,m,n,k⟩
 .simp only at c p m n k
  subst c;subst n;subst k;have b:=ai.new (l.alloc (M #[A G 48,A G q,A G s,A G 0,A G 0] 93)) #[A G 48,A G q,A G s,A G 0,A G 0] 93;simp only [YN] at b;have a:=E b;clear b;go_enter func187,ntmps187;go_wp2;have f:=a.o.cell 0;have g:=a.o.cell 1;have h:=a.o.cell 2;have i:=a.o.cell 3;have j:=a.o.cell 4;simp at f g h i j;refine YD (by simp [YU,results187,go_sem,f,g,h,i,j];try rfl) rfl ?_;exact⟨rfl,N⟩
 .simp only at c p m n k
  subst c;subst k;have b:=ai.new (l.alloc (M #[A G 49,A G q,A G s,A G r,A G 0] 93)) #[A G 49,A G q,A G s,A G r,A G 0] 93;simp only [YN] at b;have a:=E b;clear b;go_enter func187,ntmps187;go_wp2;have f:=a.o.cell 0;have g:=a.o.cell 1;have h:=a.o.cell 2;have i:=a.o.cell 3;have j:=a.o.cell 4;simp at f g h i j;refine YD (by simp [YU,results187,go_sem,f,g,h,i,j];try rfl) rfl ?_;exact⟨rfl,N⟩
 .simp only at c p m n k
  subst c;subst p;subst m;subst n;have b:=ai.new (l.alloc (M #[A G 50,A G 0,A G 0,A G 0,A G t] 93)) #[A G 50,A G 0,A G 0,A G 0,A G t] 93;simp only [YN] at b;have a:=E b;clear b;go_enter func187,ntmps187;go_wp2;have f:=a.o.cell 0;have g:=a.o.cell 1;have h:=a.o.cell 2;have i:=a.o.cell 3;have j:=a.o.cell 4;simp at f g h i j;refine YD (by simp [YU,results187,go_sem,f,g,h,i,j];try rfl) rfl ?_;exact⟨rfl,N⟩
 .simp only at c p m n k
  subst c;subst m;subst k;have b:=ai.new (l.alloc (M #[A G 51,A G q,A G 0,A G r,A G 0] 93)) #[A G 51,A G q,A G 0,A G r,A G 0] 93;simp only [YN] at b;have a:=E b;clear b;go_enter func187,ntmps187;go_wp2;have f:=a.o.cell 0;have g:=a.o.cell 1;have h:=a.o.cell 2;have i:=a.o.cell 3;have j:=a.o.cell 4;simp at f g h i j;refine YD (by simp [YU,results187,go_sem,f,g,h,i,j];try rfl) rfl ?_;exact⟨rfl,N⟩
theorem ai.cL{b:V}{a:Nat}{h i j f g:Z}{k:Nat}(c:ai b a #[h,i,j,f,g] k):b.cell? a=K h/\b.cell? ⟨a,1,I⟩=K i/\b.cell? ⟨a,2,I⟩=K j/\b.cell? ⟨a,3,I⟩=K f/\b.cell? ⟨a,4,I⟩=K g:=
 ⟨c.cell 0,c.cell 1,c.cell 2,c.cell 3,c.cell 4⟩
theorem ai.bw{f:V}{b:Nat}{c:Array Z}{a:Nat}(g:ai f b c a):ai f.drew b c a:=g
theorem nO.kind{b:aU}(a:nO b):lD (b.kind:Int)=true:=by
 unfold nO at a;unfold lD
 rcases a with a|a|a|a<;>rw [a.1]<;>decide
theorem vI(f:aU)(a:V)(l:nO f):
  d prog 139 #[f.val] a λc b=>c=e (.bool true)/\X a a b:=by
 have s:=E (λa=>by have:=iR (f.kind:Int) a;rw [l.kind] at this;exact this);have r:=E (λa=>JH f a l);have t:=E (λa=>Q_ f a l);clear l;obtain⟨h,k,j,i,g⟩:=f;have c:aU.val ⟨h,k,j,i,g⟩=Yc #[A G h,A G k,A G j,A G i,A G g]:=rfl;rw [c] at r t⊢;simp only at s;clear c;have p:=E (ai.new a #[A G h,A G k,A G j,A G i,A G g] 93);have u:=E (p.o.bw.cL);have D:a.heap.size<(a.alloc (M #[A G h,A G k,A G j,A G i,A G g] 93)).heap.size:=Y;go_enter func139,ntmps139;go_wp2
 go_region_held3 (λb=>b.cell? a=K (A G h)/\b.cell? ⟨a,1,I⟩=K (A G k)/\b.cell? ⟨a,2,I⟩=K (A G j)/\b.cell? ⟨a,3,I⟩=K (A G i)/\b.cell? ⟨a,4,I⟩=K (A G g))
  (first|with_reducible exact u.o|with_reducible exact y.o|with_reducible exact z.o|exact u.o)
  (first
   |(go_at_call 187;with_reducible refine(t.o _).mono ?_;rintro c F ⟨rfl,n⟩;have v:=E (q.o.ext n);have z:=E v.o.cL;have x:=E (ext w.o n);clear n)
   |(go_at_call 186;with_reducible refine(r.o _).mono ?_;rintro c C ⟨rfl,m⟩;have q:=E (p.o.bw.ext m);have y:=E q.o.cL;have w:=E (show X a a C from ext N m);clear m)
   |(go_at_call 136;with_reducible refine(s.o _).mono ?_;rintro c b ⟨rfl,rfl⟩))
 all_goals go_wp2
 all_goals go_returns
 all_goals exact⟨rfl,x.o⟩
theorem ug(b:V)(a:UInt8):(b.alloc (M #[A Yf (a.toNat:Int)] 5)).ownsRow b 5 1 (U (K b) 1 1) ([a]:Bs).length (ak [a]):=
 World.ownsRow_lit b #[A Yf (a.toNat:Int)] 1 (Yk _) (by simp [YO]) Y
def nQ(b:Bs)(a:V)(g:Ending)(f:V):Prop:=∃c,g=e c/\f.ownsRow a 5 1 c b.length (ak b)/\X a a f
theorem xN(g f c a:Nat)(b:V):
  d prog 137 #[aU.val ⟨50,g,f,c,a⟩] b λi j=>nQ [Ym a] b i j:=by
 show d prog 137 #[Yc #[A G 50,A G g,A G f,A G c,A G a]] b _
 have l:=wrap_u8 a;generalize Ym a=k at*;have h:=E (ug (b.alloc (M #[A G 50,A G g,A G f,A G c,A G a] 93)) k);go_enter func137,ntmps137;go_wp2;go_returns;exact⟨_,rfl,by simpa using aA h.o Y,N⟩
theorem uO(c f v t:Nat)(b:V):
  d prog 137 #[aU.val ⟨48,c,f,v,t⟩] b λl j=>nQ (g_ c++[Ym f]) b l j:=by
 show d prog 137 #[Yc #[A G 48,A G c,A G f,A G v,A G t]] b _
 have b4:=wrap_u8 f;generalize Ym f=k at*;have i:=E (ai.new b #[A G 48,A G c,A G f,A G v,A G t] 93)
 have a2:=E (λ(g:V) (D:b.heap.size<=g.heap.size)=>show d prog 185 #[U I 0 0,A G c] g λl j=>∃s cap,l=e (U s 4 cap)/\j.ownsRow g 5 1 (U s 4 cap) (g_ c).length (ak (g_ c))/\X g g j from by
  refine(Cb (U I 0 0) [] c g g (YC _ _ _ 1) (Yk _) Y).mono ?_;rintro l j ⟨b5,rfl,x,b3⟩;rw [List.nil_append] at x;obtain⟨s,cap,rfl⟩:=aK x
  exact⟨s,cap,rfl,x,b3⟩)
 obtain⟨a,u⟩:∃a,b.alloc (M #[A G 48,A G c,A G f,A G v,A G t] 93)=a:=⟨_,rfl⟩;have L:=E (show X b b a from by rw [<-u];go_grown);rw [u] at i;have a7:=E (show a.drew.cell? ⟨b,1,I⟩=K (A G c)/\a.drew.cell? ⟨b,2,I⟩=K (A G f) from⟨i.o.cell 1,i.o.cell 2⟩);have a6:=E u;clear u;have P:=E (show(g_ c).length=4 from rfl);go_enter func137,ntmps137;go_wp2;rw [a6.o];have b0:=E (show(a.alloc (M #[A Yf (k.toNat:Int)] 5)).drew.cell? ⟨b,1,I⟩=K (A G c)/\(a.alloc (M #[A Yf (k.toNat:Int)] 5)).drew.cell? ⟨b,2,I⟩=K (A G f) from⟨(Ys _ _ ⟨b,1,I⟩ i.o.lt).trans (i.o.cell 1),(Ys _ _ ⟨b,2,I⟩ i.o.lt).trans (i.o.cell 2)⟩);have r:=E (λ(g:V) (D:X a a g)=>show g.cell? ⟨b,1,I⟩=K (A G c)/\g.cell? ⟨b,2,I⟩=K (A G f) from⟨(i.o.ext D).cell 1,(i.o.ext D).cell 2⟩);have a3:=L.o.size
 go_region_held3 (λj=>j.cell? ⟨b,1,I⟩=K (A G c)/\j.cell? ⟨b,2,I⟩=K (A G f))
  (first|with_reducible exact a7.o|with_reducible exact b0.o|with_reducible exact a8.o|with_reducible exact a9.o|with_reducible exact T.o)
  (first
   |(refine cQ (by rfl) _ _ (by rfl) a (U W 4 a0) (U (K w) 1 1) (g_ c) [k] (by rfl) (aG (aA q.o Y) N) (by rfl) (aq (ug w k)) (by rw [P.o];simp) (Yl h.o.size Y) ?_;intro b1 b2 J n m y;have R:=E n;have p:=E (show X a a J from(h.o.alloc h.o.size _).grown m (Yl h.o.size Y) (λF C=>Yl Y (q.o.lt F C).1));have T:=E (r.o _ p.o);clear n m y)
   |(refine cQ (by rfl) _ _ (by rfl) a (U W 4 a0) (U (K a) 1 1) (g_ c) [k] (by rfl) (aA q.o Y) (by rfl) ((aq (ug a k)).ext (ext ((Yn _ _).drew) a5.o)) (by rw [P.o];simp) (Yl h.o.size Y) ?_;intro b1 b2 J n m y;have R:=E n;have p:=E (show X a a J from h.o.grown m (Yl h.o.size Y) (λF C=>Yl Y (q.o.lt F C).1));have T:=E (r.o _ p.o);clear n m y)
   |(go_at_call 185;refine(a2.o _ (by simp;omega)).mono ?_;rintro l w ⟨W,a0,rfl,a1,z⟩;have q:=E a1;have a5:=E z;have h:=E (show X a a w from ext (by first|exact(Yn _ _).drew|go_grown) z);have a8:=E (r.o _ h.o);have a9:=E (r.o (w.alloc (M #[A Yf (k.toNat:Int)] 5)) (h.o.alloc h.o.size _));clear a1 z))
 all_goals go_wp2
 all_goals go_returns
 all_goals exact⟨_,rfl,aA R.o a3,ext L.o p.o⟩
theorem nj(f:Nat)(c:Nat):∀(g:Option Yi) (j cap:Nat) (a:Bs) (b:V),b.ownsRow c 5 1 (U g j cap) a.length (ak a)->c<=b.heap.size->a.length<=1000000->
  d prog 185 #[U g j cap,A G f] b λm l=>∃h i,m=e (U h (a.length+4) i)/\l.ownsRow c 5 1 (U h (a.length+4) i) (a++g_ f).length (ak (a++g_ f))/\X c b l:=by
 intro g j cap a b n o p;refine(Cb (U g j cap) a f c b n o p).mono ?_;rintro m l ⟨s,rfl,k,q⟩;obtain⟨h,i,rfl⟩:=aK k
 have r:(a++g_ f).length=a.length+4:=by rw [Yq];rfl
 rw [r] at k⊢;exact⟨h,i,rfl,k,q⟩
theorem AF(f p b m:Nat)(g:V):
  d prog 137 #[aU.val ⟨51,f,p,b,m⟩] g λi h=>nQ (g_ b++g_ f) g i h:=by
 show d prog 137 #[Yc #[A G 51,A G f,A G p,A G b,A G m]] g _
 have q:=E (ai.new g #[A G 51,A G f,A G p,A G b,A G m] 93);obtain⟨a,n⟩:∃a,g.alloc (M #[A G 51,A G f,A G p,A G b,A G m] 93)=a:=⟨_,rfl⟩;have v:=E (show X g g a from by rw [<-n];go_grown);rw [n] at q;have s:=E (λ(c:V) (j:X a a c)=>show c.cell? ⟨g,3,I⟩=K (A G b)/\c.cell? ⟨g,1,I⟩=K (A G f) from⟨(q.o.ext j).cell 3,(q.o.ext j).cell 1⟩);have W:=E (s.o a.drew (Yn _ _).drew);have F:=E (λ(c:V) (j:X a a c)=>show d prog 185 #[U I 0 0,A G b] c λi h=>∃k l,i=e (U k 4 l)/\h.ownsRow a 5 1 (U k 4 l) (g_ b).length (ak (g_ b))/\X a c h from nj b a I 0 0 [] c (YC _ _ _ 1) j.size Y);have J:=E (λ(t:Option Yi) (cap:Nat) (c:V) (j:X a a c) (a5:c.ownsRow a 5 1 (U t 4 cap) (g_ b).length (ak (g_ b)))=>show d prog 185 #[U t 4 cap,A G f] c λi h=>∃k l,i=e (U k 8 l)/\h.ownsRow a 5 1 (U k 8 l) (g_ b++g_ f).length (ak (g_ b++g_ f))/\X a c h from nj f a t 4 cap (g_ b) c a5 j.size (by show 4<=1000000;omega));have T:=E n;clear n;go_enter func137,ntmps137;go_wp2;rw [T.o];have L:=v.o.size
 go_region_held3 (λh=>h.cell? ⟨g,3,I⟩=K (A G b)/\h.cell? ⟨g,1,I⟩=K (A G f))
  (first|with_reducible exact W.o|with_reducible exact a0.o|with_reducible exact a1.o)
  (first
   |(go_at_call 185;with_reducible refine(J.o a2 a3 u r.o P.o).mono ?_;rintro i D ⟨a6,a7,rfl,C,y⟩;have R:=E C;have w:=E (show X a a D from r.o.trans y);have a1:=E (s.o D w.o);clear C y)
   |(go_at_call 185;refine(F.o _ (by first|exact(Yn _ _).drew|exact Yn _ _)).mono ?_;rintro i u ⟨a2,a3,rfl,z,x⟩;have P:=E z;have r:=E (show X a a u from(Yn _ _).drew.trans x);have a0:=E (s.o u r.o);clear z x))
 all_goals go_wp2
 all_goals go_returns
 all_goals exact⟨_,rfl,aA R.o L,ext v.o w.o⟩
theorem xM(h l b r:Nat)(g:V):
  d prog 137 #[aU.val ⟨49,h,l,b,r⟩] g λk i=>nQ ([Ym l]++g_ b++g_ h) g k i:=by
 show d prog 137 #[Yc #[A G 49,A G h,A G l,A G b,A G r]] g _
 have c0:=wrap_u8 l;generalize Ym l=f at*;have s:=E (ai.new g #[A G 49,A G h,A G l,A G b,A G r] 93);obtain⟨a,q⟩:∃a,g.alloc (M #[A G 49,A G h,A G l,A G b,A G r] 93)=a:=⟨_,rfl⟩;have z:=E (show X g g a from by rw [<-q];go_grown);rw [q] at s;have D:=E (ug a f)
 have x:a.heap.size=g.heap.size+1:=by rw [<-q];simp
 have v:=E (λ(c:V) (m:X a a c)=>show c.cell? ⟨g,3,I⟩=K (A G b)/\c.cell? ⟨g,1,I⟩=K (A G h) from⟨(s.o.ext m).cell 3,(s.o.ext m).cell 1⟩);have a2:=E (λ(j:Option Yi) (cap:Nat) (c:V) (m:X a a c) (w:c.ownsRow a 5 1 (U j 1 cap) ([f]:Bs).length (ak [f]))=>show d prog 185 #[U j 1 cap,A G b] c λk i=>∃n p,k=e (U n 5 p)/\i.ownsRow a 5 1 (U n 5 p) ([f]++g_ b).length (ak ([f]++g_ b))/\X a c i from nj b a j 1 cap [f] c w m.size Y);have a3:=E (λ(j:Option Yi) (cap:Nat) (c:V) (m:X a a c) (w:c.ownsRow a 5 1 (U j 5 cap) ([f]++g_ b).length (ak ([f]++g_ b)))=>show d prog 185 #[U j 5 cap,A G h] c λk i=>∃n p,k=e (U n 9 p)/\i.ownsRow a 5 1 (U n 9 p) ([f]++g_ b++g_ h).length (ak ([f]++g_ b++g_ h))/\X a c i from nj h a j 5 cap ([f]++g_ b) c w m.size (by show 5<=1000000;omega));have a9:=E q;have b7:=E x;rw [x] at D;clear q x;go_enter func137,ntmps137
 go_wp2_with (at_builtin;rw [a9.o];refine eA rfl (.tmp 25) (.tmp 29) rfl a.heap.size (U I 0 0) (U (K ⟨g.heap.size+1,0,I⟩) 1 1) [] [f] rfl (YC _ _ _ 1) rfl (aq D.o) Y Y ?_;intro F J w0 a0 R b5;have a6:=E (show w0.ownsRow a 5 1 (U F 1 J) ([f]:Bs).length (ak [f]) from a0);have t:=E (show X a a w0 from((Yn _ _).alloc (Yk _) _).grown R Y (λc1 b6=>by cases b6));clear a0 R b5)
 have b0:=E (v.o w0.drew t.o.drew);have a5:=z.o.size
 go_region_held3 (λi=>i.cell? ⟨g,3,I⟩=K (A G b)/\i.cell? ⟨g,1,I⟩=K (A G h))
  (first|with_reducible exact b0.o|with_reducible exact b1.o|with_reducible exact b2.o)
  (first
   |(go_at_call 185;with_reducible refine(a3.o b3 b4 y u.o a7.o).mono ?_;rintro k a1 ⟨b8,b9,rfl,W,P⟩;have a8:=E W;have C:=E (show X a a a1 from u.o.trans P);have b2:=E (v.o a1 C.o);clear W P)
   |(go_at_call 185;refine(a2.o F J _ t.o.drew a6.o).mono ?_;rintro k y ⟨b3,b4,rfl,T,L⟩;have a7:=E T;have u:=E (show X a a y from t.o.drew.trans L);have b1:=E (v.o y u.o);clear T L))
 all_goals go_wp2
 all_goals go_returns
 all_goals exact⟨_,rfl,aA a8.o a5,ext z.o C.o⟩
theorem Na(h:aU)(a:V)(k:nO h):d prog 137 #[h.val] a λj l=>nQ (dL h) a j l:=by
 obtain⟨m,i,g,f,c⟩:=h;unfold dL
 rcases k with⟨b,_⟩|⟨b,_⟩|⟨b,_⟩|⟨b,_⟩
 all_goals
  simp only at b;subst b
 .exact uO i g f c a
 .exact xM i g f c a
 .exact xN i g f c a
 .exact AF i g f c a
def lY(a:aU):Prop:=
 (a.kind=48/\a.sum<=4294967295/\a.number<=255/\a.length=0/\a.code=0)∨(a.kind=49/\a.sum<=4294967295/\a.number<=255/\a.length<=4294967295/\a.code=0)∨
 (a.kind=50/\a.sum=0/\a.number=0/\a.length=0/\a.code<=255)∨(a.kind=51/\a.sum<=4294967295/\a.number=0/\a.length<=4294967295/\a.code=0)
theorem yB{f:aU}(a:lY f)(c:dK f=true):nO f:=by
 unfold nO;unfold dK at c
 rcases a with⟨a,b⟩|⟨a,b⟩|⟨a,b⟩|⟨a,b⟩<;>rw [a] at c<;>simp at c<;>omega
theorem JG(h:aU)(i:V)(l:lY h)(m:dK h=false):
  d prog 186 #[h.val] i λk r=>k=e (.bool false)/\X i i r:=by
 obtain⟨n,q,p,o,j⟩:=h
 show d prog 186 #[Yc #[A G n,A G q,A G p,A G o,A G j]] i _
 rcases l with⟨a,b,c,f,g⟩|⟨a,b,c,f,g⟩|⟨a,b,c,f,g⟩|⟨a,b,c,f,g⟩
 all_goals
  simp only at a b c f g;subst a;simp [dK] at m;go_enter func186,ntmps186;go_wp2
  all_goals go_returns
  all_goals refine⟨?_,N⟩
  all_goals simp<;>omega
theorem SW(g:aU)(b:V)(a:lY g)(w:dK g=false):
  d prog 139 #[g.val] b λh f=>h=e (.bool false)/\X b b f:=by
 have x:lD (g.kind:Int)=true:=by unfold lY at a;unfold lD;rcases a with a|a|a|a<;>rw [a.1]<;>decide
 have u:=E (λb=>by have:=iR (g.kind:Int) b;rw [x] at this;exact this);have t:=E (λb=>JG g b a w);clear a w x;obtain⟨l,p,n,m,j⟩:=g;have h:aU.val ⟨l,p,n,m,j⟩=Yc #[A G l,A G p,A G n,A G m,A G j]:=rfl;rw [h] at t⊢;simp only at u;clear h;have s:=E (ai.new b #[A G l,A G p,A G n,A G m,A G j] 93);have C:=E (s.o.bw.cL);have J:b.heap.size<(b.alloc (M #[A G l,A G p,A G n,A G m,A G j] 93)).heap.size:=Y;go_enter func139,ntmps139;go_wp2;refine wp_region_held_drew (S:=λf=>f.cell? b=K (A G l)/\f.cell? ⟨b,1,I⟩=K (A G p)/\f.cell? ⟨b,2,I⟩=K (A G n)/\f.cell? ⟨b,3,I⟩=K (A G m)/\f.cell? ⟨b,4,I⟩=K (A G j)) B C.o (λhHeld=>?_);refine YH (i:=0) (v:=?_) rfl B B B (λ_ _ _ a=>a) (Yg ⟨by rfl,?_⟩) Zd ?_;rotate_left
 ·(intro b c;(try dsimp only at c);go_simp;try with_reducible rfl)
 try simp only [YK,YE,YF,Act.put,Yw,YJ,YL]
 refine YH (i:=1) (v:=?_) rfl B B B (λ_ _ _ a=>a) (Yg ⟨by rfl,?_⟩) Zd ?_;rotate_left
 ·(intro b c;(try dsimp only at c);go_simp;try with_reducible rfl)
 try simp only [YK,YE,YF,Act.put,Yw,YJ,YL]
 refine wpAnyH_ready (rs:=[2]) B Y ?_;refine AllReadyH.cons rfl (λq k=>?_) AllReadyH.nil;go_simp
 (go_at_call 136;with_reducible refine(u.o _).mono ?_;rintro h f ⟨rfl,rfl⟩)
 go_wp2_with fail
 refine k.out _ _ Zd (λhHeld=>?_);clear k q
 try simp only [YK,YE,YF,Act.put,Yw,YJ,YL]
 refine YH (i:=3) (v:=?_) rfl B B B (λ_ _ _ a=>a) (Yg ⟨by rfl,?_⟩) Zd ?_;rotate_left
 ·(intro b c;(try dsimp only at c);go_simp;try with_reducible rfl)
 try simp only [YK,YE,YF,Act.put,Yw,YJ,YL]
 refine YH (i:=4) (v:=?_) rfl B B B (λ_ _ _ a=>a) (Yg ⟨by rfl,?_⟩) Zd ?_;rotate_left
 ·(intro b c;(try dsimp only at c);go_simp;try with_reducible rfl)
 try simp only [YK,YE,YF,Act.put,Yw,YJ,YL]
 refine wpAnyH_ready (rs:=[5]) B Y ?_;refine AllReadyH.cons rfl (λq k=>?_) AllReadyH.nil;go_simp
 (go_at_call 186;with_reducible refine(t.o _).mono ?_;rintro h F ⟨rfl,r⟩;have y:=E (s.o.bw.ext r);have D:=E y.o.cL;have z:=E (show X b b F from ext N r);clear r)
 go_wp2_with fail
 refine k.out _ _ D.o (λhHeld=>?_);clear k q
 try simp only [YK,YE,YF,Act.put,Yw,YJ,YL]
 refine YH (i:=6) (v:=?_) rfl B B B (λ_ _ _ a=>a) (Yg ⟨by rfl,?_⟩) Zd ?_;rotate_left
 ·(intro b c;(try dsimp only at c);go_simp;try with_reducible rfl)
 try simp only [YK,YE,YF,Act.put,Yw,YJ,YL]
 refine YH (i:=7) (v:=?_) rfl B B B (λ_ _ _ a=>a) (Yg ⟨by rfl,?_⟩) Zd ?_;rotate_left
 ·(intro b c;(try dsimp only at c);go_simp;try with_reducible rfl)
 try simp only [YK,YE,YF,Act.put,Yw,YJ,YL]
 refine YH (i:=8) (v:=undef) rfl B B B (λ_ _ _ a=>a) (Or.inr ⟨by rfl,rfl⟩) Zd ?_
 try simp only [YK,YE,YF,Act.put,Yw,YJ,YL]
 refine YH (i:=9) (v:=undef) rfl B B B (λ_ _ _ a=>a) (Or.inr ⟨by rfl,rfl⟩) Zd ?_
 try simp only [YK,YE,YF,Act.put,Yw,YJ,YL]
 refine YH (i:=10) (v:=undef) rfl B B B (λ_ _ _ a=>a) (Or.inr ⟨by rfl,rfl⟩) Zd ?_
 try simp only [YK,YE,YF,Act.put,Yw,YJ,YL]
 refine YH (i:=11) (v:=undef) rfl B B B (λ_ _ _ a=>a) (Or.inr ⟨by rfl,rfl⟩) Zd ?_
 try simp only [YK,YE,YF,Act.put,Yw,YJ,YL]
 refine YH (i:=12) (v:=?_) rfl B B B (λ_ _ _ a=>a) (Yg ⟨by rfl,?_⟩) Zd ?_;rotate_left
 ·(intro b c;(try dsimp only at c);go_simp;try with_reducible rfl)
 try simp only [YK,YE,YF,Act.put,Yw,YJ,YL]
 refine YH (i:=13) (v:=?_) rfl B B B (λ_ _ _ a=>a) (Yg ⟨by rfl,?_⟩) Zd ?_;rotate_left
 ·(intro b c;(try dsimp only at c);go_simp;try with_reducible rfl)
 try simp only [YK,YE,YF,Act.put,Yw,YJ,YL]
 refine wpAnyH_done B ?_ _
 all_goals go_wp2
 all_goals go_returns
 all_goals exact⟨rfl,z.o⟩
theorem ub(a:aU)(b:V)(c:lY a):
  d prog 139 #[a.val] b λf g=>f=e (.bool (dK a))/\X b b g:=by
 cases hb:dK a with
 |true=>exact vI a b (yB c hb)
 |false=>exact SW a b c hb
theorem zA(a:aU)(b:V)(f:nO a):
  d prog 110 #[a.val] b λg c=>∃j,g=e (Ye #[j,Ya])/\c.ownsRow b 5 1 j (eK aF a).length (ak (eK aF a))/\X b b c:=by
 have C:=E (λb=>by have:=iR (a.kind:Int) b;rw [f.kind] at this;exact this);have D:=E (λb=>vI a b f);have u:=E (λb=>Na a b f)
 have x:1<=a.kind/\a.kind<=255:=by unfold nO at f;rcases f with f|f|f|f<;>rw [f.1]<;>decide
 have a1:(dL a).length<=65536:=by unfold dL g_;split<;>(try split)<;>(try split)<;>simp
 have q:=E (λ(j:Z) (h:V) (b4:ah h j (dL a))=>show d prog 157 #[A G (a.kind:Int),j] h λg c=>∃a6,g=e (Ye #[a6,Ya])/\c.ownsRow h 5 1 a6 (bV aF a.kind (dL a)).length (ak (bV aF a.kind (dL a)))/\X h h c from rb a.kind j (dL a) h b4 x.1 x.2 a1);obtain⟨P,w⟩:∃P,bV aF a.kind (dL a)=P:=⟨_,rfl⟩;have T:eK aF a=P:=w;rw [w] at q;rw [T];obtain⟨R,a2⟩:∃R,dL a=R:=⟨_,rfl⟩;rw [a2] at u q;clear f w T a2 a1 x;obtain⟨l,p,n,m,k⟩:=a;have g:aU.val ⟨l,p,n,m,k⟩=Yc #[A G l,A G p,A G n,A G m,A G k]:=rfl;rw [g] at D u⊢;simp only at C q;clear g;have z:=E (ai.new b #[A G l,A G p,A G n,A G m,A G k] 93);obtain⟨i,s⟩:∃i,b.alloc (M #[A G l,A G p,A G n,A G m,A G k] 93)=i:=⟨_,rfl⟩;have F:=E (show X b b i from by rw [<-s];go_grown);rw [s] at z;have r:=E (λ(h:V) (b5:X i i h)=>(z.o.ext b5).cL);have b0:=E s;clear s;go_enter func110,ntmps110
 go_wp2_with (first
  |(go_at_call 139;with_reducible refine(D.o _).mono ?_;rintro g a7 ⟨rfl,t⟩;rw [b0.o] at t;have J:=E t;obtain⟨b8,b9,c0,c1,c2⟩:=r.o a7 t;clear t)
  |(go_at_call 136;with_reducible refine(C.o _).mono ?_;rintro g c ⟨rfl,rfl⟩))
 have b1:=E (r.o a7.drew J.o.drew)
 go_region_held3 (λc=>c.cell? b=K (A G l)/\c.cell? ⟨b,1,I⟩=K (A G p)/\c.cell? ⟨b,2,I⟩=K (A G n)/\c.cell? ⟨b,3,I⟩=K (A G m)/\c.cell? ⟨b,4,I⟩=K (A G k))
  (first|with_reducible exact b1.o|with_reducible exact b2.o|with_reducible exact b3.o)
  (first
   |(go_at_call 157;with_reducible refine(q.o b6 y a9.o).mono ?_;rintro g b7 ⟨c3,rfl,a5,a0⟩;have a8:=E a5;have L:=E (ext v.o a0);have b3:=E (r.o b7 L.o);clear a5 a0)
   |(go_at_call 137;refine(u.o _).mono ?_;rintro g y ⟨b6,rfl,a3,W⟩;have a9:=E (aq (aA a3 (Yr _)));have v:=E (show X i i y from ext J.o.drew W);have b2:=E (r.o y v.o);clear a3 W))
 all_goals go_wp2
 all_goals go_returns
 all_goals exact⟨_,rfl,aA a8.o (Yl F.o.size v.o.size),ext F.o L.o⟩
def de:aU:=⟨0,0,0,0,0⟩
theorem oi(k off g cap:Nat)(a:Bs)(h:V)(i:ah h (U (K ⟨k,off,I⟩) g cap) a)(x:4<=g):
  d prog 138 #[U (K ⟨k,off,I⟩) g cap] h λt v=>t=e (A G (kW a:Int))/\X h h v:=by
 have y:h.cell? ⟨k,off,I⟩=K (A Yf ((a.getD 0 0).toNat:Int)):=i.at (j:=0) O;have u:=i.at (j:=1) O;have z:=i.at (j:=2) O;have C:=i.at (j:=3) O;have q:kW a=(a.getD 0 0).toNat*16777216+(a.getD 1 0).toNat*65536+(a.getD 2 0).toNat*256+(a.getD 3 0).toNat:=rfl;have P:=(a.getD 0 0).toNat_lt;have R:=(a.getD 1 0).toNat_lt;have T:=(a.getD 2 0).toNat_lt;have W:=(a.getD 3 0).toNat_lt;generalize (a.getD 0 0).toNat=b at*;generalize (a.getD 1 0).toNat=c at*;generalize (a.getD 2 0).toNat=f at*;generalize (a.getD 3 0).toNat=l at*;generalize kW a=s at*
 have a0:Zc G ((b:Int)*16777216)=(b:Int)*16777216:=by rw [Yo];omega
 have a1:Zc G ((c:Int)*65536)=(c:Int)*65536:=by rw [Yo];omega
 have s2:Zc G ((f:Int)*256)=(f:Int)*256:=by rw [Yo];omega
 have r:Hd (bits .or G (bits .or G (bits .or G ((b:Int)*16777216) ((c:Int)*65536)) ((f:Int)*256)) (l:Int)=(s:Int)):=E (by
  have m:=ir 24 (b*16777216) (c*65536) O O O O;have n:=ir 16 (b*16777216+c*65536) (f*256) O O O O;have p:=ir 8 (b*16777216+c*65536+f*256) l O O O O;simp only [Int.natCast_mul,Int.natCast_add] at m n p;rw [show((b:Int)*16777216)=(b:Int)*((16777216:Nat):Int) from rfl,show((c:Int)*65536)=(c:Int)*((65536:Nat):Int) from rfl,show((f:Int)*256)=(f:Int)*((256:Nat):Int) from rfl,m,n,p,q]
  simp only [Int.natCast_mul,Int.natCast_add])
 have D:0<g:=O;have F:1<g:=O;have J:2<g:=O;have L:3<g:=O;have w:=Yj h _ u;clear i q;go_enter func138,ntmps138
 go_wp2_with fail
 go_quiet (fail)
 try rw [r.o]
 go_wp2;go_returns;exact⟨rfl,by first|exact ag (Yn _ _) _|go_grown⟩
theorem ai.rE{j:V}{a:Nat}{n o p l m:Z}{i:Nat}(k:ai j a #[n,o,p,l,m] i)(f g h b c:Z):ai (((((j.setCell a f).setCell ⟨a,1,I⟩ g).setCell ⟨a,2,I⟩ h).setCell ⟨a,3,I⟩ b).setCell ⟨a,4,I⟩ c) a #[f,g,h,b,c] i:=((((k.set 0 f).set 1 g).set 2 h).set 3 b).set 4 c
theorem ai.eU{b:V}{a:Nat}{g:Array Z}{f:Nat}(c:ai b a g f):b.frozen? a=false/\b.frozen? ⟨a,1,I⟩=false/\b.frozen? ⟨a,2,I⟩=false/\b.frozen? ⟨a,3,I⟩=false/\b.frozen? ⟨a,4,I⟩=false:=⟨c.free 0,c.free 1,c.free 2,c.free 3,c.free 4⟩
theorem dO{b a:Nat}{f g:V}(h:X b f g)(c:b<=a)(k l m i j:Z):X b f (((((g.setCell a k).setCell ⟨a,1,I⟩ l).setCell ⟨a,2,I⟩ m).setCell ⟨a,3,I⟩ i).setCell ⟨a,4,I⟩ j):=
 ((((h.setCell (by show b<=a;exact c) _).setCell (by show b<=a;exact c) _).setCell (by show b<=a;exact c) _).setCell (by show b<=a;exact c) _).setCell (by show b<=a;exact c) _
def qA(a:V)(b:Ending)(f:V):Prop:=∃c g,b=e (Ye #[de.val,Yd c g])/\X a a f
def Ig(c:aU)(a:V)(b:Ending)(f:V):Prop:=b=e (Ye #[c.val,Ya])/\X a a f
theorem mf(f:aU)(g:V)(o:f.kind=48∨f.kind=49∨f.kind=50∨f.kind=51):d prog 137 #[f.val] g λh i=>∃a cap,h=e (U a (jZ f.kind) cap)/\X g g i:=by
 obtain⟨p,m,l,k,j⟩:=f;simp only at o
 rcases o with rfl|rfl|rfl|rfl
 .refine(uO m l k j g).mono ?_
  rintro h i ⟨n,rfl,b,c⟩;obtain⟨a,cap,rfl⟩:=aK b;exact⟨a,cap,rfl,c⟩
 .refine(xM m l k j g).mono ?_
  rintro h i ⟨n,rfl,b,c⟩;obtain⟨a,cap,rfl⟩:=aK b;exact⟨a,cap,rfl,c⟩
 .refine(xN m l k j g).mono ?_
  rintro h i ⟨n,rfl,b,c⟩;obtain⟨a,cap,rfl⟩:=aK b;exact⟨a,cap,rfl,c⟩
 .refine(AF m l k j g).mono ?_
  rintro h i ⟨n,rfl,b,c⟩;obtain⟨a,cap,rfl⟩:=aK b;exact⟨a,cap,rfl,c⟩
theorem FP(b at' c:Nat)(h:Z)(g:Bs)(a:V)(k:ah a h g)(j:lD (b:Int)=false):
  d prog 93 #[Yc #[A G b,h,A G at',A G c]] a λi m=>qA a i m:=by
 obtain⟨f,cap,rfl⟩:=k.shape;generalize g.length=l;clear k;have p:=E (λa=>by have:=iR (b:Int) a;rw [j] at this;exact this)
 have n:Hd (ai ((a.alloc (M #[A G b,U f l cap,A G at',A G c] 171)).alloc (M #[A G 0,A G 0,A G 0,A G 0,A G 0] 93)) (a.heap.size+1) #[A G 0,A G 0,A G 0,A G 0,A G 0] 93):=E (by
  have:=ai.new (a.alloc (M #[A G b,U f l cap,A G at',A G c] 171)) #[A G 0,A G 0,A G 0,A G 0,A G 0] 93
  simpa only [YN] using this)
 clear j;go_enter func93,ntmps93
 go_wp2_with (go_at_call 136;with_reducible refine(p.o _).mono ?_;rintro i m ⟨rfl,rfl⟩)
 obtain⟨q,r,s,t,u⟩:=n.o.cL;refine YD (by simp [YU,results93,go_sem,q,r,s,t,u];try rfl) rfl ?_;exact⟨_,_,rfl,N⟩
theorem Lg(a at' f:Nat)(q:Z)(j:Bs)(b:V)(l:ah b q j)(s:j.length<=100000)(p:a=48∨a=49∨a=50∨a=51)(u:j.length≠jZ a):
  d prog 93 #[Yc #[A G a,q,A G at',A G f]] b λn w=>qA b n w:=by
 have t:lD (a:Int)=true:=by unfold lD;rcases p with rfl|rfl|rfl|rfl<;>decide
 have D:=E (λb=>by have:=iR (a:Int) b;rw [t] at this;exact this);have i:=E (λa0=>mf ⟨a,0,0,0,0⟩ a0 p);have r:aU.val ⟨a,0,0,0,0⟩=Yc #[A G a,A G 0,A G 0,A G 0,A G 0]:=rfl;rw [r] at i;simp only at i;clear r;obtain⟨g,cap,rfl⟩:=l.shape;obtain⟨c,k⟩:∃c,j.length=c:=⟨_,rfl⟩;rw [k] at l s⊢;have y:Hd (ai (((b.alloc (M #[A G a,U g c cap,A G at',A G f] 171)).alloc (M #[A G 0,A G 0,A G 0,A G 0,A G 0] 93)).alloc (M #[A G a,A G 0,A G 0,A G 0,A G 0] 93)) b #[A G a,U g c cap,A G at',A G f] 171):=E (((ai.new b #[A G a,U g c cap,A G at',A G f] 171).alloc _).alloc _)
 have C:Hd (ai (((b.alloc (M #[A G a,U g c cap,A G at',A G f] 171)).alloc (M #[A G 0,A G 0,A G 0,A G 0,A G 0] 93)).alloc (M #[A G a,A G 0,A G 0,A G 0,A G 0] 93)) (b.heap.size+1) #[A G 0,A G 0,A G 0,A G 0,A G 0] 93):=E (by
  have:=(ai.new (b.alloc (M #[A G a,U g c cap,A G at',A G f] 171)) #[A G 0,A G 0,A G 0,A G 0,A G 0] 93).alloc (M #[A G a,A G 0,A G 0,A G 0,A G 0] 93)
  simpa only [YN] using this)
 have x:Hd (ai (((b.alloc (M #[A G a,U g c cap,A G at',A G f] 171)).alloc (M #[A G 0,A G 0,A G 0,A G 0,A G 0] 93)).alloc (M #[A G a,A G 0,A G 0,A G 0,A G 0] 93)) (b.heap.size+2) #[A G a,A G 0,A G 0,A G 0,A G 0] 93):=E (by
  have:=ai.new ((b.alloc (M #[A G a,U g c cap,A G at',A G f] 171)).alloc (M #[A G 0,A G 0,A G 0,A G 0,A G 0] 93)) #[A G a,A G 0,A G 0,A G 0,A G 0] 93
  simpa only [YN] using this)
 have a3:=E l;have a2:=E k;rw [k] at u;have v:¬(c:Int)=((jZ a:Nat):Int):=O
 have J:((c:Int)==((jZ a:Nat):Int))=false:=by simpa using v
 generalize jZ a=b7 at u v J i;clear l k t p s;go_enter func93,ntmps93
 go_wp2_with (first
  |(go_at_call 137;with_reducible refine(i.o _).mono ?_;rintro n b6 ⟨a5,a6,rfl,h⟩;have F:=E h;have z:=E (y.o.ext h);have m:=E (C.o.ext h);have a1:=E (x.o.ext h);obtain⟨⟨b2,b3,b4,b5⟩, -⟩:=z.o.four;obtain⟨b8,b9,c0,c1,c2⟩:=m.o.cL;obtain⟨a7,a8,a9,b0,b1⟩:=m.o.eU;clear h)
  |(go_at_call 136;with_reducible refine(D.o _).mono ?_;rintro n w ⟨rfl,rfl⟩))
 obtain⟨L,P,R,T,W⟩:=(m.o.rE (A G 0) (A G 0) (A G 0) (A G 0) (A G 0)).cL;refine YD (by simp [YU,results93,go_sem,L,P,R,T,W];try rfl) rfl ?_;exact⟨_,_,rfl,dO (ext N F.o) (Nat.le_succ _) _ _ _ _ _⟩
def ur(f:Bool)(g:aU)(b:V)(a:Ending)(c:V):Prop:=match f with|true=>Ig g b a c|false=>qA b a c
theorem kv{i:V}{f off h cap:Nat}{b:Bs}(g:ah i (U (K ⟨f,off,I⟩) h cap) b){a m:Nat}(q:a+m=h):ah i (U (K ⟨f,off+a,I⟩) m (cap - a)) (b.drop a):=by
 have:=g.sub (a:=a) (m:=m) O
 rwa [List.take_of_length_le] at this
 obtain⟨j,k,c,l,n,o,p⟩:=g;simp only [Yy] at c;obtain⟨rfl,rfl,rfl⟩:=c;rw [List.length_drop];omega
theorem OK(at' l:Nat)(b7:Z)(i:Bs)(a:V)(P:ah a b7 i)(c5:i.length=1):
  d prog 93 #[Yc #[A G 50,b7,A G at',A G l]] a λq a6=>ur (dK (jC 50 i)) (jC 50 i) a q a6:=by
 obtain⟨c,off,cap,rfl,c4,g1⟩:=P.ft O;rw [c5] at P c4⊢;have b6:=E (λa=>by have:=iR (50:Int) a;rw [(H:lD (50:Int)=true)] at this;exact this);have F:=E (λa7=>mf ⟨50,0,0,0,0⟩ a7 Y);have r:aU.val ⟨50,0,0,0,0⟩=Yc #[A G 50,A G 0,A G 0,A G 0,A G 0]:=rfl;rw [r] at F;simp only [jZ] at F;clear r;have b4:Hd (ai (((a.alloc (M #[A G 50,U (K ⟨c,off,I⟩) 1 cap,A G at',A G l] 171)).alloc (M #[A G 0,A G 0,A G 0,A G 0,A G 0] 93)).alloc (M #[A G 50,A G 0,A G 0,A G 0,A G 0] 93)) a #[A G 50,U (K ⟨c,off,I⟩) 1 cap,A G at',A G l] 171):=E (((ai.new a #[A G 50,U (K ⟨c,off,I⟩) 1 cap,A G at',A G l] 171).alloc _).alloc _)
 have b5:Hd (ai (((a.alloc (M #[A G 50,U (K ⟨c,off,I⟩) 1 cap,A G at',A G l] 171)).alloc (M #[A G 0,A G 0,A G 0,A G 0,A G 0] 93)).alloc (M #[A G 50,A G 0,A G 0,A G 0,A G 0] 93)) (a.heap.size+1) #[A G 0,A G 0,A G 0,A G 0,A G 0] 93):=E (by
  have:=(ai.new (a.alloc (M #[A G 50,U (K ⟨c,off,I⟩) 1 cap,A G at',A G l] 171)) #[A G 0,A G 0,A G 0,A G 0,A G 0] 93).alloc (M #[A G 50,A G 0,A G 0,A G 0,A G 0] 93)
  simpa only [YN] using this)
 have b3:Hd (ai (((a.alloc (M #[A G 50,U (K ⟨c,off,I⟩) 1 cap,A G at',A G l] 171)).alloc (M #[A G 0,A G 0,A G 0,A G 0,A G 0] 93)).alloc (M #[A G 50,A G 0,A G 0,A G 0,A G 0] 93)) (a.heap.size+1+1) #[A G 50,A G 0,A G 0,A G 0,A G 0] 93):=E (by
  have:=ai.new ((a.alloc (M #[A G 50,U (K ⟨c,off,I⟩) 1 cap,A G at',A G l] 171)).alloc (M #[A G 0,A G 0,A G 0,A G 0,A G 0] 93)) #[A G 50,A G 0,A G 0,A G 0,A G 0] 93
  simpa only [YN] using this)
 have R:a.cell? ⟨c,off,I⟩=K (A Yf ((i.getD 0 0).toNat:Int)):=P.at (j:=0) O;have c7:=(i.getD 0 0).toNat_lt;have b8:jC 50 i=⟨50,0,0,0,(i.getD 0 0).toNat⟩:=rfl;rw [b8];clear b8 P;generalize (i.getD 0 0).toNat=b at R c7⊢
 have g0:Zc G (b:Int)=(b:Int):=by rw [Yo];omega
 have J:=E (λa7=>ub ⟨50,0,0,0,b⟩ a7 (by unfold lY;simp;omega));have r:aU.val ⟨50,0,0,0,b⟩=Yc #[A G 50,A G 0,A G 0,A G 0,A G b]:=rfl;rw [r] at J;clear r;have L:c<a.heap.size:=Yj a _ R;generalize c3:dK ⟨50,0,0,0,b⟩=c1 at J⊢;clear c3;cases c1
 .go_enter func93,ntmps93
  go_wp2_with (first
   |(go_at_call 137;with_reducible refine(F.o _).mono ?_;rintro q g ⟨c0,c2,rfl,f⟩;have b9:=E f;have a0:=E (b4.o.ext f);have a1:=E (b5.o.ext f);have h:=E (b3.o.ext f);obtain⟨⟨c9,e0,e1,e2⟩, -⟩:=a0.o.four;obtain⟨x,y,z,C,D⟩:=h.o.cL;obtain⟨s,t,u,v,w⟩:=h.o.eU;have n:=E (show X a a g from ext N f);have c8:a.heap.size+1+1<g.heap.size:=h.o.lt;clear f;have e4:=(n.o.cell (p:=⟨c,off,I⟩) L).trans R;have c6:c<g.heap.size:=Yv L n.o.size)
   |(go_at_call 136;with_reducible refine(b6.o _).mono ?_;rintro q a6 ⟨rfl,rfl⟩))
  have a2:=E (a1.o.ab ⟨a.heap.size+1+1,4,I⟩ (A G b) (by show a.heap.size+1≠a.heap.size+1+1;omega));have T:=E (show ai (g.setCell ⟨a.heap.size+1+1,4,I⟩ (A G b)) (a.heap.size+1+1) #[A G 50,A G 0,A G 0,A G 0,A G b] 93 from h.o.set 4 (A G b));have a3:=E (show X a a (g.setCell ⟨a.heap.size+1+1,4,I⟩ (A G b)) from n.o.setCell (by show a.heap.size<=a.heap.size+1+1;omega) _)
  all_goals try go_wp2_with fail
  all_goals
   refine(J.o _).mono ?_;rintro q e3 ⟨rfl,k⟩;have a5:=E (ext a3.o k);have m:=E (a2.o.ext k);have W:=E (T.o.ext k);clear k x y z C D s t u v w;obtain⟨e5,e6,e7,e8,e9⟩:=m.o.cL;obtain⟨s,t,u,v,w⟩:=m.o.eU;obtain⟨x,y,z,C,D⟩:=W.o.cL;go_wp2;obtain⟨a8,a9,b0,b1,b2⟩:=(m.o.rE (A G 0) (A G 0) (A G 0) (A G 0) (A G 0)).cL;refine YD (by simp [YU,results93,go_sem,a8,a9,b0,b1,b2];try rfl) rfl ?_;exact⟨_,_,rfl,dO a5.o O _ _ _ _ _⟩
 .go_enter func93,ntmps93
  go_wp2_with (first
   |(go_at_call 137;with_reducible refine(F.o _).mono ?_;rintro q g ⟨c0,c2,rfl,f⟩;have b9:=E f;have a0:=E (b4.o.ext f);have a1:=E (b5.o.ext f);have h:=E (b3.o.ext f);obtain⟨⟨c9,e0,e1,e2⟩, -⟩:=a0.o.four;obtain⟨x,y,z,C,D⟩:=h.o.cL;obtain⟨s,t,u,v,w⟩:=h.o.eU;have n:=E (show X a a g from ext N f);have c8:a.heap.size+1+1<g.heap.size:=h.o.lt;clear f;have e4:=(n.o.cell (p:=⟨c,off,I⟩) L).trans R;have c6:c<g.heap.size:=Yv L n.o.size)
   |(go_at_call 136;with_reducible refine(b6.o _).mono ?_;rintro q a6 ⟨rfl,rfl⟩))
  have a2:=E (a1.o.ab ⟨a.heap.size+1+1,4,I⟩ (A G b) (by show a.heap.size+1≠a.heap.size+1+1;omega));have T:=E (show ai (g.setCell ⟨a.heap.size+1+1,4,I⟩ (A G b)) (a.heap.size+1+1) #[A G 50,A G 0,A G 0,A G 0,A G b] 93 from h.o.set 4 (A G b));have a3:=E (show X a a (g.setCell ⟨a.heap.size+1+1,4,I⟩ (A G b)) from n.o.setCell (by show a.heap.size<=a.heap.size+1+1;omega) _)
  all_goals try go_wp2_with fail
  all_goals
   refine(J.o _).mono ?_;rintro q e3 ⟨rfl,k⟩;have a5:=E (ext a3.o k);have m:=E (a2.o.ext k);have W:=E (T.o.ext k);clear k x y z C D s t u v w;obtain⟨e5,e6,e7,e8,e9⟩:=m.o.cL;obtain⟨s,t,u,v,w⟩:=m.o.eU;obtain⟨x,y,z,C,D⟩:=W.o.cL;go_wp2;obtain⟨a8,a9,b0,b1,b2⟩:=(m.o.rE (A G 50) (A G 0) (A G 0) (A G 0) (A G b)).cL;refine YD (by simp [YU,results93,go_sem,a8,a9,b0,b1,b2];try rfl) rfl ?_;exact⟨rfl,dO a5.o O _ _ _ _ _⟩
theorem OI(at' T:Nat)(e6:Z)(g:Bs)(a:V)(a8:ah a e6 g)(g4:g.length=5):
  d prog 93 #[Yc #[A G 48,e6,A G at',A G T]] a λu a1=>ur (dK (jC 48 g)) (jC 48 g) a u a1:=by
 obtain⟨c,off,cap,rfl,g3,i1⟩:=a8.ft O;rw [g4] at a8 g3⊢;have e5:=E (λa=>by have:=iR (48:Int) a;rw [(H:lD (48:Int)=true)] at this;exact this);have a9:=E (λb=>mf ⟨48,0,0,0,0⟩ b Y);have a6:aU.val ⟨48,0,0,0,0⟩=Yc #[A G 48,A G 0,A G 0,A G 0,A G 0]:=rfl;rw [a6] at a9;simp only [jZ] at a9;clear a6;have e3:Hd (ai (((a.alloc (M #[A G 48,U (K ⟨c,off,I⟩) 5 cap,A G at',A G T] 171)).alloc (M #[A G 0,A G 0,A G 0,A G 0,A G 0] 93)).alloc (M #[A G 48,A G 0,A G 0,A G 0,A G 0] 93)) a #[A G 48,U (K ⟨c,off,I⟩) 5 cap,A G at',A G T] 171):=E (((ai.new a #[A G 48,U (K ⟨c,off,I⟩) 5 cap,A G at',A G T] 171).alloc _).alloc _)
 have e4:Hd (ai (((a.alloc (M #[A G 48,U (K ⟨c,off,I⟩) 5 cap,A G at',A G T] 171)).alloc (M #[A G 0,A G 0,A G 0,A G 0,A G 0] 93)).alloc (M #[A G 48,A G 0,A G 0,A G 0,A G 0] 93)) (a.heap.size+1) #[A G 0,A G 0,A G 0,A G 0,A G 0] 93):=E (by
  have:=(ai.new (a.alloc (M #[A G 48,U (K ⟨c,off,I⟩) 5 cap,A G at',A G T] 171)) #[A G 0,A G 0,A G 0,A G 0,A G 0] 93).alloc (M #[A G 48,A G 0,A G 0,A G 0,A G 0] 93)
  simpa only [YN] using this)
 have e2:Hd (ai (((a.alloc (M #[A G 48,U (K ⟨c,off,I⟩) 5 cap,A G at',A G T] 171)).alloc (M #[A G 0,A G 0,A G 0,A G 0,A G 0] 93)).alloc (M #[A G 48,A G 0,A G 0,A G 0,A G 0] 93)) (a.heap.size+1+1) #[A G 48,A G 0,A G 0,A G 0,A G 0] 93):=E (by
  have:=ai.new ((a.alloc (M #[A G 48,U (K ⟨c,off,I⟩) 5 cap,A G at',A G T] 171)).alloc (M #[A G 0,A G 0,A G 0,A G 0,A G 0] 93)) #[A G 48,A G 0,A G 0,A G 0,A G 0] 93
  simpa only [YN] using this)
 have a3:a.cell? ⟨c,off+4,I⟩=K (A Yf ((g.getD 4 0).toNat:Int)):=a8.at (j:=4) O;have g7:=(g.getD 4 0).toNat_lt;have e7:jC 48 g=⟨48,kW g,(g.getD 4 0).toNat,0,0⟩:=rfl;rw [e7];clear e7;have b7:=E (λ(b:V) (k:X a a b)=>oi c off 5 cap g b (a8.ext k) O)
 have g6:kW g<4294967296:=by unfold kW;have:=(g.getD 0 0).toNat_lt;have:=(g.getD 1 0).toNat_lt;have:=(g.getD 2 0).toNat_lt;have:=(g.getD 3 0).toNat_lt;omega
 generalize (g.getD 4 0).toNat=f at a3 g7⊢;generalize kW g=h at b7 g6⊢
 have i0:Zc G (f:Int)=(f:Int):=by rw [Yo];omega
 clear a8;have b0:=E (λb=>ub ⟨48,h,f,0,0⟩ b (by unfold lY;simp;omega));have a6:aU.val ⟨48,h,f,0,0⟩=Yc #[A G 48,A G h,A G f,A G 0,A G 0]:=rfl;rw [a6] at b0;clear a6;have a2:c<a.heap.size:=Yj a _ a3;generalize g2:dK ⟨48,h,f,0,0⟩=g0 at b0⊢;clear g2;cases g0
 .go_enter func93,ntmps93
  go_wp2_with (first
   |(go_at_call 137;with_reducible refine(a9.o _).mono ?_;rintro u n ⟨e9,g1,rfl,i⟩;have e8:=E i;have b3:=E (e3.o.ext i);have b4:=E (e4.o.ext i);have r:=E (e2.o.ext i);obtain⟨⟨g9,h0,h1,h2⟩, -⟩:=b3.o.four;obtain⟨F,J,L,P,R⟩:=r.o.cL;obtain⟨v,w,x,y,z⟩:=r.o.eU;have l:=E (show X a a n from ext N i);have c5:a.heap.size+1+1<n.heap.size:=r.o.lt;clear i;have h4:=(l.o.cell (p:=⟨c,off+4,I⟩) a2).trans a3;have g5:c<n.heap.size:=Yv a2 l.o.size)
   |(go_at_call 136;with_reducible refine(e5.o _).mono ?_;rintro u a1 ⟨rfl,rfl⟩))
  have a7:c≠a.heap.size+1+1:=O;have a0:=E (λ(b:V) (k:X a a b)=>show b.cell? ⟨c,off+4,I⟩=K (A Yf (f:Int)) from(k.cell (p:=⟨c,off+4,I⟩) a2).trans a3);have a5:=E (λ(b:V) (k:X a a b) (m:Z)=>show(b.setCell ⟨a.heap.size+1+1,1,I⟩ m).cell? ⟨c,off+4,I⟩=K (A Yf (f:Int)) from(YS (w:=b) (Yt _ _ _ _ a7)).trans (a0.o b k));have b8:=E (λ(b:V) (k:X a a b) (m c6:Z)=>show((b.setCell ⟨a.heap.size+1+1,1,I⟩ m).setCell ⟨a.heap.size+1+1,2,I⟩ c6).cell? ⟨c,off+4,I⟩=K (A Yf (f:Int)) from(YS (w:=b.setCell ⟨a.heap.size+1+1,1,I⟩ m) (Yt _ _ _ _ a7)).trans (a5.o b k m));have c1:=E (a0.o n.drew l.o.drew);clear F J L P R v w x y z c5
  go_region_held3 (λa1=>a1.cell? ⟨c,off+4,I⟩=K (A Yf (f:Int)))
   (first|with_reducible exact c1.o|with_reducible exact c2.o|with_reducible exact c3.o _|with_reducible exact c4.o _ _)
   ((go_at_call 138;refine(b7.o n.drew l.o.drew).mono ?_;rintro u q ⟨rfl,C⟩;have t:=E (ext l.o.drew C);have c2:=E (a0.o q t.o);have c3:=E (a5.o q t.o);have c4:=E (b8.o q t.o);have s:=E (r.o.bw.ext C);have b6:=E (b4.o.bw.ext C);obtain⟨F,J,L,P,R⟩:=s.o.cL;obtain⟨v,w,x,y,z⟩:=s.o.eU;have g8:=s.o.lt;clear C))
  have b1:=E (show ai ((q.setCell ⟨a.heap.size+1+1,1,I⟩ (A G h)).setCell ⟨a.heap.size+1+1,2,I⟩ (A G f)) (a.heap.size+1+1) #[A G 48,A G h,A G f,A G 0,A G 0] 93 from(s.o.set 1 (A G h)).set 2 (A G f));have b5:=E ((b6.o.ab ⟨a.heap.size+1+1,1,I⟩ (A G h) (by show a.heap.size+1≠a.heap.size+1+1;omega)).ab ⟨a.heap.size+1+1,2,I⟩ (A G f) (by show a.heap.size+1≠a.heap.size+1+1;omega));have b9:=E (show X a a ((q.setCell ⟨a.heap.size+1+1,1,I⟩ (A G h)).setCell ⟨a.heap.size+1+1,2,I⟩ (A G f)) from(t.o.setCell (by show a.heap.size<=a.heap.size+1+1;omega) _).setCell (by show a.heap.size<=a.heap.size+1+1;omega) _)
  all_goals try go_wp2_with fail
  all_goals
   refine(b0.o _).mono ?_;rintro u h3 ⟨rfl,D⟩;have c0:=E (ext b9.o D);have W:=E (b5.o.ext D);have b2:=E (b1.o.ext D);clear D F J L P R v w x y z;obtain⟨h5,h6,h7,h8,h9⟩:=W.o.cL;obtain⟨v,w,x,y,z⟩:=W.o.eU;obtain⟨F,J,L,P,R⟩:=b2.o.cL;go_wp2;obtain⟨c7,c8,c9,e0,e1⟩:=(W.o.rE (A G 0) (A G 0) (A G 0) (A G 0) (A G 0)).cL;refine YD (by simp [YU,results93,go_sem,c7,c8,c9,e0,e1];try rfl) rfl ?_;exact⟨_,_,rfl,dO c0.o O _ _ _ _ _⟩
 .go_enter func93,ntmps93
  go_wp2_with (first
   |(go_at_call 137;with_reducible refine(a9.o _).mono ?_;rintro u n ⟨e9,g1,rfl,i⟩;have e8:=E i;have b3:=E (e3.o.ext i);have b4:=E (e4.o.ext i);have r:=E (e2.o.ext i);obtain⟨⟨g9,h0,h1,h2⟩, -⟩:=b3.o.four;obtain⟨F,J,L,P,R⟩:=r.o.cL;obtain⟨v,w,x,y,z⟩:=r.o.eU;have l:=E (show X a a n from ext N i);have c5:a.heap.size+1+1<n.heap.size:=r.o.lt;clear i;have h4:=(l.o.cell (p:=⟨c,off+4,I⟩) a2).trans a3;have g5:c<n.heap.size:=Yv a2 l.o.size)
   |(go_at_call 136;with_reducible refine(e5.o _).mono ?_;rintro u a1 ⟨rfl,rfl⟩))
  have a7:c≠a.heap.size+1+1:=O;have a0:=E (λ(b:V) (k:X a a b)=>show b.cell? ⟨c,off+4,I⟩=K (A Yf (f:Int)) from(k.cell (p:=⟨c,off+4,I⟩) a2).trans a3);have a5:=E (λ(b:V) (k:X a a b) (m:Z)=>show(b.setCell ⟨a.heap.size+1+1,1,I⟩ m).cell? ⟨c,off+4,I⟩=K (A Yf (f:Int)) from(YS (w:=b) (Yt _ _ _ _ a7)).trans (a0.o b k));have b8:=E (λ(b:V) (k:X a a b) (m c6:Z)=>show((b.setCell ⟨a.heap.size+1+1,1,I⟩ m).setCell ⟨a.heap.size+1+1,2,I⟩ c6).cell? ⟨c,off+4,I⟩=K (A Yf (f:Int)) from(YS (w:=b.setCell ⟨a.heap.size+1+1,1,I⟩ m) (Yt _ _ _ _ a7)).trans (a5.o b k m));have c1:=E (a0.o n.drew l.o.drew);clear F J L P R v w x y z c5
  go_region_held3 (λa1=>a1.cell? ⟨c,off+4,I⟩=K (A Yf (f:Int)))
   (first|with_reducible exact c1.o|with_reducible exact c2.o|with_reducible exact c3.o _|with_reducible exact c4.o _ _)
   ((go_at_call 138;refine(b7.o n.drew l.o.drew).mono ?_;rintro u q ⟨rfl,C⟩;have t:=E (ext l.o.drew C);have c2:=E (a0.o q t.o);have c3:=E (a5.o q t.o);have c4:=E (b8.o q t.o);have s:=E (r.o.bw.ext C);have b6:=E (b4.o.bw.ext C);obtain⟨F,J,L,P,R⟩:=s.o.cL;obtain⟨v,w,x,y,z⟩:=s.o.eU;have g8:=s.o.lt;clear C))
  have b1:=E (show ai ((q.setCell ⟨a.heap.size+1+1,1,I⟩ (A G h)).setCell ⟨a.heap.size+1+1,2,I⟩ (A G f)) (a.heap.size+1+1) #[A G 48,A G h,A G f,A G 0,A G 0] 93 from(s.o.set 1 (A G h)).set 2 (A G f));have b5:=E ((b6.o.ab ⟨a.heap.size+1+1,1,I⟩ (A G h) (by show a.heap.size+1≠a.heap.size+1+1;omega)).ab ⟨a.heap.size+1+1,2,I⟩ (A G f) (by show a.heap.size+1≠a.heap.size+1+1;omega));have b9:=E (show X a a ((q.setCell ⟨a.heap.size+1+1,1,I⟩ (A G h)).setCell ⟨a.heap.size+1+1,2,I⟩ (A G f)) from(t.o.setCell (by show a.heap.size<=a.heap.size+1+1;omega) _).setCell (by show a.heap.size<=a.heap.size+1+1;omega) _)
  all_goals try go_wp2_with fail
  all_goals
   refine(b0.o _).mono ?_;rintro u h3 ⟨rfl,D⟩;have c0:=E (ext b9.o D);have W:=E (b5.o.ext D);have b2:=E (b1.o.ext D);clear D F J L P R v w x y z;obtain⟨h5,h6,h7,h8,h9⟩:=W.o.cL;obtain⟨v,w,x,y,z⟩:=W.o.eU;obtain⟨F,J,L,P,R⟩:=b2.o.cL;go_wp2;obtain⟨c7,c8,c9,e0,e1⟩:=(W.o.rE (A G 48) (A G h) (A G f) (A G 0) (A G 0)).cL;refine YD (by simp [YU,results93,go_sem,c7,c8,c9,e0,e1];try rfl) rfl ?_;exact⟨rfl,dO c0.o O _ _ _ _ _⟩
theorem OM(at' J:Nat)(e6:Z)(c:Bs)(b:V)(R:ah b e6 c)(g6:c.length=8):
  d prog 93 #[Yc #[A G 51,e6,A G at',A G J]] b λi c5=>ur (dK (jC 51 c)) (jC 51 c) b i c5:=by
 obtain⟨k,off,cap,rfl,g4,i1⟩:=R.ft O;rw [g6] at R g4⊢;have e5:=E (λb=>by have:=iR (51:Int) b;rw [(H:lD (51:Int)=true)] at this;exact this);have a5:=E (λF=>mf ⟨51,0,0,0,0⟩ F Y);have a0:aU.val ⟨51,0,0,0,0⟩=Yc #[A G 51,A G 0,A G 0,A G 0,A G 0]:=rfl;rw [a0] at a5;simp only [jZ] at a5;clear a0;have e2:Hd (ai (((b.alloc (M #[A G 51,U (K ⟨k,off,I⟩) 8 cap,A G at',A G J] 171)).alloc (M #[A G 0,A G 0,A G 0,A G 0,A G 0] 93)).alloc (M #[A G 51,A G 0,A G 0,A G 0,A G 0] 93)) b #[A G 51,U (K ⟨k,off,I⟩) 8 cap,A G at',A G J] 171):=E (((ai.new b #[A G 51,U (K ⟨k,off,I⟩) 8 cap,A G at',A G J] 171).alloc _).alloc _)
 have e3:Hd (ai (((b.alloc (M #[A G 51,U (K ⟨k,off,I⟩) 8 cap,A G at',A G J] 171)).alloc (M #[A G 0,A G 0,A G 0,A G 0,A G 0] 93)).alloc (M #[A G 51,A G 0,A G 0,A G 0,A G 0] 93)) (b.heap.size+1) #[A G 0,A G 0,A G 0,A G 0,A G 0] 93):=E (by
  have:=(ai.new (b.alloc (M #[A G 51,U (K ⟨k,off,I⟩) 8 cap,A G at',A G J] 171)) #[A G 0,A G 0,A G 0,A G 0,A G 0] 93).alloc (M #[A G 51,A G 0,A G 0,A G 0,A G 0] 93)
  simpa only [YN] using this)
 have e1:Hd (ai (((b.alloc (M #[A G 51,U (K ⟨k,off,I⟩) 8 cap,A G at',A G J] 171)).alloc (M #[A G 0,A G 0,A G 0,A G 0,A G 0] 93)).alloc (M #[A G 51,A G 0,A G 0,A G 0,A G 0] 93)) (b.heap.size+1+1) #[A G 51,A G 0,A G 0,A G 0,A G 0] 93):=E (by
  have:=ai.new ((b.alloc (M #[A G 51,U (K ⟨k,off,I⟩) 8 cap,A G at',A G J] 171)).alloc (M #[A G 0,A G 0,A G 0,A G 0,A G 0] 93)) #[A G 51,A G 0,A G 0,A G 0,A G 0] 93
  simpa only [YN] using this)
 have g9:b.cell? ⟨k,off,I⟩=_:=R.at (j:=0) O;have e7:jC 51 c=⟨51,kW (c.drop 4),0,kW c,0⟩:=rfl;rw [e7];clear e7;have b7:=E (λ(F:V) (c3:X b b F)=>oi k off 8 cap c F (R.ext c3) O);have T:=E (λ(F:V) (c3:X b b F)=>oi k (off+4) 4 (cap - 4) (c.drop 4) F ((kv (a:=4) (m:=4) R rfl).ext c3) O)
 have g8:kW (c.drop 4)<4294967296:=by unfold kW;have:=((c.drop 4).getD 0 0).toNat_lt;have:=((c.drop 4).getD 1 0).toNat_lt;have:=((c.drop 4).getD 2 0).toNat_lt;have:=((c.drop 4).getD 3 0).toNat_lt;omega
 have g7:kW c<4294967296:=by unfold kW;have:=(c.getD 0 0).toNat_lt;have:=(c.getD 1 0).toNat_lt;have:=(c.getD 2 0).toNat_lt;have:=(c.getD 3 0).toNat_lt;omega
 generalize kW (c.drop 4)=g at T g8⊢;generalize kW c=f at b7 g7⊢;obtain⟨a7,g5⟩:∃a7,cap=8+a7:=⟨cap - 8,O⟩;subst g5;have e8:8+a7 - 4=4+a7:=O;have e4:=T;rw [e8] at T;clear R e8;have a6:=E (λF=>ub ⟨51,g,0,f,0⟩ F (by unfold lY;simp;omega));have a0:aU.val ⟨51,g,0,f,0⟩=Yc #[A G 51,A G g,A G 0,A G f,A G 0]:=rfl;rw [a0] at a6;clear a0;have i2:k<b.heap.size:=Yj b _ g9;generalize g3:dK ⟨51,g,0,f,0⟩=g1 at a6⊢;clear g3;cases g1
 .go_enter func93,ntmps93
  go_wp2_with (first
   |(go_at_call 137;with_reducible refine(a5.o _).mono ?_;rintro i a1 ⟨g0,g2,rfl,h⟩;have e9:=E h;have b2:=E (e2.o.ext h);have b3:=E (e3.o.ext h);have l:=E (e1.o.ext h);obtain⟨⟨h1,h2,h3,h4⟩, -⟩:=b2.o.four;obtain⟨x,y,z,C,D⟩:=l.o.cL;obtain⟨p,q,r,s,t⟩:=l.o.eU;have c0:=E (show X b b a1 from ext N h);have c4:b.heap.size+1+1<a1.heap.size:=l.o.lt;clear h)
   |(go_at_call 136;with_reducible refine(e5.o _).mono ?_;rintro i c5 ⟨rfl,rfl⟩))
  have W:=E c0.o;have a8:=E l.o;have c2:=E b3.o;clear x y z C D p q r s t c4
  go_region_held3 (λ_=>True) (trivial)
   (first
    |(go_at_call 138;(first|(with_reducible refine(e4.o a2 P.o).mono ?_)|(with_reducible refine(T.o a2 P.o).mono ?_));rintro i a3 ⟨rfl,v⟩;have c1:=E (ext P.o v);have n:=E (b0.o.ext v);have b6:=E (b5.o.ext v);obtain⟨x,y,z,C,D⟩:=n.o.cL;obtain⟨p,q,r,s,t⟩:=n.o.eU;have h0:=n.o.lt;clear v)
    |(go_at_call 138;with_reducible refine(b7.o _ (W.o.drew)).mono ?_;rintro i a2 ⟨rfl,u⟩;have P:=E (ext W.o.drew u);have b0:=E (a8.o.bw.ext u);have b5:=E (c2.o.bw.ext u);clear u))
  have a9:=E (show ai ((a3.setCell ⟨b.heap.size+1+1,3,I⟩ (A G f)).setCell ⟨b.heap.size+1+1,1,I⟩ (A G g)) (b.heap.size+1+1) #[A G 51,A G g,A G 0,A G f,A G 0] 93 from(n.o.set 3 (A G f)).set 1 (A G g));have b4:=E ((b6.o.ab ⟨b.heap.size+1+1,3,I⟩ (A G f) (by show b.heap.size+1≠b.heap.size+1+1;omega)).ab ⟨b.heap.size+1+1,1,I⟩ (A G g) (by show b.heap.size+1≠b.heap.size+1+1;omega));have b8:=E (show X b b ((a3.setCell ⟨b.heap.size+1+1,3,I⟩ (A G f)).setCell ⟨b.heap.size+1+1,1,I⟩ (A G g)) from(c1.o.setCell (by show b.heap.size<=b.heap.size+1+1;omega) _).setCell (by show b.heap.size<=b.heap.size+1+1;omega) _)
  all_goals try go_wp2_with fail
  all_goals
   refine(a6.o _).mono ?_;rintro i h5 ⟨rfl,w⟩;have b9:=E (ext b8.o w);have L:=E (b4.o.ext w);have b1:=E (a9.o.ext w);clear w x y z C D p q r s t;obtain⟨h6,h7,h8,h9,i0⟩:=L.o.cL;obtain⟨p,q,r,s,t⟩:=L.o.eU;obtain⟨x,y,z,C,D⟩:=b1.o.cL;go_wp2;obtain⟨c6,c7,c8,c9,e0⟩:=(L.o.rE (A G 0) (A G 0) (A G 0) (A G 0) (A G 0)).cL;refine YD (by simp [YU,results93,go_sem,c6,c7,c8,c9,e0];try rfl) rfl ?_;exact⟨_,_,rfl,dO b9.o O _ _ _ _ _⟩
 .go_enter func93,ntmps93
  go_wp2_with (first
   |(go_at_call 137;with_reducible refine(a5.o _).mono ?_;rintro i a1 ⟨g0,g2,rfl,h⟩;have e9:=E h;have b2:=E (e2.o.ext h);have b3:=E (e3.o.ext h);have l:=E (e1.o.ext h);obtain⟨⟨h1,h2,h3,h4⟩, -⟩:=b2.o.four;obtain⟨x,y,z,C,D⟩:=l.o.cL;obtain⟨p,q,r,s,t⟩:=l.o.eU;have c0:=E (show X b b a1 from ext N h);have c4:b.heap.size+1+1<a1.heap.size:=l.o.lt;clear h)
   |(go_at_call 136;with_reducible refine(e5.o _).mono ?_;rintro i c5 ⟨rfl,rfl⟩))
  have W:=E c0.o;have a8:=E l.o;have c2:=E b3.o;clear x y z C D p q r s t c4
  go_region_held3 (λ_=>True) (trivial)
   (first
    |(go_at_call 138;(first|(with_reducible refine(e4.o a2 P.o).mono ?_)|(with_reducible refine(T.o a2 P.o).mono ?_));rintro i a3 ⟨rfl,v⟩;have c1:=E (ext P.o v);have n:=E (b0.o.ext v);have b6:=E (b5.o.ext v);obtain⟨x,y,z,C,D⟩:=n.o.cL;obtain⟨p,q,r,s,t⟩:=n.o.eU;have h0:=n.o.lt;clear v)
    |(go_at_call 138;with_reducible refine(b7.o _ (W.o.drew)).mono ?_;rintro i a2 ⟨rfl,u⟩;have P:=E (ext W.o.drew u);have b0:=E (a8.o.bw.ext u);have b5:=E (c2.o.bw.ext u);clear u))
  have a9:=E (show ai ((a3.setCell ⟨b.heap.size+1+1,3,I⟩ (A G f)).setCell ⟨b.heap.size+1+1,1,I⟩ (A G g)) (b.heap.size+1+1) #[A G 51,A G g,A G 0,A G f,A G 0] 93 from(n.o.set 3 (A G f)).set 1 (A G g));have b4:=E ((b6.o.ab ⟨b.heap.size+1+1,3,I⟩ (A G f) (by show b.heap.size+1≠b.heap.size+1+1;omega)).ab ⟨b.heap.size+1+1,1,I⟩ (A G g) (by show b.heap.size+1≠b.heap.size+1+1;omega));have b8:=E (show X b b ((a3.setCell ⟨b.heap.size+1+1,3,I⟩ (A G f)).setCell ⟨b.heap.size+1+1,1,I⟩ (A G g)) from(c1.o.setCell (by show b.heap.size<=b.heap.size+1+1;omega) _).setCell (by show b.heap.size<=b.heap.size+1+1;omega) _)
  all_goals try go_wp2_with fail
  all_goals
   refine(a6.o _).mono ?_;rintro i h5 ⟨rfl,w⟩;have b9:=E (ext b8.o w);have L:=E (b4.o.ext w);have b1:=E (a9.o.ext w);clear w x y z C D p q r s t;obtain⟨h6,h7,h8,h9,i0⟩:=L.o.cL;obtain⟨p,q,r,s,t⟩:=L.o.eU;obtain⟨x,y,z,C,D⟩:=b1.o.cL;go_wp2;obtain⟨c6,c7,c8,c9,e0⟩:=(L.o.rE (A G 51) (A G g) (A G 0) (A G f) (A G 0)).cL;refine YD (by simp [YU,results93,go_sem,c6,c7,c8,c9,e0];try rfl) rfl ?_;exact⟨rfl,dO b9.o O _ _ _ _ _⟩
theorem OJ(at' a0:Nat)(g7:Z)(c:Bs)(b:V)(a7:ah b g7 c)(h9:c.length=9):
  d prog 93 #[Yc #[A G 49,g7,A G at',A G a0]] b λF a5=>ur (dK (jC 49 c)) (jC 49 c) b F a5:=by
 obtain⟨f,off,cap,rfl,h6,j7⟩:=a7.ft O;rw [h9] at a7 h6⊢;have g6:=E (λb=>by have:=iR (49:Int) b;rw [(H:lD (49:Int)=true)] at this;exact this);have b5:=E (λl=>mf ⟨49,0,0,0,0⟩ l Y);have b2:aU.val ⟨49,0,0,0,0⟩=Yc #[A G 49,A G 0,A G 0,A G 0,A G 0]:=rfl;rw [b2] at b5;simp only [jZ] at b5;clear b2;have g4:Hd (ai (((b.alloc (M #[A G 49,U (K ⟨f,off,I⟩) 9 cap,A G at',A G a0] 171)).alloc (M #[A G 0,A G 0,A G 0,A G 0,A G 0] 93)).alloc (M #[A G 49,A G 0,A G 0,A G 0,A G 0] 93)) b #[A G 49,U (K ⟨f,off,I⟩) 9 cap,A G at',A G a0] 171):=E (((ai.new b #[A G 49,U (K ⟨f,off,I⟩) 9 cap,A G at',A G a0] 171).alloc _).alloc _)
 have g5:Hd (ai (((b.alloc (M #[A G 49,U (K ⟨f,off,I⟩) 9 cap,A G at',A G a0] 171)).alloc (M #[A G 0,A G 0,A G 0,A G 0,A G 0] 93)).alloc (M #[A G 49,A G 0,A G 0,A G 0,A G 0] 93)) (b.heap.size+1) #[A G 0,A G 0,A G 0,A G 0,A G 0] 93):=E (by
  have:=(ai.new (b.alloc (M #[A G 49,U (K ⟨f,off,I⟩) 9 cap,A G at',A G a0] 171)) #[A G 0,A G 0,A G 0,A G 0,A G 0] 93).alloc (M #[A G 49,A G 0,A G 0,A G 0,A G 0] 93)
  simpa only [YN] using this)
 have g3:Hd (ai (((b.alloc (M #[A G 49,U (K ⟨f,off,I⟩) 9 cap,A G at',A G a0] 171)).alloc (M #[A G 0,A G 0,A G 0,A G 0,A G 0] 93)).alloc (M #[A G 49,A G 0,A G 0,A G 0,A G 0] 93)) (b.heap.size+1+1) #[A G 49,A G 0,A G 0,A G 0,A G 0] 93):=E (by
  have:=ai.new ((b.alloc (M #[A G 49,U (K ⟨f,off,I⟩) 9 cap,A G at',A G a0] 171)).alloc (M #[A G 0,A G 0,A G 0,A G 0,A G 0] 93)) #[A G 49,A G 0,A G 0,A G 0,A G 0] 93
  simpa only [YN] using this)
 have a8:b.cell? ⟨f,off,I⟩=K (A Yf ((c.getD 0 0).toNat:Int)):=a7.at (j:=0) O;have i3:=(c.getD 0 0).toNat_lt
 have h4:Zc G ((c.getD 0 0).toNat:Int)=((c.getD 0 0).toNat:Int):=by rw [Yo];omega
 have g8:jC 49 c=⟨49,kW (c.drop 5),(c.getD 0 0).toNat,kW (c.drop 1),0⟩:=rfl;rw [g8];clear g8;have b6:=E (λ(l:V) (a3:X b b l)=>oi f (off+1) 8 (cap - 1) (c.drop 1) l ((kv (a:=1) (m:=8) a7 rfl).ext a3) O)
 have a9:=E (λ(l:V) (a3:X b b l)=>oi f (off+1+4) 4 (cap - 1 - 4) (c.drop 5) l (by
  have q:=(kv (a:=5) (m:=4) a7 rfl).ext a3;rw [(O:off+5=off+1+4),show cap - 5=cap - 1 - 4 from O] at q
  exact q) O)
 have i2:kW (c.drop 5)<4294967296:=by unfold kW;have:=((c.drop 5).getD 0 0).toNat_lt;have:=((c.drop 5).getD 1 0).toNat_lt;have:=((c.drop 5).getD 2 0).toNat_lt;have:=((c.drop 5).getD 3 0).toNat_lt;omega
 have i1:kW (c.drop 1)<4294967296:=by unfold kW;have:=((c.drop 1).getD 0 0).toNat_lt;have:=((c.drop 1).getD 1 0).toNat_lt;have:=((c.drop 1).getD 2 0).toNat_lt;have:=((c.drop 1).getD 3 0).toNat_lt;omega
 generalize (c.getD 0 0).toNat=g at a8 i3 h4⊢;generalize kW (c.drop 5)=k at a9 i2⊢;generalize kW (c.drop 1)=i at b6 i1⊢;obtain⟨W,h7⟩:∃W,cap=1+(8+W):=⟨cap - 9,O⟩;subst h7;have e5:1+(8+W) - 1=8+W:=O;have g9:1+(8+W) - 1 - 4=4+W:=O;have c7:=a9;rw [e5] at c7;rw [g9] at a9;rw [e5] at b6;clear a7 e5 g9;have b7:=E (λl=>ub ⟨49,k,g,i,0⟩ l (by unfold lY;simp;omega));have b2:aU.val ⟨49,k,g,i,0⟩=Yc #[A G 49,A G k,A G g,A G i,A G 0]:=rfl;rw [b2] at b7;clear b2;have a6:f<b.heap.size:=Yj b _ a8;generalize h5:dK ⟨49,k,g,i,0⟩=h2 at b7⊢;clear h5;cases h2
 .go_enter func93,ntmps93
  go_wp2_with (first
   |(go_at_call 137;with_reducible refine(b5.o _).mono ?_;rintro F h ⟨h1,h3,rfl,w⟩;have h0:=E w;have c2:=E (g4.o.ext w);have c3:=E (g5.o.ext w);have n:=E (g3.o.ext w);obtain⟨⟨i5,i6,i7,i9⟩, -⟩:=c2.o.four;obtain⟨x,y,z,C,D⟩:=n.o.cL;obtain⟨r,s,t,u,v⟩:=n.o.eU;have L:=E (show X b b h from ext N w);have e6:b.heap.size+1+1<h.heap.size:=n.o.lt;clear w;have j1:=(L.o.cell (p:=⟨f,off,I⟩) a6).trans a8;have i0:f<h.heap.size:=Yv a6 L.o.size)
   |(go_at_call 136;with_reducible refine(g6.o _).mono ?_;rintro F a5 ⟨rfl,rfl⟩))
  have e4:f≠b.heap.size+1+1:=O;have c8:=E (λ(l:V) (a3:X b b l)=>show l.cell? ⟨f,off,I⟩=K (A Yf (g:Int)) from(a3.cell (p:=⟨f,off,I⟩) a6).trans a8);have b1:=E (c8.o h.drew L.o.drew);have e2:=E (λ(e7:Z)=>show((h.setCell ⟨b.heap.size+1+1,2,I⟩ e7).drew).cell? ⟨f,off,I⟩=K (A Yf (g:Int)) from(YS (w:=h) (Yt _ _ _ _ e4)).trans b1.o);have h8:(1:Int)<=1+(8+(W:Int)):=O;clear x y z C D r s t u v;obtain⟨x,y,z,C,D⟩:=n.o.bw.cL;obtain⟨r,s,t,u,v⟩:=n.o.bw.eU
  go_region_held3 (λa5=>a5.cell? ⟨f,off,I⟩=K (A Yf (g:Int)))
   (first|with_reducible exact b1.o|with_reducible exact e2.o _)
   (fail)
  clear x y z C D r s t u v
  go_wp2_with fail
  have b8:=E (show ai ((h.setCell ⟨b.heap.size+1+1,2,I⟩ (A G g)).drew) (b.heap.size+1+1) #[A G 49,A G 0,A G g,A G 0,A G 0] 93 from(n.o.set 2 (A G g)).bw);have e3:=E (c3.o.ab ⟨b.heap.size+1+1,2,I⟩ (A G g) (by show b.heap.size+1≠b.heap.size+1+1;omega)).bw;have b0:=E (show X b b ((h.setCell ⟨b.heap.size+1+1,2,I⟩ (A G g)).drew) from(L.o.setCell (by show b.heap.size<=b.heap.size+1+1;omega) _).drew);clear e6
  go_region_held3 (λ_=>True) (trivial)
   (first
    |(go_at_call 138;(first|(with_reducible refine(c7.o b3 a2.o).mono ?_)|(with_reducible refine(a9.o b3 a2.o).mono ?_));rintro F b4 ⟨rfl,R⟩;have e1:=E (ext a2.o R);have J:=E (c0.o.ext R);have c6:=E (c5.o.ext R);obtain⟨x,y,z,C,D⟩:=J.o.cL;obtain⟨r,s,t,u,v⟩:=J.o.eU;have i4:=J.o.lt;clear R)
    |(go_at_call 138;with_reducible refine(b6.o _ (b0.o.drew)).mono ?_;rintro F b3 ⟨rfl,P⟩;have a2:=E (ext b0.o.drew P);have c0:=E (b8.o.bw.ext P);have c5:=E (e3.o.bw.ext P);clear P))
  have b9:=E (show ai ((b4.setCell ⟨b.heap.size+1+1,3,I⟩ (A G i)).setCell ⟨b.heap.size+1+1,1,I⟩ (A G k)) (b.heap.size+1+1) #[A G 49,A G k,A G g,A G i,A G 0] 93 from(J.o.set 3 (A G i)).set 1 (A G k));have c4:=E ((c6.o.ab ⟨b.heap.size+1+1,3,I⟩ (A G i) (by show b.heap.size+1≠b.heap.size+1+1;omega)).ab ⟨b.heap.size+1+1,1,I⟩ (A G k) (by show b.heap.size+1≠b.heap.size+1+1;omega));have c9:=E (show X b b ((b4.setCell ⟨b.heap.size+1+1,3,I⟩ (A G i)).setCell ⟨b.heap.size+1+1,1,I⟩ (A G k)) from(e1.o.setCell (by show b.heap.size<=b.heap.size+1+1;omega) _).setCell (by show b.heap.size<=b.heap.size+1+1;omega) _)
  all_goals try go_wp2_with fail
  all_goals
   refine(b7.o _).mono ?_;rintro F j0 ⟨rfl,T⟩;have e0:=E (ext c9.o T);have a1:=E (c4.o.ext T);have c1:=E (b9.o.ext T);clear T x y z C D r s t u v;obtain⟨j2,j3,j4,j5,j6⟩:=a1.o.cL;obtain⟨r,s,t,u,v⟩:=a1.o.eU;obtain⟨x,y,z,C,D⟩:=c1.o.cL;go_wp2;obtain⟨e8,e9,g0,g1,g2⟩:=(a1.o.rE (A G 0) (A G 0) (A G 0) (A G 0) (A G 0)).cL;refine YD (by simp [YU,results93,go_sem,e8,e9,g0,g1,g2];try rfl) rfl ?_;exact⟨_,_,rfl,dO e0.o O _ _ _ _ _⟩
 .go_enter func93,ntmps93
  go_wp2_with (first
   |(go_at_call 137;with_reducible refine(b5.o _).mono ?_;rintro F h ⟨h1,h3,rfl,w⟩;have h0:=E w;have c2:=E (g4.o.ext w);have c3:=E (g5.o.ext w);have n:=E (g3.o.ext w);obtain⟨⟨i5,i6,i7,i9⟩, -⟩:=c2.o.four;obtain⟨x,y,z,C,D⟩:=n.o.cL;obtain⟨r,s,t,u,v⟩:=n.o.eU;have L:=E (show X b b h from ext N w);have e6:b.heap.size+1+1<h.heap.size:=n.o.lt;clear w;have j1:=(L.o.cell (p:=⟨f,off,I⟩) a6).trans a8;have i0:f<h.heap.size:=Yv a6 L.o.size)
   |(go_at_call 136;with_reducible refine(g6.o _).mono ?_;rintro F a5 ⟨rfl,rfl⟩))
  have e4:f≠b.heap.size+1+1:=O;have c8:=E (λ(l:V) (a3:X b b l)=>show l.cell? ⟨f,off,I⟩=K (A Yf (g:Int)) from(a3.cell (p:=⟨f,off,I⟩) a6).trans a8);have b1:=E (c8.o h.drew L.o.drew);have e2:=E (λ(e7:Z)=>show((h.setCell ⟨b.heap.size+1+1,2,I⟩ e7).drew).cell? ⟨f,off,I⟩=K (A Yf (g:Int)) from(YS (w:=h) (Yt _ _ _ _ e4)).trans b1.o);have h8:(1:Int)<=1+(8+(W:Int)):=O;clear x y z C D r s t u v;obtain⟨x,y,z,C,D⟩:=n.o.bw.cL;obtain⟨r,s,t,u,v⟩:=n.o.bw.eU
  go_region_held3 (λa5=>a5.cell? ⟨f,off,I⟩=K (A Yf (g:Int)))
   (first|with_reducible exact b1.o|with_reducible exact e2.o _)
   (fail)
  clear x y z C D r s t u v
  go_wp2_with fail
  have b8:=E (show ai ((h.setCell ⟨b.heap.size+1+1,2,I⟩ (A G g)).drew) (b.heap.size+1+1) #[A G 49,A G 0,A G g,A G 0,A G 0] 93 from(n.o.set 2 (A G g)).bw);have e3:=E (c3.o.ab ⟨b.heap.size+1+1,2,I⟩ (A G g) (by show b.heap.size+1≠b.heap.size+1+1;omega)).bw;have b0:=E (show X b b ((h.setCell ⟨b.heap.size+1+1,2,I⟩ (A G g)).drew) from(L.o.setCell (by show b.heap.size<=b.heap.size+1+1;omega) _).drew);clear e6
  go_region_held3 (λ_=>True) (trivial)
   (first
    |(go_at_call 138;(first|(with_reducible refine(c7.o b3 a2.o).mono ?_)|(with_reducible refine(a9.o b3 a2.o).mono ?_));rintro F b4 ⟨rfl,R⟩;have e1:=E (ext a2.o R);have J:=E (c0.o.ext R);have c6:=E (c5.o.ext R);obtain⟨x,y,z,C,D⟩:=J.o.cL;obtain⟨r,s,t,u,v⟩:=J.o.eU;have i4:=J.o.lt;clear R)
    |(go_at_call 138;with_reducible refine(b6.o _ (b0.o.drew)).mono ?_;rintro F b3 ⟨rfl,P⟩;have a2:=E (ext b0.o.drew P);have c0:=E (b8.o.bw.ext P);have c5:=E (e3.o.bw.ext P);clear P))
  have b9:=E (show ai ((b4.setCell ⟨b.heap.size+1+1,3,I⟩ (A G i)).setCell ⟨b.heap.size+1+1,1,I⟩ (A G k)) (b.heap.size+1+1) #[A G 49,A G k,A G g,A G i,A G 0] 93 from(J.o.set 3 (A G i)).set 1 (A G k));have c4:=E ((c6.o.ab ⟨b.heap.size+1+1,3,I⟩ (A G i) (by show b.heap.size+1≠b.heap.size+1+1;omega)).ab ⟨b.heap.size+1+1,1,I⟩ (A G k) (by show b.heap.size+1≠b.heap.size+1+1;omega));have c9:=E (show X b b ((b4.setCell ⟨b.heap.size+1+1,3,I⟩ (A G i)).setCell ⟨b.heap.size+1+1,1,I⟩ (A G k)) from(e1.o.setCell (by show b.heap.size<=b.heap.size+1+1;omega) _).setCell (by show b.heap.size<=b.heap.size+1+1;omega) _)
  all_goals try go_wp2_with fail
  all_goals
   refine(b7.o _).mono ?_;rintro F j0 ⟨rfl,T⟩;have e0:=E (ext c9.o T);have a1:=E (c4.o.ext T);have c1:=E (b9.o.ext T);clear T x y z C D r s t u v;obtain⟨j2,j3,j4,j5,j6⟩:=a1.o.cL;obtain⟨r,s,t,u,v⟩:=a1.o.eU;obtain⟨x,y,z,C,D⟩:=c1.o.cL;go_wp2;obtain⟨e8,e9,g0,g1,g2⟩:=(a1.o.rE (A G 49) (A G k) (A G g) (A G i) (A G 0)).cL;refine YD (by simp [YU,results93,go_sem,e8,e9,g0,g1,g2];try rfl) rfl ?_;exact⟨rfl,dO e0.o O _ _ _ _ _⟩
def xz(c:Nat)(a:Bs)(g:V)(b:Ending)(h:V):Prop:=
 (∃i,gV c a= .error i/\qA g b h)∨∃f,gV c a= .ok f/\Ig f g b h
theorem Lf(a at' j:Nat)(i:Z)(b:Bs)(h:V)(k:ah h i b)(q:b.length<=100000):
  d prog 93 #[Yc #[A G a,i,A G at',A G j]] h λf g=>xz a b h f g:=by
 by_cases l:a<48∨51<a
 .exact(FP a at' j i b h k (by unfold lD;simp;omega)).mono λf g c=>Yg ⟨13,by unfold gV;rw [if_pos l],c⟩
 have p:a=48∨a=49∨a=50∨a=51:=O;by_cases m:b.length≠jZ a
 .exact(Lg a at' j i b h k q p m).mono λf g c=>Yg ⟨2,by unfold gV;rw [if_neg l,if_pos m],c⟩
 have n:b.length=jZ a:=O
 have o:∀f g,ur (dK (jC a b)) (jC a b) h f g->xz a b h f g:=by
  intro f g c
  cases hb:dK (jC a b) with
  |true=>rw [hb] at c;exact Yh ⟨jC a b,by unfold gV;rw [if_neg l,if_neg m,if_pos hb],c⟩
  |false=>rw [hb] at c;exact Yg ⟨2,by unfold gV;rw [if_neg l,if_neg m,if_neg (by rw [hb];decide)],c⟩
 rcases p with rfl|rfl|rfl|rfl
 .exact(OI at' j i b h k n).mono λf g c=>o f g c
 .exact(OJ at' j i b h k n).mono λf g c=>o f g c
 .exact(OK at' j i b h k n).mono λf g c=>o f g c
 .exact(OM at' j i b h k n).mono λf g c=>o f g c
end
end Go.Proofs.YtajkpgaheechmaaGreatDoor
