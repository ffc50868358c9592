/- Num BlockP PlaneP Groups PlaneW PlaneA PlaneB PlaneC PlaneD FramesC YSceneP YSceneU YSceneV -/
import Derived.Test.YtajkpgaheechmaaGreatDoorZAG
set_option maxRecDepth 100000
set_option maxHeartbeats 16000000
set_option linter.unusedSimpArgs false
set_option linter.unusedVariables false
set_option linter.unusedSectionVars false
namespace Go.Proofs.YtajkpgaheechmaaGreatDoor
open _root_.Go.Proofs.Tryz
open Go.Value renaming int->A,slice->U,pointer->Q,nilIface->Ya,string->Yb,agg->Yc,iface->Yd,tuple->Ye
open Go.IntKind renaming i64->G,wrap->Zc
open Option renaming none->I,some->K
open Go.Obj renaming cells->M
open Go.Ending renaming returned->e
open Go renaming World->V,Value->Z,Calls->d,Addr->Yi,maxLen->YO
open Go.RowKit renaming Below->X,intOf->Yz
open Go.World renaming block_lt_of_cell?->Yj,ownsRow_nil->YC,size_alloc->YN,cell?_of_block->YS
open Nat renaming le_refl->Yk,zero_le->Yr,lt_of_lt_of_le->Yv
open Go.RowKit.Below renaming heap_setCell->Yt
open List renaming getD_eq_getElem?_getD->Yp,length_append->Yq,set_cons_succ->YL,getElem?_eq_getElem->YM,getD->YR,range->Za,length_singleton->Zb
open Go.IntWalk renaming i64_in->Yx
open Go.Value.slice renaming injEq->Yy
open Bool renaming and_eq_true->YV
section
open Go.RowKit
def bQ(a:Nat->Int)(b:Nat):List Int:=(Za b).map a
theorem bO(b:Nat->Int)(a:Nat):(bQ b a).length=a:=by simp [bQ]
theorem gG(a:Nat->Int)(b:Nat):bQ a (b+1)=bQ a b++[a b]:=by simp [bQ,List.range_succ]
theorem iA{b:Nat->Int}{c a:Nat}(f:a<c):(bQ b c).getD a 0=b a:=by simp [bQ,YR,f]
theorem om{c g:Nat->Int}{b:Nat}(f:∀a,a<b->c a=g a):bQ c b=bQ g b:=
 List.map_congr_left λa h=>f a (List.mem_range.1 h)
theorem uT{b c:List Int}(i:b.length=c.length)(g:∀a,a<b.length->b.getD a 0=c.getD a 0):b=c:=by
 apply List.ext_getElem i;intro a f h;have:=g a f
 simpa [YR,f,h] using this
theorem vH(a:List Int):bQ (λc=>a.getD c 0) a.length=a:=
 uT (bO ..) λc b=>by rw [bO] at b;exact iA b
theorem Kq{b:List Int}{a:Nat}(c:b.length<=a):b.getD a 0=0:=by simp [YR,List.getElem?_eq_none c]
theorem NA{a:List Int}{b:Nat}(c:b<a.length):a.getD b 0∈a:=by
 simp [YR,c]
theorem On{b:List Int}{f:Int}(h:f∈b):∃a,a<b.length/\b.getD a 0=f:=by
 obtain⟨a,c,g⟩:=List.mem_iff_getElem.1 h;exact⟨a,c,by simp [YR,c,g]⟩
theorem xV(c:List Int)(b a:Nat)(h:Int):(c.set b h).getD a 0=if b=a/\a<c.length then h else c.getD a 0:=by
 simp only [YR,List.getElem?_set];by_cases f:b=a
 .subst f
  by_cases g:b<c.length
  .simp [g]
  .simp [g]
 .simp [f]
def cZ(c:Nat->Int)(b:List Int)(f:Nat):List Int:=bQ (λa=>if a<f then c a else b.getD a 0) b.length
theorem df(b:Nat->Int)(a:List Int)(c:Nat):(cZ b a c).length=a.length:=bO ..
theorem iH(c:Nat->Int)(a:List Int):cZ c a 0=a:=by
 unfold cZ;rw [om (g:=λb=>a.getD b 0) (λb _=>by rw [if_neg O])];exact vH a
theorem iG{f:Nat->Int}{b:List Int}{k:Nat}(i:k<b.length):(cZ f b k).set k (f k)=cZ f b (k+1):=by
 refine uT (by simp [df]) λg a=>?_
 rw [List.length_set,df] at a;rw [xV,df];unfold cZ;rw [iA a,iA a];by_cases h:k=g
 .subst h;rw [if_pos ⟨rfl,a⟩,if_pos O]
 .rw [if_neg O]
  by_cases c:g<k
  .rw [if_pos c,if_pos O]
  .rw [if_neg c,if_neg O]
theorem kO{c:Nat->Int}{b:List Int}{a:Nat}(f:b.length=a):cZ c b a=bQ c a:=by
 unfold cZ;rw [f];exact om λh g=>by rw [if_pos g]
def cu:Nat->(Nat->Int)->Int
 |0,_=>0
 |a+1,f=>cu a f+f a
theorem Hn(a:Nat->Int):cu 0 a=0:=rfl
theorem gL(b:Nat)(a:Nat->Int):cu (b+1) a=cu b a+a b:=rfl
theorem RZ{b:Nat}{c f:Nat->Int}(g:∀a,a<b->c a=f a):cu b c=cu b f:=by
 induction b with
 |zero=>rfl
 |succ i h=>simp only [cu];rw [h (λa j=>g a O),g i O]
theorem wJ{b:Nat}{f g:Nat->Int}(c:∀a,a<b->f a<=g a):cu b f<=cu b g:=by
 induction b with
 |zero=>exact Int.le_refl _
 |succ i h=>simp only [cu];have:=h (λa j=>c a O);have:=c i O;omega
theorem tC(a:Nat)(b:Int):cu a (λ_=>b)=a*b:=by
 induction a with
 |zero=>simp [cu]
 |succ f c=>simp only [cu];rw [c,Int.natCast_add,Int.add_mul];simp
theorem rH{n:Nat}{f:Nat->Int}{lo hi:Int}(b:∀a,a<n->lo<=f a/\f a<=hi):n*lo<=cu n f/\cu n f<=n*hi:=by
 have c:=wJ (f:=λ_=>lo) (g:=f) λa hi=>(b a hi).1
 have h:=wJ (f:=f) (g:=λ_=>hi) λa hi=>(b a hi).2
 rw [tC] at c h;exact⟨c,h⟩
theorem zV{c:Nat}{a:Nat->Int}(f:∀b,b<c->0<=a b):0<=cu c a:=by
 have:=wJ (f:=λ_=>0) (g:=a) f;rw [tC] at this;omega
theorem within_iff{b:List Int}{f g:Int}:ax b f g=true↔∀a,a<b.length->f<=b.getD a 0/\b.getD a 0<=g:=by
 unfold ax;rw [List.all_eq_true];constructor
 .intro c a i
  have:=c _ (NA i)
  simpa using this
 .intro c m k
  obtain⟨l,j,h⟩:=On k;have:=c l j;rw [h] at this
  simpa using this
theorem aQ{b:List Int}{c f:Int}(g:ax b c f=true)(h:c<=0)(i:0<=f)(a:Nat):c<=b.getD a 0/\b.getD a 0<=f:=by
 by_cases j:a<b.length
 .exact within_iff.1 g a j
 .rw [Kq O];exact⟨h,i⟩
theorem rL{c:Nat->Int}{i:Nat}{g h:Int}:ax (bQ c i) g h=true↔∀a,a<i->g<=c a/\c a<=h:=by
 rw [within_iff,bO];constructor
 .intro f a b;have:=f a b;rwa [iA b] at this
 .intro f a b;rw [iA b];exact f a b
theorem lL{g:List Int}{a b c d:Int}(f:ax g a b=true)(j:c<=a)(k:b<=d):ax g c d=true:=by
 rw [within_iff] at f⊢;intro i h;have:=f i h;omega
def mz(b c a:Int):Bool:=decide (a<b)||decide (c<a)
theorem yS(c:List Int)(a b:Int):c.any (mz a b)=!ax c a b:=by
 unfold ax;rw [List.not_all_eq_any_not];congr 1;funext x;unfold mz;by_cases f:a<=x<;>by_cases g:x<=b<;>simp [f,g]<;>omega
def eF(a:Int):Int:=min (max a 0) 255
theorem qK(a:Int):0<=eF a/\eF a<=255:=by unfold eF;omega
theorem pd(b:Int)(c:V):d prog 84 #[A G b] c λa f=>a=e (A G (eF b))/\c=f:=by
 by_cases g:b<0
 .have a:eF b=0:=by unfold eF;omega
  rw [a];clear a;go_enter func84,ntmps84;go_wp2;go_returns;exact⟨rfl,rfl⟩
 .by_cases h:b<=255
  .have a:eF b=b:=by unfold eF;omega
   rw [a];clear a;go_enter func84,ntmps84;go_wp2;go_returns;exact⟨rfl,rfl⟩
  .have a:eF b=255:=by unfold eF;omega
   rw [a];clear a;go_enter func84,ntmps84;go_wp2;go_returns;exact⟨rfl,rfl⟩
theorem Lw(b:Int)(c:V):d prog 188 #[A G b] c λa f=>a=e (A G (eF b))/\c=f:=by
 by_cases g:b<0
 .have a:eF b=0:=by unfold eF;omega
  rw [a];clear a;go_enter func188,ntmps188;go_wp2;go_returns;exact⟨rfl,rfl⟩
 .by_cases h:b<=255
  .have a:eF b=b:=by unfold eF;omega
   rw [a];clear a;go_enter func188,ntmps188;go_wp2;go_returns;exact⟨rfl,rfl⟩
  .have a:eF b=255:=by unfold eF;omega
   rw [a];clear a;go_enter func188,ntmps188;go_wp2;go_returns;exact⟨rfl,rfl⟩
def dR(a b:List Int):Int:=if a.length=b.length then (if ax a (-1048576) 1048576&&ax b (-1048576) 1048576 then 0 else 3) else 14
theorem uH{a b:List Int}(f:dR a b=0):a.length=b.length/\ax a (-1048576) 1048576=true/\ax b (-1048576) 1048576=true:=by
 unfold dR at f;split at f
 .rename_i g
  split at f
  .rename_i c
   rw [YV] at c;exact⟨g,c.1,c.2⟩
  .omega
 .omega
theorem MS{a b:List Int}(c:a.length=b.length)(f:ax a (-1048576) 1048576=true)(g:ax b (-1048576) 1048576=true):dR a b=0:=by
 unfold dR;rw [if_pos c,f,g];rfl
theorem JD{a b:List Int}(c:a.length≠b.length):dR a b=14:=by unfold dR;rw [if_neg c]
def wI(a c:List Int):List Int:=bQ (λb=>a.getD b 0 - c.getD b 0) a.length
def eB(a b:Int):Int:=max (a - b) (b - a)
theorem Aj(a b:Int):0<=eB a b:=by unfold eB;omega
def nk(a c:List Int):Int:=cu a.length λb=>eB (a.getD b 0) (c.getD b 0)
def Ec(a:Int)(b:List Int):List Int:=if a=0 then b else []
def MB(a b:Int):Int:=if a=0 then b else 0
theorem Cl{a:Int}(c:a=0)(b:List Int):Ec a b=b:=by unfold Ec;rw [if_pos c]
theorem zy{a:Int}(b:a≠0)(c:List Int):Ec a c=[]:=by unfold Ec;rw [if_neg b]
theorem kN{a:Int}(c:a=0)(b:Int):MB a b=b:=by unfold MB;rw [if_pos c]
theorem oy{a:Int}(b:a≠0)(c:Int):MB a c=0:=by unfold MB;rw [if_neg b]
theorem GL(a b:List Int):0<=nk a b:=zV λc _=>Aj _ _
theorem Tg{a b:List Int}{m:Int}(j:0<=m)(f:ax a (-m) m=true)(g:ax b (-m) m=true):0<=nk a b/\nk a b<=a.length*(2*m):=by
 refine⟨GL a b,(rH (lo:=0) (hi:=2*m) λc _=>?_).2⟩;have h:=aQ f O O c;have i:=aQ g O O c;unfold eB;omega
def kq(a:Nat):Nat:=a / 32*2+a%8 / 4
def idx(q a:Nat):Nat:=q / 2*32+a / 4*8+q%2*4+a%4
theorem IB{a:Nat}(b:a<64):kq a<4:=by unfold kq;omega
def ff(b:List Int)(q c:Nat):List Int:=((Za c).filter (λa=>kq a==q)).map (λa=>b.getD a 0)
theorem xk{b:List Int}{q a:Nat}(c:kq a=q):ff b q (a+1)=ff b q a++[b.getD a 0]:=by
 simp [ff,List.range_succ,c]
theorem zJ{b:List Int}{q a:Nat}(c:kq a≠q):ff b q (a+1)=ff b q a:=by
 simp [ff,List.range_succ,c]
theorem sh(b:List Int)(q a:Nat):(ff b q a).length<=a:=by
 unfold ff;rw [List.length_map];have:=List.length_filter_le (λc=>kq c==q) (Za a)
 simpa using this
def Ac(b a:Nat):Nat:=if b%2=0 then b - a else a
def iW(c a:Nat):Nat->List Int
 |0=>[]
 |b+1=>if a - Ac a b<c/\Ac a b<c then iW c a b++[((Ac a b*c+(a - Ac a b):Nat):Int)] else iW c a b
def iU(b:Nat):Nat->List Int
 |0=>[]
 |a+1=>iU b a++iW b a (a+1)
theorem pq{n s k:Nat}(a:s - Ac s k<n/\Ac s k<n):iW n s (k+1)=iW n s k++[((Ac s k*n+(s - Ac s k):Nat):Int)]:=by
 rw [iW,if_pos a]
theorem jL{n s k:Nat}(a:¬(s - Ac s k<n/\Ac s k<n)):iW n s (k+1)=iW n s k:=by
 rw [iW,if_neg a]
theorem q'(b c a:Nat):(iW b c a).length<=a:=by
 induction a with
 |zero=>simp [iW]
 |succ a f=>
  rw [iW];split
  .rw [Yq];simp only [List.length_cons,List.length_nil];omega
  .omega
theorem zt(b a:Nat):(iU b a).length<=a*(a+1):=by
 induction a with
 |zero=>simp [iU]
 |succ a f=>
  rw [iU,Yq];have:=q' b a (a+1)
  have c:(a+1)*(a+1+1)=a*(a+1)+2*(a+1):=by simp only [Nat.add_mul,Nat.mul_add];omega
  omega
def FM(a:Int):List Int:=if a=4 then iU 4 7 else if a=8 then iU 8 15 else []
def iI(a:Int):Bool:=decide (8<=a)&&(decide (a<=32)&&a%8==0)
def gH(b a:Int)(c:List Int):Bool:=iI b&&(iI a&&(decide ((c.length:Int)=b*a)&&ax c 0 255))
theorem rF{a:Int}(b:iI a=true):a=8∨a=16∨a=24∨a=32:=by
 unfold iI at b;simp only [YV,decide_eq_true_eq,beq_iff_eq] at b;omega
theorem DH{a:Int}(b:a=8∨a=16∨a=24∨a=32):iI a=true:=by
 rcases b with rfl|rfl|rfl|rfl<;>decide
structure nM(W H:Int)(pix:List Int):Prop where
 w:W=8∨W=16∨W=24∨W=32
 h:H=8∨H=16∨H=24∨H=32
 len:(pix.length:Int)=W*H
 pix:ax pix 0 255=true
theorem dw{h g:Int}{i:List Int}:gH h g i=true↔nM h g i:=by
 unfold gH;simp only [YV,decide_eq_true_eq];constructor
 .rintro⟨a,b,c,f⟩;exact⟨rF a,rF b,c,f⟩
 .rintro⟨a,b,c,f⟩;exact⟨DH a,DH b,c,f⟩
theorem nM.bd{c b:Int}{a:List Int}(f:nM c b a):64<=a.length/\a.length<=1024:=by
 obtain⟨g,h,i,_⟩:=f
 rcases g with rfl|rfl|rfl|rfl<;>rcases h with rfl|rfl|rfl|rfl<;>omega
def aJ(b a:Int):Int:=min (max b 0) (a - 1)
theorem xJ{n:Int}(b:8<=n)(a:Int):0<=aJ a n/\aJ a n<n:=by unfold aJ;omega
def Va(a b c f:Int):Nat:=(aJ f b*a+aJ c a).toNat
def tU(b a:Int)(c:List Int)(f g:Int):Int:=c.getD (Va b a f g) 0
theorem lP{a b:Int}{g:List Int}(h:nM a b g)(f c:Int):0<=aJ c b*a+aJ f a/\aJ c b*a+aJ f a<g.length/\0<=aJ c b*a/\aJ c b*a<=1024:=by
 obtain⟨i,j,k,_⟩:=h;have o:=xJ (n:=a) O f;have p:=xJ (n:=b) O c;rw [k];generalize aJ f a=l at*;generalize aJ c b=m at*
 rcases i with rfl|rfl|rfl|rfl<;>rcases j with rfl|rfl|rfl|rfl<;>omega
theorem MO{b a:Int}{c:List Int}(h:nM b a c)(f g:Int):0<=tU b a c f g/\tU b a c f g<=255:=aQ h.pix O O _
def qS(f c:Int)(g:List Int)(h i:Int)(b a:Nat):Int:=tU f c g (h+(a%b:Nat)) (i+(a / b:Nat))
def Fg(c b:Int)(f:List Int)(g h:Int)(a:Nat):List Int:=bQ (qS c b f g h a) (a*a)
theorem BL(c b:Int)(f:List Int)(g h:Int)(a:Nat):(Fg c b f g h a).length=a*a:=bO ..
theorem Bg{b a:Int}{c:List Int}(f:nM b a c)(h i:Int)(g:Nat):ax (Fg b a c h i g) 0 255=true:=by
 unfold Fg;rw [rL];intro j _;exact MO f _ _
def Ff(g f:Int)(h:List Int)(b c a:Int):Bool:=gH g f h&&(decide (1<=a)&&(decide (a<=8)&&(decide (-65536<=b)&&(decide (b<=65536)&&(decide (-65536<=c)&&decide (c<=65536))))))
def Fp(g f b c a:Int):Bool:=decide (0<=b)&&(decide (0<=c)&&(decide (b<=g - a)&&decide (c<=f - a)))
theorem nb{n j i:Nat}(a:i<n):(j*n+i)%n=i/\(j*n+i) / n=j:=by
 have b:0<n:=O;constructor
 .rw [Nat.add_comm,Nat.add_mul_mod_self_right,Nat.mod_eq_of_lt a]
 .rw [Nat.add_comm,Nat.add_mul_div_right _ _ b,Nat.div_eq_of_lt a,Nat.zero_add]
theorem Nz{W H:Int}{pix:List Int}{x y:Int}{b j a:Nat}(c:a<b):qS W H pix x y b (j*b+a)=tU W H pix (x+a) (y+j):=by
 unfold qS;rw [(nb c).1,(nb c).2]
def IC(b f g c i:Nat)(h j:List Int)(a:Nat):Int:=
 if g<=a / b/\a / b<g+c/\f<=a%b/\a%b<f+c/\(a / b - g)*c+(a%b - f)<i then h.getD ((a / b - g)*c+(a%b - f)) 0 else j.getD a 0
def kJ(b h i g f:Nat)(c a:List Int):List Int:=bQ (IC b h i g f c a) a.length
def Oe(b g h a:Nat)(c f:List Int):List Int:=kJ b g h a (a*a) c f
theorem gN(b h i g f:Nat)(c a:List Int):(kJ b h i g f c a).length=a.length:=bO ..
theorem Fv(c i j h:Nat)(f a:List Int):kJ c i j h 0 f a=a:=by
 unfold kJ;rw [om (g:=λb=>a.getD b 0) λb _=>by unfold IC;rw [if_neg O]];exact vH a
def spot(c f g b a:Nat):Nat:=(g+a / b)*c+(f+a%b)
theorem Rz{b c y a k:Nat}(h:c+a<=b)(f:0<a):spot b c y a k / b=y+k / a/\spot b c y a k%b=c+k%a:=by
 have g:=Nat.mod_lt k f;unfold spot;have:=nb (n:=b) (j:=y+k / a) (i:=c+k%a) O;exact⟨this.2,this.1⟩
theorem Qi{a c g f b:Nat}(q:c+f<=a)(p:0<f)(m:g<=b / a)(n:c<=b%a)(o:b%a<c+f){k:Nat}(l:(b / a - g)*f+(b%a - c)=k):b=spot a c g f k:=by
 have h:=nb (n:=f) (j:=b / a - g) (i:=b%a - c) O;unfold spot;rw [<-l,h.1,h.2];have:=Nat.div_add_mod b a;rw [(O:g+(b / a - g)=b / a),show c+(b%a - c)=b%a from O,Nat.mul_comm (b / a)];omega
theorem Fu{c h g a b:Nat}{j n:List Int}(r:h+a<=c)(l:0<a)(v:b<a*a)(x:spot c h g a b<n.length):
  kJ c h g a (b+1) j n=(kJ c h g a b j n).set (spot c h g a b) (j.getD b 0):=by
 have w:=Nat.mod_lt b l;have t:b / a<a:=Nat.div_lt_of_lt_mul v;have p:=Rz (y:=g) (k:=b) r l;have u:=Nat.div_add_mod b a
 refine uT (by simp [gN]) λi m=>?_
 rw [gN] at m;rw [xV,gN];unfold kJ;rw [iA m,iA m];by_cases k:spot c h g a b=i
 .subst k
  rw [if_pos ⟨rfl,x⟩];unfold IC;rw [p.1,p.2,Nat.add_sub_cancel_left,Nat.add_sub_cancel_left,Nat.mul_comm (b / a),u];exact if_pos ⟨Nat.le_add_right ..,Nat.add_lt_add_left t g,Nat.le_add_right ..,Nat.add_lt_add_left w h,Nat.lt_succ_self b⟩
 .rw [if_neg (λq=>k q.1)]
  unfold IC;by_cases f:g<=i / c/\i / c<g+a/\h<=i%c/\i%c<h+a
  .by_cases s:(i / c - g)*a+(i%c - h)=b
   .exact absurd (Qi r l f.1 f.2.2.1 f.2.2.2 s).symm k
   .by_cases o:(i / c - g)*a+(i%c - h)<b
    .rw [if_pos ⟨f.1,f.2.1,f.2.2.1,f.2.2.2,O⟩,if_pos ⟨f.1,f.2.1,f.2.2.1,f.2.2.2,o⟩]
    .rw [if_neg (λq=>O),if_neg (λq=>o q.2.2.2.2)]
  .rw [if_neg (λq=>f ⟨q.1,q.2.1,q.2.2.1,q.2.2.2.1⟩),if_neg (λq=>f ⟨q.1,q.2.1,q.2.2.1,q.2.2.2.1⟩)]
def cX(c a:Int)(g:List Int)(f b:Int)(h:List Int):Int:=if gH c a g&&gH f b h then (if c=f/\a=b then 0 else 14) else 2
def gB(b:List (Int×Int)):List Z:=b.flatMap λa=>[A G a.1,A G a.2]
theorem Fc(a b:List (Int×Int)):gB (a++b)=gB a++gB b:=by simp [gB]
theorem mi:∀(a:List (Int×Int)) {j:Nat},j<a.length->(gB a)[j*2]? =K (A G (a.getD j (0,0)).1)/\(gB a)[j*2+1]? =K (A G (a.getD j (0,0)).2)
 |[],j,h=>by simp at h
 |b::c,0,h=>by simp [gB]
 |b::c,j+1,h=>by
  have g:=mi c (j:=j) (by simp at h;omega);have f:gB (b::c)=A G b.1::A G b.2::gB c:=rfl;rw [f,show(j+1)*2=j*2+1+1 from O]
  simpa using g
theorem vh:∀(b:List (Int×Int)) {j:Nat} (a:Int),j<b.length->(gB b).set (j*2+1) (A G a)=gB (b.set j ((b.getD j (0,0)).1,a))
 |[],j,a,h=>by simp at h
 |c::f,0,a,h=>by simp [gB]
 |c::f,j+1,a,h=>by
  have i:=vh f (j:=j) a (by simp at h;omega);have g:gB (c::f)=A G c.1::A G c.2::gB f:=rfl;rw [g,show(j+1)*2+1=(j*2+1)+1+1 from O,YL,YL,i];simp [gB]
def nJ(g:V)(i:Z)(a:List (Int×Int)):Prop:=
 ∃(f:Option Yi) (cap:Nat),i=U f a.length cap/\a.length<=cap/\cap<=YO/\(f=I->cap=0)/\(∀h∈a,bh h.1/\bh h.2)/\
  ∀b,b<a.length->∃c off,f=K ⟨c,off,I⟩/\c<g.heap.size/\g.cell? ⟨c,off+b*2,I⟩=K (A G (a.getD b (0,0)).1)/\g.cell? ⟨c,off+b*2+1,I⟩=K (A G (a.getD b (0,0)).2)
theorem nJ.nil(b:V):nJ b (U I 0 0) []:=⟨I,0,rfl,Y,by simp [YO],λ_=>rfl,Y,λc a=>by simp at a⟩
theorem nJ.ext{f i:V}{h:Z}{g:List (Int×Int)}(n:nJ f h g)(b:X f f i):nJ i h g:=by
 obtain⟨j,cap,rfl,o,q,r,t,s⟩:=n;refine⟨j,cap,rfl,o,q,r,t,λv u=>?_⟩;obtain⟨a,off,m,c,k,l⟩:=s v u;exact⟨a,off,m,Yv c b.size,by rw [b.cell (p:=⟨a,_,I⟩) c];exact k,by rw [b.cell (p:=⟨a,_,I⟩) c];exact l⟩
theorem nJ.len{g:V}{f:Z}{a:List (Int×Int)}(b:nJ g f a):a.length<=9223372036854775807:=by
 obtain⟨h,cap,_,i,c,_⟩:=b;unfold YO at c;omega
theorem nJ.bh{i:V}{h:Z}{a:List (Int×Int)}(f:nJ i h a)(b:Nat):Proofs.YtajkpgaheechmaaGreatDoor.bh (a.getD b (0,0)).1/\Proofs.YtajkpgaheechmaaGreatDoor.bh (a.getD b (0,0)).2:=by
 obtain⟨j,cap,_,k,l,_,g,_⟩:=f;by_cases c:b<a.length
 .rw [Yp,YM c];exact g _ (List.getElem_mem c)
 .rw [Yp,List.getElem?_eq_none O];simp [Proofs.YtajkpgaheechmaaGreatDoor.bh]
theorem nJ.cellAt{c:V}{f:Option Yi}{n cap:Nat}{b:List (Int×Int)}(h:nJ c (U f n cap) b){j:Nat}(k:j<b.length):
  ∃a off,f=K ⟨a,off,I⟩/\a<c.heap.size/\c.cell? ⟨a,off+j*2,I⟩=K (A G (b.getD j (0,0)).1)/\c.cell? ⟨a,off+j*2+1,I⟩=K (A G (b.getD j (0,0)).2):=by
 obtain⟨l,m,g,_,_,_,_,i⟩:=h;cases g;exact i j k
def gi(g:V)(c:Nat)(f:Z)(a:List (Int×Int)):Prop:=g.ownsRow c 228 2 f a.length (gB a)/\∀b∈a,bh b.1/\bh b.2
theorem gi.nil(b:V)(a:Nat):gi b a (U I 0 0) []:=⟨YC b a _ 2,Y⟩
theorem gi.ext{a h:V}{b:Nat}{g:Z}{c:List (Int×Int)}(f:gi a b g c)(i:X a a h):gi h b g c:=⟨aG f.1 i,f.2⟩
theorem gi.mono{g:V}{a B':Nat}{f:Z}{b:List (Int×Int)}(c:gi g a f b)(h:B'<=a):gi g B' f b:=⟨aA c.1 h,c.2⟩
theorem gi.Uh{c:V}{h:Nat}{g:Z}{b:List (Int×Int)}(a:gi c h g b):nJ c g b:=by
 obtain⟨a,m⟩:=a
 rcases aV a with⟨rfl,j⟩|⟨i,cap,rfl, -,n,k,l, -⟩
 .obtain rfl:=List.length_eq_zero_iff.1 j
  exact nJ.nil c
 .refine⟨_,cap,rfl,k,l,λa=>(by cases a),m,λo f=>⟨i,0,rfl,n,?_,?_⟩⟩
  .rw [Nat.zero_add];exact au a (mi b f).1
  .rw [Nat.zero_add];exact au a (mi b f).2
theorem gi.at{w:V}{B:Nat}{g:Z}{b:List (Int×Int)}(c:gi w B g b)(p:0<b.length):
  ∃a cap,g=U (K ⟨a,0,I⟩) b.length cap/\B<=a/\a<w.heap.size/\(∀j,j<b.length->w.cell? ⟨a,j*2,I⟩=K (A G (b.getD j (0,0)).1)/\w.cell? ⟨a,j*2+1,I⟩=K (A G (b.getD j (0,0)).2))/\(∀j,w.frozen? ⟨a,j,I⟩=false):=by
 obtain⟨c,o⟩:=c
 rcases aV c with⟨rfl,l⟩|⟨a,cap,rfl,h,k,m,n,i, -⟩
 .omega
 .exact⟨a,cap,rfl,h,k,λj f=>⟨au c (mi b f).1,au c (mi b f).2⟩,i⟩
theorem gi.Va{c:V}{g b:Nat}{i:Z}{f:List (Int×Int)}(k:gi c g i f)(o:f.length=b+1):
  ∃a cap,i=U (K ⟨a,0,I⟩) (b+1) cap/\g<=a/\a<c.heap.size/\c.cell? ⟨a,b*2,I⟩=K (A G (f.getD b (0,0)).1)/\c.cell? ⟨a,b*2+1,I⟩=K (A G (f.getD b (0,0)).2)/\(∀p,c.frozen? ⟨a,p,I⟩=false):=by
 obtain⟨a,cap,j,l,m,h,n⟩:=k.at O;exact⟨a,cap,by rw [j,o],l,m,(h b O).1,(h b O).2,n⟩
theorem gi.set{k:V}{j g cap:Nat}{a:List (Int×Int)}(f:gi k j (U (K g) a.length cap) a){c:Nat}(i:c<a.length)(b:Int)(l:bh b):
  gi (k.setCell ⟨g,c*2+1,I⟩ (A G b)) j (U (K g) a.length cap) (a.set c ((a.getD c (0,0)).1,b)):=by
 have o:=f.1;have:=(f.1.stored (c*2+1) (A G b)).1;rw [vh a b i] at this;refine⟨by rw [List.length_set];exact this,λn m=>?_⟩
 rcases List.mem_or_eq_of_mem_set m with h|h
 .exact f.2 n h
 .rw [h];exact⟨by rw [Yp,YM i];exact(f.2 _ (List.getElem_mem i)).1,l⟩
theorem gi.VR{i:V}{g f cap a:Nat}{c:List (Int×Int)}(h:gi i g (U (K f) (a+1) cap) c)(k:c.length=a+1)(b:Int)(j:bh b):
  gi (i.setCell ⟨f,a*2+1,I⟩ (A G b)) g (U (K f) (a+1) cap) (c.set a ((c.getD a (0,0)).1,b)):=by
 rw [<-k] at h⊢;exact h.set O b j
theorem gi.app{i:V}{h:Nat}{v':Z}{a:List (Int×Int)}{f g:Int}(j:i.ownsRow h 228 2 v' (a.length+1) (gB a++[A G f,A G g]))(k:∀c∈a,bh c.1/\bh c.2)(m:bh f)(n:bh g):
  gi i h v' (a++[(f,g)]):=by
 refine⟨by rw [Fc,Yq];exact j,λc l=>?_⟩
 rcases List.mem_append.1 l with b|b
 .exact k c b
 .simp at b;rw [b];exact⟨m,n⟩
theorem NO:(prog.info? 228).map (λa=>(a.zero,a.size,a.bytes))=K (K (Yc #[A G 0,A G 0]),2,16):=B
theorem Tm:prog.underlying 109=K (.slice 228):=underlying109
theorem Frames.len{g:V}{f:Z}{a:List Fr}(b:Frames g f a):a.length<=9223372036854775807:=by
 obtain⟨h,cap,_,i,c,_⟩:=b;unfold YO at c;omega
theorem Frames.dm{i:V}{c:Z}{b:List Fr}(g:Frames i c b){n:Nat}(h:b.length=n):∃a cap,c=U a n cap:=by
 obtain⟨a,cap,f,_⟩:=g;exact⟨a,cap,by rw [f,h]⟩
theorem nJ.dm{i:V}{c:Z}{b:List (Int×Int)}(g:nJ i c b){n:Nat}(h:b.length=n):∃a cap,c=U a n cap:=by
 obtain⟨a,cap,f,_⟩:=g;exact⟨a,cap,by rw [f,h]⟩
theorem gi.dm{i:V}{c:Nat}{b:Z}{a:List (Int×Int)}(g:gi i c b a){n:Nat}(h:a.length=n):∃f cap,b=U f n cap:=g.Uh.dm h
theorem Frames.cellAt{c:V}{i:Option Yi}{n cap:Nat}{a:List Fr}(p:Frames c (U i n cap) a){j:Nat}(r:j<a.length):
  ∃b off g f,i=K ⟨b,off,I⟩/\b<c.heap.size/\c.cell? ⟨b,off+j*3,I⟩=K (A G (a.getD j Fr.ae).W)/\c.cell? ⟨b,off+j*3+1,I⟩=K (A G (a.getD j Fr.ae).H)/\
   c.cell? ⟨b,off+j*3+2,I⟩=K (.slice g (a.getD j Fr.ae).pix.length f)/\aO c (Yc #[A G (a.getD j Fr.ae).W,A G (a.getD j Fr.ae).H,.slice g (a.getD j Fr.ae).pix.length f]) (a.getD j Fr.ae).W (a.getD j Fr.ae).H (a.getD j Fr.ae).pix:=by
 obtain⟨u,v,h,_,_,_,q⟩:=p;cases h;obtain⟨b,off,w,h,k,m,o,s,t,l⟩:=q j r;obtain⟨g,f,rfl⟩:=l.shape;exact⟨b,off,g,f,h,Yj c _ k,k,m,o,⟨_,rfl,s,t,l⟩⟩
theorem IN(b:Int)(h:V):d prog 233 #[A G b] h λa j=>a=e (.bool (iI b))/\h=j:=by
 by_cases f:8<=b
 .by_cases g:b<=32
  .by_cases c:b%8=0
   .have a:iI b=true:=by simp [iI,f,g,c]
    have i:(b%8==0)=true:=by simpa using c
    rw [a];clear a c;go_enter func233,ntmps233;go_wp2;go_returns;exact⟨rfl,rfl⟩
   .have a:iI b=false:=by simp [iI,c]
    have i:(b%8==0)=false:=by simpa using c
    rw [a];clear a c;go_enter func233,ntmps233;go_wp2;go_returns;exact⟨rfl,rfl⟩
  .have a:iI b=false:=by simp [iI,g]
   rw [a];clear a;go_enter func233,ntmps233;go_wp2;go_returns;exact⟨rfl,rfl⟩
 .have a:iI b=false:=by simp [iI,f]
  rw [a];clear a;go_enter func233,ntmps233;go_wp2;go_returns;exact⟨rfl,rfl⟩
def nG(a:Int):Bool:=decide (0<=a)&&decide (a<=255)
theorem IM(a:Int)(f:V):d prog 234 #[A G a] f λg h=>g=e (.bool (nG a))/\f=h:=by
 by_cases b:0<=a
 .by_cases c:a<=255
  .rw [show nG a=true from by simp [nG,b,c]]
   go_enter func234,ntmps234;go_wp2;go_returns;exact⟨rfl,rfl⟩
  .rw [show nG a=false from by simp [nG,c]]
   go_enter func234,ntmps234;go_wp2;go_returns;exact⟨rfl,rfl⟩
 .rw [show nG a=false from by simp [nG,b]]
  go_enter func234,ntmps234;go_wp2;go_returns;exact⟨rfl,rfl⟩
theorem Ls(a:Int)(f:V):d prog 277 #[A G a] f λb i=>b=e (.bool (mz 0 255 a))/\f=i:=by
 have b:mz 0 255 a=!nG a:=by
  unfold mz nG;by_cases g:0<=a<;>by_cases h:a<=255<;>simp [g,h]<;>omega
 have c:=IM a;have C:=E c;rw [b];clear b c;generalize nG a=j at*;go_enter func277,ntmps277
 go_wp2_with fail
 refine(C.o _).mono ?_;rintro b k ⟨rfl,rfl⟩;go_wp2;go_returns;exact⟨rfl,rfl⟩
theorem kj(f:Z)(b:List Int)(a:V)(h:aY a f b):
  d prog 259 #[f] a λg k=>g=e (.bool (ax b 0 255))/\a=k:=by
 have c:=fW 277 f277 func277 B B #[] (mz 0 255) f b a h (λl _=>Ls l a);rw [yS] at c;have i:=E c;clear c h;generalize ax b 0 255=j at*;cases j<;>
 .go_enter func259,ntmps259
  go_wp2_with fail
  refine i.o.mono ?_;rintro g m ⟨rfl,rfl⟩;go_wp2;go_returns;exact⟨rfl,rfl⟩
theorem cR(q:Z)(c b:Int)(f:List Int)(g:V)(w:aO g q c b f):
  d prog 227 #[q] g λa y=>a=e (.bool (gH c b f))/\X g g y:=by
 obtain⟨x,rfl,u,t,l⟩:=w;have D:=l.len
 have h:=λg=>IN c g
 have j:=λg=>IN b g
 have s:=E l
 have p:=λg l=>kj x f g l
 obtain⟨F,cap,rfl⟩:=l.shape;have r:=E p;clear l p u t
 cases hw:iI c with
 |false=>
  rw [hw] at h
  have a:gH c b f=false:=by simp [gH,hw]
  rw [a];have m:=E h;clear h hw a;go_enter func227,ntmps227
  go_wp2_with fail
  refine(m.o _).mono ?_;rintro a i ⟨rfl,rfl⟩;go_wp2;go_returns;exact⟨rfl,N⟩
 |true=>
  rw [hw] at h;have m:=E h
  cases hh:iI b with
  |false=>
   rw [hh] at j
   have a:gH c b f=false:=by simp [gH,hh]
   rw [a];have n:=E j;clear h j hw hh a;go_enter func227,ntmps227
   go_wp2_with fail
   refine(m.o _).mono ?_;rintro a i ⟨rfl,rfl⟩
   go_wp2_with fail
   refine(n.o _).mono ?_;rintro a i ⟨rfl,rfl⟩;go_wp2;go_returns;exact⟨rfl,N⟩
  |true=>
   rw [hh] at j;have n:=E j
   have C:0<=c*b/\c*b<=1024:=by
    rcases rF hw with rfl|rfl|rfl|rfl<;>rcases rF hh with rfl|rfl|rfl|rfl<;>decide
   have a:gH c b f=(decide ((f.length:Int)=c*b)&&ax f 0 255):=by simp [gH,hw,hh]
   rw [a];have J:Zc G (c*b)=c*b:=Yx _ O;clear h j hw hh a;by_cases k:(f.length:Int)=c*b
   .have v:((f.length:Int)==c*b)=true:=by simpa using k
    rw [decide_eq_true k,Bool.true_and];clear k;generalize ax f 0 255=z at*;go_enter func227,ntmps227
    go_wp2_with fail
    refine(m.o _).mono ?_;rintro a i ⟨rfl,rfl⟩
    go_wp2_with fail
    refine(n.o _).mono ?_;rintro a i ⟨rfl,rfl⟩
    go_wp2_with fail
    refine(r.o _ (s.o.ext N)).mono ?_;rintro a i ⟨rfl,rfl⟩;go_wp2;go_returns;exact⟨rfl,N⟩
   .have v:((f.length:Int)==c*b)=false:=by simpa using k
    rw [decide_eq_false k,Bool.false_and];clear k;go_enter func227,ntmps227
    go_wp2_with fail
    refine(m.o _).mono ?_;rintro a i ⟨rfl,rfl⟩
    go_wp2_with fail
    refine(n.o _).mono ?_;rintro a i ⟨rfl,rfl⟩;go_wp2;go_returns;exact⟨rfl,N⟩
theorem aO.cells{i:V}{h:Z}{f c:Int}{b:List Int}(j:aO i h f c b):∃a cap,h=Yc #[A G f,A G c,U a b.length cap]/\aY i (U a b.length cap) b:=by
 obtain⟨k,rfl,_,_,g⟩:=j;obtain⟨a,cap,rfl⟩:=g.shape;exact⟨a,cap,rfl,g⟩
theorem aY.gQ{b:V}{f:Option Yi}{m cap:Nat}{c:List Int}(i:aY b (U f m cap) c){j:Nat}(l:j<c.length):∃a off,f=K ⟨a,off,I⟩/\b.cell? ⟨a,off+j,I⟩=K (A G (c.getD j 0))/\a<b.heap.size:=by
 obtain⟨n,o,g,_,_,_,_,k⟩:=i;simp only [Yy] at g;obtain⟨rfl, -,rfl⟩:=g;obtain⟨a,off,rfl,h⟩:=k j l;exact⟨a,off,rfl,h,Yj b _ h⟩
theorem FT(s:Z)(a b:Int)(g:List Int)(c f:Int)(k:V)(r:aO k s a b g)(i:nM a b g)(R:c<0)(T:f<0):
  d prog 278 #[s,A G c,A G f] k λt w=>t=e (A G (tU a b g c f))/\X k k w:=by
 have n:8<=a/\a<=32:=by have:=i.w;omega
 have m:8<=b/\b<=32:=by have:=i.h;omega
 obtain⟨n,C⟩:=n;obtain⟨m,z⟩:=m;have p:=lP i c f;have l:tU a b g c f=g.getD (aJ f b*a+aJ c a).toNat 0:=rfl;rw [show aJ f b=0 from by unfold aJ;omega,show aJ c a=0 from by unfold aJ;omega] at p l;rw [l];obtain⟨x,cap,rfl,q⟩:=r.cells;obtain⟨y,o,rfl,u,P⟩:=q.gQ (j:=(0*a+0).toNat) O;obtain⟨D,F,J,L⟩:=p;generalize v:g.getD (0*a+0).toNat 0=W at*;clear v q r i l;simp only [Int.zero_mul,Int.zero_add,Int.add_zero] at*;rw [show(0:Int).toNat=0 from rfl,Nat.add_zero] at u;go_enter func278,ntmps278;go_wp2;go_returns;exact⟨rfl,N⟩
theorem FU(s:Z)(a c:Int)(g:List Int)(b f:Int)(k:V)(r:aO k s a c g)(i:nM a c g)(R:0<=b/\b<=a - 1)(T:f<0):
  d prog 278 #[s,A G b,A G f] k λt v=>t=e (A G (tU a c g b f))/\X k k v:=by
 have n:8<=a/\a<=32:=by have:=i.w;omega
 have m:8<=c/\c<=32:=by have:=i.h;omega
 obtain⟨n,z⟩:=n;obtain⟨m,y⟩:=m;have p:=lP i b f;have l:tU a c g b f=g.getD (aJ f c*a+aJ b a).toNat 0:=rfl;rw [show aJ f c=0 from by unfold aJ;omega,show aJ b a=b from by unfold aJ;omega] at p l;rw [l];obtain⟨w,cap,rfl,q⟩:=r.cells;obtain⟨x,o,rfl,P,L⟩:=q.gQ (j:=(0*a+b).toNat) O;obtain⟨C,D,F,J⟩:=p;generalize u:g.getD (0*a+b).toNat 0=W at*;clear u q r i l;simp only [Int.zero_mul,Int.zero_add,Int.add_zero] at*;go_enter func278,ntmps278;go_wp2;go_returns;exact⟨rfl,N⟩
theorem FX(s:Z)(a b:Int)(g:List Int)(c f:Int)(k:V)(r:aO k s a b g)(i:nM a b g)(R:a - 1<c)(T:f<0):
  d prog 278 #[s,A G c,A G f] k λt w=>t=e (A G (tU a b g c f))/\X k k w:=by
 have n:8<=a/\a<=32:=by have:=i.w;omega
 have m:8<=b/\b<=32:=by have:=i.h;omega
 obtain⟨n,C⟩:=n;obtain⟨m,z⟩:=m;have p:=lP i c f;have l:tU a b g c f=g.getD (aJ f b*a+aJ c a).toNat 0:=rfl;rw [show aJ f b=0 from by unfold aJ;omega,show aJ c a=(a - 1) from by unfold aJ;omega] at p l;rw [l];obtain⟨x,cap,rfl,q⟩:=r.cells;obtain⟨y,o,rfl,u,P⟩:=q.gQ (j:=(0*a+(a - 1)).toNat) O;obtain⟨D,F,J,L⟩:=p;generalize v:g.getD (0*a+(a - 1)).toNat 0=W at*;clear v q r i l;simp only [Int.zero_mul,Int.zero_add,Int.add_zero] at*;rw [(O:(a - 1).toNat=a.toNat - 1)] at u;go_enter func278,ntmps278;go_wp2;go_returns;exact⟨rfl,N⟩
theorem FY(s:Z)(a c:Int)(g:List Int)(f b:Int)(k:V)(r:aO k s a c g)(i:nM a c g)(R:f<0)(T:0<=b/\b<=c - 1):
  d prog 278 #[s,A G f,A G b] k λt v=>t=e (A G (tU a c g f b))/\X k k v:=by
 have n:8<=a/\a<=32:=by have:=i.w;omega
 have m:8<=c/\c<=32:=by have:=i.h;omega
 obtain⟨n,z⟩:=n;obtain⟨m,y⟩:=m;have p:=lP i f b;have l:tU a c g f b=g.getD (aJ b c*a+aJ f a).toNat 0:=rfl;rw [show aJ b c=b from by unfold aJ;omega,show aJ f a=0 from by unfold aJ;omega] at p l;rw [l];obtain⟨w,cap,rfl,q⟩:=r.cells;obtain⟨x,o,rfl,P,L⟩:=q.gQ (j:=(b*a+0).toNat) O;obtain⟨C,D,F,J⟩:=p;generalize u:g.getD (b*a+0).toNat 0=W at*;clear u q r i l;simp only [Int.zero_mul,Int.zero_add,Int.add_zero] at*;go_enter func278,ntmps278;go_wp2;go_returns;exact⟨rfl,N⟩
theorem FZ(s:Z)(a f:Int)(g:List Int)(b c:Int)(k:V)(r:aO k s a f g)(i:nM a f g)(R:0<=b/\b<=a - 1)(T:0<=c/\c<=f - 1):
  d prog 278 #[s,A G b,A G c] k λt v=>t=e (A G (tU a f g b c))/\X k k v:=by
 have n:8<=a/\a<=32:=by have:=i.w;omega
 have m:8<=f/\f<=32:=by have:=i.h;omega
 obtain⟨n,z⟩:=n;obtain⟨m,y⟩:=m;have p:=lP i b c;have l:tU a f g b c=g.getD (aJ c f*a+aJ b a).toNat 0:=rfl;rw [show aJ c f=c from by unfold aJ;omega,show aJ b a=b from by unfold aJ;omega] at p l;rw [l];obtain⟨w,cap,rfl,q⟩:=r.cells;obtain⟨x,o,rfl,P,L⟩:=q.gQ (j:=(c*a+b).toNat) O;obtain⟨C,D,F,J⟩:=p;generalize u:g.getD (c*a+b).toNat 0=W at*;clear u q r i l;go_enter func278,ntmps278;go_wp2;go_returns;exact⟨rfl,N⟩
theorem F_(s:Z)(a c:Int)(g:List Int)(f b:Int)(k:V)(r:aO k s a c g)(i:nM a c g)(R:a - 1<f)(T:0<=b/\b<=c - 1):
  d prog 278 #[s,A G f,A G b] k λt v=>t=e (A G (tU a c g f b))/\X k k v:=by
 have n:8<=a/\a<=32:=by have:=i.w;omega
 have m:8<=c/\c<=32:=by have:=i.h;omega
 obtain⟨n,z⟩:=n;obtain⟨m,y⟩:=m;have p:=lP i f b;have l:tU a c g f b=g.getD (aJ b c*a+aJ f a).toNat 0:=rfl;rw [show aJ b c=b from by unfold aJ;omega,show aJ f a=(a - 1) from by unfold aJ;omega] at p l;rw [l];obtain⟨w,cap,rfl,q⟩:=r.cells;obtain⟨x,o,rfl,P,L⟩:=q.gQ (j:=(b*a+(a - 1)).toNat) O;obtain⟨C,D,F,J⟩:=p;generalize u:g.getD (b*a+(a - 1)).toNat 0=W at*;clear u q r i l;go_enter func278,ntmps278;go_wp2;go_returns;exact⟨rfl,N⟩
theorem F'(s:Z)(b a:Int)(g:List Int)(c f:Int)(k:V)(r:aO k s b a g)(i:nM b a g)(R:c<0)(T:a - 1<f):
  d prog 278 #[s,A G c,A G f] k λt v=>t=e (A G (tU b a g c f))/\X k k v:=by
 have n:8<=b/\b<=32:=by have:=i.w;omega
 have m:8<=a/\a<=32:=by have:=i.h;omega
 obtain⟨n,z⟩:=n;obtain⟨m,y⟩:=m;have p:=lP i c f;have l:tU b a g c f=g.getD (aJ f a*b+aJ c b).toNat 0:=rfl;rw [show aJ f a=(a - 1) from by unfold aJ;omega,show aJ c b=0 from by unfold aJ;omega] at p l;rw [l];obtain⟨w,cap,rfl,q⟩:=r.cells;obtain⟨x,o,rfl,P,L⟩:=q.gQ (j:=((a - 1)*b+0).toNat) O;obtain⟨C,D,F,J⟩:=p;generalize u:g.getD ((a - 1)*b+0).toNat 0=W at*;clear u q r i l;simp only [Int.zero_mul,Int.zero_add,Int.add_zero] at*;go_enter func278,ntmps278;go_wp2;go_returns;exact⟨rfl,N⟩
theorem Ga(s:Z)(b a:Int)(g:List Int)(c f:Int)(k:V)(r:aO k s b a g)(i:nM b a g)(R:0<=c/\c<=b - 1)(T:a - 1<f):
  d prog 278 #[s,A G c,A G f] k λt v=>t=e (A G (tU b a g c f))/\X k k v:=by
 have n:8<=b/\b<=32:=by have:=i.w;omega
 have m:8<=a/\a<=32:=by have:=i.h;omega
 obtain⟨n,z⟩:=n;obtain⟨m,y⟩:=m;have p:=lP i c f;have l:tU b a g c f=g.getD (aJ f a*b+aJ c b).toNat 0:=rfl;rw [show aJ f a=(a - 1) from by unfold aJ;omega,show aJ c b=c from by unfold aJ;omega] at p l;rw [l];obtain⟨w,cap,rfl,q⟩:=r.cells;obtain⟨x,o,rfl,P,L⟩:=q.gQ (j:=((a - 1)*b+c).toNat) O;obtain⟨C,D,F,J⟩:=p;generalize u:g.getD ((a - 1)*b+c).toNat 0=W at*;clear u q r i l;go_enter func278,ntmps278;go_wp2;go_returns;exact⟨rfl,N⟩
theorem Gb(s:Z)(a b:Int)(g:List Int)(c f:Int)(k:V)(r:aO k s a b g)(i:nM a b g)(R:a - 1<c)(T:b - 1<f):
  d prog 278 #[s,A G c,A G f] k λt v=>t=e (A G (tU a b g c f))/\X k k v:=by
 have n:8<=a/\a<=32:=by have:=i.w;omega
 have m:8<=b/\b<=32:=by have:=i.h;omega
 obtain⟨n,z⟩:=n;obtain⟨m,y⟩:=m;have p:=lP i c f;have l:tU a b g c f=g.getD (aJ f b*a+aJ c a).toNat 0:=rfl;rw [show aJ f b=(b - 1) from by unfold aJ;omega,show aJ c a=(a - 1) from by unfold aJ;omega] at p l;rw [l];obtain⟨w,cap,rfl,q⟩:=r.cells;obtain⟨x,o,rfl,P,L⟩:=q.gQ (j:=((b - 1)*a+(a - 1)).toNat) O;obtain⟨C,D,F,J⟩:=p;generalize u:g.getD ((b - 1)*a+(a - 1)).toNat 0=W at*;clear u q r i l;go_enter func278,ntmps278;go_wp2;go_returns;exact⟨rfl,N⟩
theorem Rb(k:Z)(f c:Int)(h:List Int)(a b:Int)(g:V)(m:aO g k f c h)(l:nM f c h):
  d prog 278 #[k,A G a,A G b] g λn o=>n=e (A G (tU f c h a b))/\X g g o:=by
 rcases(O:b<0∨(0<=b/\b<=c - 1)∨c - 1<b) with j|j|j<;>rcases(O:a<0∨(0<=a/\a<=f - 1)∨f - 1<a) with i|i|i
 .exact FT k f c h a b g m l i j
 .exact FU k f c h a b g m l i j
 .exact FX k f c h a b g m l i j
 .exact FY k f c h a b g m l i j
 .exact FZ k f c h a b g m l i j
 .exact F_ k f c h a b g m l i j
 .exact F' k f c h a b g m l i j
 .exact Ga k f c h a b g m l i j
 .exact Gb k f c h a b g m l i j
theorem zD(n:Z)(c b:Int)(t:List Int)(f g a:Int)(h:V)(m:aO h n c b t)(q:8<=c/\c<=32)(p:8<=b/\b<=32)(r:0<=a/\a<=8):
  d prog 315 #[n,A G f,A G g,A G a] h λo u=>o=e (.bool (Fp c b f g a))/\X h h u:=by
 obtain⟨v,cap,rfl,s⟩:=m.cells;obtain⟨y,z⟩:=q;obtain⟨w,x⟩:=p;obtain⟨C,D⟩:=r;clear s m;by_cases i:0<=f
 .by_cases j:0<=g
  .by_cases k:f<=c - a
   .by_cases l:g<=b - a
    .rw [show Fp c b f g a=true from by simp [Fp,i,j,k,l]]
     go_enter func315,ntmps315;go_wp2;go_returns;exact⟨rfl,N⟩
    .rw [show Fp c b f g a=false from by simp [Fp,l]]
     go_enter func315,ntmps315;go_wp2;go_returns;exact⟨rfl,N⟩
   .rw [show Fp c b f g a=false from by simp [Fp,k]]
    go_enter func315,ntmps315;go_wp2;go_returns;exact⟨rfl,N⟩
  .rw [show Fp c b f g a=false from by simp [Fp,j]]
   go_enter func315,ntmps315;go_wp2;go_returns;exact⟨rfl,N⟩
 .rw [show Fp c b f g a=false from by simp [Fp,i]]
  go_enter func315,ntmps315;go_wp2;go_returns;exact⟨rfl,N⟩
theorem AS{c a:Int}{i:List Int}{f b:Int}{j:List Int}(h:cX c a i f b j=0):nM c a i/\nM f b j/\c=f/\a=b:=by
 unfold cX at h;split at h
 .rename_i g
  rw [YV] at g;split at h
  .rename_i k;exact⟨dw.1 g.1,dw.1 g.2,k.1,k.2⟩
  .omega
 .omega
theorem Kd(a6 a5:Z)(g c:Int)(j:List Int)(h f:Int)(k:List Int)(a:V)(a1:aO a a6 g c j)(a0:aO a a5 h f k):
  d prog 257 #[a6,a5] a λb b0=>b=e (bj (cX g c j h f k))/\X a a b0:=by
 have p:=λa a1=>cR a6 g c j a a1
 have z:=λa a0=>cR a5 h f k a a0
 have W:=E a1;have a2:=E a0;obtain⟨r,cap,rfl, -⟩:=a1.cells;obtain⟨s,t,rfl, -⟩:=a0.cells;clear a1 a0
 cases h1:gH g c j with
 |false=>
  rw [h1] at p
  have b:cX g c j h f k=2:=by simp [cX,h1]
  rw [b];have P:=E p;clear p z h1 b;have w:=E (((ai.new a #[A G g,A G c,U r j.length cap] 81).alloc (M #[A G h,A G f,U s k.length t] 81)));have n:=E (ai.new (a.alloc (M #[A G g,A G c,U r j.length cap] 81)) #[A G h,A G f,U s k.length t] 81);simp only [YN] at n;go_enter func257,ntmps257
  go_wp2_with fail
  refine(P.o _ (W.o.ext N)).mono ?_;rintro b C ⟨rfl,l⟩;have q:X a a C:=ext N l;have D:=E (w.o.ext l);have i:=E (n.o.ext l);go_wp2;go_returns;exact⟨rfl,N⟩
 |true=>
  rw [h1] at p;have P:=E p
  cases h2:gH h f k with
  |false=>
   rw [h2] at z
   have b:cX g c j h f k=2:=by simp [cX,h2]
   rw [b];have T:=E z;clear p z h1 h2 b;have w:=E (((ai.new a #[A G g,A G c,U r j.length cap] 81).alloc (M #[A G h,A G f,U s k.length t] 81)));have n:=E (ai.new (a.alloc (M #[A G g,A G c,U r j.length cap] 81)) #[A G h,A G f,U s k.length t] 81);simp only [YN] at n;go_enter func257,ntmps257
   go_wp2_with fail
   refine(P.o _ (W.o.ext N)).mono ?_;rintro b C ⟨rfl,l⟩;have q:X a a C:=ext N l;have D:=E (w.o.ext l);have i:=E (n.o.ext l);have u:_=K _:=i.o.cell 0;have v:_=K _:=i.o.cell 1;have F:_=K _:=i.o.cell 2
   go_wp2_with fail
   clear u v F;refine(T.o _ ((a2.o.ext q).ext N)).mono ?_;rintro b L ⟨rfl,m⟩;have a3:X a a L:=ext q m;have x:=E (D.o.ext m);have y:=E (i.o.ext m);go_wp2;go_returns;exact⟨rfl,N⟩
  |true=>
   rw [h2] at z;have T:=E z;by_cases J:g=h
   .have a8:(g !=h)=false:=by simp [J]
    by_cases R:c=f
    .have a9:(c !=f)=false:=by simp [R]
     have b:cX g c j h f k=0:=by unfold cX;rw [h1,h2];simp [J,R]
     rw [b];clear p z h1 h2 b J R;have w:=E (((ai.new a #[A G g,A G c,U r j.length cap] 81).alloc (M #[A G h,A G f,U s k.length t] 81)));have n:=E (ai.new (a.alloc (M #[A G g,A G c,U r j.length cap] 81)) #[A G h,A G f,U s k.length t] 81);simp only [YN] at n;go_enter func257,ntmps257
     go_wp2_with fail
     refine(P.o _ (W.o.ext N)).mono ?_;rintro b C ⟨rfl,l⟩;have q:X a a C:=ext N l;have D:=E (w.o.ext l);have i:=E (n.o.ext l);have u:_=K _:=i.o.cell 0;have v:_=K _:=i.o.cell 1;have F:_=K _:=i.o.cell 2
     go_wp2_with fail
     clear u v F;refine(T.o _ ((a2.o.ext q).ext N)).mono ?_;rintro b L ⟨rfl,m⟩;have a3:X a a L:=ext q m;have x:=E (D.o.ext m);have y:=E (i.o.ext m);have a7:_=K _:=x.o.cell 0;have u:_=K _:=y.o.cell 0;have p:_=K _:=x.o.cell 1;have v:_=K _:=y.o.cell 1;go_wp2;go_returns;exact⟨rfl,N⟩
    .have a9:(c !=f)=true:=by simp [R]
     have b:cX g c j h f k=14:=by unfold cX;rw [h1,h2];simp [R]
     rw [b];clear p z h1 h2 b J R;have w:=E (((ai.new a #[A G g,A G c,U r j.length cap] 81).alloc (M #[A G h,A G f,U s k.length t] 81)));have n:=E (ai.new (a.alloc (M #[A G g,A G c,U r j.length cap] 81)) #[A G h,A G f,U s k.length t] 81);simp only [YN] at n;go_enter func257,ntmps257
     go_wp2_with fail
     refine(P.o _ (W.o.ext N)).mono ?_;rintro b C ⟨rfl,l⟩;have q:X a a C:=ext N l;have D:=E (w.o.ext l);have i:=E (n.o.ext l);have u:_=K _:=i.o.cell 0;have v:_=K _:=i.o.cell 1;have F:_=K _:=i.o.cell 2
     go_wp2_with fail
     clear u v F;refine(T.o _ ((a2.o.ext q).ext N)).mono ?_;rintro b L ⟨rfl,m⟩;have a3:X a a L:=ext q m;have x:=E (D.o.ext m);have y:=E (i.o.ext m);have a7:_=K _:=x.o.cell 0;have u:_=K _:=y.o.cell 0;have p:_=K _:=x.o.cell 1;have v:_=K _:=y.o.cell 1;go_wp2;go_returns;exact⟨rfl,N⟩
   .have a8:(g !=h)=true:=by simp [J]
    have b:cX g c j h f k=14:=by unfold cX;rw [h1,h2];simp [J]
    rw [b];clear p z h1 h2 b J;have w:=E (((ai.new a #[A G g,A G c,U r j.length cap] 81).alloc (M #[A G h,A G f,U s k.length t] 81)));have n:=E (ai.new (a.alloc (M #[A G g,A G c,U r j.length cap] 81)) #[A G h,A G f,U s k.length t] 81);simp only [YN] at n;go_enter func257,ntmps257
    go_wp2_with fail
    refine(P.o _ (W.o.ext N)).mono ?_;rintro b C ⟨rfl,l⟩;have q:X a a C:=ext N l;have D:=E (w.o.ext l);have i:=E (n.o.ext l);have u:_=K _:=i.o.cell 0;have v:_=K _:=i.o.cell 1;have F:_=K _:=i.o.cell 2
    go_wp2_with fail
    clear u v F;refine(T.o _ ((a2.o.ext q).ext N)).mono ?_;rintro b L ⟨rfl,m⟩;have a3:X a a L:=ext q m;have x:=E (D.o.ext m);have y:=E (i.o.ext m);have a7:_=K _:=x.o.cell 0;have u:_=K _:=y.o.cell 0;have p:_=K _:=x.o.cell 1;have v:_=K _:=y.o.cell 1;go_wp2;go_returns;exact⟨rfl,N⟩
theorem UG(b c:Int)(j:V)(k:0<=b/\b<=255)(l:0<=c/\c<=255):d prog 258 #[A G (b - c)] j λf m=>f=e (A G (eB b c))/\j=m:=by
 obtain⟨a,i⟩:∃a,a=b - c:=⟨_,rfl⟩
 have f:eB b c=max a (-a):=by unfold eB;omega
 rw [f,<-i];have h: -255<=a/\a<=255:=O;obtain⟨h,n⟩:=h;clear f i k l;by_cases p:a< -a
 .have g:Hd (max a (-a)= -a):=by show _=_;omega
  go_enter func258,ntmps258;go_wp2;go_returns;exact⟨by rw [g.o];rfl,rfl⟩
 .have g:Hd (max a (-a)=a):=by show _=_;omega
  go_enter func258,ntmps258;go_wp2;go_returns;exact⟨by rw [g.o];rfl,rfl⟩
theorem zg{b c:List Int}(h:ax b 0 255=true)(i:ax c 0 255=true)(g:Nat):0<=cu g (λa=>eB (b.getD a 0) (c.getD a 0))/\cu g (λa=>eB (b.getD a 0) (c.getD a 0))<=g*255:=by
 have:=rH (n:=g) (f:=λa=>eB (b.getD a 0) (c.getD a 0)) (lo:=0) (hi:=255) λa _=>by
  have j:=aQ h O O a;have k:=aQ i O O a;unfold eB;omega
 omega
theorem yQ{x y:Int}(a:0<=x/\x<=255)(b:0<=y/\y<=255):0<=eB x y/\eB x y<=255:=by unfold eB;omega
theorem PE{c f:List Int}{b:Nat}{h i g:Int}(j:cu b (λa=>eB (c.getD a 0) (f.getD a 0))=g)(k:c.getD b 0=h)(l:f.getD b 0=i):g+eB h i=cu (b+1) (λa=>eB (c.getD a 0) (f.getD a 0)):=by
 rw [gL,j,k,l]
theorem Dg(L J:Z)(j h:Int)(a:List Int)(k i:Int)(b:List Int)(c:V)(p:aO c L j h a)(n:aO c J k i b):
  d prog 226 #[L,J] c λm b7=>m=e (Ye #[A G (MB (cX j h a k i b) (nk a b)),bj (cX j h a k i b)])/\X c c b7:=by
 have r:=λc p n=>Kd L J j h a k i b c p n
 have a3:=E p;have a2:=E n;obtain⟨a8,cap,rfl,y⟩:=p.cells;obtain⟨a9,b0,rfl,z⟩:=n.cells;have c1:=E y;have c2:=E z;by_cases g:cX j h a k i b=0
 .obtain⟨w,F,b1,b2⟩:=AS g
  rw [kN g];rw [g] at r⊢
  have c5:a.length=b.length:=by have:=w.len;have:=F.len;rw [<-b1,<-b2] at this;omega
  have e1:=w.bd.2;have e2:b.length<=a.length:=O;have e3:a.length<=b.length:=O;have x:=E r;have T:=E w.pix;have W:=E F.pix;clear r p n y z g w F b1 b2 c5;have c0:=E ((ai.new c #[A G j,A G h,U a8 a.length cap] 81).alloc (M #[A G k,A G i,U a9 b.length b0] 81));have a0:=E (ai.new (c.alloc (M #[A G j,A G h,U a8 a.length cap] 81)) #[A G k,A G i,U a9 b.length b0] 81);simp only [YN] at a0;go_enter func226,ntmps226
  go_wp2_with fail
  refine(x.o _ (a3.o.ext N) (a2.o.ext N)).mono ?_;rintro m P ⟨rfl,q⟩;have v:X c c P:=ext N q;have g2:_=K _:=(c0.o.ext q).cell 2;have g3:_=K _:=(a0.o.ext q).cell 2;go_wp2;go_loop [7,19] (λc8 l=>∃f:Nat,f<=a.length/\l=A G f/\c8=A G (cu f (λl=>eB (a.getD l 0) (b.getD l 0)))) (λ_ l=>a.length - (Yz l).toNat)
  case atStart=>exact⟨0,Yr _,rfl,rfl⟩
  case round=>
   obtain⟨f,c6,rfl,rfl⟩:=hrel;have b4:=zg T.o W.o f;generalize b3:cu f (λl=>eB (a.getD l 0) (b.getD l 0))=g1 at*;have u:=E b3;obtain⟨b4,e5⟩:=b4;clear b3;by_cases c7:f<a.length
   .obtain⟨c9,e9,e0,g0,rfl,rfl,c3,c4⟩:=lH c1.o c2.o v c7 O
    have e4:f<b.length:=O;have s:=aQ T.o O O f;have t:=aQ W.o O O f;generalize b5:a.getD f 0=b8 at c3 s;generalize b6:b.getD f 0=b9 at c4 t;have C:=E (λc=>UG b8 b9 c s t);have D:=yQ s t;have a6:=E b5;have a7:=E b6;clear b5 b6;obtain⟨s,e6⟩:=s;obtain⟨t,e7⟩:=t;obtain⟨R,g⟩:∃R,R=eB b8 b9:=⟨_,rfl⟩;rw [<-g] at C D;have a5:=E g;obtain⟨D,e8⟩:=D;clear g
    go_wp2_with fail
    refine(C.o _).mono ?_;rintro m b7 ⟨rfl,rfl⟩;have a1:=E (PE u.o a6.o a7.o);rw [<-a5.o] at a1;clear u a6 a7 a5;go_wp2;go_round
    case rel=>exact⟨f+1,O,S,int_eq a1.o⟩
    case measure=>simp [Yz];omega
   .have m:f=a.length:=O
    rw [m] at u;clear m;go_wp2;go_returns;exact⟨by rw [<-u.o]<;>rfl,v⟩
 .rw [oy g]
  have c6:(cX j h a k i b==0)=false:=by simpa using g
  have x:=E r;clear g r p n y z;generalize cX j h a k i b=R at*;go_enter func226,ntmps226
  go_wp2_with fail
  refine(x.o _ (a3.o.ext N) (a2.o.ext N)).mono ?_;rintro m P ⟨rfl,q⟩;have v:X c c P:=ext N q;go_wp2;go_returns;exact⟨rfl,v⟩
theorem ai.three{b:V}{a:Nat}{f g h:Z}{i:Nat}(c:ai b a #[f,g,h] i):b.cell? a=K f/\b.cell? ⟨a,1,I⟩=K g/\b.cell? ⟨a,2,I⟩=K h/\b.frozen? a=false/\b.frozen? ⟨a,1,I⟩=false/\b.frozen? ⟨a,2,I⟩=false:=
 ⟨c.cell 0,c.cell 1,c.cell 2,c.free 0,c.free 1,c.free 2⟩
theorem Kb{a:V}{c b o i:Nat}{j f:Z}(g:b≠c)(h:a.cell? ⟨b,o,I⟩=K f):(a.setCell ⟨c,i,I⟩ j).cell? ⟨b,o,I⟩=K f:=by
 rw [YS (w:=a) (Yt _ _ _ _ g)];exact h
theorem Nk{c:V}{a b o:Nat}{i j k g:Z}(f:b≠a)(h:c.cell? ⟨b,o,I⟩=K g):(((c.setCell a i).setCell ⟨a,1,I⟩ j).setCell ⟨a,2,I⟩ k).cell? ⟨b,o,I⟩=K g:=
 Kb f (Vc f h)
theorem zr{b:Nat->List Z}{c:Nat}(f:∀g,(b g).length=c)(a:Nat):((Za a).flatMap b).length=a*c:=by
 induction a with
 |zero=>simp
 |succ a h=>rw [List.range_succ,List.flatMap_append,Yq,h,List.flatMap_cons,List.flatMap_nil,List.append_nil,f,Nat.succ_mul]
theorem vb{f:Nat->List Z}{m:Nat}(i:∀j,(f j).length=m)(b:Nat){a c:Nat}(n:a<b)(l:c<m):((Za b).flatMap f)[a*m+c]? =(f a)[c]?:=by
 induction b with
 |zero=>omega
 |succ b k=>
  rw [List.range_succ,List.flatMap_append,List.flatMap_cons,List.flatMap_nil,List.append_nil];have h:=zr i b
  rcases Nat.lt_or_ge a b with g|g
  .rw [List.getElem?_append_left (by rw [h];exact Yv (show a*m+c<(a+1)*m by rw [Nat.succ_mul];omega) (Nat.mul_le_mul_right m g))]
   exact k g
  .obtain rfl:a=b:=O
   rw [List.getElem?_append_right (by rw [h];omega),h,Nat.add_sub_cancel_left]
def Nl(b:List Fr)(c:List Z)(a:Nat):List Z:=[A G (b.getD a Fr.ae).W,A G (b.getD a Fr.ae).H,c.getD a Ya]
def uV(a:List Fr)(b:List Z):List Z:=(Za a.length).flatMap (Nl a b)
theorem oQ{f:Type}{b:List f}{h c:f}{a:Nat}(g:a<b.length):(b++[h]).getD a c=b.getD a c:=by
 rw [Yp,List.getElem?_append_left g,<-Yp]
theorem oP{c:Type}{a:List c}{b f:c}:(a++[b]).getD a.length f=b:=Y
theorem ER(a:List Fr)(c:List Z)(b:Fr)(h:Z)(g:c.length=a.length):uV (a++[b]) (c++[h])=uV a c++[A G b.W,A G b.H,h]:=by
 unfold uV;rw [Yq,Zb,List.range_succ,List.flatMap_append];congr 1
 .rw [List.flatMap_def,List.flatMap_def]
  congr 1
  refine List.map_congr_left λj i=>?_
  have f:j<a.length:=by simpa using i
  unfold Nl;rw [oQ f,oQ (by rw [g];exact f)]
 .rw [List.flatMap_cons,List.flatMap_nil,List.append_nil]
  unfold Nl;rw [oP,<-g,oP]
def iw(g:V)(f:Nat)(h:Z)(a:List Fr):Prop:=
 ∃c:List Z,g.ownsRow f 81 3 h a.length (uV a c)/\c.length=a.length/\∀b,b<a.length->aa g f (c.getD b Ya) (a.getD b Fr.ae).pix/\bh (a.getD b Fr.ae).W/\bh (a.getD b Fr.ae).H
theorem iw.nil(b:V)(a:Nat):iw b a (U I 0 0) []:=⟨[],YC b a _ 3,rfl,λf c=>by simp at c⟩
theorem iw.ext{a k:V}{b:Nat}{j:Z}{c:List Fr}(l:iw a b j c)(g:X a a k):iw k b j c:=by
 obtain⟨o,m,n,f⟩:=l;exact⟨o,aG m g,n,λi h=>⟨(f i h).1.ext g,(f i h).2⟩⟩
theorem iw.dm{k:V}{f:Nat}{c:Z}{a:List Fr}(h:iw k f c a){n:Nat}(b:a.length=n):∃g cap,c=U g n cap:=by
 obtain⟨p,j,m,o⟩:=h
 rcases aV j with⟨rfl,i⟩|⟨l,cap,rfl,_⟩
 .exact⟨I,0,by rw [<-b,i]⟩
 .exact⟨_,cap,by rw [b]⟩
theorem iw.vf{i:V}{l:Nat}{k:Z}{j:List Fr}(g:iw i l k j):Frames i k j:=by
 obtain⟨r,b,s,h⟩:=g
 rcases aV b with⟨rfl,o⟩|⟨n,cap,rfl, -,t,p,q, -⟩
 .obtain rfl:=List.length_eq_zero_iff.1 o
  exact Frames.nil i
 .refine⟨_,cap,rfl,p,q,λg=>(by cases g),λf a=>⟨n,0,r.getD f Ya,rfl,?_,?_,?_,(h f a).2.1,(h f a).2.2,(h f a).1.ints⟩⟩
  .rw [Nat.zero_add];exact au b (vb (m:=3) (c:=0) (λ_=>rfl) _ a H)
  .rw [Nat.zero_add];exact au b (vb (m:=3) (c:=1) (λ_=>rfl) _ a H)
  .rw [Nat.zero_add];exact au b (vb (m:=3) (c:=2) (λ_=>rfl) _ a H)
theorem Up:(prog.info? 81).map (λa=>(a.zero,a.size,a.bytes))=K (K (Yc #[A G 0,A G 0,U I 0 0]),3,40):=B
section
variable {ops:Array Oper} {rest:List Oper} {o:Oper} {a:Act} {Q:Exit->Act->V->Prop}
theorem oJ{W:V}(P:o.guard=I)(p s:Operand)(a0:o.op= .call {callee:= .builtin .append,args:=#[p,s],argTypes:=#[44,44]})
  (f:Nat)(r g:Z)(c:List Fr)(b:Fr)(a3:a.eval p=r)(a1:iw W f r c)(w:aa W f g b.pix)(J:bh b.W/\bh b.H){t:Nat}(a5:a.eval s=U (K t) 1 1)(D:t=W.heap.size)
  (T:c.length<=1000000)(C:f<=W.heap.size)
  (z:∀l h,iw h f l (c++[b])->X f W h->wpList prog ops Q rest (a.put o.dst l) h):wpList prog ops Q (o::rest) a (W.alloc (M #[A G b.W,A G b.H,g] 81)):=by
 obtain⟨k,u,m,v⟩:=a1;refine aX 44 81 3 40 _ underlying44 Up rfl H P p s a0 f r c.length (uV c k) [A G b.W,A G b.H,g] a3 u a5 D rfl ?_ T H C ?_
 .intro a7 y
  obtain⟨a6,cap,rfl⟩:=w.shape
  simp at y;rcases y with rfl|rfl|rfl<;>rfl
 .intro l h a2 F L _
  refine z l h ⟨k++[g],by rw [ER c k b g m,Yq,Zb];exact a2,by simp [m],λj R=>?_⟩ F
  have aD:∀{q:Z} {n:List Int},aa W f q n->aa h f q n:=λ{q n} x=>x.Oc L (kQ u x.1 H)
  rcases Nat.lt_or_ge j c.length with i|i
  .rw [oQ O,oQ i]
   exact⟨aD (v j i).1,(v j i).2⟩
  .obtain rfl:j=c.length:=by simp at R;omega
   rw [oP,show(k++[g]).getD c.length Ya=g from by rw [<-m];exact oP];exact⟨aD w,J⟩
end
end
section
def gZ(a b:Fr):Int:=cX a.W a.H a.pix b.W b.H b.pix
def rJ(a b:Fr):Int:=if gZ a b=0 then 64*nk a.pix b.pix / a.pix.length else 0
theorem mP{c a f b:Int}{i j:List Int}(g:cX c a i f b j=0):nM c a i/\nM f b j/\c=f/\a=b:=by
 unfold cX at g;split at g
 .rename_i h
  rw [YV,dw,dw] at h;split at g
  .rename_i k;exact⟨h.1,h.2,k.1,k.2⟩
  .omega
 .omega
theorem xR{h f i g:Int}{a b:List Int}(l:cX h f a i g b=0):a.length=b.length/\64<=a.length/\a.length<=1024:=by
 obtain⟨c,m,rfl,rfl⟩:=mP l;have j:=c.len;have k:=m.len;have:=c.bd;refine⟨?_,this⟩
 have:(a.length:Int)=b.length:=by rw [j,k]
 omega
theorem Jf{a b:Fr}(c:gZ a b=0):0<=nk a.pix b.pix/\nk a.pix b.pix<=a.pix.length*255:=zg (mP c).1.pix (mP c).2.1.pix _
theorem Je(a b:Fr):0<=rJ a b/\rJ a b<=16320:=by
 unfold rJ;split
 .rename_i c
  obtain⟨f,g⟩:=Jf c;obtain⟨-,h, -⟩:=xR c;exact⟨Int.ediv_nonneg O O,Int.ediv_le_of_le_mul O O⟩
 .omega
def sS(a:List Fr)(b:Nat):Fr:=a.getD b Fr.ae
def Mu(a:List Fr)(b:Nat):Int:=gZ (sS a (b - 1)) (sS a b)
def R_(a:List Fr)(b:Nat):Int:=rJ (sS a (b - 1)) (sS a b)
def Qf(cut a:Int)(b:Nat):Int:=if 0<=cut/\cut<=16320/\1<=a/\a<=16 then (if b=0∨16<b then 2 else 0) else 3
def cN(a:List (Int×Int)):Int×Int:=a.getD (a.length - 1) (0,0)
def sZ(cut b:Int)(a:List (Int×Int))(c:Int):Bool:=decide (0<a.length)&&(decide (c<=cut)&&decide ((cN a).2<b))
def stepG(cut b:Int)(a:List (Int×Int))(c:Nat)(f:Int):List (Int×Int):=
 if sZ cut b a f then a.set (a.length - 1) ((cN a).1,(cN a).2+1) else a++[((c:Int),1)]
def gC(b:List Fr)(cut c:Int):Nat->List (Int×Int)
 |0=>[]
 |a+1=>stepG cut c (gC b cut c a) a (R_ b a)
theorem vm(b:List Fr)(cut c:Int)(a:Nat):gC b cut c (a+1)=stepG cut c (gC b cut c a) a (R_ b a):=rfl
structure Ef(fs:List Fr)(cut gop:Int)(g:List (Int×Int))(k:Nat):Prop where
 le:g.length<=k
 pos:0<k->0<g.length
 me:∀j,j<g.length->1<=(g.getD j (0,0)).2/\(g.getD j (0,0)).2<=gop
 zero:0<g.length->(g.getD 0 (0,0)).1=0
 next:∀j,j+1<g.length->(g.getD (j+1) (0,0)).1=(g.getD j (0,0)).1+(g.getD j (0,0)).2
 last:0<g.length->(cN g).1+(cN g).2=k
 cut:∀j,j+1<g.length->∃i:Nat,(g.getD (j+1) (0,0)).1=i/\i<k/\(cut<R_ fs i∨(g.getD j (0,0)).2=gop)
 fst:∀j,j<g.length->0<=(g.getD j (0,0)).1/\(g.getD j (0,0)).1+(g.getD j (0,0)).2<=k
theorem Be{a:List (Int×Int)}{f:Int×Int}{b:Nat}(c:b<a.length):(a++[f]).getD b (0,0)=a.getD b (0,0):=by
 rw [Yp,Yp,List.getElem?_append_left c]
theorem sU{a:List (Int×Int)}{b:Int×Int}:(a++[b]).getD a.length (0,0)=b:=Y
theorem getD_set_ne{b:List (Int×Int)}{g:Int×Int}{a c:Nat}(f:c≠a):(b.set c g).getD a (0,0)=b.getD a (0,0):=by
 rw [Yp,Yp,List.getElem?_set_ne f]
theorem sV{b:List (Int×Int)}{c:Int×Int}{a:Nat}(f:a<b.length):(b.set a c).getD a (0,0)=c:=by
 rw [Yp,List.getElem?_set_self f];rfl
theorem Ef.step{o:List Fr}{cut n:Int}{a:List (Int×Int)}{g:Nat}(P:1<=n)(h:Ef o cut n a g):Ef o cut n (stepG cut n a g (R_ o g)) (g+1):=by
 unfold stepG
 cases hjo:sZ cut n a (R_ o g) with
 |true=>
  unfold sZ at hjo;simp only [YV,decide_eq_true_eq] at hjo;obtain⟨r,J,y⟩:=hjo;have m:=h.last r;have t:a.length - 1<a.length:=O;rw [if_pos rfl];have k:(a.set (a.length - 1) ((cN a).1,(cN a).2+1)).length=a.length:=List.length_set ..
  have v:cN (a.set (a.length - 1) ((cN a).1,(cN a).2+1))=((cN a).1,(cN a).2+1):=by
   unfold cN;rw [List.length_set,sV t]
  have z:=h.me _ t
  have i:∀b,b<a.length->(b=a.length - 1/\(a.set (a.length - 1) ((cN a).1,(cN a).2+1)).getD b (0,0)=((cN a).1,(cN a).2+1))∨(b<a.length - 1/\(a.set (a.length - 1) ((cN a).1,(cN a).2+1)).getD b (0,0)=a.getD b (0,0)):=by
   intro b f;by_cases c:b=a.length - 1
   .left;subst c;exact⟨rfl,sV t⟩
   .right;exact⟨O,getD_set_ne (λq=>c q.symm)⟩
  refine⟨by rw [k];have:=h.le;omega,λ_=>by rw [k];exact r,?_,?_,?_,?_,?_,?_⟩
  .intro b f
   rw [k] at f
   rcases i b f with⟨-,c⟩|⟨-,c⟩
   .rw [c]
    have:cN a=a.getD (a.length - 1) (0,0):=rfl;rw [<-this] at z
    show 1<=(cN a).2+1/\(cN a).2+1<=n
    omega
   .rw [c];exact h.me b f
  .intro x
   rw [k] at x
   rcases i 0 x with⟨l,c⟩|⟨-,c⟩
   .rw [c]
    show(cN a).1=0
    unfold cN;rw [<-l];exact h.zero r
   .rw [c];exact h.zero r
  .intro b f
   rw [k] at f;have F:=h.next b f
   rcases i b O with⟨l, -⟩|⟨-,c⟩
   .omega
   .rw [c]
    rcases i (b+1) f with⟨l,j⟩|⟨-,j⟩
    .rw [j]
     show(cN a).1=_
     unfold cN;rw [<-l];exact F
    .rw [j];exact F
  .intro _
   rw [v]
   show(cN a).1+((cN a).2+1)=((g+1:Nat):Int)
   omega
  .intro b f
   rw [k] at f;obtain⟨w,p,L,s⟩:=h.cut b f;refine⟨w,?_,O,?_⟩
   .rcases i (b+1) f with⟨l,j⟩|⟨-,j⟩
    .rw [j]
     show(cN a).1=_
     unfold cN;rw [<-l];exact p
    .rw [j];exact p
   .rcases i b O with⟨l, -⟩|⟨-,c⟩
    .omega
    .rw [c];exact s
  .intro b f
   rw [k] at f;have C:=h.fst b f
   rcases i b f with⟨l,c⟩|⟨-,c⟩
   .rw [c]
    show 0<=(cN a).1/\(cN a).1+((cN a).2+1)<=((g+1:Nat):Int)
    rw [l] at C;have:(cN a)=a.getD (a.length - 1) (0,0):=rfl;rw [<-this] at C;omega
   .rw [c];omega
 |false=>
  rw [if_neg Y];have k:(a++[((g:Int),(1:Int))]).length=a.length+1:=Y
  have v:cN (a++[((g:Int),(1:Int))])=((g:Int),1):=by
   unfold cN;rw [k,Nat.add_sub_cancel];exact sU
  have i:∀b,b<a.length+1->(b=a.length/\(a++[((g:Int),(1:Int))]).getD b (0,0)=((g:Int),1))∨(b<a.length/\(a++[((g:Int),(1:Int))]).getD b (0,0)=a.getD b (0,0)):=by
   intro b f;by_cases c:b=a.length
   .left;subst c;exact⟨rfl,sU⟩
   .right;exact⟨O,Be O⟩
  refine⟨by rw [k];have:=h.le;omega,λ_=>by rw [k];omega,?_,?_,?_,?_,?_,?_⟩
  .intro b f
   rw [k] at f
   rcases i b f with⟨-,c⟩|⟨m,c⟩
   .rw [c];exact⟨Int.le_refl 1,P⟩
   .rw [c];exact h.me b m
  .intro _
   rcases i 0 O with⟨l,c⟩|⟨m,c⟩
   .rw [c]
    show(g:Int)=0
    rcases Nat.eq_zero_or_pos g with D|D
    .omega
    .have:=h.pos D;omega
   .rw [c];exact h.zero m
  .intro b f
   rw [k] at f
   rcases i b O with⟨l, -⟩|⟨m,c⟩
   .omega
   .rw [c]
    rcases i (b+1) f with⟨l,j⟩|⟨u,j⟩
    .rw [j]
     have:=h.last O;unfold cN at this;rw [(O:a.length - 1=b)] at this;exact this.symm
    .rw [j];exact h.next b u
  .intro _
   rw [v]
   show(g:Int)+1=((g+1:Nat):Int)
   omega
  .intro b f
   rw [k] at f
   rcases i b O with⟨l, -⟩|⟨m,c⟩
   .omega
   .rw [c]
    rcases i (b+1) f with⟨l,j⟩|⟨u,j⟩
    .rw [j]
     refine⟨g,rfl,O,?_⟩;have z:=(h.me b m).2;by_cases J:R_ o g<=cut
     .right
      by_cases y:(a.getD b (0,0)).2<n
      .exfalso
       have:cN a=a.getD b (0,0):=by unfold cN;rw [(O:a.length - 1=b)]
       unfold sZ at hjo;rw [this,decide_eq_true J,decide_eq_true y,decide_eq_true (O:0<a.length)] at hjo;cases hjo
      .omega
     .left;omega
    .rw [j]
     obtain⟨w,p,L,s⟩:=h.cut b u;exact⟨w,p,O,s⟩
  .intro b f
   rw [k] at f
   rcases i b f with⟨-,c⟩|⟨m,c⟩
   .rw [c]
    show 0<=(g:Int)/\(g:Int)+1<=((g+1:Nat):Int)
    omega
   .rw [c];have:=h.fst b m;omega
theorem Ef.UR(c:List Fr)(cut f:Int):Ef c cut f [] 0:=⟨Y,λa=>O,λb a=>by simp at a,λa=>by simp at a,λb a=>by simp at a,λa=>by simp at a,λb a=>by simp at a,λb a=>by simp at a⟩
theorem Sy(b:List Fr){cut c:Int}(f:1<=c):∀a,Ef b cut c (gC b cut c a) a
 |0=>Ef.UR ..
 |a+1=>(Sy b f a).step f
end
section
open Go.RowKit Go.Extern.Stop Go.Stop Go.Extern
theorem Ro(i h:Z)(a b:Fr)(c:V)(g:aO c i a.W a.H a.pix)(f:aO c h b.W b.H b.pix)(l:gZ a b≠0):
  d prog 172 #[i,h] c λk s=>k=e (Ye #[A G 0,bj (gZ a b)])/\X c c s:=by
 have j:=λi h c g f=>Dg i h a.W a.H a.pix b.W b.H b.pix c g f
 rw [show cX a.W a.H a.pix b.W b.H b.pix=gZ a b from rfl] at j;have m:=E j
 have L:(gZ a b==0)=false:=by rw [beq_eq_false_iff_ne];exact l
 have p:=E g;have n:=E f;obtain⟨w,cap,rfl, -⟩:=g.cells;obtain⟨D,C,rfl, -⟩:=f.cells;generalize gZ a b=J at*;generalize nk a.pix b.pix=P at*;generalize a.pix=x at*;generalize b.pix=F at*;generalize a.W=v at*;generalize a.H=u at*;generalize b.W=z at*;generalize b.H=y at*;clear g f j l;go_enter func172,ntmps172
 go_wp2_with fail
 refine(m.o _ _ _ (p.o.ext N) (n.o.ext N)).mono ?_;rintro k t ⟨rfl,r⟩;have q:X c c t:=ext N r;go_wp2;go_returns;exact⟨rfl,q⟩
theorem OY(m l:Z)(a b:Fr)(c:V)(j:aO c m a.W a.H a.pix)(i:aO c l b.W b.H b.pix)(h:gZ a b=0):
  d prog 172 #[m,l] c λp D=>p=e (Ye #[A G (rJ a b),Ya])/\X c c D:=by
 have k:=λm l c j i=>Dg m l a.W a.H a.pix b.W b.H b.pix c j i
 rw [show cX a.W a.H a.pix b.W b.H b.pix=gZ a b from rfl,h,kN rfl,ar] at k;have s:=E k;obtain⟨a9,s2⟩:=Jf h;obtain⟨-,a2,a3⟩:=xR h
 have q:Hd (rJ a b=64*nk a.pix b.pix / a.pix.length):=by show _=_;unfold rJ;rw [if_pos h]
 have n:=E ((ai.new c #[A G a.W,A G a.H,U I 0 0] 81));have u:=E j;have t:=E i;obtain⟨v,cap,rfl, -⟩:=j.cells;obtain⟨x,w,rfl, -⟩:=i.cells;have n:=E ((ai.new c #[A G a.W,A G a.H,U v a.pix.length cap] 81).alloc (M #[A G b.W,A G b.H,U x b.pix.length w] 81));rw [q.o];clear q;generalize nk a.pix b.pix=f at*;generalize a.pix=g at*;generalize b.pix=T at*;generalize a.W=L at*;generalize a.H=J at*;generalize b.W=R at*;generalize b.H=P at*;have a5:Zc G (64*f)=64*f:=Yx _ O;have a6:¬((g.length:Int)=0):=O;have a7:Int.tdiv (64*f) (g.length:Int)=64*f / (g.length:Int):=Int.tdiv_eq_ediv_of_nonneg O;have z:0<=64*f / (g.length:Int):=Int.ediv_nonneg O O;have C:64*f / (g.length:Int)<=16320:=Int.ediv_le_of_le_mul O O;have a8:Zc G (64*f / (g.length:Int))=64*f / (g.length:Int):=Yx _ O;clear j i k h z C;go_enter func172,ntmps172
 go_wp2_with fail
 refine(s.o _ _ _ (u.o.ext N) (t.o.ext N)).mono ?_;rintro p F ⟨rfl,r⟩;have y:X c c F:=ext N r;obtain⟨a0,k,a1, -, -, -⟩:=(n.o.ext r).three;go_wp2;go_returns;exact⟨rfl,y⟩
theorem Dh(h g:Z)(a b:Fr)(c:V)(j:aO c h a.W a.H a.pix)(i:aO c g b.W b.H b.pix):
  d prog 172 #[h,g] c λk l=>k=e (Ye #[A G (rJ a b),bj (gZ a b)])/\X c c l:=by
 by_cases f:gZ a b=0
 .rw [f,ar];exact OY h g a b c j i f
 .rw [show rJ a b=0 from by unfold rJ;rw [if_neg f]];exact Ro h g a b c j i f
def EO(c:Array UInt8)(a:Int)(b:Int):Array Z:=#[Yb ⟨c⟩,A G a,Yd 49 (A G b)]
theorem Pq(g:Array UInt8)(c f:Int)(a:V):
  d prog 45 #[Yb ⟨g⟩,A G c,Yd 49 (A G f)] a λi h=>∃b,i=e (Yd 142 (Q (K ⟨b,0,I⟩)))/\ai h b (EO g c f) 144/\a.heap.size<=b/\X a a h:=by
 go_enter func45,ntmps45;go_wp2;go_returns;exact⟨_,rfl,ai.new _ _ _,Yk _,N⟩
end
end Go.Proofs.YtajkpgaheechmaaGreatDoor
