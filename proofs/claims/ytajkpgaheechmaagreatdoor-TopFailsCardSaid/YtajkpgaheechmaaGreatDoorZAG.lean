/- Bytes Same Lists -/
import Derived.Test.YtajkpgaheechmaaGreatDoorZAF
import Derived.Maps.AppendAt
import Derived.WalkSpells
import Derived.WalkSmall
import Derived.Laws.CopyOwn
set_option maxRecDepth 100000
set_option maxHeartbeats 16000000
set_option linter.unusedSimpArgs false
set_option linter.unusedVariables false
set_option linter.unusedSectionVars false
namespace Go.Proofs.YtajkpgaheechmaaGreatDoor
open _root_.Go.Proofs.Tryz
open Go.Value renaming int->A,slice->U,pointer->Q,nilIface->Ya,agg->Yc,iface->Yd
open Go.IntKind renaming i64->G,u8->Yf
open Option renaming none->I,some->K
open Go.Obj renaming cells->M
open Go.Ending renaming returned->e
open Go renaming World->V,Value->Z,Calls->d,Addr->Yi,maxLen->YO
open Go.RowKit renaming Below->X,intOf->Yz
open Or renaming inl->Yg
open Go.World renaming block_lt_of_cell?->Yj
open Nat renaming le_refl->Yk,le_trans->Yl,zero_le->Yr
open Go.RowKit.Below renaming refl->Yn
open List renaming length_append->Yq,getD->YR
open Go.Value.slice renaming injEq->Yy
open Option.some renaming inj->YG
section
open Go.RowKit
def ah(h:V)(g:Z)(a:Bs):Prop:=
 ∃(b:Option Yi) (cap:Nat),g=U b a.length cap/\a.length<=cap/\cap<=YO/\(b=I->cap=0)/\
  ∀c,c<a.length->∃f off,b=K ⟨f,off,I⟩/\h.cell? ⟨f,off+c,I⟩=K (A Yf ((a.getD c 0).toNat:Int))
theorem ah.nil(b:V):ah b (U I 0 0) []:=⟨I,0,rfl,Y,by simp [YO],λ_=>rfl,λc a=>by simp at a⟩
theorem ah.ext{a h:V}{g:Z}{b:Bs}(k:ah a g b)(q:X a a h):ah h g b:=by
 obtain⟨i,cap,rfl,l,m,n,o⟩:=k;refine⟨i,cap,rfl,l,m,n,λs r=>?_⟩;obtain⟨f,off,j,c⟩:=o s r;exact⟨f,off,j,(q.cell (p:=⟨f,_,I⟩) (Yj a _ c)).trans c⟩
theorem ah.shape{h:V}{c:Z}{b:Bs}(g:ah h c b):∃a cap,c=U a b.length cap:=by
 obtain⟨a,cap,f,_⟩:=g;exact⟨a,cap,f⟩
theorem ah.len{g:V}{f:Z}{a:Bs}(b:ah g f a):a.length<=9223372036854775807:=by
 obtain⟨h,cap,_,i,c,_⟩:=b;unfold YO at c;omega
theorem ie(a:Bs):(ak a).length=a.length:=by simp [ak]
theorem El(a b:Bs):ak (a++b)=ak a++ak b:=by simp [ak]
theorem rP{a:Bs}{b:Nat}(c:b<a.length):(ak a)[b]? =K (A Yf ((a.getD b 0).toNat:Int)):=by simp [ak,c,YR]
theorem Em(c:Bs):∀b∈ak c,b.oneCell'=true:=by
 intro b a;unfold ak at a;obtain⟨f, -,rfl⟩:=List.mem_map.1 a;rfl
theorem aq{f:V}{h:Nat}{g:Z}{b:Bs}(a:f.ownsRow h 5 1 g b.length (ak b)):ah f g b:=by
 rcases aV a with⟨c,j⟩|⟨i,cap,c, -,n,k,l, -⟩
 .obtain rfl:=List.length_eq_zero_iff.1 j
  rw [c];exact ah.nil f
 .rw [c] at a⊢
  exact⟨_,cap,rfl,k,l,λa=>(by cases a),λo m=>⟨i,0,rfl,by rw [Nat.zero_add];exact au a (rP m)⟩⟩
theorem ah.cut{g:V}{b:Option Yi}{f cap:Nat}{c:Bs}(h:ah g (U b f cap) c){m:Nat}(u:m<=f):ah g (U b m cap) (c.take m):=by
 obtain⟨q,r,a,s,i,k,l⟩:=h;simp only [Yy] at a;obtain⟨rfl,rfl,rfl⟩:=a
 have o:(c.take m).length=m:=by rw [List.length_take];omega
 refine⟨b,cap,by rw [o],O,i,k,λj t=>?_⟩;obtain⟨p,off,a,n⟩:=l j O;refine⟨p,off,a,?_⟩;rw [n];have:j<m:=O;simp [YR,List.getElem?_take,this]
theorem NJ:(prog.info? 5).map (λa=>(a.zero,a.size,a.bytes))=K (K (A Yf 0),1,1):=B
theorem uj{o:Oper}{q:Act}{f:V}{t:Act->V->Prop}{R:Exit->Act->V->Prop}(J L:Operand)
  (y:o.op= .call {callee:= .builtin .append,args:=#[J,L],argTypes:=#[24,24]})
  (n:Nat)(m l:Z)(b a:Bs)(z:q.eval J=m)(j:f.ownsRow n 5 1 m b.length (ak b))(C:q.eval L=l)(a9:ah f l a)(b9:b.length+a.length<=140737488355328)(a1:n<=f.heap.size)
  (g:∀h cap p,p.ownsRow n 5 1 (U h (b.length+a.length) cap) (b++a).length (ak (b++a))->f.grownBy p m.ownBlock->((U h (b.length+a.length) cap).ownBlock=m.ownBlock∨(U h (b.length+a.length) cap).ownBlock=K f)->t (q.put o.dst (U h (b.length+a.length) cap)) p):o.wp prog q f t R:=by
 obtain⟨D,w,b0,b1,b2⟩:=info_parts NJ;obtain⟨h,cap,rfl,b7,b8,a0,v⟩:=a9
 have a5:∀i,h=K i->∀(k:Nat) (l:Z),(ak a)[k]? =K l->f.cell? (i.add k)=K l:=by
  intro i a2 k l s
  have x:k<a.length:=by
   rcases Nat.lt_or_ge k a.length with g|g
   .exact g
   .rw [List.getElem?_eq_none (by rw [ie];omega)] at s;cases s
  obtain⟨b6,off,c,a3⟩:=v k x;rw [a2] at c;obtain rfl:=YG c;rw [Go.WideShapes.add_plain,a3,<-rP x,s]
 cases h with
 |none=>
  have a6:a.length=0:=by
   rcases Nat.eq_zero_or_pos a.length with g|g
   .exact g
   .obtain⟨_,_,c,_⟩:=v 0 g;cases c
  obtain rfl:a=[]:=List.length_eq_zero_iff.1 a6;obtain rfl:=a0 rfl;have a8:=run_append_owned_none (P:=prog) (w:=f) n 24 o.type 5 D 1 underlying24 w m b.length _ j;unfold Oper.wp;simp [execOp,y,resolve,invoke,builtin,z,C,a8,Result.andThen];rw [Oper.upon_value]
  rcases aV j with⟨c,r⟩|⟨u,cap,c,_⟩
  .subst c
   have:=g I 0 f (by simp only [List.append_nil,List.length_nil,Nat.add_zero];rw [r] at j⊢;exact j) ⟨rfl,rfl,rfl,Yk _,λ_ _ _=>rfl⟩ (Yg rfl)
   simpa [r] using this
  .subst c
   have:=g (K u) cap f (by simpa using j) ⟨rfl,rfl,rfl,Yk _,λ_ _ _=>rfl⟩ (Yg rfl)
   simpa using this
 |some i=>
  obtain⟨b5,p,a7,F,b3,c0,b4⟩:=run_append_own_at (P:=prog) f n 24 o.type 5 D (A Yf 0) 1 1 underlying24 w b0 b1 b2 rfl H m b.length (ak b) j i a.length cap (ak a) (by rw [ie];omega) (a5 i rfl) (Em a) (by unfold YO;omega) O a1
  obtain⟨T,W,rfl⟩:∃h cap,b5=U h (b.length+a.length) cap:=by
   rcases aV F with⟨c,r⟩|⟨u,cap,c,_⟩
   .exact⟨I,0,by rw [c,r]⟩
   .exact⟨_,cap,c⟩
  unfold Oper.wp execOp;simp only [y,resolve,invoke,builtin,Sem.run_bind,Sem.run_pure,Result.andThen_ok,List.map_toArray,List.map_cons,List.map_nil,z,C,a7];exact g T W p (by rw [El,Yq];exact F) b3 b4
section
variable {ops:Array Oper} {rest:List Oper} {o:Oper} {a:Act} {Q:Exit->Act->V->Prop} {w:V}
theorem eA(t:o.guard=I)(j l:Operand)
  (v:o.op= .call {callee:= .builtin .append,args:=#[j,l],argTypes:=#[24,24]})
  (i:Nat)(g k:Z)(b c:Bs)(y:a.eval j=g)(x:w.ownsRow i 5 1 g b.length (ak b))(C:a.eval l=k)(z:ah w k c)(u:b.length+c.length<=1099511627776)(r:i<=w.heap.size)
  (m:∀f cap h,h.ownsRow i 5 1 (U f (b.length+c.length) cap) (b++c).length (ak (b++c))->w.grownBy h g.ownBlock->((U f (b.length+c.length) cap).ownBlock=g.ownBlock∨(U f (b.length+c.length) cap).ownBlock=K w)->wpList prog ops Q rest (a.put o.dst (U f (b.length+c.length) cap)) h):
  wpList prog ops Q (o::rest) a w:=
 wpList_plain t λ_ s=>uj j l v i g k b c y x C z (Yl u H) r λf cap h n p q=>s _ _ (m f cap h n p q)
theorem cQ{m:Act->V->Prop}{n:Prop}(r:o.guard=I)(i l:Operand)
  (t:o.op= .call {callee:= .builtin .append,args:=#[i,l],argTypes:=#[24,24]})
  (g:Nat)(f j:Z)(b c:Bs)(v:a.eval i=f)(u:w.ownsRow g 5 1 f b.length (ak b))(z:a.eval l=j)(x:ah w j c)(s:b.length+c.length<=1099511627776)(q:g<=w.heap.size)
  (p:∀h cap k,k.ownsRow g 5 1 (U h (b.length+c.length) cap) (b++c).length (ak (b++c))->w.grownBy k f.ownBlock->((U h (b.length+c.length) cap).ownBlock=f.ownBlock∨(U h (b.length+c.length) cap).ownBlock=K w)->m (a.put o.dst (U h (b.length+c.length) cap)) k):
  if Region.wanted o (yielded ops a.tmps)=true then Oper.wp prog o a w m Q else n:=by
 have y:Region.wanted o (yielded ops a.tmps)=true:=by simp [Region.wanted,r]
 rw [if_pos y];exact uj i l t g f j b c v u z x (Yl s H) q p
theorem D_(t:o.guard=I)(j l:Operand)
  (v:o.op= .call {callee:= .builtin .append,args:=#[j,l],argTypes:=#[24,24]})
  (i:Nat)(g k:Z)(b c:Bs)(y:a.eval j=g)(x:w.ownsRow i 5 1 g b.length (ak b))(C:a.eval l=k)(z:ah w k c)(u:b.length+c.length<=140737488355328)(r:i<=w.heap.size)
  (m:∀f cap h,h.ownsRow i 5 1 (U f (b.length+c.length) cap) (b++c).length (ak (b++c))->w.grownBy h g.ownBlock->((U f (b.length+c.length) cap).ownBlock=g.ownBlock∨(U f (b.length+c.length) cap).ownBlock=K w)->wpList prog ops Q rest (a.put o.dst (U f (b.length+c.length) cap)) h):
  wpList prog ops Q (o::rest) a w:=
 wpList_plain t λ_ s=>uj j l v i g k b c y x C z u r λf cap h n p q=>s _ _ (m f cap h n p q)
theorem Mp{m:Act->V->Prop}{n:Prop}(r:o.guard=I)(i l:Operand)
  (t:o.op= .call {callee:= .builtin .append,args:=#[i,l],argTypes:=#[24,24]})
  (g:Nat)(f j:Z)(b c:Bs)(v:a.eval i=f)(u:w.ownsRow g 5 1 f b.length (ak b))(z:a.eval l=j)(x:ah w j c)(s:b.length+c.length<=140737488355328)(q:g<=w.heap.size)
  (p:∀h cap k,k.ownsRow g 5 1 (U h (b.length+c.length) cap) (b++c).length (ak (b++c))->w.grownBy k f.ownBlock->((U h (b.length+c.length) cap).ownBlock=f.ownBlock∨(U h (b.length+c.length) cap).ownBlock=K w)->m (a.put o.dst (U h (b.length+c.length) cap)) k):
  if Region.wanted o (yielded ops a.tmps)=true then Oper.wp prog o a w m Q else n:=by
 have y:Region.wanted o (yielded ops a.tmps)=true:=by simp [Region.wanted,r]
 rw [if_pos y];exact uj i l t g f j b c v u z x s q p
end
end
section
open Go.RowKit Go.Extern.Stop Go.Stop Go.Extern
theorem UX(a:V):d prog 59 #[Ya,Yc #[A G 0,U I 0 0]] a λc j=>c=e (.bool true)/\X a a j:=by
 go_enter func59,ntmps59;go_wp2
 go_region_with (first|(go_at_call 66;refine(nf _ _).mono ?_;rintro c k ⟨rfl,f⟩;obtain⟨o,r⟩:=kA f;have u:a.heap.size<k.heap.size:=(by have i:=f.size;first|omega|(simp at i;omega)))|(go_at_call 22;refine(of_nil _).mono ?_;rintro c l ⟨rfl,b⟩;obtain⟨p,s⟩:=kA b;have v:a.heap.size<l.heap.size:=(by have h:=b.size;first|omega|(simp at h;omega))))
 all_goals go_wp2_with (go_at_call 95;refine(OO _).mono ?_;rintro c m ⟨rfl,g⟩;obtain⟨q,t⟩:=kA g;have w:a.heap.size<m.heap.size:=(by have n:=g.size;have h:=b.size;omega))
 all_goals (refine wp_loop_rounds 1 ?_;rw [rounds_succ];go_wp2;go_returns)
 all_goals exact⟨rfl,by first|exact ext (ext (ext N f) b) g|exact ext (ext (ext N b) f) g⟩
theorem Ru(h:Int)(m:(h==0)=false)(a:V)(j:bN a):d prog 59 #[Yd 49 (A G h),Yc #[A G h,U I 0 0]] a λf n=>f=e (.bool true)/\X a a n:=by
 have k:=E j;clear j;go_enter func59,ntmps59;go_wp2
 go_region_with (first|(go_at_call 66;refine(pG _ m _ _).mono ?_;rintro f p ⟨rfl,b⟩;obtain⟨t,w⟩:=kA b;have z:a.heap.size<p.heap.size:=(by have l:=b.size;first|omega|(simp at l;omega)))|(go_at_call 22;refine(IG _ _ ?_).mono ?_;exact k.o.ext (by first|(exact ext N b)|go_grown);rintro f q ⟨rfl,c⟩;obtain⟨u,x⟩:=kA c;have C:a.heap.size<q.heap.size:=(by have i:=c.size;first|omega|(simp at i;omega))))
 all_goals go_wp2_with (go_at_call 95;refine(Lh _ _ ?_).mono ?_;exact k.o.ext (by exact ext (ext N b) c);rintro f r ⟨rfl,g⟩;obtain⟨v,y⟩:=kA g;have D:a.heap.size<r.heap.size:=(by have s:=g.size;have i:=c.size;omega))
 all_goals (refine wp_loop_rounds 1 ?_;rw [rounds_succ];go_wp2;go_returns)
 all_goals exact⟨rfl,by first|exact ext (ext (ext N b) c) g|exact ext (ext (ext N c) b) g⟩
end
section
open Go.RowKit
def ax(f:List Int)(b c:Int):Bool:=f.all λa=>decide (b<=a)&&decide (a<=c)
theorem Ld(a:V):aa (a.alloc (M #[] 3)) a (U (K a) 0 0) []:=
 ⟨World.ownsRow_lit a #[] 0 (Yk _) (by simp [YO]) Y,Y⟩
theorem xK(f:Z)(b:List Int)(a:V)(g:aY a f b)(p:b.length<=1099511627776)(r:0<b.length):
  d prog 268 #[f] a λl i=>∃h,l=e h/\aa i a h b/\X a a i:=by
 have j:aY (a.alloc (M #[] 3)) f b:=g.ext N
 have s:∃c off cap,f=U (K ⟨c,off,I⟩) b.length cap:=by
  obtain⟨t,cap,rfl,u,v,w,x,m⟩:=g;obtain⟨c,off,rfl,_⟩:=m 0 r;exact⟨c,off,cap,rfl⟩
 obtain⟨c,off,cap,rfl⟩:=s;have k:=E j;clear g j
 have y:=λ(a:V)=>Lib.run_eql_slice_nil (P:=prog) a 26 3 (K ⟨c,off,I⟩) b.length cap 0 0 underlying26
 go_enter func268,ntmps268
 go_wp2_with (at_builtin;refine tF rfl (.tmp 5) (.tmp 6) rfl a.heap.size _ _ [] b rfl (Ld a) rfl k.o (by simpa using p) Y ?_)
 intro h i q n _;go_wp2;go_returns;exact⟨_,rfl,by simpa using q,((Yn _ _).alloc (Yk _) _).trans n⟩
theorem eL{a:Nat}{fn:Func}(i:prog.funcs[a]? =K fn)(j:(fn.name== "runtime.NumGoroutine")=false)(c:fn.body.isNone=false)(b:Array Z)(f:V):
  (callFunc a b).run prog f= .ok (.enter a b) f:=by
 have k:¬fn.name= "runtime.NumGoroutine":=by simpa using j
 have h:¬fn.body=I:=by intro g;rw [g] at c;simp at c
 simp [callFunc,i,k,h]
def kc(b:Int->Bool)(c:List Int):Int:=match c.findIdx? b with|some a=>a|none=> -1
theorem AV{c:Int->Bool}{a:List Int}{b:Nat}(f:b<a.length)(g:(a.take b).any c=false)(h:c (a.getD b 0)=true):kc c a=b:=by
 have:a.findIdx? c=K b:=by
  rw [List.findIdx?_eq_some_iff_getElem];simp [YR,f] at h;refine⟨f,h,λi j=>?_⟩;rw [List.any_eq_false] at g;have:=g a[i] (by rw [List.mem_take_iff_getElem];exact⟨i,O,rfl⟩)
  simpa using this
 simp [kc,this]
theorem qQ{a:Int->Bool}{b:List Int}(c:b.any a=false):kc a b= -1:=by
 have:b.findIdx? a=I:=by
  rw [List.findIdx?_eq_none_iff];rw [List.any_eq_false] at c;intro g f;simpa using c g f
 simp [kc,this]
theorem MM{c:Int->Bool}{b:List Int}{a:Nat}(f:a<b.length)(h:(b.take a).any c=false)(g:c (b.getD a 0)=false):(b.take (a+1)).any c=false:=by
 rw [List.take_succ_eq_append_getElem f,List.any_append,h];simp [YR,f] at g;simp [g]
theorem Kt(k:Nat)(fn:Func)(x:prog.funcs[k]? =K fn)(y:(fn.name== "runtime.NumGoroutine")=false)(v:fn.body.isNone=false)(t:Array Z)(i:Int->Bool)
  (F:Z)(b:List Int)(f:V)(n:aY f F b)
  (w:∀g,bh g->d prog k (#[A G g]++t) f λc h=>c=e (.bool (i g))/\f=h):
  d prog 281 #[F,.func (.func k) #[] t] f λc h=>c=e (A G (kc i b))/\f=h:=by
 have a5:=n.len;have a0:=E (rX n.bh);obtain⟨a1,cap,rfl,L,P,R,T,u⟩:=n;have q:=E u;have r:=E w
 have a6:=λ(J:Array Z) (f:V)=>eL x y v J f
 clear L P R u T w x y v;go_enter func281,ntmps281;go_wp2;go_loop [8] (λp=>∃a:Nat,a<=b.length/\p=A G a/\(b.take a).any i=false) (λp=>b.length - (Yz p).toNat)
 case atStart=>exact⟨0,Yr _,rfl,rfl⟩
 case round=>
  obtain⟨a,a3,rfl,z⟩:=hrel;have j:=E z;clear z;by_cases m:a<b.length
  .obtain⟨a2,off,rfl,W⟩:=q.o a m
   clear q;have l:=a0.o a;generalize D:b.getD a 0=g at W l;have s:=E D;clear D
   go_wp2_with fail
   cases hp:i g with
   |true=>
    refine(r.o g l).mono ?_;rintro c h ⟨rfl,rfl⟩;rw [hp];go_wp2;go_returns;exact⟨by rw [AV m j.o (by rw [s.o];exact hp)];rfl,rfl⟩
   |false=>
    refine(r.o g l).mono ?_;rintro c h ⟨rfl,rfl⟩;rw [hp];go_wp2;go_round
    case rel=>exact⟨a+1,O,S,MM m j.o (by rw [s.o];exact hp)⟩
    case measure=>simp [Yz];omega
  .go_wp2
   go_returns;have c:a=b.length:=O;have C:=j.o;rw [c,List.take_length] at C;exact⟨by rw [qQ C];rfl,rfl⟩
theorem fW(j:Nat)(fn:Func)(p:prog.funcs[j]? =K fn)(q:(fn.name== "runtime.NumGoroutine")=false)(m:fn.body.isNone=false)(l:Array Z)(a:Int->Bool)
  (s:Z)(b:List Int)(c:V)(r:aY c s b)
  (n:∀h,bh h->d prog j (#[A G h]++l) c λf g=>f=e (.bool (a h))/\c=g):
  d prog 265 #[s,.func (.func j) #[] l] c λf g=>f=e (.bool (b.any a))/\c=g:=by
 have k:=E (Kt j fn p q m l a s b c r n)
 cases hp:b.any a with
 |false=>
  have i:kc a b= -1:=qQ hp;rw [i] at k;clear i p q m n r hp;go_enter func265,ntmps265
  go_wp2_with (go_at_call 281;refine k.o.mono ?_;rintro f g ⟨rfl,rfl⟩)
  go_returns;exact⟨rfl,rfl⟩
 |true=>
  have i:0<=kc a b:=by
   unfold kc;split
   .omega
   .rename_i t
    rw [List.findIdx?_eq_none_iff] at t;rw [List.any_eq_true] at hp;obtain⟨h,v,u⟩:=hp;have:=t h v;simp [this] at u
  generalize kc a b=w at k i;clear p q m n r hp;go_enter func265,ntmps265
  go_wp2_with (go_at_call 281;refine k.o.mono ?_;rintro f g ⟨rfl,rfl⟩)
  go_returns;exact⟨rfl,rfl⟩
end
end Go.Proofs.YtajkpgaheechmaaGreatDoor
