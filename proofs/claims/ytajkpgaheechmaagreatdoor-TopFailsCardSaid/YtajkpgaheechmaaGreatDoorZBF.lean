/- RefA RefB RefC RefD RefE RefF RefG RefH RefI RefK -/
import Derived.Test.YtajkpgaheechmaaGreatDoorZAP
import Derived.Test.YtajkpgaheechmaaGreatDoorZAR
set_option maxRecDepth 100000
set_option maxHeartbeats 16000000
set_option linter.unusedSimpArgs false
set_option linter.unusedVariables false
set_option linter.unusedSectionVars false
namespace Go.Proofs.YtajkpgaheechmaaGreatDoor
open _root_.Go.Proofs.Tryz
open Go.Value renaming int->A,slice->U,pointer->Q,nilIface->Ya,string->Yb,agg->Yc,tuple->Ye
open Go.IntKind renaming i64->G,u8->Yf,wrap_i64->Yo,wrap->Zc
open Option renaming none->I,some->K
open Go.Obj renaming cells->M
open Go.Ending renaming returned->e
open Go renaming World->V,Value->Z,Calls->d,Addr->Yi,bodyPost_ret->YD,maxLen->YO,results->YU
open Go.RowKit renaming Below->X,intOf->Yz
open Or renaming inl->Yg,inr->Yh
open Go.World renaming block_lt_of_cell?->Yj,size_alloc->YN,cell?_of_block->YS
open Nat renaming le_refl->Yk,le_trans->Yl,zero_le->Yr,lt_of_lt_of_le->Yv,add_assoc->YW
open Go.RowKit.Below renaming refl->Yn,heap_setCell->Yt
open List renaming getD_eq_getElem?_getD->Yp,length_append->Yq,getElem?_eq_getElem->YM
open Go.Value.slice renaming injEq->Yy
open Option.some renaming inj->YG,injEq->YQ
open And renaming intro->YI
section
open Go.RowKit Go.Extern.Stop Go.Stop Go.Extern
theorem oR(h:Nat)(c:Bs)(a:Nat)(f:V)(k:l_ f h c a)(n:a<=8*c.length)(m:c.length<=1000000):
  d prog 100 #[Q (K h)] f λj p=>j=e (A G ((8*c.length - a:Nat):Int))/\X f f p:=by
 obtain⟨i,cap,g, -, -⟩:=k;have u:=g.lt;have q:f.cell? h=K (U i c.length cap):=g.cell 0;have r:f.cell? ⟨h,1,I⟩=K (A G a):=g.cell 1;generalize c.length=b at*;clear g
 have s:Zc G (8*(b:Int))=8*(b:Int):=by rw [Yo];omega
 have t:Zc G (8*(b:Int) - (a:Int))=8*(b:Int) - (a:Int):=by rw [Yo];omega
 have l:=E (O:((8*b - a:Nat):Int)=8*(b:Int) - (a:Int));clear n m;go_enter func100,ntmps100;go_wp2;go_quiet (fail);go_wp2;go_returns;exact⟨by rw [l.o];rfl,ag (Yn _ _) _⟩
theorem Od{b a:Nat}(f:b<4294967296)(g:a<2):wrap64 (2*(b:Int)+wrap64 (a:Int))=((2*b+a:Nat):Int):=by
 have c:wrap64 (a:Int)=(a:Int):=by unfold wrap64;omega
 rw [c];unfold wrap64;omega
theorem qZ(c:Nat)(g:Bs)(v p:Nat)(q:V)(a2:l_ q c g v)(a6:g.length<=1000000)(a5:p<=32)(b9:v+p<=8*g.length):
  d prog 141 #[Q (K c),A G p] q λy c1=>y=e (Ye #[A G (bI g v p:Int),Yc #[A G 0,U I 0 0]])/\l_ c1 c g (v+p)/\af (·=c) q c1:=by
 have i0:decide ((p:Int)<0)=false:=Y
 have i1:decide (32<(p:Int))=false:=by simp;omega
 have e4:¬8*g.length - v<p:=O;have b1:=E (oR c g v (q.alloc (M #[A G 0,U I 0 0] 100)) (a2.ext N) O a6);have b3:=E a2;have c6:=E b9;have c4:=E a5;have c3:=E a6
 have P:q.heap.size≠c:=by have:=a2.lt;omega
 generalize (8*g.length - v:Nat)=h9 at e4 b1;clear a2 a6 b9 a5;go_enter func141,ntmps141
 go_wp2_with (go_at_call 100;with_reducible refine b1.o.mono ?_;rintro y i2 ⟨rfl,a7⟩;have b2:=E (ext (N:X q q (q.alloc (M #[A G 0,U I 0 0] 100))) a7);have c5:=E (b3.o.ext b2.o);have c2:=E ((ai.new q #[A G 0,U I 0 0] 100).ext a7);clear a7)
 go_loopw [6,7] (λT b0 wr=>∃h:Nat,h<=p/\b0=A G h/\T=A G (bI g v h:Int)/\l_ wr c g (v+h)/\af (·=c) q wr/\ai wr q #[A G 0,U I 0 0] 100) (λ_ b0 _=>p - (Yz b0).toNat)
 case atStart=>exact⟨0,Yr _,rfl,rfl,c5.o,af.aj b2.o,c2.o⟩
 case round=>
  obtain⟨h,h4,rfl,rfl,b8,b6,b5⟩:=hrel;have x:=E b5;clear b5;have w:=E b6;have D:=E b8;clear b6;by_cases h5:h<p
  .obtain⟨c7,cap,a1,b4,e3⟩:=b8
   obtain⟨f,C⟩:∃f,v+h=f:=⟨_,rfl⟩;rw [C] at a1
   have h7:f<8*g.length:=by have:=c6.o;omega
   obtain⟨a0,off,rfl,a8⟩:∃a0 off,c7=K ⟨a0,off,I⟩/\wr.cell? ⟨a0,off+f / 8,I⟩=K (A Yf ((g.getD (f / 8) 0).toNat:Int)):=by
    obtain⟨g0,g2,y,g7,g8,g9,c8⟩:=b4;simp only [Yy] at y;obtain⟨rfl, -,rfl⟩:=y;obtain⟨a0,off,y,c9⟩:=c8 (f / 8) O;exact⟨a0,off,y,c9⟩
   have z:gP g f=(g.getD (f / 8) 0).toNat / 2^(7 - f%8)%2:=rfl
   have a3:bI g v (h+1)=2*bI g v h+gP g f:=by rw [<-C];rfl
   have c0:=k_ g v h (by have:=c4.o;omega);have F:=(g.getD (f / 8) 0).toNat_lt;generalize (g.getD (f / 8) 0).toNat=i at a8 z F;have a9:=mc g f;generalize gP g f=j at z a3 a9;generalize bI g v h=T at c0 a3⊢;have J:=E a3;have m:=a1.lt;have g1:wr.cell? c=K (U (K ⟨a0,off,I⟩) g.length cap):=a1.cell 0;have k:wr.cell? ⟨c,1,I⟩=K (A G f):=a1.cell 1;have l:wr.frozen? ⟨c,1,I⟩=false:=a1.free 1;have h3:=Yj wr _ a8;obtain⟨W,e0⟩:∃W,f / 8=W:=⟨_,rfl⟩;rw [e0] at a8;have h1:(f:Int) / 8=(W:Int):=O;have h2:W<g.length:=O;have h0:=c3.o;generalize g.length=e9 at*;have h6:T*2<4611686018427387904:=O
   have g3:Zc G (2*(T:Int))=2*(T:Int):=by rw [Yo];omega
   have g4:Zc G (W:Int)=(W:Int):=by rw [Yo];omega
   have g5:Zc G (2*(T:Int)+(j:Int))=((2*T+j:Nat):Int):=by rw [Yo];omega
   have L:=E (Od c0 a9)
   have g6:Zc G ((f:Int)+1)=((f+1:Nat):Int):=by rw [Yo];omega
   clear a3 a9 b4 e3
   rcases xD f with n|n|n|n|n|n|n|n
   all_goals
    have e1:(f:Int)%8=((f%8:Nat):Int):=O;rw [n] at e1
   .have u:=E (show bits .and Yf ((i:Int) / 128) 1=(j:Int) from fE i 7 j F (by rw [z,n]))
    go_wp2_with fail
    go_quiet (fail);rename Nat=>b;have t:=E (D.o.ext (ag (Yn _ _) b));have s:=E (dq w.o b);have r:=E (x.o.ext (ag (Yn _ _) b));have k:(wr.drewN b).cell? ⟨c,1,I⟩=K (A G f):=k;have l:(wr.drewN b).frozen? ⟨c,1,I⟩=false:=l;have m:c<(wr.drewN b).heap.size:=m;generalize wr.drewN b=R at*;go_wp2;go_roundw
    case rel=>exact⟨h+1,O,S,by rw [J.o,u.o,L.o],by rw [<-YW,C];exact t.o.set,dT s.o,r.o.ab _ _ P⟩
    case measure=>simp [Yz];omega
   .have u:=E (show bits .and Yf ((i:Int) / 64) 1=(j:Int) from fE i 6 j F (by rw [z,n]))
    go_wp2_with fail
    go_quiet (fail);rename Nat=>b;have t:=E (D.o.ext (ag (Yn _ _) b));have s:=E (dq w.o b);have r:=E (x.o.ext (ag (Yn _ _) b));have k:(wr.drewN b).cell? ⟨c,1,I⟩=K (A G f):=k;have l:(wr.drewN b).frozen? ⟨c,1,I⟩=false:=l;have m:c<(wr.drewN b).heap.size:=m;generalize wr.drewN b=R at*;go_wp2;go_roundw
    case rel=>exact⟨h+1,O,S,by rw [J.o,u.o,L.o],by rw [<-YW,C];exact t.o.set,dT s.o,r.o.ab _ _ P⟩
    case measure=>simp [Yz];omega
   .have u:=E (show bits .and Yf ((i:Int) / 32) 1=(j:Int) from fE i 5 j F (by rw [z,n]))
    go_wp2_with fail
    go_quiet (fail);rename Nat=>b;have t:=E (D.o.ext (ag (Yn _ _) b));have s:=E (dq w.o b);have r:=E (x.o.ext (ag (Yn _ _) b));have k:(wr.drewN b).cell? ⟨c,1,I⟩=K (A G f):=k;have l:(wr.drewN b).frozen? ⟨c,1,I⟩=false:=l;have m:c<(wr.drewN b).heap.size:=m;generalize wr.drewN b=R at*;go_wp2;go_roundw
    case rel=>exact⟨h+1,O,S,by rw [J.o,u.o,L.o],by rw [<-YW,C];exact t.o.set,dT s.o,r.o.ab _ _ P⟩
    case measure=>simp [Yz];omega
   .have u:=E (show bits .and Yf ((i:Int) / 16) 1=(j:Int) from fE i 4 j F (by rw [z,n]))
    go_wp2_with fail
    go_quiet (fail);rename Nat=>b;have t:=E (D.o.ext (ag (Yn _ _) b));have s:=E (dq w.o b);have r:=E (x.o.ext (ag (Yn _ _) b));have k:(wr.drewN b).cell? ⟨c,1,I⟩=K (A G f):=k;have l:(wr.drewN b).frozen? ⟨c,1,I⟩=false:=l;have m:c<(wr.drewN b).heap.size:=m;generalize wr.drewN b=R at*;go_wp2;go_roundw
    case rel=>exact⟨h+1,O,S,by rw [J.o,u.o,L.o],by rw [<-YW,C];exact t.o.set,dT s.o,r.o.ab _ _ P⟩
    case measure=>simp [Yz];omega
   .have u:=E (show bits .and Yf ((i:Int) / 8) 1=(j:Int) from fE i 3 j F (by rw [z,n]))
    go_wp2_with fail
    go_quiet (fail);rename Nat=>b;have t:=E (D.o.ext (ag (Yn _ _) b));have s:=E (dq w.o b);have r:=E (x.o.ext (ag (Yn _ _) b));have k:(wr.drewN b).cell? ⟨c,1,I⟩=K (A G f):=k;have l:(wr.drewN b).frozen? ⟨c,1,I⟩=false:=l;have m:c<(wr.drewN b).heap.size:=m;generalize wr.drewN b=R at*;go_wp2;go_roundw
    case rel=>exact⟨h+1,O,S,by rw [J.o,u.o,L.o],by rw [<-YW,C];exact t.o.set,dT s.o,r.o.ab _ _ P⟩
    case measure=>simp [Yz];omega
   .have u:=E (show bits .and Yf ((i:Int) / 4) 1=(j:Int) from fE i 2 j F (by rw [z,n]))
    go_wp2_with fail
    go_quiet (fail);rename Nat=>b;have t:=E (D.o.ext (ag (Yn _ _) b));have s:=E (dq w.o b);have r:=E (x.o.ext (ag (Yn _ _) b));have k:(wr.drewN b).cell? ⟨c,1,I⟩=K (A G f):=k;have l:(wr.drewN b).frozen? ⟨c,1,I⟩=false:=l;have m:c<(wr.drewN b).heap.size:=m;generalize wr.drewN b=R at*;go_wp2;go_roundw
    case rel=>exact⟨h+1,O,S,by rw [J.o,u.o,L.o],by rw [<-YW,C];exact t.o.set,dT s.o,r.o.ab _ _ P⟩
    case measure=>simp [Yz];omega
   .have u:=E (show bits .and Yf ((i:Int) / 2) 1=(j:Int) from fE i 1 j F (by rw [z,n]))
    go_wp2_with fail
    go_quiet (fail);rename Nat=>b;have t:=E (D.o.ext (ag (Yn _ _) b));have s:=E (dq w.o b);have r:=E (x.o.ext (ag (Yn _ _) b));have k:(wr.drewN b).cell? ⟨c,1,I⟩=K (A G f):=k;have l:(wr.drewN b).frozen? ⟨c,1,I⟩=false:=l;have m:c<(wr.drewN b).heap.size:=m;generalize wr.drewN b=R at*;go_wp2;go_roundw
    case rel=>exact⟨h+1,O,S,by rw [J.o,u.o,L.o],by rw [<-YW,C];exact t.o.set,dT s.o,r.o.ab _ _ P⟩
    case measure=>simp [Yz];omega
   .have u:=E (show bits .and Yf ((i:Int)) 1=(j:Int) from by
     have y:=fE i 0 j F (by rw [z,n]);rw [(O:((i:Int) / ((2^0:Nat):Int))=(i:Int))] at y
     exact y)
    go_wp2_with fail
    go_quiet (fail);rename Nat=>b;have t:=E (D.o.ext (ag (Yn _ _) b));have s:=E (dq w.o b);have r:=E (x.o.ext (ag (Yn _ _) b));have k:(wr.drewN b).cell? ⟨c,1,I⟩=K (A G f):=k;have l:(wr.drewN b).frozen? ⟨c,1,I⟩=false:=l;have m:c<(wr.drewN b).heap.size:=m;generalize wr.drewN b=R at*;go_wp2;go_roundw
    case rel=>exact⟨h+1,O,S,by rw [J.o,u.o,L.o],by rw [<-YW,C];exact t.o.set,dT s.o,r.o.ab _ _ P⟩
    case measure=>simp [Yz];omega
  .obtain rfl:h=p:=O
   obtain⟨i3,i4,i5,i6⟩:=x.o.two;have h8:=x.o.lt;have b7:c<q.heap.size:=b3.o.lt;go_wp2;obtain⟨e5,e6,e7,e8⟩:=(x.o.dC (A G 0) (U I 0 0)).two;refine YD (by simp [YU,results141,go_sem,e5,e6,e7,e8];try rfl) rfl ?_;exact⟨rfl,(D.o.iL (a:=q) b7).iL (a:=⟨q,1,I⟩) b7,⟨w.o.os,w.o.tape,w.o.output,by simpa using w.o.size,λp a5 e2=>(Yt _ _ _ _ (O:p≠q.heap.size)).trans ((Yt _ _ _ _ (O:p≠q.heap.size)).trans (w.o.block p a5 e2))⟩⟩
def eX(h:V)(g:Z):Prop:=∃b a,g=Yc #[A G b,a]/\(b==0)=false/\(a=U I 0 0∨∃f c,nR h a f c)
theorem eX.ext{b f:V}{c:Z}(h:eX b c)(i:X b b f):eX f c:=by
 obtain⟨m,n,g,j,k⟩:=h;refine⟨m,n,g,j,?_⟩
 rcases k with a|⟨o,l,a⟩
 .exact Yg a
 .exact Yh ⟨o,l,a.ext i⟩
def Sd(g:Z):Prop:=∃a b f c,g=Yc #[A G a,U b f c]/\(a==0)=false
theorem eX.shape{k:V}{f:Z}(h:eX k f):∃a g j b,f=Yc #[A G a,U g j b]/\(a==0)=false:=by
 obtain⟨a,n,rfl,c,i⟩:=h
 rcases i with rfl|⟨o,m,l,b,rfl, -⟩
 .exact⟨a,_,_,_,rfl,c⟩
 .exact⟨a,_,_,_,rfl,c⟩
theorem eX.fail(c:V){a:Int}(b:(a==0)=false):eX c (Yc #[A G a,U I 0 0]):=⟨a,_,rfl,b,Yg rfl⟩
theorem Kv:(prog.info? 181).map (λa=>(a.zero,a.size,a.bytes))=K (K (Yc #[Yb ⟨#[]⟩,A G 0]),2,24):=B
theorem DZ{D:Array Oper}{F:List Oper}{o:Oper}{l:Act}{x:Exit->Act->V->Prop}{f:V}(k g c bytes:Nat)(w:Z)(b1:prog.underlying k=K (.slice g))(a1:(prog.info? g).map (λt=>(t.zero,t.size,t.bytes))=K (K w,c,bytes))(b3:w.cells.size=c)(b0:0<c)
  (W:o.guard=I)(u v:Operand)(a7:o.op= .call {callee:= .builtin .append,args:=#[u,v],argTypes:=#[k,k]})
  (j:Nat)(q:Z)(b:Nat)(s:List Z)(a9:l.eval u=q)(a8:f.ownsRow j g c q b s)(r:Yi)(a y:Nat)(h:List Z)(b2:l.eval v=U (K r) a y)(a3:h.length=a*c)
  (T:∀(C:Nat) (p:Z),h[C]? =K p->f.cell? (r.add C)=K p)(L:∀p∈h,p.oneCell'=true)(a5:b+a<=1000000000)(R:bytes<=10000)(P:j<=f.heap.size)
  (J:∀m n i,i.ownsRow j g c (U m (b+a) n) (b+a) (s++h)->f.grownBy i q.ownBlock->wpList prog D x F (l.put o.dst (U m (b+a) n)) i):wpList prog D x (o::F) l f:=by
 obtain⟨b7,a2,b4,b5,b6⟩:=info_parts a1;have a6:(b+a)*bytes<=140737488355328:=Yl (Nat.mul_le_mul a5 R) H;refine wpList_append_own_at f W u v k a7 j g b7 w c bytes b1 a2 b4 b5 b6 b3 b0 q b s a9 a8 r a y h b2 a3 T L (by unfold YO;omega) a6 P ?_;intro b8 i z a0 _ _;obtain⟨m,n,rfl⟩:=aK z;exact J m n i z a0
theorem fI(c:V)(f:Nat)(b:Array Z)(a:Nat)(g:f=c.heap.size):ai (c.alloc (M b a)) f b a:=by subst g;exact ai.new c b a
theorem Pc(i:Array UInt8)(h c:Int)(q:(c==0)=false)(n:Z)(a2:Array UInt8)(L:Int)(a:V)(e1:nR a n a2 L):
  d prog 96 #[Yb ⟨i⟩,A G h,Yc #[A G c,n]] a λl e4=>(∃b6,l=e b6/\Sd b6)/\X a a e4:=by
 obtain⟨r,cap,b3,lg,v,w⟩:=e1;have c3:=E b3;clear b3;have b8:=E (λ(e6:V)=>pG c q n e6);have b7:=E (((ai.new a #[A G c,n] 100).alloc (M #[A G 0,U I 0 0] 100)));have a8:=E (ai.new (a.alloc (M #[A G c,n] 100)) #[A G 0,U I 0 0] 100);have b9:=E (N:X a a ((a.alloc (M #[A G c,n] 100)).alloc (M #[A G 0,U I 0 0] 100)));have c1:=E q;have c2:=E (YI lg (YI v w));clear q lg v w;simp only [YN] at a8;go_enter func96,ntmps96
 go_wp2_with fail
 refine(b8.o _).mono ?_;rintro l b ⟨rfl,s⟩;have f:=E (ext b9.o s);have D:=E (b7.o.ext s);have z:=E (a8.o.ext s);obtain⟨e8,e9, -, -⟩:=D.o.two;have e7:=D.o.lt;clear s;have c7:=E (show(b.alloc (M #[Yb ⟨i⟩,A G h] 181)).ownsRow a 181 2 (U (K b) 1 1) 1 [Yb ⟨i⟩,A G h] from aA (World.ownsRow_lit b #[Yb ⟨i⟩,A G h] 1 (Yk _) (by simp [YO]) Y) f.o.size);obtain⟨k,m⟩:∃k,k=(b.alloc (M #[Yb ⟨i⟩,A G h] 181)).alloc (M #[A G c,U (K b) 1 1] 100):=⟨_,rfl⟩;have j:=E (show X b b k from by rw [m];go_grown);have c8:=E (show k.ownsRow a 181 2 (U (K b) 1 1) 1 [Yb ⟨i⟩,A G h] from by rw [m];exact aG c7.o N);have y:=E (show ai k (b.heap.size+1) #[A G c,U (K b) 1 1] 100 from by rw [m];exact fI _ _ _ _ Y);have c6:=E (z.o.ext j.o);have b0:=E (D.o.ext j.o)
 have c0:=E (show∀(u:Nat) (x:Z),[Yb ⟨a2⟩,A G L][u]? =K x->k.cell? ((r:Yi).add u)=K x from by
  obtain⟨b5,v,w⟩:=c2.o;have b2:=ext f.o j.o;intro u x g;rw [Go.WideShapes.add_plain,Nat.zero_add]
  match u,g with
  |0,g=>simp at g;subst g;exact(b2.cell (p:=r) b5).trans v
  |1,g=>simp at g;subst g;exact(b2.cell (p:=⟨r,1,I⟩) b5).trans w)
 have P:=y.o.lt;obtain⟨T,W,a0,a1⟩:=y.o.two;obtain⟨a3,a5,a6,a7⟩:=b0.o.two;have R:=b0.o.lt;rw [m] at T W a0 a1 a3 a5 a6 a7 R P;have c4:=E m;clear m
 go_wp2_with (at_builtin;go_loud (rw [<-c4.o];refine DZ 98 181 2 24 _ underlying98 Kv rfl H rfl (.tmp 19) (.tmp 21) rfl a.heap.size _ 1 [Yb ⟨i⟩,A G h] rfl c8.o r 1 cap [Yb ⟨a2⟩,A G L] c3.o rfl c0.o (by intro x b4;simp at b4;rcases b4 with rfl|rfl<;>rfl) H H (Yl f.o.size j.o.size) ?_;intro F J e5 e0 t;have a9:=E (y.o.grown t (by intro l;have b1:b.heap.size+1=b.heap.size:=YG l;omega));have C:=E (c6.o.grown t (by intro l;have c9:=z.o.lt;have b1:a.heap.size+1=b.heap.size:=YG l;omega));have c5:=E (show X a a e5 from(ext f.o j.o).grown t (Yl f.o.size j.o.size) (λc q=>by have c9:=f.o.size;have b1:b.heap.size=c:=YG q;omega));clear e0 t T W a0 a1 a3 a5 a6 a7 R P;obtain⟨T,W,a0,a1⟩:=a9.o.two;have P:=a9.o.lt;obtain⟨a3,a5,a6,a7⟩:=C.o.two;have R:=C.o.lt))
 obtain⟨e2,e3, -, -⟩:=((C.o.ab ⟨b.heap.size+1,1,I⟩ (U F 2 J) (by show a.heap.size+1≠b.heap.size+1;have:=z.o.lt;omega)).dC (A G c) (U F 2 J)).two;refine YD (by simp [YU,results96,go_sem,e2,e3];try rfl) rfl ?_;exact⟨⟨_,rfl,c,F,2,J,rfl,c1.o⟩,((c5.o.setCell (p:=⟨b.heap.size+1,1,I⟩) (by show a.heap.size<=b.heap.size+1;have:=f.o.size;omega) _).setCell (p:=⟨a.heap.size+1,0,I⟩) (by show a.heap.size<=a.heap.size+1;omega) _).setCell (p:=⟨a.heap.size+1,1,I⟩) (by show a.heap.size<=a.heap.size+1;omega) _⟩
theorem Dr(i:Array UInt8)(g:Int)(b:Z)(a:V)(l:eX a b):
  d prog 96 #[Yb ⟨i⟩,A G g,b] a λj k=>(∃b,j=e b/\Sd b)/\X a a k:=by
 obtain⟨h,p,rfl,c,f⟩:=l
 rcases f with rfl|⟨q,o,f⟩
 .exact(IT i g h c a).mono λj k ⟨r,m,s,t,n⟩=>⟨⟨_,m,h,_,_,_,rfl,c⟩,n⟩
 .exact Pc i g h c p q o a f
theorem nR.dC{a:V}{R m:Nat}{s:Int}{r k:Z}{l:Array UInt8}{j:Int}(o:nR a k l j)(q:ai a R #[A G s,r] m)(c f:Z):nR ((a.setCell R c).setCell ⟨R,1,I⟩ f) k l j:=by
 obtain⟨b,cap,n,lg,g,p⟩:=o
 have i:b≠R:=by
  rintro rfl;have:=q.cell 0;rw [g] at this;cases this
 have h:((a.setCell R c).setCell ⟨R,1,I⟩ f).heap[b]? =a.heap[b]?:=(Yt _ _ _ _ i).trans (Yt _ _ _ _ i);exact⟨b,cap,n,by simpa using lg,(YS (w:=a) (a:=b) h).trans g,(YS (w:=a) (a:=⟨b,1,I⟩) h).trans p⟩
theorem eX.dC{b:V}{R h:Nat}{s:Int}{r g:Z}(j:eX b g)(k:ai b R #[A G s,r] h)(c f:Z):eX ((b.setCell R c).setCell ⟨R,1,I⟩ f) g:=by
 obtain⟨o,p,i,l,m⟩:=j;refine⟨o,p,i,l,?_⟩
 rcases m with a|⟨q,n,a⟩
 .exact Yg a
 .exact Yh ⟨q,n,a.dC k c f⟩
theorem cH{a c:V}{R:Nat}(h:X a a c)(b:a.heap.size<=R)(f g:Z):X a a ((c.setCell R f).setCell ⟨R,1,I⟩ g):=(h.setCell (p:=R) b _).setCell (p:=⟨R,1,I⟩) b _
theorem dN{F:Nat->Prop}{c f:V}{R:Nat}(a:af F c f)(k:c.heap.size<=R)(g h:Z):af F c ((f.setCell R g).setCell ⟨R,1,I⟩ h):=
 ⟨a.os,a.tape,a.output,by simpa using a.size,λb i j=>(Yt _ _ _ _ (O:b≠R)).trans ((Yt _ _ _ _ (O:b≠R)).trans (a.block b i j))⟩
theorem mY(h:Nat)(c:Bs)(b f:Nat)(a:V)(j:l_ a h c b)(J:b<=8*c.length)(r:c.length<=1000000)(F:f<=32)(L:8*c.length<b+f):
  d prog 141 #[Q (K h),A G f] a λi t=>∃s,i=e (Ye #[A G 0,s])/\eX t s/\X a a t:=by
 have a9:decide ((f:Int)<0)=false:=Y
 have b0:decide (32<(f:Int))=false:=by simp;omega
 have P:8*c.length - b<f:=O;have u:=E (ai.new a #[A G 0,U I 0 0] 100);have x:=E (N:X a a (a.alloc (M #[A G 0,U I 0 0] 100)));have n:=E (oR h c b (a.alloc (M #[A G 0,U I 0 0] 100)) (j.ext N) O r);have w:=E (λa2=>kU #[98,105,116,115] (b:Int) 1 H a2);have C:=E j;generalize (8*c.length - b:Nat)=a8 at P n;clear j J r L F;go_enter func141,ntmps141
 go_wp2_with fail
 refine n.o.mono ?_;rintro i a1 ⟨rfl,l⟩;have p:=E (ext x.o l);have v:=E (u.o.ext l);obtain⟨a3,cap,k, -, -⟩:=C.o.ext p.o;have a6:=k.lt;have a5:a1.cell? ⟨h,1,I⟩=K (A G b):=k.cell 1;clear l k
 go_wp2_with fail
 refine(w.o _).mono ?_;rintro i b1 ⟨D,rfl,q,m⟩;have z:=E q;have y:=E (ext p.o m);have g:=E (v.o.ext m);obtain⟨b2,b3,b4,b5⟩:=g.o.two;have a7:=g.o.lt;clear q m;go_wp2;obtain⟨R,T,W,a0⟩:=(g.o.dC (A G 1) (U (K D) 1 1)).two;refine YD (by simp [YU,results141,go_sem,R,T,W,a0];try rfl) rfl ?_;exact⟨_,rfl,eX.dC ⟨1,_,rfl,H,Yh ⟨_,_,z.o⟩⟩ g.o _ _,cH y.o (Yk _) _ _⟩
def Tv(b:Nat)(c:Bs)(j:V)(f:Ending)(a:V):Prop:=
 (∃i,f=e (Ye #[A G 0,i])/\eX a i/\af (·=b) j a)∨
 ∃h g:Nat,f=e (Ye #[A G h,Yc #[A G 0,U I 0 0]])/\l_ a b c g/\g<=8*c.length/\h<=510/\af (·=b) j a
theorem eX.drew{b:V}{a:Z}(c:eX b a):eX b.drew a:=c
theorem gD{F:Nat->Prop}{b c:V}(a:af F b c):af F b c.drew:=⟨a.os,a.tape,a.output,a.size,a.block⟩
theorem At(a:Bs)(b:Nat):bI a b 1=0∨bI a b 1=1:=by
 have c:=ji a b 1;omega
theorem ai.AN{f:V}{b:Nat}{c:Array Z}{a:Nat}(g:ai f b c a):ai f.drew b c a:=g
theorem UO{c b a:Nat}(g:c+b=a)(f:a<=1000000):wrap64 ((b:Int)+(c:Int))=(a:Int)/\wrap64 ((c:Int)+(b:Int))=(a:Int):=by
 unfold wrap64;constructor<;>omega
theorem Dl{h:V}{b g R:Nat}{c:Bs}{j k:Z}(i:l_ h b c g)(f:b<R):l_ (((h.setCell R j).setCell ⟨R,1,I⟩ k).drew) b c g:=(i.iL (a:=R) f).iL (a:=⟨R,1,I⟩) f
theorem KJ(h:Nat)(b:Bs)(f g:Nat)(z:V)(g6:l_ z h b f)(c:b.length<=1000000)(i6:f<=8*b.length)(i2:g<=7):
  d prog 142 #[Q (K h),A G g,A G 510] z (Tv h b z):=by
 have k3:=E (λ(j a:Nat) (i:V) (L:l_ i h b j)=>mY h b j a i L);have k0:=E (λ(j:Nat) (i:V) (L:l_ i h b j) (g7:j<=8*b.length) (a3:8*b.length<j+1)=>show d prog 141 #[Q (K h),A G 1] i _ from mY h b j 1 i L g7 c O a3);have k2:=E (λ(j a:Nat) (i:V) (L:l_ i h b j)=>qZ h b j a i L);have k4:=E (λ(j:Nat) (i:V) (L:l_ i h b j) (a3:j+1<=8*b.length)=>show d prog 141 #[Q (K h),A G 1] i _ from qZ h b j 1 i L c O a3);have k1:=E (λ(j:Nat) (i:V) (L:l_ i h b j) (g7:j<=8*b.length) (a3:8*b.length<j+31)=>show d prog 141 #[Q (K h),A G 31] i _ from mY h b j 31 i L g7 c O a3);have k5:=E (λ(j:Nat) (i:V) (L:l_ i h b j) (a3:j+31<=8*b.length)=>show d prog 141 #[Q (K h),A G 31] i _ from qZ h b j 31 i L c O a3);have g0:=E (λ(j:Int) i=>kU #[99,111,100,101,115] j 3 H i);have e9:=E (λ(i:V)=>nf (U I 0 0) i);have e8:=E (λ(m:Int) (n:Option Yi) (f p:Nat) (R:(m==0)=false) (i:V)=>pG m R (U n f p) i);have m9:decide ((g:Int)<0)=false:=Y
 have n0:decide (15<(g:Int))=false:=by simp;omega
 have c0:=E g6.lt;have l0:=E (ai.new z #[A G 0,U I 0 0] 100);have h3:=E (N:X z z (z.alloc (M #[A G 0,U I 0 0] 100)));have k8:=E (g6.ext h3.o);have h4:=E c;have k7:=E i6;have c7:=E i2;clear g6 c i6 i2;go_enter func142,ntmps142;go_wp2
 go_loopw [8] (λq wr=>∃a:Nat,a<=24/\q=A G a/\l_ wr h b (f+a)/\f+a<=8*b.length/\af (·=h) z wr/\ai wr z #[A G 0,U I 0 0] 100) (λq _=>24 - (Yz q).toNat)
 case atStart=>exact⟨0,Yr _,rfl,k8.o,k7.o,af.aj h3.o,l0.o⟩
 case round=>
  obtain⟨a,m5,rfl,j0,i7,i4,i0⟩:=hrel;have c9:=E j0;have c8:=E i4;have a6:=E i0;clear j0 i4 i0;by_cases m7:a<24
  .by_cases m8:8*b.length<=f+a
   .go_wp2_with fail
    refine(k0.o (f+a) _ c9.o i7 O).mono ?_;rintro k y ⟨j2,rfl,l,F⟩;obtain⟨m,n,x,p,rfl,R⟩:=l.shape;have b8:=E l;have b7:=E F;have b9:=E R;have b5:=E (a6.o.ext F);clear l F R
    go_wp2_with fail
    refine(e8.o m n x p b9.o _).mono ?_;rintro k j3 ⟨rfl,J⟩;have C:=E (ext (N:X y y (y.alloc (M #[A G m,U n x p] 100))) J);have v:=E (b5.o.ext C.o);have a0:=E ((ai.new y #[A G m,U n x p] 100).ext J);obtain⟨j5,j6,j7,j8⟩:=a0.o.two;have j1:=a0.o.lt;obtain⟨b1,b2,b3,b4⟩:=v.o.two;have b0:=v.o.lt;clear J
    go_wp2_with fail
    go_region
    go_wp2;obtain⟨r,s,t,u⟩:=((v.o.dC (A G m) (U n x p)).AN).two;refine YD (by simp [YU,results142,go_sem,r,s,t,u];try rfl) rfl ?_;exact Yg ⟨_,rfl,eX.drew ((b8.o.ext C.o).dC v.o _ _),gD (dN (aE (aE c8.o b7.o) C.o) (Yk _) _ _)⟩
   .go_wp2_with fail
    refine(k4.o (f+a) _ c9.o O).mono ?_;rintro k e2 ⟨rfl,i9,g9⟩;have k9:=E i9;have k6:=E (c8.o.trans g9);have j9:=E (a6.o.bS (g9.block _ a6.o.lt (λk=>by have:=c0.o;have h8:z.heap.size=h:=k;omega)));clear i9 g9;have i1:=At b (f+a);generalize bI b (f+a) 1=n2 at i1⊢
    go_wp2_with fail
    refine(e9.o _).mono ?_;rintro k n1 ⟨rfl,c⟩;have g5:=E (ext (N:X e2 e2 (e2.alloc (M #[A G 0,U I 0 0] 100))) c);have h2:=E ((ai.new e2 #[A G 0,U I 0 0] 100).ext c);clear c;have g3:=E (k9.o.ext g5.o);have g1:=E (aE k6.o g5.o);have c6:=E (j9.o.ext g5.o);obtain⟨b1,b2,b3,b4⟩:=h2.o.two;have b0:=h2.o.lt
    rcases i1 with rfl|rfl
    .by_cases l6:8*b.length<f+a+1+g
     .go_wp2_with fail
      refine(k3.o (f+a+1) g _ g3.o O h4.o (by have:=c7.o;omega) O).mono ?_;rintro k y ⟨j2,rfl,l,F⟩;obtain⟨m,n,x,p,rfl,R⟩:=l.shape;have b8:=E l;have b7:=E F;have b9:=E R;have b5:=E (c6.o.ext F);clear l F R
      go_wp2_with fail
      refine(e8.o m n x p b9.o _).mono ?_;rintro k j3 ⟨rfl,J⟩;have C:=E (ext (N:X y y (y.alloc (M #[A G m,U n x p] 100))) J);have v:=E (b5.o.ext C.o);have a0:=E ((ai.new y #[A G m,U n x p] 100).ext J);obtain⟨j5,j6,j7,j8⟩:=a0.o.two;have j1:=a0.o.lt;obtain⟨b1,b2,b3,b4⟩:=v.o.two;have b0:=v.o.lt;clear J
      go_wp2_with fail
      go_region
      go_wp2;obtain⟨r,s,t,u⟩:=((v.o.dC (A G m) (U n x p)).AN).two;refine YD (by simp [YU,results142,go_sem,r,s,t,u];try rfl) rfl ?_;exact Yg ⟨_,rfl,eX.drew ((b8.o.ext C.o).dC v.o _ _),gD (dN (aE (aE g1.o b7.o) C.o) (Yk _) _ _)⟩
     .go_wp2_with fail
      refine(k2.o (f+a+1) g _ g3.o h4.o (by have:=c7.o;omega) O).mono ?_;rintro k T ⟨rfl,c5,a5⟩;have g4:=E c5;have g2:=E (g1.o.trans a5);have e7:=E (c6.o.bS (a5.block _ c6.o.lt (λk=>by have:=c0.o;have h8:z.heap.size=h:=k;omega)));clear c5 a5;have l:=ji b (f+a+1) g;generalize bI b (f+a+1) g=W at l⊢;have i3:=c7.o;have h0:2^g<=2^7:=Nat.pow_le_pow_right O i3;have g8:a*2^g<=24*2^7:=Nat.mul_le_mul O h0
      have l3:wrap64 ((a:Int)*2^g)=((a*2^g:Nat):Int):=by
       have l1:((a:Int)*2^g)=((a*2^g:Nat):Int):=by rw [Int.natCast_mul,Int.natCast_pow];rfl
       rw [l1];generalize a*2^g=h6 at g8;unfold wrap64;omega
      have l8:min g 64=g:=O;generalize a*2^g=h6 at g8 l3;obtain⟨a9,h9⟩:∃a9,W+h6=a9:=⟨_,rfl⟩
      have m4:a9<=10000:=by generalize 2^g=l9 at h0 l;omega
      obtain⟨m0,m1⟩:=UO h9 O;have l7:¬(a:Int)=24:=O
      have m6:((a:Int)==24)=false:=by simpa using l7
      clear l i3 h0 g8 h9 b1 b2 b3 b4 b0
      go_wp2_with fail
      refine(e9.o _).mono ?_;rintro k e1 ⟨rfl,c⟩;have a2:=E (ext (N:X T T (T.alloc (M #[A G 0,U I 0 0] 100))) c);have b6:=E ((ai.new T #[A G 0,U I 0 0] 100).ext c);clear c;have a8:=E (g4.o.ext a2.o);have a7:=E (aE g2.o a2.o);have P:=E (e7.o.ext a2.o);obtain⟨b1,b2,b3,b4⟩:=b6.o.two;have b0:=b6.o.lt;by_cases l4:510<a9
      .obtain⟨h7,cap,D, -, -⟩:=a8.o
       have i5:=D.lt;have c3:e1.cell? ⟨h,1,I⟩=K (A G ((f+a+1+g:Nat):Int)):=D.cell 1;clear D;generalize f+a+1+g=h5 at c3
       go_wp2_with fail
       refine(g0.o _ _).mono ?_;rintro k j4 ⟨c4,rfl,a1,c⟩;have c2:=E a1;have c1:=E c;have w:=E (P.o.ext c);obtain⟨e3,e4,e5,e6⟩:=w.o.two;have e0:=w.o.lt;clear a1 c
       go_wp2_with fail
       obtain⟨r,s,t,u⟩:=(w.o.dC (A G 3) (U (K c4) 1 1)).two;refine YD (by simp [YU,results142,go_sem,r,s,t,u];try rfl) rfl ?_;exact Yg ⟨_,rfl,eX.dC ⟨3,_,rfl,H,Yh ⟨_,_,c2.o⟩⟩ w.o _ _,dN (aE a7.o c1.o) (Yk _) _ _⟩
      .have l5:¬1073741824<a9:=O
       obtain⟨e3,e4,e5,e6⟩:=P.o.two;have e0:=P.o.lt
       go_wp2_with fail
       go_region
       go_wp2;obtain⟨r,s,t,u⟩:=((P.o.dC (A G 0) (U I 0 0)).AN).two;refine YD (by simp [YU,results142,go_sem,r,s,t,u];try rfl) rfl ?_;exact Yh ⟨a9,f+a+1+g,rfl,Dl a8.o c0.o,O,O,gD (dN a7.o (Yk _) _ _)⟩
    .go_wp2
     go_roundw
     case rel=>exact⟨a+1,O,S,g3.o,O,g1.o,c6.o⟩
     case measure=>simp [Yz];omega
  .obtain rfl:a=24:=O
   by_cases l6:8*b.length<f+24+31
   .go_wp2_with fail
    refine(k1.o (f+24) _ c9.o i7 O).mono ?_;rintro k y ⟨j2,rfl,l,F⟩;obtain⟨m,n,x,p,rfl,R⟩:=l.shape;have b8:=E l;have b7:=E F;have b9:=E R;have b5:=E (a6.o.ext F);clear l F R
    go_wp2_with fail
    refine(e8.o m n x p b9.o _).mono ?_;rintro k j3 ⟨rfl,J⟩;have C:=E (ext (N:X y y (y.alloc (M #[A G m,U n x p] 100))) J);have v:=E (b5.o.ext C.o);have a0:=E ((ai.new y #[A G m,U n x p] 100).ext J);obtain⟨j5,j6,j7,j8⟩:=a0.o.two;have j1:=a0.o.lt;obtain⟨b1,b2,b3,b4⟩:=v.o.two;have b0:=v.o.lt;clear J
    go_wp2_with fail
    go_region
    go_wp2;obtain⟨r,s,t,u⟩:=((v.o.dC (A G m) (U n x p)).AN).two;refine YD (by simp [YU,results142,go_sem,r,s,t,u];try rfl) rfl ?_;exact Yg ⟨_,rfl,eX.drew ((b8.o.ext C.o).dC v.o _ _),gD (dN (aE (aE c8.o b7.o) C.o) (Yk _) _ _)⟩
   .go_wp2_with fail
    refine(k5.o (f+24) _ c9.o O).mono ?_;rintro k T ⟨rfl,c5,a5⟩;have g4:=E c5;have g2:=E (c8.o.trans a5);have e7:=E (a6.o.bS (a5.block _ a6.o.lt (λk=>by have:=c0.o;have h8:z.heap.size=h:=k;omega)));clear c5 a5;have l:=k_ b (f+24) 31 O;generalize bI b (f+24) 31=W at l⊢
    go_wp2_with fail
    refine(e9.o _).mono ?_;rintro k e1 ⟨rfl,c⟩;have a2:=E (ext (N:X T T (T.alloc (M #[A G 0,U I 0 0] 100))) c);have b6:=E ((ai.new T #[A G 0,U I 0 0] 100).ext c);clear c;have a8:=E (g4.o.ext a2.o);have a7:=E (aE g2.o a2.o);have P:=E (e7.o.ext a2.o);obtain⟨b1,b2,b3,b4⟩:=b6.o.two;have b0:=b6.o.lt
    have l8:min g 64=g:=by have:=c7.o;omega
    have l2:(W:Int) / 2^g=((W / 2^g:Nat):Int):=by rw [Int.natCast_ediv,Int.natCast_pow];rfl
    generalize W / 2^g=h1 at l2;by_cases l4:510<W
    .obtain⟨h7,cap,D, -, -⟩:=a8.o
     have i5:=D.lt;have c3:e1.cell? ⟨h,1,I⟩=K (A G ((f+24+31:Nat):Int)):=D.cell 1;clear D;generalize f+24+31=h5 at c3
     go_wp2_with fail
     refine(g0.o _ _).mono ?_;rintro k j4 ⟨c4,rfl,a1,c⟩;have c2:=E a1;have c1:=E c;have w:=E (P.o.ext c);obtain⟨e3,e4,e5,e6⟩:=w.o.two;have e0:=w.o.lt;clear a1 c
     go_wp2_with fail
     obtain⟨r,s,t,u⟩:=(w.o.dC (A G 3) (U (K c4) 1 1)).two;refine YD (by simp [YU,results142,go_sem,r,s,t,u];try rfl) rfl ?_;exact Yg ⟨_,rfl,eX.dC ⟨3,_,rfl,H,Yh ⟨_,_,c2.o⟩⟩ w.o _ _,dN (aE a7.o c1.o) (Yk _) _ _⟩
    .have l5:¬1073741824<W:=O
     by_cases m2:h1<24
     .obtain⟨h7,cap,D, -, -⟩:=a8.o
      have i5:=D.lt;have c3:e1.cell? ⟨h,1,I⟩=K (A G ((f+24+31:Nat):Int)):=D.cell 1;clear D;generalize f+24+31=h5 at c3
      go_wp2_with fail
      refine(g0.o _ _).mono ?_;rintro k j4 ⟨c4,rfl,a1,c⟩;have c2:=E a1;have c1:=E c;have w:=E (P.o.ext c);obtain⟨e3,e4,e5,e6⟩:=w.o.two;have e0:=w.o.lt;clear a1 c
      go_wp2_with fail
      obtain⟨r,s,t,u⟩:=(w.o.dC (A G 3) (U (K c4) 1 1)).two;refine YD (by simp [YU,results142,go_sem,r,s,t,u];try rfl) rfl ?_;exact Yg ⟨_,rfl,eX.dC ⟨3,_,rfl,H,Yh ⟨_,_,c2.o⟩⟩ w.o _ _,dN (aE a7.o c1.o) (Yk _) _ _⟩
     .have m3:24<=h1:=O
      obtain⟨e3,e4,e5,e6⟩:=P.o.two;have e0:=P.o.lt
      go_wp2_with fail
      go_region
      go_wp2;obtain⟨r,s,t,u⟩:=((P.o.dC (A G 0) (U I 0 0)).AN).two;refine YD (by simp [YU,results142,go_sem,r,s,t,u];try rfl) rfl ?_;exact Yh ⟨W,f+24+31,rfl,Dl a8.o c0.o,O,O,gD (dN a7.o (Yk _) _ _)⟩
theorem Ft(a1:Option Yi)(len cap:Nat)(h:List Int)(b j c a:Nat)(F:V)(e2:aY F (U a1 len cap) h)(b8:j<b)(h5:8<=b)(h4:b<=32)(q:c*b+j=a)(i1:a<=h.length)(i2:h.length<=1024)(b6:∀W,W<a->0<=h.getD W 0/\h.getD W 0<=255):
  d prog 143 #[U a1 len cap,A G b,A G j,A G c] F λy e9=>y=e (A G (dX b h a))/\∃e7,e9=F.drewN e7:=by
 obtain⟨g2,g3,y,h6,h7, -, -,b1⟩:=e2;simp only [Yy] at y;obtain⟨rfl,rfl,rfl⟩:=y;have c0:c*b<=1024:=O
 have P:(c:Int)*(b:Int)=((c*b:Nat):Int):=by rw [Int.natCast_mul]
 have a6:Zc G ((c:Int)*(b:Int))=(c:Int)*(b:Int):=by rw [P,Yo];omega
 have a7:Zc G ((c:Int)*(b:Int)+(j:Int))=(a:Int):=by rw [P,Yo];omega
 clear P
 have b3:a / b=c:=by rw [<-q,Nat.mul_comm,Nat.mul_add_div O,Nat.div_eq_of_lt b8];omega
 have b5:a%b=j:=by rw [<-q,Nat.mul_comm,Nat.mul_add_mod,Nat.mod_eq_of_lt b8]
 have c2:=E (λ(e8:Int) (g0:V)=>Lw e8 g0);have J:=E b1;have L:=E b6
 have f:dX b h a=if a=0 then 128 else if c=0 then h.getD (a - 1) 0 else if j=0 then h.getD (a - b) 0 else eF (h.getD (a - 1) 0+h.getD (a - b) 0 - h.getD (a - b - 1) 0):=by unfold dX;rw [b3,b5]
 generalize dX b h a=g1 at f;have w:=E f;generalize e0:h.length=a0 at*;clear f b1 b6 e0 b3 b5;by_cases k:a=0
 .have f:=w.o
  rw [if_pos k] at f;have n:=E f;subst k
  have e4:c=0:=by
   rcases Nat.eq_zero_or_pos c with t|t
   .exact t
   .have:=Nat.le_mul_of_pos_left b t;omega
  subst e4;obtain rfl:j=0:=O;clear f q;go_enter func143,ntmps143;go_wp2;go_returns;exact⟨by rw [n.o];rfl,0,rfl⟩
 .obtain⟨h1,off,rfl,x⟩:=J.o (a - 1) O
  have h8:=Yj F _ x;obtain⟨i,R⟩:∃i,a=i+1:=⟨a - 1,O⟩;have T:(a:Int) - 1=(i:Int):=O
  have b0:Zc G ((a:Int) - 1)=(i:Int):=by rw [Yo];omega
  have b7:¬(a:Int)=0:=O
  have e1:((a:Int)==0)=false:=by simpa using b7
  have c7:i<a0:=O;rw [(O:a - 1=i)] at x;obtain⟨r,p⟩:∃r,h.getD i 0=r:=⟨_,rfl⟩;rw [p] at x;by_cases v:c=0
  .have f:=w.o
   rw [if_neg k,if_pos v,show a - 1=i from O,p] at f;have n:=E f;subst v;obtain rfl:j=i+1:=O;clear f q k p R T a6 a7 b0 b7 e1;go_enter func143,ntmps143;go_wp2;go_returns;exact⟨by rw [n.o];rfl,0,rfl⟩
  .have e5:¬(c:Int)=0:=O
   have i4:((c:Int)==0)=false:=by simpa using e5
   have b9:b<=c*b:=Nat.le_mul_of_pos_left b O;have b2:b<=a:=O;obtain⟨g,b4⟩:∃g,a=g+b:=⟨a - b,O⟩
   have c5:Zc G ((a:Int) - (b:Int))=(g:Int):=by rw [Yo];omega
   have h9:g<a0:=O;obtain⟨h2,i5,a8,c3⟩:=J.o g O;simp only [YQ,Addr.mk.injEq,and_true] at a8;obtain⟨rfl,rfl⟩:=a8;obtain⟨s,u⟩:∃s,h.getD g 0=s:=⟨_,rfl⟩;rw [u] at c3;by_cases D:j=0
   .have f:=w.o
    rw [if_neg k,if_neg v,if_pos D,show a - b=g from O,u] at f;have n:=E f;subst D;obtain⟨m,c1⟩:∃m,c=m+1:=⟨c - 1,O⟩;have e6:c<=1024:=Yl (Nat.le_mul_of_pos_right _ O) c0;have g7:(c:Int) - 1=(m:Int):=O
    have g4:Zc G ((c:Int) - 1)=(m:Int):=by rw [Yo];omega
    have g5:(m:Int)*(b:Int)=(g:Int):=by
     have c6:m*b=g:=by rw [c1,Nat.succ_mul] at q;omega
     rw [<-c6,Int.natCast_mul]
    have g6:Zc G (g:Int)=(g:Int):=by rw [Yo];omega
    have g8:wrap64 (m:Int)=(m:Int):=by unfold wrap64;omega
    have g9:wrap64 (g:Int)=(g:Int):=by unfold wrap64;omega
    clear f q k p R T v b9 b2 b4 u b0 c7 x a6 a7 c5 c0 e6 c1;go_enter func143,ntmps143;go_wp2;go_returns;exact⟨by rw [n.o];rfl,0,rfl⟩
   .have e3:¬(j:Int)=0:=O
    have i3:((j:Int)==0)=false:=by simpa using e3
    have c8:b+1<=a:=O;obtain⟨l,c9⟩:∃l,g=l+1:=⟨g - 1,O⟩
    have h0:Zc G ((g:Int) - 1)=(l:Int):=by rw [Yo];omega
    have i0:l<a0:=O;obtain⟨h3,i6,a9,c4⟩:=J.o l O;simp only [YQ,Addr.mk.injEq,and_true] at a9;obtain⟨rfl,rfl⟩:=a9;obtain⟨C,z⟩:∃C,h.getD l 0=C:=⟨_,rfl⟩;rw [z] at c4;have f:=w.o;rw [if_neg k,if_neg v,if_neg D,show a - b=g from O,show g - 1=l from O,show a - 1=i from O,p,u,z] at f;have n:=E f;have a2:=L.o i O;have a3:=L.o g O;have a5:=L.o l O;rw [p] at a2;rw [u] at a3;rw [z] at a5
    have i7:Zc G (r+s)=r+s:=by rw [Yo];omega
    have i9:Zc G (r+s - C)=r+s - C:=by rw [Yo];omega
    clear f q k p R T v b9 b2 b4 u c9 z D c8 a2 a3 a5;go_enter func143,ntmps143
    go_wp2_with fail
    go_quiet ((go_at_call 188;exact(c2.o _ _).mono λ_ _ t=>⟨t.1,_,t.2.symm⟩));go_wp2;go_returns;exact⟨by rw [n.o];rfl,_,rfl⟩
theorem Bz(a:Nat)(c:V)(j:a<=510):
  d prog 144 #[A G a] c λf i=>f=e (A G (eR a))/\c=i:=by
 have k:decide ((a:Int)<0)=false:=Y
 have l:decide (4611686018427387904<(a:Int))=false:=by simp;omega
 unfold eR;have h:a%2=1∨a%2=0:=O
 rcases h with b|b
 .have g:(a:Int)%2=1:=O
  rw [if_pos b];go_enter func144,ntmps144;go_wp2;go_returns;exact⟨S,rfl⟩
 .have g:(a:Int)%2=0:=O
  rw [if_neg O];go_enter func144,ntmps144;go_wp2;go_returns;exact⟨S,rfl⟩
def VW(c:Nat)(j:Bs)(h g:Nat)(f:V)(k:Ending)(a:V):Prop:=
 (∃q r n p o m,k=e (Ye #[Yc #[A G q,A G r,U n p o],m])/\eX a m/\af (·=c) f a)∨
 ∃b i cap l,k=e (Ye #[Yc #[A G h,A G g,U i b.length cap],Yc #[A G 0,U I 0 0]])/\aa a f (U i b.length cap) b/\b.length=h*g/\l_ a c j l/\l<=8*j.length/\af (·=c) f a
theorem eX.rD{a:V}{R m:Nat}{z y:Int}{x l:Z}(p:eX a l)(q:ai a R #[A G z,A G y,x] m)(c h i:Z):eX (((a.setCell R c).setCell ⟨R,1,I⟩ h).setCell ⟨R,2,I⟩ i) l:=by
 obtain⟨u,v,n,r,s⟩:=p;refine⟨u,v,n,r,?_⟩
 rcases s with f|⟨w,t,b,cap,o,lg,j,f⟩
 .exact Yg f
 .refine Yh ⟨w,t,b,cap,o,by simpa using lg,?_,?_⟩
  all_goals
   have g:b≠R:=by
    rintro rfl;have:=q.cell 0;rw [j] at this;cases this
   have k:(((a.setCell R c).setCell ⟨R,1,I⟩ h).setCell ⟨R,2,I⟩ i).heap[b]? =a.heap[b]?:=(Yt _ _ _ _ g).trans ((Yt _ _ _ _ g).trans (Yt _ _ _ _ g))
  .exact(YS (w:=a) (a:=b) k).trans j
  .exact(YS (w:=a) (a:=⟨b,1,I⟩) k).trans f
def yN(f:V)(R:Nat)(a b c g h:Z):V:=((((f.setCell R a).setCell ⟨R,1,I⟩ b).setCell ⟨R,2,I⟩ c).setCell ⟨R+1,0,I⟩ g).setCell ⟨R+1,1,I⟩ h
theorem ai.wA{h:V}{R:Nat}{p o:Int}{m n:Z}(l:ai h R #[A G p,A G o,m] 81)(k:ai h (R+1) #[A G 0,n] 100)(a b c g f:Z):
  ai (yN h R a b c g f) R #[a,b,c] 81/\ai (yN h R a b c g f) (R+1) #[g,f] 100:=by
 have i:=((l.rD a b c).ab ⟨R+1,0,I⟩ g (by show R≠R+1;omega)).ab ⟨R+1,1,I⟩ f (by show R≠R+1;omega);have j:=((k.ab R a (by show R+1≠R;omega)).ab ⟨R,1,I⟩ b (by show R+1≠R;omega)).ab ⟨R,2,I⟩ c (by show R+1≠R;omega);exact⟨i,j.dC g f⟩
theorem eX.wA{a:V}{R:Nat}{p o:Int}{m n g:Z}(j:eX a g)(l:ai a R #[A G p,A G o,m] 81)(k:ai a (R+1) #[A G 0,n] 100)(b c f i h:Z):eX (yN a R b c f i h) g:=
 (j.rD l b c f).dC (((k.ab R b (by show R+1≠R;omega)).ab ⟨R,1,I⟩ c (by show R+1≠R;omega)).ab ⟨R,2,I⟩ f (by show R+1≠R;omega)) i h
theorem mX{F:Nat->Prop}{a i:V}{R:Nat}(k:af F a i)(g:a.heap.size<=R)(b c f j h:Z):af F a (yN i R b c f j h):=dN (fY k g b c f) (Nat.le_succ_of_le g) j h
theorem l_.wA{i:V}{a h R:Nat}{c:Bs}(j:l_ i a c h)(k:a<R)(b f g m l:Z):l_ (yN i R b f g m l) a c h:=((j.up k b f g).iL (a:=⟨R+1,0,I⟩) (by show a<R+1;omega)).iL (a:=⟨R+1,1,I⟩) (by show a<R+1;omega)
theorem aa.wA{k:V}{b R:Nat}{j:Z}{h:List Int}(m:aa k b j h)(g:R+1<b)(a c f l i:Z):aa (yN k R a c f l i) b j h:=
 ((((m.ab (a:=R) (by show R<b;omega) a).ab (a:=⟨R,1,I⟩) (by show R<b;omega) c).ab (a:=⟨R,2,I⟩) (by show R<b;omega) f).ab (a:=⟨R+1,0,I⟩) g l).ab (a:=⟨R+1,1,I⟩) g i
theorem Bv{F:Nat->Prop}{c i j:V}{f:Nat}(a:af F c i)(b:X f i j)(k:c.heap.size<=f):af F c j:=⟨b.os.trans a.os,b.tape.trans a.tape,b.output.trans a.output,Yl a.size b.size,λh g l=>(b.block h (Yv g k)).trans (a.block h g l)⟩
theorem dJ{h i:V}{g a b:Nat}{c:Array Z}(f:ai h a c b)(j:af (·=g) h i)(k:a≠g):ai i a c b:=f.bS (j.block a f.lt k)
theorem aa.Bu{g h:V}{c a:Nat}{f:Z}{b:List Int}(i:aa g a f b)(j:af (·=c) g h)(k:c<a):aa h a f b:=i.dS j (by intro q l;omega)
theorem vD(n:Nat)(h:Bs)(r a i:Nat)(g:V)(C:l_ g n h r)(e3:h.length<=1000000)(j3:r<=8*h.length)(r3:8<=a)(l8:a<=32)(w9:8<=i)(r2:i<=32):
  d prog 98 #[Q (K n),A G a,A G i] g (VW n h a i g):=by
 obtain⟨F,g2⟩:∃F,a*i=F:=⟨_,rfl⟩
 have x0:F<=1024:=by rw [<-g2];exact Nat.mul_le_mul l8 r2
 have l7:(a:Int)*(i:Int)=(F:Int):=by rw [<-g2,Int.natCast_mul]
 have v8:Zc G ((a:Int)*(i:Int))=(F:Int):=by rw [l7,Yo];omega
 have p0:=E g2;have q3:=E C.lt;have x1:¬(a:Int)=0:=O;have k1:=E (λ(f:V)=>nf (U I 0 0) f);have k0:=E (λ(x:Int) (s:Option Yi) (r z:Nat) (b0:(x==0)=false) (f:V)=>pG x b0 (U s r z) f);have n6:=E (λ(f:V) (q:l_ f n h r) (j1:8*h.length<r+3)=>show d prog 141 #[Q (K n),A G 3] f _ from mY n h r 3 f q j3 e3 O j1);have n4:=E (λ(f:V) (q:l_ f n h r) (j1:r+3<=8*h.length)=>show d prog 141 #[Q (K n),A G 3] f _ from qZ n h r 3 f q e3 O j1);have n8:=E (λ(m e7:Nat) (f:V) (q:l_ f n h m) (g1:m<=8*h.length) (c2:e7<=7)=>KJ n h m e7 f q e3 g1 c2);have n3:=E (λ(f:V)=>nZ 3 f);have l3:=E ((ai.new g #[A G 0,A G 0,U I 0 0] 81).alloc (M #[A G 0,U I 0 0] 100));have k3:=E (fI (g.alloc (M #[A G 0,A G 0,U I 0 0] 81)) (g.heap.size+1) #[A G 0,U I 0 0] 100 Y);have h7:=E (N:X g g ((g.alloc (M #[A G 0,A G 0,U I 0 0] 81)).alloc (M #[A G 0,U I 0 0] 100)));have l1:=E (C.ext h7.o);have v5:=E e3;have o9:=E j3;clear C e3 j3 g2 l7;go_enter func98,ntmps98;by_cases s6:8*h.length<r+3
 .go_wp2_with fail
  refine(n6.o _ l1.o s6).mono ?_;rintro J p ⟨u9,rfl,a9,a8⟩;obtain⟨x,s,m,z,rfl,b0⟩:=a9.shape;have c7:=E a9;have i6:=E b0;have o3:=E (ext h7.o a8);have i7:=E (l3.o.ext a8);have e9:=E (k3.o.ext a8);clear a9 b0 a8
  go_wp2_with fail
  refine wp_loop_rounds 1 ?_;rw [rounds_succ]
  go_wp2_with fail
  refine(k0.o x s m z i6.o _).mono ?_;rintro J y0 ⟨rfl,g4⟩;have D:=E (ext (N:X p p ((p.alloc (M #[A G x,U s m z] 100)).alloc (M #[A G a,A G i,U I 0 0] 81))) g4);have a6:=E (((ai.new p #[A G x,U s m z] 100).alloc (M #[A G a,A G i,U I 0 0] 81)).ext g4);have a5:=E ((fI (p.alloc (M #[A G x,U s m z] 100)) (p.heap.size+1) #[A G a,A G i,U I 0 0] 81 Y).ext g4);have T:=E (i7.o.ext D.o);have L:=E (e9.o.ext D.o);obtain⟨h0,h1,h2,h3⟩:=a6.o.two;obtain⟨e0,e1,e2,w0,w1,w2⟩:=a5.o.three;obtain⟨b6,b7,b8,b9,c0,c1⟩:=T.o.three;obtain⟨b2,b3,b4,b5⟩:=L.o.two;have g9:=a6.o.lt;have m9:=a5.o.lt;have b1:=T.o.lt;have lt:=L.o.lt;clear g4
  have r4:g.heap.size+2<=p.heap.size:=by have:=e9.o.lt;omega
  go_wp2_with fail
  go_region
  go_wp2;refine YD (by simp [YU,results98,go_sem,b6,b7,b8,b9,c0,c1,b2,b3,b4,b5,b1,lt];try rfl) rfl ?_;exact Yg ⟨_,_,_,_,_,_,rfl,eX.drew ((c7.o.ext D.o).wA T.o L.o _ _ _ _ _),gD (mX (af.aj (ext o3.o D.o)) (Yk _) _ _ _ _ _)⟩
 .go_wp2_with fail
  refine(n4.o _ l1.o O).mono ?_;rintro J p ⟨rfl,m5,e4⟩;have m1:=ji h r 3;generalize bI h r 3=e7 at m1⊢;have r8:e7<=7:=O;have p5:=E m5;have s5:=q3.o;have o5:=E ((af.aj h7.o:af (·=n) g _).trans e4);have i7:=E (dJ l3.o e4 O);have e9:=E (dJ k3.o e4 O);obtain⟨b,g3⟩:∃b,p.heap.size=b:=⟨_,rfl⟩
  have r4:g.heap.size+2<=b:=by rw [<-g3];have:=e4.size;simp at this;omega
  clear m5 e4 m1;have a6:=E (show ai ((p.alloc (M #[A G 0,U I 0 0] 100)).alloc (M #[A G a,A G i,U I 0 0] 81)) b #[A G 0,U I 0 0] 100 from by rw [<-g3];exact(ai.new p #[A G 0,U I 0 0] 100).alloc _);have a5:=E (show ai ((p.alloc (M #[A G 0,U I 0 0] 100)).alloc (M #[A G a,A G i,U I 0 0] 81)) (b+1) #[A G a,A G i,U I 0 0] 81 from fI _ _ _ _ (by simp [g3]));have D:=E (N:X p p ((p.alloc (M #[A G 0,U I 0 0] 100)).alloc (M #[A G a,A G i,U I 0 0] 81)));have T:=E (i7.o.ext D.o);have L:=E (e9.o.ext D.o);have i4:=E (p5.o.ext D.o);have i0:=E (aE o5.o D.o);go_wp2;clear g3
  go_loopw [11] (λe6 wr=>∃(c:Nat) (v:List Int) (j8:Z) (m:Nat),c<=F/\e6=A G c/\v.length=c/\ax v 0 255=true/\l_ wr n h m/\m<=8*h.length/\aa wr (b+2) j8 v/\af (·=n) g wr/\ai wr g #[A G 0,A G 0,U I 0 0] 81/\ai wr (g.heap.size+1) #[A G 0,U I 0 0] 100/\ai wr b #[A G 0,U I 0 0] 100/\ai wr (b+1) #[A G a,A G i,j8] 81) (λe6 _=>F - (Yz e6).toNat)
  case atStart=>exact⟨0,[],U I 0 0,r+3,Yr _,rfl,rfl,rfl,i4.o,by have:=o9.o;omega,aa.nil _ _,i0.o,T.o,L.o,a6.o,a5.o⟩
  case round=>
   obtain⟨c,v,j8,m,x2,rfl,s0,m8,m7,g8,m3,m2,m0,l9,g7,j2⟩:=hrel;have i5:=E m8;have l2:=E m7;have l0:=E m3;have i2:=E m2;have h9:=E m0;have h8:=E l9;have k7:=E g7;have k6:=E j2;have y:=E s0;have v7:=E j2.lt;obtain⟨h0,h1,h2,h3⟩:=g7.two;have g9:=g7.lt;clear m8 m7 m3 m2 m0 l9 j2 g7
   go_wp2_with fail
   refine(k1.o _).mono ?_;rintro J x9 ⟨rfl,a8⟩;have j:=E a8;clear a8 h0 h1 h2 h3 g9;by_cases x3:c<F
   .go_wp2_with fail
    refine(n8.o m e7 _ (l2.o.ext j.o) g8 r8).mono ?_;rintro J a0 (⟨u9,rfl,a9,u⟩|⟨c5,u0,rfl,m6,s3,s7,u⟩)
    .obtain⟨x,s,j6,z,rfl,b0⟩:=a9.shape
     have c7:=E a9;have i6:=E b0;have i1:=E ((aE i2.o j.o).trans u);have i9:=E (dJ (h9.o.ext j.o) u O);have g0:=E (dJ (h8.o.ext j.o) u O)
     have x7:g.heap.size+2<=a0.heap.size:=by have:=g0.o.lt;omega
     clear a9 b0 u
     go_wp2_with fail
     refine(k0.o x s j6 z i6.o _).mono ?_;rintro J e8 ⟨rfl,c3⟩;have t:=E (ext (N:X a0 a0 (a0.alloc (M #[A G x,U s j6 z] 100))) c3);have l6:=E ((ai.new a0 #[A G x,U s j6 z] 100).ext c3);have c8:=E (i9.o.ext t.o);have c6:=E (g0.o.ext t.o);obtain⟨h0,h1,h2,h3⟩:=l6.o.two;obtain⟨b6,b7,b8,b9,c0,c1⟩:=c8.o.three;obtain⟨b2,b3,b4,b5⟩:=c6.o.two;have g9:=l6.o.lt;have b1:=c8.o.lt;have lt:=c6.o.lt;clear c3
     go_wp2_with fail
     go_region
     go_wp2;refine YD (by simp [YU,results98,go_sem,b6,b7,b8,b9,c0,c1,b2,b3,b4,b5,b1,lt];try rfl) rfl ?_;exact Yg ⟨_,_,_,_,_,_,rfl,eX.drew ((c7.o.ext t.o).wA c8.o c6.o _ _ _ _ _),gD (mX (aE i1.o t.o) (Yk _) _ _ _ _ _)⟩
    .have p6:=E m6
     have i1:=E ((aE i2.o j.o).trans u);have i9:=E (dJ (h9.o.ext j.o) u O);have g0:=E (dJ (h8.o.ext j.o) u O);have q6:=E (dJ (k7.o.ext j.o) u O);have o1:=E (dJ (k6.o.ext j.o) u O);have p1:=E (aa.Bu (l0.o.ext j.o) u O);clear m6 u
     go_wp2_with fail
     refine(k1.o _).mono ?_;rintro J e8 ⟨rfl,c3⟩;have t:=E (ext (N:X a0 a0 (a0.alloc (M #[A G 0,U I 0 0] 100))) c3);have p7:=E (p6.o.ext t.o);have o6:=E (aE i1.o t.o);have c8:=E (i9.o.ext t.o);have c6:=E (g0.o.ext t.o);have q7:=E (q6.o.ext t.o);have h4:=E (o1.o.ext t.o);have i3:=E (p1.o.ext t.o);clear c3;obtain⟨a1,q⟩:∃a1,c%a=a1:=⟨_,rfl⟩;obtain⟨a2,c4⟩:∃a2,c / a=a2:=⟨_,rfl⟩
     have s9:a1<a:=by rw [<-q];exact Nat.mod_lt _ O
     have r7:a2*a+a1=c:=by rw [<-q,<-c4,Nat.mul_comm];exact Nat.div_add_mod c a
     have u2:Int.tmod (c:Int) (a:Int)=(a1:Int):=by rw [<-Int.ofNat_tmod,q]
     have u5:Int.tdiv (c:Int) (a:Int)=(a2:Int):=by rw [<-Int.ofNat_tdiv,c4]
     have u3:(c:Int)%(a:Int)=(a1:Int):=by rw [<-Int.natCast_emod,q]
     have u6:(c:Int) / (a:Int)=(a2:Int):=by rw [<-Int.natCast_ediv,c4]
     have u4:c%a=a1:=q;have u7:c / a=a2:=c4
     have x8:a2<=1024:=by rw [<-c4];exact Yl (Nat.div_le_self _ _) O
     obtain⟨n0,n1,e5⟩:=i3.o.shape;rw [y.o] at e5;subst e5
     have j9:=E (λ(f:V) (q:aY f (U n0 c n1) v)=>Ft n0 c n1 v a a1 a2 c f q s9 r3 l8 r7 (by rw [y.o];exact Yk _) (by rw [y.o];omega) (λe6 r6=>by
      have c2:=(List.all_eq_true.1 i5.o) (v.getD e6 0) (by rw [Yp,YM (by rw [y.o];exact r6)];exact List.getElem_mem _)
      simpa using c2))
     have k2:=E (λ(f:V)=>Bz c5 f s7);have r5:=Bj a v c i5.o
     have s8: -600<=eR c5/\eR c5<=600:=by unfold eR;split<;>omega
     generalize dX a v c=P at r5 j9;generalize eR c5=W at s8 k2
     have v9:Zc G (P+W)=P+W:=by rw [Yo];omega
     obtain⟨e0,e1,e2, -, -, -⟩:=h4.o.three;have r9:=h4.o.lt;clear q c4
     go_wp2_with fail
     go_quiet (first
      |(go_at_call 143;exact(j9.o _ (i3.o.ints.ext (ag (Yn _ _) _))).mono λ_ _ C=>⟨C.1,C.2.elim λm g8=>⟨_,g8.trans (drewN_drewN _ _ _)⟩⟩)
      |(go_at_call 144;exact(k2.o _).mono λ_ _ C=>⟨C.1,_,C.2.symm⟩))
     rename Nat=>j7;have a3:=E (show X e8 e8 (e8.drewN j7) from ag (Yn _ _) j7);generalize e8.drewN j7=y1 at*;have p8:=E (p7.o.ext a3.o);have k8:=E (aE o6.o a3.o);have l4:=E (c8.o.ext a3.o);have k4:=E (c6.o.ext a3.o);have q8:=E (q7.o.ext a3.o);have h5:=E (h4.o.ext a3.o);have p2:=E (i3.o.ext a3.o);clear e0 e1 e2 r9 u2 u5 u3 u6 u4 u7;by_cases g6:P+W<0∨255<P+W
     .generalize P+W=j0 at g6⊢
      have n2:=E g6;by_cases s4:j0<0
      all_goals (
       first|skip
       have m4:¬j0<0->j0>255:=λC=>by have:=n2.o;omega
       first|(have x4:=m4 s4)|skip
       clear m4 g6
       go_wp2_with fail
       refine(n3.o _).mono ?_;rintro J y2 ⟨rfl,g5⟩;have l5:=E (l4.o.ext g5);have k5:=E (k4.o.ext g5);have q2:=E (aE k8.o g5);obtain⟨b6,b7,b8,b9,c0,c1⟩:=l5.o.three;obtain⟨b2,b3,b4,b5⟩:=k5.o.two;have b1:=l5.o.lt;have lt:=k5.o.lt;clear g5;go_wp2;refine YD (by simp [YU,results98,go_sem,b6,b7,b8,b9,c0,c1,b2,b3,b4,b5,b1,lt];try rfl) rfl ?_
       exact Yg ⟨_,_,_,_,_,_,rfl,(eX.fail _ H),mX q2.o (Yk _) _ _ _ _ _⟩)
     .have j5:0<=P+W/\P+W<=255:=O
      generalize P+W=c9 at j5⊢;have c7:=E j5;have x5:¬c9<0:=O;have x6:¬c9>255:=O;obtain⟨e0,e1,e2, -, -, -⟩:=h5.o.three;have m9:=h5.o.lt;have q1:=E (show v.length<=1099511627776 from by rw [y.o];omega);have o4:=E (show bh c9 from by unfold bh;omega);clear g6 j5
      go_wp2_with (at_builtin;refine cJ rfl (.tmp 67) (.tmp 69) rfl (b+2) _ _ c9 rfl p2.o rfl Y o4.o q1.o O ?_)
      clear e0 e1 e2;intro u1 v3 j4 a7 _;have p3:=E j4;have q4:=E (l4.o.below a7 O);have n9:=E (k4.o.below a7 O);have q9:=E (q8.o.below a7 O);have h6:=E (h5.o.below a7 O);have p9:=E (p8.o.below a7 O);have o7:=E (Bv k8.o a7 O)
      obtain⟨k,w,l,rfl⟩:∃k w l,u1=U k w l:=by obtain⟨k,l,J⟩:=j4.shape;exact⟨k,_,l,J⟩
      clear j4 a7;obtain⟨w3,w4,w5,w6,w7,w8⟩:=h6.o.three;have lg:=h6.o.lt;have q5:=E (q4.o.ab ⟨b+1,2,I⟩ (U k w l) (by show g.heap.size≠b+1;omega));have o0:=E (n9.o.ab ⟨b+1,2,I⟩ (U k w l) (by show g.heap.size+1≠b+1;omega));have r0:=E (q9.o.ab ⟨b+1,2,I⟩ (U k w l) (by show b≠b+1;omega));have o2:Hd (ai (v3.setCell ⟨b+1,2,I⟩ (U k w l)) (b+1) #[A G a,A G i,U k w l] 81):=E (h6.o.set 2 (U k w l));have p4:=E (p3.o.ab (a:=⟨b+1,2,I⟩) (by show b+1<b+2;omega) (U k w l));have q0:=E (p9.o.iL (a:=⟨b+1,2,I⟩) (u:=U k w l) (by show n<b+1;omega));have o8:=E (kH (a:=⟨b+1,2,I⟩) (u:=U k w l) o7.o (by show g.heap.size<=b+1;omega));go_wp2;go_roundw
      case rel=>
       refine⟨c+1,v++[c9],_,u0,O,S,by rw [Yq,y.o];rfl,?_,q0.o,s3,p4.o,o8.o,q5.o,o0.o,r0.o,o2.o⟩;have g1:=i5.o;unfold ax at g1⊢;rw [List.all_append,g1];have c2:=c7.o;simp [c2.1,c2.2]
      case measure=>simp [Yz];omega
   .obtain rfl:c=F:=O
    have i4:=E (l2.o.ext j.o);have i0:=E (aE i2.o j.o);have T:=E (h9.o.ext j.o);have L:=E (h8.o.ext j.o);have a6:=E (k7.o.ext j.o);have a5:=E (k6.o.ext j.o);have k9:=E (l0.o.ext j.o);obtain⟨k,l,e5⟩:=k9.o.shape;rw [y.o] at e5;subst e5;obtain⟨h0,h1,h2,h3⟩:=a6.o.two;obtain⟨e0,e1,e2, -, -, -⟩:=a5.o.three;obtain⟨b6,b7,b8,b9,c0,c1⟩:=T.o.three;obtain⟨b2,b3,b4,b5⟩:=L.o.two;have g9:=a6.o.lt;have m9:=a5.o.lt;have b1:=T.o.lt;have lt:=L.o.lt
    go_wp2_with fail
    go_region
    go_wp2;refine YD (by simp [YU,results98,go_sem,b6,b7,b8,b9,c0,c1,b2,b3,b4,b5,b1,lt];try rfl) rfl ?_;exact Yh ⟨v,k,l,m,by rw [y.o],by have r1:=k9.o.wA (R:=g.heap.size) O (A G a) (A G i) (U k c l) (A G 0) (U I 0 0);rw [y.o];exact r1.mono O,by rw [y.o,p0.o],l_.wA i4.o s5 _ _ _ _ _,g8,gD (mX i0.o (Yk _) _ _ _ _ _)⟩
def EK(c:V)(b:Int)(a:Z):Prop:=(b=0/\a=U I 0 0)∨eX c (Yc #[A G b,a])
theorem EK.ext{b f:V}{g:Int}{c:Z}(a:EK b g c)(h:X b b f):EK f g c:=by
 rcases a with a|a
 .exact Yg a
 .exact Yh (a.ext h)
theorem eX.Bu{b l:V}{g y:Nat}{m:Bs}{k:Z}(p:eX b k)(u:l_ b g m y)(j:af (·=g) b l):eX l k:=by
 obtain⟨x,z,n,v,t⟩:=p;refine⟨x,z,n,v,?_⟩
 rcases t with f|⟨C,w,f⟩
 .exact Yg f
 .refine Yh ⟨C,w,?_⟩
  obtain⟨c,cap,o,lg,h,q⟩:=f;obtain⟨D,F,r, -, -⟩:=u
  have s:c≠g:=by
   rintro rfl;have:=r.cell 0;rw [h] at this;cases this
  have i:=j.block c lg s;exact⟨c,cap,o,Yv lg j.size,(YS (w:=b) (a:=c) i).trans h,(YS (w:=b) (a:=⟨c,1,I⟩) i).trans q⟩
theorem EK.Bu{b g:V}{c l:Nat}{i:Bs}{h:Int}{f:Z}(a:EK b h f)(k:l_ b c i l)(j:af (·=c) b g):EK g h f:=by
 rcases a with a|a
 .exact Yg a
 .exact Yh (a.Bu k j)
theorem EK.shape{i:V}{j:Int}{h:Z}(c:EK i j h):∃a f b,h=U a f b:=by
 rcases c with⟨-,rfl⟩|c
 .exact⟨_,_,_,rfl⟩
 .obtain⟨k,a,f,b,g, -⟩:=c.shape
  simp only [Value.agg.injEq,Array.mk.injEq,List.cons.injEq,and_true] at g;exact⟨a,f,b,g.2⟩
theorem eX.nz{h:V}{b:Int}{g:Z}(c:eX h (Yc #[A G b,g])):(b==0)=false:=by
 obtain⟨k,i,l,j,a,f⟩:=c.shape;simp only [Value.agg.injEq,Array.mk.injEq,List.cons.injEq,and_true,Value.int.injEq,true_and] at a;rw [a.1];exact f
theorem vA(c:Nat)(g:Bs)(i:Nat)(a:V)(q:l_ a c g i)(b1:g.length<=1000000)(j3:i<=8*g.length):
  d prog 99 #[Q (K c)] a λw b9=>∃f k J c7 h,w=e (Yc #[A G f,U k J c7])/\EK b9 f (U k J c7)/\l_ b9 c g h/\h<=8*g.length/\af (·=c) a b9:=by
 have g0:=E (λ(C:Nat) (m:V) (p:l_ m c g C) (i1:C+1<=8*g.length)=>show d prog 141 #[Q (K c),A G 1] m _ from qZ c g C 1 m p b1 O i1);have g2:=E (λ(m:V)=>nf (U I 0 0) m);have g1:=E (λ(f:Int) (k:Option Yi) (i J:Nat) (i3:(f==0)=false) (m:V)=>pG f i3 (U k i J) m);have g3:=E (λ(C:Int) m=>kU #[98,105,116,115] C 2 H m);obtain⟨h,h7⟩:∃h,(8 - i%8)%8=h:=⟨_,rfl⟩;have j2:(i+h)%8=0:=O;have h8:i+h<=8*g.length:=O
 have e3:∀b,b<h->(i+b)%8≠0:=by intro b h5;omega
 have h1:=E q.lt;have h3:=E ((ai.new a #[A G 0,U I 0 0] 100).alloc (M #[A G 0,U I 0 0] 100));have g4:=E (fI (a.alloc (M #[A G 0,U I 0 0] 100)) (a.heap.size+1) #[A G 0,U I 0 0] 100 Y);have c1:=E (N:X a a ((a.alloc (M #[A G 0,U I 0 0] 100)).alloc (M #[A G 0,U I 0 0] 100)));have g9:=E (q.ext c1.o);have g7:=E e3;have g6:=E b1;clear q e3 h7 b1;go_enter func99,ntmps99;go_wp2
 go_loopw [] (λwr=>∃(b:Nat) (f:Int) (b8:Z),b<=h/\EK wr f b8/\l_ wr c g (i+b)/\af (·=c) a wr/\ai wr a #[A G 0,U I 0 0] 100/\ai wr (a.heap.size+1) #[A G f,b8] 100) (λwr=>h+i - (Yz ((wr.cell? ⟨c,1,I⟩).getD Ya)).toNat)
 case atStart=>exact⟨0,0,_,Yr _,Yg ⟨rfl,rfl⟩,g9.o,af.aj c1.o,h3.o,g4.o⟩
 case round=>
  obtain⟨b,f,b8,h5,b5,z,b6,b4,b3⟩:=hrel;obtain⟨a8,b0,a9,rfl⟩:=b5.shape;have h0:=E z;have c3:=E b6;have c2:=E b5;have t:=E b4;have a3:=E b3;obtain⟨j,p⟩:∃j,i+b=j:=⟨_,rfl⟩;have e9:=z;rw [p] at e9;obtain⟨j0,cap,L,c9,e4⟩:=e9;have j1:=L.lt;have a7:wr.cell? ⟨c,1,I⟩=K (A G j):=L.cell 1
  have j5:j<=8000000:=by have:=g6.o;omega
  have e5:=h1.o;by_cases h6:b<h
  .have c8:=g7.o b h6
   rw [p] at c8;obtain⟨R,h9⟩:∃R,j%8=R:=⟨_,rfl⟩;have i0:(j:Int)%8=(R:Int):=O;have j4:0<R:=O;clear L c9 e4 c8 h9;have e8:j+1<=8*g.length:=O;have b7:=z;rw [p] at b7;have c4:=E b7;have i2:=E e8;clear e8 b7 z b6 b4 b3
   go_wp2_with fail
   refine(g0.o j _ c4.o i2.o).mono ?_;rintro w c0 ⟨rfl,e7,y⟩;have e1:=At g j;generalize bI g j 1=k1 at e1⊢;have r:=E e7;have a5:=E (c3.o.trans y);have a6:=E (dJ t.o y O);have a0:=E (dJ a3.o y O);have a2:=E (c2.o.Bu c4.o y);clear e7 y b5;have l:=E (N:X c0 c0 (c0.alloc (M #[A G 0,U I 0 0] 100)))
   rcases e1 with rfl|rfl
   .go_wp2
    go_roundw
    case rel=>exact⟨b+1,f,_,O,a2.o.ext l.o,by rw [<-YW,p];exact r.o.ext l.o,aE a5.o l.o,a6.o.ext l.o,a0.o.ext l.o⟩
    case measure=>
     obtain⟨c5,c6,x, -, -⟩:=r.o.ext l.o;have v:=x.cell 1;rw [a7,v];simp [Yz];omega
   .have a1:=E (a0.o.ext l.o)
    obtain⟨T,W, -, -⟩:=a1.o.two;have P:=a1.o.lt
    rcases a2.o with⟨rfl,e6⟩|e2
    .simp only [Yy] at e6
     obtain⟨rfl,rfl,rfl⟩:=e6
     go_wp2_with fail
     refine(g2.o _).mono ?_;rintro w i9 ⟨rfl,s⟩;have n:=E (ext l.o s);have g5:=E (a1.o.ext s);clear s T W P
     go_wp2_with fail
     refine(g3.o _ _).mono ?_;rintro w k0 ⟨h4,rfl,e0,b2⟩;have F:=E (ext n.o b2);have D:=E (g5.o.ext b2);have h2:=E e0;obtain⟨T,W,k2,k3⟩:=D.o.two;have P:=D.o.lt;clear e0 b2;go_wp2;go_roundw
     case rel=>
      refine⟨b+1,2,_,O,Yh (eX.dC ⟨2,_,rfl,H,Yh ⟨_,_,h2.o⟩⟩ D.o _ _),?_,dN (aE a5.o F.o) (Nat.le_succ _) _ _,?_,D.o.dC _ _⟩
      .rw [<-YW,p]
       exact((r.o.ext F.o).iL (a:=⟨a.heap.size+1,0,I⟩) (by show c<a.heap.size+1;omega)).iL (a:=⟨a.heap.size+1,1,I⟩) (by show c<a.heap.size+1;omega)
      .exact((a6.o.ext F.o).ab ⟨a.heap.size+1,0,I⟩ _ (by show a.heap.size≠a.heap.size+1;omega)).ab ⟨a.heap.size+1,1,I⟩ _ (by show a.heap.size≠a.heap.size+1;omega)
     case measure=>
      obtain⟨c5,c6,x, -, -⟩:=((r.o.ext F.o).iL (a:=⟨a.heap.size+1,0,I⟩) (u:=A G 2) (by show c<a.heap.size+1;omega)).iL (a:=⟨a.heap.size+1,1,I⟩) (u:=U (K h4) 1 1) (by show c<a.heap.size+1;omega);have v:=x.cell 1;rw [a7,v];simp [Yz];omega
    .have g8:=E e2.nz
     clear e2
     go_wp2_with fail
     refine(g1.o f a8 b0 a9 g8.o _).mono ?_;rintro w i9 ⟨rfl,s⟩;have n:=E (ext l.o s);clear s T W P;go_wp2;go_roundw
     case rel=>exact⟨b+1,f,_,O,a2.o.ext n.o,by rw [<-YW,p];exact r.o.ext n.o,aE a5.o n.o,a6.o.ext n.o,a0.o.ext n.o⟩
     case measure=>
      obtain⟨c5,c6,x, -, -⟩:=r.o.ext n.o;have v:=x.cell 1;rw [a7,v];simp [Yz];omega
  .obtain rfl:b=h:=O
   have i0:(j:Int)%8=0:=O;obtain⟨T,W, -, -⟩:=a3.o.two;have P:=a3.o.lt;obtain⟨j6,j7,j8,j9⟩:=t.o.two;have lt:=t.o.lt;clear L c9 e4 z b6 b4 b3;go_wp2;obtain⟨i4,i5,i6,i7⟩:=(t.o.dC (A G f) (U a8 b0 a9)).two;refine YD (by simp [YU,results99,go_sem,i4,i5,i6,i7];try rfl) rfl ?_;refine⟨f,a8,b0,a9,i+b,rfl,?_,(h0.o.iL (a:=a) e5).iL (a:=⟨a,1,I⟩) e5,h8,dN c3.o (Yk _) _ _⟩
   rcases c2.o with q|q
   .exact Yg q
   .exact Yh (q.dC t.o _ _)
def Jh(b:V)(h:Ending)(c:V):Prop:=
 (∃l a f i,h=e (Ye #[U l a f,i])/\Sd i/\X b b c)∨
 ∃g a f k j,h=e (Ye #[U (K ⟨g,0,I⟩) a f,Yc #[A G 0,U I 0 0]])/\1<=a/\a<=16/\c.cell? ⟨g,0,I⟩=K (A G k)/\c.cell? ⟨g,1,I⟩=K (A G j)/\X b b c
theorem mC(a:Nat):dU a=false↔a<1∨4<a:=by unfold dU;simp;omega
theorem xd(k:Z)(c:Bs)(a:V)(h:ah a k c)(r:c.length<5):
  d prog 65 #[k] a (Jh a):=by
 obtain⟨C,cap,rfl⟩:=h.shape;obtain⟨j,g⟩:∃j,c.length=j:=⟨_,rfl⟩;rw [g] at r⊢;have l:=E (λ(u i:Int) (t:(i==0)=false) z=>kU #[115,111,117,114,99,101] u i t z);have p:=E (ai.new a #[A G 0,U I 0 0] 100);have n:=E (N:X a a (a.alloc (M #[A G 0,U I 0 0] 100)));clear h g;go_enter func65,ntmps65
 go_wp2_with fail
 refine(l.o _ _ H _).mono ?_;rintro D R ⟨q,rfl,s,f⟩;have m:=E (ext n.o f);have b:=E (p.o.ext f);obtain⟨F,J,L,P⟩:=b.o.two;have lt:=b.o.lt;clear s f;go_wp2;obtain⟨v,w,x,y⟩:=(b.o.dC (A G 1) (U (K q) 1 1)).two;refine YD (by simp [YU,results65,go_sem,v,w,x,y];try rfl) rfl ?_;exact Yg ⟨_,_,_,_,rfl,⟨_,_,_,_,rfl,H⟩,cH m.o (Yk _) _ _⟩
theorem zp(D:Z)(b:Bs)(a:V)(g:ah a D b)(J:¬b.length<5)(L:av b 0≠75∨av b 1≠83):
  d prog 65 #[D] a (Jh a):=by
 have v:=E (λ(a0 C:Int) (T:(C==0)=false) a7=>kU #[115,111,117,114,99,101] a0 C T a7);have x:=E (ai.new a #[A G 0,U I 0 0] 100);have w:=E (N:X a a (a.alloc (M #[A G 0,U I 0 0] 100)));obtain⟨y,off,cap,rfl,P,R⟩:=g.ft O;obtain⟨i,z⟩:∃i,b.length=i:=⟨_,rfl⟩;rw [z] at J g⊢;have b2:a.cell? ⟨y,off,I⟩=K (A Yf (av b 0:Int)):=g.at (j:=0) O;have a8:a.cell? ⟨y,off+1,I⟩=K (A Yf (av b 1:Int)):=g.at (j:=1) O;have a9:=Yj a _ a8;generalize av b 0=h at*;generalize av b 1=l at*;have b0:0<i:=O;have b1:1<i:=O;have p:h≠75∨(h=75/\l≠83):=O;clear g z P R L
 rcases p with p|⟨rfl,p⟩
 .have q:¬(h:Int)=75:=O
  have W:((h:Int)==75)=false:=by simpa using q
  go_enter func65,ntmps65
  go_wp2_with fail
  refine(v.o _ _ H _).mono ?_;rintro F a6 ⟨m,rfl,n,f⟩;have k:=E (ext w.o f);have c:=E (x.o.ext f);obtain⟨a1,a2,a3,a5⟩:=c.o.two;have lt:=c.o.lt;clear n f;go_wp2;obtain⟨r,s,t,u⟩:=(c.o.dC (A G 2) (U (K m) 1 1)).two;refine YD (by simp [YU,results65,go_sem,r,s,t,u];try rfl) rfl ?_;exact Yg ⟨_,_,_,_,rfl,⟨_,_,_,_,rfl,H⟩,cH k.o (Yk _) _ _⟩
 .have q:¬(l:Int)=83:=O
  have W:((l:Int)==83)=false:=by simpa using q
  go_enter func65,ntmps65
  go_wp2_with fail
  refine(v.o _ _ H _).mono ?_;rintro F a6 ⟨m,rfl,n,f⟩;have k:=E (ext w.o f);have c:=E (x.o.ext f);obtain⟨a1,a2,a3,a5⟩:=c.o.two;have lt:=c.o.lt;clear n f;go_wp2;obtain⟨r,s,t,u⟩:=(c.o.dC (A G 2) (U (K m) 1 1)).two;refine YD (by simp [YU,results65,go_sem,r,s,t,u];try rfl) rfl ?_;exact Yg ⟨_,_,_,_,rfl,⟨_,_,_,_,rfl,H⟩,cH k.o (Yk _) _ _⟩
theorem xc(x:Z)(a:Bs)(b:V)(f:ah b x a)(L:¬a.length<5)(P:¬(av a 0≠75∨av a 1≠83))(t:dU (av a 2)=false∨dU (av a 3)=false∨av a 4<1∨16<av a 4):
  d prog 65 #[x] b (Jh b):=by
 have z:=E (λ(a2 v:Int) (a1:(v==0)=false) a9=>kU #[115,111,117,114,99,101] a2 v a1 a9);have F:=E (ai.new b #[A G 0,U I 0 0] 100);have D:=E (N:X b b (b.alloc (M #[A G 0,U I 0 0] 100)));obtain⟨i,off,cap,rfl,W,a0⟩:=f.ft O;obtain⟨h,u⟩:∃h,a.length=h:=⟨_,rfl⟩;rw [u] at L f⊢;have b0:b.cell? ⟨i,off,I⟩=K (A Yf (av a 0:Int)):=f.at (j:=0) O;have y:b.cell? ⟨i,off+1,I⟩=K (A Yf (av a 1:Int)):=f.at (j:=1) O;have c4:b.cell? ⟨i,off+2,I⟩=K (A Yf (av a 2:Int)):=f.at (j:=2) O;have c5:b.cell? ⟨i,off+3,I⟩=K (A Yf (av a 3:Int)):=f.at (j:=3) O;have c6:b.cell? ⟨i,off+4,I⟩=K (A Yf (av a 4:Int)):=f.at (j:=4) O;have b2:=Yj b _ y;have r:av a 0=75:=O;have s:av a 1=83:=O;rw [r] at b0;rw [s] at y;rw [mC,mC] at t;generalize av a 2=c at*;generalize av a 3=g at*;generalize av a 4=n at*;have b3:0<h:=O;have b4:1<h:=O;have b5:2<h:=O;have b6:3<h:=O;have b7:4<h:=O;have T:c<1∨(¬c<1/\4<c)∨(¬c<1/\¬4<c/\g<1)∨(¬c<1/\¬4<c/\¬g<1/\4<g)∨(¬c<1/\¬4<c/\¬g<1/\¬4<g/\n<1)∨(¬c<1/\¬4<c/\¬g<1/\¬4<g/\¬n<1/\16<n):=O;clear f u W a0 P r s t
 rcases T with k|⟨k,l⟩|⟨k,l,q⟩|⟨k,l,q,w⟩|⟨k,l,q,w,a3⟩|⟨k,l,q,w,a3,b8⟩
 all_goals
  go_enter func65,ntmps65
  go_wp2_with fail
  refine(z.o _ _ H _).mono ?_;rintro b1 c3 ⟨J,rfl,R,p⟩;have C:=E (ext D.o p);have m:=E (F.o.ext p);obtain⟨b9,c0,c1,c2⟩:=m.o.two;have lt:=m.o.lt;clear R p;go_wp2;obtain⟨a5,a6,a7,a8⟩:=(m.o.dC (A G 3) (U (K J) 1 1)).two;refine YD (by simp [YU,results65,go_sem,a5,a6,a7,a8];try rfl) rfl ?_;exact Yg ⟨_,_,_,_,rfl,⟨_,_,_,_,rfl,H⟩,cH C.o (Yk _) _ _⟩
theorem IS{c i:V}{b:Option Yi}{h f k:Nat}{g:Bs}(m:ah c (U b h f) g)(j:X c c i)(p:k=i.heap.size)(o:h=g.length)(n:∀a,b=K a->a.block<c.heap.size):l_ (i.alloc (M #[U b h f,A G 0] 186)) k g 0:=by
 subst p;subst o;exact⟨b,f,ai.new _ _ _,(m.ext j).ext N,λa l=>Yv (n a l) j.size⟩
theorem w_{b:Nat}{c a f:V}(g:X b c a)(h:X a a f)(i:b<=a.heap.size):X b c f:=g.trans (h.mono i)
theorem yn{f:V}{g b s:Nat}{k:Option Yi}{h:List Fr}(i:iw f g (U k b s) h)(C:h.length=b)(w:1<=b):∃a m l,k=K ⟨a,0,I⟩/\g<=a/\f.cell? ⟨a,0,I⟩=K (A G m)/\f.cell? ⟨a,1,I⟩=K (A G l):=by
 have q:=i.vf;obtain⟨J,r, -, -⟩:=i
 rcases aV r with⟨_,v⟩|⟨a,cap,c,p,z,_⟩
 .omega
 .simp only [Yy] at c
  obtain⟨rfl, -, -⟩:=c;obtain⟨t,off,F,D,c,x,n,o,u,y⟩:=Frames.cellAt (n:=b) q (j:=0) O;obtain⟨rfl,rfl, -⟩:=Addr.mk.inj (YG c);exact⟨_,_,_,rfl,p,n,o⟩
theorem oL{c:V}{R b o:Nat}{h i g:Z}(j:c.cell? ⟨b,o,I⟩=K g)(f:b≠R):((c.setCell R h).setCell ⟨R,1,I⟩ i).cell? ⟨b,o,I⟩=K g:=by
 have k:((c.setCell R h).setCell ⟨R,1,I⟩ i).heap[b]? =c.heap[b]?:=(Yt _ _ _ _ f).trans (Yt _ _ _ _ f);exact(YS (w:=c) (a:=⟨b,o,I⟩) k).trans j
def Ee(k:Nat)(b:Bs)(i h:Nat)(m a:V)(n o:Int)(l:Z)(g:Int)(f:Z):Prop:=
 eX a (Yc #[A G g,f])∨n=(i:Int)/\o=(h:Int)/\g=0/\f=U I 0 0/\∃j c,aa a m l j/\l_ a k b c/\c<=8*b.length
theorem fx{k:Nat}{p:Bs}{o n:Nat}{l m:V}{q:Ending}(t:VW k p o n l q m):∃i j a g c s b h f,q=e (Ye #[Yc #[A G i,A G j,U a g c],Yc #[A G s,U b h f]])/\Ee k p o n l m i j (U a g c) s (U b h f)/\af (·=k) l m:=by
 rcases t with⟨i,j,a,g,c,P,rfl,r,y⟩|⟨C,F,cap,D,rfl,u,J,v,w,x⟩
 .obtain⟨z,b,h,f,rfl,L⟩:=r.shape
  exact⟨i,j,a,g,c,z,b,h,f,rfl,Yg r,y⟩
 .exact⟨_,_,_,_,_,_,_,_,_,rfl,Yh ⟨rfl,rfl,rfl,rfl,C,D,u,v,w⟩,x⟩
section
variable {p:Nat} {b:Bs} {W H R:Nat} {w w1 w':V} {x y z:Int} {v u:Z}
theorem Ee.al(a:Ee p b W H w w' x y v z u)(o:Obj):Ee p b W H w (w'.alloc o) x y v z u:=by
 have c:X w' w' (w'.alloc o):=(Yn _ _).alloc (Yk _) _
 rcases a with a|⟨f,g,h,i,m,n,j,k,l⟩
 .exact Yg (a.ext c)
 .exact Yh ⟨f,g,h,i,m,n,j.alloc o,k.ext c,l⟩
theorem Ee.down(a:Ee p b W H w w' x y v z u)(l:w1.heap.size<=w.heap.size):Ee p b W H w1 w' x y v z u:=by
 rcases a with a|⟨c,f,g,h,m,n,i,j,k⟩
 .exact Yg a
 .exact Yh ⟨c,f,g,h,m,n,i.mono l,j,k⟩
theorem Ee.s3(g:Ee p b W H w w' x y v z u){s t:Int}{F:Z}(q:ai w' R #[A G s,A G t,F] 81)(h:R<w.heap.size)(r:p<R)(a c f:Z):Ee p b W H w (((w'.setCell R a).setCell ⟨R,1,I⟩ c).setCell ⟨R,2,I⟩ f) x y v z u:=by
 rcases g with g|⟨i,j,k,l,C,D,m,n,o⟩
 .exact Yg (g.rD q a c f)
 .exact Yh ⟨i,j,k,l,C,D,((m.ab (a:=R) h a).ab (a:=⟨R,1,I⟩) h c).ab (a:=⟨R,2,I⟩) h f,n.up r a c f,o⟩
theorem Ee.s2(f:Ee p b W H w w' x y v z u){r:Int}{C:Z}(q:ai w' R #[A G r,C] 100)(g:R<w.heap.size)(h:p<R)(a c:Z):Ee p b W H w ((w'.setCell R a).setCell ⟨R,1,I⟩ c) x y v z u:=by
 rcases f with f|⟨i,j,k,l,s,t,m,n,o⟩
 .exact Yg (f.dC q a c)
 .exact Yh ⟨i,j,k,l,s,t,(m.ab (a:=R) g a).ab (a:=⟨R,1,I⟩) g c,(n.iL (a:=R) h).iL (a:=⟨R,1,I⟩) h,o⟩
end
structure Aa(wr:V)(p:Nat)(b:Bs)(W H F E:Nat)(x y:Int)(v:Z)(z:Int)(u:Z)(w9:V):Prop where
 bf:ai w9 F #[A G x,A G y,v] 81
 be:ai w9 E #[A G z,u] 100
 aD:af (·=p) wr w9
 res:Ee p b W H wr w9 x y v z u
section
variable {wr w3 w4:V} {p:Nat} {b:Bs} {W H:Nat} {x y z i j k:Int} {v u s t:Z} (hu:Ee p b W H w3 w4 x y v z u) (hk:af (·=p) w3 w4) (h3:X wr wr w3)
include hu hk h3
theorem TO:Aa wr p b W H w4 (w4.heap.size+1) x y v z u ((w4.alloc (M #[A G x,A G y,v] 81)).alloc (M #[A G z,u] 100)):=
 ⟨(ai.new _ _ _).alloc _,fI _ _ _ _ Y,aE ((af.aj h3).trans hk) (((Yn _ _).alloc (Yk _) _).alloc Y _),((hu.down h3.size).al _).al _⟩
theorem TQ:Aa wr p b W H (w4.heap.size+1) w4 x y v z u ((w4.alloc (M #[A G z,u] 100)).alloc (M #[A G x,A G y,v] 81)):=
 ⟨fI _ _ _ _ Y,(ai.new _ _ _).alloc _,aE ((af.aj h3).trans hk) (((Yn _ _).alloc (Yk _) _).alloc Y _),((hu.down h3.size).al _).al _⟩
theorem TR(f:p<wr.heap.size)(a:ai w4 wr #[A G i,A G j,s] 81)(c:wr.heap.size<w3.heap.size):Aa wr p b W H wr w4 x y v z u ((((w4.setCell wr (A G x)).setCell ⟨wr,1,I⟩ (A G y)).setCell ⟨wr,2,I⟩ v).alloc (M #[A G z,u] 100)):=
 ⟨(a.rD _ _ _).alloc _,fI _ _ _ _ Y,aE (fY ((af.aj h3).trans hk) (Yk _) _ _ _) ((Yn _ _).alloc (Yk _) _),((hu.s3 a c f _ _ _).down h3.size).al _⟩
theorem TS(h:p<wr.heap.size)(c:ai w4 wr #[A G i,A G j,s] 81)(f:ai w4 (wr.heap.size+1) #[A G k,t] 100)(g:wr.heap.size+1<w3.heap.size):Aa wr p b W H wr (wr.heap.size+1) x y v z u (((((w4.setCell wr (A G x)).setCell ⟨wr,1,I⟩ (A G y)).setCell ⟨wr,2,I⟩ v).setCell ⟨wr.heap.size+1,0,I⟩ (A G z)).setCell ⟨wr.heap.size+1,1,I⟩ u):=by
 have a:=((f.ab wr (A G x) (by show wr.heap.size+1≠wr.heap.size;omega)).ab ⟨wr,1,I⟩ (A G y) (by show wr.heap.size+1≠wr.heap.size;omega)).ab ⟨wr,2,I⟩ v (by show wr.heap.size+1≠wr.heap.size;omega);exact⟨((c.rD _ _ _).ab ⟨wr.heap.size+1,0,I⟩ _ (by show wr.heap.size≠wr.heap.size+1;omega)).ab ⟨wr.heap.size+1,1,I⟩ _ (by show wr.heap.size≠wr.heap.size+1;omega),a.dC _ _,dN (fY ((af.aj h3).trans hk) (Yk _) _ _ _) (Nat.le_succ _) _ _,((hu.s3 c O h _ _ _).s2 a g O _ _).down h3.size⟩
theorem TU(f:p<wr.heap.size)(a:ai w4 wr #[A G k,t] 100)(c:wr.heap.size<w3.heap.size):Aa wr p b W H w4 wr x y v z u (((w4.setCell wr (A G z)).setCell ⟨wr,1,I⟩ u).alloc (M #[A G x,A G y,v] 81)):=
 ⟨fI _ _ _ _ Y,(a.dC _ _).alloc _,aE (dN ((af.aj h3).trans hk) (Yk _) _ _) ((Yn _ _).alloc (Yk _) _),((hu.s2 a c f _ _).down h3.size).al _⟩
theorem TV(h:p<wr.heap.size)(f:ai w4 wr #[A G k,t] 100)(c:ai w4 (wr.heap.size+1) #[A G i,A G j,s] 81)(g:wr.heap.size+1<w3.heap.size):Aa wr p b W H (wr.heap.size+1) wr x y v z u (((((w4.setCell ⟨wr.heap.size+1,0,I⟩ (A G x)).setCell ⟨wr.heap.size+1,1,I⟩ (A G y)).setCell ⟨wr.heap.size+1,2,I⟩ v).setCell wr (A G z)).setCell ⟨wr,1,I⟩ u):=by
 have a:=((f.ab ⟨wr.heap.size+1,0,I⟩ (A G x) (by show wr.heap.size≠wr.heap.size+1;omega)).ab ⟨wr.heap.size+1,1,I⟩ (A G y) (by show wr.heap.size≠wr.heap.size+1;omega)).ab ⟨wr.heap.size+1,2,I⟩ v (by show wr.heap.size≠wr.heap.size+1;omega);exact⟨((c.rD _ _ _).ab wr _ (by show wr.heap.size+1≠wr.heap.size;omega)).ab ⟨wr,1,I⟩ _ (by show wr.heap.size+1≠wr.heap.size;omega),a.dC _ _,dN (fY ((af.aj h3).trans hk) (Nat.le_succ _) _ _ _) (Yk _) _ _,((hu.s3 c g O _ _ _).s2 a O h _ _).down h3.size⟩
end
end
end Go.Proofs.YtajkpgaheechmaaGreatDoor
