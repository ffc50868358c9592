/- ErrP ErrQ FltA -/
import Derived.Test.YtajkpgaheechmaaGreatDoorZAG
set_option maxRecDepth 100000
set_option maxHeartbeats 16000000
set_option linter.unusedSimpArgs false
set_option linter.unusedVariables false
set_option linter.unusedSectionVars false
namespace Go.Proofs.YtajkpgaheechmaaGreatDoor
open _root_.Go.Proofs.Tryz
open Go.Value renaming int->A,slice->U,pointer->Q,nilIface->Ya,string->Yb,agg->Yc,iface->Yd,tuple->Ye
open Go.IntKind renaming i64->G,u8->Yf
open Option renaming none->I,some->K
open Go.Obj renaming cells->M
open Go.Ending renaming returned->e
open Go renaming World->V,Value->Z,Calls->d,Addr->Yi,run_callFunc_extern->YB,bodyPost_ret->YD,results->YU
open Go.RowKit renaming Below->X
open Or renaming inl->Yg
open Go.World renaming block_lt_of_cell?->Yj,cell?_alloc_lt->Ys,ownsRow_nil->YC,size_alloc->YN
open Nat renaming le_refl->Yk,lt_of_lt_of_le->Yv
open And renaming intro->YI
open Go.Extern.ReflectliteValue renaming valueError->YP,method->YZ
open Go.Extern.ReflectliteType renaming relation->YX
section
open Go.RowKit Go.Extern.Stop Go.Stop Go.Extern
def EX(c:Array UInt8)(a:Int)(b:Int):Array Z:=#[Yb ⟨c⟩,A G a,Yd 49 (A G b)]
theorem P.t_(b:Z)(a:V):(Instr.typeAssert (Yd 142 b) 32 215 true).run prog a= .ok (Ye #[Ya,.bool false]) a:=
 run_typeAssert_lacksB underlying215 B B _ _ a
theorem P.xW(b:Z)(a:V):(Instr.typeAssert (Yd 142 b) 32 218 true).run prog a= .ok (Ye #[Yd 142 b,.bool true]) a:=
 run_typeAssert_hasB underlying218 B _ _ a
theorem P.typeOf(b:Z)(a:V):(ReflectliteType.typeOf #[Yd 142 b]).run prog a= .ok (Yd 211 (Yc #[Q (K ⟨1,142,I⟩)])) a:=B
theorem P.kZ(a:V):(YX "AssignableTo" ReflectliteType.assignableTo #[Yc #[Q (K ⟨1,142,I⟩)],Yd 211 (Yc #[Q (K ⟨1,49,I⟩)])]).run prog a= .ok (.bool false) a:=B
theorem P.Ap(a:V):(YX "AssignableTo" ReflectliteType.assignableTo #[Yc #[Q (K ⟨1,142,I⟩)],Yd 211 (Yc #[Q (K ⟨1,142,I⟩)])]).run prog a= .ok (.bool true) a:=B
theorem P.PN(a:Z)(b:V):(Go.method 581 142 a "Unwrap").run prog b= .ok (372,a) b:=B
theorem P.valueOf(b:Yi)(a:V):(ReflectliteValue.unpack (Yd 142 (Q (K b)))).run prog a
  = .ok (Yc #[Q (K ⟨1,142,I⟩),Q (K a),A .u64 150]) (a.alloc (M #[Q (K b)] 142)):=B
theorem P.elemOf(a:V):(Rtype.elem? 243).run prog a= .ok (K 142) a:=B
theorem P.mk(a:Yi)(b:V):(ReflectliteValue.mk 142 a ReflectliteValue.flagAddr).run prog b= .ok (Yc #[Q (K ⟨1,142,I⟩),Q (K a),A .u64 406]) b:=B
theorem P.elemV(b c:Yi)(a:V)(f:a.cell? b=K (Q (K c))):
  (YZ (YP "reflectlite.Value.Elem" 0) ReflectliteValue.elem #[Yc #[Q (K ⟨1,243,I⟩),Q (K b),A .u64 150]]).run prog a
   = .ok (Yc #[Q (K ⟨1,142,I⟩),Q (K c),A .u64 406]) a:=by
 rw [UW];simp only [Sem.run_bind,F.parts,Result.andThen];simp [ReflectliteValue.elem,loadVar,isAgg,underlying,underlying243,f,Result.andThen,P.elemOf,P.mk]
theorem P.FQ(a:Yi)(b:V):(ReflectliteValue.parts (Yc #[Q (K ⟨1,142,I⟩),Q (K a),A .u64 406])).run prog b= .ok (K (142,a,406)) b:=B
theorem P.FR(a:Yi)(b:V):(ReflectliteValue.parts (Yc #[Q (K ⟨1,142,I⟩),Q (K a),A .u64 150])).run prog b= .ok (K (142,a,150)) b:=B
theorem P.direct(a:V):(Rtype.directlyAssignable 142 142).run prog a= .ok true a:=B
theorem P.set(b c q:Yi)(i:Z)(a:V)(f:a.cell? c=K (Q (K q)))(h:a.cell? b=K i)(g:a.frozen? b=false):
  (ReflectliteValue.set #[Yc #[Q (K ⟨1,142,I⟩),Q (K b),A .u64 406],Yc #[Q (K ⟨1,142,I⟩),Q (K c),A .u64 150]]).run prog a
   = .ok (Ye #[]) (a.setCell b (Q (K q))):=by
 rw [VZ];simp only [Sem.run_bind,P.FQ,P.FR,Result.andThen];simp [ReflectliteValue.flagAddr,loadVar,isAgg,underlying,underlying142,f,Result.andThen,P.direct,storeVar,Value.cells,storeCells,Addr.add];rw [run_store prog a b _ _ (by rfl)];simp [h,g]
theorem H'(b:Nat)(c:Int)(a:V)(h:a.cell? ⟨b,2,I⟩=K (Yd 49 (A G c))):
  d prog 372 #[Q (K b)] a λf g=>f=e (Yd 49 (A G c))/\a=g:=by
 go_enter func372,ntmps372;go_wp2;go_ret;exact⟨rfl,rfl⟩
theorem Ao(c:Nat)(g:Int)(b:Yi)(n:Z)(a:V)(h:bN a)(l:a.cell? b=K n)(s:a.frozen? b=false)(j:a.cell? ⟨c,2,I⟩=K (Yd 49 (A G g))):
  d prog 52 #[Yd 142 (Q (K c)),Yd 86 (Q (K b))] a λq o=>q=e (.bool true)/\((((a.alloc (M #[Q (K b)] 86)).alloc (M #[Q (K ⟨1,86,I⟩),Q (K a),A .u64 150] 155)).alloc (M #[Q (K ⟨1,86,I⟩),Q (K a),A .u64 150] 155)).alloc (M #[A G g] 49)).setCell b (A G g)=o:=by
 have a1:=@YB prog 85 _ (λp=>ReflectliteValue.unpack (p.getD 0 (Ye #[]))) func85 B B B B;have a2:=@YB prog 86 _ (ReflectliteValue.methodAny (YP "reflectlite.Value.Type" 0) (λb _ _ _=>ReflectliteType.toType b)) func86 B B B B;have a3:=@YB prog 87 _ (YZ (YP "reflectlite.Value.IsNil" 0) ReflectliteValue.isNil) func87 B B B B;have L:=@YB prog 367 _ (ReflectliteType.abiMethod λb=>do pure (A Yf (<-Rtype.kind b))) func367 B B B B;have W:=@YB prog 379 _ (ReflectliteType.method ReflectliteType.elem) func379 B B B B;have a0:=@YB prog 380 _ (YX "Implements" ReflectliteType.implements_) func380 B B B B;have D:=@YB prog 113 _ ReflectliteType.typeOf func113 B B B B;have T:=@YB prog 377 _ (YX "AssignableTo" ReflectliteType.assignableTo) func377 B B B B;have F:=@YB prog 125 _ (YZ (YP "reflectlite.Value.Elem" 0) ReflectliteValue.elem) func125 B B B B;have J:=@YB prog 126 _ ReflectliteValue.set func126 B B B B;have b8:=C.typeOf;have b9:=P.typeOf;have b1:=R.eJ;have b5:=P.PN;have t:=C.assignable;have u:=P.kZ;have c0:=C.wT;have y:=C.valueOf;have z:=C.type;have b4:=R.kM;have b2:=R.kL;have b3:=R.fJ;have a8:=C.x_;have a7:=C.kind;have w:=C.elem;have a6:=C.implements;have a9:=P.t_;have b0:=P.xW;have b6:=C.isNil a b ((a.alloc (M #[Q (K b)] 86)).alloc (M #[Q (K ⟨1,86,I⟩),Q (K a),A .u64 150] 155)) Y;have h:a.cell? ⟨0,0,I⟩=K (Yd 211 (Yc #[Q (K ⟨1,32,I⟩)])):=h
 have k:0<a.heap.size:=by
  rcases Nat.lt_or_ge 0 a with f|f
  .exact f
  .simp [World.cell?,Array.getElem?_eq_none f] at h
 have a5:((a.alloc (M #[Q (K b)] 86)).alloc (M #[Q (K ⟨1,86,I⟩),Q (K a),A .u64 150] 155)).cell? ⟨0,0,I⟩=K (Yd 211 (Yc #[Q (K ⟨1,32,I⟩)])):=by
  rw [Ys _ _ ⟨0,0,I⟩ (Yv k Y),Ys _ _ ⟨0,0,I⟩ k];exact h
 have m:b.block<a.heap.size:=by
  rcases Nat.lt_or_ge b.block a with f|f
  .exact f
  .simp [World.cell?,Array.getElem?_eq_none f] at l
 have i:c<a.heap.size:=Yj a _ j
 have r:(((a.alloc (M #[Q (K b)] 86)).alloc (M #[Q (K ⟨1,86,I⟩),Q (K a),A .u64 150] 155)).alloc (M #[Q (K ⟨1,86,I⟩),Q (K a),A .u64 150] 155)).cell? ⟨c,2,I⟩=K (Yd 49 (A G g)):=by
  rw [Ys _ _ ⟨c,2,I⟩ (Yv i (by simp;omega)),Ys _ _ ⟨c,2,I⟩ (Yv i Y),Ys _ _ ⟨c,2,I⟩ i];exact j
 have x:=C.elemV a b (((a.alloc (M #[Q (K b)] 86)).alloc (M #[Q (K ⟨1,86,I⟩),Q (K a),A .u64 150] 155)).alloc (M #[Q (K ⟨1,86,I⟩),Q (K a),A .u64 150] 155)) (by rw [Ys _ _ a (by simp;omega)];simp)
 have b7:=C.set b ⟨a.heap.size+1+1+1,0,I⟩ g n ((((a.alloc (M #[Q (K b)] 86)).alloc (M #[Q (K ⟨1,86,I⟩),Q (K a),A .u64 150] 155)).alloc (M #[Q (K ⟨1,86,I⟩),Q (K a),A .u64 150] 155)).alloc (M #[A G g] 49))
  (by rw [World.cell?_alloc_at _ _ _ _ Y];rfl)
  (by rw [Ys _ _ b (by simp;omega),Ys _ _ b (by simp;omega),Ys _ _ b (by simp;omega),Ys _ _ b m];exact l)
  (by rw [World.frozen?_alloc_old _ _ b (by simp;omega),World.frozen?_alloc_old _ _ b (by simp;omega),World.frozen?_alloc_old _ _ b (by simp;omega),World.frozen?_alloc_old _ _ b (Nat.ne_of_lt m)];exact s)
 go_enter func52,ntmps52;go_wp2;refine wp_loop_rounds 2 ?_;rw [rounds_succ]
 go_wp2_with (go_at_call 372;refine(H' c g _ r).mono ?_;rintro v o ⟨rfl,rfl⟩)
 rw [rounds_succ];go_wp2;go_ret;exact⟨rfl,rfl⟩
theorem Jx(f:Nat)(a:Yi)(k:Z)(b:V)(g:bN b)(i:b.cell? a=K k)(n:b.frozen? a=false):
  d prog 52 #[Yd 142 (Q (K f)),Yd 243 (Q (K a))] b λm o=>m=e (.bool true)/\((((b.alloc (M #[Q (K a)] 243)).alloc (M #[Q (K ⟨1,243,I⟩),Q (K b),A .u64 150] 155)).alloc (M #[Q (K ⟨1,243,I⟩),Q (K b),A .u64 150] 155)).alloc (M #[Q (K f)] 142)).setCell a (Q (K f))=o:=by
 have D:=@YB prog 85 _ (λl=>ReflectliteValue.unpack (l.getD 0 (Ye #[]))) func85 B B B B;have J:=@YB prog 86 _ (ReflectliteValue.methodAny (YP "reflectlite.Value.Type" 0) (λa _ _ _=>ReflectliteType.toType a)) func86 B B B B;have L:=@YB prog 87 _ (YZ (YP "reflectlite.Value.IsNil" 0) ReflectliteValue.isNil) func87 B B B B;have x:=@YB prog 367 _ (ReflectliteType.abiMethod λa=>do pure (A Yf (<-Rtype.kind a))) func367 B B B B;have z:=@YB prog 379 _ (ReflectliteType.method ReflectliteType.elem) func379 B B B B;have C:=@YB prog 380 _ (YX "Implements" ReflectliteType.implements_) func380 B B B B;have u:=@YB prog 113 _ ReflectliteType.typeOf func113 B B B B;have y:=@YB prog 377 _ (YX "AssignableTo" ReflectliteType.assignableTo) func377 B B B B;have v:=@YB prog 125 _ (YZ (YP "reflectlite.Value.Elem" 0) ReflectliteValue.elem) func125 B B B B;have w:=@YB prog 126 _ ReflectliteValue.set func126 B B B B;have a9:=P.typeOf;have a2:=R.eJ;have p:=P.Ap;have b0:=P.valueOf;have s:=F.valueOf;have t:=F.type;have a6:=R.kM;have a3:=R.kL;have a5:=R.fJ;have a1:=F.x_;have a0:=F.kind;have q:=F.elem;have W:=F.implements;have a7:=F.isNil b a ((b.alloc (M #[Q (K a)] 243)).alloc (M #[Q (K ⟨1,243,I⟩),Q (K b),A .u64 150] 155)) Y;have g:b.cell? ⟨0,0,I⟩=K (Yd 211 (Yc #[Q (K ⟨1,32,I⟩)])):=g
 have h:0<b.heap.size:=by
  rcases Nat.lt_or_ge 0 b with c|c
  .exact c
  .simp [World.cell?,Array.getElem?_eq_none c] at g
 have T:((b.alloc (M #[Q (K a)] 243)).alloc (M #[Q (K ⟨1,243,I⟩),Q (K b),A .u64 150] 155)).cell? ⟨0,0,I⟩=K (Yd 211 (Yc #[Q (K ⟨1,32,I⟩)])):=by
  rw [Ys _ _ ⟨0,0,I⟩ (Yv h Y),Ys _ _ ⟨0,0,I⟩ h];exact g
 have j:a.block<b.heap.size:=by
  rcases Nat.lt_or_ge a.block b with c|c
  .exact c
  .simp [World.cell?,Array.getElem?_eq_none c] at i
 have r:=P.elemV b a (((b.alloc (M #[Q (K a)] 243)).alloc (M #[Q (K ⟨1,243,I⟩),Q (K b),A .u64 150] 155)).alloc (M #[Q (K ⟨1,243,I⟩),Q (K b),A .u64 150] 155)) (by rw [Ys _ _ b (by simp;omega)];simp)
 have a8:=P.set a ⟨b.heap.size+1+1+1,0,I⟩ f k ((((b.alloc (M #[Q (K a)] 243)).alloc (M #[Q (K ⟨1,243,I⟩),Q (K b),A .u64 150] 155)).alloc (M #[Q (K ⟨1,243,I⟩),Q (K b),A .u64 150] 155)).alloc (M #[Q (K f)] 142))
  (by rw [World.cell?_alloc_at _ _ _ _ Y];rfl)
  (by rw [Ys _ _ a (by simp;omega),Ys _ _ a (by simp;omega),Ys _ _ a (by simp;omega),Ys _ _ a j];exact i)
  (by rw [World.frozen?_alloc_old _ _ a (by simp;omega),World.frozen?_alloc_old _ _ a (by simp;omega),World.frozen?_alloc_old _ _ a (by simp;omega),World.frozen?_alloc_old _ _ a (Nat.ne_of_lt j)];exact n)
 go_enter func52,ntmps52;go_wp2;refine wp_loop_rounds 1 ?_;rw [rounds_succ];go_wp2;go_ret;exact⟨rfl,rfl⟩
theorem Ox(b:Nat)(p:Array UInt8)(n c:Int)(a:V)(i:bN a)(h:ai a b (EX p n c) 144):d prog 22 #[Yd 142 (Q (K b))] a λf k=>f=e (A G c)/\X a a k:=by
 have j:bN (a.alloc (M #[A G 0] 49)):=i.ext N;have g:(a.alloc (M #[A G 0] 49)).cell? ⟨b,2,I⟩=K (Yd 49 (A G c)):=(h.ext N).cell 2;have m:=E j;have l:=E g;clear i j g h;go_enter func22,ntmps22
 go_wp2_with (go_at_call 52;refine(Ao b c _ (A G 0) _ m.o Y Y l.o).mono ?_;rintro f k ⟨rfl,rfl⟩)
 go_returns;exact⟨rfl,N⟩
theorem QE:(prog.info? 180).map (λa=>(a.zero,a.size,a.bytes))=K (K (Yc #[Yb ⟨#[]⟩,A G 0]),2,24):=B
theorem Gc(b:Nat)(i:Array UInt8)(h w:Int)(a:V)(s:bN a)(r:ai a b (EX i h w) 144):d prog 95 #[Yd 142 (Q (K b))] a λq f=>∃c cap,q=e (U (K ⟨c,0,I⟩) 1 cap)/\f.cell? ⟨c,0,I⟩=K (Yb ⟨i⟩)/\f.cell? ⟨c,1,I⟩=K (A G h)/\c<f.heap.size/\X a a f:=by
 have J:bN (a.alloc (M #[Q I] 142)):=s.ext N;have a6:=E s;have a7:=E J;have a5:=E r;have T:=r.lt;clear s J r;go_enter func95,ntmps95;go_wp2;refine wp_loop_rounds 2 ?_;rw [rounds_succ]
 go_wp2_with fail
 refine(Jx b _ (Q I) _ a7.o Y Y).mono ?_;rintro q g ⟨rfl,l⟩
 have v:X a a g:=by subst l;go_grown
 have R:g.cell? a=K (Q (K b)):=by subst l;exact((((((ai.new a _ _).alloc _).alloc _).alloc _).alloc _).set 0 _).cell 0
 have a1:=v.size
 have a9:a.heap.size<g.heap.size:=by subst l;simp;omega
 clear l;have n:=E (a5.o.ext v);have z:g.cell? b=K (Yb ⟨i⟩):=n.o.cell 0;have D:g.cell? ⟨b,1,I⟩=K (A G h):=n.o.cell 1;go_wp2
 go_region_held3 (λf=>f.cell? a=K (Q (K b))/\f.cell? b=K (Yb ⟨i⟩)/\f.cell? ⟨b,1,I⟩=K (A G h)) (first|go_keep|exact⟨b0,W,a0⟩)
  ((refine pr 177 180 2 24 _ underlying177 QE rfl H (by rfl) _ _ (by rfl) g g _ 0 [] [Yb ⟨i⟩,A G h] (by rfl) (YC _ _ _ 2) _ (by rfl) (heap_alloc_new _ _) (iQ _) (by rfl) (by intro b3 L;simp at L;rcases L with rfl|rfl<;>rfl) O H (Yk _) ?_;intro c cap j u k b2 t;have b0:=(k.cell (p:=a) a9).trans R;have W:=(k.cell (p:=b) (Yv T a1)).trans z;have a0:=(k.cell (p:=⟨b,1,I⟩) (Yv T a1)).trans D))
 have F:X a a j:=ext v k;have a3:=E (n.o.ext k);have b1:j.cell? ⟨b,2,I⟩=K (Yd 49 (A G w)):=a3.o.cell 2;have x:j.cell? ⟨c,0,I⟩=K (Yb ⟨i⟩):=au u (by rfl);have y:j.cell? ⟨c,1,I⟩=K (A G h):=au u (by rfl);have C:=E (YI x y);clear x y W a0 u z D R;go_wp2;rw [rounds_succ]
 go_wp2_with fail
 refine(uB w _ _ (a6.o.ext F)).mono ?_;rintro q a2 ⟨rfl,P⟩
 have m:X j j a2:=by subst P;go_grown
 clear P;have a8:X a a a2:=ext F m;go_wp2;go_returns;exact⟨c,cap,rfl,(m.cell (p:=⟨c,0,I⟩) t).trans C.o.1,(m.cell (p:=⟨c,1,I⟩) t).trans C.o.2,Yv t m.size,a8⟩
def nR(b:V)(g:Z)(f:Array UInt8)(c:Int):Prop:=∃a cap,g=U (K ⟨a,0,I⟩) 1 cap/\a<b.heap.size/\b.cell? ⟨a,0,I⟩=K (Yb ⟨f⟩)/\b.cell? ⟨a,1,I⟩=K (A G c)
theorem nR.ext{f j:V}{i:Z}{h:Array UInt8}{g:Int}(l:nR f i h g)(b:X f f j):nR j i h g:=by
 obtain⟨a,cap,k,c,m,n⟩:=l;exact⟨a,cap,k,Yv c b.size,(b.cell (p:=a) c).trans m,(b.cell (p:=⟨a,1,I⟩) c).trans n⟩
theorem IT(l:Array UInt8)(k b:Int)(s:(b==0)=false)(a:V):d prog 96 #[Yb ⟨l⟩,A G k,Yc #[A G b,U I 0 0]] a λn r=>∃i,n=e (Yc #[A G b,U (K ⟨i,0,I⟩) 1 1])/\nR r (U (K ⟨i,0,I⟩) 1 1) l k/\a.heap.size<=i/\X a a r:=by
 go_enter func96,ntmps96
 go_wp2_with fail
 refine(pG b s _ _).mono ?_;rintro n f ⟨rfl,c⟩;have u:X a a f:=ext N c;have m:=E (((ai.new a #[A G b,U I 0 0] 100).alloc (M #[A G 0,U I 0 0] 100)).ext c);have h:=E ((ai.new (a.alloc (M #[A G b,U I 0 0] 100)) #[A G 0,U I 0 0] 100).ext c);simp only [YN] at h;have w:=m.o.lt;have v:=h.o.lt;obtain⟨D,F, -, -⟩:=m.o.two;obtain⟨x,y,z,C⟩:=h.o.two;clear c;go_wp2;refine YD (by simp [YU,results96,go_sem,x,y,z,C,w,v,D,F];try rfl) rfl ?_;generalize p:(f.setCell ⟨a.heap.size+1,0,I⟩ (A G b)).setCell ⟨a.heap.size+1,1,I⟩ (U (K f) 1 1)=g
 have t:g.heap.size=f.heap.size:=by rw [<-p];simp
 have q:X a a g:=by rw [<-p];exact(u.setCell (by show a.heap.size<=a.heap.size+1;omega) _).setCell (by show a.heap.size<=a.heap.size+1;omega) _
 rw [<-t];have j:=(ai.new g #[Yb ⟨l⟩,A G k] 181).alloc (M #[A G b,U (K g) 1 1] 100);exact⟨_,rfl,⟨_,_,rfl,j.lt,j.cell 0,j.cell 1⟩,q.size,ext q N⟩
theorem GN(h:Nat)(l:Array UInt8)(j f:Int)(R:(f==0)=false)(v:Z)(a:V)(t:bN a)(r:ai a h (EX l j f) 144)(s:nR a v l j):
  d prog 59 #[Yd 142 (Q (K h)),Yc #[A G f,v]] a λi T=>i=e (.bool true)/\X a a T:=by
 have u:=E t;have p:=E r;have x:=E s;obtain⟨n,cap,rfl,lg, -, -⟩:=s;clear t r;go_enter func59,ntmps59;go_wp2
 go_region_with (first|(go_at_call 66;refine(pG _ R _ _).mono ?_;rintro i W ⟨rfl,b⟩;obtain⟨F,L⟩:=kA b;have a5:a.heap.size<W.heap.size:=(by have C:=b.size;first|omega|(simp at C;omega)))|(go_at_call 22;refine(Ox h l j f _ ?_ ?_).mono ?_;exact u.o.ext (by first|(exact ext N b)|go_grown);exact p.o.ext (by first|(exact ext N b)|go_grown);rintro i a0 ⟨rfl,c⟩;obtain⟨J,P⟩:=kA c;have a6:a.heap.size<a0.heap.size:=(by have D:=c.size;first|omega|(simp at D;omega))))
 all_goals
  go_wp2_with fail
  refine(Gc h l j f _ (u.o.ext ?bel) (p.o.ext ?bel)).mono ?_
  case bel=>first|exact ext (ext N b) c|exact ext (ext N c) b
  rintro i w ⟨a3,a2,rfl,b1,b2,a7,g⟩
  have k:X a a w:=by first|exact ext (ext (ext N b) c) g|exact ext (ext (ext N c) b) g
  obtain⟨z,y,q,a8,b3,b4⟩:=x.o.ext k
  obtain⟨rfl,rfl⟩:n=z/\cap=y:=by simpa using q
  clear q;have m:ai w a #[A G f,U (K n) 1 cap] 100:=(ai.new a #[A G f,U (K n) 1 cap] 100).ext (by first|exact ext (ext (ext N b) c) g|exact ext (ext (ext N c) b) g);obtain⟨a9,b0, -, -⟩:=m.two;have a1:=m.lt;clear m b c g F L J P;go_wp2;refine wp_loop_rounds 2 ?_;rw [rounds_succ];go_wp2;go_quiet (fail);go_wp2;rw [rounds_succ];go_wp2;go_returns;exact⟨rfl,by first|exact k|exact k.drew|exact ag k _⟩
theorem jm(f:Array UInt8)(c:Int)(g:Nat)(i:Z)(a:V):
  d prog 45 #[Yb ⟨f⟩,A G c,Yd g i] a λj h=>∃b,j=e (Yd 142 (Q (K ⟨b,0,I⟩)))/\ai h b #[Yb ⟨f⟩,A G c,Yd g i] 144/\a.heap.size<=b/\X a a h:=by
 go_enter func45,ntmps45;go_wp2;go_returns;exact⟨_,rfl,ai.new _ _ _,Yk _,N⟩
theorem wR(b:Nat)(c:Z)(a:V)(h:a.cell? ⟨b,2,I⟩=K c):
  d prog 372 #[Q (K b)] a λf g=>f=e c/\a=g:=by
 go_enter func372,ntmps372;go_wp2;go_ret;exact⟨rfl,rfl⟩
theorem Jw(f c:Nat)(h:Int)(b:Yi)(r:Z)(a:V)(i:bN a)(p:a.cell? b=K r)(x:a.frozen? b=false)(m:a.cell? ⟨f,2,I⟩=K (Yd 142 (Q (K c))))(n:a.cell? ⟨c,2,I⟩=K (Yd 49 (A G h))):
  d prog 52 #[Yd 142 (Q (K f)),Yd 86 (Q (K b))] a λu l=>u=e (.bool true)/\((((a.alloc (M #[Q (K b)] 86)).alloc (M #[Q (K ⟨1,86,I⟩),Q (K a),A .u64 150] 155)).alloc (M #[Q (K ⟨1,86,I⟩),Q (K a),A .u64 150] 155)).alloc (M #[A G h] 49)).setCell b (A G h)=l:=by
 have a6:=@YB prog 85 _ (λs=>ReflectliteValue.unpack (s.getD 0 (Ye #[]))) func85 B B B B;have a7:=@YB prog 86 _ (ReflectliteValue.methodAny (YP "reflectlite.Value.Type" 0) (λb _ _ _=>ReflectliteType.toType b)) func86 B B B B;have a8:=@YB prog 87 _ (YZ (YP "reflectlite.Value.IsNil" 0) ReflectliteValue.isNil) func87 B B B B;have a1:=@YB prog 367 _ (ReflectliteType.abiMethod λb=>do pure (A Yf (<-Rtype.kind b))) func367 B B B B;have a3:=@YB prog 379 _ (ReflectliteType.method ReflectliteType.elem) func379 B B B B;have a5:=@YB prog 380 _ (YX "Implements" ReflectliteType.implements_) func380 B B B B;have T:=@YB prog 113 _ ReflectliteType.typeOf func113 B B B B;have a2:=@YB prog 377 _ (YX "AssignableTo" ReflectliteType.assignableTo) func377 B B B B;have W:=@YB prog 125 _ (YZ (YP "reflectlite.Value.Elem" 0) ReflectliteValue.elem) func125 B B B B;have a0:=@YB prog 126 _ ReflectliteValue.set func126 B B B B;have c2:=C.typeOf;have c3:=P.typeOf;have b5:=R.eJ;have b9:=P.PN;have y:=C.assignable;have z:=P.kZ;have c4:=C.wT;have J:=C.valueOf;have L:=C.type;have b8:=R.kM;have b6:=R.kL;have b7:=R.fJ;have b2:=C.x_;have b1:=C.kind;have D:=C.elem;have b0:=C.implements;have b3:=P.t_;have b4:=P.xW;have c0:=C.isNil a b ((a.alloc (M #[Q (K b)] 86)).alloc (M #[Q (K ⟨1,86,I⟩),Q (K a),A .u64 150] 155)) Y;have i:a.cell? ⟨0,0,I⟩=K (Yd 211 (Yc #[Q (K ⟨1,32,I⟩)])):=i
 have o:0<a.heap.size:=by
  rcases Nat.lt_or_ge 0 a with g|g
  .exact g
  .simp [World.cell?,Array.getElem?_eq_none g] at i
 have a9:((a.alloc (M #[Q (K b)] 86)).alloc (M #[Q (K ⟨1,86,I⟩),Q (K a),A .u64 150] 155)).cell? ⟨0,0,I⟩=K (Yd 211 (Yc #[Q (K ⟨1,32,I⟩)])):=by
  rw [Ys _ _ ⟨0,0,I⟩ (Yv o Y),Ys _ _ ⟨0,0,I⟩ o];exact i
 have q:b.block<a.heap.size:=by
  rcases Nat.lt_or_ge b.block a with g|g
  .exact g
  .simp [World.cell?,Array.getElem?_eq_none g] at p
 have j:f<a.heap.size:=Yj a _ m
 have v:(((a.alloc (M #[Q (K b)] 86)).alloc (M #[Q (K ⟨1,86,I⟩),Q (K a),A .u64 150] 155)).alloc (M #[Q (K ⟨1,86,I⟩),Q (K a),A .u64 150] 155)).cell? ⟨f,2,I⟩=K (Yd 142 (Q (K c))):=by
  rw [Ys _ _ ⟨f,2,I⟩ (Yv j (by simp;omega)),Ys _ _ ⟨f,2,I⟩ (Yv j Y),Ys _ _ ⟨f,2,I⟩ j];exact m
 have k:c<a.heap.size:=Yj a _ n
 have w:(((a.alloc (M #[Q (K b)] 86)).alloc (M #[Q (K ⟨1,86,I⟩),Q (K a),A .u64 150] 155)).alloc (M #[Q (K ⟨1,86,I⟩),Q (K a),A .u64 150] 155)).cell? ⟨c,2,I⟩=K (Yd 49 (A G h)):=by
  rw [Ys _ _ ⟨c,2,I⟩ (Yv k (by simp;omega)),Ys _ _ ⟨c,2,I⟩ (Yv k Y),Ys _ _ ⟨c,2,I⟩ k];exact n
 have F:=C.elemV a b (((a.alloc (M #[Q (K b)] 86)).alloc (M #[Q (K ⟨1,86,I⟩),Q (K a),A .u64 150] 155)).alloc (M #[Q (K ⟨1,86,I⟩),Q (K a),A .u64 150] 155)) (by rw [Ys _ _ a (by simp;omega)];simp)
 have c1:=C.set b ⟨a.heap.size+1+1+1,0,I⟩ h r ((((a.alloc (M #[Q (K b)] 86)).alloc (M #[Q (K ⟨1,86,I⟩),Q (K a),A .u64 150] 155)).alloc (M #[Q (K ⟨1,86,I⟩),Q (K a),A .u64 150] 155)).alloc (M #[A G h] 49))
  (by rw [World.cell?_alloc_at _ _ _ _ Y];rfl)
  (by rw [Ys _ _ b (by simp;omega),Ys _ _ b (by simp;omega),Ys _ _ b (by simp;omega),Ys _ _ b q];exact p)
  (by rw [World.frozen?_alloc_old _ _ b (by simp;omega),World.frozen?_alloc_old _ _ b (by simp;omega),World.frozen?_alloc_old _ _ b (by simp;omega),World.frozen?_alloc_old _ _ b (Nat.ne_of_lt q)];exact x)
 go_enter func52,ntmps52;go_wp2;refine wp_loop_rounds 3 ?_;rw [rounds_succ]
 go_wp2_with (go_at_call 372;refine(wR f _ _ v).mono ?_;rintro t l ⟨rfl,rfl⟩)
 rw [rounds_succ]
 go_wp2_with (go_at_call 372;refine(wR c _ _ w).mono ?_;rintro t l ⟨rfl,rfl⟩)
 rw [rounds_succ];go_wp2;go_ret;exact⟨rfl,rfl⟩
theorem KV(b c:Nat)(h:Int)(a:V)(l:bN a)(f:a.cell? ⟨b,2,I⟩=K (Yd 142 (Q (K c))))(g:a.cell? ⟨c,2,I⟩=K (Yd 49 (A G h))):d prog 22 #[Yd 142 (Q (K b))] a λi n=>i=e (A G h)/\X a a n:=by
 have m:bN (a.alloc (M #[A G 0] 49)):=l.ext N;have j:(a.alloc (M #[A G 0] 49)).cell? ⟨b,2,I⟩=_:=(Ys _ _ ⟨b,2,I⟩ (Yj a _ f)).trans f;have k:(a.alloc (M #[A G 0] 49)).cell? ⟨c,2,I⟩=_:=(Ys _ _ ⟨c,2,I⟩ (Yj a _ g)).trans g;have r:=E m;have p:=E j;have q:=E k;clear l m f g j k;go_enter func22,ntmps22
 go_wp2_with (go_at_call 52;refine(Jw b c h _ (A G 0) _ r.o Y Y p.o q.o).mono ?_;rintro i n ⟨rfl,rfl⟩)
 go_returns;exact⟨rfl,N⟩
theorem yi(b:Nat)(f:Int)(a:V)(i:bN a)(c:a.cell? ⟨b,2,I⟩=K (Yd 49 (A G f))):d prog 22 #[Yd 142 (Q (K b))] a λg k=>g=e (A G f)/\X a a k:=by
 have j:bN (a.alloc (M #[A G 0] 49)):=i.ext N;have h:(a.alloc (M #[A G 0] 49)).cell? ⟨b,2,I⟩=_:=(Ys _ _ ⟨b,2,I⟩ (Yj a _ c)).trans c;have m:=E j;have l:=E h;clear i j c h;go_enter func22,ntmps22
 go_wp2_with (go_at_call 52;refine(Ao b f _ (A G 0) _ m.o Y Y l.o).mono ?_;rintro g k ⟨rfl,rfl⟩)
 go_returns;exact⟨rfl,N⟩
def Af(g:V)(a:Nat)(f:Z):Prop:=∃c b,ai g a #[Yb ⟨c⟩,A G b,f] 144
theorem Af.cell{c:V}{a:Nat}{b:Z}(f:Af c a b):c.cell? ⟨a,2,I⟩=K b:=by obtain⟨i,h,g⟩:=f;exact g.cell 2
theorem Af.lt{b:V}{a:Nat}{g:Z}(c:Af b a g):a<b.heap.size:=by obtain⟨i,h,f⟩:=c;exact f.lt
theorem Af.stays{c w':V}{a:Nat}{b:Z}(f:Af c a b)(h:w'.heap[a]? =c.heap[a]?):Af w' a b:=by obtain⟨j,i,g⟩:=f;exact⟨j,i,h.trans g⟩
def cx(a:V):Nat->Z->Int->Prop
 |0,v,k=>v=Yd 49 (A G k)
 |c+1,v,k=>cx a c v k∨∃b f,v=Yd 142 (Q (K ⟨b,0,I⟩))/\Af a b f/\cx a c f k
theorem cx.ext{g k:V}(n:X g g k){c:Nat}:∀{f:Z} {b:Int},cx g c f b->cx k c f b:=by
 induction c with
 |zero=>intro f b a;exact a
 |succ c j=>
  intro f b a
  rcases a with a|⟨h,o,l,i,m⟩
  .exact Yg (j a)
  .exact Or.inr ⟨h,o,l,i.stays (n.block h i.lt),j m⟩
theorem cx.sF{h k:V}(o:∀a l,ai h a l 144->k.heap[a]? =h.heap[a]?){f:Nat}:∀{g:Z} {c:Int},cx h f g c->cx k f g c:=by
 induction f with
 |zero=>intro g c b;exact b
 |succ f j=>
  intro g c b
  rcases b with b|⟨a,r,m,⟨q,p,i⟩,n⟩
  .exact Yg (j b)
  .exact Or.inr ⟨a,r,m,⟨q,p,(o a _ i).trans i⟩,j n⟩
theorem cx.shape{j:V}{f:Nat}:∀{b:Z} {c:Int},cx j f b c->∃i k,b=Yd i k:=by
 induction f with
 |zero=>intro b c a;exact⟨_,_,a⟩
 |succ f h=>
  intro b c a
  rcases a with a|⟨l,m,g, -, -⟩
  .exact h a
  .exact⟨_,_,g⟩
theorem vW(h:Z)(b:Int)(a:V)(g:bN a)(k:cx a 2 h b):d prog 22 #[h] a λj n=>j=e (A G b)/\X a a n:=by
 rcases k with(rfl|⟨c,m,rfl,f,rfl⟩)|⟨c,m,rfl,f,(rfl|⟨i,o,rfl,l,rfl⟩)⟩
 .exact IG b a g
 .exact yi c b a g f.cell
 .exact yi c b a g f.cell
 .exact KV c i b a g f.cell l.cell
end
end Go.Proofs.YtajkpgaheechmaaGreatDoor
