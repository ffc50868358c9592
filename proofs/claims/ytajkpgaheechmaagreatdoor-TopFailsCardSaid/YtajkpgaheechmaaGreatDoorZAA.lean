/- As Err Errs Head Ints App -/
import Derived.Test.YtajkpgaheechmaaGreatDoorZZ
import Derived.WalkKit
import Derived.LaidEql
import Derived.Stop.Asserts
import Derived.RowKitTokens
import Derived.BigQuiet
import Derived.Deep.QuietTactic
import Derived.Deep.RegionWith
import Derived.Test.YtajkpgaheechmaaGreatDoorRows
import Derived.ChangeSame
import Derived.ChangeVars
import Derived.JoinedOf
import Derived.RowKit
import Derived.LaidLaws
import Derived.LaidHandle
import Derived.Stop.Joined
import Derived.ProofKit
import Derived.OpenShut
import Derived.Deep.DeepHandedRow
import Derived.Laws.AppendOwnNone
import Derived.Deep.AppendLies
set_option maxRecDepth 100000
set_option maxHeartbeats 16000000
set_option linter.unusedSimpArgs false
set_option linter.unusedVariables false
set_option linter.unusedSectionVars false
namespace Go.Proofs.YtajkpgaheechmaaGreatDoor
open _root_.Go.Proofs.Tryz
open Go.Value renaming int->A,slice->U,pointer->Q,nilIface->Ya,agg->Yc,iface->Yd,tuple->Ye
open Go.IntKind renaming i64->G,u8->Yf,wrap_i64->Yo,wrap->Zc
open Option renaming none->I,some->K
open Go.Obj renaming cells->M
open Go.Ending renaming returned->e
open Go renaming World->V,Value->Z,Calls->d,Addr->Yi,run_callFunc_extern->YB,maxLen->YO
open Go.RowKit renaming Below->X,ownsRow_setCell_below->Yu
open Or renaming inl->Yg,inr->Yh
open Go.World renaming block_lt_of_cell?->Yj,cell?_alloc_lt->Ys,ownsRow_nil->YC
open Nat renaming le_refl->Yk,lt_of_lt_of_le->Yv
open Go.RowKit.Below renaming refl->Yn,heap_setCell->Yt
open List renaming getD_eq_getElem?_getD->Yp,replicate->YA,getElem?_eq_getElem->YM,getD->YR,range->Za
open Option.some renaming inj->YG
open Go.Extern.ReflectliteValue renaming valueError->YP,method->YZ
open Go.Extern.ReflectliteType renaming relation->YX
section
open Go.RowKit Go.Extern.Stop Go.Stop Go.Extern
def bN(a:V):Prop:=a.cell? ⟨0,0,I⟩=K (Yd 211 (Yc #[Q (K ⟨1,32,I⟩)]))
theorem Sh(c:Z)(a:V):
  d prog 52 #[Ya,c] a λb f=>b=e (.bool false)/\a=f:=by
 go_enter func52,ntmps52;go_wp2;go_ret;exact⟨rfl,rfl⟩
theorem UW(f:Sem Z)(a:TypeId->Yi->Nat->Nat->Sem Z)(c:Z):
  YZ f a #[c]=(do match<-ReflectliteValue.parts c with|none=>f|some (h,g,b)=>a h g b (b%32)):=rfl
theorem VZ(c f:Z):ReflectliteValue.set #[c,f]=(do
  let (K (dst,a,fl),K (src,b,_)):=(<-ReflectliteValue.parts c,<-ReflectliteValue.parts f)
   |unsupported (.noEntry "extern/(internal/reflectlite.Value).Set.zeroValue")
  if fl / ReflectliteValue.flagAddr%2==0 then unsupported (.noEntry "extern/(internal/reflectlite.Value).Set.unaddressable")
  let val<-loadVar src b
  if<-Rtype.directlyAssignable dst src then storeVar dst a val
  else if<-Rtype.implements dst src then
   if (<-Rtype.kind src)==20 then
    match val with
    |.nilIface=>unsupported (.noEntry "extern/reflectlite: a nil value of one interface type handed on as a value of another")
    |_=>storeVar dst a val
   else storeVar dst a (Yd src val)
  else panicString ("reflectlite.Set: value of type "++(<-Rtype.spelt src)++ " is not assignable to type "++(<-Rtype.spelt dst))
  pure (Ye #[])):=rfl
theorem C.valueOf(b:Yi)(a:V):(ReflectliteValue.unpack (Yd 86 (Q (K b)))).run prog a
  = .ok (Yc #[Q (K ⟨1,86,I⟩),Q (K a),A .u64 150]) (a.alloc (M #[Q (K b)] 86)):=B
theorem C.type(b:Yi)(a:V):(ReflectliteValue.methodAny (YP "reflectlite.Value.Type" 0) (λc _ _ _=>ReflectliteType.toType c) #[Yc #[Q (K ⟨1,86,I⟩),Q (K b),A .u64 150]]).run prog a
  = .ok (Yd 211 (Yc #[Q (K ⟨1,86,I⟩)])) a:=B
theorem R.kM(a:Z)(b:V):(Go.method 581 211 (Yc #[a]) "Kind").run prog b= .ok (367,a) b:=B
theorem R.kL(a:Z)(b:V):(Go.method 581 211 (Yc #[a]) "Elem").run prog b= .ok (379,Yc #[a]) b:=B
theorem R.fJ(a:Z)(b:V):(Go.method 581 211 (Yc #[a]) "Implements").run prog b= .ok (380,Yc #[a]) b:=B
theorem R.eJ(a:Z)(b:V):(Go.method 581 211 (Yc #[a]) "AssignableTo").run prog b= .ok (377,Yc #[a]) b:=B
theorem C.x_(a:V):((ReflectliteType.abiMethod λc=>(λb:Nat=>A IntKind.u8 (b:Int))<$>Rtype.kind c) #[Q (K ⟨1,86,I⟩)]).run prog a= .ok (A Yf 22) a:=B
theorem C.kind(a:V):((ReflectliteType.abiMethod λc=>(λb:Nat=>A IntKind.u8 (b:Int))<$>Rtype.kind c) #[Q (K ⟨1,49,I⟩)]).run prog a= .ok (A Yf 2) a:=B
theorem C.parts(a:Yi)(b:V):(ReflectliteValue.parts (Yc #[Q (K ⟨1,86,I⟩),Q (K a),A .u64 150])).run prog b= .ok (K (86,a,150)) b:=B
theorem C.isNil(b f:Yi)(a:V)(c:a.cell? b=K (Q (K f))):
  (YZ (YP "reflectlite.Value.IsNil" 0) ReflectliteValue.isNil #[Yc #[Q (K ⟨1,86,I⟩),Q (K b),A .u64 150]]).run prog a= .ok (.bool false) a:=by
 rw [UW];simp only [Sem.run_bind,C.parts,Result.andThen];simp [ReflectliteValue.isNil,loadVar,isAgg,underlying,underlying86,c,Result.andThen]
theorem C.elem(a:V):(ReflectliteType.method ReflectliteType.elem #[Yc #[Q (K ⟨1,86,I⟩)]]).run prog a= .ok (Yd 211 (Yc #[Q (K ⟨1,49,I⟩)])) a:=B
theorem C.implements(a:V):(YX "Implements" ReflectliteType.implements_ #[Yc #[Q (K ⟨1,49,I⟩)],Yd 211 (Yc #[Q (K ⟨1,32,I⟩)])]).run prog a= .ok (.bool true) a:=B
theorem C.typeOf(b:Z)(a:V):(ReflectliteType.typeOf #[Yd 49 b]).run prog a= .ok (Yd 211 (Yc #[Q (K ⟨1,49,I⟩)])) a:=B
theorem C.assignable(a:V):(YX "AssignableTo" ReflectliteType.assignableTo #[Yc #[Q (K ⟨1,49,I⟩)],Yd 211 (Yc #[Q (K ⟨1,49,I⟩)])]).run prog a= .ok (.bool true) a:=B
theorem C.wT(b:Int)(a:V):(ReflectliteValue.unpack (Yd 49 (A G b))).run prog a
  = .ok (Yc #[Q (K ⟨1,49,I⟩),Q (K a),A .u64 130]) (a.alloc (M #[A G b] 49)):=B
theorem C.elemOf(a:V):(Rtype.elem? 86).run prog a= .ok (K 49) a:=B
theorem C.mk(a:Yi)(b:V):(ReflectliteValue.mk 49 a ReflectliteValue.flagAddr).run prog b= .ok (Yc #[Q (K ⟨1,49,I⟩),Q (K a),A .u64 386]) b:=B
theorem C.elemV(b c:Yi)(a:V)(f:a.cell? b=K (Q (K c))):
  (YZ (YP "reflectlite.Value.Elem" 0) ReflectliteValue.elem #[Yc #[Q (K ⟨1,86,I⟩),Q (K b),A .u64 150]]).run prog a
   = .ok (Yc #[Q (K ⟨1,49,I⟩),Q (K c),A .u64 386]) a:=by
 rw [UW];simp only [Sem.run_bind,C.parts,Result.andThen];simp [ReflectliteValue.elem,loadVar,isAgg,underlying,underlying86,f,Result.andThen,C.elemOf,C.mk]
theorem C.FQ(a:Yi)(b:V):(ReflectliteValue.parts (Yc #[Q (K ⟨1,49,I⟩),Q (K a),A .u64 386])).run prog b= .ok (K (49,a,386)) b:=B
theorem C.FR(a:Yi)(b:V):(ReflectliteValue.parts (Yc #[Q (K ⟨1,49,I⟩),Q (K a),A .u64 130])).run prog b= .ok (K (49,a,130)) b:=B
theorem C.direct(a:V):(Rtype.directlyAssignable 49 49).run prog a= .ok true a:=B
theorem C.set(b c:Yi)(f:Int)(j:Z)(a:V)(g:a.cell? c=K (A G f))(i:a.cell? b=K j)(h:a.frozen? b=false):
  (ReflectliteValue.set #[Yc #[Q (K ⟨1,49,I⟩),Q (K b),A .u64 386],Yc #[Q (K ⟨1,49,I⟩),Q (K c),A .u64 130]]).run prog a
   = .ok (Ye #[]) (a.setCell b (A G f)):=by
 rw [VZ];simp only [Sem.run_bind,C.FQ,C.FR,Result.andThen];simp [ReflectliteValue.flagAddr,loadVar,isAgg,underlying,underlying49,g,Result.andThen,C.direct,storeVar,Value.cells,storeCells,Addr.add];rw [run_store prog a b _ _ (by rfl)];simp [i,h]
theorem F.valueOf(b:Yi)(a:V):(ReflectliteValue.unpack (Yd 243 (Q (K b)))).run prog a
  = .ok (Yc #[Q (K ⟨1,243,I⟩),Q (K a),A .u64 150]) (a.alloc (M #[Q (K b)] 243)):=B
theorem F.type(b:Yi)(a:V):(ReflectliteValue.methodAny (YP "reflectlite.Value.Type" 0) (λc _ _ _=>ReflectliteType.toType c) #[Yc #[Q (K ⟨1,243,I⟩),Q (K b),A .u64 150]]).run prog a
  = .ok (Yd 211 (Yc #[Q (K ⟨1,243,I⟩)])) a:=B
theorem F.x_(a:V):((ReflectliteType.abiMethod λc=>(λb:Nat=>A IntKind.u8 (b:Int))<$>Rtype.kind c) #[Q (K ⟨1,243,I⟩)]).run prog a= .ok (A Yf 22) a:=B
theorem F.kind(a:V):((ReflectliteType.abiMethod λc=>(λb:Nat=>A IntKind.u8 (b:Int))<$>Rtype.kind c) #[Q (K ⟨1,142,I⟩)]).run prog a= .ok (A Yf 22) a:=B
theorem F.parts(a:Yi)(b:V):(ReflectliteValue.parts (Yc #[Q (K ⟨1,243,I⟩),Q (K a),A .u64 150])).run prog b= .ok (K (243,a,150)) b:=B
theorem F.isNil(b f:Yi)(a:V)(c:a.cell? b=K (Q (K f))):
  (YZ (YP "reflectlite.Value.IsNil" 0) ReflectliteValue.isNil #[Yc #[Q (K ⟨1,243,I⟩),Q (K b),A .u64 150]]).run prog a= .ok (.bool false) a:=by
 rw [UW];simp only [Sem.run_bind,F.parts,Result.andThen];simp [ReflectliteValue.isNil,loadVar,isAgg,underlying,underlying243,c,Result.andThen]
theorem F.elem(a:V):(ReflectliteType.method ReflectliteType.elem #[Yc #[Q (K ⟨1,243,I⟩)]]).run prog a= .ok (Yd 211 (Yc #[Q (K ⟨1,142,I⟩)])) a:=B
theorem F.implements(a:V):(YX "Implements" ReflectliteType.implements_ #[Yc #[Q (K ⟨1,142,I⟩)],Yd 211 (Yc #[Q (K ⟨1,32,I⟩)])]).run prog a= .ok (.bool true) a:=B
theorem F.kZ(a:V):(YX "AssignableTo" ReflectliteType.assignableTo #[Yc #[Q (K ⟨1,49,I⟩)],Yd 211 (Yc #[Q (K ⟨1,142,I⟩)])]).run prog a= .ok (.bool false) a:=B
theorem R.t_(b:Int)(a:V):(Instr.typeAssert (Yd 49 (A G b)) 32 215 true).run prog a= .ok (Ye #[Ya,.bool false]) a:=
 run_typeAssert_lacksB underlying215 B B _ _ a
theorem R.BD(b:Int)(a:V):(Instr.typeAssert (Yd 49 (A G b)) 32 218 true).run prog a= .ok (Ye #[Ya,.bool false]) a:=
 run_typeAssert_lacksB underlying218 B B _ _ a
theorem R.zq(b:Int)(a:V):(Instr.typeAssert (Yd 49 (A G b)) 32 219 true).run prog a= .ok (Ye #[Ya,.bool false]) a:=
 run_typeAssert_lacksB underlying219 B B _ _ a
theorem Qh(f:Int)(a:Yi)(k:Z)(b:V)(g:bN b)(i:b.cell? a=K k)(n:b.frozen? a=false):
  d prog 52 #[Yd 49 (A G f),Yd 86 (Q (K a))] b λm o=>m=e (.bool true)/\((((b.alloc (M #[Q (K a)] 86)).alloc (M #[Q (K ⟨1,86,I⟩),Q (K b),A .u64 150] 155)).alloc (M #[Q (K ⟨1,86,I⟩),Q (K b),A .u64 150] 155)).alloc (M #[A G f] 49)).setCell a (A G f)=o:=by
 have F:=@YB prog 85 _ (λl=>ReflectliteValue.unpack (l.getD 0 (Ye #[]))) func85 B B B B;have J:=@YB prog 86 _ (ReflectliteValue.methodAny (YP "reflectlite.Value.Type" 0) (λa _ _ _=>ReflectliteType.toType a)) func86 B B B B;have L:=@YB prog 87 _ (YZ (YP "reflectlite.Value.IsNil" 0) ReflectliteValue.isNil) func87 B B B B;have x:=@YB prog 367 _ (ReflectliteType.abiMethod λa=>do pure (A Yf (<-Rtype.kind a))) func367 B B B B;have z:=@YB prog 379 _ (ReflectliteType.method ReflectliteType.elem) func379 B B B B;have D:=@YB prog 380 _ (YX "Implements" ReflectliteType.implements_) func380 B B B B;have u:=@YB prog 113 _ ReflectliteType.typeOf func113 B B B B;have y:=@YB prog 377 _ (YX "AssignableTo" ReflectliteType.assignableTo) func377 B B B B;have v:=@YB prog 125 _ (YZ (YP "reflectlite.Value.Elem" 0) ReflectliteValue.elem) func125 B B B B;have w:=@YB prog 126 _ ReflectliteValue.set func126 B B B B;have a8:=C.typeOf;have a1:=R.eJ;have p:=C.assignable;have a9:=C.wT;have s:=C.valueOf;have t:=C.type;have a5:=R.kM;have a2:=R.kL;have a3:=R.fJ;have a0:=C.x_;have W:=C.kind;have q:=C.elem;have T:=C.implements;have a6:=C.isNil b a ((b.alloc (M #[Q (K a)] 86)).alloc (M #[Q (K ⟨1,86,I⟩),Q (K b),A .u64 150] 155)) Y;have g:b.cell? ⟨0,0,I⟩=K (Yd 211 (Yc #[Q (K ⟨1,32,I⟩)])):=g
 have h:0<b.heap.size:=by
  rcases Nat.lt_or_ge 0 b with c|c
  .exact c
  .simp [World.cell?,Array.getElem?_eq_none c] at g
 have P:((b.alloc (M #[Q (K a)] 86)).alloc (M #[Q (K ⟨1,86,I⟩),Q (K b),A .u64 150] 155)).cell? ⟨0,0,I⟩=K (Yd 211 (Yc #[Q (K ⟨1,32,I⟩)])):=by
  rw [Ys _ _ ⟨0,0,I⟩ (Yv h Y),Ys _ _ ⟨0,0,I⟩ h];exact g
 have j:a.block<b.heap.size:=by
  rcases Nat.lt_or_ge a.block b with c|c
  .exact c
  .simp [World.cell?,Array.getElem?_eq_none c] at i
 have r:=C.elemV b a (((b.alloc (M #[Q (K a)] 86)).alloc (M #[Q (K ⟨1,86,I⟩),Q (K b),A .u64 150] 155)).alloc (M #[Q (K ⟨1,86,I⟩),Q (K b),A .u64 150] 155)) (by rw [Ys _ _ b (by simp;omega)];simp)
 have a7:=C.set a ⟨b.heap.size+1+1+1,0,I⟩ f k ((((b.alloc (M #[Q (K a)] 86)).alloc (M #[Q (K ⟨1,86,I⟩),Q (K b),A .u64 150] 155)).alloc (M #[Q (K ⟨1,86,I⟩),Q (K b),A .u64 150] 155)).alloc (M #[A G f] 49))
  (by rw [World.cell?_alloc_at _ _ _ _ Y];rfl)
  (by rw [Ys _ _ a (by simp;omega),Ys _ _ a (by simp;omega),Ys _ _ a (by simp;omega),Ys _ _ a j];exact i)
  (by rw [World.frozen?_alloc_old _ _ a (by simp;omega),World.frozen?_alloc_old _ _ a (by simp;omega),World.frozen?_alloc_old _ _ a (by simp;omega),World.frozen?_alloc_old _ _ a (Nat.ne_of_lt j)];exact n)
 go_enter func52,ntmps52;go_wp2;refine wp_loop_rounds 1 ?_;rw [rounds_succ];go_wp2;go_ret;exact⟨rfl,rfl⟩
theorem uB(j:Int)(b:Yi)(a:V)(c:bN a):
  d prog 52 #[Yd 49 (A G j),Yd 243 (Q (K b))] a λi k=>i=e (.bool false)/\(((a.alloc (M #[Q (K b)] 243)).alloc (M #[Q (K ⟨1,243,I⟩),Q (K a),A .u64 150] 155)).alloc (M #[Q (K ⟨1,243,I⟩),Q (K a),A .u64 150] 155))=k:=by
 have u:=@YB prog 85 _ (λh=>ReflectliteValue.unpack (h.getD 0 (Ye #[]))) func85 B B B B;have v:=@YB prog 86 _ (ReflectliteValue.methodAny (YP "reflectlite.Value.Type" 0) (λb _ _ _=>ReflectliteType.toType b)) func86 B B B B;have w:=@YB prog 87 _ (YZ (YP "reflectlite.Value.IsNil" 0) ReflectliteValue.isNil) func87 B B B B;have q:=@YB prog 367 _ (ReflectliteType.abiMethod λb=>do pure (A Yf (<-Rtype.kind b))) func367 B B B B;have s:=@YB prog 379 _ (ReflectliteType.method ReflectliteType.elem) func379 B B B B;have t:=@YB prog 380 _ (YX "Implements" ReflectliteType.implements_) func380 B B B B;have p:=@YB prog 113 _ ReflectliteType.typeOf func113 B B B B;have r:=@YB prog 377 _ (YX "AssignableTo" ReflectliteType.assignableTo) func377 B B B B;have a3:=C.typeOf;have T:=R.eJ;have l:=F.kZ;have n:=F.valueOf;have o:=F.type;have a1:=R.kM;have W:=R.kL;have a0:=R.fJ;have D:=F.x_;have z:=F.kind;have m:=F.elem;have y:=F.implements;have J:=R.t_;have L:=R.BD;have P:=R.zq;have a2:=F.isNil a b ((a.alloc (M #[Q (K b)] 243)).alloc (M #[Q (K ⟨1,243,I⟩),Q (K a),A .u64 150] 155)) Y;have c:a.cell? ⟨0,0,I⟩=K (Yd 211 (Yc #[Q (K ⟨1,32,I⟩)])):=c
 have g:0<a.heap.size:=by
  rcases Nat.lt_or_ge 0 a with f|f
  .exact f
  .simp [World.cell?,Array.getElem?_eq_none f] at c
 have x:((a.alloc (M #[Q (K b)] 243)).alloc (M #[Q (K ⟨1,243,I⟩),Q (K a),A .u64 150] 155)).cell? ⟨0,0,I⟩=K (Yd 211 (Yc #[Q (K ⟨1,32,I⟩)])):=by
  rw [Ys _ _ ⟨0,0,I⟩ (Yv g Y),Ys _ _ ⟨0,0,I⟩ g];exact c
 go_enter func52,ntmps52;go_wp2;refine wp_loop_rounds 1 ?_;rw [rounds_succ];go_wp2;go_ret;exact⟨rfl,rfl⟩
theorem kA{b f:V}(g:X b b f):(∀a o,a<b.heap.size->f.cell? ⟨a,o,I⟩=b.cell? ⟨a,o,I⟩)/\(∀a o,a<b.heap.size->f.frozen? ⟨a,o,I⟩=b.frozen? ⟨a,o,I⟩):=
 ⟨λa o c=>g.cell (p:=⟨a,o,I⟩) c,λa o c=>g.frozen (p:=⟨a,o,I⟩) c⟩
theorem ext{a b f:V}(c:X a a b)(g:X b b f):X a a f:=c.trans (g.mono c.size)
def bj(a:Int):Z:=if a=0 then Ya else Yd 49 (A G a)
theorem ar:bj 0=Ya:=rfl
theorem aT{k:Int}(a:k≠0):bj k=Yd 49 (A G k):=by simp [bj,a]
theorem nA:prog.underlying 32=K (.interface (prog.methodsAt 32)):=B
@[go_sem] theorem TM(a:Int)(b:V):(binOp .neq 32 (bj a) Ya).run prog b= .ok (.bool (!(a==0))) b:=by
 by_cases c:a=0
 .subst c;rw [ar];exact run_neq_nil_nil b _ nA
 .rw [aT c,run_neq_held_nil b _ _ _ nA,show(a==0)=false from by simpa using c];rfl
@[go_sem] theorem So(op:BinOp)(f:TypeId)(g:Operand)(b:Int)(c:V):(eqGuard op f g (.const Ya) (bj b) Ya).run prog c= .ok () c:=by
 by_cases a:b=0
 .subst a;rw [ar];cases op<;>simp [eqGuard]
 .rw [aT a];cases op<;>simp [eqGuard]
theorem bN.below{B:Nat}{a b:V}(c:bN a)(g:X B a b)(f:0<B):bN b:=by
 unfold bN at*;rw [g.cell (by simpa using f)];exact c
theorem bN.lt{b:V}(c:bN b):0<b.heap.size:=by
 unfold bN at c
 rcases Nat.lt_or_ge 0 b with a|a
 .exact a
 .simp [World.cell?,Array.getElem?_eq_none a] at c
theorem bN.ext{a c:V}(b:bN a)(f:X a a c):bN c:=b.below f b.lt
theorem of_nil(a:V):d prog 22 #[Ya] a λb c=>b=e (A G 0)/\X a a c:=by
 go_enter func22,ntmps22;go_wp2;go_returns;exact⟨rfl,N⟩
theorem IG(c:Int)(a:V)(g:bN a):d prog 22 #[Yd 49 (A G c)] a λb f=>b=e (A G c)/\X a a f:=by
 have h:bN (a.alloc (M #[A G 0] 49)):=g.ext N;go_enter func22,ntmps22
 go_wp2_with (go_at_call 52;refine(Qh _ _ (A G 0) _ h Y Y).mono ?_;rintro b f ⟨rfl,rfl⟩)
 go_returns;exact⟨rfl,N⟩
theorem OO(a:V):d prog 95 #[Ya] a λb c=>b=e (U I 0 0)/\X a a c:=by
 go_enter func95,ntmps95;go_wp2;refine wp_loop_rounds 1 ?_;rw [rounds_succ]
 go_wp2_with (go_at_call 52;refine(Sh _ _).mono ?_;rintro b c ⟨rfl,rfl⟩)
 go_returns;exact⟨rfl,N⟩
theorem Lh(h:Int)(a:V)(f:bN a):d prog 95 #[Yd 49 (A G h)] a λb c=>b=e (U I 0 0)/\X a a c:=by
 have g:bN (a.alloc (M #[Q I] 142)):=f.ext N;go_enter func95,ntmps95;go_wp2;refine wp_loop_rounds 1 ?_;rw [rounds_succ]
 go_wp2_with (go_at_call 52;refine(uB _ _ _ g).mono ?_;rintro b c ⟨rfl,rfl⟩)
 go_returns;exact⟨rfl,N⟩
theorem nZ(b:Int)(a:V):d prog 60 #[A G b] a λc f=>c=e (Yc #[A G b,U I 0 0])/\X a a f:=by
 go_enter func60,ntmps60;go_wp2;go_returns;exact⟨rfl,N⟩
theorem Oy(b:Int)(f:Z)(a:V):d prog 66 #[Yc #[A G b,f]] a λc g=>c=e (.bool (b==0))/\X a a g:=by
 go_enter func66,ntmps66;go_wp2;go_returns;exact⟨rfl,N⟩
theorem nf(b:Z)(a:V):d prog 66 #[Yc #[A G 0,b]] a λc f=>c=e (.bool true)/\X a a f:=Oy 0 b a
theorem pG(b:Int)(j:(b==0)=false)(f:Z)(a:V):d prog 66 #[Yc #[A G b,f]] a λc g=>c=e (.bool false)/\X a a g:=
 (Oy b f a).mono λc g ⟨i,h⟩=>⟨by rw [i,j],h⟩
end
section
open Go.ChangeShapes Go.WideShapes Go.ChangeAt Go.RowKit
theorem own:ownKnob prog.godebug=I:=B
theorem et:prog.globalNamed "errors.errorType"=K 0:=B
theorem rt:(prog.cutTypes.find? (·.1== "internal/reflectlite.rtype")).map (·.2)=K 211:=B
theorem Tb:((Za 481).filter λa=>prog.rowNamed a [101,114,114,111,114])=[32]:=B
theorem UM:prog.types.size=481:=B
theorem laidOut:laidOutB prog=true:=B
theorem wQ{a:V}(k:laidMetH prog [("errors.errorType",Rows.laid_errors_errorType)] a):bN a:=by
 have l:laidMet prog [] a/\handlesMet prog [("errors.errorType",Rows.laid_errors_errorType)] a:=k;obtain⟨n,q,p,f,g,h,i,b⟩:=l.2 _ (List.mem_singleton.2 rfl);have j:n=[101,114,114,111,114]:=(YG f).symm;subst j;obtain rfl:=YG (rt.symm.trans g)
 have c:p∈(Za 481).filter λo=>prog.rowNamed o [101,114,114,111,114]:=List.mem_filter.2 ⟨List.mem_range.2 (by rw [<-UM];exact h),i⟩
 rw [Tb] at c;obtain rfl:=List.mem_singleton.1 c;have m:typeHandle prog 32=Q (K ⟨1,32,I⟩):=B;rw [m] at b;have:=World.var?_cell et b 0
 simpa [bN] using this
noncomputable def sd(a:Os):V:=
 {World.holding prog a ⟨#[],#[],[]⟩ with heap:=(World.holding prog a ⟨#[],#[],[]⟩).heap.modify 0 λ
   |.cells _ c b=>M #[Yd 211 (Yc #[Q (K ⟨1,32,I⟩)])] c b
   |o=>o}
theorem xf(b:Os)(a:Array Z):laidMetH prog [("errors.errorType",Rows.laid_errors_errorType)] ((sd b).forCall (λ_ _=>0) ⟨#[],a,[]⟩).memory:=
 laidMetH_of_parts (laidMet_nil _ _) B
theorem pL{l:Type}{n:TypeId×Z->l}{P:Program}(p:laidOutB P=true){b m:V}(o:X b b m):
  ∀{g:List TypeId} {k:List Z} {i:List (DataW l)} {c:List MemPlace},(∀a∈g,P.readableRec a=true/\a<P.types.size)->
   DataW.TrodAll n P b 0 (λ_=>true) true g k i c->(∀f∈c,f.block<b.heap.size)->DataW.TrodAll n P m 0 (λr=>decide (r<b.heap.size)) true g k i c
 |[],[],[],c,_,h,_=>h
 |a::g,v::k,d::i,c,hr,h,hlt=>by
  obtain⟨x,q,t,u,s⟩:=h;subst s
  exact⟨x,q,Below.trod p (hr a (List.mem_cons_self ..)).1 (hr a (List.mem_cons_self ..)).2 t o (λf j=>hlt f (List.mem_append_left _ j)),
   pL p o (λa w=>hr a (List.mem_cons_of_mem _ w)) u (λf j=>hlt f (List.mem_append_right _ j)),rfl⟩
 |[],_::_,_,_,_,h,_=>by simp [DataW.TrodAll] at h
 |[],[],_::_,_,_,h,_=>by simp [DataW.TrodAll] at h
 |_::_,[],_,_,_,h,_=>by simp [DataW.TrodAll] at h
 |_::_,_::_,[],_,_,h,_=>by simp [DataW.TrodAll] at h
end
section
open Go.RowKit Go.ChangeShapes Go.WideShapes
def bh(a:Int):Prop:= -9223372036854775808<=a/\a<=9223372036854775807
def aY(h:V)(g:Z)(a:List Int):Prop:=
 ∃(b:Option Yi) (cap:Nat),g=U b a.length cap/\a.length<=cap/\cap<=YO/\(∀i∈a,bh i)/\(b=I->cap=0)/\
  ∀c,c<a.length->∃f off,b=K ⟨f,off,I⟩/\h.cell? ⟨f,off+c,I⟩=K (A G (a.getD c 0))
theorem aY.below{B:Nat}{a h:V}{g:Z}{i:List Int}(l:aY a g i)(s:X B a h)(v:a.heap.size<=B):aY h g i:=by
 obtain⟨j,cap,rfl,m,n,o,r,q⟩:=l;refine⟨j,cap,rfl,m,n,o,r,λf t=>?_⟩;obtain⟨b,off,k,c⟩:=q f t;have u:=Yj a _ c;exact⟨b,off,k,by rw [s.cell (p:=⟨b,off+f,I⟩) (by simp at u⊢;omega)];exact c⟩
theorem aY.ext{a c:V}{b:Z}{f:List Int}(g:aY a b f)(h:X a a c):aY c b f:=g.below h (Yk _)
theorem aY.len{g:V}{f:Z}{a:List Int}(b:aY g f a):a.length<=9223372036854775807:=by
 obtain⟨h,cap,rfl,i,c,_⟩:=b;unfold YO at c;omega
theorem aY.bh{g:V}{f:Z}{a:List Int}(b:aY g f a):∀h∈a,bh h:=by
 obtain⟨i,cap,rfl,j,k,c,_⟩:=b;exact c
theorem aY.nil(b:V):aY b (U I 0 0) []:=⟨I,0,rfl,Y,by simp [YO],Y,λ_=>rfl,λc a=>by simp at a⟩
theorem rX{a:List Int}(f:∀g∈a,bh g)(c:Nat):bh (a.getD c 0):=by
 by_cases b:c<a.length
 .rw [Yp,YM b];exact f _ (List.getElem_mem b)
 .rw [Yp,List.getElem?_eq_none O];simp [Proofs.YtajkpgaheechmaaGreatDoor.bh]
def aa(f:V)(b:Nat)(c:Z)(a:List Int):Prop:=
 f.ownsRow b 3 1 c a.length (a.map (A G))/\∀g∈a,bh g
theorem aa.ints{c:V}{B:Nat}{i:Z}{f:List Int}(a:aa c B i f):aY c i f:=by
 obtain⟨h,l⟩:=a;have j:=h;obtain⟨s,a|⟨g,cap,p,rfl,q,r,o,n,t,u⟩⟩:=h
 .obtain⟨rfl,k⟩:=a
  have:f=[]:=List.length_eq_zero_iff.1 k;subst this;exact aY.nil c
 .refine⟨K g,cap,rfl,o,n,l,λa=>(by cases a),λb m=>⟨g,0,rfl,?_⟩⟩
  have:=j.cellAt b O;rw [(O:(0:Nat)+b=b),this];simp [YR,m]
theorem aa.nil(b:V)(a:Nat):aa b a (U I 0 0) []:=⟨YC b a _ 1,Y⟩
theorem aa.ext{b j:V}{c:Nat}{i:Z}{k:List Int}(a:aa b c i k)(n:X b b j):aa j c i k:=by
 obtain⟨p,o⟩:=a;refine⟨?_,o⟩;obtain⟨h,a|⟨f,cap,l,rfl,m,g,q⟩⟩:=p
 .exact⟨h,Yg a⟩
 .exact⟨h,Yh ⟨f,cap,l,rfl,m,by rw [n.block f (Array.getElem?_eq_some_iff.1 g).1];exact g,q⟩⟩
theorem aa.mono{h:V}{b B':Nat}{g:Z}{i:List Int}(a:aa h b g i)(m:B'<=b):aa h B' g i:=by
 obtain⟨⟨f,a|⟨k,cap,j,rfl,n,l⟩⟩,c⟩:=a
 .exact⟨⟨f,Yg a⟩,c⟩
 .exact⟨⟨f,Yh ⟨k,cap,j,rfl,O,l⟩⟩,c⟩
theorem Bm:(prog.info? 3).map (λa=>(a.zero,a.size,a.bytes))=K (K (A G 0),1,8):=B
theorem aa.alloc{f:V}{a:Nat}{c:Z}{g:List Int}(b:aa f a c g)(o:Obj):aa (f.alloc o) a c g:=⟨b.1.alloc o,b.2⟩
theorem aa.open{f:V}{g:Nat}{k:Z}{c:List Int}(h:aa f g k c)(t:0<c.length):
  ∃b cap,k=U (K ⟨b,0,I⟩) c.length cap/\g<=b/\b<f.heap.size/\(∀a,a<c.length->f.cell? ⟨b,a,I⟩=K (A G (c.getD a 0)))/\(∀a,f.frozen? ⟨b,a,I⟩=false):=by
 obtain⟨j,p⟩:=h;have i:=j;obtain⟨q,h|⟨b,cap,o,rfl,l,m,s,r,u,v⟩⟩:=j
 .omega
 .refine⟨b,cap,rfl,l,(Array.getElem?_eq_some_iff.1 m).1,λa n=>?_,λa=>i.frozenAt a⟩
  rw [i.cellAt a O];simp [YR,n]
theorem aa.shape{i:V}{f:Nat}{b:Z}{c:List Int}(h:aa i f b c):∃a cap,b=U a c.length cap:=by
 obtain⟨a,cap,g,_⟩:=h.ints;exact⟨a,cap,g⟩
theorem aa.set{j:V}{h c cap:Nat}{b:List Int}(i:aa j h (U (K c) b.length cap) b)(g:Nat)(a:Int)(k:Proofs.YtajkpgaheechmaaGreatDoor.bh a):
  aa (j.setCell ⟨c,g,I⟩ (A G a)) h (U (K c) b.length cap) (b.set g a):=by
 constructor
 .have:=(i.1.stored g (A G a)).1
  simpa [List.map_set] using this
 .intro m l
  rcases List.mem_or_eq_of_mem_set l with f|f
  .exact i.2 m f
  .rw [f];exact k
section
variable {ops:Array Oper} {rest:List Oper} {o:Oper} {a:Act} {Q:Exit->Act->V->Prop}
theorem cJ{b:V}(z:o.guard=I)(r s:Operand)(F:o.op= .call {callee:= .builtin .append,args:=#[r,s],argTypes:=#[26,26]})
  (f:Nat)(i:Z)(j:List Int)(m:Int)(L:a.eval r=i)(p:aa b f i j){t:Nat}(P:a.eval s=U (K t) 1 1)(y:t=b.heap.size)(R:Proofs.YtajkpgaheechmaaGreatDoor.bh m)
  (a6:j.length<=1099511627776)(x:f<=b.heap.size)
  (w:∀l c,aa c f l (j++[m])->X f b c->b.grownBy c i.ownBlock->wpList prog ops Q rest (a.put o.dst l) c):wpList prog ops Q (o::rest) a (b.alloc (M #[A G m] 3)):=by
 subst y;obtain⟨a1,C,T,W,a0⟩:=info_parts Bm;refine wpList_append_own _ z r s 26 F f 3 a1 (A G 0) 1 8 underlying26 C T W a0 rfl H i j.length (j.map (A G)) L (p.1.alloc _) b 1 1 [A G m] P rfl ?_ ?_ (by unfold YO;omega) O (by simp;omega) ?_
 .intro a2 a3 k
  match a2,k with
  |0,k=>simp at k;subst k;simp [Addr.add]
 .intro a3 v;simp at v;subst v;rfl
 .intro l c J h _
  have u:b.grownBy c i.ownBlock:=⟨h.os,h.tape,h.output,by have:=h.size;simp at this;omega,λq n D=>(h.block q (by simp;omega) D).trans (heap_alloc_old b _ n)⟩;refine w l c ⟨by simpa using J,?_⟩ ?_ u
  .intro a5 g
   rcases List.mem_append.1 g with g|g
   .exact p.2 a5 g
   .simp at g;rw [g];exact R
  .exact(Yn f b).grown u x λq n=>(p.1.lt q n).1
theorem tF{c:V}(C:o.guard=I)(s u:Operand)(J:o.op= .call {callee:= .builtin .append,args:=#[s,u],argTypes:=#[26,26]})
  (g:Nat)(l k:Z)(h b:List Int)(L:a.eval s=l)(n:aa c g l h)(P:a.eval u=k)(a8:aY c k b)
  (b7:h.length+b.length<=1099511627776)(z:g<=c.heap.size)
  (f:∀t m,aa m g t (h++b)->X g c m->c.grownBy m l.ownBlock->wpList prog ops Q rest (a.put o.dst t) m):wpList prog ops Q (o::rest) a c:=by
 obtain⟨R,F,b0,b1,b2⟩:=info_parts Bm;obtain⟨x,cap,rfl,b5,b6,T,W,y⟩:=a8
 have a3:∀v∈h++b,Proofs.YtajkpgaheechmaaGreatDoor.bh v:=by
  intro v p
  rcases List.mem_append.1 p with p|p
  .exact n.2 v p
  .exact T v p
 have a2:∀i,x=K i->∀(j:Nat) (k:Z),(b.map (A G))[j]? =K k->c.cell? (i.add j)=K k:=by
  intro i a0 j k r
  have w:j<b.length:=by
   rcases Nat.lt_or_ge j b.length with f|f
   .exact f
   .rw [List.getElem?_eq_none (by simp;omega)] at r;cases r
  obtain⟨b4,off,q,a1⟩:=y j w;rw [a0] at q;obtain rfl:=YG q;rw [Go.WideShapes.add_plain,a1];simp [w] at r;simp [YR,w,r]
 cases x with
 |none=>
  have a6:b.length=0:=by
   rcases Nat.eq_zero_or_pos b.length with f|f
   .exact f
   .obtain⟨_,_,q,_⟩:=y 0 f;cases q
  have a9:b=[]:=List.length_eq_zero_iff.1 a6;subst a9;obtain rfl:=W rfl;refine wpList_append_own_none C s u 26 J g 3 R 1 underlying26 F l h.length _ L n.1 P ?_;exact f l c (by simpa using n) (Yn _ _) ⟨rfl,rfl,rfl,Yk _,λ_ _ _=>rfl⟩
 |some i=>
  refine wpList_append_own _ C s u 26 J g 3 R (A G 0) 1 8 underlying26 F b0 b1 b2 rfl H l h.length (h.map (A G)) L n.1 i b.length cap (b.map (A G)) P Y (a2 i rfl) (ints_oneCell _ _) (by unfold YO;omega) O z ?_;intro t m a7 D _;refine f t m ⟨by simpa using a7,a3⟩ ?_ D
  exact(Yn g c).grown D z λb3 a5=>(n.1.lt b3 a5).1
end
def ai(f:V)(b:Nat)(c:Array Z)(a:Nat):Prop:=f.heap[b]? =K (M c a (0,0))
theorem ai.new(a:V)(c:Array Z)(b:Nat):ai (a.alloc (M c b)) a c b:=heap_alloc_new a _
theorem ai.lt{b:V}{a:Nat}{f:Array Z}{c:Nat}(g:ai b a f c):a<b.heap.size:=(Array.getElem?_eq_some_iff.1 g).1
theorem ai.ext{b h:V}{a:Nat}{f:Array Z}{c:Nat}(g:ai b a f c)(i:X b b h):ai h a f c:=(i.block a g.lt).trans g
theorem ai.below{B:Nat}{f g:V}{a:Nat}{c:Array Z}{b:Nat}(h:ai f a c b)(j:X B f g)(i:a<B):ai g a c b:=(j.block a i).trans h
theorem ai.alloc{a:V}{c:Nat}{f:Array Z}{b:Nat}(g:ai a c f b)(o:Obj):ai (a.alloc o) c f b:=(heap_alloc_old a _ g.lt).trans g
theorem ai.drew{f:V}{b:Nat}{c:Array Z}{a:Nat}(g:ai f b c a):ai f.drew b c a:=g
theorem ai.grown{g w':V}{row:Option Nat}{a:Nat}{c:Array Z}{b:Nat}(f:ai g a c b)(h:g.grownBy w' row)(i:K a≠row):ai w' a c b:=(h.block a f.lt i).trans f
theorem ai.ab{c:V}{b:Nat}{g:Array Z}{f:Nat}(i:ai c b g f)(a:Yi)(h:Z)(j:b≠a.block):ai (c.setCell a h) b g f:=(Yt c a h b j).trans i
theorem ai.set{g:V}{a:Nat}{c:Array Z}{b:Nat}(h:ai g a c b)(o:Nat)(f:Z):ai (g.setCell ⟨a,o,I⟩ f) a (c.setIfInBounds o f) b:=heap_setCell_same g a o c b f h
theorem ai.cell{c:V}{a:Nat}{b:Array Z}{f:Nat}(g:ai c a b f)(o:Nat):c.cell? ⟨a,o,I⟩=b[o]?:=cell_of_row c a o b f (0,0) g
theorem ai.free{c:V}{a:Nat}{g:Array Z}{f:Nat}(b:ai c a g f)(o:Nat):c.frozen? ⟨a,o,I⟩=false:=by
 unfold ai at b;simp [World.frozen?,b]
theorem aa.ab{h:V}{b:Nat}{g:Z}{i:List Int}(c:aa h b g i){a:Yi}(j:a.block<b)(f:Z):aa (h.setCell a f) b g i:=⟨Yu c.1 j f,c.2⟩
theorem aa.RX{f:V}{a:Nat}{c:Z}{i:List Int}(h:aa f a c i){b:Nat}(j:b<a∨f.heap.size<=b):K b≠c.ownBlock:=by
 intro g;have:=h.1.lt b g.symm;omega
theorem aa.at{w:V}{B b n cap:Nat}{c:List Int}(f:aa w B (U (K b) n cap) c):
  n=c.length/\B<=b/\b<w.heap.size/\(∀j,j<c.length->w.cell? ⟨b,j,I⟩=K (A G (c.getD j 0)))/\(∀j,w.frozen? ⟨b,j,I⟩=false):=by
 have p:n=c.length:=by
  rcases f.1.2 with⟨a,_⟩|⟨k,h,i,a,_⟩
  .cases a
  .cases a;rfl
 subst p;have g:=f.1
 rcases f.1.2 with⟨a,_⟩|⟨k,h,i,a,l,m,_⟩
 .cases a
 .cases a
  refine⟨rfl,l,(Array.getElem?_eq_some_iff.1 m).1,λj o=>?_,λj=>g.frozenAt j⟩;rw [g.cellAt j O];simp [YR,o]
theorem aa.xo{i:V}{f b h cap:Nat}{j:List Int}(g:aa i f (U (K b) h cap) j)(c:Nat)(a:Int)(k:Proofs.YtajkpgaheechmaaGreatDoor.bh a):
  aa (i.setCell ⟨b,c,I⟩ (A G a)) f (U (K b) h cap) (j.set c a):=by
 obtain rfl:=g.at.1;exact g.set c a k
theorem aa.head{g:V}{c:Nat}{f:Z}{b:List Int}(i:aa g c f b)(l:0<b.length):∃a cap,f=U (K ⟨a,0,I⟩) b.length cap/\c<=a/\a<g.heap.size:=by
 obtain⟨a,cap,h,j,k,_⟩:=i.open l;exact⟨a,cap,h,j,k⟩
theorem sY(a b:Nat)(g:a<9223372036854775808)(h:b<9223372036854775808):bits .and G (a:Int) (b:Int)=((a&&&b:Nat):Int):=by
 have i:a&&&b<2^63:=Nat.and_lt_two_pow _ O
 have c:(BitVec.ofInt 64 (a:Int)).toNat=a:=by
  rw [BitVec.ofInt_natCast,BitVec.toNat_ofNat];exact Nat.mod_eq_of_lt O
 have f:(BitVec.ofInt 64 (b:Int)).toNat=b:=by
  rw [BitVec.ofInt_natCast,BitVec.toNat_ofNat];exact Nat.mod_eq_of_lt O
 show Zc G ((BitVec.ofInt 64 (a:Int)&&&BitVec.ofInt 64 (b:Int)).toNat:Int)=_
 rw [BitVec.toNat_and,c,f,Yo];omega
theorem vq(a b:Nat)(g:a<9223372036854775808)(h:b<9223372036854775808):bits .or G (a:Int) (b:Int)=((a|||b:Nat):Int):=by
 have i:a|||b<2^63:=Nat.or_lt_two_pow O O
 have c:(BitVec.ofInt 64 (a:Int)).toNat=a:=by
  rw [BitVec.ofInt_natCast,BitVec.toNat_ofNat];exact Nat.mod_eq_of_lt O
 have f:(BitVec.ofInt 64 (b:Int)).toNat=b:=by
  rw [BitVec.ofInt_natCast,BitVec.toNat_ofNat];exact Nat.mod_eq_of_lt O
 show Zc G ((BitVec.ofInt 64 (a:Int)|||BitVec.ofInt 64 (b:Int)).toNat:Int)=_
 rw [BitVec.toNat_or,c,f,Yo];omega
theorem fS{l:Array Oper}{m:List Oper}{o:Oper}{f:Act}{k:Exit->Act->V->Prop}{a:V}(u:o.guard=I)(j h:Operand)(z:o.op= .makeSlice 26 j h)
  (b:Nat){g C:Int}(x:f.eval j=A G g)(t:f.eval h=A G C)(r:g=(b:Int))(q:C=(b:Int))(P:b<=1099511627776)
  (p:∀c,aa c a (U (K a) b b) (YA b 0)->X a a c->a.heap.size<c.heap.size->wpList prog l k m (f.put o.dst (U (K a) b b)) c):
  wpList prog l k (o::m) f a:=by
 obtain⟨L,w,D,F,J⟩:=info_parts Bm;refine wpList_make_full _ u j h 26 z a 3 L (A G 0) 1 underlying26 w D F G G g C b x t r q (by rw [J];omega) (by unfold YO;omega) (Yk _) ?_;intro c i v;have s:X a a c:=(Yn _ _).grown v (Yk _) Y;have y:a.heap.size<c.heap.size:=(i.lt a rfl).2;refine p c ⟨?_,by simp [Proofs.YtajkpgaheechmaaGreatDoor.bh]⟩ s y
 have n:(madeCells (A G 0).cells (b*1)).toList=(YA b (0:Int)).map (A G):=by
  show(madeCells #[A G 0] (b*1)).toList=_
  rw [toList_madeCells_one,Nat.mul_one,List.map_replicate]
 rw [n] at i
 simpa using i
theorem ai.two{b:V}{a:Nat}{f g:Z}{h:Nat}(c:ai b a #[f,g] h):b.cell? a=K f/\b.cell? ⟨a,1,I⟩=K g/\b.frozen? a=false/\b.frozen? ⟨a,1,I⟩=false:=
 ⟨c.cell 0,c.cell 1,c.free 0,c.free 1⟩
theorem ai.dC{g:V}{a:Nat}{i j:Z}{f:Nat}(h:ai g a #[i,j] f)(b c:Z):ai ((g.setCell a b).setCell ⟨a,1,I⟩ c) a #[b,c] f:=(h.set 0 b).set 1 c
end
section
open Go.RowKit
theorem aa.Oc{f g:V}{b:Nat}{a:Z}{h:List Int}{row:Option Nat}(c:aa f b a h)(i:f.grownBy g row)(j:a.ownBlock=I∨a.ownBlock≠row):aa g b a h:=⟨c.1.kept i j,c.2⟩
theorem kn{y:Array Oper}{z:List Oper}{o:Oper}{j:Act}{v:Exit->Act->V->Prop}{a:V}(L:o.guard=I)(s t:Operand)(T:o.op= .call {callee:= .builtin .append,args:=#[s,t],argTypes:=#[26,26]})
  (c:Nat)(g:Z)(i:List Int)(m:Int)(a0:j.eval s=g)(q:aa a c g i){u:Nat}(a1:j.eval t=U (K u) 1 1)(F:u=a.heap.size)(a2:Proofs.YtajkpgaheechmaaGreatDoor.bh m)
  (b2:i.length<=1099511627776)(D:c<=a.heap.size)
  (C:∀l b,aa b c l (i++[m])->X c a b->a.grownBy b g.ownBlock->(g.ownBlock=l.ownBlock∨l.ownBlock=K (a.heap.size+1))->wpList prog y v z (j.put o.dst l) b):wpList prog y v (o::z) j (a.alloc (M #[A G m] 3)):=by
 subst F;obtain⟨a7,P,a3,a5,a6⟩:=info_parts Bm;refine wpList_append_lies _ L s t 26 T c 3 a7 (A G 0) 1 8 underlying26 P a3 a5 a6 rfl H g i.length (i.map (A G)) a0 (q.1.alloc _) a 1 1 [A G m] a1 rfl ?_ ?_ O (by unfold YO;omega) O (by simp;omega) (a.heap.size+1) Y ?_
 .intro a8 a9 k
  match a8,k with
  |0,k=>simp at k;subst k;simp [Addr.add]
 .intro a9 x;simp at x;subst x;rfl
 .intro b1 cap b W h J _
  have w:a.grownBy b g.ownBlock:=⟨h.os,h.tape,h.output,by have:=h.size;simp at this;omega,λr p R=>(h.block r (by simp;omega) R).trans (heap_alloc_old a _ p)⟩;refine C _ b ⟨by simpa using W,?_⟩ ((Yn c a).grown w D λr p=>(q.1.lt r p).1) w ?_
  .intro b0 f
   rcases List.mem_append.1 f with f|f
   .exact q.2 b0 f
   .simp at f;rw [f];exact a2
  .rcases J with n|n
   .left;rw [n];rfl
   .right;rw [n];rfl
structure yP(w:V)(B:Nat)(v:Z)(xs:List Int)(u:Z)(ys:List Int):Prop where
 one:aa w B v xs
 two:aa w B u ys
 vu:v.ownBlock=I∨v.ownBlock≠u.ownBlock
 uv:u.ownBlock=I∨u.ownBlock≠v.ownBlock
theorem yP.ext{b i:V}{c:Nat}{h g:Z}{j k:List Int}(a:yP b c h j g k)(f:X b b i):yP i c h j g k:=⟨a.one.ext f,a.two.ext f,a.vu,a.uv⟩
theorem yP.nil(b:V)(a:Nat):yP b a (U I 0 0) [] (U I 0 0) []:=⟨aa.nil _ _,aa.nil _ _,Yg rfl,Yg rfl⟩
theorem yP.swap{g:V}{b:Nat}{f c:Z}{h i:List Int}(a:yP g b f h c i):yP g b c i f h:=⟨a.two,a.one,a.uv,a.vu⟩
theorem yP.app{g k:V}{h:Nat}{v f v':Z}{q n o:List Int}(c:yP g h v q f n)(p:aa k h v' o)(j:g.grownBy k v.ownBlock)(m:v.ownBlock=v'.ownBlock∨v'.ownBlock=K (g.heap.size+1)):
  yP k h v' o f n:=by
 have l:∀b,f.ownBlock=K b->b<g.heap.size:=λb j=>(c.two.1.lt b j).2
 refine⟨p,c.two.Oc j c.uv,?_,?_⟩
 .rcases m with a|a
  .rw [<-a];exact c.vu
  .right;rw [a];intro i;have:=l _ i.symm;omega
 .rcases m with a|a
  .rw [<-a];exact c.uv
  .cases hu:f.ownBlock with
   |none=>exact Yg rfl
   |some b=>right;rw [a];intro i;have:=l b hu;simp at i;omega
end
end Go.Proofs.YtajkpgaheechmaaGreatDoor
