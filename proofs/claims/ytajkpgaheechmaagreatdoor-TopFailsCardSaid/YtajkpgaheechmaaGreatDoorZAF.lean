/- DiskM DiskP DiskR DiskA DiskB DiskC DiskD DiskI DiskE DiskF DiskG DiskH DiskU -/
import Derived.Test.YtajkpgaheechmaaGreatDoorZAE
import Derived.Maps.OwnSet
import Derived.Maps.OwnOps
import Derived.Maps.RangeWalk
import Derived.Sort.KeysCollected
import Derived.StringKeys
import Derived.Deep.RegionLaw
import Derived.Shelf.SlMaps.Clone
import Derived.Laws.Cover1
import Derived.Sort.OwnSorted
set_option maxRecDepth 100000
set_option maxHeartbeats 16000000
set_option linter.unusedSimpArgs false
set_option linter.unusedVariables false
set_option linter.unusedSectionVars false
namespace Go.Proofs.YtajkpgaheechmaaGreatDoor
open _root_.Go.Proofs.Tryz
open Go.Value renaming int->A,slice->U,pointer->Q,nilIface->Ya,string->Yb,agg->Yc,tuple->Ye,ownBlock->YT
open Go.IntKind renaming i64->G,u8->Yf,wrap->Zc
open Option renaming none->I,some->K
open Go.Obj renaming cells->M
open Go.Ending renaming returned->e
open Go renaming World->V,Value->Z,Calls->d,run_callFunc_extern->YB,maxLen->YO
open Go.RowKit renaming Below->X
open Or renaming inl->Yg,inr->Yh
open Go.World renaming ownsRow_nil->YC,size_alloc->YN
open Nat renaming le_refl->Yk,le_trans->Yl,zero_le->Yr,lt_of_lt_of_le->Yv
open Go.RowKit.Below renaming heap_setCell->Yt
open List renaming getD_eq_getElem?_getD->Yp,length_append->Yq,range->Za,length_singleton->Zb
open Go.IntWalk renaming i64_in->Yx
open Option.some renaming inj->YG,injEq->YQ
open And renaming intro->YI
open Go.Instr renaming lookup->YY
section
open Go.RowKit
abbrev Bs:=List UInt8
abbrev NM:=List (Bs×Nat)
def mN(a:Bs×Nat):Lit×DataW Unit:=(.string a.1,.lit (.int G a.2))
def pz(a:NM):List (Lit×DataW Unit):=a.map mN
def ui(a:NM):DataW Unit:= .map (pz a)
def bT(b:NM)(a:Bs):Option Nat:=(b.find? λc=>c.1==a).map (·.2)
def ow(a:Bs×Nat):NM->NM
 |[]=>[a]
 |b::c=>if bytesBefore a.1 b.1 then a::b::c else b::ow a c
def nK(b:NM)(a:Bs):NM:=b.filter λc=>!(c.1==a)
def sE(b:NM)(a:Bs)(c:Nat):NM:=ow (a,c) (nK b a)
theorem xP(a:Bs×Nat):∀f:NM,DataW.insert (mN a) (pz f)=pz (ow a f)
 |[]=>rfl
 |c::g=>by
  have h:=xP a g
  show(if (mN a).1.before (mN c).1 then _ else _)=_
  unfold ow
  show(if bytesBefore a.1 c.1 then _ else _)=_
  by_cases b:bytesBefore a.1 c.1=true
  .rw [if_pos b,if_pos b];rfl
  .rw [if_neg b,if_neg b]
   show mN c::DataW.insert (mN a) (pz g)=_
   rw [h];rfl
theorem xO(b:NM)(a:Bs):(pz b).filter (λc=>!c.1.sameKey (.string a))=pz (nK b a):=by
 unfold pz nK;rw [List.filter_map];rfl
theorem Ja(b:NM)(a:Bs):(ui b).del (.string a)=ui (nK b a):=by
 show DataW.map _=DataW.map _
 rw [xO]
theorem Jc(c:NM)(a:Bs)(b:Nat):(ui c).put (.string a) (.lit (.int G b))=ui (sE c a b):=by
 show DataW.map (DataW.insert (mN (a,b)) _)=DataW.map _
 rw [xO,xP];rfl
theorem xS(c:NM)(b:Bs):(pz c).find? (λa=>a.1.sameKey (.string b))=(c.find? λa=>a.1==b).map mN:=by
 unfold pz;rw [List.find?_map];rfl
theorem Hr(b:NM)(a:Bs):(ui b).atKey (.string a) (.lit (.int G 0))= .lit (.int G (((bT b a).getD 0:Nat):Int)):=by
 unfold ui DataW.atKey;simp only;rw [xS];unfold bT
 cases b.find? λc=>c.1==a<;>rfl
theorem Jb(c:NM)(b:Bs):Maps.has (ui c) (.string b)=(bT c b).isSome:=by
 show(pz c).any (λa=>a.1.sameKey (.string b))=_
 have f:(pz c).any (λa=>a.1.sameKey (.string b))=((pz c).find? λa=>a.1.sameKey (.string b)).isSome:=by rw [Bool.eq_iff_iff];simp
 rw [f,xS];unfold bT
 cases c.find? λa=>a.1==b<;>rfl
theorem rI(a:NM):Maps.size (ui a)=a.length:=by simp [ui,pz,Maps.size]
theorem vT(c:NM)(a:Bs):bT (nK c a) a=I:=by
 unfold bT nK;rw [Option.map_eq_none_iff,List.find?_eq_none];intro f b;have:=(List.mem_filter.1 b).2
 simpa using this
theorem jV(f:NM){c a:Bs}(g:a≠c):bT (nK f c) a=bT f a:=by
 unfold bT nK;congr 1;rw [List.find?_filter];congr 1;funext p;by_cases b:p.1=a
 .subst b;simp [g]
 .simp [b]
theorem nB{x:Bs×Nat}{a:Bs}(b:x.1≠a):∀f:NM,(ow x f).find? (λc=>c.1==a)=f.find? (λc=>c.1==a)
 |[]=>by simp [ow,b]
 |h::g=>by
  unfold ow;split
  .rw [List.find?_cons,show(x.1==a)=false from by simpa using b]
  .rw [List.find?_cons,List.find?_cons,nB b g]
theorem od{x:Bs×Nat}:∀b:NM,(∀a∈b,a.1≠x.1)->(ow x b).find? (λa=>a.1==x.1)=K x
 |[],_=>by simp [ow]
 |c::g,h=>by
  unfold ow;split
  .simp
  .rw [List.find?_cons,show(c.1==x.1)=false from by simpa using h c Y]
   exact od g λa f=>h a (by simp [f])
theorem ou(f:NM)(a:Bs)(b:Nat):bT (sE f a b) a=K b:=by
 unfold bT sE;rw [od (x:=(a,b)) _ (λg c=>by have:=(List.mem_filter.1 c).2;simpa using this)];rfl
theorem tM(c:NM){a b:Bs}(g:Nat)(f:b≠a):bT (sE c a g) b=bT c b:=by
 unfold sE;rw [<-jV c f];unfold bT;rw [nB (x:=(a,g)) (λh=>f h.symm)]
theorem s'(b:Bs×Nat):∀a:NM,(ow b a).length=a.length+1
 |[]=>rfl
 |f::c=>by
  unfold ow;split
  .rfl
  .simp [s' b c]
theorem oh(a:NM)(b:Bs):(nK a b).length<=a.length:=List.length_filter_le _ _
theorem td(a:NM)(b:Bs)(c:Nat):(sE a b c).length<=a.length+1:=by
 unfold sE;rw [s'];have:=oh a b;omega
theorem Cc{c b:Bs×Nat}:∀{m:NM},b∈ow c m↔b=c∨b∈m
 |[]=>by simp [ow]
 |g::f=>by
  unfold ow;split
  .simp
  .rw [List.mem_cons,Cc (m:=f),List.mem_cons]
   constructor
   .rintro(a|a|a)
    .exact Yh (Yg a)
    .exact Yg a
    .exact Yh (Yh a)
   .rintro(a|a|a)
    .exact Yh (Yg a)
    .exact Yg a
    .exact Yh (Yh a)
theorem ri{f:NM}{c:Bs}{g:Nat}{b:Bs×Nat}(a:b∈sE f c g):b=(c,g)∨b∈f:=by
 rcases Cc.1 a with a|a
 .exact Yg a
 .exact Yh (List.mem_filter.1 a).1
theorem rh{a:NM}{f:Bs}{b:Bs×Nat}(c:b∈nK a f):b∈a:=(List.mem_filter.1 c).1
theorem jF{g:NM}{f:Bs}{h:Nat}(b:bT g f=K h):(f,h)∈g:=by
 unfold bT at b;obtain⟨j,c,rfl⟩:=Option.map_eq_some_iff.1 b;have a:=List.find?_some c;have i:=List.mem_of_find?_eq_some c;simp only [beq_iff_eq] at a;obtain⟨k,l⟩:=j;simp only at a;subst a;exact i
theorem qj:Maps.Keyed prog 9:=Maps.string_keyed underlying9
theorem Sb(a:V):(zeroValue 3).run prog a= .ok (A G 0) a:=B
def aR(c:V)(b:Nat)(a:NM):Prop:=c.ownsMap prog 9 (plainElem prog 3) b a.length (ui a)
theorem aR.of{g:V}{f m:Nat}{a:NM}(j:g.ownsMap prog 9 (plainElem prog 3) f m (ui a)):aR g f a:=by
 obtain⟨b,h,l,F,n,c⟩:=j;refine⟨b,h,l,F,?_,c⟩
 have i:(pz a).length=b.size:=by
  have k:pz a=(b.toList.map (WideElems.rg prog 9 (plainElem prog 3))).foldr DataW.insert []:=by
   unfold ui at c;exact DataW.map.inj c
  rw [k,length_sorted];simp
 rw [<-i];simp [pz]
theorem aR.lt{b:V}{a:Nat}{f:NM}(c:aR b a f):a<b.heap.size:=World.ownsMap.lt c
theorem aR.kept{c f:V}{a:Nat}{b:NM}{row:Option Nat}(g:aR c a b)(h:c.grownBy f row)(i:K a≠row):aR f a b:=World.ownsMap.kept g h i
theorem aR.ext{c f:V}{a:Nat}{b:NM}(i:aR c a b)(l:f.heap[a]? =c.heap[a]?):aR f a b:=by
 obtain⟨h,g,j,k⟩:=i;exact⟨h,g,l.trans j,k⟩
theorem KI{a:Bs}(b:a.length<=YO):keyOf prog 9 (Yb ⟨a.toArray⟩)=K (.string a):=by
 have:=Go.WideMaps.keyOf_string_mk (P:=prog) (k:=9) underlying9 (s:=⟨a.toArray⟩) (by simpa [ByteArray.size] using b)
 simpa using this
theorem Wa{a:Nat}(b:a<=9223372036854775807):(Lit.int G (a:Int)).wf=true:=WalkArith.wf_i64 O
theorem aR.look{b:V}{g:Nat}{f:NM}(h:aR b g f){a:Bs}(j:a.length<=YO):
  (YY 123 (.map (K g)) (Yb ⟨a.toArray⟩) true).run prog b= .ok (Ye #[A G (((bT f a).getD 0:Nat):Int),.bool (bT f a).isSome]) b:=by
 obtain⟨n,m,i,k⟩:=World.ownsMap.look_ok h qj underlying123 (Sb b) (plainElem_int underlying3 H) (KI j);obtain⟨l,rfl,c, -⟩:=plainElem_int_inv underlying3 k;rw [Hr] at c;simp only [Prod.mk.injEq,DataW.lit.injEq,Lit.int.injEq,true_and] at c;rw [i,Jb,<-c.1]
theorem aR.mu{w:V}{c:Nat}{f:NM}(g:aR w c f){b:Bs}(i:b.length<=YO):
  (YY 123 (.map (K c)) (Yb ⟨b.toArray⟩) false).run prog w= .ok (A G (((bT f b).getD 0:Nat):Int)) w:=by
 obtain⟨j,h,a, -⟩:=World.ownsMap.lookup_int g qj underlying123 underlying3 (Sb w) (KI i);rw [Hr] at a;simp only [DataW.lit.injEq,Lit.int.injEq,true_and] at a;rw [h,<-a]
theorem aR.count{a:V}{b:Nat}{c:NM}(g:aR a b c)(f:TypeId):(Builtin.len_ #[123] f #[.map (K b)]).run prog a= .ok (A G (c.length:Int)) a:=by
 rw [World.ownsMap.len g underlying123 f,rI]
end
section
structure DF where
 data:Bs
 safe:Nat
def DF.ae:DF:=⟨[],0⟩
structure kY where
 kind:Nat
 name:Bs
 to:Bs
 file:Nat
structure DS where
 room:Int
 all:List DF
 names:NM
 safe:NM
 steps:List kY
 c_:Int
 down:Bool
 done:Int
def DS.file(a:DS)(b:Nat):DF:=a.all.getD b DF.ae
def dZ(a:Int):DS:=⟨a,[],[],[],[],0,false,0⟩
def dF(a:Bs):Bool:=!a.isEmpty&&decide (a.length<=24)
def nU(a:DS):Int:=if 0<a.c_ then a.c_ - 1 else a.c_
def fj(a:DS):Bool:=if 0<a.c_ then a.c_ - 1==0 else a.down
def cI(a:DS):DS:={a with c_:=nU a,down:=fj a,done:=a.done+1}
def b_(a:DS)(b:Int):Int:=if a.down then 10 else if b≠0 then b else if fj a then 10 else 0
def cq(a:DS)(b:Int):DS:=if a.down then a else if b≠0 then a else cI a
def ba(b:DS)(a:Bs):Int:=if dF a then (if (bT b.names a).isSome then 0 else 7) else 6
def aM(a:NM)(b:Bs):Nat:=(bT a b).getD 0
def eT(b:NM)(a:kY):NM:=
 if a.kind=0 then sE b a.name a.file else if a.kind=1 then sE (nK b a.name) a.to (aM b a.name) else nK b a.name
def ja(a:DS)(b:kY):DS:={a with names:=eT a.names b,steps:=a.steps++[b]}
def bU(a:DS)(b:Bs):Int:=if dF b then (if (bT a.names b).isSome then 8 else if 64<=a.names.length then 5 else 0) else 6
def br(a:DS)(b:Bs):DS:=
 if b_ a (bU a b)=0 then ja {cq a (bU a b) with all:=a.all++[DF.ae]} ⟨0,b,[],a.all.length⟩ else cq a (bU a b)
def dy(c:List DF)(b:Nat)(a:DF):List DF:=c.set b a
def cK(a:NM):List Bs:=a.map λb=>b.1
def iJ(a:DS)(b:Bs):Nat:=(a.file (aM a.names b)).data.length
def fD(a:DS):Nat:=((cK a.names).map (iJ a)).sum
def iN(a:DS)(c b:Bs):Int:=if a.down then 10 else if ba a c≠0 then ba a c else if b≠[]/\a.room - fD a<b.length then 9 else 0
def gf(a:DS)(c b:Bs):Int:=if iN a c b≠0 then iN a c b else if fj a then 10 else 0
def tH(a:DS)(c b:Bs):DF:=⟨(a.file (aM a.names c)).data++(if fj a then b.take (b.length / 2) else b),(a.file (aM a.names c)).safe⟩
def du(a:DS)(b c:Bs):DS:=
 if iN a b c≠0 then a else {cI a with all:=dy a.all (aM a.names b) (tH a b c)}
def fQ(a:DS)(b:Bs):Int:=b_ a (ba a b)
def wK(a:DS)(b:Bs):DF:=⟨(a.file (aM a.names b)).data,(a.file (aM a.names b)).data.length⟩
def cV(a:DS)(b:Bs):DS:=
 if fQ a b=0 then {cI a with all:=dy a.all (aM a.names b) (wK a b)} else cq a (ba a b)
def tu(a:DS)(b c:Bs):Int:=if dF c then ba a b else 6
def oC(a:DS)(b c:Bs):Int:=b_ a (tu a b c)
def gO(a:DS)(b c:Bs):DS:=if oC a b c=0 then ja (cI a) ⟨1,b,c,0⟩ else cq a (tu a b c)
def xm(a:DS)(b:Bs):Int:=b_ a (ba a b)
def jK(a:DS)(b:Bs):DS:=if xm a b=0 then ja (cI a) ⟨2,b,[],0⟩ else cq a (ba a b)
def jY(a:DS):Int:=b_ a 0
def dG(a:DS):DS:=if jY a=0 then {cI a with safe:=a.names,steps:=[]} else cq a 0
def eh(a:DS)(b:Bs):Int:=if a.down then 10 else ba a b
def cy(a:DS)(b:Bs):Bs:=if eh a b=0 then (a.file (aM a.names b)).data else []
def qC(a:DS)(b:Int):DS:=if a.down then a else {a with c_:=max b 0}
def kP(b:List Int)(a c:Nat):Nat:=if a<b.length/\0<=b.getD a 0 then (b.getD a 0).toNat%(c+1) else 0
def vE(a:DS):List Nat:=((cK a.safe).map (aM a.safe))++((a.steps.filter λb=>b.kind==0).map λb=>b.file)
def dD(a:DS):List Nat:=(vE a).mergeSort λb c=>decide (b<=c)
def tI(c:List Int)(b:Nat)(a:DF):DF:=
 if a.safe<a.data.length then ⟨a.data.take (a.safe+kP c b (a.data.length - a.safe)),(a.data.take (a.safe+kP c b (a.data.length - a.safe))).length⟩ else ⟨a.data,a.data.length⟩
def yZ(b:Nat)(a:DF):Nat:=if a.safe<a.data.length then b+1 else b
def ny(b:List Int):List Nat->List DF->Nat->List DF
 |[],l,_=>l
 |a::c,l,i=>ny b c (dy l a (tI b i (l.getD a DF.ae))) (yZ i (l.getD a DF.ae))
def jk(a:DS)(b:List Int):NM:=(a.steps.take (kP b 0 a.steps.length)).foldl eT a.safe
def jS(a:DS)(b:List Int):DS:=
 ⟨a.room,ny b (dD a) a.all 1,jk a b,jk a b,[],0,false,0⟩
theorem cB(a:List DF)(c:Nat)(b:DF):(dy a c b).length=a.length:=List.length_set
theorem dA(c:List DF)(b a:Nat)(g:DF):(dy c b g).getD a DF.ae=if b=a/\a<c.length then g else c.getD a DF.ae:=by
 unfold dy;rw [Yp,List.getElem?_set];by_cases h:b=a
 .subst h
  by_cases f:b<c.length
  .simp [f]
  .simp [f,Yp,List.getElem?_eq_none (Nat.le_of_not_lt f)]
 .simp [h,Yp]
theorem iT(f:List Int):∀(b:List Nat) (a:List DF) (c:Nat),(ny f b a c).length=a.length
 |[],_,_=>rfl
 |g::b,a,c=>by unfold ny;rw [iT f b,cB]
end
section
open Go.RowKit
theorem ju{b:Nat->List Z}{c:Nat}(f:∀g,(b g).length=c)(a:Nat):((Za a).flatMap b).length=a*c:=by
 induction a with
 |zero=>simp
 |succ a h=>rw [List.range_succ,List.flatMap_append,Yq,h,List.flatMap_cons,List.flatMap_nil,List.append_nil,f,Nat.succ_mul]
theorem dz{f:Nat->List Z}{m:Nat}(i:∀j,(f j).length=m)(b:Nat){a c:Nat}(n:a<b)(l:c<m):((Za b).flatMap f)[a*m+c]? =(f a)[c]?:=by
 induction b with
 |zero=>omega
 |succ b k=>
  rw [List.range_succ,List.flatMap_append,List.flatMap_cons,List.flatMap_nil,List.append_nil];have h:=ju i b
  rcases Nat.lt_or_ge a b with g|g
  .rw [List.getElem?_append_left (by rw [h];exact Yv (show a*m+c<(a+1)*m by rw [Nat.succ_mul];omega) (Nat.mul_le_mul_right m g))]
   exact k g
  .obtain rfl:a=b:=O
   rw [List.getElem?_append_right (by rw [h];omega),h,Nat.add_sub_cancel_left]
theorem mL{c f:Nat->List Z}{b:Nat}(g:∀a,a<b->c a=f a):(Za b).flatMap c=(Za b).flatMap f:=by
 rw [List.flatMap_def,List.flatMap_def];congr 1
 exact List.map_congr_left λa h=>g a (by simpa using h)
theorem uP{j k:Nat->List Z}{m f a c:Nat}{x:Z}(l:∀a,(j a).length=m)(r:∀a,(k a).length=m)(z:a<f)(q:c<m)(w:k a=(j a).set c x)(D:∀p,p≠a->k p=j p):
  ((Za f).flatMap j).set (a*m+c) x=(Za f).flatMap k:=by
 refine List.ext_getElem? λb=>?_
 rw [List.getElem?_set];have u:0<m:=O;have C:=Nat.div_add_mod b m;have v:=Nat.mod_lt b u
 have h:b=b / m*m+b%m:=by rw [Nat.mul_comm];exact C.symm
 have J:a*m+c<f*m:=Yv (show a*m+c<(a+1)*m by rw [Nat.succ_mul];omega) (Nat.mul_le_mul_right m z);by_cases t:b / m<f
 .have n:=dz l f t v
  have i:=dz r f t v;rw [<-h] at n i;by_cases g:b / m=a
  .by_cases o:b%m=c
   .have:a*m+c=b:=by rw [h,g,o]
    rw [if_pos this,if_pos (by rw [ju l];omega),i,g,o,w];rw [List.getElem?_set];simp [l a,q]
   .have:a*m+c≠b:=by rw [h,g];omega
    rw [if_neg this,n,i,g,w,List.getElem?_set,if_neg (λh=>o h.symm)]
  .have:a*m+c≠b:=by
    intro y;apply g;rw [<-y,Nat.mul_comm,Nat.mul_add_div u,Nat.div_eq_of_lt q,Nat.add_zero]
   rw [if_neg this,n,i,D _ g]
 .have s:f*m<=b:=by
   have F:f*m<=b / m*m:=Nat.mul_le_mul_right m O;omega
  rw [if_neg O,List.getElem?_eq_none (by rw [ju l];exact s),List.getElem?_eq_none (by rw [ju r];exact s)]
def ak(a:Bs):List Z:=a.map λb=>A Yf (b.toNat:Int)
def uY(b:List DF)(c:List Z)(a:Nat):List Z:=[c.getD a Ya,A G ((b.getD a DF.ae).safe:Int)]
def fe(a:List DF)(b:List Z):List Z:=(Za a.length).flatMap (uY a b)
def PC(b:List kY)(a:Nat):List Z:=[A G ((b.getD a ⟨0,[],[],0⟩).kind:Int),Yb ⟨(b.getD a ⟨0,[],[],0⟩).name.toArray⟩,Yb ⟨(b.getD a ⟨0,[],[],0⟩).to.toArray⟩,A G ((b.getD a ⟨0,[],[],0⟩).file:Int)]
def jr(a:List kY):List Z:=(Za a.length).flatMap (PC a)
structure bY where
 va:Z
 vs:Z
 bn:Nat
 bs:Nat
 fv:List Z
def bY.at(a:bY)(j:Nat):Z:=a.fv.getD j Ya
def e_(b:bY)(a:DS):Array Z:=#[A G a.room,b.va,.map (K b.bn),.map (K b.bs),b.vs,A G a.c_,.bool a.down,A G a.done]
def bY.has(a:bY)(f:Nat)(b:Nat):Prop:=b=f∨a.va.ownBlock=K b∨a.vs.ownBlock=K b∨b=a.bn∨b=a.bs∨∃c,c<a.fv.length/\(a.at c).ownBlock=K b
structure DP(w:V)(p:Nat)(L:bY)(D:DS):Prop where
 ay:ai w p (e_ L D) 126
 all:w.ownsRow 0 129 2 L.va D.all.length (fe D.all L.fv)
 len:L.fv.length=D.all.length
 jl:∀j,j<D.all.length->w.ownsRow 0 5 1 (L.at j) (D.file j).data.length (ak (D.file j).data)
 apart:∀i j k,i<D.all.length->j<D.all.length->i≠j->(L.at i).ownBlock=K k->(L.at j).ownBlock≠K k
 gI:aR w L.bn D.names
 rN:aR w L.bs D.safe
 ne:L.bn≠L.bs
 lJ:w.ownsRow 0 131 4 L.vs D.steps.length (jr D.steps)
structure af(F:Nat->Prop)(w w':V):Prop where
 os:w'.os=w.os
 tape:w'.tape=w.tape
 output:w'.output=w.output
 size:w.heap.size<=w'.heap.size
 block:∀k,k<w.heap.size->¬F k->w'.heap[k]? =w.heap[k]?
theorem af.refl(F:Nat->Prop)(a:V):af F a a:=⟨rfl,rfl,rfl,Yk _,λ_ _ _=>rfl⟩
theorem af.aj{F:Nat->Prop}{b c:V}(a:X b b c):af F b c:=⟨a.os,a.tape,a.output,a.size,λg f _=>a.block g f⟩
theorem af.below{F:Nat->Prop}{B:Nat}{c f:V}(a:af F c f)(h:∀b,F b->B<=b)(g:B<=c.heap.size):X B c f:=
 ⟨a.os,a.tape,a.output,a.size,λb j=>a.block b (Yv j g) λi=>absurd (h b i) O⟩
theorem af.mono{F f:Nat->Prop}{c h:V}(b:af F c h)(i:∀a,a<c.heap.size->F a->f a):af f c h:=⟨b.os,b.tape,b.output,b.size,λa g k=>b.block a g λj=>k (i a g j)⟩
theorem af.trans{F:Nat->Prop}{f b g:V}(a:af F f b)(c:af F b g):af F f g:=
 ⟨c.os.trans a.os,c.tape.trans a.tape,c.output.trans a.output,Yl a.size c.size,λj h i=>(c.block j (Yv h a.size) i).trans (a.block j h i)⟩
theorem af.grown{c w':V}{row:Option Nat}{F:Nat->Prop}(a:c.grownBy w' row)(g:∀b,row=K b->F b):af F c w':=
 ⟨a.os,a.tape,a.output,a.size,λb h i=>a.block b h λf=>i (g b f.symm)⟩
theorem cW{j:V}{f k b c p o:Nat}{i:Z}{l:Array Z}{q:List Z}(h:ai j f l b)(m:j.ownsRow k c p i o q)(n:b≠c):i.ownBlock≠K f:=by
 rcases m.2 with⟨rfl,_⟩|⟨s,cap,r,rfl,_,a,_⟩
 .simp [YT]
 .intro g
  simp only [YT,YQ] at g;subst g;unfold ai at h;rw [h] at a;simp only [YQ,Obj.cells.injEq] at a;exact n a.2.1
theorem fF{g:V}{a h i o n:Nat}{f:Z}{m:NM}{p:List Z}(j:aR g a m)(k:g.ownsRow h i o f n p):f.ownBlock≠K a:=by
 rcases k.2 with⟨rfl,_⟩|⟨t,cap,r,rfl,_,c,_⟩
 .simp [YT]
 .intro b
  simp only [YT,YQ] at b;subst b;obtain⟨s,q,l,_⟩:=j;rw [l] at c;cases c
theorem oU{f:V}{b c g:Nat}{h:Array Z}{l:NM}(j:aR f b l)(a:ai f c h g):b≠c:=by
 intro i;subst i;obtain⟨n,m,k,_⟩:=j;unfold ai at a;rw [k] at a;cases a
theorem lX{c:V}{f g k j a:Nat}{b:Z}{l:List Z}(h:c.ownsRow f g k b j l)(i:b.ownBlock=K a):a<c.heap.size:=(h.lt a i).2
theorem DP.lt{h:V}{g:Nat}{c:bY}{i:DS}(a:DP h g c i){f:Nat}(b:c.has g f):f<h.heap.size:=by
 rcases b with rfl|b|b|rfl|rfl|⟨k,j,b⟩
 .exact a.ay.lt
 .exact lX a.all b
 .exact lX a.lJ b
 .exact a.gI.lt
 .exact a.rN.lt
 .exact lX (a.jl k (by rw [<-a.len];exact j)) b
theorem an{w w':V}{f g k j:Nat}{c:Z}{l:List Z}(a:w.ownsRow f g k c j l)(o:∀b,c.ownBlock=K b->w'.heap[b]? =w.heap[b]?):w'.ownsRow f g k c j l:=by
 obtain⟨i,a|⟨h,cap,m,rfl,n,p,q⟩⟩:=a
 .exact⟨i,Yg a⟩
 .exact⟨i,Yh ⟨h,cap,m,rfl,n,by rw [o h rfl];exact p,q⟩⟩
theorem ai.bS{f g:V}{a:Nat}{c:Array Z}{b:Nat}(h:ai f a c b)(i:g.heap[a]? =f.heap[a]?):ai g a c b:=by
 unfold ai at*;rw [i];exact h
theorem DP.stays{l w':V}{g:Nat}{h:bY}{i:DS}(a:DP l g h i)(c:∀b,h.has g b->w'.heap[b]? =l.heap[b]?):DP w' g h i where
 ay:=a.ay.bS (c g (Yg rfl))
 all:=an a.all λb f=>c b (Yh (Yg f))
 len:=a.len
 jl:=λk j=>an (a.jl k j) λb f=>c b (Yh (Yh (Yh (Yh (Yh ⟨k,by rw [a.len];exact j,f⟩)))))
 apart:=a.apart
 gI:=a.gI.ext (c _ (Yh (Yh (Yh (Yg rfl)))))
 rN:=a.rN.ext (c _ (Yh (Yh (Yh (Yh (Yg rfl))))))
 ne:=a.ne
 lJ:=an a.lJ λb f=>c b (Yh (Yh (Yg f)))
end
section
open Go.RowKit Go.Extern.Stop Go.Stop Go.Extern
theorem DP.others{i:V}{c:Nat}{b:bY}{g:DS}(a:DP i c b g):b.va.ownBlock≠K c/\b.vs.ownBlock≠K c/\b.bn≠c/\b.bs≠c/\∀f,f<g.all.length->(b.at f).ownBlock≠K c:=
 ⟨cW a.ay a.all H,cW a.ay a.lJ H,oU a.gI a.ay,oU a.rN a.ay,λf h=>cW a.ay (a.jl f h) H⟩
theorem DP.scalars{n w':V}{j:Nat}{k:bY}{c D':DS}(a:DP n j k c)(o:ai w' j (e_ k D') 126)(i:∀b,b≠j->w'.heap[b]? =n.heap[b]?)
  (g:D'.all=c.all)(q:D'.names=c.names)(r:D'.safe=c.safe)(s:D'.steps=c.steps):DP w' j k D':=by
 obtain⟨t,u,v,w,x⟩:=a.others
 have p:D'.file=c.file:=by funext l;unfold DS.file;rw [g]
 refine⟨o,?_,by rw [g];exact a.len,?_,by rw [g];exact a.apart,?_,?_,a.ne,?_⟩
 .rw [g];exact an a.all λb h=>i b λf=>t (f▸h)
 .rw [g,p]
  exact λl m=>an (a.jl l m) λb h=>i b λf=>x l m (f▸h)
 .rw [q];exact a.gI.ext (i _ v)
 .rw [r];exact a.rN.ext (i _ w)
 .rw [s];exact an a.lJ λb h=>i b λf=>u (f▸h)
theorem bL(b:V)(c o:Nat)(f:Z):∀a,a≠c->(b.setCell ⟨c,o,I⟩ f).heap[a]? =b.heap[a]?:=λa g=>Yt b _ f a g
theorem bD(b:V)(a o:Nat)(c:Z):b.grownBy (b.setCell ⟨a,o,I⟩ c) (K a):=
 ⟨rfl,rfl,rfl,Y,λh _ g=>bL b a o c h λf=>g (by rw [f])⟩
theorem DP.cell{c:V}{p:Nat}{b:bY}{a:DS}(f:DP c p b a)(o:Nat):c.cell? ⟨p,o,I⟩=(e_ b a)[o]?:=ai.cell f.ay o
theorem DP.free{b:V}{a:Nat}{f:bY}{c:DS}(g:DP b a f c)(o:Nat):b.frozen? ⟨a,o,I⟩=false:=ai.free g.ay o
theorem sy(c:Bs)(f:c.length<=YO)(i:V):d prog 151 #[Yb ⟨c.toArray⟩] i λl n=>l=e (.bool (dF c))/\i=n:=by
 unfold YO at f
 cases c with
 |nil=>
  go_enter func151,ntmps151;go_wp2;go_ret;exact⟨rfl,rfl⟩
 |cons j h=>
  have m:(j::h).length<=9223372036854775807:=f;obtain⟨a,b⟩:∃a,a=j::h:=⟨_,rfl⟩
  have q:¬a=[]:=by rw [b];simp
  have g:a.isEmpty=false:=by rw [b];rfl
  have p:(!a.isEmpty)=true:=by rw [g];rfl
  have k:=E g;rw [<-b] at m⊢;clear f b;go_enter func151,ntmps151;go_wp2;go_ret;exact⟨by unfold dF;rw [k.o];first|rfl|(simp;done)|(simp;omega),rfl⟩
theorem n_(c:Nat)(f:bY)(a:DS)(g:V)(b:DP g c f a)(w:0<=a.done)(x:a.done<=1000000000)(v:a.c_<=9223372036854775807):
  d prog 156 #[Q (K c)] g λh n=>h=e (.bool (fj a))/\DP n c f (cI a)/\g.grownBy n (K c):=by
 have k:=E b;have p:g.cell? ⟨c,5,I⟩=K (A G a.c_):=b.cell 5;have q:g.cell? ⟨c,6,I⟩=K (.bool a.down):=b.cell 6;have r:g.cell? ⟨c,7,I⟩=K (A G a.done):=b.cell 7;have s:=b.free 5;have t:=b.free 6;have u:=b.free 7;have z:Zc G (a.done+1)=a.done+1:=Yx _ O;clear b;by_cases l:0<a.c_
 .have y:Zc G (a.c_ - 1)=a.c_ - 1:=Yx _ O
  go_enter func156,ntmps156;go_wp2;go_returns;refine⟨by unfold fj;rw [if_pos l];rfl,?_,?_⟩
  .have h:e_ f (cI a)=(((e_ f a).setIfInBounds 7 (A G (a.done+1))).setIfInBounds 5 (A G (a.c_ - 1))).setIfInBounds 6 (.bool (a.c_ - 1==0)):=by simp [e_,cI,nU,fj,l]
   refine k.o.scalars (by rw [h];exact(((k.o.ay.set 7 _).set 5 _).set 6 _)) ?_ rfl rfl rfl rfl;intro j i;rw [bL _ _ _ _ j i,bL _ _ _ _ j i,bL _ _ _ _ j i]
  .exact((bD _ _ _ _).trans (bD _ _ _ _)).trans (bD _ _ _ _)
 .go_enter func156,ntmps156
  go_wp2;go_returns;have m:¬0<a.c_:=O;refine⟨by unfold fj;rw [if_neg m];rfl,?_,?_⟩
  .have h:e_ f (cI a)=(e_ f a).setIfInBounds 7 (A G (a.done+1)):=by simp [e_,cI,nU,fj,m]
   refine k.o.scalars (by rw [h];exact k.o.ay.set 7 _) ?_ rfl rfl rfl rfl;intro j i;exact bL _ _ _ _ j i
  .exact bD _ _ _ _
theorem jT{a:Int}(b:a≠0):(a==0)=false:=by simpa using b
theorem Bi(h:Nat)(n:bY)(a:DS)(b:Int)(i:V)(m:DP i h n a)(w:0<=a.done)(x:a.done<=1000000000)(v:a.c_<=9223372036854775807):
  d prog 152 #[Q (K h),bj b] i λp u=>p=e (bj (b_ a b))/\DP u h n (cq a b)/\i.grownBy u (K h):=by
 have t:=E m;have l:i.cell? ⟨h,6,I⟩=K (.bool a.down):=m.cell 6;have j:=E (n_ h n a i m w x v);clear m
 cases hdn:a.down with
 |true=>
  have c:b_ a b=10:=by unfold b_;rw [if_pos hdn]
  have f:cq a b=a:=by unfold cq;rw [if_pos hdn]
  rw [c,f];rw [hdn] at l;clear c f hdn;go_enter func152,ntmps152;go_wp2;go_returns;exact⟨by rw [aT (k:=10) H];rfl,t.o,⟨rfl,rfl,rfl,Yk _,λ_ _ _=>rfl⟩⟩
 |false=>
  by_cases g:b=0
  .have c:b_ a b=if fj a then 10 else 0:=by unfold b_;rw [hdn,g];simp
   have f:cq a b=cI a:=by unfold cq;rw [hdn,g];simp
   rw [c,f];subst g;clear c f
   cases hf:fj a with
   |true=>
    rw [hf] at j;rw [if_pos rfl];rw [hdn] at l;clear hdn hf;go_enter func152,ntmps152
    go_wp2_with (go_at_call 156;refine j.o.mono ?_;rintro p y ⟨rfl,r,s⟩)
    go_returns;exact⟨by rw [aT (k:=10) H];rfl,r,s⟩
   |false=>
    rw [hf] at j;rw [if_neg H];rw [hdn] at l;clear hdn hf;go_enter func152,ntmps152
    go_wp2_with (go_at_call 156;refine j.o.mono ?_;rintro p y ⟨rfl,r,s⟩)
    go_returns;exact⟨by rw [ar];rfl,r,s⟩
  .have c:b_ a b=b:=by unfold b_;rw [hdn];simp [g]
   have f:cq a b=a:=by unfold cq;rw [hdn];simp [g]
   rw [c,f];rw [hdn] at l;have q:=jT g;have z:=E g;clear c f hdn g;go_enter func152,ntmps152;go_wp2;go_returns;exact⟨rfl,t.o,⟨rfl,rfl,rfl,Yk _,λ_ _ _=>rfl⟩⟩
theorem fK(l:Nat)(m:bY)(b:DS)(a:Bs)(p:a.length<=YO)(g:V)(j:DP g l m b):
  d prog 154 #[Q (K l),Yb ⟨a.toArray⟩] g λh i=>h=e (bj (ba b a))/\g=i:=by
 have r:g.cell? ⟨l,2,I⟩=K (.map (K m.bn)):=j.cell 2;have c:=E (sy a p g);have n:=j.gI.look p;clear j
 cases hn:dF a with
 |false=>
  rw [hn] at c
  have f:ba b a=6:=by unfold ba;rw [hn];rfl
  rw [f];clear f hn;go_enter func154,ntmps154
  go_wp2_with (go_at_call 151;refine c.o.mono ?_;rintro h i ⟨rfl,rfl⟩)
  go_returns;exact⟨by rw [aT (k:=6) H];rfl,rfl⟩
 |true=>
  rw [hn] at c
  have f:ba b a=if (bT b.names a).isSome then 0 else 7:=by unfold ba;rw [hn];rfl
  rw [f];clear f hn
  cases hg:(bT b.names a).isSome with
  |true=>
   rw [hg] at n;rw [if_pos rfl];generalize ((bT b.names a).getD 0)=q at*;clear hg;go_enter func154,ntmps154
   go_wp2_with (go_at_call 151;refine c.o.mono ?_;rintro h i ⟨rfl,rfl⟩)
   go_returns;exact⟨by rw [ar];rfl,rfl⟩
  |false=>
   rw [hg] at n;rw [if_neg H];generalize ((bT b.names a).getD 0)=q at*;clear hg;go_enter func154,ntmps154
   go_wp2_with (go_at_call 151;refine c.o.mono ?_;rintro h i ⟨rfl,rfl⟩)
   go_returns;exact⟨by rw [aT (k:=7) H];rfl,rfl⟩
def kD(a:kY):Z:=Yc #[A G (a.kind:Int),Yb ⟨a.name.toArray⟩,Yb ⟨a.to.toArray⟩,A G (a.file:Int)]
def kY.fit(a:kY):Prop:=a.name.length<=YO/\a.to.length<=YO/\a.file<=9223372036854775807
theorem RT{a:Nat}(b:a<=9223372036854775807):plainElem (H:=Unit) prog 3 (A G a)=K (.lit (.int G (a:Int)),[]):=plainElem_int underlying3 (Wa b)
theorem lA{b c:V}{o:Obj}{row:Option Nat}(a:(b.alloc o).grownBy c row):b.grownBy c row:=
 ⟨a.os,a.tape,a.output,by have:=a.size;simp at this;omega,λh f g=>(a.block h (by simp;omega) g).trans (heap_alloc_old b _ f)⟩
theorem MK(c:NM)(a:Nat)(f g:Bs)(b:Nat)(i:V)(h:aR i a c)(w:(⟨0,f,g,b⟩:kY).fit)(v:c.length<=1000000):
  d prog 74 #[.map (K a),kD ⟨0,f,g,b⟩] i λs m=>s=e (Ye #[])/\aR m a (eT c ⟨0,f,g,b⟩)/\i.grownBy m (K a):=by
 obtain⟨j,t,k⟩:=w;have x:=E h;have r:=E (KI j);have n:=E (RT k);have q:=E (show c.length<YO from by unfold YO;omega);have p:=E (h.alloc (M #[A G 0,Yb ⟨f.toArray⟩,Yb ⟨g.toArray⟩,A G b] 131));clear h j t k v;unfold kD;go_enter func74,ntmps74
 go_wp2_with (at_mapUpdate;refine wpList_mapUpdate_own _ rfl _ _ _ 123 rfl 9 3 qj underlying123 _ a _ _ rfl p.o q.o _ _ _ rfl rfl r.o _ [] n.o ?_;intro y l u)
 go_end0;refine⟨rfl,?_,?_⟩
 .rw [Jc] at l
  exact aR.of l
 .exact lA u
theorem Qa(l:NM)(a c:Nat)(t:c=2)(f g:Bs)(b:Nat)(h:V)(i:aR h a l)(u:(⟨c,f,g,b⟩:kY).fit):
  d prog 74 #[.map (K a),kD ⟨c,f,g,b⟩] h λq m=>q=e (Ye #[])/\aR m a (eT l ⟨c,f,g,b⟩)/\h.grownBy m (K a):=by
 subst t;obtain⟨j,r,s⟩:=u;have p:=E (KI j);have n:=E (i.alloc (M #[A G 2,Yb ⟨f.toArray⟩,Yb ⟨g.toArray⟩,A G b] 131));clear i j r s;unfold kD;go_enter func74,ntmps74
 go_wp2_with (at_delete;refine wpList_delete_own _ rfl _ _ 123 9 rfl 3 qj underlying123 _ a _ _ rfl n.o _ _ rfl p.o ?_;intro w k v)
 go_end0;refine⟨rfl,?_,?_⟩
 .rw [Ja] at k
  exact aR.of k
 .exact lA v.grown
theorem QU{a:NM}{n:Bs}(b:∀c∈a,c.2<=9223372036854775807):(bT a n).getD 0<=9223372036854775807:=by
 cases e:bT a n with
 |none=>simp
 |some f=>exact b _ (jF e)
theorem Qb(b:NM)(f:Nat)(a c:Bs)(h:Nat)(g:V)(j:aR g f b)(P:(⟨1,a,c,h⟩:kY).fit)(L:b.length<=1000000)(t:∀R∈b,R.2<=9223372036854775807):
  d prog 74 #[.map (K f),kD ⟨1,a,c,h⟩] g λi u=>i=e (Ye #[])/\aR u f (eT b ⟨1,a,c,h⟩)/\g.grownBy u (K f):=by
 obtain⟨k,p,F⟩:=P;have C:=E (KI k);have D:=E (KI p);have l:=E (j.alloc (M #[A G 1,Yb ⟨a.toArray⟩,Yb ⟨c.toArray⟩,A G h] 131));have a0:=aR.mu (w:=g.alloc (M #[A G 1,Yb ⟨a.toArray⟩,Yb ⟨c.toArray⟩,A G h] 131)) l.o k;have w:=E (RT (QU (n:=a) t));have y:=E (show b.length<YO from by unfold YO;omega);have x:Hd (aM b a=(bT b a).getD 0):=E rfl;have v:=E (ai.new g #[A G 1,Yb ⟨a.toArray⟩,Yb ⟨c.toArray⟩,A G h] 131);have a1:=j.lt;clear j k p F t L;generalize (bT b a).getD 0=a2 at*;unfold kD;go_enter func74,ntmps74
 go_wp2_with (first|(at_delete;refine wpList_delete_own _ rfl _ _ 123 9 rfl 3 qj underlying123 _ f _ _ rfl l.o _ _ rfl C.o ?_;intro T q s;have n:=s.grown;have m:=v.o.grown n (by intro i;simp only [YQ] at i;omega);have a3:T.cell? ⟨g,2,I⟩=K (Yb ⟨c.toArray⟩):=m.cell 2;have z:=E q;clear q m s)|(at_mapUpdate;refine wpList_mapUpdate_own _ rfl _ _ _ 123 rfl 9 3 qj underlying123 _ f _ _ rfl z.o y.o _ _ _ rfl rfl D.o _ [] w.o ?_;intro W r J))
 go_end0;refine⟨rfl,?_,?_⟩
 .rw [Ja,Jc] at r
  show aR W f (sE (nK b a) c (aM b a))
  rw [x.o];exact aR.of r
 .exact lA (n.trans J)
theorem Ii(b:NM)(a:Nat)(f:kY)(c:V)(h:aR c a b)(i:f.fit)(p:f.kind<=2)(m:b.length<=1000000)(q:∀r∈b,r.2<=9223372036854775807):
  d prog 74 #[.map (K a),kD f] c λo n=>o=e (Ye #[])/\aR n a (eT b f)/\c.grownBy n (K a):=by
 obtain⟨j,k,l,g⟩:=f
 have:j=0∨j=1∨j=2:=by simp only at p;omega
 rcases this with rfl|rfl|rfl
 .exact MK b a k l g c h i m
 .exact Qb b a k l g c h i m q
 .exact Qa b a 2 rfl k l g c h i
end
section
open Go.RowKit
theorem dQ{f:Type}{b:List f}{h c:f}{a:Nat}(g:a<b.length):(b++[h]).getD a c=b.getD a c:=by
 rw [Yp,List.getElem?_append_left g,<-Yp]
theorem cS{c:Type}{a:List c}{b f:c}:(a++[b]).getD a.length f=b:=Y
def iY(a:kY):List Z:=[A G (a.kind:Int),Yb ⟨a.name.toArray⟩,Yb ⟨a.to.toArray⟩,A G (a.file:Int)]
theorem xu(a:List kY)(b:kY):jr (a++[b])=jr a++iY b:=by
 unfold jr;rw [Yq,Zb,List.range_succ,List.flatMap_append];congr 1
 .exact mL λf c=>by unfold PC;rw [dQ c]
 .rw [List.flatMap_cons,List.flatMap_nil,List.append_nil]
  unfold PC iY;rw [cS]
theorem xa(a:List DF)(b:List Z)(f:DF)(c:Z)(h:b.length=a.length):fe (a++[f]) (b++[c])=fe a b++[c,A G (f.safe:Int)]:=by
 unfold fe;rw [Yq,Zb,List.range_succ,List.flatMap_append];congr 1
 .exact mL λi g=>by unfold uY;rw [dQ g,dQ (by rw [h];exact g)]
 .rw [List.flatMap_cons,List.flatMap_nil,List.append_nil]
  unfold uY;rw [cS,show(b++[c]).getD a.length Ya=c from by rw [<-h];exact cS]
section
variable {w w2:V} {p:Nat} {L:bY} {D:DS}
theorem cP{c f j i:Nat}{b:Z}{k:List Z}{row:Option Nat}(g:w.ownsRow c f j b i k)(l:w.grownBy w2 row)(m:∀a,b.ownBlock=K a->K a≠row):w2.ownsRow c f j b i k:=
 an g λa h=>l.block a (lX g h) (m a h)
theorem fG{j k f g t u r s:Nat}{i h:Z}{l m:List Z}(o:w.ownsRow j f t i r l)(p:w.ownsRow k g u h s m)(q:f≠g):∀c,h.ownBlock=K c->K c≠i.ownBlock:=by
 intro c b n
 rcases kQ o p q with a|a
 .rw [a] at b;cases b
 .rw [b] at a;exact a n
theorem DP.steps(a:DP w p L D){i:Z}{n:kY}(c:w.grownBy w2 L.vs.ownBlock)(m:w2.ownsRow 0 131 4 i (D.steps.length+1) (jr D.steps++iY n)):
  DP (w2.setCell ⟨p,4,I⟩ i) p {L with vs:=i} {D with steps:=D.steps++[n]}:=by
 obtain⟨q,r,s,t,u⟩:=a.others
 have l:ai w2 p (e_ L D) 126:=a.ay.grown c λb=>r b.symm
 have o:=l.set 4 i;have h:=bL w2 p 4 i;refine⟨o,?_,a.len,?_,a.apart,?_,?_,a.ne,?_⟩
 .exact an (cP a.all c (fG a.lJ a.all H)) λg f=>h g λb=>q (b▸f)
 .exact λk j=>an (cP (a.jl k j) c (fG a.lJ (a.jl k j) H)) λg f=>h g λb=>u k j (b▸f)
 .exact(a.gI.kept c λb=>fF a.gI a.lJ b.symm).ext (h _ s)
 .exact(a.rN.kept c λb=>fF a.rN a.lJ b.symm).ext (h _ t)
 .rw [Yq,Zb,xu]
  exact an m λg f=>h g λb=>cW l m H (b▸f)
theorem DP.named(a:DP w p L D){j:NM}(c:w.grownBy w2 (K L.bn))(k:aR w2 L.bn j):DP w2 p L {D with names:=j}:=by
 obtain⟨m,n,l,o,q⟩:=a.others;refine⟨a.ay.grown c λb=>l (YG b).symm,?_,a.len,?_,a.apart,k,?_,a.ne,?_⟩
 .exact cP a.all c λi f b=>fF a.gI a.all (by rw [f,YG b])
 .exact λh g=>cP (a.jl h g) c λi f b=>fF a.gI (a.jl h g) (by rw [f,YG b])
 .exact a.rN.kept c λb=>a.ne (YG b).symm
 .exact cP a.lJ c λi f b=>fF a.gI a.lJ (by rw [f,YG b])
theorem DP.made(a:DP w p L D){l:Z}(j:w.grownBy w2 L.va.ownBlock)(r:w2.ownsRow 0 129 2 l (D.all.length+1) (fe D.all L.fv++[U I 0 0,A G 0])):
  DP (w2.setCell ⟨p,1,I⟩ l) p {L with va:=l,fv:=L.fv++[U I 0 0]} {D with all:=D.all++[DF.ae]}:=by
 obtain⟨x,y,z,C,F⟩:=a.others
 have q:ai w2 p (e_ L D) 126:=a.ay.grown j λc=>x c.symm
 have s:=q.set 1 l;have k:=bL w2 p 1 l
 have t:∀b,b<D.all.length->(D.all++[DF.ae]).getD b DF.ae=D.file b:=λb h=>dQ h
 have o:∀b,b<D.all.length->(L.fv++[U I 0 0]).getD b Ya=L.at b:=λb h=>dQ (by rw [a.len];exact h)
 refine⟨s,?_,by simp [a.len],?_,?_,?_,?_,a.ne,?_⟩
 .rw [Yq,Zb,xa _ _ _ _ a.len]
  exact an r λi g=>k i λc=>cW q r H (c▸g)
 .intro b h
  rw [Yq,Zb] at h;unfold DS.file bY.at
  rcases Nat.lt_or_ge b D.all.length with f|f
  .rw [t b f,o b f]
   exact an (cP (a.jl b f) j (fG a.all (a.jl b f) H)) λi g=>k i λc=>F b f (c▸g)
  .obtain rfl:b=D.all.length:=O
   rw [cS,show(L.fv++[U I 0 0]).getD D.all.length Ya=U I 0 0 from by rw [<-a.len];exact cS];exact YC _ _ _ 1
 .intro m b i u h v g
  rw [Yq,Zb] at u h;unfold bY.at at*
  rcases Nat.lt_or_ge m D.all.length with f|f
  .rcases Nat.lt_or_ge b D.all.length with n|n
   .rw [o m f] at g
    rw [o b n];exact a.apart m b i f n v g
   .obtain rfl:b=D.all.length:=O
    rw [show(L.fv++[U I 0 0]).getD D.all.length Ya=U I 0 0 from by rw [<-a.len];exact cS];simp [YT]
  .obtain rfl:m=D.all.length:=O
   rw [show(L.fv++[U I 0 0]).getD D.all.length Ya=U I 0 0 from by rw [<-a.len];exact cS] at g;simp [YT] at g
 .exact(a.gI.kept j λc=>fF a.gI a.all c.symm).ext (k _ z)
 .exact(a.rN.kept j λc=>fF a.rN a.all c.symm).ext (k _ C)
 .exact an (cP a.lJ j (fG a.all a.lJ H)) λi g=>k i λc=>y (c▸g)
theorem DP.UJ(a:DP w p L D){b:Nat}{l:NM}(f:w.grownBy w2 I)(o:aR w2 b l)(v:w.heap.size<=b):
  DP (w2.setCell ⟨p,3,I⟩ (.map (K b))) p {L with bs:=b} {D with safe:=l}:=by
 obtain⟨r,s,t,x,u⟩:=a.others;have m:ai w2 p (e_ L D) 126:=a.ay.grown f Y;have n:=m.set 3 (.map (K b));have i:=bL w2 p 3 (.map (K b))
 have q:b≠p:=by have:=a.ay.lt;omega
 refine⟨n,?_,a.len,?_,a.apart,?_,o.ext (i _ q),?_,?_⟩
 .exact an (cP a.all f Y) λh g=>i h λc=>r (c▸g)
 .exact λk j=>an (cP (a.jl k j) f Y) λh g=>i h λc=>u k j (c▸g)
 .exact(a.gI.kept f Y).ext (i _ t)
 .have:=a.gI.lt;show L.bn≠b;omega
 .exact an (cP a.lJ f Y) λh g=>i h λc=>s (c▸g)
end
end
section
open Go.RowKit Go.Extern.Stop Go.Stop Go.Extern
theorem Hl{c2:Array Oper}{o:Oper}{l:Act}{n:V}{y:Act->V->Prop}{J:Exit->Act->V->Prop}{F:Prop}
  (r c g bytes:Nat)(x:Z)(b4:prog.underlying r=K (.slice c))(a3:(prog.info? c).map (λu=>(u.zero,u.size,u.bytes))=K (K x,g,bytes))(b6:x.cells.size=g)(b3:0<g)
  (a2:o.guard=I)(v w:Operand)(a9:o.op= .call {callee:= .builtin .append,args:=#[v,w],argTypes:=#[r,r]})
  (f:V)(p:Nat)(j:Z)(b:Nat)(s i:List Z)(b2:l.eval v=j)(b0:f.ownsRow p c g j b s)(q:Nat)(b5:l.eval w=U (K q) 1 1)
  (T:n.heap[q]? =K (M i.toArray c (0,0)))(a:X f f n)(c3:i.length=g)(L:∀D∈i,D.oneCell'=true)(c4:b<=1000000)(a0:bytes<=1000000)(P:p<=f.heap.size)
  (R:∀h cap k,k.ownsRow p c g (U (K ⟨h,0,I⟩) (b+1) cap) (b+1) (s++i)->f.grownBy k j.ownBlock->(j.ownBlock=K h∨f.heap.size<=h)->y (l.put o.dst (U (K ⟨h,0,I⟩) (b+1) cap)) k):
  if Region.wanted o (yielded c2 l.tmps)=true then Oper.wp prog o l n y J else F:=by
 obtain⟨c0,a5,b7,b8,b9⟩:=info_parts a3;have a7:(b+1)*bytes<=140737488355328:=Yl (Nat.mul_le_mul (O:b+1<=1000001) a0) H;refine step_append_lies n a2 v w r a9 p c c0 x g bytes b4 a5 b7 b8 b9 b6 b3 j b s b2 (aG b0 a) q 1 1 i b5 O ?_ L O (by unfold YO;omega) a7 (Yl P a.size) n rfl ?_
 .intro c1 D a6
  rw [Go.WideShapes.add_plain,Nat.zero_add,cell_of_row _ q c1 i.toArray c (0,0) T]
  simpa using a6
 .intro h cap k b1 m W c5
  have a1:f.grownBy k j.ownBlock:=⟨m.os.trans a.os,m.tape.trans a.tape,m.output.trans a.output,Yl a.size m.size,λC z a8=>(m.block C (Yv z a.size) a8).trans (a.block C z)⟩;refine R h cap k b1 a1 ?_
  rcases W with t|t
  .exact Yg t
  .exact Yh (by rw [t];exact a.size)
theorem NR:(prog.info? 131).map (λa=>(a.zero,a.size,a.bytes))=K (K (Yc #[A G 0,Yb ⟨#[]⟩,Yb ⟨#[]⟩,A G 0]),4,48):=B
theorem NL:(prog.info? 129).map (λa=>(a.zero,a.size,a.bytes))=K (K (Yc #[U I 0 0,A G 0]),2,32):=B
theorem Hm(c:kY):∀b∈iY c,b.oneCell'=true:=by
 intro b a;unfold iY at a;simp at a;rcases a with rfl|rfl|rfl|rfl<;>rfl
def qu(c:Nat)(a:bY)(i:DS)(k:kY)(g:V)(j:Ending)(h:V):Prop:=
 j=e (Ye #[])/\∃f,DP h c {a with vs:=f} (ja i k)/\(∀b,f.ownBlock=K b->a.vs.ownBlock=K b∨g.heap.size<=b)/\af (a.has c) g h
theorem AL(h:Nat)(c:bY)(r:DS)(p:kY)(b:V)(t:DP b h c r)(W:p.fit)(g:p.kind<=2)(R:r.names.length<=1000000)(a0:r.steps.length<=1000000)(a1:∀q∈r.names,q.2<=9223372036854775807):
  d prog 153 #[Q (K h),kD p] b λn u=>qu h c r p b n u:=by
 have w:=E (ai.new b (iY p).toArray 131);have C:=E (t.stays (w':=b.alloc (M (iY p).toArray 131)) λx g=>heap_alloc_old b _ (t.lt g));have D:=E (λb t=>Ii r.names c.bn p b t W g R a1);have a9:=E t;have c5:=t.ay.lt;have b1:b.cell? ⟨h,2,I⟩=K (.map (K c.bn)):=t.cell 2;have L:(b.alloc (M (iY p).toArray 131)).cell? ⟨h,2,I⟩=K (.map (K c.bn)):=C.o.cell 2;have b0:=E a0;obtain⟨j,k,l,i⟩:=p;unfold kD;clear t W g R a1 a0;go_enter func153,ntmps153
 have b6:b.heap.size≠c.bn:=by have:=a9.o.gI.lt;omega
 have a2:(b.alloc (M (iY ⟨j,k,l,i⟩).toArray 131)).cell? b=K (A G j):=w.o.cell 0;have a3:(b.alloc (M (iY ⟨j,k,l,i⟩).toArray 131)).cell? ⟨b,1,I⟩=K (Yb ⟨k.toArray⟩):=w.o.cell 1;have a5:(b.alloc (M (iY ⟨j,k,l,i⟩).toArray 131)).cell? ⟨b,2,I⟩=K (Yb ⟨l.toArray⟩):=w.o.cell 2;have a6:(b.alloc (M (iY ⟨j,k,l,i⟩).toArray 131)).cell? ⟨b,3,I⟩=K (A G i):=w.o.cell 3;have F:=E (YI L (YI a2 (YI a3 (YI a5 a6))));go_wp2
 go_region_held3 (λu=>u.cell? ⟨h,2,I⟩=K (.map (K c.bn))/\u.cell? b=K (A G j)/\u.cell? ⟨b,1,I⟩=K (Yb ⟨k.toArray⟩)/\u.cell? ⟨b,2,I⟩=K (Yb ⟨l.toArray⟩)/\u.cell? ⟨b,3,I⟩=K (A G i))
  (first|with_reducible exact J.o|with_reducible exact F.o|go_keep)
  (first|(go_at_call 74;refine(D.o _ ?_).mono ?_;exact C.o.gI;rintro n f ⟨rfl,T,v⟩;have y:(b.alloc (M (iY ⟨j,k,l,i⟩).toArray 131)).grownBy f (K c.bn):=(by first|exact v|exact⟨v.os,v.tape,v.output,v.size,v.block⟩);have s:=E (DP.named C.o y T);have m:=E (w.o.grown y (by intro n;simp only [YQ] at n;exact b6 n));have J:=E (show f.cell? ⟨h,2,I⟩=K (.map (K c.bn))/\f.cell? b=K (A G j)/\f.cell? ⟨b,1,I⟩=K (Yb ⟨k.toArray⟩)/\f.cell? ⟨b,2,I⟩=K (Yb ⟨l.toArray⟩)/\f.cell? ⟨b,3,I⟩=K (A G i) from⟨s.o.cell 2,m.o.cell 0,m.o.cell 1,m.o.cell 2,m.o.cell 3⟩)))
 have b4:b.grownBy f (K c.bn):=lA y;clear b1 L a2 a3 a5 a6 F J T v D;have b9:=y.size;simp only [YN] at b9;have c0:f.cell? ⟨h,4,I⟩=K c.vs:=s.o.cell 4;have b2:=s.o.free 4;have c1:f.cell? b=K (A G j):=m.o.cell 0;have c2:f.cell? ⟨b,1,I⟩=K (Yb ⟨k.toArray⟩):=m.o.cell 1;have c3:f.cell? ⟨b,2,I⟩=K (Yb ⟨l.toArray⟩):=m.o.cell 2;have c4:f.cell? ⟨b,3,I⟩=K (A G i):=m.o.cell 3;have b8:=s.o.ay.lt;have c6:=m.o.lt;go_wp2
 go_region_law ((refine Hl 124 131 4 48 _ underlying124 NR rfl H (by rfl) _ _ (by rfl) f 0 c.vs r.steps.length (jr r.steps) (iY ⟨j,k,l,i⟩) (by rfl) s.o.lJ _ (by rfl) (heap_alloc_new _ _) (iQ _) (by rfl) (Hm _) b0.o H (Yr _) ?_;intro b3 cap a7 b7 z b5;have a8:=E (DP.steps s.o z b7);have c7:a7.cell? ⟨h,4,I⟩=K c.vs:=z.cell c0 (λn=>s.o.others.2.1 n.symm);have c8:a7.frozen? ⟨h,4,I⟩=false:=(World.frozen?_of_block (a:=⟨h,4,I⟩) (z.block h b8 (λn=>s.o.others.2.1 n.symm))).trans b2))
 all_goals
  go_end0;refine⟨rfl,_,a8.o,λx g=>?_,?_⟩
  .obtain rfl:b3=x:=by simpa [YT] using g
   rcases b5 with P|P
   .exact Yg P
   .exact Yh O
  .refine(af.grown b4 λx g=>?_).trans ((af.grown z λx g=>?_).trans (af.grown (bD _ _ _ _) λx g=>?_))
   .exact Yh (Yh (Yh (Yg (YG g).symm)))
   .exact Yh (Yh (Yg g))
   .exact Yg (YG g).symm
end
section
def jf(a:Nat):NM->List kY->Prop
 |b,[]=>∀q∈b,q.2<a
 |b,s::r=>(∀q∈b,q.2<a)/\s.kind<=2/\s.name.length<=24/\s.to.length<=24/\s.file<=a/\(s.kind=0->s.file<a)/\(s.kind=1->(bT b s.name).isSome=true)/\jf a (eT b s) r
structure Inv(D:DS)(T:Nat):Prop where
 room:0<=D.room/\D.room<=16777216
 done:0<=D.done/\D.done<=T
 c_:0<=D.c_/\D.c_<=9223372036854775807
 gI:D.names.length<=T
 lJ:D.safe.length+D.steps.length<=T
 me:D.all.length<=T
 runs:jf D.all.length D.safe D.steps
 ends:D.names=D.steps.foldl eT D.safe
 data:∀j,j<D.all.length->(D.file j).safe<=(D.file j).data.length/\(D.file j).data.length<=16777216
theorem jf.start{a:Nat}{f:NM}{c:List kY}(b:jf a f c):∀q∈f,q.2<a:=by
 cases c with
 |nil=>exact b
 |cons h g=>exact b.1
theorem jf.last{c:Nat}:∀{l:List kY} {b:NM},jf c b l->∀q∈l.foldl eT b,q.2<c
 |[],_,a=>a
 |h::g,b,a=>by
  obtain⟨_,_,_,_,_,_,_,f⟩:=a;exact jf.last (l:=g) f
theorem Inv.PO{a:DS}{c:Nat}(b:Inv a c):∀q∈a.names,q.2<a.all.length:=by rw [b.ends];exact b.runs.last
theorem Inv.UP{a:DS}{b:Nat}(c:Inv a b):∀q∈a.safe,q.2<a.all.length:=c.runs.start
theorem Inv.PQ{a:DS}{b:Nat}(c:Inv a b)(i:b<=100000):∀q∈a.names,q.2<=9223372036854775807:=λq f=>by
 have g:=c.PO q f;have h:=c.me;omega
end
section
open Go.RowKit Go.Extern.Stop Go.Stop Go.Extern
def iv(a:Nat)(c:bY)(k:Int)(i:DS)(g:V)(j:Ending)(h:V):Prop:=
 j=e (bj k)/\∃f,DP h a f i/\(∀b,f.has a b->c.has a b∨g.heap.size<=b)/\af (c.has a) g h
theorem af.self{a:Nat}{f:bY}{b c:V}(g:b.grownBy c (K a)):af (f.has a) b c:=af.grown g λi h=>Yg (YG h).symm
theorem af.step{f:Nat}{h j:bY}{i l w':V}(b:af (h.has f) i l)(m:∀a,j.has f a->h.has f a∨i.heap.size<=a)(c:af (j.has f) l w'):af (h.has f) i w':=by
 have o:=b.size;refine⟨c.os.trans b.os,c.tape.trans b.tape,c.output.trans b.output,Yl b.size c.size,λa n k=>?_⟩;rw [<-b.block a n k]
 refine c.block a O λg=>?_
 rcases m a g with g|g
 .exact k g
 .omega
theorem Fm{c:Nat}{L:bY}{f:Z}{N b:Nat}(a:({L with vs:=f}:bY).has c b)(g:∀b,f.ownBlock=K b->L.vs.ownBlock=K b∨N<=b):L.has c b∨N<=b:=by
 rcases a with a|a|a|a|a|a
 .exact Yg (Yg a)
 .exact Yg (Yh (Yg a))
 .rcases g b a with a|a
  .exact Yg (Yh (Yh (Yg a)))
  .exact Yh a
 .exact Yg (Yh (Yh (Yh (Yg a))))
 .exact Yg (Yh (Yh (Yh (Yh (Yg a)))))
 .exact Yg (Yh (Yh (Yh (Yh (Yh a)))))
theorem Bk{i:Nat}{c:bY}{j:Z}{h b:Nat}(a:({c with va:=j,fv:=c.fv++[U I 0 0]}:bY).has i b)(l:∀b,j.ownBlock=K b->c.va.ownBlock=K b∨h<=b):c.has i b∨h<=b:=by
 rcases a with a|a|a|a|a|⟨g,k,a⟩
 .exact Yg (Yg a)
 .rcases l b a with a|a
  .exact Yg (Yh (Yg a))
  .exact Yh a
 .exact Yg (Yh (Yh (Yg a)))
 .exact Yg (Yh (Yh (Yh (Yg a))))
 .exact Yg (Yh (Yh (Yh (Yh (Yg a)))))
 .simp only [Yq,Zb] at k
  unfold bY.at at a
  rcases Nat.lt_or_ge g c.fv.length with f|f
  .simp only [dQ f] at a
   exact Yg (Yh (Yh (Yh (Yh (Yh ⟨g,f,a⟩)))))
  .obtain rfl:g=c.fv.length:=O
   simp only [cS] at a;simp [YT] at a
theorem cT{b:DS}{c:Int}(a:b_ b c=0):b.down=false/\c=0/\fj b=false/\cq b c=cI b:=by
 unfold b_ at a
 cases h1:b.down with
 |true=>rw [h1] at a;simp at a
 |false=>
  rw [h1] at a;by_cases f:c=0
  .rw [f] at a⊢
   cases h3:fj b with
   |true=>rw [h3] at a;simp at a
   |false=>exact⟨rfl,rfl,rfl,by unfold cq;rw [h1];simp⟩
  .simp [f] at a
theorem aK{m:V}{f g l b:Nat}{c:Z}{i:List Z}(j:m.ownsRow f g l c b i):∃h cap,c=U h b cap:=by
 rcases aV j with⟨a,k⟩|⟨n,cap,a,_⟩
 .exact⟨I,0,by rw [a,k]⟩
 .exact⟨_,cap,a⟩
theorem ED(m:Nat)(h:bY)(b:DS)(g:Bs)(b5:Nat)(r:V)(i:DP r m h b)(R:Inv b b5)(e4:b5<=100000)(a0:g.length<=YO):
  d prog 105 #[Q (K m),Yb ⟨g.toArray⟩] r λc F=>iv m h (b_ b (bU b g)) (br b g) r c F:=by
 have x:=E (sy g a0 r);have b4:=i.gI.look a0;have g2:=i.gI.count;have g3:r.cell? ⟨m,2,I⟩=K (.map (K h.bn)):=i.cell 2;obtain⟨b6,e2⟩:=R.done;have b9:=R.c_.2;have J:=E (λt=>Bi m h b t r i b6 O b9);have g4:=R.gI;have g1:=E i;have z:=E R;have C:=E e4;have e1:=E a0;generalize k:bU b g=t;have P:=E k
 have s:Hd (b_ b t≠0->br b g=cq b t):=λT=>by unfold br;rw [<-k] at T;rw [if_neg T,k]
 have D:Hd (b_ b t=0->br b g=ja {cI b with all:=b.all++[DF.ae]} ⟨0,g,[],b.all.length⟩):=λT=>by
  unfold br;rw [if_pos (by rw [k];exact T),k,(cT T).2.2.2]
 clear i R b6 e2 b9 a0
 cases hnb:dF g with
 |false=>
  have b1:t=6:=by rw [<-k];unfold bU;rw [hnb];rfl
  have c6:=E (J.o 6)
  have a9:b_ b 6≠0:=by intro c;have:=(cT c).2.1;omega
  rw [s.o (by rw [b1];exact a9),b1];rw [hnb] at x;generalize ((bT b.names g).getD 0)=a2 at*;generalize (bT b.names g).isSome=g5 at*;have q:=jT a9;clear k b1 hnb a9 s D P;go_enter func105,ntmps105
  go_wp2_with (first|(go_at_call 151;refine x.o.mono ?_;rintro c F ⟨rfl,rfl⟩)|(go_at_call 152;refine c6.o.mono ?_;rintro c v ⟨rfl,j,n⟩))
  go_returns;exact⟨rfl,h,j,λp f=>Yg f,af.self n⟩
 |true=>
  rw [hnb] at x
  cases hth:(bT b.names g).isSome with
  |true=>
   rw [hth] at b4
   have l:t=8:=by rw [<-k];unfold bU;rw [hnb,hth];rfl
   clear hnb hth;have w:=E (J.o 8)
   have y:b_ b 8≠0:=by intro c;have:=(cT c).2.1;omega
   rw [s.o (by rw [l];exact y),l];generalize ((bT b.names g).getD 0)=a2 at*;have q:=jT y;clear k l y s D P;go_enter func105,ntmps105
   go_wp2_with (first|(go_at_call 151;refine x.o.mono ?_;rintro c F ⟨rfl,rfl⟩)|(go_at_call 152;refine w.o.mono ?_;rintro c v ⟨rfl,j,n⟩))
   go_returns;exact⟨rfl,h,j,λp f=>Yg f,af.self n⟩
  |false=>
   rw [hth] at b4;by_cases b8:64<=b.names.length
   .have l:t=5:=by rw [<-k];unfold bU;rw [hnb,hth];simp [b8]
    have e9:decide ((64:Int)<=(b.names.length:Int))=true:=by simp;omega
    clear hnb hth;have w:=E (J.o 5)
    have y:b_ b 5≠0:=by intro c;have:=(cT c).2.1;omega
    rw [s.o (by rw [l];exact y),l];generalize ((bT b.names g).getD 0)=a2 at*;have q:=jT y;clear k l y s D P;go_enter func105,ntmps105
    go_wp2_with (first|(go_at_call 151;refine x.o.mono ?_;rintro c F ⟨rfl,rfl⟩)|(go_at_call 152;refine w.o.mono ?_;rintro c v ⟨rfl,j,n⟩))
    go_returns;exact⟨rfl,h,j,λp f=>Yg f,af.self n⟩
   .have l:t=0:=by rw [<-k];unfold bU;rw [hnb,hth];simp [b8]
    have e9:decide ((64:Int)<=(b.names.length:Int))=false:=by simp;omega
    have w:=E (J.o 0);by_cases u:b_ b 0=0
    .obtain⟨-, -, -,c2⟩:=cT u
     rw [D.o (by rw [l];exact u),l];rw [u,c2] at w;have e0:=E u;have c8:=E (show b.all.length<=1000000 from by have:=z.o.me;have:=C.o;omega)
     have c5:=E (λ(r:V) (h:bY) (i:DP r m h {cI b with all:=b.all++[DF.ae]})=>AL m h {cI b with all:=b.all++[DF.ae]} ⟨0,g,[],b.all.length⟩ r i ⟨e1.o,Y,by have:=z.o.me;have:=C.o;show b.all.length<=_;omega⟩ (Yr _) (by have:=z.o.gI;have:=C.o;show b.names.length<=_;omega) (by have:=z.o.lJ;have:=C.o;show b.steps.length<=_;omega) (z.o.PQ C.o))
     generalize ((bT b.names g).getD 0)=a2 at*;clear k l hnb hth u c2 s D P J z C;go_enter func105,ntmps105
     go_wp2_with (first|(go_at_call 151;refine x.o.mono ?_;rintro c F ⟨rfl,rfl⟩)|(go_at_call 152;refine w.o.mono ?_;rintro c v ⟨rfl,j,n⟩;obtain⟨W,cap,a1⟩:=aK j.all;have c4:v.cell? ⟨m,1,I⟩=K (U W b.all.length cap):=(j.cell 1).trans (congrArg K a1);have b7:=j.free 1;have c9:=E (show v.ownsRow 0 129 2 (U W b.all.length cap) b.all.length (fe b.all h.fv) from a1▸j.all);have a5:=E j;have a6:=E a1;have a3:=E n;have e8:=j.ay.lt;clear a1 j n)|(at_builtin;refine aX 122 129 2 32 _ underlying122 NL rfl H rfl (.tmp 49) (.tmp 51) rfl 0 _ _ _ [U I 0 0,A G 0] rfl c9.o rfl Y rfl (by intro g6 c3;simp at c3;rcases c3 with rfl|rfl<;>rfl) c8.o H (Yr _) ?_;intro g7 b2 b0 _ c1 c0;obtain⟨a7,a8,e6⟩:=aK b0;subst e6;have L:=E (show v.grownBy b2 h.va.ownBlock from a6.o▸c1);have c7:=E (DP.made a5.o L.o b0);have h0:b2.cell? ⟨m,1,I⟩=K (U W b.all.length cap):=L.o.cell c4 (λc=>a5.o.others.1 c.symm);have h2:b2.frozen? ⟨m,1,I⟩=false:=(World.frozen?_of_block (a:=⟨m,1,I⟩) (L.o.block m e8 (λc=>a5.o.others.1 c.symm))).trans b7;have b3:=E (show(U W b.all.length cap).ownBlock=(U a7 (b.all.length+1) a8).ownBlock∨(U a7 (b.all.length+1) a8).ownBlock=K (v.heap.size+1) from c0);clear b0 c1 c0 c4 b7)|(go_at_call 153;refine(c5.o _ _ c7.o).mono ?_;rintro c g9 ⟨rfl,g8,e3,e7,e5⟩))
     go_returns;refine⟨by rw [e0.o];rfl,_,e3,λp f=>?_,?_⟩
     .have c:=b3.o
      have g0:=a3.o.size;have h1:=L.o.size
      rcases Fm (L:={h with va:=U a7 (b.all.length+1) a8,fv:=h.fv++[U I 0 0]}) (N:=r.heap.size) f (λp f=>by
       rcases e7 p f with i|i
       .exact Yg i
       .exact Yh (by simp at i;omega)) with i|i
      .refine Bk i λp f=>?_
       rcases c with c|c
       .exact Yg ((congrArg YT a6.o).trans (c.trans f))
       .rw [c] at f;exact Yh (by have:=YG f;omega)
      .exact Yh i
     .have c:=b3.o
      have g0:=a3.o.size;refine(af.self a3.o).trans ?_;refine af.step ((af.grown L.o λp f=>Yh (Yg f)).trans (af.self (bD _ _ _ _))) (λp f=>Bk f λp f=>?_) e5
      rcases c with c|c
      .exact Yg ((congrArg YT a6.o).trans (c.trans f))
      .rw [c] at f;exact Yh (by have:=YG f;omega)
    .rw [s.o (by rw [l];exact u),l]
     generalize ((bT b.names g).getD 0)=a2 at*;have q:=jT u;clear k l u hnb hth s D P;go_enter func105,ntmps105
     go_wp2_with (first|(go_at_call 151;refine x.o.mono ?_;rintro c F ⟨rfl,rfl⟩)|(go_at_call 152;refine w.o.mono ?_;rintro c v ⟨rfl,j,n⟩))
     go_returns;exact⟨rfl,h,j,λp f=>Yg f,af.self n⟩
theorem Inv.JU{a:DS}{i:Nat}(h:Inv a i)(l:i<=100000)(c:Nat)(g:bY)(b:kY)(n:b.fit)(m:b.kind<=2)(f:V)(k:DP f c g (cI a)):
  d prog 153 #[Q (K c),kD b] f λj o=>qu c g (cI a) b f j o:=
 AL c g (cI a) b f k n m (by have:=h.gI;show a.names.length<=_;omega) (by have:=h.lJ;show a.steps.length<=_;omega) (h.PQ l)
theorem Inv.goes{a:DS}{h:Nat}(i:Inv a h)(o:h<=100000)(b:Nat)(g:bY)(f:Int)(c:V)(m:DP c b g a):
  d prog 152 #[Q (K b),bj f] c λl j=>l=e (bj (b_ a f))/\DP j b g (cq a f)/\c.grownBy j (K b):=by
 obtain⟨k,n⟩:=i.done;exact Bi b g a f c m k O i.c_.2
theorem qu.op{b:Nat}{f:bY}{j:DS}{m:kY}{h n i:V}{o:Ending}(l:h.grownBy n (K b))(c:qu b f j m n o i):∃k,DP i b k (ja j m)/\(∀a,k.has b a->f.has b a∨h.heap.size<=a)/\af (f.has b) h i:=by
 obtain⟨-,t,p,q,r⟩:=c;have s:=l.size;refine⟨_,p,λa g=>Fm g λa g=>?_,(af.self l).trans r⟩
 rcases q a g with c|c
 .exact Yg c
 .exact Yh O
theorem GH(n:Nat)(i:bY)(a:DS)(b c:Bs)(J:Nat)(h:V)(k:DP h n i a)(s:Inv a J)(t:J<=100000)(x:b.length<=YO)(y:c.length<=YO):
  d prog 108 #[Q (K n),Yb ⟨b.toArray⟩,Yb ⟨c.toArray⟩] h λf p=>iv n i (oC a b c) (gO a b c) h f p:=by
 have z:=E (fK n i a b x h k);have w:=E (sy c y h);have T:=E (λ(h:V) (k:DP h n i (cI a))=>s.JU t n i ⟨1,b,c,0⟩ ⟨x,y,Yr _⟩ (by show 1<=2;omega) h k)
 cases hnb:dF c with
 |false=>
  have m:tu a b c=6:=by unfold tu;rw [hnb];rfl
  have C:b_ a 6≠0:=by intro f;have:=(cT f).2.1;omega
  have g:oC a b c=b_ a 6:=by unfold oC;rw [m]
  have j:gO a b c=cq a 6:=by unfold gO;rw [g,if_neg C,m]
  rw [g,j];have v:=E (s.goes t n i 6 h k);rw [hnb] at w;have q:=jT C;generalize ba a b=P at*;clear k s t x y hnb m C g j;go_enter func108,ntmps108
  go_wp2_with (first|(go_at_call 154;refine z.o.mono ?_;rintro f p ⟨rfl,rfl⟩)|(go_at_call 151;refine w.o.mono ?_;rintro f p ⟨rfl,rfl⟩)|(go_at_call 152;refine v.o.mono ?_;rintro f R ⟨rfl,r,u⟩))
  go_returns;exact⟨rfl,i,r,λa3 D=>Yg D,af.self u⟩
 |true=>
  have m:tu a b c=ba a b:=by unfold tu;rw [hnb];rfl
  have g:oC a b c=b_ a (ba a b):=by unfold oC;rw [m]
  have v:=E (s.goes t n i (ba a b) h k);rw [hnb] at w;by_cases l:b_ a (ba a b)=0
  .obtain⟨-, -, -,L⟩:=cT l
   have j:gO a b c=ja (cI a) ⟨1,b,c,0⟩:=by unfold gO;rw [if_pos (by rw [g];exact l)]
   rw [l,L] at v;rw [g,j,l];generalize ba a b=P at*;clear k s t x y hnb m l L g j;go_enter func108,ntmps108
   go_wp2_with (first|(go_at_call 154;refine z.o.mono ?_;rintro f p ⟨rfl,rfl⟩)|(go_at_call 151;refine w.o.mono ?_;rintro f p ⟨rfl,rfl⟩)|(go_at_call 152;refine v.o.mono ?_;rintro f R ⟨rfl,r,u⟩;have W:=E r;have a0:=E u;clear r u)|(go_at_call 153;refine(T.o _ W.o).mono ?_;rintro f a5 F;obtain⟨rfl,a2⟩:=id F;have a1:=E F;clear F a2))
   go_returns;exact⟨by rw [ar];rfl,a1.o.op a0.o⟩
  .have j:gO a b c=cq a (ba a b):=by unfold gO;rw [if_neg (by rw [g];exact l),m]
   rw [g,j];generalize ba a b=P at*;have q:=jT l;clear k s t x y hnb m l g j;go_enter func108,ntmps108
   go_wp2_with (first|(go_at_call 154;refine z.o.mono ?_;rintro f p ⟨rfl,rfl⟩)|(go_at_call 151;refine w.o.mono ?_;rintro f p ⟨rfl,rfl⟩)|(go_at_call 152;refine v.o.mono ?_;rintro f R ⟨rfl,r,u⟩))
   go_returns;exact⟨rfl,i,r,λa3 D=>Yg D,af.self u⟩
theorem GG(h:Nat)(g:bY)(a:DS)(b:Bs)(x:Nat)(f:V)(k:DP f h g a)(n:Inv a x)(p:x<=100000)(r:b.length<=YO):
  d prog 116 #[Q (K h),Yb ⟨b.toArray⟩] f λi v=>iv h g (xm a b) (jK a b) f i v:=by
 have w:=E (fK h g a b r f k);have z:=E (λ(f:V) (k:DP f h g (cI a))=>n.JU p h g ⟨2,b,[],0⟩ ⟨r,Y,Yr _⟩ (Yk 2) f k);have t:=E (n.goes p h g (ba a b) f k);have j:xm a b=b_ a (ba a b):=rfl;by_cases c:b_ a (ba a b)=0
 .obtain⟨-, -, -,y⟩:=cT c
  have l:jK a b=ja (cI a) ⟨2,b,[],0⟩:=by unfold jK;rw [if_pos (by rw [j];exact c)]
  rw [c,y] at t;rw [j,l,c];generalize ba a b=P at*;clear k n p r c y j l;go_enter func116,ntmps116
  go_wp2_with (first|(go_at_call 154;refine w.o.mono ?_;rintro i v ⟨rfl,rfl⟩)|(go_at_call 152;refine t.o.mono ?_;rintro i R ⟨rfl,m,s⟩;have C:=E m;have D:=E s;clear m s)|(go_at_call 153;refine(z.o _ C.o).mono ?_;rintro i W u;obtain⟨rfl,L⟩:=id u;have F:=E u;clear u L))
  go_returns;exact⟨by rw [ar];rfl,F.o.op D.o⟩
 .have l:jK a b=cq a (ba a b):=by unfold jK;rw [if_neg (by rw [j];exact c)]
  rw [j,l];generalize ba a b=P at*;have q:=jT c;clear k n p r c j l;go_enter func116,ntmps116
  go_wp2_with (first|(go_at_call 154;refine w.o.mono ?_;rintro i v ⟨rfl,rfl⟩)|(go_at_call 152;refine t.o.mono ?_;rintro i R ⟨rfl,m,s⟩))
  go_returns;exact⟨rfl,g,m,λT J=>Yg J,af.self s⟩
theorem vQ(b:Nat)(g:NM)(a:V)(m:aR a b g):
  d prog 75 #[.map (K b)] a λk h=>k=e (.map (K a))/\aR h a g/\a.grownBy h I:=by
 obtain⟨l,j,n,F,f,c⟩:=m;have i:=E (YI F (YI f c));clear F f c;have r:=run_eql_map_nil_sl (P:=prog) a 123 _ _ (K b) underlying123;have t:=@YB prog 118 _ Extern.MapsClone.clone func118 B B B B;have q:=run_maps_clone_sl (P:=prog) a 123 n
 have s:=λp a=>run_typeAssert_map_sl (P:=prog) a 123 20 _ _ p underlying123
 go_enter func75,ntmps75;go_wp2;go_ret;exact⟨rfl,⟨l,j,(MapKept.heap_alloc a _).1,i.o⟩,World.grownBy_alloc a _ I⟩
section
variable {w w2:V} {p:Nat} {L:bY} {D:DS}
theorem DP.Tj(a:DP w p L D):DP (w.setCell ⟨p,4,I⟩ (U I 0 0)) p {L with vs:=U I 0 0} {D with steps:=[]}:=by
 obtain⟨j,n,k,l,m⟩:=a.others;have b:=bL w p 4 (U I 0 0);refine⟨a.ay.set 4 _,?_,a.len,?_,a.apart,a.gI.ext (b _ k),a.rN.ext (b _ l),a.ne,YC _ _ _ 4⟩
 .exact an a.all λg f=>b g λc=>j (c▸f)
 .exact λi h=>an (a.jl i h) λg f=>b g λc=>m i h (c▸f)
theorem Fl{b:Nat}(a:({L with vs:=U I 0 0}:bY).has p b):L.has p b:=by
 rcases Fm (N:=b+1) a (λb c=>by simp [YT] at c) with a|a
 .exact a
 .omega
theorem SM{f c b:Nat}(a:({L with bs:=f}:bY).has p b)(g:c<=f):L.has p b∨c<=b:=by
 rcases a with a|a|a|a|a|a
 .exact Yg (Yg a)
 .exact Yg (Yh (Yg a))
 .exact Yg (Yh (Yh (Yg a)))
 .exact Yg (Yh (Yh (Yh (Yg a))))
 .exact Yh (by rw [a];exact g)
 .exact Yg (Yh (Yh (Yh (Yh (Yh a)))))
theorem DP.head(f:DP w p L D){j:Nat}(h:j<D.all.length):∃a cap,L.va=U (K ⟨a,0,I⟩) D.all.length cap/\a<w.heap.size/\a≠p/\w.cell? ⟨a,j*2,I⟩=K (L.at j)/\w.cell? ⟨a,j*2+1,I⟩=K (A G ((D.file j).safe:Int))/\(∀n,w.frozen? ⟨a,n,I⟩=false):=by
 rcases aV f.all with⟨b,o⟩|⟨a,cap,b, -,l,q,r,k, -⟩
 .omega
 .have g:=f.all
  rw [b] at g;refine⟨a,cap,b,l,λi=>f.others.1 (by rw [b,i];rfl),?_,?_,k⟩
  .exact au g (dz (m:=2) (c:=0) (λ_=>rfl) _ h H)
  .exact au g (dz (m:=2) (c:=1) (λ_=>rfl) _ h H)
theorem DP.zS(a:DP w p L D){j k cap r:Nat}(n:j<D.all.length)(l:L.va=U (K k) r cap)(s:Nat):
  DP (w.setCell ⟨k,j*2+1,I⟩ (A G s)) p L {D with all:=dy D.all j ⟨(D.file j).data,s⟩}:=by
 obtain⟨x,C,F,J,P⟩:=a.others;have i:=bL w k (j*2+1) (A G s)
 have g:L.va.ownBlock=K k:=by rw [l];rfl
 obtain rfl:r=D.all.length:=by
  obtain⟨z,y,b,_⟩:=a.head n;rw [l] at b;simp at b;exact b.2.1
 have q:=a.all;rw [l] at q;have u:=(q.stored (j*2+1) (A G s)).1
 have v:(fe D.all L.fv).set (j*2+1) (A G s)=fe (dy D.all j ⟨(D.file j).data,s⟩) L.fv:=by
  unfold fe;rw [cB];refine uP (m:=2) (λ_=>rfl) (λ_=>rfl) n H ?_ ?_
  .unfold uY;rw [dA,if_pos ⟨rfl,n⟩];rfl
  .intro c f;unfold uY;rw [dA,if_neg (λb=>f b.1.symm)]
 have t:∀c,((dy D.all j ⟨(D.file j).data,s⟩).getD c DF.ae).data=(D.file c).data:=by
  intro c;rw [dA];split
  .rename_i b;rw [b.1]
  .rfl
 refine⟨a.ay.bS (i _ λb=>x (by rw [g,b])),?_,by rw [cB];exact a.len,?_,by rw [cB];exact a.apart,?_,?_,a.ne,?_⟩
 .show World.ownsRow _ 0 _ 2 L.va (dy D.all j _).length _
  rw [cB,l,<-v];exact u
 .intro c f
  rw [cB] at f
  show World.ownsRow _ 0 _ 1 (L.at c) ((dy D.all j ⟨(D.file j).data,s⟩).getD c DF.ae).data.length (ak ((dy D.all j ⟨(D.file j).data,s⟩).getD c DF.ae).data)
  rw [t c]
  exact an (a.jl c f) λh o=>i h λb=>fG a.all (a.jl c f) H h o (by rw [g,b])
 .exact a.gI.ext (i _ λb=>fF a.gI a.all (by rw [g,b]))
 .exact a.rN.ext (i _ λb=>fF a.rN a.all (by rw [g,b]))
 .exact an a.lJ λh o=>i h λb=>fG a.all a.lJ H h o (by rw [g,b])
end
theorem DR(f:Nat)(b:bY)(a:DS)(x:Nat)(n:V)(s:DP n f b a)(t:Inv a x)(u:x<=100000):
  d prog 109 #[Q (K f)] n λk R=>iv f b (jY a) (dG a) n k R:=by
 have p:=E (t.goes u f b 0 n s);have g:jY a=b_ a 0:=rfl;by_cases c:b_ a 0=0
 .obtain⟨-, -, -,y⟩:=cT c
  have h:dG a={cI a with safe:=a.names,steps:=[]}:=by unfold dG;rw [if_pos (by rw [g];exact c)]
  rw [c,y] at p;rw [g,h,c];clear s t u c y g h;go_enter func109,ntmps109
  go_wp2_with (first|(go_at_call 152;refine p.o.mono ?_;rintro k C ⟨rfl,i,l⟩;have T:C.cell? ⟨f,2,I⟩=K (.map (K b.bn)):=i.cell 2;have r:=E i;have w:=E l;clear i l)|(go_at_call 75;refine(vQ b.bn a.names _ r.o.gI).mono ?_;rintro k D ⟨rfl,z,m⟩;have F:=E (r.o.UJ m z (Yk _));have J:=E F.o.Tj;have L:=E m;have j:=E (r.o.ay.grown m Y);have a1:D.cell? ⟨f,3,I⟩=K (.map (K b.bs)):=j.o.cell 3;have W:=j.o.free 3;have a2:D.cell? ⟨f,4,I⟩=K b.vs:=j.o.cell 4;have a0:=j.o.free 4;clear z m))
  go_returns;refine⟨by rw [ar];rfl,_,J.o,λP v=>?_,?_⟩
  .exact SM (Fl v) w.o.size
  .refine(af.self w.o).trans ((af.grown L.o Y).trans ((af.self (bD _ _ _ _)).trans (af.self (bD _ _ _ _))))
 .have h:dG a=cq a 0:=by unfold dG;rw [if_neg (by rw [g];exact c)]
  rw [g,h];have q:=jT c;clear s t u c g h;go_enter func109,ntmps109
  go_wp2_with (go_at_call 152;refine p.o.mono ?_;rintro k C ⟨rfl,i,l⟩)
  go_returns;exact⟨rfl,b,i,λP v=>Yg v,af.self l⟩
theorem Qg(f:Nat)(j:bY)(a:DS)(b:Int)(i:V)(g:DP i f j a):
  d prog 34 #[Q (K f),A G b] i λc m=>c=e (Ye #[])/\DP m f j (qC a b)/\i.grownBy m (K f):=by
 have k:=E g;have s:i.cell? ⟨f,5,I⟩=K (A G a.c_):=g.cell 5;have t:=g.free 5;have l:i.cell? ⟨f,6,I⟩=K (.bool a.down):=g.cell 6;clear g
 cases hd:a.down with
 |true=>
  rw [hd] at l
  have c:qC a b=a:=by unfold qC;rw [if_pos hd]
  rw [c];clear hd c;go_enter func34,ntmps34;go_wp2;go_end0;exact⟨rfl,k.o,⟨rfl,rfl,rfl,Yk _,λ_ _ _=>rfl⟩⟩
 |false=>
  rw [hd] at l
  have c:qC a b={a with c_:=max b 0}:=by unfold qC;rw [if_neg (by rw [hd];decide)]
  rw [c];obtain⟨h,q⟩:∃h,(if (0:Int)>b then (0:Int) else b)=h:=⟨_,rfl⟩
  have n:Hd (max b 0=h):=by show max b 0=h;rw [<-q];split<;>omega
  clear hd c;go_enter func34,ntmps34;go_wp2;go_end0
  have c:e_ j {a with c_:=max b 0}=(e_ j a).setIfInBounds 5 (A G h):=by simp [e_,n.o]
  refine⟨rfl,k.o.scalars (by rw [c];exact k.o.ay.set 5 _) (λr p=>bL _ _ _ _ r p) rfl rfl rfl rfl,bD _ _ _ _⟩
theorem uR(c:Nat)(g:bY)(b:DS)(a:V)(f:DP a c g b):
  d prog 119 #[Q (K c)] a λh i=>h=e (.bool b.down)/\a=i:=by
 have j:a.cell? ⟨c,6,I⟩=K (.bool b.down):=f.cell 6;clear f;go_enter func119,ntmps119;go_wp2;go_ret;exact⟨rfl,rfl⟩
theorem jP{c:DS}{b:Bs}(a:ba c b=0):dF b=true/\bT c.names b=K (aM c.names b):=by
 unfold ba at a
 cases h1:dF b with
 |false=>rw [h1] at a;simp at a
 |true=>
  refine⟨rfl,?_⟩;rw [h1] at a
  cases h2:bT c.names b with
  |none=>rw [h2] at a;simp at a
  |some f=>unfold aM;rw [h2];rfl
theorem Inv.kE{a:DS}{c:Nat}(g:Inv a c){b:Bs}(f:ba a b=0):aM a.names b<a.all.length:=g.PO _ (jF (jP f).2)
theorem PH(h:Nat)(f:bY)(a:DS)(c:Bs)(a8:Nat)(u:V)(C:DP u h f a)(t:Inv a a8)(T:a8<=100000)(F:c.length<=YO):
  d prog 107 #[Q (K h),Yb ⟨c.toArray⟩] u λv l=>iv h f (fQ a c) (cV a c) u v l:=by
 have L:=E (fK h f a c F u C);have y:=E (t.goes T h f (ba a c) u C);have r:fQ a c=b_ a (ba a c):=rfl;by_cases k:b_ a (ba a c)=0
 .obtain⟨-,a2, -,b5⟩:=cT k
  have w:cV a c={cI a with all:=dy a.all (aM a.names c) (wK a c)}:=by unfold cV;rw [if_pos (by rw [r];exact k)]
  have a1:=t.kE a2;have b8:(bT a.names c).getD 0=aM a.names c:=rfl
  have e0:a.all.length<=100000:=by have:=t.me;omega
  have c7:=(t.data _ a1).2;rw [k,b5] at y;rw [r,w,k];have a5:=E F;have b9:wK a c=⟨(a.file (aM a.names c)).data,(a.file (aM a.names c)).data.length⟩:=rfl;rw [b9];rw [a2] at L y;generalize c8:aM a.names c=i at*;obtain⟨len,W⟩:∃len,(a.file i).data.length=len:=⟨_,rfl⟩;have c4:=E W;rw [W] at c7⊢;have a6:=E b8;have P:=E a1;obtain⟨n,a0⟩:∃n,a.all.length=n:=⟨_,rfl⟩;have c5:=E a0;rw [a0] at a1 e0;have e4:(0:Int)<=(i:Int):=O;have e5:(i:Int)<(n:Int):=O;clear C t T k b5 r w a2 b9 c8 W b8 a0 F;go_enter func107,ntmps107
  go_wp2_with (first|(go_at_call 154;refine L.o.mono ?_;rintro v l ⟨rfl,rfl⟩)|(go_at_call 152;refine y.o.mono ?_;rintro v g ⟨rfl,D,J⟩;have m:=E D;have c3:=E J;clear D J))
  obtain⟨z,cap,a3,e2,e3,e1,e6,c2⟩:=m.o.head (j:=i) P.o;have a7:=E a3
  have c0:f.va=U (K z) n cap:=by rw [a3];exact congrArg (λp=>U _ p _) c5.o
  have b0:g.cell? ⟨h,1,I⟩=K (U (K z) n cap):=(m.o.cell 1).trans (congrArg K c0);have b1:g.cell? ⟨h,2,I⟩=K (.map (K f.bn)):=m.o.cell 2;have b6:=m.o.gI.mu a5.o
  have c9:(YY 123 (.map (K f.bn)) (Yb ⟨c.toArray⟩) false).run prog g= .ok (A G i) g:=by rw [b6];exact congrArg (λp:Nat=>Result.ok (A G p) g) a6.o
  clear b6 a3 c0
  have b7:(YY 123 (.map (K f.bn)) (Yb ⟨c.toArray⟩) false).run prog g.drew= .ok (A G i) g.drew:=by
   rw [aR.mu (w:=g.drew) m.o.gI a5.o];exact congrArg (λp:Nat=>Result.ok (A G p) g.drew) a6.o
  have R:=E (show g.drew.cell? ⟨h,1,I⟩=K (U (K z) n cap)/\g.drew.cell? ⟨h,2,I⟩=K (.map (K f.bn))/\(YY 123 (.map (K f.bn)) (Yb ⟨c.toArray⟩) false).run prog g.drew= .ok (A G i) g.drew from⟨b0,b1,b7⟩);clear b7
  go_region_held3 (λl=>l.cell? ⟨h,1,I⟩=K (U (K z) n cap)/\l.cell? ⟨h,2,I⟩=K (.map (K f.bn))/\(YY 123 (.map (K f.bn)) (Yb ⟨c.toArray⟩) false).run prog l= .ok (A G i) l)
   (first|with_reducible exact R.o|exact R.o|go_keep)
   (fail)
  obtain⟨a9,b2,b3⟩:=aK (m.o.jl i P.o)
  have b4:f.at i=U a9 len b2:=by rw [b3];exact congrArg (λp=>U a9 p b2) c4.o
  rw [b4] at e1;have Mz:=c2 (i*2+1);clear b3 b4 c2 b0 b1 c9 R;go_wp2;go_returns
  have c6:DP g.drew h f (cI a):=m.o.stays λ_ _=>rfl
  refine⟨by rw [ar];rfl,f,c6.zS (s:=len) P.o a7.o,λc1 x=>Yg x,?_⟩;refine(af.self c3.o).trans ?_;refine af.trans (b:=g.drew) ⟨rfl,rfl,rfl,Yk _,λ_ _ _=>rfl⟩ (af.grown (bD _ _ _ _) λc1 x=>Yh (Yg ?_));rw [a7.o];exact x
 .have w:cV a c=cq a (ba a c):=by unfold cV;rw [if_neg (by rw [r];exact k)]
  rw [r,w];generalize ba a c=e7 at*;have q:=jT k;clear C t T F k r w;go_enter func107,ntmps107
  go_wp2_with (first|(go_at_call 154;refine L.o.mono ?_;rintro v l ⟨rfl,rfl⟩)|(go_at_call 152;refine y.o.mono ?_;rintro v g ⟨rfl,D,J⟩))
  go_returns;exact⟨rfl,f,D,λc1 x=>Yg x,af.self J⟩
end
section
open Go.RowKit Go.Extern.Stop Go.Stop Go.Extern Go.Maps
theorem lK(a:NM):strKeys (ui a)=cK a:=by
 show List.map (λb=>strOf b.1) (List.map mN a)=_
 rw [List.map_map];rfl
theorem OP{a b:List Nat}(c:a.Perm b):a.sum=b.sum:=by
 induction c with
 |nil=>rfl
 |cons i _ h=>simp [h]
 |swap i j a=>simp;omega
 |trans _ _ f g=>exact f.trans g
theorem qq{f:Bs->Nat}{M:Nat}:∀{l:List Bs},(∀a∈l,f a<=M)->(l.map f).sum<=l.length*M
 |[],_=>by simp
 |a::c,h=>by
  have i:=h a Y
  have j:=qq (l:=c) (M:=M) λg b=>h g (by simp [b])
  simp only [List.map_cons,List.sum_cons,List.length_cons,Nat.succ_mul];omega
theorem vU{b:NM}{c:Bs}{i:DataW Unit}(g:∀l,(ui b).atKey (.string c) l=i){f:Int}(j:i= .lit (.int G f)):f=((aM b c:Nat):Int)/\∃k,bT b c=K k:=by
 have a:=g (.lit (.int G 0));rw [Hr,j] at a;simp only [DataW.lit.injEq,Lit.int.injEq,true_and] at a;have h:=has_true_of_atKey g;rw [Jb] at h;exact⟨a.symm,Option.isSome_iff_exists.1 h⟩
theorem mD{a:DS}{c:Nat}(g:Inv a c)(b:Bs):iJ a b<=16777216:=by
 unfold iJ;by_cases f:aM a.names b<a.all.length
 .exact(g.data _ f).2
 .unfold DS.file
  rw [Yp,List.getElem?_eq_none O];simp [DF.ae]
theorem oI(u:Nat)(i:bY)(a:DS)(a7:Nat)(b:V)(r:DP b u i a)(y:Inv a a7)(e6:a7<=100000):
  d prog 155 #[Q (K u)] b λe3 h2=>e3=e (A G (fD a:Int))/\X b b h2:=by
 have R:=E r;have p:=E y;have a0:=E (show b.ownsMap prog 9 (plainElem prog 3) i.bn a.names.length (ui a.names) from r.gI)
 have i1:a.names.length<=100000:=by have:=y.gI;omega
 have h5:b.cell? ⟨u,2,I⟩=K (.map (K i.bn)):=r.cell 2;clear r y e6;go_enter func155,ntmps155
 go_wp2_with (at_range;refine wpList_range_own _ rfl _ 123 rfl 9 3 qj underlying123 _ i.bn _ _ rfl a0.o ?_;intro w0 c0 j g4)
 go_frame;have c9:=E c0;have e8:X b b w0:=⟨j.os,j.tape,j.output,j.size,λL k=>j.block L k Y⟩;clear c0 j g4
 go_loopw [3] (λh1 wr=>∃(left:Lit->Bool) (x:Nat) (g:List Bs),wr.ranges prog 9 (plainElem prog 3) i.bn b a.names.length (ui a.names) left x/\g.length+x<=a.names.length/\Collected (ui a.names) left g/\h1=A G ((((g.map (iJ a)).sum:Nat)):Int)/\X b b wr)
  (λ_ wr=>wr.rangeLeft i.bn b)
 case atStart=>exact⟨_,_,[],c9.o,by simp [rI],Collected.start _,rfl,e8⟩
 case round=>
  obtain⟨left,x,g,b9,h9,a9,rfl,C⟩:=hrel;have a3:=E b9;have T:=E a9;have b1:=qq (f:=iJ a) (l:=g) (M:=16777216) (λc _=>mD p.o c)
  have a5:Hd (∀c,((g++[c]).map (iJ a)).sum=(g.map (iJ a)).sum+iJ a c):=λc=>by simp
  have a1:Hd (∀(m:g.Perm (cK a.names)),(g.map (iJ a)).sum=fD a):=λm=>OP (m.map _)
  obtain⟨n,c2⟩:∃n,(g.map (iJ a)).sum=n:=⟨_,rfl⟩;rw [c2] at b1 a5 a1⊢
  have h7:n<=1677721600000:=by
   have:g.length*16777216<=100000*16777216:=Nat.mul_le_mul_right _ O;omega
  clear c2 b1 b9 a9
  go_wp2_with (at_next;refine wpList_next_ranges _ rfl _ rfl 9 qj (plainElem prog 3) Go.Proofs.encStr (A G) (λi4 h0 k=>by obtain⟨c,g6,_⟩:=Maps.keyOf_str underlying9 k;exact⟨c,g6⟩) (λh i5 t=>by obtain⟨w,rfl,_⟩:=plainElem_int_inv underlying3 t;exact⟨w,rfl⟩) i.bn b _ _ _ _ rfl a3.o ?_ ?_)
  .intro h8 g3
   go_wp2;go_returns;have m:=T.o.perm a0.o qj underlying9 g3;rw [lK] at m;exact⟨by rw [a1.o m];rfl,C⟩
  .intro c w h0 i6 i7 c6 e2 b5 b6 t z c1 b7 b4 g5 i0
   obtain⟨h3,e4,rfl,_⟩:=Maps.keyOf_str underlying9 b5;obtain rfl:c=h3:=encStr_inj e4;obtain⟨e0,a8,c4, -⟩:=plainElem_int_inv underlying3 t
   obtain rfl:w=e0:=by simpa using a8
   obtain⟨b2,h,F⟩:=vU z (congrArg Prod.fst c4)
   have D:aM a.names c=h:=by unfold aM;rw [F];rfl
   have s:h<a.all.length:=p.o.PO _ (jF F);rw [D] at b2;subst b2
   have a6:Hd (iJ a c=(a.file h).data.length):=by show _=_;unfold iJ;rw [D]
   have b0:X b b c6:=C.grown b4 C.size (λg7 g2=>by cases g2;exact Yk _);have v:=E (R.o.stays λL k=>b0.block L (R.o.lt k));obtain⟨e5,cap,c3,g0,g1,c5,g8,g9⟩:=v.o.head (j:=h) s;obtain⟨h4,h6,b3⟩:=aK (v.o.jl h s);have e9:=(p.o.data _ s).2;rw [b3] at c5;have e1:c6.cell? ⟨u,1,I⟩=K (U (K e5) a.all.length cap):=(v.o.cell 1).trans (congrArg K c3);have c7:=E (T.o.step b6 z);have a2:=E c1;obtain⟨len,J⟩:∃len,(a.file h).data.length=len:=⟨_,rfl⟩
   have c8:Hd (iJ a c=len):=by show _=_;rw [a6.o,J]
   rw [J] at c5 e9;have e7:=p.o.me;obtain⟨P,b8⟩:∃P,a.all.length=P:=⟨_,rfl⟩;rw [b8] at s e1;have i2:(0:Int)<=(h:Int):=O;have i3:(h:Int)<(P:Int):=O
   have q:Zc G ((n:Int)+(len:Int))=((n+len:Nat):Int):=by rw [Yx _ O];omega
   have W:=E b7;clear b5 b6 t z c1 b7 b4 g5 c4 F D b3 g8 g9 c3 J b8 e7 g0 g1 a6 a8;go_wp2;go_roundw
   case rel=>exact⟨_,e2,g++[c],a2.o,by rw [Yq,Zb];have:=W.o;omega,c7.o,by rw [a5.o c,c8.o];exact int_eq O,b0⟩
   case measure=>rw [a2.o.left_eq,a3.o.left_eq];exact W.o
end
end Go.Proofs.YtajkpgaheechmaaGreatDoor
