/- FmP FmA FmB FmC FmD FmE FmF FmG FmH -/
import Derived.Test.YtajkpgaheechmaaGreatDoorZAP
import Derived.Lib.Strings
set_option maxRecDepth 100000
set_option maxHeartbeats 16000000
set_option linter.unusedSimpArgs false
set_option linter.unusedVariables false
set_option linter.unusedSectionVars false
namespace Go.Proofs.YtajkpgaheechmaaGreatDoor
open _root_.Go.Proofs.Tryz
open Go.Value renaming int->A,slice->U,pointer->Q,nilIface->Ya,string->Yb,agg->Yc,iface->Yd,tuple->Ye
open Go.IntKind renaming i64->G,u8->Yf
open Option renaming none->I,some->K
open Go.Obj renaming cells->M
open Go.Ending renaming returned->e
open Go renaming World->V,Value->Z,Calls->d,Addr->Yi,maxLen->YO
open Go.RowKit renaming Below->X,intOf->Yz
open Or renaming inl->Yg,inr->Yh
open Go.World renaming block_lt_of_cell?->Yj,cell?_of_block->YS
open Nat renaming le_refl->Yk,le_trans->Yl,zero_le->Yr,lt_of_lt_of_le->Yv
open UInt8 renaming ofNat->Ym
open Go.RowKit.Below renaming refl->Yn,heap_setCell->Yt
open List renaming length_append->Yq,getElem?_eq_getElem->YM,getD->YR
open Go.Value.slice renaming injEq->Yy
open Option.some renaming inj->YG
open And renaming intro->YI
section
def FL(b:Bs)(a:Nat):Bs:=b++[Ym (48+a / 10),Ym (48+a%10)]
def iz(a:Nat):Bs:=FL [99,46] a
def I'(a:Nat):Bs:=FL [116,46] a
def fM:Bs:=[111,117,116]
def TE:Bs:=[111,117,116,46,116,109,112]
def iX(a:Bs):List aU:=(tw aF a).1
def gF(b:List aU):Nat->Nat
 |0=>0
 |a+1=>gF b a+(eK aF (b.getD a de)).length
def sL(a:Bs):Nat:=eQ (iX a) (iX a).length
def wZ(a:Bs):Nat:=gF (iX a) (sL a)
def nD(a:Bs):bJ:=(a_ (iX a) (iX a).length).1
def cG(a:DS):DS×Int:=if eh a aw≠0 then (a,eh a aw) else if wZ (cy a aw)=(cy a aw).length then (a,0) else iM ((cy a aw).take (wZ (cy a aw))) a
def kI(c:aU)(a:DS)(b:bJ):DS×bJ×Int:=if fQ a aw≠0 then (cV a aw,b,fQ a aw) else (cV a aw,(eY b c).2,(eY b c).1)
def jE(a:aU)(b:DS)(c:bJ):DS×bJ×Int:=if gf b aw (eK aF a)≠0 then (du b aw (eK aF a),c,gf b aw (eK aF a)) else kI a (du b aw (eK aF a)) c
def gR(f c:Nat)(b:DS)(a:bJ):DS×bJ×Int:=if a.state=0 then jE ⟨48,f,c,0,0⟩ b a else if a.sum≠f∨a.chunks≠c then (b,a,14) else (b,a,0)
def jd(c:Nat)(b:DS)(a:bJ):DS×bJ×Int:=if c=0/\a.state=2 then (b,a,14) else if c≠0/\a.state=1 then jE ⟨50,0,0,0,c⟩ b a else (b,a,0)
def bz(k j i:Nat)(h:DS):DS×bJ×Nat×Int:=
 let f:=bm (aI h) false h
 if f.2≠0 then (f.1,nd,1,f.2) else
 let c:=bk f.1
 if c.2≠0 then (c.1,nd,2,c.2) else
 let g:=cG c.1
 if g.2≠0 then (g.1,nd,3,g.2) else
 let a:=gR k j g.1 (nD (cy c.1 aw))
 if a.2.2≠0 then (a.1,a.2.1,4,a.2.2) else
 let b:=jd i a.1 a.2.1
 if b.2.2≠0 then (b.1,b.2.1,5,b.2.2) else (b.1,b.2.1,0,0)
section
variable {key code:Nat} {D:DS} {T:Nat}
def NX(key code a:Nat):bJ:=if a=0 then nd else if a=1 then ⟨1,key,0,0,[],de⟩ else ⟨2,key,0,code,[],de⟩
theorem NZ{a:Bs}(o:key<4294967296)(n:1<=code/\code<=15)(m:a<+:dM aF key++eG aF code):
  nD a=NX key code (f_ (dM aF key) (eG aF code) a)/\wZ a=ends (dM aF key) (eG aF code) (f_ (dM aF key) (eG aF code) a)/\f_ (dM aF key) (eG aF code) a<=2:=by
 have p:=LW (S:=aF) iZ o n m;have f:=se aF key;have j:=sg aF code;unfold nD wZ sL iX ends NX;rw [p]
 have r:f_ (dM aF key) (eG aF code) a<=2:=by unfold f_;split;omega;split<;>omega
 generalize f_ (dM aF key) (eG aF code) a=l at*;have k:(eK aF (cO key)).length=13:=f;have q:(eK aF (gh code)).length=9:=j;by_cases h:l=0
 .subst h;exact⟨rfl,rfl,O⟩
 .simp only [h,if_false]
  by_cases i:l=1
  .subst i
   simp only [if_true]
   have b:a_ [cO key] 1=(⟨1,key,0,0,[],de⟩,true):=by simp [a_,eY,cO,nd]
   refine⟨by show(a_ [cO key] 1).1=_;rw [b],?_,O⟩
   have c:eQ [cO key] 1=1:=by unfold eQ;rw [b];rfl
   show gF [cO key] (eQ [cO key] 1)=_
   rw [c,f]
   show 0+(eK aF (cO key)).length=13
   rw [k]
  .simp only [i,if_false]
   have b:a_ [cO key,gh code] 1=(⟨1,key,0,0,[],de⟩,true):=by simp [a_,eY,cO,nd]
   have g:a_ [cO key,gh code] 2=(⟨2,key,0,code,[],de⟩,true):=by rw [a_,b];simp [eY,zQ,gh]
   refine⟨by show(a_ [cO key,gh code] 2).1=_;rw [g],?_,O⟩
   have c:eQ [cO key,gh code] 2=2:=by unfold eQ;rw [g];rfl
   show gF [cO key,gh code] (eQ [cO key,gh code] 2)=_
   rw [c,Yq,f,j]
   show 0+(eK aF (cO key)).length+(eK aF (gh code)).length=13+9
   rw [k,q]
theorem B_(D:DS):jE ⟨48,key,0,0,0⟩ D nd=((ig (dM aF key) D).1,if (ig (dM aF key) D).2=0 then ⟨1,key,0,0,[],de⟩ else nd,(ig (dM aF key) D).2):=by
 unfold jE ig pO
 show(if gf D aw (dM aF key)≠0 then _ else _)=_
 by_cases a:gf D aw (dM aF key)=0
 .simp only [a,ne_eq,not_true,if_false,if_true]
  unfold kI
  show(if fQ (du D aw (dM aF key)) aw≠0 then _ else _)=_
  by_cases b:fQ (du D aw (dM aF key)) aw=0
  .simp only [b,ne_eq,not_true,if_false,if_true]
   simp [eY,nd];rfl
  .simp only [b,ne_eq,not_false_eq_true,if_true,if_false];rfl
 .simp only [a,ne_eq,not_false_eq_true,if_true,if_false];rfl
theorem vG(D:DS):jE ⟨50,0,0,0,code⟩ D ⟨1,key,0,0,[],de⟩=((ig (eG aF code) D).1,if (ig (eG aF code) D).2=0 then ⟨2,key,0,code,[],de⟩ else ⟨1,key,0,0,[],de⟩,(ig (eG aF code) D).2):=by
 unfold jE ig pO
 show(if gf D aw (eG aF code)≠0 then _ else _)=_
 by_cases a:gf D aw (eG aF code)=0
 .simp only [a,ne_eq,not_true,if_false,if_true]
  unfold kI
  show(if fQ (du D aw (eG aF code)) aw≠0 then _ else _)=_
  by_cases b:fQ (du D aw (eG aF code)) aw=0
  .simp only [b,ne_eq,not_true,if_false,if_true]
   simp [eY,zQ];rfl
  .simp only [b,ne_eq,not_false_eq_true,if_true,if_false];rfl
 .simp only [a,ne_eq,not_false_eq_true,if_true,if_false];rfl
theorem KZ(w:key<4294967296)(v:1<=code/\code<=15)(u:cz (dM aF key++eG aF code) D T):
  (bz key 0 code D).1=(rq (dM aF key) (eG aF code) D).1/\(bz key 0 code D).2.2.2=(rq (dM aF key) (eG aF code) D).2/\((bz key 0 code D).2.2.2=0->(bz key 0 code D).2.1=⟨2,key,0,code,[],de⟩/\(bz key 0 code D).2.2.1=0):=by
 unfold bz rq;have s:=jj (aI D) false u;generalize bm (aI D) false D=q at*;simp only;unfold pO;by_cases j:q.2=0
 .simp only [j,ne_eq,not_true,if_false,if_true]
  have t:=ka s;generalize bk q.1=a at*;by_cases k:a.2=0
  .simp only [k,not_true,if_false,if_true]
   unfold cG;by_cases g:eh a.1 aw=0
   .simp only [g,ne_eq,not_true,if_false]
    have o:=t.cont aw;rw [<-sG g] at o;obtain⟨y,z,C⟩:=NZ w v o;rw [y,z];unfold gx;generalize f_ (dM aF key) (eG aF code) (cy a.1 aw)=f at*;generalize (if ends (dM aF key) (eG aF code) f=(cy a.1 aw).length then (a.1,(0:Int)) else iM ((cy a.1 aw).take (ends (dM aF key) (eG aF code) f)) a.1)=h;by_cases l:h.2=0
    .simp only [l,not_true,if_false,if_true]
     unfold gR jg NX;by_cases n:f=0
     .subst n
      simp only [if_true,show nd.state=0 from rfl];rw [B_];generalize ig (dM aF key) h.1=r;by_cases m:r.2=0
      .simp only [m,not_true,if_false,if_true]
       unfold jd xQ;have c:¬code=0:=O;simp only [c,false_and,if_false,ne_eq,not_false_eq_true,true_and,if_true,Yr];rw [vG];generalize ig (eG aF code) r.1=i;by_cases b:i.2=0
       .simp [b]
       .simp [b]
      .simp [m]
     .simp only [n,if_false]
      by_cases p:f=1
      .subst p
       simp only [if_true,show¬(1:Nat)=0 by decide,if_false,ne_eq,not_true,or_self];unfold jd xQ;have c:¬code=0:=O;simp only [c,false_and,if_false,ne_eq,not_false_eq_true,true_and,if_true,Yk];rw [vG];generalize ig (eG aF code) h.1=i;by_cases b:i.2=0
       .simp [b]
       .simp [b]
      .simp only [p,if_false,show¬(2:Nat)=0 by decide,ne_eq,not_true,or_self]
       unfold jd xQ;have c:¬code=0:=O;have x:¬f<=1:=O;simp [c,x]
    .simp [l]
   .simp [g]
  .simp [k]
 .simp [j]
end
end
section
open Go.RowKit
theorem zU(c a:ByteArray)(f:V):d prog 275 #[.string c,.string a] f λg h=>g=e (.bool (Lib.hasPrefix c.data.toList a.data.toList))/\f=h:=by
 rw [<-Lib.hasPrefix_of_take,<-Lib.size_eq,<-Lib.size_eq];go_enter func275,ntmps275;go_wp2
 .rename_i b
  go_ret;refine⟨?_,rfl⟩
  show e (Value.bool ((c.extract 0 a.size).toList==a.toList))=_
  rw [Lib.extract_toList,Lib.toList_data];simp [b]
 .rename_i b
  go_ret;refine⟨?_,rfl⟩
  show e (Value.bool false)=_
  simp [b]
theorem Gr(c b:ByteArray)(a:V):d prog 249 #[.string c,.string b] a λf g=>f=e (.bool (Lib.hasPrefix c.data.toList b.data.toList))/\a=g:=by
 have C:=E (λa=>zU c b a);go_enter func249,ntmps249
 go_wp2_with (go_at_call 275;refine(C.o _).mono ?_;rintro f g ⟨rfl,rfl⟩)
 go_ret;exact⟨rfl,rfl⟩
theorem xv(a:Bs)(c:V):d prog 207 #[Yb ⟨a.toArray⟩] c λb f=>b=e (.bool (pK a))/\c=f:=by
 have C:=E (λc=>Gr ⟨a.toArray⟩ ⟨#[116,46]⟩ c)
 have b:pK a=(Lib.hasPrefix a [116,46]||(a==dH||a==[111,117,116,46,116,109,112])):=by unfold pK Lib.hasPrefix;simp [Bool.or_assoc]
 rw [b]
 have h:∀c,d prog 249 #[Yb ⟨a.toArray⟩,Yb ⟨#[116,46]⟩] c λb f=>b=e (.bool (Lib.hasPrefix a [116,46]))/\c=f:=C.o
 have g:=E h;clear C h b
 cases hp:Lib.hasPrefix a [116,46] with
 |true=>
  rw [hp] at g;go_enter func207,ntmps207
  go_wp2_with (go_at_call 249;refine(g.o _).mono ?_;rintro b f ⟨rfl,rfl⟩)
  go_ret;exact⟨rfl,rfl⟩
 |false=>
  rw [hp] at g;go_enter func207,ntmps207
  go_wp2_with (go_at_call 249;refine(g.o _).mono ?_;rintro b f ⟨rfl,rfl⟩)
  all_goals go_ret
  .rename_i i
   exact⟨by rw [i];rfl,rfl⟩
  .exact⟨rfl,rfl⟩
theorem DO(a:Bs):strOfNums (a.map λb=>(b.toNat:Int))=⟨a.toArray⟩:=by
 unfold strOfNums;rw [List.map_map];congr 1;congr 1
 conv=>rhs;rw [<-List.map_id a]
 refine List.map_congr_left λb _=>?_
 simp
theorem yX(a:V)(c:Option Yi)(b:Nat):(convert 24 9 (U c 0 b)).run prog a= .ok (.string ByteArray.empty) a:=by
 rw [run_convert_bytes_string a 24 9 5 _ 0 b underlying24 underlying5 underlying9];cases c<;>simp [Conv.bytesToString,loadCells]
 all_goals rfl
theorem ah.str{b:V}{h:Z}{a:Bs}(m:ah b h a):(convert 24 9 h).run prog b= .ok (Yb ⟨a.toArray⟩) b:=by
 obtain⟨j,cap,rfl,s,t,n,f⟩:=m
 cases j with
 |none=>
  have:a=[]:=by
   have:=n rfl;exact List.length_eq_zero_iff.1 O
  subst this;exact run_convert_bytes_nil b 24 5 underlying24 underlying5 _ _ 9 underlying9
 |some i=>
  rcases Nat.eq_zero_or_pos a.length with c|c
  .have:a=[]:=List.length_eq_zero_iff.1 c
   subst this;exact yX b (K i) cap
  .obtain⟨q,off,k,_⟩:=f 0 c
   obtain rfl:=YG k;rw [<-DO a];refine run_convert_bytes_arg b 24 5 underlying24 underlying5 q off a.length cap (a.map λr=>(r.toNat:Int)) Y (λp g=>?_) 9 underlying9;obtain⟨u,v,l,o⟩:=f p g;obtain⟨rfl,rfl, -⟩:=Addr.mk.inj (YG l);rw [o];simp [YR,g]
theorem vV(c:Bs)(a:Nat)(q:a<=99)(o:c.length<=24)(f:V):
  d prog 190 #[Yb ⟨c.toArray⟩,A G a] f λg k=>g=e (Yb ⟨(FL c a).toArray⟩)/\X f f k:=by
 have l:¬(a:Int)<0:=O;have m:¬(a:Int)>99:=O
 have p:(convert 24 9 (U (K f) 2 2)).run prog (f.alloc (M #[A Yf (48+(a:Int) / 10),A Yf (48+(a:Int)%10)] 5))= .ok (Yb ⟨#[Ym (48+a / 10),Ym (48+a%10)]⟩) (f.alloc (M #[A Yf (48+(a:Int) / 10),A Yf (48+(a:Int)%10)] 5)):=by
  have h:(48+(a:Int) / 10)=((Ym (48+a / 10)).toNat:Int):=by rw [nt];omega
  have i:(48+(a:Int)%10)=((Ym (48+a%10)).toNat:Int):=by rw [nt];omega
  rw [h,i];have j:ah _ _ ([Ym (48+a / 10),Ym (48+a%10)]:Bs):=aq (b:=[Ym (48+a / 10),Ym (48+a%10)]) (World.ownsRow_lit f #[A Yf ((Ym (48+a / 10)).toNat:Int),A Yf ((Ym (48+a%10)).toNat:Int)] 2 (Yk _) (by simp [YO]) Y);exact j.str
 go_enter func190,ntmps190;have n:¬9223372036854775807<c.length+2:=O;go_wp2;go_returns;refine⟨?_,N⟩
 have g:(⟨c.toArray⟩:ByteArray)++⟨#[Ym (48+a / 10),Ym (48+a%10)]⟩=⟨(FL c a).toArray⟩:=by
  unfold FL;rw [show(⟨c.toArray⟩:ByteArray)++⟨#[Ym (48+a / 10),Ym (48+a%10)]⟩=ByteArray.append ⟨c.toArray⟩ ⟨#[Ym (48+a / 10),Ym (48+a%10)]⟩ from rfl];rfl
 rw [<-g];simp
theorem uL(b:Nat)(i:b<=99)(a:V):d prog 148 #[A G b] a λc f=>c=e (Yb ⟨(iz b).toArray⟩)/\X a a f:=by
 have C:=E (λa=>show d prog 190 #[Yb ⟨#[99,46]⟩,A G b] a λc f=>c=e (Yb ⟨(iz b).toArray⟩)/\X a a f from vV [99,46] b i H a);go_enter func148,ntmps148
 go_wp2_with (go_at_call 190;refine(C.o _).mono ?_;rintro c j ⟨rfl,g⟩;have h:=E g;clear g)
 go_returns;exact⟨rfl,h.o⟩
theorem Ms(b:Nat)(i:b<=99)(a:V):d prog 147 #[A G b] a λc f=>c=e (Yb ⟨(I' b).toArray⟩)/\X a a f:=by
 have C:=E (λa=>show d prog 190 #[Yb ⟨#[116,46]⟩,A G b] a λc f=>c=e (Yb ⟨(I' b).toArray⟩)/\X a a f from vV [116,46] b i H a);go_enter func147,ntmps147
 go_wp2_with (go_at_call 190;refine(C.o _).mono ?_;rintro c j ⟨rfl,g⟩;have h:=E g;clear g)
 go_returns;exact⟨rfl,h.o⟩
theorem af.js{F g:Nat->Prop}{f h i:V}(b:af F f h)(c:af g h i)(m:∀a,g a->F a∨f.heap.size<=a):af F f i:=
 ⟨c.os.trans b.os,c.tape.trans b.tape,c.output.trans b.output,Yl b.size c.size,λa j k=>(c.block a (Yv j b.size) (λl=>(m a l).elim k (λn=>O))).trans (b.block a j k)⟩
structure SN(W:V)(p:Nat)(L:bY)(w:V)(L':bY)(D':DS)(w':V):Prop where
 aB:aC W p L' D' w'
 aD:af (L.has p) w w'
 new:∀k,L'.has p k->L.has p k∨w.heap.size<=k
def FD(c:V)(q b:Nat):Prop:=∃a,ai c q a 114/\a[0]? =K (Q (K b))
section
variable {W:V} {p:Nat} {L L1 L2:bY} {D D1 D2:DS} {w w1 w2:V}
theorem SN.refl(a:aC W p L D w):SN W p L w L D w:=⟨a,af.refl _ _,λ_ b=>Yg b⟩
theorem SN.trans(a:SN W p L w L1 D1 w1)(c:SN W p L1 w1 L2 D2 w2):SN W p L w L2 D2 w2:=
 ⟨c.aB,a.aD.js c.aD a.new,λf g=>by
  rcases c.new f g with b|b
  .exact a.new f b
  .exact Yh (Yl a.aD.size b)⟩
theorem SN.ext(a:SN W p L w L1 D1 w1)(b:X w1 w1 w2):SN W p L w L1 D1 w2:=⟨a.aB.ext b,a.aD.trans (af.aj b),a.new⟩
theorem bM.sn(g:bM W p L D1 w w1):∃a,SN W p L w a D1 w1:=by
 obtain⟨a,b,c,f⟩:=g;exact⟨a,b,c,f⟩
theorem mO{q:Nat}{g:Array Z}(a:DP w p L D)(b:ai w q g 114):¬L.has p q:=by
 rintro(rfl|c|c|rfl|rfl|⟨i,h,c⟩)
 .have f:=a.ay
  unfold ai at f b;rw [b] at f;simp at f
 .exact cW b a.all H c
 .exact cW b a.lJ H c
 .exact oU a.gI b rfl
 .exact oU a.rN b rfl
 .exact cW b (a.jl i (by rw [<-a.len];exact h)) H c
theorem SN.ay(f:SN W p L w L1 D1 w1)(c:DP w p L D){q:Nat}{b:Array Z}(a:ai w q b 114):ai w1 q b 114:=a.bS (f.aD.block q a.lt (mO c a))
theorem FD.cell{q:Nat}(a:FD w q p):w.cell? q=K (Q (K p)):=by
 obtain⟨f,b,c⟩:=a;exact(b.cell 0).trans c
theorem FD.ext{q:Nat}(b:FD w q p)(g:X w w w1):FD w1 q p:=by
 obtain⟨a,c,f⟩:=b;exact⟨a,c.ext g,f⟩
theorem SN.fd(c:SN W p L w L1 D1 w1)(a:DP w p L D){q:Nat}(h:FD w q p):FD w1 q p:=by
 obtain⟨b,f,g⟩:=h;exact⟨b,c.ay a f,g⟩
end
theorem ML{r:V}{i:Nat}{e5:bY}{a6:DS}{b1:V}(q p:Nat)(y:Bs)(c7:Z)(h2:aC r i e5 a6 b1)(e9:FD b1 q i)(s:Inv a6 p)(i9:p+15<=100000)(c6:∀c,af (e5.has i) b1 c->ah c c7 y):
  d prog 209 #[Q (K q),c7] b1 λb v=>b=e (bj (iM y a6).2)/\∃i1,SN r i e5 b1 i1 (iM y a6).1 v:=by
 obtain⟨D,rfl⟩:∃g,g=a6:=⟨_,rfl⟩;obtain⟨F,c2⟩:∃g,g=br D dH:=⟨_,rfl⟩;obtain⟨b2,g0⟩:∃g,g=b_ D (bU D dH):=⟨_,rfl⟩;obtain⟨J,c3⟩:∃g,g=du F dH y:=⟨_,rfl⟩;obtain⟨b3,g1⟩:∃g,g=gf F dH y:=⟨_,rfl⟩;obtain⟨L,c4⟩:∃g,g=cV J dH:=⟨_,rfl⟩;obtain⟨b4,g2⟩:∃g,g=fQ J dH:=⟨_,rfl⟩;obtain⟨P,c5⟩:∃g,g=gO L dH aw:=⟨_,rfl⟩;obtain⟨b5,g3⟩:∃g,g=oC L dH aw:=⟨_,rfl⟩;obtain⟨g7,e8⟩:∃g,g=dG P:=⟨_,rfl⟩;obtain⟨h8,g4⟩:∃g,g=jY P:=⟨_,rfl⟩;have h:=E h2;have j:=E e9;have c0:=E c6;have i6:=e9.cell;have a5:=E (λ(c:V) (k:bY) (x:aC r i k D c) (s:Inv D (p+0))=>show d prog 105 #[Q (K i),Yb ⟨#[106,111,98,46,116,109,112]⟩] c λb v=>b=e (bj b2)/\bM r i k F c v from by rw [g0,c2];exact x.create s O H);have b6:=E (λ(c:V) (k:bY) (x:aC r i k F c) (s:Inv F (p+3)) (c6:ah c c7 y)=>show d prog 106 #[Q (K i),Yb ⟨#[106,111,98,46,116,109,112]⟩,c7] c λb v=>b=e (bj b3)/\bM r i k J c v from by rw [g1,c3];exact x.append s O H c6);have c9:=E (λ(c:V) (k:bY) (x:aC r i k J c) (s:Inv J (p+6))=>show d prog 107 #[Q (K i),Yb ⟨#[106,111,98,46,116,109,112]⟩] c λb v=>b=e (bj b4)/\bM r i k L c v from by rw [g2,c4];exact x.sync s O H);have g6:=E (λ(c:V) (k:bY) (x:aC r i k L c) (s:Inv L (p+9))=>show d prog 108 #[Q (K i),Yb ⟨#[106,111,98,46,116,109,112]⟩,Yb ⟨#[106,111,98]⟩] c λb v=>b=e (bj b5)/\bM r i k P c v from by rw [g3,c5];exact x.rename s O H H);have h9:=E (λ(c:V) (k:bY) (x:aC r i k P c) (s:Inv P (p+12))=>show d prog 109 #[Q (K i)] c λb v=>b=e (bj h8)/\bM r i k g7 c v from by rw [g4,e8];exact x.rC s O);have e0:Inv D (p+0):=s
 have e1:Inv F (p+3):=by rw [c2];exact Inv.br e0 dH
 have e2:Inv J (p+6):=by rw [c3];exact Inv.du e1 dH y
 have e3:Inv L (p+9):=by rw [c4];exact Inv.cV e2 dH
 have g8:Inv P (p+12):=by rw [c5];exact Inv.gO e3 dH aw
 have h4:iM y D=if b2=0 then (if b3=0 then (if b4=0 then (if b5=0 then (g7,h8) else (P,b5)) else (L,b4)) else (J,b3)) else (F,b2):=by subst g4 g3 g2 g1 g0 e8 c5 c4 c3 c2;rfl
 rw [h4];clear h4 c6 s h2;clear g4 e8 g3 c5 g2 c4 g1 c3 g0 c2;have a8:=E e0;have b8:=E e1;have e4:=E e2;have g9:=E e3;have i0:=E g8;clear e0 e1 e2 e3 g8 e9;by_cases a0:b2=0
 case neg=>
  rw [if_neg a0];have R:=E (aT a0);clear a0;go_enter func209,ntmps209
  go_wp2_with (first
   |(go_at_call 105;refine(a5.o _ _ h.o a8.o).mono ?_;rintro b c8 ⟨a,m⟩;rw [R.o] at a;subst a;obtain⟨b9,n⟩:=m.sn;have f:=E n;have c1:=(f.o.fd h.o.dp j.o).cell;clear n m))
  go_returns;exact⟨by rw [R.o];rfl,_,f.o⟩
 rw [if_pos a0]
 have R:Hd (bj b2=Ya):=by rw [a0];exact ar
 clear a0;by_cases a1:b3=0
 case neg=>
  rw [if_neg a1];have T:=E (aT a1);clear a1;go_enter func209,ntmps209
  go_wp2_with (first
   |(go_at_call 106;refine(b6.o _ _ f.o.aB b8.o (c0.o _ f.o.aD)).mono ?_;rintro b g5 ⟨a,t⟩;rw [T.o] at a;subst a;obtain⟨e6,u⟩:=t.sn;have l:=E (f.o.trans u);have e7:=(l.o.fd h.o.dp j.o).cell;clear u t)
   |(go_at_call 105;refine(a5.o _ _ h.o a8.o).mono ?_;rintro b c8 ⟨a,m⟩;rw [R.o] at a;subst a;obtain⟨b9,n⟩:=m.sn;have f:=E n;have c1:=(f.o.fd h.o.dp j.o).cell;clear n m))
  go_returns;exact⟨by rw [T.o];rfl,_,l.o⟩
 rw [if_pos a1]
 have T:Hd (bj b3=Ya):=by rw [a1];exact ar
 clear a1;by_cases a2:b4=0
 case neg=>
  rw [if_neg a2];have a7:=E (aT a2);clear a2;go_enter func209,ntmps209
  go_wp2_with (first
   |(go_at_call 107;refine(c9.o _ _ l.o.aB e4.o).mono ?_;rintro b h7 ⟨a,z⟩;rw [a7.o] at a;subst a;obtain⟨h0,C⟩:=z.sn;have w:=E (l.o.trans C);have h3:=(w.o.fd h.o.dp j.o).cell;clear C z)
   |(go_at_call 106;refine(b6.o _ _ f.o.aB b8.o (c0.o _ f.o.aD)).mono ?_;rintro b g5 ⟨a,t⟩;rw [T.o] at a;subst a;obtain⟨e6,u⟩:=t.sn;have l:=E (f.o.trans u);have e7:=(l.o.fd h.o.dp j.o).cell;clear u t)
   |(go_at_call 105;refine(a5.o _ _ h.o a8.o).mono ?_;rintro b c8 ⟨a,m⟩;rw [R.o] at a;subst a;obtain⟨b9,n⟩:=m.sn;have f:=E n;have c1:=(f.o.fd h.o.dp j.o).cell;clear n m))
  go_returns;exact⟨by rw [a7.o];rfl,_,w.o⟩
 rw [if_pos a2]
 have a7:Hd (bj b4=Ya):=by rw [a2];exact ar
 clear a2;by_cases a3:b5=0
 case neg=>
  rw [if_neg a3];have b7:=E (aT a3);clear a3;go_enter func209,ntmps209
  go_wp2_with (first
   |(go_at_call 108;refine(g6.o _ _ w.o.aB g9.o).mono ?_;rintro b i4 ⟨a,a9⟩;rw [b7.o] at a;subst a;obtain⟨i2,b0⟩:=a9.sn;have W:=E (w.o.trans b0);have i3:=(W.o.fd h.o.dp j.o).cell;clear b0 a9)
   |(go_at_call 107;refine(c9.o _ _ l.o.aB e4.o).mono ?_;rintro b h7 ⟨a,z⟩;rw [a7.o] at a;subst a;obtain⟨h0,C⟩:=z.sn;have w:=E (l.o.trans C);have h3:=(w.o.fd h.o.dp j.o).cell;clear C z)
   |(go_at_call 106;refine(b6.o _ _ f.o.aB b8.o (c0.o _ f.o.aD)).mono ?_;rintro b g5 ⟨a,t⟩;rw [T.o] at a;subst a;obtain⟨e6,u⟩:=t.sn;have l:=E (f.o.trans u);have e7:=(l.o.fd h.o.dp j.o).cell;clear u t)
   |(go_at_call 105;refine(a5.o _ _ h.o a8.o).mono ?_;rintro b c8 ⟨a,m⟩;rw [R.o] at a;subst a;obtain⟨b9,n⟩:=m.sn;have f:=E n;have c1:=(f.o.fd h.o.dp j.o).cell;clear n m))
  go_returns;exact⟨by rw [b7.o];rfl,_,W.o⟩
 rw [if_pos a3]
 have b7:Hd (bj b5=Ya):=by rw [a3];exact ar
 clear a3;go_enter func209,ntmps209
 go_wp2_with (first
  |(go_at_call 109;refine(h9.o _ _ W.o.aB i0.o).mono ?_;rintro b j0 ⟨a,h5⟩;subst a;obtain⟨i5,h6⟩:=h5.sn;have h1:=E (W.o.trans h6);have i7:=(h1.o.fd h.o.dp j.o).cell;clear h6 h5)
  |(go_at_call 108;refine(g6.o _ _ w.o.aB g9.o).mono ?_;rintro b i4 ⟨a,a9⟩;rw [b7.o] at a;subst a;obtain⟨i2,b0⟩:=a9.sn;have W:=E (w.o.trans b0);have i3:=(W.o.fd h.o.dp j.o).cell;clear b0 a9)
  |(go_at_call 107;refine(c9.o _ _ l.o.aB e4.o).mono ?_;rintro b h7 ⟨a,z⟩;rw [a7.o] at a;subst a;obtain⟨h0,C⟩:=z.sn;have w:=E (l.o.trans C);have h3:=(w.o.fd h.o.dp j.o).cell;clear C z)
  |(go_at_call 106;refine(b6.o _ _ f.o.aB b8.o (c0.o _ f.o.aD)).mono ?_;rintro b g5 ⟨a,t⟩;rw [T.o] at a;subst a;obtain⟨e6,u⟩:=t.sn;have l:=E (f.o.trans u);have e7:=(l.o.fd h.o.dp j.o).cell;clear u t)
  |(go_at_call 105;refine(a5.o _ _ h.o a8.o).mono ?_;rintro b c8 ⟨a,m⟩;rw [R.o] at a;subst a;obtain⟨b9,n⟩:=m.sn;have f:=E n;have c1:=(f.o.fd h.o.dp j.o).cell;clear n m))
 go_returns;exact⟨rfl,_,h1.o⟩
theorem GR(J:Nat)(c:List Bs)(f:Bs)(F:Z)(s:V)(i:s.ownsRow J 9 1 F c.length (c.map encStr)):
  d prog 160 #[F,Yb ⟨f.toArray⟩] s λb a2=>(∃j:Int,b=e (A G j)/\(0<=j↔c.contains f=true))/\s=a2:=by
 obtain⟨k,t⟩:∃k,c.length=k:=⟨_,rfl⟩;have L:=E i;rw [t] at i;obtain⟨b0,cap,rfl⟩:=aK i
 have b6:k<=9223372036854775807:=by have:=i.1;obtain⟨a3,P⟩:=i;rcases P with⟨R,T⟩|⟨x,W,b1,R,T,a5,a6,a7,a8,a9⟩<;>(simp [YO] at*;omega)
 have n:=E t;clear i t;go_enter func160,ntmps160;go_wp2;go_loop [8] (λj=>∃a:Nat,a<=k/\j=A G a/\∀g,g<a->c.getD g []≠f) (λj=>k - (Yz j).toNat)
 case atStart=>exact⟨0,Yr _,rfl,λg p=>O⟩
 case round=>
  obtain⟨a,b5,rfl,D⟩:=hrel;have w:=E D;clear D;by_cases C:a<k
  .have r:=L.o
   rw [n.o] at r
   have m:(c.map encStr)[a]? =K (encStr (c.getD a [])):=by
    have q:a<c.length:=by rw [n.o];exact C
    rw [List.getElem?_map,YM q];simp [YR,q]
   rcases aV r with⟨_,b2⟩|⟨x,W,b,_⟩
   .omega
   simp only [Yy] at b;obtain⟨rfl, -,rfl⟩:=b;have a1:s.cell? ⟨x,a,I⟩=K (Yb ⟨(c.getD a []).toArray⟩):=au r m;have u:=E (show∃h,c.getD a []=h from⟨_,rfl⟩);obtain⟨h,m⟩:=u.o;rw [m] at a1;have v:=E m;clear r m u;by_cases l:h=f
   .subst l
    go_wp2;go_returns;refine⟨⟨(a:Int),rfl,⟨λ_=>?_,λ_=>O⟩⟩,rfl⟩
    have q:a<c.length:=by rw [n.o];exact C
    simp only [List.contains_iff_mem,<-v.o];simp [YR,q]
   .have b3:¬h.toArray.toList=f.toArray.toList:=by simpa using l
    have z:¬f.toArray.toList=h.toArray.toList:=by simpa using λb=>l b.symm
    have a0:¬f=h:=λb=>l b.symm
    have b4:(f==h)=false:=by simpa using a0
    go_wp2;go_round
    case rel=>exact⟨a+1,O,S,λg p=>by
     by_cases b:g=a
     .rw [b,v.o];exact l
     .exact w.o g O⟩
    case measure=>simp [Yz];omega
  .go_wp2
   go_returns;refine⟨⟨-1,rfl,⟨λy=>O,λy=>?_⟩⟩,rfl⟩
   have z:f∈c:=by simpa using y
   obtain⟨g,p,b⟩:=List.getElem_of_mem z;exact absurd (by simp [YR,p,b]) (w.o g (by rw [n.o] at p;omega))
theorem pJ(l:Nat)(b:List Bs)(c:Bs)(j:Z)(f:V)(n:f.ownsRow l 9 1 j b.length (b.map encStr)):
  d prog 115 #[j,Yb ⟨c.toArray⟩] f λg k=>g=e (.bool (b.contains c))/\f=k:=by
 have m:=E (GR l b c j f n);clear n
 cases hc:b.contains c with
 |true=>
  go_enter func115,ntmps115
  go_wp2_with (go_at_call 160;refine m.o.mono ?_;rintro g k ⟨⟨i,rfl,a⟩,rfl⟩;have h:0<=i:=a.2 hc;clear a)
  go_returns;exact⟨by simp [h],rfl⟩
 |false=>
  go_enter func115,ntmps115
  go_wp2_with (go_at_call 160;refine m.o.mono ?_;rintro g k ⟨⟨i,rfl,a⟩,rfl⟩;have h:¬0<=i:=(λp=>by rw [a.1 p] at hc;cases hc);clear a)
  go_returns;exact⟨by simp [h],rfl⟩
section
variable {W:V} {p:Nat} {L:bY} {D:DS} {w:V}
theorem sR(q C:Nat)(z:aC W p L D w)(J:FD w q p)(y:Inv D C)(b5:C+6<=100000):
  d prog 164 #[Q (K q)] w λa h=>a=e (bj (bk D).2)/\∃a6,SN W p L w a6 (bk D).1 h:=by
 have r:=E z;have x:=E J;have b4:=J.cell;have u:=E (ra p L D C w z.dp y O);have l:=E (λ(b:V) (k:Z) (b1:b.ownsRow w 9 1 k D.names.length ((aI D).map encStr))=>show d prog 115 #[k,Yb ⟨#[106,111,98]⟩] b λa h=>a=e (.bool ((aI D).contains aw))/\b=h from pJ w (aI D) aw k b (by rw [dk];exact b1));have a5:=E (y.br aw);have P:=E (λ(b:V) (F:aC W p L D b)=>show d prog 105 #[Q (K p),Yb ⟨#[106,111,98]⟩] b λa h=>a=e (bj (b_ D (bU D aw)))/\bM W p L (br D aw) b h from F.create y O H);have a2:=E (λ(b:V) (R:bY) (F:aC W p R (br D aw) b)=>show d prog 109 #[Q (K p)] b λa h=>a=e (bj (jY (br D aw)))/\bM W p R (dG (br D aw)) b h from F.rC a5.o O);unfold bk pO;unfold qv at u;clear z J y
 cases hc:(aI D).contains aw with
 |true=>
  rw [hc] at l;rw [if_pos rfl];clear hc;go_enter func164,ntmps164
  go_wp2_with (first
   |(go_at_call 115;refine(l.o _ _ n.o).mono ?_;rintro a a1 ⟨rfl,rfl⟩)
   |(go_at_call 78;refine u.o.mono ?_;rintro a a0 ⟨k,rfl,f,c⟩;have n:=E f;have a3:=E c;clear f c))
  go_returns;exact⟨rfl,_,(SN.refl r.o).ext a3.o⟩
 |false=>
  rw [hc] at l;rw [if_neg Y];clear hc;by_cases j:b_ D (bU D aw)=0
  case neg=>
   rw [if_neg j];have v:=E (aT j);clear j;go_enter func164,ntmps164
   go_wp2_with (first
    |(go_at_call 115;refine(l.o _ _ n.o).mono ?_;rintro a a1 ⟨rfl,rfl⟩)
    |(go_at_call 78;refine u.o.mono ?_;rintro a a0 ⟨k,rfl,f,c⟩;have n:=E f;have m:=E ((SN.refl r.o).ext c);have a9:=(x.o.ext c).cell;clear f c)
    |(go_at_call 105;refine(P.o _ m.o.aB).mono ?_;rintro a b2 ⟨s,g⟩;rw [v.o] at s;subst s;obtain⟨a7,t⟩:=g.sn;have i:=E (m.o.trans t);have b0:=(i.o.fd r.o.dp x.o).cell;clear t g))
   go_returns;exact⟨by rw [v.o];rfl,_,i.o⟩
  rw [if_pos j]
  have v:Hd (bj (b_ D (bU D aw))=Ya):=by rw [j];exact ar
  clear j;go_enter func164,ntmps164
  go_wp2_with (first
   |(go_at_call 115;refine(l.o _ _ n.o).mono ?_;rintro a a1 ⟨rfl,rfl⟩)
   |(go_at_call 78;refine u.o.mono ?_;rintro a a0 ⟨k,rfl,f,c⟩;have n:=E f;have m:=E ((SN.refl r.o).ext c);have a9:=(x.o.ext c).cell;clear f c)
   |(go_at_call 105;refine(P.o _ m.o.aB).mono ?_;rintro a b2 ⟨s,g⟩;rw [v.o] at s;subst s;obtain⟨a7,t⟩:=g.sn;have i:=E (m.o.trans t);have b0:=(i.o.fd r.o.dp x.o).cell;clear t g)
   |(go_at_call 109;refine(a2.o _ _ i.o.aB).mono ?_;rintro a b6 ⟨rfl,g⟩;obtain⟨b3,T⟩:=g.sn;have a8:=E (i.o.trans T);clear T g))
  go_returns;exact⟨rfl,_,a8.o⟩
theorem uW(q u:Nat)(a3:aC W p L D w)(b5:FD w q p)(s:Inv D u)(g3:u+3*D.names.length+3<=100000):
  d prog 163 #[Q (K q)] w λf c6=>f=e (bj (bm (aI D) false D).2)/\∃e7,SN W p L w e7 (bm (aI D) false D).1 c6:=by
 obtain⟨g,b4⟩:∃g,D.names.length=g:=⟨_,rfl⟩;have F:=E a3;have e9:=E b5;have g9:=b5.cell;have a7:=E (ra p L D u w a3.dp s O);have c0:=E (show(aI D).length=g from by rw [dk,b4]);have e8:=E (show∀b∈aI D,b.length<=YO from λb x=>By a3.dp b (mx.1 x));have b9:=E xv;have e0:=E (λ(b0:Bs) (g4:b0.length<=YO) (a:Nat) (a5:a<=g) (h:V) (a8:bY) (y:DS) (b2:aC W p a8 y h) (s:Inv y (u+3*a))=>b2.remove (a:=b0) s O g4);have e1:=E (λ(h:V) (a8:bY) (y:DS) (b2:aC W p a8 y h) (s:Inv y (u+3*g))=>b2.rC s O);have e3:=E s;have e4:=E (O:g<=100000);unfold qv at a7;rw [b4] at a7;obtain⟨R,b1⟩:∃R,R=bm (aI D) false D:=⟨_,rfl⟩;have e5:=E b1;rw [<-b1];clear a3 b5 s b4 b1 g3;go_enter func163,ntmps163
 go_wp2_with (first
  |(go_at_call 78;refine a7.o.mono ?_;rintro f c7 ⟨h4,rfl,b6,c2⟩;obtain⟨g7,cap,rfl⟩:=aK b6;have a9:=E b6;have z:=E c2;clear b6 c2))
 have c1:=E (F.o.ext z.o);have g0:=E (e9.o.ext z.o);have g1:=E (λ(h:V) (a5:af (L.has p) c7 h)=>an (w':=h) a9.o λa c4=>a5.block a (lX a9.o c4) (λJ=>by have:=F.o.dp.lt J;have:=(a9.o.lt a c4).1;omega));have h3:=e4.o
 go_loopw [3,13] (λg6 b8 wr=>∃(a:Nat) (v:Bool) (c:DS) (a2:bY),a<=g/\b8=A G a/\g6= .bool v/\bm ((aI D).drop a) v c=R/\Inv c (u+3*a)/\SN W p L c7 a2 c wr) (λ_ b8 _=>g - (Yz b8).toNat)
 case atStart=>exact⟨0,false,D,L,Yr _,rfl,rfl,e5.o.symm,e3.o,SN.refl c1.o⟩
 case round=>
  obtain⟨a,v,c,a2,a5,rfl,rfl,j,b3,P⟩:=hrel;have n:=E P;have a0:=E b3;have h0:=(P.fd c1.o.dp g0.o).cell;by_cases g5:a<g
  .have b7:=g1.o _ P.aD
   have a6:a<(aI D).length:=by rw [c0.o];exact g5
   obtain⟨b,x⟩:∃b,(aI D)[a]=b:=⟨_,rfl⟩
   have c3:(aI D).drop a=b::(aI D).drop (a+1):=by rw [<-x];exact List.drop_eq_getElem_cons a6
   have c5:b.length<=YO:=e8.o b (by rw [<-x];exact List.getElem_mem a6);have e6:=E c5;rw [c3] at j
   rcases aV b7 with⟨_,h1⟩|⟨g2,g8,f,_⟩
   .omega
   simp only [Yy] at f;obtain⟨rfl, -,rfl⟩:=f;have h2:wr.cell? ⟨g2,a,I⟩=K (Yb ⟨b.toArray⟩):=au b7 (by rw [List.getElem?_map,YM a6,x];rfl);clear c3 x b7 a6 P b3 c5
   cases ht:pK b with
   |false=>
    have i:=E (show bm ((aI D).drop (a+1)) v c=R from by rw [<-j];show _=(if pK b then _ else _);rw [ht];rfl);have t:=E (λh=>b9.o b h);rw [ht] at t;clear j ht
    go_wp2_with (first
     |(go_at_call 207;refine(t.o _).mono ?_;rintro f c8 ⟨rfl,rfl⟩))
    go_roundw
    case rel=>exact⟨a+1,v,c,a2,O,S,rfl,i.o,a0.o.mono O,n.o⟩
    case measure=>simp [Yz];omega
   |true=>
    have k:pO (jK c b,xm c b) (bm ((aI D).drop (a+1)) true)=R:=by rw [<-j];show _=(if pK b then _ else _);rw [ht];rfl
    have t:=E (λh=>b9.o b h);rw [ht] at t;clear j ht;have T:=E (e0.o b e6.o a a5 wr a2 c n.o.aB a0.o);by_cases r:xm c b=0
    .unfold pO at k
     rw [if_pos r] at k;have i:=E k;rw [r,ar] at T;clear k r
     go_wp2_with (first
      |(go_at_call 207;refine(t.o _).mono ?_;rintro f c8 ⟨rfl,rfl⟩)
      |(go_at_call 116;refine T.o.mono ?_;rintro f c9 ⟨rfl,l⟩;obtain⟨a1,m⟩:=l.sn;have C:=E (n.o.trans m);clear l m))
     go_roundw
     case rel=>exact⟨a+1,true,jK c b,a1,O,S,rfl,i.o,(a0.o.jK b).mono O,C.o⟩
     case measure=>simp [Yz];omega
    .unfold pO at k
     rw [if_neg r] at k;rw [aT r] at T;have i:=E k;have e2:=E (aT r);clear k r
     go_wp2_with (first
      |(go_at_call 207;refine(t.o _).mono ?_;rintro f c8 ⟨rfl,rfl⟩)
      |(go_at_call 116;refine T.o.mono ?_;rintro f c9 ⟨rfl,l⟩;obtain⟨a1,m⟩:=l.sn;have C:=E (n.o.trans m);clear l m))
     go_returns;refine⟨by rw [<-i.o];exact(congrArg e e2.o.symm),a1,?_⟩;rw [<-i.o];exact(SN.refl F.o).ext z.o|>.trans C.o
  .obtain rfl:a=g:=O
   rw [List.drop_of_length_le (by rw [c0.o];exact Yk _)] at j;have i:=E j;clear j P b3
   cases v with
   |false=>
    go_wp2;go_returns;have J:(c,(0:Int))=R:=i.o;rw [<-J];exact⟨rfl,_,(SN.refl F.o).ext z.o|>.trans n.o⟩
   |true=>
    go_wp2_with (first
     |(go_at_call 109;refine(e1.o _ _ _ n.o.aB a0.o).mono ?_;rintro f c9 ⟨rfl,l⟩;obtain⟨a1,m⟩:=l.sn;have C:=E (n.o.trans m);clear l m))
    go_returns;have J:(dG c,jY c)=R:=i.o;rw [<-J];exact⟨rfl,_,(SN.refl F.o).ext z.o|>.trans C.o⟩
end
theorem IQ(a:Bs):kW a<=4294967295:=by
 unfold kW;have b:=(a.getD 0 0).toNat_lt;have c:=(a.getD 1 0).toNat_lt;have f:=(a.getD 2 0).toNat_lt;have g:=(a.getD 3 0).toNat_lt;omega
theorem Tz(a:Bs)(b:Nat):(a.getD b 0).toNat<=255:=by have:=(a.getD b 0).toNat_lt;omega
theorem Le{b:Nat}{a:Bs}{f:aU}(c:gV b a= .ok f):nO f/\f.kind=b/\(dL f).length=a.length:=by
 unfold gV at c;split at c
 .cases c
 .rename_i o
  split at c
  .cases c
  .rename_i i
   split at c
   .rename_i h
    obtain rfl:jC b a=f:=by injection c
    have g:(jC b a).kind=b:=by unfold jC;split;rfl;split;rfl;split<;>rfl
    have q:lY (jC b a):=by
     have t:=IQ a;have u:=IQ (a.drop 1);have v:=IQ (a.drop 4);have w:=IQ (a.drop 5);have j:=Tz a 0;have r:=Tz a 4;have s:48<=b/\b<=51:=O;clear h g i o;by_cases m:b=50
     .subst m;exact Yh (Yh (Yg ⟨rfl,rfl,rfl,rfl,j⟩))
     .by_cases k:b=48
      .subst k;exact Yg ⟨rfl,by show kW a<=_;omega,by show(a.getD 4 0).toNat<=_;omega,rfl,rfl⟩
      .by_cases l:b=49
       .subst l;exact Yh (Yg ⟨rfl,by show kW (a.drop 5)<=_;omega,by show(a.getD 0 0).toNat<=_;omega,by show kW (a.drop 1)<=_;omega,rfl⟩)
       .have n:b=51:=O
        subst n;exact Yh (Yh (Yh ⟨rfl,by show kW (a.drop 4)<=_;omega,rfl,by show kW a<=_;omega,rfl⟩))
    refine⟨yB q h,g,?_⟩
    have p:a.length=jZ b:=by simpa using i
    rw [p];unfold dL jZ g_;rw [g];split
    .rfl
    .split
     .rfl
     .split<;>rfl
   .cases c
theorem Ot{c:Bs}{at':Nat}{b:MI}(a:gJ aF c at'= .ok b)(f:b.kind≠0):b.fin=at'+b.data.length+8:=by
 unfold gJ at a;split at a
 .cases a
 .split at a
  .cases a;exact absurd rfl f
  .split at a
   .cases a
   .split at a
    .cases a
    .split at a
     .cases a
     .split at a
      .cases a
       simp only [List.length_take,List.length_drop];omega
      .cases a
theorem tg(c:aU)(b:List aU):∀a,gF (c::b) (a+1)=(eK aF c).length+gF b a
 |0=>by simp [gF]
 |a+1=>by
  rw [gF,tg c b a,List.getD_cons_succ,gF];omega
theorem DB(b:Bs):∀g at',at'<=b.length->(∀c∈(eM aF b g at').1,nO c)/\(∀a,a<=(eM aF b g at').1.length->at'+gF (eM aF b g at').1 a<=b.length)/\(eM aF b g at').1.length<=b.length - at'
 |0,at',h=>by
  unfold eM
  exact⟨λc k=>(by simp at k),λa i=>(by
   have f:a=0:=by simpa using i
   subst f;exact h),Y⟩
 |g+1,at',h=>by
  have m:(∀c∈([]:List aU),nO c)/\(∀a,a<=([]:List aU).length->at'+gF [] a<=b.length)/\([]:List aU).length<=b.length - at':=
   ⟨λc k=>(by simp at k),λa i=>(by
    have f:a=0:=by simpa using i
    subst f;exact h),Y⟩
  unfold eM
  cases hn:gJ aF b at' with
  |error f=>exact m
  |ok j=>
   simp only
   cases hp:gV j.kind j.data with
   |error f=>exact m
   |ok c=>
    simp only;obtain⟨n,v,o⟩:=Le hp;obtain⟨w,p,x⟩:=yg hn
    have s:j.kind≠0:=by
     intro f;unfold gV at hp;rw [if_pos O] at hp;cases hp
    have y:=Ot hn s;obtain⟨q,r,z⟩:=DB b g j.fin p
    have t:(eK aF c).length=j.data.length+8:=by unfold eK;rw [cD,o]
    refine⟨λu l=>?_,λa i=>?_,?_⟩
    .rcases List.mem_cons.1 l with rfl|l
     .exact n
     .exact q u l
    .cases a with
     |zero=>exact h
     |succ a=>
      rw [tg,t];have:=r a (by simpa using i);omega
    .simp only [List.length_cons];omega
theorem DC(a:Bs):(∀i∈iX a,nO i)/\(∀b,b<=(iX a).length->gF (iX a) b<=a.length)/\(iX a).length<=a.length:=by
 obtain⟨c,f,g⟩:=DB a (a.length+1) 0 (Yr _);exact⟨c,λb h=>by have:=f b h;rw [Nat.zero_add] at this;exact this,g⟩
theorem wj(b:List aU):∀a,eQ b a<=a
 |0=>Yk _
 |a+1=>by
  have:=wj b a;unfold eQ;split<;>omega
section
variable {W:V} {p:Nat} {L:bY} {D:DS} {w:V}
theorem Fb(q f:Nat)(h:aC W p L D w)(l:FD w q p)(j:Inv D f)(r:f<=100000)(b:eh D aw≠0):
  d prog 165 #[Q (K q)] w λa g=>a=e (bj (cG D).2)/\(cG D).1=D/\X w w g:=by
 have i:cG D=(D,eh D aw):=by unfold cG;rw [if_pos b]
 rw [i];have c:=E (show d prog 191 #[Q (K p),Yb ⟨#[106,111,98]⟩] w λa g=>dE (eh D aw) (cy D aw) w a g from wc p L D aw f w h.dp j r H);unfold dE at c;have m:=E (aT b);rw [aT b] at c;have t:=l.cell;clear i h l j b;go_enter func165,ntmps165
 go_wp2_with (go_at_call 191;refine c.o.mono ?_;rintro a v ⟨u,rfl,s,k⟩;have n:=E k;clear s k)
 go_returns;exact⟨by rw [m.o];rfl,trivial,n.o⟩
end
structure FS(W:V)(p q jp jb:Nat)(cs:Array Z)(L:bY)(D:DS)(J:bJ)(w:V):Prop where
 aB:aC W p L D w
 ay:ai w q cs 114
 jD:ct w jp jb J
 QH:¬L.has p jb
 QI:W.heap.size<=jp
 QG:W.heap.size<=jb
 qW:W.heap.size<=q
 c0:cs[0]? =K (Q (K p))
 qI:cs[14]? =K (Q (K jp))
structure FN(p jp jb:Nat)(L:bY)(w:V)(L':bY)(w':V):Prop where
 aD:af (λk=>L.has p k∨k=jp∨k=jb) w w'
 new:∀k,L'.has p k->L.has p k∨w.heap.size<=k
theorem dr{i q c:Nat}{h:bY}{k:DS}{j:V}{l:Array Z}(a:DP j i h k)(b:ai j q l c)(m:c≠126)(n:c≠129)(o:c≠131)(p:c≠5):¬h.has i q:=by
 rintro(rfl|f|f|rfl|rfl|⟨s,r,f⟩)
 .have g:=a.ay
  unfold ai at g b;rw [b] at g;simp at g;exact m g.2
 .exact cW b a.all n f
 .exact cW b a.lJ o f
 .exact oU a.gI b rfl
 .exact oU a.rN b rfl
 .exact cW b (a.jl s (by rw [<-a.len];exact r)) p f
theorem gq{i:V}{f g b c:Nat}{j k:Array Z}(h:ai i f j b)(a:ai i g k c)(l:b≠c):f≠g:=by
 rintro rfl;unfold ai at h a;rw [h] at a;simp at a;exact l a.2
theorem oa{f:V}{b c g:Nat}{h:Array Z}{k:RM}(a:ai f b h g)(i:cE f c k):b≠c:=by
 rintro rfl;obtain⟨m,l,j, -⟩:=i;unfold ai at a;rw [j] at a;cases a
section
variable {W:V} {p q jp jb:Nat} {cs:Array Z} {L L1 L2:bY} {D D1:DS} {J J1:bJ} {w w0 w1 w2:V}
theorem FS.Vo(a:FS W p q jp jb cs L D J w):¬L.has p jp:=dr a.aB.dp a.jD.ay H H H H
theorem FS.qn(a:FS W p q jp jb cs L D J w):¬L.has p q:=mO a.aB.dp a.ay
theorem FS.VY(a:FS W p q jp jb cs L D J w):q≠jp:=gq a.ay a.jD.ay H
theorem FS.VX(a:FS W p q jp jb cs L D J w):q≠jb:=oa a.ay a.jD.map
theorem FS.apart(f:FS W p q jp jb cs L D J w){c a:Nat}{h:Array Z}(g:ai w c h a)(i:a≠126)(j:a≠129)(k:a≠131)(l:a≠5)(m:a≠140):¬(L.has p c∨c=jp∨c=jb):=by
 rintro(b|b|b)
 .exact dr f.aB.dp g i j k l b
 .exact gq g f.jD.ay m b
 .exact oa g f.jD.map b
theorem FN.ay(g:FS W p q jp jb cs L D J w)(m:FN p jp jb L w L1 w1){b a:Nat}{f:Array Z}(c:ai w b f a)(h:a≠126)(i:a≠129)(j:a≠131)(k:a≠5)(l:a≠140):ai w1 b f a:=
 c.bS (m.aD.block b c.lt (g.apart c h i j k l))
theorem FS.ext(a:FS W p q jp jb cs L D J w)(b:X w w w1):FS W p q jp jb cs L D J w1:=
 ⟨a.aB.ext b,a.ay.ext b,a.jD.ext b,a.QH,a.QI,a.QG,a.qW,a.c0,a.qI⟩
theorem FN.refl(p jp jb:Nat)(L:bY)(w:V):FN p jp jb L w L w:=⟨af.refl _ _,λ_ a=>Yg a⟩
theorem FN.trans(c:FN p jp jb L w L1 w1)(g:FN p jp jb L1 w1 L2 w2):FN p jp jb L w L2 w2:=
 ⟨c.aD.js g.aD λf a=>by
  rcases a with a|a|a
  .rcases c.new f a with b|b
   .exact Yg (Yg b)
   .exact Yh b
  .exact Yg (Yh (Yg a))
  .exact Yg (Yh (Yh a)),λf a=>by
  rcases g.new f a with b|b
  .exact c.new f b
  .exact Yh (Yl c.aD.size b)⟩
theorem FN.ext(a:FN p jp jb L w L1 w1)(b:X w1 w1 w2):FN p jp jb L w L1 w2:=⟨a.aD.trans (af.aj b),a.new⟩
theorem FN.aj(p jp jb:Nat)(L:bY)(b:X w w w1):FN p jp jb L w L w1:=⟨af.aj b,λ_ a=>Yg a⟩
theorem FS.lR(a:FS W p q jp jb cs L D J w)(j:bM W p L D1 w w1):∃L1,FS W p q jp jb cs L1 D1 J w1/\FN p jp jb L w L1 w1:=by
 obtain⟨L1,g,b,c⟩:=j;refine⟨L1,⟨g,a.ay.bS (b.block q a.ay.lt a.qn),a.jD.aD b a.Vo a.QH,λh=>?_,a.QI,a.QG,a.qW,a.c0,a.qI⟩,⟨b.mono λk _ i=>Yg i,c⟩⟩
 rcases c jb h with f|f
 .exact a.QH f
 .have:=a.jD.map.lt;omega
theorem FS.op(a:FS W p q jp jb cs L D J w)(i:ct w1 jp jb J1)(g:af (US jp jb) w w1):FS W p q jp jb cs L D J1 w1/\FN p jp jb L w L w1:=by
 have j:∀c,L.has p c->¬US jp jb c:=λc f h=>by
  rcases h with rfl|rfl
  .exact a.Vo f
  .exact a.QH f
 have k:aC W p L D w1:=⟨a.aB.dp.stays λc f=>g.block c (a.aB.dp.lt f) (j c f),a.aB.own,a.aB.below.trans (g.below (λc f=>by
  rcases f with rfl|rfl
  .exact a.QI
  .exact a.QG) a.aB.size)⟩
 refine⟨⟨k,a.ay.bS (g.block q a.ay.lt λb=>?_),i,a.QH,a.QI,a.QG,a.qW,a.c0,a.qI⟩,⟨g.mono λc _ b=>?_,λ_ b=>Yg b⟩⟩
 .rcases b with b|b
  .exact a.VY b
  .exact a.VX b
 .rcases b with b|b
  .exact Yh (Yg b)
  .exact Yh (Yh b)
theorem FS.cell0(a:FS W p q jp jb cs L D J w):w.cell? q=K (Q (K p)):=(a.ay.cell 0).trans a.c0
theorem FS.dP(a:FS W p q jp jb cs L D J w):w.cell? ⟨q,14,I⟩=K (Q (K jp)):=(a.ay.cell 14).trans a.qI
def Tx(q jp b f i h g c:Nat)(a:V):Prop:=a.cell? ⟨q,14,I⟩=K (Q (K jp))/\a.cell? b=K (A G f)/\a.cell? ⟨b,1,I⟩=K (A G i)/\a.cell? ⟨b,2,I⟩=K (A G h)/\a.cell? ⟨b,3,I⟩=K (A G g)/\a.cell? ⟨b,4,I⟩=K (A G c)
theorem Bx(a2:Nat)(a:aU)(F:FS W p q jp jb cs L D J w)(b2:nO a)(a6:Inv D a2)(c0:a2+3<=100000)(b1:J.done.length<=100000):
  d prog 112 #[Q (K q),a.val] w λc b=>c=e (bj (kI a D J).2.2)/\∃a1,FS W p q jp jb cs a1 (kI a D J).1 (kI a D J).2.1 b/\FN p jp jb L w a1 b:=by
 have y:=E (λu c1=>xB jp jb J a u c1 b2 b1);have a8:kI a D J=if fQ D aw≠0 then (cV D aw,J,fQ D aw) else (cV D aw,(eY J a).2,(eY J a).1):=rfl;have T:=E (λ(u:V) (b9:aC W p L D u)=>show d prog 107 #[Q (K p),Yb ⟨#[106,111,98]⟩] u λc b=>c=e (bj (fQ D aw))/\bM W p L (cV D aw) u b from b9.sync a6 O H);rw [a8];clear a8 a6 b2 b1 c0;obtain⟨a3,a7⟩:∃a3,eY J a=a3:=⟨_,rfl⟩;rw [a7] at y⊢;clear a7;obtain⟨g,j,i,h,f⟩:=a;have c:aU.val ⟨g,j,i,h,f⟩=Yc #[A G g,A G j,A G i,A G h,A G f]:=rfl;rw [c] at y⊢;clear c;have b3:=E (ai.new w #[A G g,A G j,A G i,A G h,A G f] 93);have C:=E (N:X w w (w.alloc (M #[A G g,A G j,A G i,A G h,A G f] 93)));have c8:=E F;have k:=E (F.ext C.o);have c9:=k.o.cell0;have e0:=F.ay.lt;clear F;by_cases l:fQ D aw=0
 case neg=>
  rw [if_pos l];have v:=E (aT l);clear l;go_enter func112,ntmps112
  go_wp2_with (first
   |(go_at_call 107;refine(T.o _ k.o.aB).mono ?_;rintro c w1 ⟨s,t⟩;rw [v.o] at s;subst s;obtain⟨L1,r,m⟩:=k.o.lR t;have n:=E r;have P:=E ((FN.aj p jp jb L C.o).trans m);clear r m t))
  go_returns;exact⟨by rw [v.o];rfl,_,n.o,P.o⟩
 rw [if_neg (by simpa using l)]
 have v:Hd (bj (fQ D aw)=Ya):=by rw [l];exact ar
 clear l;go_enter func112,ntmps112
 go_wp2_with (first
  |(go_at_call 107;refine(T.o _ k.o.aB).mono ?_;rintro c w1 ⟨s,t⟩;rw [v.o] at s;subst s;obtain⟨L1,r,m⟩:=k.o.lR t;have n:=E r;have P:=E ((FN.aj p jp jb L C.o).trans m);have x:=E (FN.ay k.o m b3.o H H H H H);obtain⟨c2,c3,c4,c5,c6⟩:=x.o.cL;have b8:=n.o.dP;have e2:=x.o.lt;have e1:=n.o.ay.lt;clear r m t))
 have b6:=E (show Tx q jp w g j i h f w1.drew from⟨b8,c2,c3,c4,c5,c6⟩);have z:=E (n.o.ext (N:X w1 w1 w1.drew))
 go_region_held3 (λb=>b.cell? ⟨q,14,I⟩=K (Q (K jp))/\b.cell? w=K (A G g)/\b.cell? ⟨w,1,I⟩=K (A G j)/\b.cell? ⟨w,2,I⟩=K (A G i)/\b.cell? ⟨w,3,I⟩=K (A G h)/\b.cell? ⟨w,4,I⟩=K (A G f)) (first|exact b6.o|exact b7.o)
  ((go_at_call 159;refine(y.o _ z.o.jD).mono ?_;rintro c c7 ⟨rfl,a9,b0⟩;obtain⟨a5,R⟩:=z.o.op a9 b0;have a0:=E a5;have b5:=E ((P.o.ext N).trans R);have b4:=E (FN.ay z.o R (show ai w1.drew w _ _ from x.o) H H H H H);have b7:=E (show Tx q jp w g j i h f c7 from⟨a0.o.dP,b4.o.cL⟩);clear a5 R a9 b0))
 all_goals go_wp2
 all_goals go_returns
 all_goals exact⟨rfl,_,a0.o,b5.o⟩
end
def bZ(j:Nat)(a:cF)(l k f g b h m i:Z)(c:Bool):Array Z:=
 #[Q (K j),A G a.fq,A G a.eC,A G a.reach,A G a.cut,A G a.gop,A G a.bX,A G a.room,A G a.fill,l,k,f,g,b,h,m,i,.bool c]
section
variable {W:V} {p q jp jb:Nat} {cs:Array Z} {L L1 L2:bY} {D D1:DS} {J J1:bJ} {w w0 w1 w2:V}
theorem Ca(a2:Nat)(b:aU)(F:FS W p q jp jb cs L D J w)(a6:nO b)(a5:Inv D a2)(c6:a2+6<=100000)(b6:J.done.length<=100000):
  d prog 211 #[Q (K q),b.val] w λc T=>c=e (bj (jE b D J).2.2)/\∃b1,FS W p q jp jb cs b1 (jE b D J).1 (jE b D J).2.1 T/\FN p jp jb L w b1 T:=by
 have c7:(eK aF b).length<=30:=by
  obtain⟨a,x⟩:∃a,dL b=a:=⟨_,rfl⟩;unfold eK;rw [cD];unfold dL g_;split<;>(try split)<;>(try split)<;>simp
 have s:=E (λg=>zA b g a6);obtain⟨a,x⟩:∃a,eK aF b=a:=⟨_,rfl⟩
 have b5:jE b D J=if gf D aw a≠0 then (du D aw a,J,gf D aw a) else kI b (du D aw a) J:=by rw [<-x];rfl
 rw [x] at s;rw [b5];have a8:=E (λ(g:V) (R:Z) (c5:aC W p L D g) (c8:ah g R a)=>show d prog 106 #[Q (K p),Yb ⟨#[106,111,98]⟩,R] g λc T=>c=e (bj (gf D aw a))/\bM W p L (du D aw a) g T from c5.append a5 O H c8);have a0:=E (λ(c1:bY) (g:V) (c4:FS W p q jp jb cs c1 (du D aw a) J g)=>Bx (a2+3) b c4 a6 (a5.du aw a) O b6);clear b5 a5 a6 b6 c6 x c7;obtain⟨b2,b4⟩:∃b2,kI b (du D aw a) J=b2:=⟨_,rfl⟩;rw [b4] at a0⊢;clear b4;obtain⟨y,P,C,z,v⟩:=b;have c:aU.val ⟨y,P,C,z,v⟩=Yc #[A G y,A G P,A G C,A G z,A G v]:=rfl;rw [c] at s a0⊢;clear c;have b8:=E (ai.new w #[A G y,A G P,A G C,A G z,A G v] 93);have b0:=E (N:X w w (w.alloc (M #[A G y,A G P,A G C,A G z,A G v] 93)));have a9:=E F;have e1:=F.ay.lt;clear F;by_cases h:gf D aw a=0
 case neg=>
  rw [if_pos h];have t:=E (aT h);clear h;go_enter func211,ntmps211
  go_wp2_with (first
   |(go_at_call 110;refine(s.o _).mono ?_;rintro c w1 ⟨R,rfl,n,i⟩;have a3:=E (aq n);have k:=E (ext b0.o i);have f:=E (a9.o.ext k.o);have c3:=f.o.cell0;have c9:=f.o.ay.lt;clear n i)
   |(go_at_call 106;refine(a8.o _ _ f.o.aB a3.o).mono ?_;rintro c w2 ⟨m,r⟩;rw [t.o] at m;subst m;obtain⟨L1,l,j⟩:=f.o.lR r;have u:=E l;have a1:=E ((FN.aj p jp jb L k.o).trans j);clear l j r))
  go_returns;exact⟨by rw [t.o];rfl,_,u.o,a1.o⟩
 rw [if_neg (by simpa using h)]
 have t:Hd (bj (gf D aw a)=Ya):=by rw [h];exact ar
 clear h;go_enter func211,ntmps211
 go_wp2_with (first
  |(go_at_call 110;refine(s.o _).mono ?_;rintro c w1 ⟨R,rfl,n,i⟩;have a3:=E (aq n);have k:=E (ext b0.o i);have f:=E (a9.o.ext k.o);have b9:=E (b8.o.ext i);have c3:=f.o.cell0;have c9:=f.o.ay.lt;clear n i)
  |(go_at_call 106;refine(a8.o _ _ f.o.aB a3.o).mono ?_;rintro c w2 ⟨m,r⟩;rw [t.o] at m;subst m;obtain⟨L1,l,j⟩:=f.o.lR r;have u:=E l;have a1:=E ((FN.aj p jp jb L k.o).trans j);have a7:=E (FN.ay f.o j b9.o H H H H H);obtain⟨e4,e5,e6,e7,e8⟩:=a7.o.cL;have e3:=a7.o.lt;have e2:=u.o.ay.lt;clear l j r)
  |(go_at_call 112;refine(a0.o _ _ u.o).mono ?_;rintro c e9 ⟨rfl,e0,b3,b7⟩;have c0:=E b3;have c2:=E (a1.o.trans b7);clear b3 b7))
 go_returns;exact⟨rfl,_,c0.o,c2.o⟩
theorem uU(a6 f u:Nat)(a:cF)(a2 a1 T P a5 a0:Z)(t:Option Yi)(R:Bool)(b4:Z)(h:Bs)(F:FS W p q jp jb (bZ p a a2 a1 T (U t f u) P (Q (K jp)) a5 a0 R) L D J w)(c5:iB a=true)(c8:ah w b4 h)(c7:h.length<=1000000)(e7:f<=16)(c4:Inv D a6)(e6:a6+6<=100000)(c6:J.done.length<=100000):
  d prog 166 #[Q (K q),b4] w λc e0=>c=e (bj (gR (cl a h) f D J).2.2)/\∃b6,FS W p q jp jb (bZ p a a2 a1 T (U t f u) P (Q (K jp)) a5 a0 R) b6 (gR (cl a h) f D J).1 (gR (cl a h) f D J).2.1 e0/\FN p jp jb L w b6 e0:=by
 have s:=E F;have m:=E (QJ a b4 h w c8 c7 c5);have g3:w.cell? ⟨q,1,I⟩=K (A G a.fq):=F.ay.cell 1;have g4:w.cell? ⟨q,2,I⟩=K (A G a.eC):=F.ay.cell 2;have g5:w.cell? ⟨q,3,I⟩=K (A G a.reach):=F.ay.cell 3;have g6:w.cell? ⟨q,4,I⟩=K (A G a.cut):=F.ay.cell 4;have g7:w.cell? ⟨q,5,I⟩=K (A G a.gop):=F.ay.cell 5;have g8:w.cell? ⟨q,6,I⟩=K (A G a.bX):=F.ay.cell 6;have g9:w.cell? ⟨q,7,I⟩=K (A G a.room):=F.ay.cell 7;have h0:w.cell? ⟨q,8,I⟩=K (A G a.fill):=F.ay.cell 8;have b8:a.val=Yc #[A G a.fq,A G a.eC,A G a.reach,A G a.cut,A G a.gop,A G a.bX,A G a.room,A G a.fill]:=rfl;rw [b8] at m;have e8:=iZ (Us a++h);have n:=E (λ(l:V) (e5:FS W p q jp jb (bZ p a a2 a1 T (U t f u) P (Q (K jp)) a5 a0 R) L D J l)=>Ca a6 ⟨48,cl a h,f,0,0⟩ e5 (Yg ⟨rfl,by show cl a h<=_;unfold cl;omega,e7,rfl,rfl⟩) c4 e6 c6);obtain⟨i,a9⟩:∃i,cl a h=i:=⟨_,rfl⟩
 have h1:i<=4294967295:=by rw [<-a9];unfold cl;omega
 simp only [a9] at m n⊢;obtain⟨cs,b1⟩:∃cs,bZ p a a2 a1 T (U t f u) P (Q (K jp)) a5 a0 R=cs:=⟨_,rfl⟩
 have c2:cs[12]? =K (U t f u):=by rw [<-b1];rfl
 have z:=E c2;have h2:=F.ay.lt;simp only [b1] at s n⊢;have r:=E (λl v=>eI jp jb J l v);have y:=E (λl v=>N_ jp jb J l v);have x:=E (λl v=>fO jp jb J l v);clear F c8 c7 c5 c4 c6 b8 e8 a9 b1 c2;unfold gR;obtain⟨b3,a3,C,e3,e9,e4⟩:=J;simp only at r y x⊢;by_cases c0:b3=0
 .subst c0
  rw [if_pos rfl];obtain⟨b7,b0⟩:∃b7,jE ⟨48,i,f,0,0⟩ D ⟨0,a3,C,e3,e9,e4⟩=b7:=⟨_,rfl⟩;have c:aU.val ⟨48,i,f,0,0⟩=Yc #[A G 48,A G i,A G f,A G 0,A G 0]:=rfl;rw [b0,c] at n;rw [b0];clear b0 c;go_enter func166,ntmps166
  go_wp2_with (first
   |(go_at_call 210;refine m.o.mono ?_;rintro c w1 ⟨rfl,g⟩;have j:=E g;have b:=E (s.o.ext g);have a7:=(b.o.ay.cell 12).trans z.o;have a8:=b.o.dP;have b2:=b.o.ay.lt;clear g)
   |(go_at_call 39;refine(r.o _ b.o.jD).mono ?_;rintro c w2 ⟨rfl,rfl⟩)
   |(go_at_call 211;refine(n.o _ b.o).mono ?_;rintro c h3 ⟨rfl,g2,b9,c9⟩;have e1:=E b9;have e2:=E ((FN.aj p jp jb L j.o).trans c9);clear b9 c9))
  go_returns;exact⟨rfl,_,e1.o,e2.o⟩
 .rw [if_neg c0]
  clear n;have g1:¬(b3:Int)=0:=O
  have h4:((b3:Int)==0)=false:=by simpa using g1
  by_cases c1:a3=i
  .subst c1
   by_cases c3:C=f
   .subst c3
    rw [if_neg Y,ar];go_enter func166,ntmps166
    go_wp2_with (first
     |(go_at_call 210;refine m.o.mono ?_;rintro c w1 ⟨rfl,g⟩;have j:=E g;have b:=E (s.o.ext g);have a7:=(b.o.ay.cell 12).trans z.o;have a8:=b.o.dP;have b2:=b.o.ay.lt;clear g)
     |(go_at_call 39;refine(r.o _ b.o.jD).mono ?_;rintro c w2 ⟨rfl,rfl⟩)
     |(go_at_call 212;refine(y.o _ b.o.jD).mono ?_;rintro c w2 ⟨rfl,rfl⟩)
     |(go_at_call 101;refine(x.o _ b.o.jD).mono ?_;rintro c w2 ⟨rfl,rfl⟩))
    all_goals go_returns
    exact⟨rfl,_,b.o,FN.aj _ _ _ _ j.o⟩
   .rw [if_pos (Yh c3),aT (k:=14) H]
    have b5:¬(C:Int)=(f:Int):=O
    have g0:((C:Int)==(f:Int))=false:=by simpa using b5
    go_enter func166,ntmps166
    go_wp2_with (first
     |(go_at_call 210;refine m.o.mono ?_;rintro c w1 ⟨rfl,g⟩;have j:=E g;have b:=E (s.o.ext g);have a7:=(b.o.ay.cell 12).trans z.o;have a8:=b.o.dP;have b2:=b.o.ay.lt;clear g)
     |(go_at_call 39;refine(r.o _ b.o.jD).mono ?_;rintro c w2 ⟨rfl,rfl⟩)
     |(go_at_call 212;refine(y.o _ b.o.jD).mono ?_;rintro c w2 ⟨rfl,rfl⟩)
     |(go_at_call 101;refine(x.o _ b.o.jD).mono ?_;rintro c w2 ⟨rfl,rfl⟩))
    all_goals go_returns
    exact⟨rfl,_,b.o,FN.aj _ _ _ _ j.o⟩
  .rw [if_pos (Yg c1),aT (k:=14) H]
   have b5:¬(a3:Int)=(i:Int):=O
   have g0:((a3:Int)==(i:Int))=false:=by simpa using b5
   go_enter func166,ntmps166
   go_wp2_with (first
    |(go_at_call 210;refine m.o.mono ?_;rintro c w1 ⟨rfl,g⟩;have j:=E g;have b:=E (s.o.ext g);have a7:=(b.o.ay.cell 12).trans z.o;have a8:=b.o.dP;have b2:=b.o.ay.lt;clear g)
    |(go_at_call 39;refine(r.o _ b.o.jD).mono ?_;rintro c w2 ⟨rfl,rfl⟩)
    |(go_at_call 212;refine(y.o _ b.o.jD).mono ?_;rintro c w2 ⟨rfl,rfl⟩)
    |(go_at_call 101;refine(x.o _ b.o.jD).mono ?_;rintro c w2 ⟨rfl,rfl⟩))
   all_goals go_returns
   exact⟨rfl,_,b.o,FN.aj _ _ _ _ j.o⟩
theorem Nj(F:FS W p q jp jb cs L D J w):
  d prog 167 #[Q (K q),Ya] w λc j=>c=e (bj (jd 0 D J).2.2)/\(jd 0 D J).1=D/\(jd 0 D J).2.1=J/\w=j:=by
 have g:=E F;have n:=F.dP;have u:=F.ay.lt;have b:=E (λl i=>eI jp jb J l i)
 have h:jd 0 D J=(D,J,if J.state=2 then 14 else 0):=by unfold jd;by_cases a:J.state=2<;>simp [a]
 rw [h];clear F h;obtain⟨f,x,r,s,v,t⟩:=J;simp only at b⊢;by_cases a:f=2
 .subst a
  rw [if_pos rfl,aT (k:=14) H];go_enter func167,ntmps167
  go_wp2_with (first
   |(go_at_call 39;refine(b.o _ g.o.jD).mono ?_;rintro c w2 ⟨rfl,rfl⟩))
  all_goals go_returns
  simp
 .have m:¬(f:Int)=2:=O
  have y:((f:Int)==2)=false:=by simpa using m
  rw [if_neg a,ar];go_enter func167,ntmps167
  go_wp2_with (first
   |(go_at_call 39;refine(b.o _ g.o.jD).mono ?_;rintro c w2 ⟨rfl,rfl⟩))
  all_goals go_returns
  simp
theorem J'(i a T:Nat)(a1:Z)(F:FS W p q jp jb cs L D J w)(z:bN w)(y:cx w 2 (Yd T a1) (a:Int))(s:1<=a)(t:a<=15)(u:Inv D i)(v:i+6<=100000)(P:J.done.length<=100000):
  d prog 167 #[Q (K q),Yd T a1] w λb a0=>b=e (bj (jd a D J).2.2)/\∃m,FS W p q jp jb cs m (jd a D J).1 (jd a D J).2.1 a0/\FN p jp jb L w m a0:=by
 have c:=E F;have b3:=F.dP;have b7:=F.ay.lt;have h:=E (λl b0=>eI jp jb J l b0);have a2:=E (vW _ _ w z y);have g:=E (λ(l:V) (a9:FS W p q jp jb cs L D J l)=>Ca i ⟨50,0,0,0,a⟩ a9 (Yh (Yh (Yg ⟨rfl,rfl,rfl,rfl,s,t⟩))) u v P)
 have C:jd a D J=if J.state=1 then jE ⟨50,0,0,0,a⟩ D J else (D,J,0):=by
  unfold jd;have a8:¬a=0:=O;by_cases f:J.state=1<;>simp [f,a8]
 rw [C];have b:aU.val ⟨50,0,0,0,a⟩=Yc #[A G 50,A G 0,A G 0,A G 0,A G a]:=rfl;rw [b] at g;clear F C z y s t u v P b;obtain⟨n,x⟩:∃n,jE ⟨50,0,0,0,a⟩ D J=n:=⟨_,rfl⟩;rw [x] at g⊢;clear x;obtain⟨k,b9,b4,b5,b8,b6⟩:=J;simp only at h⊢;by_cases f:k=1
 .subst f
  rw [if_pos rfl];go_enter func167,ntmps167
  go_wp2_with (first
   |(go_at_call 39;refine(h.o _ c.o.jD).mono ?_;rintro b w2 ⟨rfl,rfl⟩)
   |(go_at_call 22;refine a2.o.mono ?_;rintro b w2 ⟨rfl,j⟩;have a6:=E j;have a3:=E (c.o.ext j);clear j)
   |(go_at_call 211;refine(g.o _ a3.o).mono ?_;rintro b c0 ⟨rfl,b2,r,R⟩;have a5:=E r;have a7:=E ((FN.aj p jp jb L a6.o).trans R);clear r R))
  all_goals go_returns
  exact⟨rfl,_,a5.o,a7.o⟩
 .have b1:¬(k:Int)=1:=O
  have c1:((k:Int)==1)=false:=by simpa using b1
  rw [if_neg f,ar];go_enter func167,ntmps167
  go_wp2_with (first
   |(go_at_call 39;refine(h.o _ c.o.jD).mono ?_;rintro b w2 ⟨rfl,rfl⟩))
  all_goals go_returns
  exact⟨rfl,_,c.o,FN.refl _ _ _ _ _⟩
end
theorem yw{i:V}{g j r b:Nat}{h:Z}{k:List Z}(l:i.ownsRow g j r h b k):∃c cap,h=U c b cap/\b<=cap/\cap<=YO/\((c=I/\b=0)∨∃a,c=K ⟨a,0,I⟩/\g<=a/\a<i.heap.size):=by
 rcases aV l with⟨f,m⟩|⟨a,cap,f,n,o,p,q,_⟩
 .subst m;exact⟨I,0,f,Yk _,by simp [YO],Yg ⟨rfl,rfl⟩⟩
 .exact⟨_,cap,f,p,q,Yh ⟨a,rfl,n,o⟩⟩
section
variable {W:V} {p q jp jb:Nat} {cs:Array Z} {L L1 L2:bY} {D D1:DS} {J J1:bJ} {w w0 w1 w2:V}
theorem KH(w:V)(q a:Nat)(b:Z):af (·=q) w (w.setCell ⟨q,a,I⟩ b):=aL (af.refl _ _) rfl
theorem FS.made(b:aC W p L D w)(c:ai w q cs 114)(f:ct w jp jb J)(l:¬L.has p jb)(r:W.heap.size<=jp)(o:W.heap.size<=jb)(s:W.heap.size<=q)(j:cs[0]? =K (Q (K p)))(k:14<cs.size):
  FS W p q jp jb (cs.setIfInBounds 14 (Q (K jp))) L D J (w.setCell ⟨q,14,I⟩ (Q (K jp))):=by
 have g:=KH w q 14 (Q (K jp));have m:=mO b.dp c
 have n:aC W p L D (w.setCell ⟨q,14,I⟩ (Q (K jp))):=
  ⟨b.dp.stays λh i=>g.block h (b.dp.lt i) (λa=>m (a▸i)),b.own,b.below.trans (g.below (λh a=>by
   have t:h=q:=a
   omega) b.size)⟩
 refine⟨n,c.set 14 _,f.aD g (λa=>gq c f.ay H a.symm) (λa=>oa c f.map a.symm),l,r,o,s,?_,?_⟩
 .rw [Array.getElem?_setIfInBounds_ne H];exact j
 .rw [Array.getElem?_setIfInBounds_self_of_lt k]
theorem Fa(a9:Nat)(c7:aC W p L D w)(b6:ai w q cs 114)(o9:W.heap.size<=q)(e0:cs[0]? =K (Q (K ⟨p,0,I⟩)))(j0:14<cs.size)(e2:Inv D a9)(o0:a9+15<=100000)(c9:eh D aw=0)(j8:(cy D aw).length<=90000):
  d prog 165 #[Q (K q)] w λg k=>g=e (bj (cG D).2)/\∃h7 jp jb,FS W p q jp jb (cs.setIfInBounds 14 (Q (K ⟨jp,0,I⟩))) h7 (cG D).1 (nD (cy D aw)) k/\af (λc=>L.has p c∨c=q) w k/\(∀c,h7.has p c->L.has p c∨w.heap.size<=c)/\w.heap.size<=jp/\w.heap.size<=jb:=by
 obtain⟨b,b2⟩:∃b,cy D aw=b:=⟨_,rfl⟩
 have i5:cG D=if wZ b=b.length then (D,0) else iM (b.take (wZ b)) D:=by unfold cG;rw [if_neg (by simpa using c9),b2]
 have a6:=E (show d prog 191 #[Q (K ⟨p,0,I⟩),Yb ⟨#[106,111,98]⟩] w λg k=>dE (eh D aw) (cy D aw) w g k from wc p L D aw a9 w c7.dp e2 O H);unfold dE at a6;rw [b2,c9,ar] at a6;rw [i5];simp only [b2] at j8⊢;obtain⟨g2,k9,l0⟩:=DC b;have c0:=E (λ(i:Z) (f:V) (a3:ah f i b)=>show d prog 55 #[i] f λg k=>∃l1,g=e (Ye #[l1,A G ((tw aF b).2:Int)])/\lO k f l1 (iX b)/\X f f k from Pp i b f a3 O);have h0:=E (λ(i:Z) (f:V) (a3:lO f 0 i (iX b))=>show d prog 208 #[i] f λg k=>∃p i4,g=e (Ye #[Q (K ⟨p,0,I⟩),A G (sL b:Int)])/\ct k p i4 (nD b)/\f.heap.size<=p/\f.heap.size<=i4/\X f f k from GJ i (iX b) f a3 O (λu a2=>g2 _ (by simp [YR,a2])));have b9:=E (λ(u:Nat) (a2:u<(iX b).length) (f:V)=>zA ((iX b).getD u de) f (g2 _ (by simp [YR,a2])));have C:=E (λc (m:c<=(iX b).length)=>k9 c m);have c3:=E (show sL b<=(iX b).length from wj _ _);have c2:=E (show wZ b=gF (iX b) (sL b) from rfl);have g9:=E (λ(i:Z) (f:V) (n9:aC W p L D f) (n8:FD f q p) (a3:∀g8,af (L.has p) f g8->ah g8 i (b.take (wZ b)))=>ML q a9 (b.take (wZ b)) i n9 n8 e2 o0 a3);have T:=E c7;have c6:=E b6;have l7:=E e0;have h2:=E j0;have h3:FD w q p:=⟨cs,b6,e0⟩;have q2:=h3.cell;have r5:=b6.lt;obtain⟨l2,k6⟩:∃l2,(tw aF b).2=l2:=⟨_,rfl⟩;rw [k6] at c0;obtain⟨h,e9⟩:∃h,iX b=h:=⟨_,rfl⟩;obtain⟨n,j9⟩:∃n,sL b=n:=⟨_,rfl⟩;obtain⟨J,j1⟩:∃J,nD b=J:=⟨_,rfl⟩;obtain⟨cut,j6⟩:∃p1,wZ b=p1:=⟨_,rfl⟩;obtain⟨j,g0⟩:∃j,b.length=j:=⟨_,rfl⟩;obtain⟨k7,b4⟩:∃j,h.length=j:=⟨_,rfl⟩;simp only [e9,j9,j1,j6] at c0 h0 b9 C c3 c2 g9⊢;simp only [g0] at a6 C j8 l0⊢;simp only [b4] at b9 C c3;rw [e9,b4] at l0;have h5:=E g0;have h4:=E b4;obtain⟨R,e5⟩:∃R,R=(if cut=j then (D,0) else iM (b.take cut) D):=⟨_,rfl⟩;rw [<-e5];have h6:=E e5;have k0:=c3.o;clear e5 c7 b6 e0 j0 e2 b2 i5 g2 k9 h3 k6 e9 j9 j1 j6 g0 b4 c9;go_enter func165,ntmps165
 go_wp2_with (first
  |(go_at_call 191;refine a6.o.mono ?_;rintro g w1 ⟨i,rfl,b5,e6⟩;obtain⟨n1,cap,rfl,o1,q7,j2⟩:=yw b5;have l8:=E j2;clear j2;have i0:=E b5;have m6:=E (aq (by rw [h5.o];exact b5));have l6:=E e6;have r6:=(c6.o.ext e6).lt;clear b5 e6)
  |(go_at_call 55;refine(c0.o _ _ m6.o).mono ?_;rintro g w2 ⟨s3,rfl,g1,e7⟩;obtain⟨i3,c8,k4,j4, -, -⟩:=yw g1;rw [h4.o] at k4 j4;have r3:n<=c8:=Yl k0 j4;subst k4;have i1:=E (aA g1 (Yr _));have a7:=E (ext l6.o e7);have m4:=E e7;have r7:=(c6.o.ext a7.o).lt;clear g1 e7)
  |(go_at_call 208;refine(h0.o _ _ i1.o).mono ?_;rintro g p0 ⟨jp,jb,rfl,j7,k2,k3,b3⟩;have m1:=E j7;have c1:=E (ext a7.o b3);have c5:=E (ext m4.o b3);have i2:=E (aG i1.o b3);have a8:=E (show w.heap.size<=jp from Yl a7.o.size k2);have F:=E (show w.heap.size<=jb from Yl a7.o.size k3);have x:=E (c6.o.ext c1.o);have r8:=x.o.lt;have q6:=x.o.free 14;have s0:=(x.o.cell 14).trans (Array.getElem?_eq_getElem h2.o);clear j7 k2 k3 b3))
 obtain⟨r,t⟩:∃n0,n0=p0.setCell ⟨q,14,I⟩ (Q (K ⟨jp,0,I⟩)):=⟨_,rfl⟩
 have l4:=E (show FS W p q jp jb (cs.setIfInBounds 14 (Q (K ⟨jp,0,I⟩))) L D J r from by
  rw [t]
  exact FS.made (T.o.ext c1.o) x.o m1.o (λl=>by have:=T.o.dp.lt l;have:=F.o;omega) (Yl T.o.size a8.o) (Yl T.o.size F.o) o9 l7.o h2.o)
 have m2:=E (show af (λc=>L.has p c∨c=q) w r from by rw [t];exact aL (af.aj c1.o) (Yh rfl))
 have m5:=E (show lO r 0 (U i3 k7 c8) h from by
  rw [t]
  exact an i2.o λc m=>Yt _ _ _ _ (λg=>by
   have a0:c=q:=g;subst a0
   exact cW x.o i2.o H m))
 have m7:=E (show ah r (U n1 j cap) b from by
  rw [t]
  exact aq (by rw [h5.o];exact an (aG i0.o c5.o) λc m=>Yt _ _ _ _ (λg=>by
   have a0:c=q:=g;subst a0
   exact cW x.o (aG i0.o c5.o) H m)))
 rw [<-t];have p8:=E (show w1.heap.size<=r.heap.size from by rw [t];simpa using c5.o.size);clear t
 go_loopw [9,43] (λo5 y wr=>∃c:Nat,c<=n/\y=A G c/\o5=A G (gF h c:Int)/\X r r wr) (λ_ y _=>n - (Yz y).toNat)
 case atStart=>exact⟨0,Yr _,rfl,rfl,Yn _ _⟩
 case round=>
  obtain⟨c,m,rfl,rfl,b1⟩:=hrel;have z:=E b1;by_cases r2:c<n
  .have o3:c<h.length:=by rw [h4.o];omega
   have o4:=C.o (c+1) O;have b0:gF h (c+1)=gF h c+(eK aF (h.getD c de)).length:=rfl;have k5:lO wr 0 (U i3 k7 c8) h:=aG m5.o b1;obtain⟨s,rfl,q8,p2,p3,p4,p5,p6⟩:=k5.at o3;have a5:=E (b9.o c O);generalize h.getD c de=g3 at*;obtain⟨h9,e4⟩:∃h9,(eK aF g3).length=h9:=⟨_,rfl⟩;generalize ak (eK aF g3)=q1 at a5;rw [e4] at b0;simp only [e4] at a5;obtain⟨g5,rs,g7,g6,g4⟩:=g3;have g:aU.val ⟨g5,rs,g7,g6,g4⟩=Yc #[A G g5,A G rs,A G g7,A G g6,A G g4]:=rfl;rw [g] at a5;simp only at p2 p3 p4 p5 p6;have h1:=E b0;obtain⟨P,e3⟩:∃P,gF h c=P:=⟨_,rfl⟩;rw [b0,e3] at o4;rw [e3] at h1⊢;clear b1 k5 g e4 b0 e3
   go_wp2_with (first
    |(go_at_call 110;refine(a5.o _).mono ?_;rintro g s5 ⟨s4,rfl,k1,j3⟩;obtain⟨p9,q3,rfl⟩:=aK k1;have l9:=E (ext (z.o.trans (show X r wr (wr.alloc (M #[A G g5,A G rs,A G g7,A G g6,A G g4] 93)) from((Yn _ _).alloc (z.o.size) _))) j3);clear k1 j3))
   refine⟨⟨c+1,O,S,?_,l9.o⟩,by simp [Yz];omega⟩;rw [h1.o];push_cast;rfl
  .obtain rfl:c=n:=O
   have e8:=c2.o;rw [<-e8]
   have o2:cut<=j:=by rw [e8];exact C.o c k0
   have v:=E (l4.o.ext z.o);have m8:=E (m7.o.ext z.o);have c4:=E (m2.o.trans (af.aj z.o));have r1:=v.o.ay.lt;clear e8 b1 c2;by_cases e1:cut=j
   .have b7:=h6.o
    rw [if_pos e1] at b7;subst e1;go_wp2;go_returns
    skip
    exact⟨rfl,_,_,_,v.o,c4.o,λ_ l=>Yg l,a8.o,F.o⟩
   .have a0:¬(cut:Int)=(j:Int):=O
    have q5:((cut:Int)==(j:Int))=false:=by simpa using a0
    have n3:cut<=cap:=Yl o2 o1;have m0:=E (show R=iM (b.take cut) D from by have b7:=h6.o;rw [if_neg e1] at b7;exact b7)
    rcases l8.o with⟨rfl,l⟩|⟨s,rfl,q9,r0⟩
    .omega
    have m9:=E (show ah wr (U (K s) cut cap) (b.take cut) from by
     have:=m8.o.sub (a:=0) (m:=cut) O
     simpa using this)
    have l3:=E (g9.o (U (K s) cut cap) wr v.o.aB ⟨_,v.o.ay,v.o.c0⟩ (λg8 m=>by
     have n6:¬L.has p s:=λn4=>by have:=T.o.dp.lt n4;omega
     obtain⟨q0,q4,i7,r9,o6,o7,o8⟩:=m9.o;simp only [Yy] at i7;obtain⟨rfl,i6,rfl⟩:=i7;refine⟨_,_,by rw [<-i6],by rw [<-i6];exact n3,o6,o7,λu a2=>?_⟩;obtain⟨r4,off,n2,j5⟩:=o8 u a2;obtain⟨rfl,rfl, -⟩:=Addr.mk.inj (YG n2)
     exact⟨_,_,rfl,(YS (w:=wr) (a:=⟨s,0+u,I⟩) (m.block s (Yj wr ⟨s,0+u,I⟩ j5) n6)).trans j5⟩))
    go_wp2_with (first
     |(go_at_call 209;refine l3.o.mono ?_;rintro g s6 ⟨rfl,m3,b8⟩;obtain⟨p7,i9,k8⟩:=v.o.lR ⟨m3,b8.aB,b8.aD,b8.new⟩;have l5:=E i9;have h8:=E k8;clear i9 k8 b8))
    go_returns;rw [m0.o];refine⟨rfl,_,_,_,l5.o,c4.o.js h8.o.aD (λy a1=>?_),λy a1=>?_,a8.o,F.o⟩
    .rcases a1 with a1|rfl|rfl
     .exact Yg (Yg a1)
     .exact Yh a8.o
     .exact Yh F.o
    .rcases h8.o.new y a1 with l|l
     .exact Yg l
     .exact Yh (Yl c4.o.size l)
end
theorem ml:∀(f:List Bs) (c:Bool) {a:DS} {b:Nat},Inv a b->Inv (bm f c a).1 (b+3*f.length+3)
 |[],c,a,b,h=>by
  unfold bm;split
  .exact h.dG.mono Y
  .exact h.mono Y
 |g::i,c,a,b,h=>by
  unfold bm;simp only [List.length_cons];split
  .unfold pO
   split
   .exact(ml i true (h.jK g)).mono O
   .exact(h.jK g).mono O
  .exact(ml i c h).mono O
section
variable {D:DS} {T:Nat}
theorem pR(a:Inv D T):Inv (bk D).1 (T+6):=by
 unfold bk pO;split
 .exact a.mono O
 .split
  .exact(a.br aw).dG.mono O
  .exact(a.br aw).mono O
theorem NU(g:Bs)(i:Inv D T):Inv (iM g D).1 (T+15):=by
 unfold iM pO;have a:=i.br dH;have b:=a.du dH g;have c:=b.cV dH;have f:=c.gO dH aw;have h:=f.dG;split
 .try dsimp only
  split
  .try dsimp only
   split
   .try dsimp only
    split
    .exact h.mono O
    .exact f.mono O
   .exact c.mono O
  .exact b.mono O
 .exact a.mono O
theorem pS(a:Inv D T):Inv (cG D).1 (T+15):=by
 unfold cG;split
 .exact a.mono O
 .split
  .exact a.mono O
  .exact NU _ a
theorem Bo(c:aU)(b:bJ)(a:Inv D T):Inv (jE c D b).1 (T+6):=by
 unfold jE kI;split
 .exact(a.du _ _).mono O
 .split<;>exact((a.du _ _).cV _).mono O
theorem mj(c f:Nat)(b:bJ)(a:Inv D T):Inv (gR c f D b).1 (T+6):=by
 unfold gR;split
 .exact Bo _ _ a
 .split<;>exact a.mono O
theorem Bn(c:Nat)(b:bJ)(a:Inv D T):Inv (jd c D b).1 (T+6):=by
 unfold jd;split
 .exact a.mono O
 .split
  .exact Bo _ _ a
  .exact a.mono O
theorem JV(b:aU)(a:bJ):(jE b D a).2.1.done.length<=a.done.length+1:=by
 unfold jE kI;split
 .exact Nat.le_succ _
 .split
  .exact Nat.le_succ _
  .exact uA _ _
theorem uQ(b c:Nat)(a:bJ):(gR b c D a).2.1.done.length<=a.done.length+1:=by
 unfold gR;split
 .exact JV _ _
 .split<;>exact Nat.le_succ _
theorem AM(a:Bs):(nD a).done.length<=a.length:=Yl (oD _ _) (DC a).2.2
end
structure ON(p q:Nat)(L:bY)(w:V)(L':bY)(w':V):Prop where
 aD:af (λk=>L.has p k∨k=q) w w'
 new:∀k,L'.has p k->L.has p k∨w.heap.size<=k
section
variable {W:V} {p q jp jb:Nat} {cs:Array Z} {L L1 L2:bY} {D D1 D2:DS} {J J1:bJ} {w w0 w1 w2:V}
theorem SN.on(a:SN W p L w L1 D1 w1):ON p q L w L1 w1:=⟨a.aD.mono λc _ b=>Yg b,a.new⟩
theorem ON.trans(c:ON p q L w L1 w1)(g:ON p q L1 w1 L2 w2):ON p q L w L2 w2:=
 ⟨c.aD.js g.aD λf b=>by
  rcases b with b|b
  .rcases c.new f b with a|a
   .exact Yg (Yg a)
   .exact Yh a
  .exact Yg (Yh b),λf b=>by
  rcases g.new f b with a|a
  .exact c.new f a
  .exact Yh (Yl c.aD.size a)⟩
theorem ON.sn(a:ON p q L w L1 w1)(b:SN W p L1 w1 L2 D2 w2):ON p q L w L2 w2:=a.trans b.on
theorem ON.ext(a:ON p q L w L1 w1)(b:X w1 w1 w2):ON p q L w L1 w2:=⟨a.aD.trans (af.aj b),a.new⟩
theorem ON.fn(c:ON p q L w L1 w1)(g:FN p jp jb L1 w1 L2 w2)(i:w.heap.size<=jp)(h:w.heap.size<=jb):ON p q L w L2 w2:=
 ⟨c.aD.js g.aD λf b=>by
  rcases b with b|rfl|rfl
  .rcases c.new f b with a|a
   .exact Yg (Yg a)
   .exact Yh a
  .exact Yh i
  .exact Yh h,λf b=>by
  rcases g.new f b with a|a
  .exact c.new f a
  .exact Yh (Yl c.aD.size a)⟩
theorem sT(c:Nat)(j:aC W p L D w)(n:ai w q cs 114)(y:W.heap.size<=q)(l:cs[0]? =K (Q (K p)))(o:14<cs.size)(m:Inv D c)(v:c+15<=100000)(x:(cy D aw).length<=90000):
  d prog 165 #[Q (K q)] w λk b=>k=e (bj (cG D).2)/\∃a,aC W p a (cG D).1 b/\ON p q L w a b/\((cG D).2=0->∃jp jb,FS W p q jp jb (cs.setIfInBounds 14 (Q (K ⟨jp,0,I⟩))) a (cG D).1 (nD (cy D aw)) b/\w.heap.size<=jp/\w.heap.size<=jb):=by
 by_cases f:eh D aw=0
 .refine(Fa c j n y l o m v f x).mono ?_
  rintro k b ⟨rfl,a,jp,jb,g,h,r,s,t⟩;exact⟨rfl,a,g.aB,⟨h,r⟩,λ_=>⟨jp,jb,g,s,t⟩⟩
 .refine(Fb q c j ⟨cs,n,l⟩ m O f).mono ?_
  rintro k b ⟨rfl,g,h⟩;rw [g];refine⟨rfl,L,j.ext h,⟨af.aj h,λ_ i=>Yg i⟩,λi=>?_⟩
  have u:(cG D).2=eh D aw:=by unfold cG;rw [if_pos f]
  rw [u] at i;exact absurd i f
def Ah(W:V)(p q:Nat)(L:bY)(f:Nat->Array Z)(R:DS×bJ×Nat×Int)(w:V)(c:Ending)(b:V):Prop:=
 c=e (Ye #[A G (R.2.2.1:Int),bj R.2.2.2])/\∃a,aC W p a R.1 b/\ON p q L w a b/\(R.2.2.2=0->∃jp jb,FS W p q jp jb (f jp) a R.1 R.2.1 b/\w.heap.size<=jp/\w.heap.size<=jb)
theorem OE(h4 s c8 a8 g9:Nat)(r:cF)(e1 e0 c6 c4 k4 e2 c9 h0:Z)(c7:Option Yi)(c5:Bool)(g3:Z)(u:Bs)(h3:aC W p L D w)(g8:ai w q (bZ p r e1 e0 c6 (U c7 s c8) c4 k4 e2 c9 c5) 114)(l5:W.heap.size<=q)
  (j7:iB r=true)(l4:ah w g3 u)(k2:∀e7 f,ON p q L w e7 f->ah f g3 u)(k1:u.length<=1000000)(j8:s<=16)(h8:Inv D h4)(l0:h4+3*D.names.length+60<=100000)(l2:bN w)(j9:∀e7 f,ON p q L w e7 f->bN f)(j6:∀e7 f,ON p q L w e7 f->cx f 2 (Yd g9 h0) (a8:Int))(h:1<=a8)(k:a8<=15)
  (k0:(cy (bk (bm (aI D) false D).1).1 aw).length<=90000):
  d prog 120 #[Q (K q),g3,Yd g9 h0] w (Ah W p q L (λjp=>bZ p r e1 e0 c6 (U c7 s c8) c4 (Q (K ⟨jp,0,I⟩)) e2 c9 c5) (bz (cl r u) s a8 D) w):=by
 have l3:=dk D;have i2:=ml (aI D) false h8;have b2:=E (uW q h4 h3 ⟨_,g8,rfl⟩ h8 O);have i3:=pR i2;have b3:=E (λ(b6:bY) (f:V) (i1:aC W p b6 (bm (aI D) false D).1 f) (h9:FD f q p)=>sR q _ i1 h9 i2 O);have i4:=pS i3;have a2:=E (λ(b6:bY) (f:V) (i1:aC W p b6 (bk (bm (aI D) false D).1).1 f) (h9:ai f q (bZ p r e1 e0 c6 (U c7 s c8) c4 k4 e2 c9 c5) 114)=>sT _ i1 h9 l5 rfl (by simp [bZ]) i3 O k0);have j0:=AM (cy (bk (bm (aI D) false D).1).1 aw);have a3:=E (λ(b6:bY) (f:V) (jp jb:Nat) (h7:FS W p q jp jb (bZ p r e1 e0 c6 (U c7 s c8) c4 (Q (K ⟨jp,0,I⟩)) e2 c9 c5) b6 (cG (bk (bm (aI D) false D).1).1).1 (nD (cy (bk (bm (aI D) false D).1).1 aw)) f) (l1:ah f g3 u)=>uU _ s c8 r e1 e0 c6 c4 e2 c9 c7 c5 g3 u h7 j7 l1 k1 j8 i4 O O);obtain⟨R,i0⟩:∃R,bz (cl r u) s a8 D=R:=⟨_,rfl⟩;have a1:=i0.symm;rw [i0];clear i0;unfold bz at a1;obtain⟨e6,g7⟩:∃y,nD (cy (bk (bm (aI D) false D).1).1 aw)=y:=⟨_,rfl⟩;rw [g7] at j0;have k3:=mj (cl r u) s e6 i4;have k7:=uQ (D:=(cG (bk (bm (aI D) false D).1).1).1) (cl r u) s e6;have b4:=E (λ(b6:bY) (f:V) (jp jb:Nat) (h7:FS W p q jp jb (bZ p r e1 e0 c6 (U c7 s c8) c4 (Q (K ⟨jp,0,I⟩)) e2 c9 c5) b6 (gR (cl r u) s (cG (bk (bm (aI D) false D).1).1).1 e6).1 (gR (cl r u) s (cG (bk (bm (aI D) false D).1).1).1 e6).2.1 f) (k9:bN f) (k8:cx f 2 (Yd g9 h0) (a8:Int))=>J' _ a8 g9 h0 h7 k9 k8 h k k3 O O);have c3:=E h3;have c2:=E g8;have h5:=E k2;have i7:=E j9;have i6:=E j6;have l8:=g8.lt;simp only [g7] at a2 a3 a1;obtain⟨e8,j1⟩:∃y,bm (aI D) false D=y:=⟨_,rfl⟩;simp only [j1] at b2 b3 a2 a3 b4 a1;obtain⟨e9,j2⟩:∃y,bk e8.1=y:=⟨_,rfl⟩;simp only [j2] at b3 a2 a3 b4 a1;obtain⟨g0,j3⟩:∃y,cG e9.1=y:=⟨_,rfl⟩;simp only [j3] at a2 a3 b4 a1;obtain⟨b7,j4⟩:∃y,gR (cl r u) s g0.1 e6=y:=⟨_,rfl⟩;simp only [j4] at a3 b4 a1;obtain⟨b8,j5⟩:∃y,jd a8 b7.1 b7.2.1=y:=⟨_,rfl⟩;simp only [j5] at b4 a1;have l7:=E g7;clear j1 j2 j3 j4 j5 i2 i3 i4 k3 j0 k7 k0 h k j9 j6 k2 l4 k1 j8 h8 l0 l2 j7 h3 g8 l3 g7;have c1:=E a1;clear a1;unfold Ah;by_cases h:e8.2=0
 case neg=>
  have a5:=E (aT h)
  have v:Hd (R=(e8.1,nd,1,e8.2)):=by show R=_;rw [c1.o];simp [h]
  have P:=E h;clear h;go_enter func120,ntmps120
  go_wp2_with (first
   |(go_at_call 163;refine b2.o.mono ?_;rintro g w1 ⟨a,L1,b⟩;rw [a5.o] at a;subst a;have i:=E b.aB;have x:=E (b.on (q:=q));have m:=E (b.ay c3.o.dp c2.o);clear b))
  go_returns;rw [v.o];exact⟨by rw [a5.o];rfl,_,i.o,x.o,λa0=>absurd a0 P.o⟩
 have a5:Hd (bj e8.2=Ya):=by rw [h];exact ar
 by_cases k:e9.2=0
 case neg=>
  have b5:=E (aT k)
  have v:Hd (R=(e9.1,nd,2,e9.2)):=by show R=_;rw [c1.o];simp [h,k]
  have P:=E k;clear h k;go_enter func120,ntmps120
  go_wp2_with (first
   |(go_at_call 164;refine(b3.o _ _ i.o ⟨_,m.o,rfl⟩).mono ?_;rintro g w2 ⟨a,L2,c⟩;rw [b5.o] at a;subst a;have J:=E c.aB;have l:=E (x.o.sn c);have a6:=E (c.ay i.o.dp m.o);clear c)
   |(go_at_call 163;refine b2.o.mono ?_;rintro g w1 ⟨a,L1,b⟩;rw [a5.o] at a;subst a;have i:=E b.aB;have x:=E (b.on (q:=q));have m:=E (b.ay c3.o.dp c2.o);clear b))
  go_returns;rw [v.o];exact⟨by rw [b5.o];rfl,_,J.o,l.o,λa0=>absurd a0 P.o⟩
 have b5:Hd (bj e9.2=Ya):=by rw [k];exact ar
 by_cases t:g0.2=0
 case neg=>
  have c0:=E (aT t)
  have v:Hd (R=(g0.1,nd,3,g0.2)):=by show R=_;rw [c1.o];simp [h,k,t]
  have P:=E t;clear h k t;go_enter func120,ntmps120
  go_wp2_with (first
   |(go_at_call 165;refine(a2.o _ _ J.o a6.o).mono ?_;rintro g i5 ⟨a,h1,s3,z,j⟩;rw [c0.o] at a;subst a;have g6:=E s3;have C:=E (l.o.trans z);clear j z;clear s3)
   |(go_at_call 164;refine(b3.o _ _ i.o ⟨_,m.o,rfl⟩).mono ?_;rintro g w2 ⟨a,L2,c⟩;rw [b5.o] at a;subst a;have J:=E c.aB;have l:=E (x.o.sn c);have a6:=E (c.ay i.o.dp m.o);clear c)
   |(go_at_call 163;refine b2.o.mono ?_;rintro g w1 ⟨a,L1,b⟩;rw [a5.o] at a;subst a;have i:=E b.aB;have x:=E (b.on (q:=q));have m:=E (b.ay c3.o.dp c2.o);clear b))
  go_returns;rw [v.o];exact⟨by rw [c0.o];rfl,_,g6.o,C.o,λa0=>absurd a0 P.o⟩
 have c0:Hd (bj g0.2=Ya):=by rw [t];exact ar
 have h6:=E t;by_cases T:b7.2.2=0
 case neg=>
  have e3:=E (aT T)
  have v:Hd (R=(b7.1,b7.2.1,4,b7.2.2)):=by show R=_;rw [c1.o];simp [h,k,t,T]
  have P:=E T;clear h k t T;go_enter func120,ntmps120
  go_wp2_with (first
   |(go_at_call 166;refine(a3.o _ _ _ _ e4.o (h5.o _ _ C.o)).mono ?_;rintro g k5 ⟨a,i9,a9,b0⟩;rw [e3.o] at a;subst a;have e5:=E a9;have F:=E (C.o.fn b0 n.o.1 n.o.2);clear a9 b0)
   |(go_at_call 165;refine(a2.o _ _ J.o a6.o).mono ?_;rintro g i5 ⟨a,h1,s3,z,j⟩;rw [c0.o] at a;subst a;have g6:=E s3;have C:=E (l.o.trans z);obtain⟨jp,jb,j,b1,a7⟩:=j h6.o;have e4:=E j;have n:=E (YI (Yl l.o.aD.size b1) (Yl l.o.aD.size a7));clear j z b1 a7;clear s3)
   |(go_at_call 164;refine(b3.o _ _ i.o ⟨_,m.o,rfl⟩).mono ?_;rintro g w2 ⟨a,L2,c⟩;rw [b5.o] at a;subst a;have J:=E c.aB;have l:=E (x.o.sn c);have a6:=E (c.ay i.o.dp m.o);clear c)
   |(go_at_call 163;refine b2.o.mono ?_;rintro g w1 ⟨a,L1,b⟩;rw [a5.o] at a;subst a;have i:=E b.aB;have x:=E (b.on (q:=q));have m:=E (b.ay c3.o.dp c2.o);clear b))
  go_returns;rw [v.o];exact⟨by rw [e3.o];rfl,_,e5.o.aB,F.o,λa0=>absurd a0 P.o⟩
 have e3:Hd (bj b7.2.2=Ya):=by rw [T];exact ar
 by_cases b9:b8.2.2=0
 case neg=>
  have g4:=E (aT b9)
  have v:Hd (R=(b8.1,b8.2.1,5,b8.2.2)):=by show R=_;rw [c1.o];simp [h,k,t,T,b9]
  have P:=E b9;clear h k t T b9;go_enter func120,ntmps120
  go_wp2_with (first
   |(go_at_call 167;refine(b4.o _ _ _ _ e5.o (i7.o _ _ F.o) (i6.o _ _ F.o)).mono ?_;rintro g l6 ⟨a,k6,g1,g2⟩;rw [g4.o] at a;subst a;have g5:=E g1;have h2:=E (F.o.fn g2 n.o.1 n.o.2);clear g1 g2)
   |(go_at_call 166;refine(a3.o _ _ _ _ e4.o (h5.o _ _ C.o)).mono ?_;rintro g k5 ⟨a,i9,a9,b0⟩;rw [e3.o] at a;subst a;have e5:=E a9;have F:=E (C.o.fn b0 n.o.1 n.o.2);clear a9 b0)
   |(go_at_call 165;refine(a2.o _ _ J.o a6.o).mono ?_;rintro g i5 ⟨a,h1,s3,z,j⟩;rw [c0.o] at a;subst a;have g6:=E s3;have C:=E (l.o.trans z);obtain⟨jp,jb,j,b1,a7⟩:=j h6.o;have e4:=E j;have n:=E (YI (Yl l.o.aD.size b1) (Yl l.o.aD.size a7));clear j z b1 a7;clear s3)
   |(go_at_call 164;refine(b3.o _ _ i.o ⟨_,m.o,rfl⟩).mono ?_;rintro g w2 ⟨a,L2,c⟩;rw [b5.o] at a;subst a;have J:=E c.aB;have l:=E (x.o.sn c);have a6:=E (c.ay i.o.dp m.o);clear c)
   |(go_at_call 163;refine b2.o.mono ?_;rintro g w1 ⟨a,L1,b⟩;rw [a5.o] at a;subst a;have i:=E b.aB;have x:=E (b.on (q:=q));have m:=E (b.ay c3.o.dp c2.o);clear b))
  go_returns;rw [v.o];exact⟨by rw [g4.o];rfl,_,g5.o.aB,h2.o,λa0=>absurd a0 P.o⟩
 have g4:Hd (bj b8.2.2=Ya):=by rw [b9];exact ar
 have v:Hd (R=(b8.1,b8.2.1,0,0)):=by show R=_;rw [c1.o];simp [h,k,t,T,b9]
 clear h k t T b9;go_enter func120,ntmps120
 go_wp2_with (first
  |(go_at_call 167;refine(b4.o _ _ _ _ e5.o (i7.o _ _ F.o) (i6.o _ _ F.o)).mono ?_;rintro g l6 ⟨a,k6,g1,g2⟩;rw [g4.o] at a;subst a;have g5:=E g1;have h2:=E (F.o.fn g2 n.o.1 n.o.2);clear g1 g2)
  |(go_at_call 166;refine(a3.o _ _ _ _ e4.o (h5.o _ _ C.o)).mono ?_;rintro g k5 ⟨a,i9,a9,b0⟩;rw [e3.o] at a;subst a;have e5:=E a9;have F:=E (C.o.fn b0 n.o.1 n.o.2);clear a9 b0)
  |(go_at_call 165;refine(a2.o _ _ J.o a6.o).mono ?_;rintro g i5 ⟨a,h1,s3,z,j⟩;rw [c0.o] at a;subst a;have g6:=E s3;have C:=E (l.o.trans z);obtain⟨jp,jb,j,b1,a7⟩:=j h6.o;have e4:=E j;have n:=E (YI (Yl l.o.aD.size b1) (Yl l.o.aD.size a7));clear j z b1 a7;clear s3)
  |(go_at_call 164;refine(b3.o _ _ i.o ⟨_,m.o,rfl⟩).mono ?_;rintro g w2 ⟨a,L2,c⟩;rw [b5.o] at a;subst a;have J:=E c.aB;have l:=E (x.o.sn c);have a6:=E (c.ay i.o.dp m.o);clear c)
  |(go_at_call 163;refine b2.o.mono ?_;rintro g w1 ⟨a,L1,b⟩;rw [a5.o] at a;subst a;have i:=E b.aB;have x:=E (b.on (q:=q));have m:=E (b.ay c3.o.dp c2.o);clear b))
 go_returns;rw [v.o];exact⟨rfl,_,g5.o.aB,h2.o,λ_=>⟨_,_,g5.o,n.o.1,n.o.2⟩⟩
end
end
end Go.Proofs.YtajkpgaheechmaaGreatDoor
