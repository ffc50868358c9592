/- TopP TopQ TopR TopU TopV -/
import Derived.Test.YtajkpgaheechmaaGreatDoorZAI
set_option maxRecDepth 100000
set_option maxHeartbeats 16000000
set_option linter.unusedSimpArgs false
set_option linter.unusedVariables false
set_option linter.unusedSectionVars false
namespace Go.Proofs.YtajkpgaheechmaaGreatDoor
open _root_.Go.Proofs.Tryz
open Option renaming none->I,some->K
open Go.Obj renaming cells->M
open Go renaming Calls->d
open Or renaming inl->Yg,inr->Yh
open Nat renaming le_refl->Yk,le_trans->Yl,zero_le->Yr
open UInt8 renaming ofNat->Ym
open List renaming getD_eq_getElem?_getD->Yp,length_append->Yq
section
def aw:Bs:=[106,111,98]
def dH:Bs:=[106,111,98,46,116,109,112]
def Nm(a:Bs):Prop:=a=aw∨a=dH
structure Good(J:Bs)(D:DS):Prop where
 names:∀q∈D.names,Nm q.1
 safe:∀q∈D.safe,Nm q.1
 steps:∀s∈D.steps,s.kind<=2/\(s.kind=0->Nm s.name)/\(s.kind=1->Nm s.to)
 files:∀j,(D.file j).data<+:J
 room:4194304<=D.room
section
variable {J:Bs} {D:DS} {T:Nat}
theorem ux{h:NM}{b:kY}(f:∀q∈h,Nm q.1)(g:b.kind<=2/\(b.kind=0->Nm b.name)/\(b.kind=1->Nm b.to)):∀q∈eT h b,Nm q.1:=by
 intro q a;unfold eT at a;split at a
 .rename_i c
  rcases ri a with rfl|a
  .exact g.2.1 c
  .exact f q a
 .split at a
  .rename_i c
   rcases ri a with rfl|a
   .exact g.2.2 c
   .exact f q (rh a)
  .exact f q (rh a)
theorem uy:∀{l:List kY} {b:NM},(∀q∈b,Nm q.1)->(∀a∈l,a.kind<=2/\(a.kind=0->Nm a.name)/\(a.kind=1->Nm a.to))->∀q∈l.foldl eT b,Nm q.1
 |[],_,hm,_=>hm
 |a::f,_,hm,hs=>uy (l:=f) (ux hm (hs a Y)) λg c=>hs g (by simp [c])
theorem Good.mg(a:Good J D):Good J (cI D):=⟨a.names,a.safe,a.steps,a.files,a.room⟩
theorem Good.cq(a:Good J D)(b:Int):Good J (cq D b):=by
 unfold Go.Proofs.YtajkpgaheechmaaGreatDoor.cq;split
 .exact a
 .split
  .exact a
  .exact a.mg
theorem Good.JU(c:Good J D){b:kY}(f:b.kind<=2/\(b.kind=0->Nm b.name)/\(b.kind=1->Nm b.to)):Good J (ja D b):=
 ⟨ux c.names f,c.safe,λg a=>by
  have a:g∈D.steps++[b]:=a
  rcases List.mem_append.1 a with a|a
  .exact c.steps g a
  .rw [List.mem_singleton.1 a];exact f,c.files,c.room⟩
theorem Good.set(a:Good J D)(c:Nat){f:DF}(g:f.data<+:J):Good J {D with all:=dy D.all c f}:=
 ⟨a.names,a.safe,a.steps,λb=>by
  show((dy D.all c f).getD b DF.ae).data<+:J
  rw [dA];split
  .exact g
  .exact a.files b,a.room⟩
theorem Good.made(a:Good J D):Good J {D with all:=D.all++[DF.ae]}:=
 ⟨a.names,a.safe,a.steps,λc=>by
  show((D.all++[DF.ae]).getD c DF.ae).data<+:J
  rcases Nat.lt_trichotomy c D.all.length with b|b|b
  .rw [dQ b];exact a.files c
  .rw [b,cS];exact List.nil_prefix
  .rw [Yp,List.getElem?_eq_none (by simp;omega)];exact List.nil_prefix,a.room⟩
theorem Good.create(b:Good J D){n:Bs}(h:Nm n):Good J (br D n):=by
 unfold br;split
 .have f:=b.cq (bU D n)
  have g:Good J {Go.Proofs.YtajkpgaheechmaaGreatDoor.cq D (bU D n) with all:=D.all++[DF.ae]}:=by
   have a:(Go.Proofs.YtajkpgaheechmaaGreatDoor.cq D (bU D n)).all=D.all:=by unfold Go.Proofs.YtajkpgaheechmaaGreatDoor.cq;split<;>(try split)<;>rfl
   have c:=f.made;rw [a] at c;exact c
  exact g.JU ⟨Yr _,λ_=>h,λa=>by cases a⟩
 .exact b.cq _
theorem Good.sync(a:Good J D)(n:Bs):Good J (cV D n):=by
 unfold cV;split
 .exact a.mg.set _ (f:=wK D n) (a.files _)
 .exact a.cq _
theorem Good.RY(c:Good J D){a b:Bs}(g:Nm b):Good J (gO D a b):=by
 unfold gO;split
 .exact c.mg.JU ⟨by show 1<=2;omega,λf=>(by cases f),λ_=>g⟩
 .exact c.cq _
theorem Good.rem(b:Good J D)(c:Bs):Good J (jK D c):=by
 unfold jK;split
 .exact b.mg.JU ⟨Yk 2,λa=>(by cases a),λa=>(by cases a)⟩
 .exact b.cq _
theorem Good.rC(a:Good J D):Good J (dG D):=by
 unfold dG;split
 .exact⟨a.names,a.names,λc b=>(by simp at b),a.files,a.room⟩
 .exact a.cq _
theorem Good.app(c:Good J D)(a:Bs){b:Bs}(g:(D.file (aM D.names a)).data++b<+:J):Good J (du D a b):=by
 unfold du;split
 .exact c
 .refine c.mg.set _ (f:=tH D a b) ?_
  unfold tH;simp only;split
  .exact List.IsPrefix.trans ⟨b.drop (b.length / 2),by rw [List.append_assoc,List.take_append_drop]⟩ g
  .exact g
theorem Good.arm(a:Good J D)(b:Int):Good J (qC D b):=by
 unfold qC;split
 .exact a
 .exact⟨a.names,a.safe,a.steps,a.files,a.room⟩
theorem EE(c:List Int)(b:Nat)(a:DF):(tI c b a).data<+:a.data:=by
 unfold tI;split
 .exact List.take_prefix _ _
 .exact List.prefix_rfl
theorem qN(g:List Int):∀(c:List Nat) (b:List DF) (f:Nat),(∀a,(b.getD a DF.ae).data<+:J)->∀a,((ny g c b f).getD a DF.ae).data<+:J
 |[],_,_,h=>h
 |i::c,b,f,h=>by
  unfold ny
  refine qN g c _ _ λa=>?_
  rw [dA];split
  .exact(EE _ _ _).trans (h i)
  .exact h a
theorem Good.M_(a:Good J D)(c:List Int):Good J (jS D c):=by
 have f:∀q∈jk D c,Nm q.1:=uy a.safe λg b=>a.steps g (List.mem_of_mem_take b)
 exact⟨f,f,λg b=>(by simp [jS] at b),qN c _ _ _ a.files,a.room⟩
theorem ND{b:Int}(c:4194304<=b):Good J (dZ b):=
 ⟨λq a=>by simp [dZ] at a,λq a=>by simp [dZ] at a,λh f=>by simp [dZ] at f,λg=>by simp [dZ,DS.file,DF.ae],c⟩
end
end
section
def db(a:DS)(b:Bs):Bs:=(a.file (aM a.names b)).data
def pO(a:DS×Int)(b:DS->DS×Int):DS×Int:=if a.2=0 then b a.1 else a
def pK(a:Bs):Bool:=([116,46]:Bs).isPrefixOf a||a==dH||a==[111,117,116,46,116,109,112]
def bm:List Bs->Bool->DS->DS×Int
 |[],was,D=>if was then (dG D,jY D) else (D,0)
 |a::b,was,D=>if pK a then pO (jK D a,xm D a) (bm b true) else bm b was D
def bk(a:DS):DS×Int:=if (aI a).contains aw then (a,0) else pO (br a aw,b_ a (bU a aw)) λa=>(dG a,jY a)
def iM(b:Bs)(a:DS):DS×Int:=
 pO (br a dH,b_ a (bU a dH)) λa=>pO (du a dH b,gf a dH b) λa=>pO (cV a dH,fQ a dH) λa=>pO (gO a dH aw,oC a dH aw) λa=>(dG a,jY a)
def ig(b:Bs)(a:DS):DS×Int:=pO (du a aw b,gf a aw b) λa=>(cV a aw,fQ a aw)
def ends(a c:Bs)(b:Nat):Nat:=if b=0 then 0 else if b=1 then a.length else (a++c).length
def gx(b c:Bs)(g:Nat)(f:Bs)(a:DS):DS×Int:=if ends b c g=f.length then (a,0) else iM (f.take (ends b c g)) a
def jg(b:Bs)(c:Nat)(a:DS):DS×Int:=if c=0 then ig b a else (a,0)
def xQ(b:Bs)(c:Nat)(a:DS):DS×Int:=if c<=1 then ig b a else (a,0)
def f_(a c:Bs)(b:Bs):Nat:=if b.length<a.length then 0 else if b.length<(a++c).length then 1 else 2
def rq(b c:Bs)(a:DS):DS×Int:=
 pO (bm (aI a) false a) λa=>pO (bk a) λa=>if eh a aw≠0 then (a,eh a aw) else
  pO (gx b c (f_ b c (cy a aw)) (cy a aw) a) λf=>pO (jg b (f_ b c (cy a aw)) f) λg=>xQ c (f_ b c (cy a aw)) g
section
variable {J J1 J2:Bs} {D:DS} {T:Nat}
theorem ox:Nm aw:=Yg rfl
theorem pX:Nm dH:=Yh rfl
theorem nX{a:Bs}(c:b_ D (bU D a)=0):db (br D a) a=[]/\bT (br D a).names a=K D.all.length:=by
 have g:=(cT c).2.2.2
 have b:br D a=ja {cI D with all:=D.all++[DF.ae]} ⟨0,a,[],D.all.length⟩:=by unfold br;rw [if_pos c,g]
 have f:bT (br D a).names a=K D.all.length:=by
  rw [b]
  show bT (eT D.names ⟨0,a,[],D.all.length⟩) a=_
  unfold eT;rw [if_pos rfl,ou]
 refine⟨?_,f⟩;unfold db aM;rw [f,b]
 show((D.all++[DF.ae]).getD D.all.length DF.ae).data=[]
 rw [cS];rfl
theorem wM(c:Inv D T){a:Bs}(b:ba D a=0):bT D.names a=K (aM D.names a)/\aM D.names a<D.all.length:=by
 obtain⟨-,f⟩:=jP b;exact⟨f,c.kE b⟩
theorem Ak(h:Inv D T){a b:Bs}(f:gf D a b=0):db (du D a b) a=db D a++b/\(du D a b).names=D.names:=by
 have g:iN D a b=0:=by
  unfold gf at f;by_cases c:iN D a b=0
  .exact c
  .rw [if_pos c] at f;exact absurd f c
 have i:fj D=false:=by
  unfold gf at f;rw [if_neg O] at f
  cases c:fj D with
  |false=>rfl
  |true=>rw [c] at f;simp at f
 obtain⟨-,k, -⟩:=uz g;have j:=(wM h k).2
 have c:du D a b={cI D with all:=dy D.all (aM D.names a) (tH D a b)}:=by unfold du;rw [if_neg O]
 rw [c];refine⟨?_,rfl⟩;unfold db
 show((dy D.all (aM D.names a) (tH D a b)).getD (aM D.names a) DF.ae).data=_
 rw [dA,if_pos ⟨rfl,j⟩];unfold tH;rw [i];rfl
theorem yJ(f:Inv D T){a:Bs}(b:fQ D a=0):db (cV D a) a=db D a/\(cV D a).names=D.names:=by
 have h:=(cT b).2.1;have g:=(wM f h).2
 have c:cV D a={cI D with all:=dy D.all (aM D.names a) (wK D a)}:=by unfold cV;rw [if_pos b]
 rw [c];refine⟨?_,rfl⟩;unfold db
 show((dy D.all (aM D.names a) (wK D a)).getD (aM D.names a) DF.ae).data=_
 rw [dA,if_pos ⟨rfl,g⟩];rfl
theorem Dm{b a:Bs}(h:oC D b a=0):db (gO D b a) a=db D b/\bT (gO D b a).names a=K (aM D.names b):=by
 have f:gO D b a=ja (cI D) ⟨1,b,a,0⟩:=by unfold gO;rw [if_pos h]
 have c:bT (gO D b a).names a=K (aM D.names b):=by
  rw [f]
  show bT (eT D.names ⟨1,b,a,0⟩) a=_
  unfold eT;rw [if_neg (H:¬(1:Nat)=0),if_pos rfl,ou]
 refine⟨?_,c⟩;unfold db
 have g:aM (gO D b a).names a=aM D.names b:=by unfold aM at c⊢;rw [c];rfl
 rw [g,f];rfl
theorem LX(c:jY D=0)(a:Bs):db (dG D) a=db D a/\(dG D).names=D.names:=by
 have b:dG D={cI D with safe:=D.names,steps:=[]}:=by unfold dG;rw [if_pos c]
 rw [b];exact⟨rfl,rfl⟩
theorem sG{a:Bs}(b:eh D a=0):cy D a=db D a:=by unfold cy;rw [if_pos b];rfl
def mH(a:NM):Prop:=(cK a).Nodup
theorem mH.del{b:NM}(a:mH b)(c:Bs):mH (nK b c):=by
 unfold mH cK at a⊢;exact a.sublist (List.Sublist.map _ List.filter_sublist)
theorem yh(a:Bs×Nat):∀b:NM,(ow a b).Perm (a::b)
 |[]=>List.Perm.refl _
 |f::c=>by
  unfold ow;split
  .exact List.Perm.refl _
  .exact((yh a c).cons f).trans (List.Perm.swap a f c)
theorem mH.put{b:NM}(j:mH b)(a:Bs)(h:Nat):mH (sE b a h):=by
 unfold sE;have g:=j.del a
 have k:∀c∈nK b a,c.1≠a:=λc f=>by have:=(List.mem_filter.1 f).2;simpa using this
 generalize nK b a=m at*;unfold mH cK at g⊢;refine((yh (a,h) m).map _).nodup_iff.2 ?_;rw [List.map_cons,List.nodup_cons];exact⟨λl=>by obtain⟨c,f,i⟩:=List.mem_map.1 l;exact k c f i,g⟩
theorem mH.act{b:NM}(a:mH b)(c:kY):mH (eT b c):=by
 unfold eT;split
 .exact a.put _ _
 .split
  .exact(a.del _).put _ _
  .exact a.del _
theorem mH.Sf:∀(b:List kY) {a:NM},mH a->mH (b.foldl eT a)
 |[],_,h=>h
 |f::c,_,h=>mH.Sf c (h.act f)
structure cz(J:Bs)(D:DS)(T:Nat):Prop where
 mS:Good J D
 inv:Inv D T
 uniq:mH D.safe
theorem cz.mono{b:Nat}(a:cz J D T)(c:T<=b):cz J D b:=⟨a.mS,a.inv.mono c,a.uniq⟩
theorem cz.sC(a:cz J D T):mH D.names:=by rw [a.inv.ends];exact a.uniq.Sf _
theorem ku(D:DS)(a:Int):(cq D a).safe=D.safe:=by unfold cq;split<;>(try split)<;>rfl
theorem Pn(D:DS)(a:Bs):(jK D a).safe=D.safe:=by unfold jK;split;rfl;exact ku _ _
theorem LV(D:DS)(a:Bs):(cV D a).safe=D.safe:=by unfold cV;split;rfl;exact ku _ _
theorem Po(D:DS)(a b:Bs):(gO D a b).safe=D.safe:=by unfold gO;split;rfl;exact ku _ _
theorem Dy(D:DS)(a:Bs):(br D a).safe=D.safe:=by
 unfold br;split
 .exact ku _ _
 .exact ku _ _
theorem Pm(D:DS)(b a:Bs):(du D b a).safe=D.safe:=by unfold du;split<;>rfl
theorem cz.rem(a:cz J D T)(b:Bs):cz J (jK D b) (T+3):=⟨a.mS.rem b,a.inv.jK b,by rw [Pn];exact a.uniq⟩
theorem cz.rC(a:cz J D T):cz J (dG D) (T+3):=⟨a.mS.rC,a.inv.dG,by
 unfold dG;split
 .exact a.sC
 .rw [ku];exact a.uniq⟩
theorem cz.sync(a:cz J D T)(n:Bs):cz J (cV D n) (T+3):=⟨a.mS.sync n,a.inv.cV n,by rw [LV];exact a.uniq⟩
theorem cz.create(a:cz J D T){n:Bs}(b:Nm n):cz J (br D n) (T+3):=⟨a.mS.create b,a.inv.br n,by rw [Dy];exact a.uniq⟩
theorem cz.RY(c:cz J D T)(a:Bs){b:Bs}(f:Nm b):cz J (gO D a b) (T+3):=⟨c.mS.RY f,c.inv.gO a b,by rw [Po];exact c.uniq⟩
theorem cz.app(c:cz J D T)(a:Bs){b:Bs}(f:db D a++b<+:J):cz J (du D a b) (T+3):=⟨c.mS.app a f,c.inv.du a b,by rw [Pm];exact c.uniq⟩
theorem cz.arm(b:cz J D T)(a:Int)(c:bh a):cz J (qC D a) (T+3):=⟨b.mS.arm a,b.inv.qC a c,by unfold qC;split<;>exact b.uniq⟩
theorem cz.M_(a:cz J D T)(b:List Int):cz J (jS D b) (T+3):=⟨a.mS.M_ b,a.inv.jS b,a.uniq.Sf _⟩
theorem Oj{a:Int}(b:4194304<=a)(c:a<=16777216):cz J (dZ a) 0:=⟨ND b,Inv.new ⟨O,c⟩,List.nodup_nil⟩
theorem cz.cont(a:cz J D T)(b:Bs):db D b<+:J:=a.mS.files _
theorem jj:∀(b:List Bs) (a:Bool) {D:DS} {T:Nat},cz J D T->cz J (bm b a D).1 (T+3*b.length+3)
 |[],a,D,T,h=>by
  unfold bm;split
  .exact h.rC.mono Y
  .exact h.mono Y
 |c::f,a,D,T,h=>by
  unfold bm;split
  .unfold pO
   split
   .exact(jj f true (h.rem c)).mono (by simp;omega)
   .exact(h.rem c).mono (by rw [List.length_cons];omega)
  .exact(jj f a h).mono (by simp;omega)
theorem ka(a:cz J D T):cz J (bk D).1 (T+6):=by
 unfold bk;split
 .exact a.mono O
 .unfold pO
  split
  .exact(a.create ox).rC
  .exact(a.create ox).mono O
theorem xA(r:cz J D T){b:Bs}(w:b<+:J):cz J (iM b D).1 (T+15)/\((iM b D).2=0->db (iM b D).1 aw=b):=by
 unfold iM pO;by_cases c:b_ D (bU D dH)=0
 .simp only [c,if_true]
  have s:=r.create (n:=dH) pX;obtain⟨m, -⟩:=nX c;generalize br D dH=j at*;have i:=s.app dH (b:=b) (by rw [m];exact w);by_cases f:gf j dH b=0
  .simp only [f,if_true]
   obtain⟨o, -⟩:=Ak s.inv f;rw [m,List.nil_append] at o;generalize du j dH b=k at*;have t:=i.sync dH;by_cases g:fQ k dH=0
   .simp only [g,if_true]
    obtain⟨p, -⟩:=yJ i.inv g;rw [o] at p;generalize cV k dH=l at*;have u:=t.RY dH (b:=aw) ox;by_cases h:oC l dH aw=0
    .simp only [h,if_true]
     obtain⟨q, -⟩:=Dm h;rw [p] at q;generalize gO l dH aw=x at*;exact⟨u.rC,λv=>by rw [(LX v aw).1];exact q⟩
    .simp only [h,if_false]
     exact⟨u.mono O,λa=>(by first|exact absurd a h|exact a.elim)⟩
   .simp only [g,if_false]
    exact⟨t.mono O,λa=>(by first|exact absurd a g|exact a.elim)⟩
  .simp only [f,if_false]
   exact⟨i.mono O,λa=>(by first|exact absurd a f|exact a.elim)⟩
 .simp only [c,if_false]
  exact⟨(r.create pX).mono O,λa=>(by first|exact absurd a c|exact a.elim)⟩
theorem sj(g:cz J D T){b:Bs}(j:db D aw++b<+:J):cz J (ig b D).1 (T+6)/\((ig b D).2=0->db (ig b D).1 aw=db D aw++b):=by
 unfold ig pO;have c:=g.app aw j;by_cases a:gf D aw b=0
 .simp only [a,if_true]
  obtain⟨h, -⟩:=Ak g.inv a;generalize du D aw b=k at*;exact⟨c.sync aw,λi=>by rw [(yJ c.inv i).1];exact h⟩
 .simp only [a,if_false]
  exact⟨c.mono O,λf=>(by first|exact absurd f a|exact f.elim)⟩
theorem yH{a:Bs}(h:a<+:J1++J2):a.take (ends J1 J2 (f_ J1 J2 a))=(if f_ J1 J2 a=0 then [] else if f_ J1 J2 a=1 then J1 else J1++J2):=by
 unfold f_ ends;by_cases f:a.length<J1.length
 .simp [f]
 .by_cases g:a.length<(J1++J2).length
  .simp only [f,if_false,g,if_true]
   obtain⟨c,b⟩:=h
   have:(a++c).take J1.length=J1:=by rw [b,List.take_left]
   rw [List.take_append_of_le_length O] at this
   simpa using this
  .simp only [f,if_false,g]
   obtain⟨c,b⟩:=h
   have i:(a++c).length=(J1++J2).length:=by rw [b]
   rw [Yq] at i;have j:c=[]:=List.length_eq_zero_iff.1 O;rw [j,List.append_nil] at b;rw [b];simp only [Nat.succ_ne_self,if_false,show¬(2:Nat)=0 by decide,show¬(2:Nat)=1 by decide];exact List.take_length
theorem La(F:cz (J1++J2) D T):cz (J1++J2) (rq J1 J2 D).1 (T+3*(aI D).length+36)/\((rq J1 J2 D).2=0->db (rq J1 J2 D).1 aw=J1++J2):=by
 unfold rq;have w:=jj (aI D) false F;generalize T+3*(aI D).length=v at*;generalize bm (aI D) false D=z at*;unfold pO;by_cases s:z.2=0
 .simp only [s,if_true]
  have n:=ka w;generalize bk z.1=f at*;by_cases t:f.2=0
  .simp only [t,if_true]
   by_cases r:eh f.1 aw=0
   .simp only [r,ne_eq,not_true,if_false]
    rw [sG r];have x:=n.cont aw;have y:=yH x;generalize L:f_ J1 J2 (db f.1 aw)=a at*
    have o:cz (J1++J2) (gx J1 J2 a (db f.1 aw) f.1).1 (v+3+6+15)/\((gx J1 J2 a (db f.1 aw) f.1).2=0->db (gx J1 J2 a (db f.1 aw) f.1).1 aw=if a=0 then [] else if a=1 then J1 else J1++J2):=by
     unfold gx;by_cases u:ends J1 J2 a=(db f.1 aw).length
     .simp only [u,if_true]
      refine⟨n.mono O,λ_=>?_⟩;rw [<-y,u,List.take_length]
     .simp only [u,if_false]
      obtain⟨l,m⟩:=xA n (b:=(db f.1 aw).take (ends J1 J2 a)) ((List.take_prefix _ _).trans x);exact⟨l,λk=>by rw [m k,y]⟩
    generalize gx J1 J2 a (db f.1 aw) f.1=q at*;obtain⟨o,g⟩:=o;by_cases k:q.2=0
    .simp only [k,if_true]
     have g:=g k
     have p:cz (J1++J2) (jg J1 a q.1).1 (v+24+6)/\((jg J1 a q.1).2=0->db (jg J1 a q.1).1 aw=if a<=1 then J1 else J1++J2):=by
      unfold jg;by_cases i:a=0
      .simp only [i,if_true] at g⊢
       obtain⟨l,m⟩:=sj o (b:=J1) (by rw [g];exact List.prefix_append J1 J2);exact⟨l,λj=>by rw [m j,g];rfl⟩
      .simp only [i,if_false] at g⊢
       refine⟨o.mono O,λ_=>?_⟩;rw [g];by_cases j:a=1
       .rw [if_pos j,if_pos O]
       .rw [if_neg j,if_neg O]
     generalize jg J1 a q.1=J at*;obtain⟨p,h⟩:=p;by_cases i:J.2=0
     .simp only [i,if_true]
      have h:=h i;unfold xQ;by_cases j:a<=1
      .simp only [j,if_true] at h⊢
       obtain⟨l,m⟩:=sj p (b:=J2) (by rw [h];exact List.prefix_rfl);exact⟨l.mono O,λC=>by rw [m C,h]⟩
      .simp only [j,if_false] at h⊢
       exact⟨p.mono O,λ_=>h⟩
     .simp only [i,if_false]
      exact⟨p.mono O,λc=>(by first|exact absurd c i|exact c.elim)⟩
    .simp only [k,if_false]
     exact⟨o.mono O,λc=>(by first|exact absurd c k|exact c.elim)⟩
   .simp only [r,ne_eq,not_false_eq_true,if_true]
    exact⟨n.mono O,λc=>(by first|exact absurd c r|exact c.elim)⟩
  .simp only [t,if_false]
   exact⟨n.mono O,λc=>(by first|exact absurd c t|exact c.elim)⟩
 .simp only [s,if_false]
  exact⟨w.mono O,λc=>(by first|exact absurd c s|exact c.elim)⟩
end
end
section
def Calm(a:DS):Prop:=a.down=false/\a.c_=0
section
variable {J J1 J2:Bs} {D:DS} {T:Nat}
theorem Calm.fj(a:Calm D):Go.Proofs.YtajkpgaheechmaaGreatDoor.fj D=false:=by unfold Go.Proofs.YtajkpgaheechmaaGreatDoor.fj;rw [a.2,if_neg H,a.1]
theorem Calm.mg(a:Calm D):Calm (cI D):=⟨a.fj,by show nU D=0;unfold nU;rw [a.2,if_neg H]⟩
theorem Calm.b_(c:Calm D)(a:Int):Go.Proofs.YtajkpgaheechmaaGreatDoor.b_ D a=a:=by
 unfold Go.Proofs.YtajkpgaheechmaaGreatDoor.b_;rw [c.1,c.fj];by_cases b:a=0
 .simp [b]
 .simp [b]
theorem Calm.cq(a:Calm D)(b:Int):Calm (cq D b):=by
 unfold Go.Proofs.YtajkpgaheechmaaGreatDoor.cq;split
 .exact a
 .split
  .exact a
  .exact a.mg
theorem oG{a:Bs}(c:dF a=true)(b:(bT D.names a).isSome=true):ba D a=0:=by unfold ba;rw [c,b];rfl
theorem Calm.rem(c:Calm D){a:Bs}(g:dF a=true)(f:(bT D.names a).isSome=true):xm D a=0/\Calm (jK D a)/\(jK D a).names=nK D.names a:=by
 have b:xm D a=0:=by unfold xm;rw [c.b_];exact oG g f
 refine⟨b,?_,?_⟩
 .unfold jK;rw [if_pos b];exact c.mg
 .unfold jK;rw [if_pos b]
  show eT D.names ⟨2,a,[],0⟩=_
  unfold eT;rw [if_neg (H:¬(2:Nat)=0),if_neg (H:¬(2:Nat)=1)]
theorem Calm.rC(b:Calm D):jY D=0/\Calm (dG D)/\(dG D).names=D.names:=by
 have a:jY D=0:=b.b_ 0;refine⟨a,?_,?_⟩
 .unfold dG;rw [if_pos a];exact b.mg
 .unfold dG;rw [if_pos a];rfl
theorem Calm.sync(b:Calm D){n:Bs}(f:dF n=true)(c:(bT D.names n).isSome=true):fQ D n=0/\Calm (cV D n)/\(cV D n).names=D.names:=by
 have a:fQ D n=0:=by unfold fQ;rw [b.b_];exact oG f c
 refine⟨a,?_,?_⟩
 .unfold cV;rw [if_pos a];exact b.mg
 .unfold cV;rw [if_pos a];rfl
theorem Calm.RY(f:Calm D){a b:Bs}(g:dF a=true)(h:dF b=true)(i:(bT D.names a).isSome=true):oC D a b=0/\Calm (gO D a b):=by
 have c:oC D a b=0:=by unfold oC tu;rw [f.b_,h,if_pos rfl];exact oG g i
 refine⟨c,?_⟩;unfold gO;rw [if_pos c];exact f.mg
theorem Calm.create(b:Calm D){n:Bs}(f:dF n=true)(c:bT D.names n=I)(g:D.names.length<64):Go.Proofs.YtajkpgaheechmaaGreatDoor.b_ D (bU D n)=0/\Calm (br D n):=by
 have a:Go.Proofs.YtajkpgaheechmaaGreatDoor.b_ D (bU D n)=0:=by
  rw [b.b_];unfold bU;rw [f,c];simp;omega
 refine⟨a,?_⟩;unfold br;rw [if_pos a];have:=b.cq (bU D n);exact this
theorem py{a:NM}(c:mH a)(f:∀q∈a,Nm q.1):a.length<=2:=by
 unfold mH at c
 have i:cK a⊆[aw,dH]:=λj g=>by
  obtain⟨q,h,rfl⟩:=List.mem_map.1 g
  rcases f q h with b|b<;>(rw [b];simp)
 have:=List.Nodup.length_le_of_subset c i;unfold cK at this
 simpa using this
theorem yI{f:Bs->Nat}{M:Nat}:∀(a:List Bs),(∀b∈a,f b<=M)->(a.map f).sum<=a.length*M
 |[],_=>by simp
 |i::g,h=>by
  have j:=yI g λb c=>h b (by simp [c])
  have k:=h i Y;rw [List.map_cons,List.sum_cons,List.length_cons,Nat.succ_mul];omega
theorem Ia(a:cz J D T)(i:J.length<=1000):fD D<=2000:=by
 unfold fD
 have c:=yI (f:=iJ D) (M:=1000) (cK D.names) λb _=>by
  have:=(a.mS.files (aM D.names b)).length_le
  show((D.file (aM D.names b)).data).length<=1000
  omega
 have g:=py a.sC a.mS.names
 have h:(cK D.names).length=D.names.length:=by unfold cK;rw [List.length_map]
 omega
theorem Calm.app(f:Calm D)(g:cz J D T)(i:J.length<=1000){a b:Bs}(m:b.length<=1000)(k:dF a=true)(j:(bT D.names a).isSome=true):gf D a b=0/\Calm (du D a b)/\(du D a b).names=D.names:=by
 have o:=Ia g i;have n:=g.mS.room
 have c:iN D a b=0:=by
  unfold iN;rw [f.1,oG k j];rw [if_neg Y,if_neg Y,if_neg (λl=>O)]
 have h:gf D a b=0:=by unfold gf;rw [c,f.fj];simp
 refine⟨h,?_,?_⟩
 .unfold du;rw [if_neg (by rw [c];simp)];exact f.mg
 .unfold du;rw [if_neg (by rw [c];simp)];rfl
theorem uM:∀(f:List Bs) (c:Bool) {D:DS},Calm D->f.Nodup->(∀a∈f,dF a=true/\(bT D.names a).isSome=true)->
  (bm f c D).2=0/\Calm (bm f c D).1/\∀a,bT (bm f c D).1.names a=if a∈f/\pK a=true then I else bT D.names a
 |[],c,D,h,_,_=>by
  unfold bm
  cases c with
  |true=>
   obtain⟨l,m,i⟩:=h.rC;simp only [if_true];exact⟨l,m,λa=>by rw [i];simp⟩
  |false=>exact⟨rfl,h,λa=>Y⟩
 |g::q,c,D,h,hn,hm=>by
  obtain⟨s,r⟩:=List.nodup_cons.1 hn;unfold bm;by_cases k:pK g=true
  .rw [if_pos k]
   obtain⟨t,u⟩:=hm g Y;obtain⟨l,m,i⟩:=h.rem t u;unfold pO;simp only [l,if_true]
   have x:∀a∈q,dF a=true/\(bT (jK D g).names a).isSome=true:=λa j=>by
    obtain⟨v,w⟩:=hm a (by simp [j]);refine⟨v,?_⟩;rw [i,jV _ (show a≠g from λb=>s (by rw [<-b];exact j))];exact w
   obtain⟨n,o,p⟩:=uM q true m r x;refine⟨n,o,λa=>?_⟩;rw [p a,i];by_cases b:a=g
   .subst b
    rw [vT];simp [k]
   .rw [jV _ b]
    simp [b]
  .rw [if_neg k]
   obtain⟨n,o,p⟩:=uM q c h r λa j=>hm a (by simp [j])
   refine⟨n,o,λa=>?_⟩;rw [p a];by_cases b:a=g
   .subst b
    simp [s,k]
   .simp [b]
theorem mx{a:Bs}:a∈aI D↔a∈cK D.names:=List.mem_mergeSort
theorem qX{c:NM}{f:Bs}:f∈cK c↔(bT c f).isSome=true:=by
 constructor
 .intro a
  obtain⟨g,b, -⟩:=oV a;rw [b];rfl
 .intro a
  obtain⟨g,b⟩:=Option.isSome_iff_exists.1 a;exact tj b
theorem ij{a:Bs}(b:Nm a):dF a=true:=by rcases b with rfl|rfl<;>decide
theorem FJ{a:NM}{b:Bs}(f:∀q∈a,Nm q.1)(c:(bT a b).isSome=true):Nm b:=by
 obtain⟨h,g⟩:=Option.isSome_iff_exists.1 c;exact f _ (jF g)
theorem PJ:pK dH=true:=H
theorem Calm.read(b:Calm D){a:Bs}(f:dF a=true)(c:(bT D.names a).isSome=true):eh D a=0:=by unfold eh;rw [b.1];exact oG f c
theorem ID(k:Calm D)(m:cz J D T)(l:J.length<=1000){a:Bs}(n:a.length<=1000)(c:(bT D.names aw).isSome=true):(ig a D).2=0/\Calm (ig a D).1/\(ig a D).1.names=D.names:=by
 obtain⟨f,g,b⟩:=k.app m l n (ij ox) c;obtain⟨h,i,j⟩:=g.sync (ij ox) (by rw [b];exact c);unfold ig pO;simp only [f,if_true];exact⟨h,i,by rw [j,b]⟩
theorem Qe(x:Calm D)(f:cz J D T)(j:J.length<=1000){b:Bs}(y:b<+:J)(C:bT D.names dH=I):(iM b D).2=0/\Calm (iM b D).1/\(bT (iM b D).1.names aw).isSome=true:=by
 have z:b.length<=1000:=Yl y.length_le j;have L:=py f.sC f.mS.names;obtain⟨g,l⟩:=x.create (ij pX) C O;obtain⟨F,c⟩:=nX g;have k:=f.create (n:=dH) pX;obtain⟨m,o,h⟩:=l.app k j z (ij pX) (by rw [c];rfl);obtain⟨p,q,r⟩:=o.sync (n:=dH) (ij pX) (by rw [h,c];rfl);obtain⟨i,s⟩:=q.RY (a:=dH) (b:=aw) (ij pX) (ij ox) (by rw [r,h,c];rfl);obtain⟨-,t⟩:=Dm i;obtain⟨u,v,w⟩:=s.rC;unfold iM pO;simp only [g,m,p,i,if_true];exact⟨u,v,by rw [w,t];rfl⟩
theorem Q'(b1:Calm D)(y:cz (J1++J2) D T)(o:(J1++J2).length<=1000):(rq J1 J2 D).2=0:=by
 have b6:J1.length<=1000:=by rw [Yq] at o;omega
 have b7:J2.length<=1000:=by rw [Yq] at o;omega
 have b9:(aI D).Nodup:=(List.mergeSort_perm _ _).nodup_iff.2 y.sC
 obtain⟨k,h,v⟩:=uM (aI D) false b1 b9 λc2 b8=>by
  have a0:=qX.1 (mx.1 b8);exact⟨ij (FJ y.mS.names a0),a0⟩
 have t:=jj (aI D) false y
 have a1:bT (bm (aI D) false D).1.names dH=I:=by
  rw [v];by_cases g:dH∈aI D
  .rw [if_pos ⟨g,PJ⟩]
  .rw [if_neg (λb4=>g b4.1)]
   cases m:bT D.names dH with
   |none=>rfl
   |some c0=>exact absurd (mx.2 (qX.2 (by rw [m];rfl))) g
 unfold rq;generalize T+3*(aI D).length=z at*;generalize bm (aI D) false D=a at*;unfold pO;simp only [k,if_true]
 have b5:(bk a.1).2=0/\Calm (bk a.1).1/\(bT (bk a.1).1.names aw).isSome=true/\bT (bk a.1).1.names dH=I:=by
  unfold bk;by_cases g:(aI a.1).contains aw=true
  .rw [if_pos g]
   have m:aw∈aI a.1:=by simpa using g
   exact⟨rfl,h,qX.1 (mx.1 m),a1⟩
  .rw [if_neg g]
   have m:bT a.1.names aw=I:=by
    cases e3:bT a.1.names aw with
    |none=>rfl
    |some c0=>exact absurd (by simpa using mx.2 (qX.2 (by rw [e3];rfl))) g
   have c1:=py t.sC t.mS.names;obtain⟨i,w⟩:=h.create (ij ox) m O;obtain⟨-,l⟩:=nX i;obtain⟨x,r,j⟩:=w.rC;unfold pO;simp only [i,if_true];refine⟨x,r,by rw [j,l];rfl,?_⟩;rw [j]
   have n:br a.1 aw=ja {cq a.1 (bU a.1 aw) with all:=a.1.all++[DF.ae]} ⟨0,aw,[],a.1.all.length⟩:=by unfold br;rw [if_pos i]
   rw [n]
   have s:(ja {cq a.1 (bU a.1 aw) with all:=a.1.all++[DF.ae]} ⟨0,aw,[],a.1.all.length⟩).names=eT (cq a.1 (bU a.1 aw)).names ⟨0,aw,[],a.1.all.length⟩:=rfl
   rw [s]
   have a7:(cq a.1 (bU a.1 aw)).names=a.1.names:=by unfold cq;split<;>(try split)<;>rfl
   rw [a7];unfold eT;rw [if_pos rfl,tM _ _ (H:dH≠aw)];exact a1
 have q:=ka t;generalize bk a.1=f at*;obtain⟨a5,l,C,a6⟩:=b5;simp only [a5,if_true];have W:=l.read (ij ox) C;rw [sG W];simp only [W,ne_eq,not_true,if_false];have L:=q.cont aw;have P:=yH L;generalize f_ J1 J2 (db f.1 aw)=c at*
 have b2:(gx J1 J2 c (db f.1 aw) f.1).2=0/\Calm (gx J1 J2 c (db f.1 aw) f.1).1/\(bT (gx J1 J2 c (db f.1 aw) f.1).1.names aw).isSome=true/\cz (J1++J2) (gx J1 J2 c (db f.1 aw) f.1).1 (z+3+6+15)/\db (gx J1 J2 c (db f.1 aw) f.1).1 aw=if c=0 then [] else if c=1 then J1 else J1++J2:=by
  unfold gx;by_cases n:ends J1 J2 c=(db f.1 aw).length
  .simp only [n,if_true]
   refine⟨trivial,l,C,q.mono O,?_⟩;rw [<-P,n,List.take_length]
  .simp only [n,if_false]
   have R:(db f.1 aw).take (ends J1 J2 c)<+:J1++J2:=(List.take_prefix _ _).trans L;obtain⟨k,h⟩:=xA q R;obtain⟨i,w,a3⟩:=Qe l q o R a6;exact⟨i,w,a3,k,by rw [h i,P]⟩
 generalize gx J1 J2 c (db f.1 aw) f.1=p at*;obtain⟨x,r,j,u,F⟩:=b2;simp only [x,if_true]
 have b3:(jg J1 c p.1).2=0/\Calm (jg J1 c p.1).1/\(bT (jg J1 c p.1).1.names aw).isSome=true/\cz (J1++J2) (jg J1 c p.1).1 (z+3+6+15+6):=by
  unfold jg;by_cases s:c=0
  .simp only [s,if_true] at F⊢
   obtain⟨k,h,v⟩:=ID r u o b6 j;exact⟨k,h,by rw [v];exact j,(sj u (b:=J1) (by rw [F];exact List.prefix_append J1 J2)).1⟩
  .simp only [s,if_false]
   exact⟨trivial,r,j,u.mono O⟩
 generalize jg J1 c p.1=c3 at*;obtain⟨a8,a9,b0,a2⟩:=b3;simp only [a8,if_true];unfold xQ;by_cases J:c<=1
 .rw [if_pos J]
  exact(ID a9 a2 o b7 b0).1
 .rw [if_neg J]
theorem Ew(a:List Int):Calm (jS D a):=⟨rfl,rfl⟩
end
end
section
def g_(a:Nat):Bs:=[Ym (a / 16777216),Ym (a / 65536),Ym (a / 256),Ym a]
def kW(a:Bs):Nat:=(a.getD 0 0).toNat*16777216+(a.getD 1 0).toNat*65536+(a.getD 2 0).toNat*256+(a.getD 3 0).toNat
def mF(a:Bs):Nat:=(a.getD 0 0).toNat*65536+(a.getD 1 0).toNat*256+(a.getD 2 0).toNat
structure MI where
 kind:Nat
 data:Bs
 fin:Nat
def gw(b:Nat)(a:Bs):Bs:=[Ym b,Ym (a.length / 65536),Ym (a.length / 256),Ym a.length]++a
def bV(c:Bs->Nat)(b:Nat)(a:Bs):Bs:=gw b a++g_ (c (gw b a))
def gJ(b:Bs->Nat)(a:Bs)(at':Nat):Except Int MI:=
 if a.length<=at' then .error 7 else if a.getD at' 0=0 then .ok ⟨0,[],at'+1⟩ else if a.length - at'<4 then .error 1 else if 65536<mF (a.drop (at'+1)) then .error 5 else if a.length - at'<mF (a.drop (at'+1))+8 then .error 1
 else if b ((a.drop at').take (4+mF (a.drop (at'+1))))=kW (a.drop (at'+4+mF (a.drop (at'+1)))) then .ok ⟨(a.getD at' 0).toNat,(a.drop (at'+4)).take (mF (a.drop (at'+1))),at'+8+mF (a.drop (at'+1))⟩ else .error 4
structure aU where
 kind:Nat
 sum:Nat
 number:Nat
 length:Nat
 code:Nat
def dL(a:aU):Bs:=
 if a.kind=50 then [Ym a.code] else if a.kind=48 then g_ a.sum++[Ym a.number] else (if a.kind=49 then [Ym a.number] else [])++g_ a.length++g_ a.sum
def jZ(a:Nat):Nat:=if a=50 then 1 else if a=48 then 5 else if a=49 then 9 else 8
def dK(a:aU):Bool:=
 if a.kind=48 then decide (a.number<=16) else if a.kind=49 then decide (a.length<=16777216)&&decide (a.number<16) else if a.kind=50 then decide (1<=a.code)&&decide (a.code<=15) else decide (a.length<=16777216)
def jC(b:Nat)(a:Bs):aU:=
 if b=50 then ⟨b,0,0,0,(a.getD 0 0).toNat⟩ else if b=48 then ⟨b,kW a,(a.getD 4 0).toNat,0,0⟩ else if b=49 then ⟨b,kW (a.drop 5),(a.getD 0 0).toNat,kW (a.drop 1),0⟩ else ⟨b,kW (a.drop 4),0,kW a,0⟩
def gV(a:Nat)(b:Bs):Except Int aU:=
 if a<48∨51<a then .error 13 else if b.length≠jZ a then .error 2 else if dK (jC a b) then .ok (jC a b) else .error 2
def eM(b:Bs->Nat)(c:Bs):Nat->Nat->List aU×Nat
 |0,at'=>([],at')
 |f+1,at'=>match gJ b c at' with
  |.error _=>([],at')
  |.ok a=>match gV a.kind a.data with
   |.error _=>([],at')
   |.ok g=>(g::(eM b c f a.fin).1,(eM b c f a.fin).2)
def tw(b:Bs->Nat)(a:Bs):List aU×Nat:=eM b a (a.length+1) 0
def eK(b:Bs->Nat)(a:aU):Bs:=bV b a.kind (dL a)
theorem gM(b:Nat)(a:Bs):(gw b a).length=a.length+4:=by unfold gw;rw [Yq];simp;omega
theorem cD(b:Bs->Nat)(c:Nat)(a:Bs):(bV b c a).length=a.length+8:=by
 unfold bV;rw [Yq,gM];unfold g_;simp
theorem nt(a:Nat):(Ym a).toNat=a%256:=Y
theorem IP(a:Nat)(c:a<4294967296)(b:Bs):kW (g_ a++b)=a:=by
 unfold kW g_;simp only [List.cons_append,List.nil_append,List.getD_cons_zero,List.getD_cons_succ,nt];omega
theorem Dj(b:Nat)(a c:Bs)(f:a.length<=65536):mF ((gw b a++c).drop 1)=a.length:=by
 unfold mF gw;simp only [List.cons_append,List.nil_append,List.drop_succ_cons,List.drop_zero,List.getD_cons_zero,List.getD_cons_succ,nt];omega
theorem sD(f:Bs->Nat)(p:∀l,f l<4294967296)(c g:Bs)(b:Nat)(a:Bs)(x:1<=b/\b<=255)(q:a.length<=65536):gJ f (c++(bV f b a++g)) c.length= .ok ⟨b,a,c.length+a.length+8⟩:=by
 have u:(c++(bV f b a++g)).length=c.length+(a.length+8+g.length):=by rw [Yq,Yq,cD]
 have i:∀j,(c++(bV f b a++g)).drop (c.length+j)=(bV f b a++g).drop j:=λj=>by rw [List.drop_append,List.drop_eq_nil_of_le O,List.nil_append];congr 1;omega
 have m:(c++(bV f b a++g)).drop c.length=bV f b a++g:=i 0
 have h:bV f b a++g=gw b a++(g_ (f (gw b a))++g):=by unfold bV;rw [List.append_assoc]
 have t:(c++(bV f b a++g)).getD c.length 0=Ym b:=by
  rw [Yp,List.getElem?_append_right (Yk _),Nat.sub_self,h];unfold gw;rfl
 have o:mF ((c++(bV f b a++g)).drop (c.length+1))=a.length:=by rw [i 1,h];exact Dj b a _ q
 have k:(Ym b).toNat=b:=by rw [nt];omega
 unfold gJ;rw [t,o,u,m,i 4,show c.length+4+a.length=c.length+(4+a.length) from O,i (4+a.length)]
 have v:¬Ym b=0:=λn=>by have:=congrArg UInt8.toNat n;rw [k] at this;simp at this;omega
 rw [if_neg O,if_neg v,if_neg O,if_neg O,if_neg O,k]
 have w:(bV f b a++g).take (4+a.length)=gw b a:=by rw [h,List.take_append_of_le_length (by rw [gM];omega),List.take_of_length_le (by rw [gM];omega)]
 have s:(bV f b a++g).drop (4+a.length)=g_ (f (gw b a))++g:=by rw [h,List.drop_append_of_le_length (by rw [gM];omega),List.drop_eq_nil_of_le (by rw [gM];omega),List.nil_append]
 have r:((bV f b a++g).drop 4).take a.length=a:=by
  rw [h];unfold gw;simp only [List.cons_append,List.nil_append,List.drop_succ_cons,List.drop_zero];rw [List.take_append_of_le_length (Yk _),List.take_length]
 rw [w,s,IP _ (p _),if_pos rfl,r,show c.length+8+a.length=c.length+a.length+8 from O]
theorem Ou(g:Bs->Nat)(b q:Bs)(a:Nat)(c:Bs)(y:1<=a/\a<=255)(r:c.length<=65536)(w:q<+:bV g a c)(u:q.length<(bV g a c).length):∃i,gJ g (b++q) b.length= .error i:=by
 obtain⟨m,n⟩:=w;rw [cD] at u;unfold gJ;by_cases j:(b++q).length<=b.length
 .exact⟨7,by rw [if_pos j]⟩
 rw [if_neg j];rw [Yq] at j
 have t:(Ym a).toNat=a:=by rw [nt];omega
 have v:¬Ym a=0:=λi=>by have:=congrArg UInt8.toNat i;rw [t] at this;simp at this;omega
 have s:(b++q).getD b.length 0=Ym a:=by
  rw [Yp,List.getElem?_append_right (Yk _),Nat.sub_self]
  have f:(q++m)[0]? =K (Ym a):=by rw [n];unfold bV gw;rfl
  rw [List.getElem?_append_left O] at f;rw [f];rfl
 rw [s,if_neg v];by_cases k:(b++q).length - b.length<4
 .exact⟨1,by rw [if_pos k]⟩
 rw [if_neg k];rw [Yq] at k
 have p:mF ((b++q).drop (b.length+1))=c.length:=by
  rw [List.drop_append,List.drop_eq_nil_of_le O,List.nil_append,show b.length+1 - b.length=1 from O];have f:=Dj a c (g_ (g (gw a c))) r;have o:gw a c++g_ (g (gw a c))=q++m:=n.symm;rw [o] at f;unfold mF at f⊢
  have l:∀h,h<3->((q++m).drop 1).getD h 0=(q.drop 1).getD h 0:=λh x=>by
   rw [List.drop_append_of_le_length O,Yp,Yp,List.getElem?_append_left (by rw [List.length_drop];omega)]
  rw [l 0 O,l 1 O,l 2 O] at f;exact f
 rw [p,if_neg O];exact⟨1,by rw [if_pos (by rw [Yq];omega)]⟩
end
section
section
variable {S:Bs->Nat} {key code:Nat} {c:Bs}
def cO(key:Nat):aU:=⟨48,key,0,0,0⟩
def gh(code:Nat):aU:=⟨50,0,0,0,code⟩
theorem Cr(c:key<4294967296):gV 48 (dL (cO key))= .ok (cO key):=by
 have a:dL (cO key)=g_ key++[0]:=by unfold dL cO;simp
 rw [a];have f:=IP key c [0];unfold gV;rw [if_neg O,if_neg (by unfold g_ jZ;simp)]
 have b:jC 48 (g_ key++[0])=cO key:=by
  unfold jC cO;rw [if_neg O,if_pos rfl,f];rfl
 rw [b,if_pos (by unfold dK cO;simp)]
theorem FO(c:1<=code/\code<=15):gV 50 (dL (gh code))= .ok (gh code):=by
 have a:dL (gh code)=[Ym code]:=by unfold dL gh;simp
 rw [a]
 have f:(Ym code).toNat=code:=by rw [nt];omega
 unfold gV;rw [if_neg O,if_neg (by unfold jZ;simp)]
 have b:jC 50 [Ym code]=gh code:=by
  unfold jC gh;rw [if_pos rfl,List.getD_cons_zero,f]
 rw [b,if_pos (by unfold dK gh;simp;exact c)]
theorem DD{p q:Bs}{k:Nat}{d:Bs}{f:Nat}(c:1<=k/\k<=255)(a:d.length<=65536)(h:q<+:bV S k d)(g:q.length<(bV S k d).length):eM S (p++q) (f+1) p.length=([],p.length):=by
 obtain⟨i,b⟩:=Ou S p q k d c a h g;unfold eM;rw [b]
theorem DE(h:∀b,S b<4294967296){p r:Bs}{k:Nat}{d:Bs}{f:Nat}{a:aU}(j:1<=k/\k<=255)(i:d.length<=65536)(l:gV k d= .ok a):
  eM S (p++(bV S k d++r)) (f+1) p.length=(a::(eM S (p++(bV S k d++r)) f (p++bV S k d).length).1,(eM S (p++(bV S k d++r)) f (p++bV S k d).length).2):=by
 have g:=sD S h p r k d j i
 have c:(p++bV S k d).length=p.length+d.length+8:=by rw [Yq,cD];omega
 rw [c]
 conv=>lhs;unfold eM
 rw [g];simp only;rw [l]
def dM(S:Bs->Nat)(key:Nat):Bs:=eK S (cO key)
def eG(S:Bs->Nat)(code:Nat):Bs:=eK S (gh code)
theorem oT(key:Nat):(dL (cO key)).length=5:=by unfold dL cO g_;simp
theorem q_(code:Nat):(dL (gh code)).length=1:=by unfold dL gh;simp
theorem se(S:Bs->Nat)(key:Nat):(dM S key).length=13:=by unfold dM eK;rw [cD,oT]
theorem sg(S:Bs->Nat)(code:Nat):(eG S code).length=9:=by unfold eG eK;rw [cD,q_]
theorem LW(s:∀v,S v<4294967296)(F:key<4294967296)(z:1<=code/\code<=15)(y:c<+:dM S key++eG S code):
  tw S c=(if f_ (dM S key) (eG S code) c=0 then ([],0) else if f_ (dM S key) (eG S code) c=1 then ([cO key],13) else ([cO key,gh code],22)):=by
 have b:=se S key;have h:=sg S code;obtain⟨j,g⟩:=y
 have W:c.length+j.length=22:=by have:=congrArg List.length g;rw [Yq,Yq,b,h] at this;omega
 unfold tw f_;rw [Yq,b,h];by_cases n:c.length<13
 .rw [if_pos n,if_pos rfl]
  have L:c<+:bV S 48 (dL (cO key)):=by
   have l:c<+:dM S key++eG S code:=⟨j,g⟩;have T:(bV S 48 (dL (cO key))).length=13:=b;exact List.prefix_of_prefix_length_le l (List.prefix_append _ _) O
  have:=DD (p:=[]) (f:=c.length) (S:=S) O (by rw [oT];omega) L (by rw [cD,oT];omega);exact this
 .rw [if_neg n]
  obtain⟨q,f⟩:∃q,c=dM S key++q:=by
   have l:dM S key<+:c:=List.prefix_of_prefix_length_le (List.prefix_append _ _) ⟨j,g⟩ O;obtain⟨q,f⟩:=l;exact⟨q,f.symm⟩
  have u:q<+:eG S code:=by
   rw [f,List.append_assoc] at g;exact⟨j,List.append_cancel_left g⟩
  have a0:c.length=13+q.length:=by rw [f,Yq,b]
  have i:=DE (p:=[]) (r:=q) (f:=c.length) s O (by rw [oT];omega) (Cr F);rw [List.nil_append,List.nil_append] at i;have C:bV S 48 (dL (cO key))++q=c:=f.symm;rw [C] at i;have J:(bV S 48 (dL (cO key))).length=13:=b;rw [J] at i;have R:eM S c (c.length+1) 0=(cO key::(eM S c c.length 13).1,(eM S c c.length 13).2):=i;rw [R];obtain⟨a,t⟩:∃a,c.length=a+1:=⟨c.length - 1,O⟩;by_cases o:c.length<22
  .rw [if_pos o,if_neg O,if_pos rfl]
   have s2:=DD (p:=dM S key) (f:=a) (S:=S) (k:=50) (d:=dL (gh code)) (q:=q) O (by rw [q_];omega) u (by rw [cD,q_];omega);rw [<-f,b,<-t] at s2;rw [s2]
  .rw [if_neg o,if_neg O,if_neg O]
   have P:q=eG S code:=u.eq_of_length (by rw [h];omega);have s2:=DE (p:=dM S key) (r:=[]) (f:=a) s (k:=50) (d:=dL (gh code)) O (by rw [q_];omega) (FO z)
   have w:dM S key++(bV S 50 (dL (gh code))++[])=c:=by rw [List.append_nil,f,P];rfl
   have x:(dM S key++bV S 50 (dL (gh code))).length=22:=by rw [Yq,b];have:(bV S 50 (dL (gh code))).length=9:=h;omega
   rw [w,x,b,<-t] at s2;rw [s2];obtain⟨m,D⟩:∃m,a=m+1:=⟨a - 1,O⟩
   have s3:eM S c a 22=([],22):=by
    rw [D];unfold eM
    have:gJ S c 22= .error 7:=by unfold gJ;rw [if_pos O]
    rw [this]
   rw [s3]
end
end
end Go.Proofs.YtajkpgaheechmaaGreatDoor
