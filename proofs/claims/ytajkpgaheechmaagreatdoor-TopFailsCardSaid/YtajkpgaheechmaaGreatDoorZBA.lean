/- GopI -/
import Derived.Test.YtajkpgaheechmaaGreatDoorZAZ
set_option maxRecDepth 100000
set_option maxHeartbeats 16000000
set_option linter.unusedSimpArgs false
set_option linter.unusedVariables false
set_option linter.unusedSectionVars false
namespace Go.Proofs.YtajkpgaheechmaaGreatDoor
open _root_.Go.Proofs.Tryz
open Go.Value renaming int->A,slice->U,nilIface->Ya,agg->Yc,tuple->Ye
open Go.IntKind renaming i64->G
open Option renaming none->I,some->K
open Go.Obj renaming cells->M
open Go.Ending renaming returned->e
open Go renaming World->V,Value->Z,Calls->d,Addr->Yi,bodyPost_ret->YD,results->YU
open Go.RowKit renaming Below->X,ownsRow_setCell_below->Yu,intOf->Yz
open Or renaming inl->Yg,inr->Yh
open Go.World renaming block_lt_of_cell?->Yj,cell?_of_block->YS
open Nat renaming le_refl->Yk
open And renaming intro->YI
open Go.RowKit
def zK:Array Z:=#[A G 0,A G 0,A G 0,U I 0 0]
structure Ai(wr:V)(N lg:Nat)(do':Option Yi)(dc:Nat)(ao:Option Yi)(cap:Nat):Prop where
 res:ai wr N zK 231
 c4:wr.cell? ⟨lg,4,I⟩=K (A G 4)
 c5:wr.cell? ⟨lg,5,I⟩=K (U ao 0 cap)
 c6:wr.cell? ⟨lg,6,I⟩=K (A G 11)
 c7:wr.cell? ⟨lg,7,I⟩=K (A G 19)
theorem Ai.aD{wr i:V}{f lg:Nat}{m:Option Yi}{l:Nat}{k:Option Yi}{cap h:Nat}(b:Ai wr f lg m l k cap)(o:af (·=h) wr i)(p:f≠h)(q:lg≠h):Ai i f lg m l k cap:=by
 have g:∀{c:Nat} {j:Z},wr.cell? ⟨lg,c,I⟩=K j->i.cell? ⟨lg,c,I⟩=K j:=λ{c j} n=>
  (YS (w:=wr) (a:=⟨lg,c,I⟩) (o.block lg (Yj wr ⟨lg,c,I⟩ n) q)).trans n
 exact⟨(o.block f b.res.lt p).trans b.res,g b.c4,g b.c5,g b.c6,g b.c7⟩
theorem Ai.ext{wr f:V}{h lg:Nat}{k:Option Yi}{j:Nat}{i:Option Yi}{cap:Nat}(a:Ai wr h lg k j i cap)(l:X wr wr f):Ai f h lg k j i cap:=by
 have c:∀{b:Nat} {g:Z},wr.cell? ⟨lg,b,I⟩=K g->f.cell? ⟨lg,b,I⟩=K g:=λ{b g} m=>(l.cell (Yj wr ⟨lg,b,I⟩ m)).trans m
 exact⟨a.res.ext l,c a.c4,c a.c5,c a.c6,c a.c7⟩
structure We(w:V)(B lg dg dc:Nat)(ao:Option Yi)(cap:Nat):Prop where
 c0:w.cell? lg=K (A G 32)
 c1:w.cell? ⟨lg,1,I⟩=K (U (K dg) 3 dc)
 c2:w.cell? ⟨lg,2,I⟩=K (A G 0)
 c3:w.cell? ⟨lg,3,I⟩=K (A G 11)
 c4:w.cell? ⟨lg,4,I⟩=K (A G 4)
 c5:w.cell? ⟨lg,5,I⟩=K (U ao 0 cap)
 c6:w.cell? ⟨lg,6,I⟩=K (A G 11)
 c7:w.cell? ⟨lg,7,I⟩=K (A G 19)
 Wi:B<=lg
 Wh:B<=dg
 bytes:ah w (U (K dg) 3 dc) [0,0,1]
 Wt:Eh ao cap
theorem UT.q{n:V}{i:Nat}{m o:Z}{k:Option Yi}{cap:Nat}(p:UT n i m o (U k 0 cap)):∃lg h g f,m=U (K ⟨lg,0,I⟩) 2 h/\We n i lg g f k cap:=by
 obtain⟨c,a,l⟩:=p;have t:=aq (b:=[0,0,1]) l
 rcases aV l with⟨_,c⟩|⟨g,f,rfl,s,_⟩
 .cases c
 rcases aV a with⟨_,c⟩|⟨lg,h,rfl,r,_⟩
 .cases c
 exact⟨lg,h,g,f,rfl,au a (j:=0) rfl,au a (j:=1) rfl,au a (j:=2) rfl,au a (j:=3) rfl,au a (j:=4) rfl,au a (j:=5) rfl,au a (j:=6) rfl,au a (j:=7) rfl,r,s,t,c _ _ rfl⟩
theorem Fh(T:Z)(a:V)(a7:ah a T cU):d prog 192 #[T] a λh a8=>
  ∃c b g cap,h=e (Ye #[Yc #[A G 0,A G 0,A G 1,U (K ⟨c,0,I⟩) 1 b],Ya])/\a8.ownsRow a 284 2 (U (K ⟨c,0,I⟩) 1 b) 1 [A G 4,U g 0 cap]/\Eh g cap/\X a a a8:=by
 have c0:=E a7;have b1:=E (λc7 c4=>He T c7 c4);have C:=E (N:X a a ((a.alloc (M zK 231)).alloc (M zK 231)));have a9:=E ((ai.new a zK 231).alloc (M zK 231));have b0:=E (show ai ((a.alloc (M zK 231)).alloc (M zK 231)) (a.heap.size+1) zK 231 from kB _ _ _ _ Y);have L:=E (Y:((a.alloc (M zK 231)).alloc (M zK 231)).heap.size=a.heap.size+2);clear a7;unfold zK at C L;go_enter func192,ntmps192
 go_wp2_with (first
  |(go_at_call 241;refine(b1.o _ (c0.o.ext C.o)).mono ?_;rintro h i ⟨g0,e4,g,cap,rfl,a6,v⟩;obtain⟨lg,g1,P,a0,rfl,a5⟩:=a6.q;have f:=E a5;have b9:=E (a9.o.ext v);have b2:=E (b0.o.ext v);have D:=E (ext C.o v);clear a6 v a5))
 have b6:=E (show Ai i a lg I 0 g cap from⟨b9.o,f.o.c4,f.o.c5,f.o.c6,f.o.c7⟩);have J:=E (show a.heap.size+2<=lg/\a.heap.size+2<=P from⟨L.o▸f.o.Wi,L.o▸f.o.Wh⟩)
 go_loopw [18] (λt wr=>(t=A G 0/\i=wr)∨(t=A G 1/\Ai wr a lg I 0 g cap/\ai wr (a.heap.size+1) #[A G 0,A G 0,A G 1,U I 0 0] 231/\X a a wr)∨(t=A G 2/\∃c b,ai wr a zK 231/\ai wr (a.heap.size+1) #[A G 0,A G 0,A G 1,U (K ⟨c,0,I⟩) 1 b] 231/\wr.ownsRow (a.heap.size+2) 284 2 (U (K ⟨c,0,I⟩) 1 b) 1 [A G 4,U g 0 cap]/\X a a wr)) (λt _=>(2 - Yz t).toNat)
 case atStart=>exact Yg ⟨rfl,rfl⟩
 case round=>
  rcases hrel with⟨rfl,rfl⟩|⟨rfl,a2,j,n⟩|⟨rfl,c,b,u,j,a1,n⟩
  .obtain⟨c1,c8,c9,e0, -, -, -, -, -, -, -, -⟩:=f.o
   have c5:lg<i.heap.size:=Yj i lg c1
   go_wp2_with (first
    |(go_at_call 242;go_loud (refine(KC (a.heap.size+1) P 0 a0 _ (b2.o.alloc _) (f.o.bytes.ext N) (by have:=J.o.2;omega)).mono ?_;rintro h c6 ⟨rfl,r,s⟩;have F:=E r;have l:=E s;clear r s)))
   go_roundw
   case rel=>
    have m:X i i (i.alloc (M #[A G 32,U (K P) 3 a0,A G 0,A G 11] 171)):=N;refine Yh (Yg ⟨rfl,(b6.o.ext m).aD l.o O (by have:=J.o.1;omega),F.o,(D.o.trans (m.mono D.o.size)).trans (l.o.below (B:=a.heap.size) (λR h=>by have c3:R=a.heap.size+1:=h;omega) (by have:=D.o.size;simp;omega))⟩)
   case measure=>decide
  .have b5:=E a2
   have W:=E j;have k:=E n;obtain⟨-,c2,e1,e2,e3⟩:=a2;have c5:lg<wr.heap.size:=Yj wr ⟨lg,4,I⟩ c2;clear j n
   go_wp2_with (first
    |(go_at_call 242;go_loud (refine(Kz (a.heap.size+1) cap g _ (W.o.alloc _)).mono ?_;rintro h c6 ⟨c,b,rfl,r,a3,s⟩;have F:=E r;have b4:=E a3;have l:=E s;clear r s a3)))
   go_roundw
   case rel=>
    have m:X wr wr (wr.alloc (M #[A G 4,U g 0 cap,A G 11,A G 19] 171)):=N;have e5:=W.o.lt;refine Yh (Yh ⟨rfl,c,b,((b5.o.ext m).aD l.o O (by have:=J.o.1;omega)).res,F.o,aA b4.o (by simp;omega),(k.o.trans (m.mono k.o.size)).trans (l.o.below (B:=a.heap.size) (λR h=>by have c3:R=a.heap.size+1:=h;omega) (by have:=k.o.size;simp;omega))⟩)
   case measure=>decide
  .obtain⟨⟨e6,e7,e8,e9⟩, -⟩:=j.Gw
   obtain⟨⟨g4,g5,g6,g7⟩,⟨g8,g9,h0,h1⟩⟩:=(show ai wr a #[A G 0,A G 0,A G 0,U I 0 0] 231 from u).Gw;have g2:=j.lt;have g3:=u.lt;have b8:=E u;have b3:=E a1;have k:=E n;clear u a1 n j;obtain⟨⟨w,x,y,z⟩, -⟩:=((show ai wr a #[A G 0,A G 0,A G 0,U I 0 0] 231 from b8.o).wu (A G 0) (A G 0) (A G 1) (U (K ⟨c,0,I⟩) 1 b)).four;have b7:=E (YI w (YI x (YI y z)));clear w x y z;go_wp2;obtain⟨w,x,y,z⟩:=b7.o
   all_goals refine YD (by simp [YU,results192,go_sem,w,x,y,z];try rfl) rfl ?_
   refine⟨c,b,g,cap,rfl,?_,f.o.Wt,?_⟩
   .exact aA (Yu (Yu (Yu (Yu b3.o (O:a.heap.size<a.heap.size+2) _) (O:a.heap.size<a.heap.size+2) _) (O:a.heap.size<a.heap.size+2) _) (O:a.heap.size<a.heap.size+2) _) O
   .exact(((k.o.setCell (p:=a) (Yk _) _).setCell (p:=⟨a,1,I⟩) (Yk _) _).setCell (p:=⟨a,2,I⟩) (Yk _) _).setCell (p:=⟨a,3,I⟩) (Yk _) _
end Go.Proofs.YtajkpgaheechmaaGreatDoor
