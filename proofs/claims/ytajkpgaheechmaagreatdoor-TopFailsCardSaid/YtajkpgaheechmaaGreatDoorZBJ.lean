/- RefJ RefL RefP -/
import Derived.Test.YtajkpgaheechmaaGreatDoorZBE
import Derived.Test.YtajkpgaheechmaaGreatDoorZBI
set_option maxRecDepth 100000
set_option maxHeartbeats 16000000
set_option linter.unusedSimpArgs false
set_option linter.unusedVariables false
set_option linter.unusedSectionVars false
namespace Go.Proofs.YtajkpgaheechmaaGreatDoor
open _root_.Go.Proofs.Tryz
open Go.Value renaming int->A,slice->U,agg->Yc
open Go.IntKind renaming i64->G
open Option renaming none->I,some->K
open Go.Obj renaming cells->M
open Go.Ending renaming returned->e
open Go renaming World->V,Value->Z,Calls->d,Addr->Yi,wpAnyH_take->YH
open Go.RowKit renaming Below->X
open Or renaming inl->Yg
open Go.World renaming block_lt_of_cell?->Yj
open Go.RowKit.Below renaming refl->Yn
open List renaming setIfInBounds_toArray->Yw,getElem_cons_zero->YE,getElem_cons_succ->YF,set_cons_zero->YJ,getElem_toArray->YK,set_cons_succ->YL
open And renaming intro->YI
open Bool renaming and_eq_true->YV
section
open Go.RowKit
theorem sa(a:V)(f:bN a):d prog 6 #[] a λb i=>b=e (.bool true)/\X a a i:=by
 have g:=E (AU a f);clear f;go_enter func6,ntmps6
 go_wp2_with fail
 refine g.o.mono ?_;rintro b j ⟨rfl,c⟩;have h:=E c;clear c;go_wp2;go_returns;exact⟨rfl,h.o⟩
theorem FA{a:cF}(b:iB a=true):0<=a.fq/\a.fq<=a.eC/\a.eC<=15/\0<=a.reach/\a.reach<=7/\8<=a.bX/\a.bX<=16384:=by
 unfold iB QL QN QM gu at b;simp only [YV,decide_eq_true_eq] at b;omega
theorem BS(l:cF)(s:iB l=true)(a b:Int)(h:Nat)(J:h<=16):∃u,∀i:V,d prog 67 #[l.val,A G a,A G b,A G h] i λj F=>j=e (.bool u)/\X i i F:=by
 obtain⟨f,g,c,n,o,p,q,r⟩:=l;have j:cF.val ⟨f,g,c,n,o,p,q,r⟩=Yc #[A G f,A G g,A G c,A G n,A G o,A G p,A G q,A G r]:=rfl;rw [j];obtain⟨v,w,x,y,z, -, -⟩:=FA s;simp only at v w x y z;clear s j;have L:¬c<0:=O;have P:¬7<c:=O;have R:¬f<0:=O;have T:¬g<f:=O;have W:¬15<g:=O;have a0:¬(h:Int)<0:=O;have a1:¬16<(h:Int):=O;have C:a<0∨(¬a<0/\32<a)∨(¬a<0/\¬32<a/\b<0)∨(¬a<0/\¬32<a/\¬b<0/\32<b)∨(¬a<0/\¬32<a/\¬b<0/\¬32<b):=O
 rcases C with k|⟨k,m⟩|⟨k,m,t⟩|⟨k,m,t,D⟩|⟨k,m,t,D⟩
 all_goals first
  |(refine⟨true,λi=>?_⟩
    go_enter func67,ntmps67;go_wp2;go_returns
    exact⟨rfl,N⟩)
  |skip
 refine⟨decide (wrap64 (wrap64 (wrap64 (wrap64 (wrap64 (a*b)*(h:Int))*(2*c+1))*(2*c+1))*(g - f+1))<=524288),λi=>?_⟩;go_enter func67,ntmps67;go_wp2;go_returns;exact⟨rfl,N⟩
end
section
open Go.RowKit Go.Extern.Stop Go.Stop Go.Extern
theorem BV(R:cF)(c7:iB R=true)(f:Z)(b3:Bs)(c:V)(b8:ah c f b3):
  d prog 29 #[R.val,f] c λn g=>∃c9,n=e (.bool c9)/\(c9=true->b3.length<=20000)/\X c c g:=by
 have c1:=E (λ(J L:Int) (a1:Nat) (g4:a1<=16)=>BS R c7 J L a1 g4);have c2:=E (λ(j:V)=>nf (U I 0 0) j);have e5:=E (λ(e1:Int) (c5:Option Yi) (a8 R:Nat) (g5:(e1==0)=false) (j:V)=>pG e1 g5 (U c5 a8 R) j);obtain⟨u,v,w,x,y,z,C,D⟩:=R;have n:cF.val ⟨u,v,w,x,y,z,C,D⟩=Yc #[A G u,A G v,A G w,A G x,A G y,A G z,A G C,A G D]:=rfl;rw [n] at c1⊢;obtain⟨g7,cap,rfl⟩:=b8.shape;obtain⟨a8,b4⟩:∃a8,b3.length=a8:=⟨_,rfl⟩;have c4:=E b8;have e8:=E b4;rw [b4];rw [b4] at c4;clear b8 b4 c7 n;by_cases h0:20000<a8
 .go_enter func29,ntmps29
  go_wp2;go_returns;exact⟨false,rfl,λa=>(by cases a),N⟩
 .have e4:=E (λ(j:V) (l:X c c j)=>Bq _ b3 j (c4.o.ext l) (by rw [e8.o];omega))
  have b5:=E (N:X c c (c.alloc (M #[A G u,A G v,A G w,A G x,A G y,A G z,A G C,A G D] 23)));have e2:=E (ai.new c #[A G u,A G v,A G w,A G x,A G y,A G z,A G C,A G D] 23);go_enter func29,ntmps29
  go_wp2_with fail
  refine(e4.o _ b5.o).mono ?_;rintro n h (⟨c5,a1,g2,g8,rfl,⟨a0,P,a2,T,rfl,c8⟩,W⟩|⟨t,a1,g2,J,L,rfl,g9,g3,b9,e0,W⟩)
  .have b1:=E (ext b5.o W)
   have e7:=E c8;clear W c8;have s:=E (ai.new h #[A G a0,U P a2 T] 100);have b2:=E (show(h.alloc (M #[A G a0,U P a2 T] 100)).drew.cell? h=K (A G a0)/\(h.alloc (M #[A G a0,U P a2 T] 100)).drew.cell? ⟨h,1,I⟩=K (U P a2 T) from⟨s.o.bw.cell 0,s.o.bw.cell 1⟩);have g6:=s.o.lt
   go_wp2_with fail
   refine wp_region_held_drew (S:=λg=>g.cell? h=K (A G a0)/\g.cell? ⟨h,1,I⟩=K (U P a2 T)) B b2.o (λhHeld=>?_);refine YH (i:=0) (v:=?_) rfl B B B (λ_ _ _ a=>a) (Yg ⟨by rfl,?_⟩) Zd ?_;rotate_left
   ·(intro c b;(try dsimp only at b);go_simp;try with_reducible rfl)
   try simp only [YK,YE,YF,Act.put,Yw,YJ,YL]
   refine wpAnyH_ready (rs:=[1]) B Y ?_;refine AllReadyH.cons rfl (λr k=>?_) AllReadyH.nil;go_simp
   (go_at_call 66;with_reducible refine(e5.o a0 P a2 T e7.o _).mono ?_;rintro n a9 ⟨rfl,m⟩;have c0:=E (s.o.bw.ext m);have a6:=E (YI (c0.o.cell 0) (c0.o.cell 1));have e6:=E (show X c c a9 from ext (ext b1.o N) m);clear m)
   go_wp2_with fail
   refine k.out _ _ a6.o (λhHeld=>?_);clear k r
   try simp only [YK,YE,YF,Act.put,Yw,YJ,YL]
   refine YH (i:=2) (v:=?_) rfl B B B (λ_ _ _ a=>a) (Yg ⟨by rfl,?_⟩) Zd ?_;rotate_left
   ·(intro c b;(try dsimp only at b);go_simp;try with_reducible rfl)
   refine YH (i:=3) (v:=?_) rfl B B B (λ_ _ _ a=>a) (Yg ⟨by rfl,?_⟩) Zd ?_;rotate_left
   ·(intro c b;(try dsimp only at b);go_simp;try with_reducible rfl)
   try simp only [YK,YE,YF,Act.put,Yw,YJ,YL]
   refine YH (i:=4) (v:=undef) rfl B B B (λ_ _ _ a=>a) (Or.inr ⟨by rfl,rfl⟩) Zd ?_;refine YH (i:=5) (v:=undef) rfl B B B (λ_ _ _ a=>a) (Or.inr ⟨by rfl,rfl⟩) Zd ?_;refine YH (i:=6) (v:=undef) rfl B B B (λ_ _ _ a=>a) (Or.inr ⟨by rfl,rfl⟩) Zd ?_;refine YH (i:=7) (v:=undef) rfl B B B (λ_ _ _ a=>a) (Or.inr ⟨by rfl,rfl⟩) Zd ?_
   try simp only [YK,YE,YF,Act.put,Yw,YJ,YL]
   refine YH (i:=8) (v:=undef) rfl B B B (λ_ _ _ a=>a) (Or.inr ⟨by rfl,rfl⟩) Zd ?_;refine YH (i:=9) (v:=undef) rfl B B B (λ_ _ _ a=>a) (Or.inr ⟨by rfl,rfl⟩) Zd ?_;refine YH (i:=10) (v:=undef) rfl B B B (λ_ _ _ a=>a) (Or.inr ⟨by rfl,rfl⟩) Zd ?_;refine YH (i:=11) (v:=undef) rfl B B B (λ_ _ _ a=>a) (Or.inr ⟨by rfl,rfl⟩) Zd ?_
   try simp only [YK,YE,YF,Act.put,Yw,YJ,YL]
   refine YH (i:=12) (v:=undef) rfl B B B (λ_ _ _ a=>a) (Or.inr ⟨by rfl,rfl⟩) Zd ?_;refine YH (i:=13) (v:=undef) rfl B B B (λ_ _ _ a=>a) (Or.inr ⟨by rfl,rfl⟩) Zd ?_;refine YH (i:=14) (v:=undef) rfl B B B (λ_ _ _ a=>a) (Or.inr ⟨by rfl,rfl⟩) Zd ?_;refine YH (i:=15) (v:=undef) rfl B B B (λ_ _ _ a=>a) (Or.inr ⟨by rfl,rfl⟩) Zd ?_
   try simp only [YK,YE,YF,Act.put,Yw,YJ,YL]
   refine YH (i:=16) (v:=undef) rfl B B B (λ_ _ _ a=>a) (Or.inr ⟨by rfl,rfl⟩) Zd ?_;refine YH (i:=17) (v:=undef) rfl B B B (λ_ _ _ a=>a) (Or.inr ⟨by rfl,rfl⟩) Zd ?_;refine YH (i:=18) (v:=undef) rfl B B B (λ_ _ _ a=>a) (Or.inr ⟨by rfl,rfl⟩) Zd ?_;refine YH (i:=19) (v:=undef) rfl B B B (λ_ _ _ a=>a) (Or.inr ⟨by rfl,rfl⟩) Zd ?_
   try simp only [YK,YE,YF,Act.put,Yw,YJ,YL]
   refine YH (i:=20) (v:=undef) rfl B B B (λ_ _ _ a=>a) (Or.inr ⟨by rfl,rfl⟩) Zd ?_;refine YH (i:=21) (v:=?_) rfl B B B (λ_ _ _ a=>a) (Yg ⟨by rfl,?_⟩) Zd ?_;rotate_left
   ·(intro c b;(try dsimp only at b);go_simp;try with_reducible rfl)
   refine YH (i:=22) (v:=?_) rfl B B B (λ_ _ _ a=>a) (Yg ⟨by rfl,?_⟩) Zd ?_;rotate_left
   ·(intro c b;(try dsimp only at b);go_simp;try with_reducible rfl)
   try simp only [YK,YE,YF,Act.put,Yw,YJ,YL]
   refine wpAnyH_done B ?_ _
   all_goals go_wp2
   all_goals go_returns
   all_goals exact⟨_,rfl,λ_=>O,e6.o⟩
  .obtain⟨g1,c6⟩:=c1.o J L a1 g3
   have c3:=E c6;have b1:=E (ext b5.o W);have e3:=E (e2.o.ext W);have lg:=Yj h _ b9;have e9:=E b9;have g0:=E e0;clear W c6 b9 e0;have s:=E (ai.new h #[A G 0,U I 0 0] 100);have q:=E (e3.o.alloc (M #[A G 0,U I 0 0] 100))
   have a7:=E (λ(j:V) (l:X (h.alloc (M #[A G 0,U I 0 0] 100)).heap.size (h.alloc (M #[A G 0,U I 0 0] 100)) j)=>show j.cell? h=K (A G 0)/\j.cell? ⟨h,1,I⟩=K (U I 0 0)/\j.cell? t=K (A G J)/\j.cell? ⟨t,1,I⟩=K (A G L)/\j.cell? c=K (A G u)/\j.cell? ⟨c,1,I⟩=K (A G v)/\j.cell? ⟨c,2,I⟩=K (A G w)/\j.cell? ⟨c,3,I⟩=K (A G x)/\j.cell? ⟨c,4,I⟩=K (A G y)/\j.cell? ⟨c,5,I⟩=K (A G z)/\j.cell? ⟨c,6,I⟩=K (A G C)/\j.cell? ⟨c,7,I⟩=K (A G D) from
    ⟨(s.o.ext l).cell 0,(s.o.ext l).cell 1,((N:X h h _).trans (l.mono Y)).cell (p:=t) lg|>.trans e9.o,((N:X h h _).trans (l.mono Y)).cell (p:=⟨t,1,I⟩) lg|>.trans g0.o,(q.o.ext l).cell 0,(q.o.ext l).cell 1,(q.o.ext l).cell 2,(q.o.ext l).cell 3,(q.o.ext l).cell 4,(q.o.ext l).cell 5,(q.o.ext l).cell 6,(q.o.ext l).cell 7⟩)
   have a3:=E (show X (h.alloc (M #[A G 0,U I 0 0] 100)).heap.size (h.alloc (M #[A G 0,U I 0 0] 100)) (h.alloc (M #[A G 0,U I 0 0] 100)).drew from(Yn _ _).drew);have b2:=E (a7.o _ a3.o);have g6:=s.o.lt;have h1:=q.o.lt;have h2:0<a1:=O
   go_wp2_with fail
   cases g1 with
   |false=>
    refine wp_region_held_drew (S:=λg=>g.cell? h=K (A G 0)/\g.cell? ⟨h,1,I⟩=K (U I 0 0)/\g.cell? t=K (A G J)/\g.cell? ⟨t,1,I⟩=K (A G L)/\g.cell? c=K (A G u)/\g.cell? ⟨c,1,I⟩=K (A G v)/\g.cell? ⟨c,2,I⟩=K (A G w)/\g.cell? ⟨c,3,I⟩=K (A G x)/\g.cell? ⟨c,4,I⟩=K (A G y)/\g.cell? ⟨c,5,I⟩=K (A G z)/\g.cell? ⟨c,6,I⟩=K (A G C)/\g.cell? ⟨c,7,I⟩=K (A G D)) B b2.o (λhHeld=>?_);refine YH (i:=0) (v:=?_) rfl B B B (λ_ _ _ a=>a) (Yg ⟨by rfl,?_⟩) Zd ?_;rotate_left
    ·(intro c b;(try dsimp only at b);go_simp;try with_reducible rfl)
    try simp only [YK,YE,YF,Act.put,Yw,YJ,YL]
    refine wpAnyH_ready (rs:=[1]) B Y ?_;refine AllReadyH.cons rfl (λr k=>?_) AllReadyH.nil;go_simp
    (go_at_call 66;with_reducible refine(c2.o _).mono ?_;rintro n a9 ⟨rfl,m⟩;have a6:=E (a7.o a9 (ext a3.o m));have a5:=E (ext a3.o m);clear m)
    go_wp2_with fail
    refine k.out _ _ a6.o (λhHeld=>?_);clear k r
    try simp only [YK,YE,YF,Act.put,Yw,YJ,YL]
    refine YH (i:=2) (v:=?_) rfl B B B (λ_ _ _ a=>a) (Yg ⟨by rfl,?_⟩) Zd ?_;rotate_left
    ·(intro c b;(try dsimp only at b);go_simp;try with_reducible rfl)
    refine YH (i:=3) (v:=?_) rfl B B B (λ_ _ _ a=>a) (Yg ⟨by rfl,?_⟩) Zd ?_;rotate_left
    ·(intro c b;(try dsimp only at b);go_simp;try with_reducible rfl)
    try simp only [YK,YE,YF,Act.put,Yw,YJ,YL]
    refine YH (i:=4) (v:=?_) rfl B B B (λ_ _ _ a=>a) (Yg ⟨by rfl,?_⟩) Zd ?_;rotate_left
    ·(intro c b;(try dsimp only at b);go_simp;try with_reducible rfl)
    refine YH (i:=5) (v:=?_) rfl B B B (λ_ _ _ a=>a) (Yg ⟨by rfl,?_⟩) Zd ?_;rotate_left
    ·(intro c b;(try dsimp only at b);go_simp;try with_reducible rfl)
    refine YH (i:=6) (v:=?_) rfl B B B (λ_ _ _ a=>a) (Yg ⟨by rfl,?_⟩) Zd ?_;rotate_left
    ·(intro c b;(try dsimp only at b);go_simp;try with_reducible rfl)
    refine YH (i:=7) (v:=?_) rfl B B B (λ_ _ _ a=>a) (Yg ⟨by rfl,?_⟩) Zd ?_;rotate_left
    ·(intro c b;(try dsimp only at b);go_simp;try with_reducible rfl)
    try simp only [YK,YE,YF,Act.put,Yw,YJ,YL]
    refine YH (i:=8) (v:=?_) rfl B B B (λ_ _ _ a=>a) (Yg ⟨by rfl,?_⟩) Zd ?_;rotate_left
    ·(intro c b;(try dsimp only at b);go_simp;try with_reducible rfl)
    refine YH (i:=9) (v:=?_) rfl B B B (λ_ _ _ a=>a) (Yg ⟨by rfl,?_⟩) Zd ?_;rotate_left
    ·(intro c b;(try dsimp only at b);go_simp;try with_reducible rfl)
    refine YH (i:=10) (v:=?_) rfl B B B (λ_ _ _ a=>a) (Yg ⟨by rfl,?_⟩) Zd ?_;rotate_left
    ·(intro c b;(try dsimp only at b);go_simp;try with_reducible rfl)
    refine YH (i:=11) (v:=?_) rfl B B B (λ_ _ _ a=>a) (Yg ⟨by rfl,?_⟩) Zd ?_;rotate_left
    ·(intro c b;(try dsimp only at b);go_simp;try with_reducible rfl)
    try simp only [YK,YE,YF,Act.put,Yw,YJ,YL]
    refine YH (i:=12) (v:=?_) rfl B B B (λ_ _ _ a=>a) (Yg ⟨by rfl,?_⟩) Zd ?_;rotate_left
    ·(intro c b;(try dsimp only at b);go_simp;try with_reducible rfl)
    refine YH (i:=13) (v:=?_) rfl B B B (λ_ _ _ a=>a) (Yg ⟨by rfl,?_⟩) Zd ?_;rotate_left
    ·(intro c b;(try dsimp only at b);go_simp;try with_reducible rfl)
    refine YH (i:=14) (v:=?_) rfl B B B (λ_ _ _ a=>a) (Yg ⟨by rfl,?_⟩) Zd ?_;rotate_left
    ·(intro c b;(try dsimp only at b);go_simp;try with_reducible rfl)
    try simp only [YK,YE,YF,Act.put,Yw,YJ,YL]
    refine wpAnyH_ready (rs:=[15]) B Y ?_;refine AllReadyH.cons rfl (λr k=>?_) AllReadyH.nil;go_simp
    (go_at_call 67;with_reducible refine(c3.o _).mono ?_;rintro n b0 ⟨rfl,F⟩;have b7:=E (a7.o b0 (ext a5.o F));have b6:=E (show X c c b0 from ext (ext b1.o N) (ext a5.o F));clear F)
    go_wp2_with fail
    refine k.out _ _ b7.o (λhHeld=>?_);clear k r
    try simp only [YK,YE,YF,Act.put,Yw,YJ,YL]
    refine YH (i:=16) (v:=?_) rfl B B B (λ_ _ _ a=>a) (Yg ⟨by rfl,?_⟩) Zd ?_;rotate_left
    ·(intro c b;(try dsimp only at b);go_simp;try with_reducible rfl)
    refine YH (i:=17) (v:=undef) rfl B B B (λ_ _ _ a=>a) (Or.inr ⟨by rfl,rfl⟩) Zd ?_;refine YH (i:=18) (v:=undef) rfl B B B (λ_ _ _ a=>a) (Or.inr ⟨by rfl,rfl⟩) Zd ?_;refine YH (i:=19) (v:=undef) rfl B B B (λ_ _ _ a=>a) (Or.inr ⟨by rfl,rfl⟩) Zd ?_
    try simp only [YK,YE,YF,Act.put,Yw,YJ,YL]
    refine YH (i:=20) (v:=?_) rfl B B B (λ_ _ _ a=>a) (Yg ⟨by rfl,?_⟩) Zd ?_;rotate_left
    ·(intro c b;(try dsimp only at b);go_simp;try with_reducible rfl)
    refine YH (i:=21) (v:=?_) rfl B B B (λ_ _ _ a=>a) (Yg ⟨by rfl,?_⟩) Zd ?_;rotate_left
    ·(intro c b;(try dsimp only at b);go_simp;try with_reducible rfl)
    refine YH (i:=22) (v:=?_) rfl B B B (λ_ _ _ a=>a) (Yg ⟨by rfl,?_⟩) Zd ?_;rotate_left
    ·(intro c b;(try dsimp only at b);go_simp;try with_reducible rfl)
    try simp only [YK,YE,YF,Act.put,Yw,YJ,YL]
    refine wpAnyH_done B ?_ _
    all_goals go_wp2
    all_goals go_returns
    all_goals exact⟨_,rfl,λ_=>O,b6.o⟩
   |true=>
    refine wp_region_held_drew (S:=λg=>g.cell? h=K (A G 0)/\g.cell? ⟨h,1,I⟩=K (U I 0 0)/\g.cell? t=K (A G J)/\g.cell? ⟨t,1,I⟩=K (A G L)/\g.cell? c=K (A G u)/\g.cell? ⟨c,1,I⟩=K (A G v)/\g.cell? ⟨c,2,I⟩=K (A G w)/\g.cell? ⟨c,3,I⟩=K (A G x)/\g.cell? ⟨c,4,I⟩=K (A G y)/\g.cell? ⟨c,5,I⟩=K (A G z)/\g.cell? ⟨c,6,I⟩=K (A G C)/\g.cell? ⟨c,7,I⟩=K (A G D)) B b2.o (λhHeld=>?_);refine YH (i:=0) (v:=?_) rfl B B B (λ_ _ _ a=>a) (Yg ⟨by rfl,?_⟩) Zd ?_;rotate_left
    ·(intro c b;(try dsimp only at b);go_simp;try with_reducible rfl)
    try simp only [YK,YE,YF,Act.put,Yw,YJ,YL]
    refine wpAnyH_ready (rs:=[1]) B Y ?_;refine AllReadyH.cons rfl (λr k=>?_) AllReadyH.nil;go_simp
    (go_at_call 66;with_reducible refine(c2.o _).mono ?_;rintro n a9 ⟨rfl,m⟩;have a6:=E (a7.o a9 (ext a3.o m));have a5:=E (ext a3.o m);clear m)
    go_wp2_with fail
    refine k.out _ _ a6.o (λhHeld=>?_);clear k r
    try simp only [YK,YE,YF,Act.put,Yw,YJ,YL]
    refine YH (i:=2) (v:=?_) rfl B B B (λ_ _ _ a=>a) (Yg ⟨by rfl,?_⟩) Zd ?_;rotate_left
    ·(intro c b;(try dsimp only at b);go_simp;try with_reducible rfl)
    refine YH (i:=3) (v:=?_) rfl B B B (λ_ _ _ a=>a) (Yg ⟨by rfl,?_⟩) Zd ?_;rotate_left
    ·(intro c b;(try dsimp only at b);go_simp;try with_reducible rfl)
    try simp only [YK,YE,YF,Act.put,Yw,YJ,YL]
    refine YH (i:=4) (v:=?_) rfl B B B (λ_ _ _ a=>a) (Yg ⟨by rfl,?_⟩) Zd ?_;rotate_left
    ·(intro c b;(try dsimp only at b);go_simp;try with_reducible rfl)
    refine YH (i:=5) (v:=?_) rfl B B B (λ_ _ _ a=>a) (Yg ⟨by rfl,?_⟩) Zd ?_;rotate_left
    ·(intro c b;(try dsimp only at b);go_simp;try with_reducible rfl)
    refine YH (i:=6) (v:=?_) rfl B B B (λ_ _ _ a=>a) (Yg ⟨by rfl,?_⟩) Zd ?_;rotate_left
    ·(intro c b;(try dsimp only at b);go_simp;try with_reducible rfl)
    refine YH (i:=7) (v:=?_) rfl B B B (λ_ _ _ a=>a) (Yg ⟨by rfl,?_⟩) Zd ?_;rotate_left
    ·(intro c b;(try dsimp only at b);go_simp;try with_reducible rfl)
    try simp only [YK,YE,YF,Act.put,Yw,YJ,YL]
    refine YH (i:=8) (v:=?_) rfl B B B (λ_ _ _ a=>a) (Yg ⟨by rfl,?_⟩) Zd ?_;rotate_left
    ·(intro c b;(try dsimp only at b);go_simp;try with_reducible rfl)
    refine YH (i:=9) (v:=?_) rfl B B B (λ_ _ _ a=>a) (Yg ⟨by rfl,?_⟩) Zd ?_;rotate_left
    ·(intro c b;(try dsimp only at b);go_simp;try with_reducible rfl)
    refine YH (i:=10) (v:=?_) rfl B B B (λ_ _ _ a=>a) (Yg ⟨by rfl,?_⟩) Zd ?_;rotate_left
    ·(intro c b;(try dsimp only at b);go_simp;try with_reducible rfl)
    refine YH (i:=11) (v:=?_) rfl B B B (λ_ _ _ a=>a) (Yg ⟨by rfl,?_⟩) Zd ?_;rotate_left
    ·(intro c b;(try dsimp only at b);go_simp;try with_reducible rfl)
    try simp only [YK,YE,YF,Act.put,Yw,YJ,YL]
    refine YH (i:=12) (v:=?_) rfl B B B (λ_ _ _ a=>a) (Yg ⟨by rfl,?_⟩) Zd ?_;rotate_left
    ·(intro c b;(try dsimp only at b);go_simp;try with_reducible rfl)
    refine YH (i:=13) (v:=?_) rfl B B B (λ_ _ _ a=>a) (Yg ⟨by rfl,?_⟩) Zd ?_;rotate_left
    ·(intro c b;(try dsimp only at b);go_simp;try with_reducible rfl)
    refine YH (i:=14) (v:=?_) rfl B B B (λ_ _ _ a=>a) (Yg ⟨by rfl,?_⟩) Zd ?_;rotate_left
    ·(intro c b;(try dsimp only at b);go_simp;try with_reducible rfl)
    try simp only [YK,YE,YF,Act.put,Yw,YJ,YL]
    refine wpAnyH_ready (rs:=[15]) B Y ?_;refine AllReadyH.cons rfl (λr k=>?_) AllReadyH.nil;go_simp
    (go_at_call 67;with_reducible refine(c3.o _).mono ?_;rintro n b0 ⟨rfl,F⟩;have b7:=E (a7.o b0 (ext a5.o F));have b6:=E (show X c c b0 from ext (ext b1.o N) (ext a5.o F));clear F)
    go_wp2_with fail
    refine k.out _ _ b7.o (λhHeld=>?_);clear k r
    try simp only [YK,YE,YF,Act.put,Yw,YJ,YL]
    refine YH (i:=16) (v:=?_) rfl B B B (λ_ _ _ a=>a) (Yg ⟨by rfl,?_⟩) Zd ?_;rotate_left
    ·(intro c b;(try dsimp only at b);go_simp;try with_reducible rfl)
    refine YH (i:=17) (v:=?_) rfl B B B (λ_ _ _ a=>a) (Yg ⟨by rfl,?_⟩) Zd ?_;rotate_left
    ·(intro c b;(try dsimp only at b);go_simp;try with_reducible rfl)
    refine YH (i:=18) (v:=?_) rfl B B B (λ_ _ _ a=>a) (Yg ⟨by rfl,?_⟩) Zd ?_;rotate_left
    ·(intro c b;(try dsimp only at b);go_simp;try with_reducible rfl)
    refine YH (i:=19) (v:=?_) rfl B B B (λ_ _ _ a=>a) (Yg ⟨by rfl,?_⟩) Zd ?_;rotate_left
    ·(intro c b;(try dsimp only at b);go_simp;try with_reducible rfl)
    try simp only [YK,YE,YF,Act.put,Yw,YJ,YL]
    refine YH (i:=20) (v:=?_) rfl B B B (λ_ _ _ a=>a) (Yg ⟨by rfl,?_⟩) Zd ?_;rotate_left
    ·(intro c b;(try dsimp only at b);go_simp;try with_reducible rfl)
    refine YH (i:=21) (v:=?_) rfl B B B (λ_ _ _ a=>a) (Yg ⟨by rfl,?_⟩) Zd ?_;rotate_left
    ·(intro c b;(try dsimp only at b);go_simp;try with_reducible rfl)
    refine YH (i:=22) (v:=?_) rfl B B B (λ_ _ _ a=>a) (Yg ⟨by rfl,?_⟩) Zd ?_;rotate_left
    ·(intro c b;(try dsimp only at b);go_simp;try with_reducible rfl)
    try simp only [YK,YE,YF,Act.put,Yw,YJ,YL]
    refine wpAnyH_done B ?_ _
    all_goals go_wp2
    all_goals go_returns
    all_goals exact⟨_,rfl,λ_=>O,b6.o⟩
end
section
open Go.RowKit
theorem Is(g:cF)(J:iB g=true)(C z:Z)(l:Bs)(j:List kV)(a:V)(x:ah a C l)(w:jW a z j):
  d prog 8 #[g.val,C,z] a λb a0=>∃c,b=e (.bool c)/\(c=true->l.length<=20000/\j.length<=200)/\X a a a0:=by
 have D:=E (λ(f:V) (y:X a a f)=>BV g J C l f (x.ext y));have R:=E (λ(f:V) (y:X a a f)=>Nn z j f (w.ext y));obtain⟨m,n,p,q,r,s,t,u⟩:=g;have b:cF.val ⟨m,n,p,q,r,s,t,u⟩=Yc #[A G m,A G n,A G p,A G q,A G r,A G s,A G t,A G u]:=rfl;rw [b] at D⊢;have F:=E (N:X a a (a.alloc (M #[A G m,A G n,A G p,A G q,A G r,A G s,A G t,A G u] 23)));obtain⟨a2,cap,rfl⟩:=x.shape;obtain⟨P,L⟩:∃P,j.length=P:=⟨_,rfl⟩;obtain⟨a1,a3,rfl⟩:=w.dm L;clear x w J b L;go_enter func8,ntmps8
 go_wp2_with fail
 refine(D.o _ F.o).mono ?_;rintro b a5 ⟨c,rfl,i,h⟩;have k:=E (ext F.o h);have W:=E i;clear h i
 cases c with
 |false=>
  go_wp2;go_returns;exact⟨false,rfl,λv=>(by cases v),k.o⟩
 |true=>
  go_wp2_with fail
  refine(R.o _ k.o).mono ?_;rintro b a6 ⟨c,rfl,i,h⟩;have T:=E (ext k.o h);go_wp2;go_returns;exact⟨c,rfl,λv=>⟨W.o (by first|rfl|trivial),i v⟩,T.o⟩
end
end Go.Proofs.YtajkpgaheechmaaGreatDoor
