/- The statement TopFails holds of the given program: its law answers true, and does not panic, whatever config, source, number of workers and acts it is given. Conditions: none but those of the given statement. -/
import Derived.Test.YtajkpgaheechmaaGreatDoorCards
import Derived.Test.YtajkpgaheechmaaGreatDoorZAB
import Derived.Test.YtajkpgaheechmaaGreatDoorZBK
import Derived.SevenTiedAt
set_option maxRecDepth 100000
set_option maxHeartbeats 16000000
set_option linter.unusedSimpArgs false
set_option linter.unusedVariables false
set_option linter.unusedSectionVars false
namespace Go.Proofs.YtajkpgaheechmaaGreatDoor.lawTopFails
open _root_.Go.Proofs.Tryz
open Go.Value renaming int->A
open Go.IntKind renaming i64->G
open Option renaming some->K
open Go.Ending renaming returned->e
open Go renaming World->V,Value->Z,Calls->d
open Go.RowKit renaming Below->X
open Nat renaming le_trans->Yl
open Option.some renaming inj->YG
open Go.ChangeShapes Go.WideShapes Go.ChangeAt Go.RowKit
theorem Wu:prog.readableRec 25=true/\25<prog.types.size:=⟨B,of_decide_eq_true B⟩
theorem Wv:prog.readableRec 24=true/\24<prog.types.size:=⟨B,of_decide_eq_true B⟩
theorem Ww:prog.readableRec 23=true/\23<prog.types.size:=⟨B,of_decide_eq_true B⟩
theorem mF:prog.readableRec 3=true/\3<prog.types.size:=⟨B,of_decide_eq_true B⟩
theorem MZ(t:Type)(l:TypeId×Z->t)(a:V)(base:Nat)(b:Array Z)(k x:List (DataW t))(R:List MemPlace)
  (c:∀(C:Nat) r f,f4.params[C]? =K r->b[C]? =K f->Value.okWide prog a .any base r f)
  (n:DataW.Whole l prog f4.params.toList Rows.topFailsSpec.vars false a b.toList k x R)(a6:laidMetH prog [("errors.errorType",Rows.laid_errors_errorType)] a)(b9:List TypeId)(y:(DataW.weightsEach prog (f4.params.toList++b9) (k++x)).all (·<=reachBytes)=true):
  d prog 4 b a λh g=>∃f,h=e f/\Rows.topFailsSpec.post l prog f4 false true false false a b f g:=by
 have b0:=wQ a6;have b1:=n.lt;have a8:=n;obtain⟨b4,q,a3,a7,rfl,e3,e4⟩:=n;have m:DataW.TrodAll l prog a 0 (λ_=>true) true f4.params.toList b.toList k b4:=a3;obtain⟨rfl,rfl⟩:=trodVars_none a7;have a5:=m;rw [params4] at m c y;obtain⟨D,g3,c3,c7,e5,e9,e2,rfl,rfl,W,b5⟩:=trodAll_cons m;obtain⟨i,g4,c4,c8,e6,g0,rfl,rfl,rfl,a0,b6⟩:=trodAll_cons b5;obtain⟨F,g5,c5,c9,e7,g1,rfl,rfl,rfl,a1,b7⟩:=trodAll_cons b6;obtain⟨j,g6,c6,e0,e8,g2,rfl,rfl,rfl,a2,b8⟩:=trodAll_cons b7;obtain⟨rfl,rfl,rfl⟩:=trodAll_nil b8
 obtain rfl:b=#[D,i,F,j]:=by cases b;simp_all
 obtain⟨u,rfl⟩:=yW (c 0 23 D rfl rfl) W;obtain⟨v,P,b3⟩:=uI (c 1 24 i rfl rfl) a0;have b2:v.length<=140737488355328:=Yl (b3 reachBytes λs p=>of_decide_eq_true (List.all_eq_true.1 y s (by simp only [List.cons_append,DataW.weightsEach];exact List.mem_append_right _ (List.mem_append_left _ p)))) H;obtain⟨w,rfl,e1,_,c1⟩:=open_int underlying3 (c 2 3 F rfl rfl) a1;have c2:=bounds_i64 c1;obtain⟨J,L⟩:=yR (c 3 25 j rfl rfl) a2
 have c0:d prog 4 #[u.val,i,A G w,j] a λh g=>h=e (.bool true)/\X a a g:=zX a b0 u i j v w J P b2 L
 refine c0.mono λh g ⟨a9,z⟩=>?_
 subst a9
 exact⟨_,rfl,_,_,_,[],_,[],a8,trodAll_mk1 (shut_bool underlying4 true),pL laidOut z (λr o=>by rw [params4] at o;simp only [List.mem_cons,List.mem_nil_iff,or_false,List.not_mem_nil] at o;rcases o with rfl|rfl|rfl|rfl<;>first|exact Wu|exact Wv|exact Ww|exact mF) a5 (λs p=>b1 s (List.mem_append_left _ p)),rfl,z.frame _,λT=>by cases T⟩
theorem reads(os:Os){H:Type}(enc:TypeId×Value->H):∃places,DataW.whole enc prog ((sd os).forCall (λ_ _=>0) ⟨#[],#[.agg #[.int .i64 0,.int .i64 0,.int .i64 0,.int .i64 0,.int .i64 0,.int .i64 0,.int .i64 0,.int .i64 0],.slice none 0 0,.int .i64 0,.slice none 0 0],[]⟩).memory f4.params.toList Rows.topFailsSpec.vars false #[Value.agg #[.int .i64 0,.int .i64 0,.int .i64 0,.int .i64 0,.int .i64 0,.int .i64 0,.int .i64 0,.int .i64 0],Value.slice none 0 0,Value.int .i64 0,Value.slice none 0 0].toList 8=some ([.agg [.lit (.int .i64 0),.lit (.int .i64 0),.lit (.int .i64 0),.lit (.int .i64 0),.lit (.int .i64 0),.lit (.int .i64 0),.lit (.int .i64 0),.lit (.int .i64 0)],.nil,.lit (.int .i64 0),.nil],[],places):=
 ⟨[],by kernel_rfl⟩
theorem lifted(os:Os)(started:os.Started)(H:Type)(enc:TypeId×Value->H)(F:Stop.Interp):
  ReturnsInHanded {} Tryz.checked os 4 .any ((OpenSpec.ofChange Rows.topFailsSpec).preRow enc prog f4 Rows.topFailsRow.domain false Rows.topFailsRow.laid) (((OpenSpec.ofChange Rows.topFailsSpec).at F).post enc prog f4 false true false false):=by
 obtain⟨places,hx⟩:=reads os enc
 refine returnsInHanded_of_row (C:=Tryz.checked) (s:=OpenSpec.ofChange Rows.topFailsSpec) own started (by kernel_rfl) func4
  (witness_row_at (enc:=enc) (C:=Tryz.checked) false (sd os) #[.agg #[.int .i64 0,.int .i64 0,.int .i64 0,.int .i64 0,.int .i64 0,.int .i64 0,.int .i64 0,.int .i64 0],.slice none 0 0,.int .i64 0,.slice none 0 0] rfl (by kernel_rfl) (by kernel_rfl) (by kernel_rfl)
   (OpenSpec.preRow_of_cond 8 hx (by kernel_rfl) (λk hk=>by cases hk) (by kernel_rfl) (xf os _))) ?_
 intro W base args ds gs before hval hW _ _ hR hL _ _;exact MZ H enc W base args ds gs before hval hW hL _ hR
theorem said:Rows.TopFailsSaid:=
 OpenClaim.holds_of_cond 4 f4 rfl rfl rfl rfl rfl rfl rfl ⟨rfl,rfl,rfl,rfl,rfl⟩ rfl rfl rfl rfl rfl B func4 Qn
  (of_decide_eq_true B) (by unfold Func.isWrapper;rw [if_neg (of_decide_eq_false B)];exact⟨rfl,rfl⟩)
  (λc f a b _ F=>by rw [OpenClaim.pre_eq_preRow];exact lifted c f a b F)
theorem plain(a:FuncId)(fn:Func)(g:Tryz.pinned.checked.prog.funcNamed "kinescope/kintop.TopFails"=K a)(h:Tryz.pinned.checked.prog.funcs[a]? =K fn):
  true=Tryz.pinned.checked.prog.looks []/\∀(f:Nat) c,fn.params[f]? =K c->Tryz.pinned.checked.prog.wantsStandIn c=false:=by
 obtain rfl:a=4:=YG ((B:prog.funcNamed "kinescope/kintop.TopFails"=K 4).symm.trans g)|>.symm;obtain rfl:fn=f4:=(YG (func4.symm.trans h)).symm;refine⟨B,λf c i=>?_⟩;have b:=Array.mem_of_getElem? i;rw [params4] at b;simp only [List.mem_toArray,List.mem_cons,List.mem_nil_iff,or_false,List.not_mem_nil] at b
 rcases b with rfl|rfl|rfl|rfl
 .exact(B:prog.wantsStandIn 23=false)
 .exact(B:prog.wantsStandIn 24=false)
 .exact(B:prog.wantsStandIn 3=false)
 .exact(B:prog.wantsStandIn 25=false)
theorem card:Rows.TopFailsCardSaid:=
 Claim7.holds_tied_plain_at .later [] _ _ _ _ said (λ_ a=>by cases a) B (λ_ a=>by cases a) topFails_row_tie rfl ⟨rfl,rfl⟩ B rfl plain B
#print axioms card
end Go.Proofs.YtajkpgaheechmaaGreatDoor.lawTopFails
