/- RefO -/
import Derived.Test.YtajkpgaheechmaaGreatDoorZBG
import Derived.Test.YtajkpgaheechmaaGreatDoorZBH
set_option maxRecDepth 100000
set_option maxHeartbeats 16000000
set_option linter.unusedSimpArgs false
set_option linter.unusedVariables false
set_option linter.unusedSectionVars false
namespace Go.Proofs.YtajkpgaheechmaaGreatDoor
open _root_.Go.Proofs.Tryz
open Go.Value renaming slice->U
open Go renaming World->V,Value->Z,Calls->d
open Go.Value.slice renaming injEq->Yy
open Go.RowKit
theorem Bq(b:Z)(a:Bs)(c:V)(g:ah c b a)(l:a.length<=20000):d prog 65 #[b] c (Jh c):=by
 by_cases f:a.length<5
 .exact xd b a c g f
 by_cases h:av a 0≠75∨av a 1≠83
 .exact zp b a c g f h
 by_cases i:dU (av a 2)=false∨dU (av a 3)=false∨av a 4<1∨16<av a 4
 .exact xc b a c g f h i
 .by_cases m:∀j cap,b=U j a.length cap->cap=5
  .exact Br b a c g l m f h i
  .refine Bt b a c g l (λj cap n q=>m λo p k=>?_) f h i
   rw [n] at k;simp only [Yy] at k;omega
end Go.Proofs.YtajkpgaheechmaaGreatDoor
