/- TopFacts -/
import Derived.Test.YtajkpgaheechmaaGreatDoorZAA
import Derived.Test.YtajkpgaheechmaaGreatDoorTie
set_option maxRecDepth 100000
set_option maxHeartbeats 16000000
set_option linter.unusedSimpArgs false
set_option linter.unusedVariables false
set_option linter.unusedSectionVars false
namespace Go.Proofs.YtajkpgaheechmaaGreatDoor
open _root_.Go.Proofs.Tryz
open Option renaming none->I,some->K
open Go.ChangeShapes Go.WideShapes Go.ChangeAt Go.RowKit
theorem ix{a b:Bool}(c:a=true)(f:b=true):(a&&b)=true:=by rw [c,f];rfl
theorem KG{P:Program}{c:FuncId}{fn:Func}{b:ChangeSpec}{a:OpenClaim}(g:(a.wf (OpenSpec.ofChange b))=true)(r:(laidOutB P)=true)(F:(mapsRowed P)=true)(T:(fn.params.all (P.readableRec ·))=true)(W:(namedTie P a.named b.vars)=true)(a0:((a.stops==[]))=true)(a1:((P.stops==[]))=true)(a2:((a.knobs==[]))=true)(a3:((P.stopKnobs==[]))=true)(h:((a.inPlace==P.inPlace c))=true)(i:((a.unfollowed==P.unfollowed c))=true)(j:((a.recurses==P.recurses c))=true)(k:((a.named==P.varsNamed c))=true)(l:((a.maps==(fn.params.toList++b.plain.varTypes P).any (P.mapsRec ·)))=true)(m:((a.ifaces==(fn.params.toList++b.plain.varTypes P).any (P.ifacesRec ·)))=true)(n:((a.mapsOut==P.mapsAmong fn.resultTypes.toList))=true)(o:((a.loops==(fn.params.toList++b.plain.varTypes P).any (P.loopsFrom ·)))=true)(p:((a.wideKeys==(fn.params.toList++b.plain.varTypes P++fn.resultTypes.toList).any (P.wideKeysFrom ·)))=true)(q:(b.vars.all (P.varReadable ·))=true)(s:(fn.resultTypes.all (λf=>P.readableRec f&&decide (f<P.types.size)))=true)(t:((a.ifacesOut==fn.resultTypes.toList.any (P.ifacesRec ·)))=true)(u:((a.loopsOut==fn.resultTypes.toList.any (P.loopsFrom ·)))=true)(v:((a.plainKeys==P.plainKeys))=true)(w:(a.shortTexts.isNone)=true)(x:(P.stopsHeard)=true)(y:(P.mayEnter)=true)(z:((a.lifted==P.liftsFinal))=true)(C:((P.make==K a.make))=true)(D:((a.kinds==(if a.domain.isEmpty then [] else fn.params.toList.map λf=>match P.underlying f with|some (.int a5)=>K a5|_=>I)))=true)(J:((a.pinned==a.pinnedBy))=true)(L:((a.veiled==(fn.params.toList++b.plain.varTypes P++fn.resultTypes.toList).any (P.veiledRec ·)))=true)(R:(a.veiledFits P fn.params.toList (fn.params.toList++b.plain.varTypes P++fn.resultTypes.toList))=true):joinedFacts P c fn b a=true:=by
 unfold joinedFacts;exact ix (ix (ix (ix (ix (ix (ix (ix (ix (ix (ix (ix (ix (ix (ix (ix (ix (ix (ix (ix (ix (ix (ix (ix (ix (ix (ix (ix (ix (ix (ix (g) r) F) T) W) a0) a1) a2) a3) h) i) j) k) l) m) n) o) p) q) s) t) u) v) w) x) y) z) C) D) J) L) R
end Go.Proofs.YtajkpgaheechmaaGreatDoor
namespace Go.Proofs.YtajkpgaheechmaaGreatDoor.lawTopFails
open _root_.Go.Proofs.Tryz
open Option renaming none->I,some->K
theorem Mz:(Rows.topFailsRow.wf (OpenSpec.ofChange (OpenSpec.ofChange Rows.topFailsSpec).bare))=true:=B
theorem Wj:(laidOutB Tryz.pinned.checked.prog)=true:=B
theorem Wk:(mapsRowed Tryz.pinned.checked.prog)=true:=B
theorem Wl:(f4.params.all (Tryz.pinned.checked.prog.readableRec ·))=true:=B
theorem Wm:(namedTie Tryz.pinned.checked.prog Rows.topFailsRow.named (OpenSpec.ofChange Rows.topFailsSpec).bare.vars)=true:=B
theorem Wn:((Rows.topFailsRow.stops==[]))=true:=B
theorem Wo:((Tryz.pinned.checked.prog.stops==[]))=true:=B
theorem Wp:((Rows.topFailsRow.knobs==[]))=true:=B
theorem Wr:((Tryz.pinned.checked.prog.stopKnobs==[]))=true:=B
theorem Vp:((Rows.topFailsRow.inPlace==Tryz.pinned.checked.prog.inPlace 4))=true:=B
theorem Vq:((Rows.topFailsRow.unfollowed==Tryz.pinned.checked.prog.unfollowed 4))=true:=B
theorem Vr:((Rows.topFailsRow.recurses==Tryz.pinned.checked.prog.recurses 4))=true:=B
theorem Vs:((Rows.topFailsRow.named==Tryz.pinned.checked.prog.varsNamed 4))=true:=B
theorem Vt:((Rows.topFailsRow.maps==(f4.params.toList++(OpenSpec.ofChange Rows.topFailsSpec).bare.plain.varTypes Tryz.pinned.checked.prog).any (Tryz.pinned.checked.prog.mapsRec ·)))=true:=B
theorem Vu:((Rows.topFailsRow.ifaces==(f4.params.toList++(OpenSpec.ofChange Rows.topFailsSpec).bare.plain.varTypes Tryz.pinned.checked.prog).any (Tryz.pinned.checked.prog.ifacesRec ·)))=true:=B
theorem Vv:((Rows.topFailsRow.mapsOut==Tryz.pinned.checked.prog.mapsAmong f4.resultTypes.toList))=true:=B
theorem Vw:((Rows.topFailsRow.loops==(f4.params.toList++(OpenSpec.ofChange Rows.topFailsSpec).bare.plain.varTypes Tryz.pinned.checked.prog).any (Tryz.pinned.checked.prog.loopsFrom ·)))=true:=B
theorem Vx:((Rows.topFailsRow.wideKeys==(f4.params.toList++(OpenSpec.ofChange Rows.topFailsSpec).bare.plain.varTypes Tryz.pinned.checked.prog++f4.resultTypes.toList).any (Tryz.pinned.checked.prog.wideKeysFrom ·)))=true:=B
theorem Vy:((OpenSpec.ofChange Rows.topFailsSpec).bare.vars.all (Tryz.pinned.checked.prog.varReadable ·))=true:=B
theorem Vz:(f4.resultTypes.all (λa=>Tryz.pinned.checked.prog.readableRec a&&decide (a<Tryz.pinned.checked.prog.types.size)))=true:=B
theorem VA:((Rows.topFailsRow.ifacesOut==f4.resultTypes.toList.any (Tryz.pinned.checked.prog.ifacesRec ·)))=true:=B
theorem VB:((Rows.topFailsRow.loopsOut==f4.resultTypes.toList.any (Tryz.pinned.checked.prog.loopsFrom ·)))=true:=B
theorem VC:((Rows.topFailsRow.plainKeys==Tryz.pinned.checked.prog.plainKeys))=true:=B
theorem VE:(Rows.topFailsRow.shortTexts.isNone)=true:=B
theorem VF:(Tryz.pinned.checked.prog.stopsHeard)=true:=B
theorem VG:(Tryz.pinned.checked.prog.mayEnter)=true:=B
theorem VH:((Rows.topFailsRow.lifted==Tryz.pinned.checked.prog.liftsFinal))=true:=B
theorem VI:((Tryz.pinned.checked.prog.make==K Rows.topFailsRow.make))=true:=B
theorem VJ:((Rows.topFailsRow.kinds==(if Rows.topFailsRow.domain.isEmpty then [] else f4.params.toList.map λb=>match Tryz.pinned.checked.prog.underlying b with|some (.int a)=>K a|_=>I)))=true:=B
theorem VK:((Rows.topFailsRow.pinned==Rows.topFailsRow.pinnedBy))=true:=B
theorem VL:((Rows.topFailsRow.veiled==(f4.params.toList++(OpenSpec.ofChange Rows.topFailsSpec).bare.plain.varTypes Tryz.pinned.checked.prog++f4.resultTypes.toList).any (Tryz.pinned.checked.prog.veiledRec ·)))=true:=B
theorem VM:(Rows.topFailsRow.veiledFits Tryz.pinned.checked.prog f4.params.toList (f4.params.toList++(OpenSpec.ofChange Rows.topFailsSpec).bare.plain.varTypes Tryz.pinned.checked.prog++f4.resultTypes.toList))=true:=B
theorem Qn:joinedFacts Tryz.pinned.checked.prog 4 f4 (OpenSpec.ofChange Rows.topFailsSpec).bare Rows.topFailsRow=true:=KG Mz Wj Wk Wl Wm Wn Wo Wp Wr Vp Vq Vr Vs Vt Vu Vv Vw Vx Vy Vz VA VB VC VE VF VG VH VI VJ VK VL VM
end Go.Proofs.YtajkpgaheechmaaGreatDoor.lawTopFails
