import Derived.Test.YtkfblammcilfhaaGreatDoorRows
import Derived.SevenTiedAt
import Derived.Test.YtkfblammcilfhaaGreatDoorP0
set_option linter.all false
set_option maxRecDepth 100000
set_option maxHeartbeats 100000000
open Go.ChangeShapes Go.WideShapes Go.ChangeAt Go.RowKit Go.Proofs.Tryz
open Go.Proofs.Tryz renaming prog->af,f3->aa
open Option renaming none->I,some->Z
namespace Go.Proofs.YtkfblammcilfhaaGreatDoor
end Go.Proofs.YtkfblammcilfhaaGreatDoor
open Go.Proofs.YtkfblammcilfhaaGreatDoor
namespace Go.Proofs.YtkfblammcilfhaaGreatDoor.topSeqs
open Go.Proofs.YtkfblammcilfhaaGreatDoor
def j0:Rows.topSeqsRow.wf (OpenSpec.ofChange Rows.topSeqsSpec)=true:=cC
def j1:laidOutB af=true:=cC
def j2:mapsRowed af=true:=cC
def j3:aa.params.all (af.readableRec ·)=true:=cC
def j4:namedTie af Rows.topSeqsRow.named Rows.topSeqsSpec.vars=true:=cC
def j5:(Rows.topSeqsRow.stops==[])=true:=cC
def j6:(af.stops==[])=true:=cC
def j7:(Rows.topSeqsRow.knobs==[])=true:=cC
def j8:(af.stopKnobs==[])=true:=cC
def j9:(Rows.topSeqsRow.inPlace==af.inPlace 3)=true:=cC
def QQ:(Rows.topSeqsRow.unfollowed==af.unfollowed 3)=true:=cC
def QP:(Rows.topSeqsRow.recurses==af.recurses 3)=true:=cC
def QO:(Rows.topSeqsRow.named==af.varsNamed 3)=true:=cC
def PB:(Rows.topSeqsRow.maps==(aa.params.toList++Rows.topSeqsSpec.plain.varTypes af).any (af.mapsRec ·))=true:=cC
def RL:(Rows.topSeqsRow.ifaces==(aa.params.toList++Rows.topSeqsSpec.plain.varTypes af).any (af.ifacesRec ·))=true:=cC
def RJ:(Rows.topSeqsRow.mapsOut==af.mapsAmong aa.resultTypes.toList)=true:=cC
def QM:(Rows.topSeqsRow.loops==(aa.params.toList++Rows.topSeqsSpec.plain.varTypes af).any (af.loopsFrom ·))=true:=cC
def RI:(Rows.topSeqsRow.wideKeys==(aa.params.toList++Rows.topSeqsSpec.plain.varTypes af++aa.resultTypes.toList).any (af.wideKeysFrom ·))=true:=cC
def RH:Rows.topSeqsSpec.vars.all (af.varReadable ·)=true:=cC
def RG:aa.resultTypes.all (λt=>af.readableRec t&&decide (t<af.types.size))=true:=cC
def RF:(Rows.topSeqsRow.ifacesOut==aa.resultTypes.toList.any (af.ifacesRec ·))=true:=cC
def RE:(Rows.topSeqsRow.loopsOut==aa.resultTypes.toList.any (af.loopsFrom ·))=true:=cC
def RD:(Rows.topSeqsRow.plainKeys==af.plainKeys)=true:=cC
def RC:Rows.topSeqsRow.shortTexts.isNone=true:=cC
def RA:af.stopsHeard=true:=cC
def Rz:af.mayEnter=true:=cC
def Ry:(Rows.topSeqsRow.lifted==af.liftsFinal)=true:=cC
def Rx:(af.make==Z Rows.topSeqsRow.make)=true:=cC
def Rw:(Rows.topSeqsRow.kinds==(if Rows.topSeqsRow.domain.isEmpty then[] else aa.params.toList.map λt=>match af.underlying t with | some (.int k)=>Z k | _=>I))=true:=cC
def Rv:(Rows.topSeqsRow.pinned==Rows.topSeqsRow.pinnedBy)=true:=cC
def Ru:(Rows.topSeqsRow.veiled==(aa.params.toList++Rows.topSeqsSpec.plain.varTypes af++aa.resultTypes.toList).any (af.veiledRec ·))=true:=cC
def Rs:Rows.topSeqsRow.veiledFits af aa.params.toList (aa.params.toList++Rows.topSeqsSpec.plain.varTypes af++aa.resultTypes.toList)=true:=cC
def MA:Tryz.pinned.checked.prog.funcNamed Rows.topSeqsRow.func=Z 3:=cC
def GD:aa.isInstance Tryz.pinned.checked.prog Rows.topSeqsRow.origin Rows.topSeqsRow.targs:=of_decide_eq_true cC
def GC:aa.isWrapper Tryz.pinned.checked.prog Rows.topSeqsRow.wrapper Rows.topSeqsRow.mainSum:=by unfold Func.isWrapper;first|(rw[if_pos (by decide +kernel)];kernel_rfl)|(rw[if_neg (by decide +kernel)];exact⟨rfl,rfl⟩)
def RO:Rows.topSeqsRow.wfByText (OpenSpec.ofChange Rows.topSeqsSpec)=true:=cC
def RQ:Tryz.pinned.checked.prog.mainIs=Z (true, "fe3bf948f87408109fc988edfa475a9853c94568239a86a91671cb0854e8905a".toList):=cC
def Rr:true=Tryz.pinned.checked.prog.looks []:=cC
def RR:false=Rows.topSeqsRow.goesBy Tryz.pinned.checked.prog:=cC
def iS{a b:Bool}(h:a=true)(k:b=true):(a&&b)=true:=by rw[h,k];rfl
def facts:joinedFacts af 3 aa Rows.topSeqsSpec Rows.topSeqsRow=true:=iS (iS (iS (iS (iS (iS (iS (iS (iS (iS (iS (iS (iS (iS (iS (iS (iS (iS (iS (iS (iS (iS (iS (iS (iS (iS (iS (iS (iS (iS (iS j0 j1) j2) j3) j4) j5) j6) j7) j8) j9) QQ) QP) QO) PB) RL) RJ) QM) RI) RH) RG) RF) RE) RD) RC) RA) Rz) Ry) Rx) Rw) Rv) Ru) Rs
end Go.Proofs.YtkfblammcilfhaaGreatDoor.topSeqs
namespace Go.Proofs.YtkfblammcilfhaaGreatDoor
end Go.Proofs.YtkfblammcilfhaaGreatDoor
