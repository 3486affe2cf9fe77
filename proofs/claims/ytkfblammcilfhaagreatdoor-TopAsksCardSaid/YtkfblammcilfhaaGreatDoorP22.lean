import Derived.Test.YtkfblammcilfhaaGreatDoorRows
import Derived.SevenTiedAt
import Derived.Test.YtkfblammcilfhaaGreatDoorP0
set_option linter.all false
set_option maxRecDepth 100000
set_option maxHeartbeats 100000000
open Go.ChangeShapes Go.WideShapes Go.ChangeAt Go.RowKit Go.Proofs.Tryz
open Go.Proofs.Tryz renaming prog->af,f4->ab
open Option renaming none->I,some->Z
namespace Go.Proofs.YtkfblammcilfhaaGreatDoor
end Go.Proofs.YtkfblammcilfhaaGreatDoor
open Go.Proofs.YtkfblammcilfhaaGreatDoor
namespace Go.Proofs.YtkfblammcilfhaaGreatDoor.topAsks
open Go.Proofs.YtkfblammcilfhaaGreatDoor
def j0:Rows.topAsksRow.wf (OpenSpec.ofChange Rows.topAsksSpec)=true:=cC
def j1:laidOutB af=true:=cC
def j2:mapsRowed af=true:=cC
def j3:ab.params.all (af.readableRec ·)=true:=cC
def j4:namedTie af Rows.topAsksRow.named Rows.topAsksSpec.vars=true:=cC
def j5:(Rows.topAsksRow.stops==[])=true:=cC
def j6:(af.stops==[])=true:=cC
def j7:(Rows.topAsksRow.knobs==[])=true:=cC
def j8:(af.stopKnobs==[])=true:=cC
def j9:(Rows.topAsksRow.inPlace==af.inPlace 4)=true:=cC
def QQ:(Rows.topAsksRow.unfollowed==af.unfollowed 4)=true:=cC
def QP:(Rows.topAsksRow.recurses==af.recurses 4)=true:=cC
def QO:(Rows.topAsksRow.named==af.varsNamed 4)=true:=cC
def PB:(Rows.topAsksRow.maps==(ab.params.toList++Rows.topAsksSpec.plain.varTypes af).any (af.mapsRec ·))=true:=cC
def RL:(Rows.topAsksRow.ifaces==(ab.params.toList++Rows.topAsksSpec.plain.varTypes af).any (af.ifacesRec ·))=true:=cC
def RJ:(Rows.topAsksRow.mapsOut==af.mapsAmong ab.resultTypes.toList)=true:=cC
def QM:(Rows.topAsksRow.loops==(ab.params.toList++Rows.topAsksSpec.plain.varTypes af).any (af.loopsFrom ·))=true:=cC
def RI:(Rows.topAsksRow.wideKeys==(ab.params.toList++Rows.topAsksSpec.plain.varTypes af++ab.resultTypes.toList).any (af.wideKeysFrom ·))=true:=cC
def RH:Rows.topAsksSpec.vars.all (af.varReadable ·)=true:=cC
def RG:ab.resultTypes.all (λt=>af.readableRec t&&decide (t<af.types.size))=true:=cC
def RF:(Rows.topAsksRow.ifacesOut==ab.resultTypes.toList.any (af.ifacesRec ·))=true:=cC
def RE:(Rows.topAsksRow.loopsOut==ab.resultTypes.toList.any (af.loopsFrom ·))=true:=cC
def RD:(Rows.topAsksRow.plainKeys==af.plainKeys)=true:=cC
def RC:Rows.topAsksRow.shortTexts.isNone=true:=cC
def RA:af.stopsHeard=true:=cC
def Rz:af.mayEnter=true:=cC
def Ry:(Rows.topAsksRow.lifted==af.liftsFinal)=true:=cC
def Rx:(af.make==Z Rows.topAsksRow.make)=true:=cC
def Rw:(Rows.topAsksRow.kinds==(if Rows.topAsksRow.domain.isEmpty then[] else ab.params.toList.map λt=>match af.underlying t with | some (.int k)=>Z k | _=>I))=true:=cC
def Rv:(Rows.topAsksRow.pinned==Rows.topAsksRow.pinnedBy)=true:=cC
def Ru:(Rows.topAsksRow.veiled==(ab.params.toList++Rows.topAsksSpec.plain.varTypes af++ab.resultTypes.toList).any (af.veiledRec ·))=true:=cC
def Rs:Rows.topAsksRow.veiledFits af ab.params.toList (ab.params.toList++Rows.topAsksSpec.plain.varTypes af++ab.resultTypes.toList)=true:=cC
def MA:Tryz.pinned.checked.prog.funcNamed Rows.topAsksRow.func=Z 4:=cC
def GD:ab.isInstance Tryz.pinned.checked.prog Rows.topAsksRow.origin Rows.topAsksRow.targs:=of_decide_eq_true cC
def GC:ab.isWrapper Tryz.pinned.checked.prog Rows.topAsksRow.wrapper Rows.topAsksRow.mainSum:=by unfold Func.isWrapper;first|(rw[if_pos (by decide +kernel)];kernel_rfl)|(rw[if_neg (by decide +kernel)];exact⟨rfl,rfl⟩)
def RO:Rows.topAsksRow.wfByText (OpenSpec.ofChange Rows.topAsksSpec)=true:=cC
def RQ:Tryz.pinned.checked.prog.mainIs=Z (true, "fe3bf948f87408109fc988edfa475a9853c94568239a86a91671cb0854e8905a".toList):=cC
def Rr:true=Tryz.pinned.checked.prog.looks []:=cC
def RR:false=Rows.topAsksRow.goesBy Tryz.pinned.checked.prog:=cC
def iS{a b:Bool}(h:a=true)(k:b=true):(a&&b)=true:=by rw[h,k];rfl
def facts:joinedFacts af 4 ab Rows.topAsksSpec Rows.topAsksRow=true:=iS (iS (iS (iS (iS (iS (iS (iS (iS (iS (iS (iS (iS (iS (iS (iS (iS (iS (iS (iS (iS (iS (iS (iS (iS (iS (iS (iS (iS (iS (iS j0 j1) j2) j3) j4) j5) j6) j7) j8) j9) QQ) QP) QO) PB) RL) RJ) QM) RI) RH) RG) RF) RE) RD) RC) RA) Rz) Ry) Rx) Rw) Rv) Ru) Rs
end Go.Proofs.YtkfblammcilfhaaGreatDoor.topAsks
namespace Go.Proofs.YtkfblammcilfhaaGreatDoor
end Go.Proofs.YtkfblammcilfhaaGreatDoor
