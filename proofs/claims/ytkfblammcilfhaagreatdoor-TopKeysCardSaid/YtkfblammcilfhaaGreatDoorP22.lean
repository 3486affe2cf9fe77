import Derived.Test.YtkfblammcilfhaaGreatDoorRows
import Derived.SevenTiedAt
import Derived.Test.YtkfblammcilfhaaGreatDoorP0
set_option linter.all false
set_option maxRecDepth 100000
set_option maxHeartbeats 100000000
open Go.ChangeShapes Go.WideShapes Go.ChangeAt Go.RowKit Go.Proofs.Tryz
open Go.Proofs.Tryz renaming prog->af
open Option renaming none->I,some->Z
namespace Go.Proofs.YtkfblammcilfhaaGreatDoor
end Go.Proofs.YtkfblammcilfhaaGreatDoor
open Go.Proofs.YtkfblammcilfhaaGreatDoor
namespace Go.Proofs.YtkfblammcilfhaaGreatDoor.topKeys
open Go.Proofs.YtkfblammcilfhaaGreatDoor
def j0:Rows.topKeysRow.wf (OpenSpec.ofChange Rows.topKeysSpec)=true:=cC
def j1:laidOutB af=true:=cC
def j2:mapsRowed af=true:=cC
def j3:Tryz.f6.params.all (af.readableRec ·)=true:=cC
def j4:namedTie af Rows.topKeysRow.named Rows.topKeysSpec.vars=true:=cC
def j5:(Rows.topKeysRow.stops==[])=true:=cC
def j6:(af.stops==[])=true:=cC
def j7:(Rows.topKeysRow.knobs==[])=true:=cC
def j8:(af.stopKnobs==[])=true:=cC
def j9:(Rows.topKeysRow.inPlace==af.inPlace 6)=true:=cC
def QQ:(Rows.topKeysRow.unfollowed==af.unfollowed 6)=true:=cC
def QP:(Rows.topKeysRow.recurses==af.recurses 6)=true:=cC
def QO:(Rows.topKeysRow.named==af.varsNamed 6)=true:=cC
def PB:(Rows.topKeysRow.maps==(Tryz.f6.params.toList++Rows.topKeysSpec.plain.varTypes af).any (af.mapsRec ·))=true:=cC
def RL:(Rows.topKeysRow.ifaces==(Tryz.f6.params.toList++Rows.topKeysSpec.plain.varTypes af).any (af.ifacesRec ·))=true:=cC
def RJ:(Rows.topKeysRow.mapsOut==af.mapsAmong Tryz.f6.resultTypes.toList)=true:=cC
def QM:(Rows.topKeysRow.loops==(Tryz.f6.params.toList++Rows.topKeysSpec.plain.varTypes af).any (af.loopsFrom ·))=true:=cC
def RI:(Rows.topKeysRow.wideKeys==(Tryz.f6.params.toList++Rows.topKeysSpec.plain.varTypes af++Tryz.f6.resultTypes.toList).any (af.wideKeysFrom ·))=true:=cC
def RH:Rows.topKeysSpec.vars.all (af.varReadable ·)=true:=cC
def RG:Tryz.f6.resultTypes.all (λt=>af.readableRec t&&decide (t<af.types.size))=true:=cC
def RF:(Rows.topKeysRow.ifacesOut==Tryz.f6.resultTypes.toList.any (af.ifacesRec ·))=true:=cC
def RE:(Rows.topKeysRow.loopsOut==Tryz.f6.resultTypes.toList.any (af.loopsFrom ·))=true:=cC
def RD:(Rows.topKeysRow.plainKeys==af.plainKeys)=true:=cC
def RC:Rows.topKeysRow.shortTexts.isNone=true:=cC
def RA:af.stopsHeard=true:=cC
def Rz:af.mayEnter=true:=cC
def Ry:(Rows.topKeysRow.lifted==af.liftsFinal)=true:=cC
def Rx:(af.make==Z Rows.topKeysRow.make)=true:=cC
def Rw:(Rows.topKeysRow.kinds==(if Rows.topKeysRow.domain.isEmpty then[] else Tryz.f6.params.toList.map λt=>match af.underlying t with | some (.int k)=>Z k | _=>I))=true:=cC
def Rv:(Rows.topKeysRow.pinned==Rows.topKeysRow.pinnedBy)=true:=cC
def Ru:(Rows.topKeysRow.veiled==(Tryz.f6.params.toList++Rows.topKeysSpec.plain.varTypes af++Tryz.f6.resultTypes.toList).any (af.veiledRec ·))=true:=cC
def Rs:Rows.topKeysRow.veiledFits af Tryz.f6.params.toList (Tryz.f6.params.toList++Rows.topKeysSpec.plain.varTypes af++Tryz.f6.resultTypes.toList)=true:=cC
def MA:Tryz.pinned.checked.prog.funcNamed Rows.topKeysRow.func=Z 6:=cC
def GD:Tryz.f6.isInstance Tryz.pinned.checked.prog Rows.topKeysRow.origin Rows.topKeysRow.targs:=of_decide_eq_true cC
def GC:Tryz.f6.isWrapper Tryz.pinned.checked.prog Rows.topKeysRow.wrapper Rows.topKeysRow.mainSum:=by unfold Func.isWrapper;first|(rw[if_pos (by decide +kernel)];kernel_rfl)|(rw[if_neg (by decide +kernel)];exact⟨rfl,rfl⟩)
def RO:Rows.topKeysRow.wfByText (OpenSpec.ofChange Rows.topKeysSpec)=true:=cC
def RQ:Tryz.pinned.checked.prog.mainIs=Z (true, "fe3bf948f87408109fc988edfa475a9853c94568239a86a91671cb0854e8905a".toList):=cC
def Rr:true=Tryz.pinned.checked.prog.looks []:=cC
def RR:false=Rows.topKeysRow.goesBy Tryz.pinned.checked.prog:=cC
def iS{a b:Bool}(h:a=true)(k:b=true):(a&&b)=true:=by rw[h,k];rfl
def facts:joinedFacts af 6 Tryz.f6 Rows.topKeysSpec Rows.topKeysRow=true:=iS (iS (iS (iS (iS (iS (iS (iS (iS (iS (iS (iS (iS (iS (iS (iS (iS (iS (iS (iS (iS (iS (iS (iS (iS (iS (iS (iS (iS (iS (iS j0 j1) j2) j3) j4) j5) j6) j7) j8) j9) QQ) QP) QO) PB) RL) RJ) QM) RI) RH) RG) RF) RE) RD) RC) RA) Rz) Ry) Rx) Rw) Rv) Ru) Rs
end Go.Proofs.YtkfblammcilfhaaGreatDoor.topKeys
namespace Go.Proofs.YtkfblammcilfhaaGreatDoor
end Go.Proofs.YtkfblammcilfhaaGreatDoor
