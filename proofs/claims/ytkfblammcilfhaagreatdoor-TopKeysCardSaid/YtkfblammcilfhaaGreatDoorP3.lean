import Derived.Laws.StructEq
import Derived.Shelf.Small.Bits
import Derived.Shelf.Small.Wraps
import Derived.Shelf.Strconv.Itoa0
import Derived.Shelf.Strconv.Itoa1
import Derived.Shelf.LaysM
import Derived.Shelf.Strconv.Itoa2
import Derived.Shelf.Strconv.Itoa3
import Derived.Test.YtkfblammcilfhaaGreatDoorRows
import Derived.SevenTiedAt
import Derived.Test.YtkfblammcilfhaaGreatDoorP0
set_option linter.all false
set_option maxRecDepth 100000
set_option maxHeartbeats 100000000
open Go.ChangeShapes Go.WideShapes Go.ChangeAt Go.RowKit Go.Proofs.Tryz
open Go.Op renaming equalIn->pC
open Go.Value renaming int->J,agg->cg
open Go.Result renaming andThen_ok->kR
open Go.Proofs.Tryz renaming prog->af,f5->iO
open Go.IntKind renaming i64->V
open Go.Ending renaming returned->av
open Option renaming none->I,some->Z
namespace Go.Proofs.YtkfblammcilfhaaGreatDoor
def IF{P:Program}(w:World)(d:Nat)(t e:TypeId)(n:Nat)(ht:P.underlying t=Z (.array n e))(he:P.underlying e=Z (.int V))(a:∀w,(sizeOf e).run P w=.ok 1 w)(xs:List Int)(m:xs.length=n) :
  (pC (d+2) t (cg (xs.map (J V)).toArray) (cg (xs.map (J V)).toArray)).run P w=.ok true w:=by
 rw[pC];simp only[Sem.run_bind,run_underlying ht,kR,a,Std.Legacy.Range.forIn_eq_forIn_range',Std.Legacy.Range.size,Nat.sub_zero,Nat.add_sub_cancel,Nat.div_one];have b:∀i∈List.range' 0 n 1,i<n:=λi c=>by simpa using(List.mem_range'_1.1 c).2
 generalize List.range' 0 n 1=l at b ⊢;induction l with
 |nil=>simp
 |cons i l f =>
  have c:i<n:=b i dt;have g:(part e (xs.map (J V)).toArray (i*1)).run P w=.ok (J V (xs.getD i 0)) w:=by
   simp[part,isAgg,run_underlying he,List.getD,List.getElem?_eq_getElem (z:i<xs.length)]
  have h:(pC (d+1) e (J V (xs.getD i 0)) (J V (xs.getD i 0))).run P w=.ok true w:=by
   rw[run_equalIn_int w d e V V _ _ he];simp
  simp only[List.forIn_cons,Sem.run_bind,g,h,kR];simp only[Bool.not_true,Bool.false_eq_true,if_false,Sem.run_pure,kR];exact f λj k=>b j (by simp[k])
def OC(w:World):(sizeOf 3).run af w=.ok 1 w:=by
 have h:(af.info? 3).map (·.size)=Z 1:=cC;cases a:af.info? 3 with
 |none=>simp[a]at h
 |some i =>
  have:i.size=1:=by simpa[a]using h
  simp[sizeOf,typeInfo,a,this]
def QD(a b c:Int)(w:World):(pC 10000 69 (cg #[J V a,J V b,J V c]) (cg #[J V a,J V b,J V c])).run af w=.ok true w:=
 IF w 9998 69 3 3 underlying69 underlying3 OC [a,b,c] rfl
def QE(l:List Int)(a:l.length=9)(w:World):(pC 10000 46 (cg (l.map (J V)).toArray) (cg (l.map (J V)).toArray)).run af w=.ok true w:=
 IF w 9998 46 3 9 underlying46 underlying3 OC l a
end Go.Proofs.YtkfblammcilfhaaGreatDoor
open Go.Proofs.YtkfblammcilfhaaGreatDoor
namespace Go.Proofs
open Go.Shelf
def Tryz.CK:Go.Shelf.Ren:=⟨fun | 171=>136 | 243=>200 | 246=>251 | 283=>284 | 284=>285 | 285=>286 | 286=>287 | 129=>270 | 317=>309 | 318=>310 | 319=>311 | 320=>312 | 337=>329 | 338=>330 | n=>n,fun | 3=>3 | 9=>9 | 2=>2 | 4=>4 | 171=>446 | 0=>0 | 53=>197 | 37=>38 | 5=>5 | 173=>448 | 212=>475 | 51=>41 | 20=>20 | 213=>476 | 46=>370 | 232=>494 | 233=>495 | n=>n,fun | 17=>3 | 18=>4 | 19=>5 | n=>n⟩
def Tryz.LW:Go.Proofs.LaysM.n171 af Tryz.CK:={
 mixed:=cC
 f129:=func270.trans (congrArg Z cC)
 f171:=func136.trans (congrArg Z cC)
 f243:=func200.trans (congrArg Z cC)
 f246:=func251.trans (congrArg Z cC)
 f283:=func284.trans (congrArg Z cC)
 f284:=func285.trans (congrArg Z cC)
 f285:=func286.trans (congrArg Z cC)
 f286:=func287.trans (congrArg Z cC)
 f317:=func309.trans (congrArg Z cC)
 f318:=func310.trans (congrArg Z cC)
 f319:=func311.trans (congrArg Z cC)
 f320:=func312.trans (congrArg Z cC)
 f337:=func329.trans (congrArg Z cC)
 f338:=func330.trans (congrArg Z cC)
 t0:=underlying0
 a0:=Tryz.isAgg0
 z0:=Tryz.sizeOf0
 v0:=Tryz.zeroValue0
 t2:=underlying2
 a2:=Tryz.isAgg2
 z2:=Tryz.sizeOf2
 v2:=Tryz.zeroValue2
 t3:=underlying3
 a3:=Tryz.isAgg3
 z3:=Tryz.sizeOf3
 v3:=Tryz.zeroValue3
 t4:=underlying4
 a4:=Tryz.isAgg4
 z4:=Tryz.sizeOf4
 v4:=Tryz.zeroValue4
 t5:=underlying5
 a5:=Tryz.isAgg5
 z5:=Tryz.sizeOf5
 v5:=Tryz.zeroValue5
 t9:=underlying9
 a9:=Tryz.isAgg9
 z9:=Tryz.sizeOf9
 v9:=Tryz.zeroValue9
 t20:=underlying20
 a20:=Tryz.isAgg20
 z20:=Tryz.sizeOf20
 v20:=Tryz.zeroValue20
 t37:=underlying38
 a37:=Tryz.isAgg38
 z37:=Tryz.sizeOf38
 v37:=Tryz.zeroValue38
 t46:=underlying370
 a46:=Tryz.isAgg370
 z46:=Tryz.sizeOf370
 v46:=Tryz.zeroValue370
 t51:=underlying41
 a51:=Tryz.isAgg41
 z51:=Tryz.sizeOf41
 v51:=Tryz.zeroValue41
 t53:=underlying197
 a53:=Tryz.isAgg197
 z53:=Tryz.sizeOf197
 v53:=Tryz.zeroValue197
 t171:=underlying446
 a171:=Tryz.isAgg446
 z171:=Tryz.sizeOf446
 v171:=Tryz.zeroValue446
 t173:=underlying448
 a173:=Tryz.isAgg448
 z173:=Tryz.sizeOf448
 v173:=Tryz.zeroValue448
 t212:=underlying475
 a212:=Tryz.isAgg475
 z212:=Tryz.sizeOf475
 v212:=Tryz.zeroValue475
 t213:=underlying476
 a213:=Tryz.isAgg476
 z213:=Tryz.sizeOf476
 t232:=underlying494
 a232:=Tryz.isAgg494
 z232:=Tryz.sizeOf494
 v232:=Tryz.zeroValue494
 t233:=underlying495
 a233:=Tryz.isAgg495
 z233:=Tryz.sizeOf495
 v233:=Tryz.zeroValue495
 g17:=cC
 g18:=cC
 g19:=cC
 i0:=cC
 i2:=cC
 i3:=cC
 i4:=cC
 i5:=cC
 i9:=cC
 i20:=cC
 i37:=cC
 i46:=cC
 i51:=cC
 i53:=cC
 i171:=cC
 i173:=cC
 i212:=cC
 i232:=cC
 i233:=cC
 m17:=cC
 m18:=cC
 m19:=by kernel_rfl }
open Go.RowKit Go.Sort Go.Lib in
theorem Tryz.strconv_Itoa (n:Int) (h0:-9223372036854775808<=n) (h1:n<=9223372036854775807) (w:World) (a:Lib.TabIs af w "internal/strconv.uint64pow10" .u64 Lib.pow10Tab) :
  Calls af 136 #[J V n] w λe w'=>e=av (.string ⟨(Lib.itoa n).toArray⟩)/\∃k os,w'=grow (w.drewN k) os:=Any.strconv_Itoa Tryz.LW n h0 h1 w a
end Go.Proofs
namespace Go.Proofs.YtkfblammcilfhaaGreatDoor
end Go.Proofs.YtkfblammcilfhaaGreatDoor
open Go.Proofs.YtkfblammcilfhaaGreatDoor
namespace Go.Proofs.YtkfblammcilfhaaGreatDoor.topAlone
open Go.Proofs.YtkfblammcilfhaaGreatDoor
def j0:Rows.topAloneRow.wf (OpenSpec.ofChange Rows.topAloneSpec)=true:=cC
def j1:laidOutB af=true:=cC
def j2:mapsRowed af=true:=cC
def j3:iO.params.all (af.readableRec ·)=true:=cC
def j4:namedTie af Rows.topAloneRow.named Rows.topAloneSpec.vars=true:=cC
def j5:(Rows.topAloneRow.stops==[])=true:=cC
def j6:(af.stops==[])=true:=cC
def j7:(Rows.topAloneRow.knobs==[])=true:=cC
def j8:(af.stopKnobs==[])=true:=cC
def j9:(Rows.topAloneRow.inPlace==af.inPlace 5)=true:=cC
def QQ:(Rows.topAloneRow.unfollowed==af.unfollowed 5)=true:=cC
def QP:(Rows.topAloneRow.recurses==af.recurses 5)=true:=cC
def QO:(Rows.topAloneRow.named==af.varsNamed 5)=true:=cC
def PB:(Rows.topAloneRow.maps==(iO.params.toList++Rows.topAloneSpec.plain.varTypes af).any (af.mapsRec ·))=true:=cC
def RL:(Rows.topAloneRow.ifaces==(iO.params.toList++Rows.topAloneSpec.plain.varTypes af).any (af.ifacesRec ·))=true:=cC
def RJ:(Rows.topAloneRow.mapsOut==af.mapsAmong iO.resultTypes.toList)=true:=cC
def QM:(Rows.topAloneRow.loops==(iO.params.toList++Rows.topAloneSpec.plain.varTypes af).any (af.loopsFrom ·))=true:=cC
def RI:(Rows.topAloneRow.wideKeys==(iO.params.toList++Rows.topAloneSpec.plain.varTypes af++iO.resultTypes.toList).any (af.wideKeysFrom ·))=true:=cC
def RH:Rows.topAloneSpec.vars.all (af.varReadable ·)=true:=cC
def RG:iO.resultTypes.all (λt=>af.readableRec t&&decide (t<af.types.size))=true:=cC
def RF:(Rows.topAloneRow.ifacesOut==iO.resultTypes.toList.any (af.ifacesRec ·))=true:=cC
def RE:(Rows.topAloneRow.loopsOut==iO.resultTypes.toList.any (af.loopsFrom ·))=true:=cC
def RD:(Rows.topAloneRow.plainKeys==af.plainKeys)=true:=cC
def RC:Rows.topAloneRow.shortTexts.isNone=true:=cC
def RA:af.stopsHeard=true:=cC
def Rz:af.mayEnter=true:=cC
def Ry:(Rows.topAloneRow.lifted==af.liftsFinal)=true:=cC
def Rx:(af.make==Z Rows.topAloneRow.make)=true:=cC
def Rw:(Rows.topAloneRow.kinds==(if Rows.topAloneRow.domain.isEmpty then[] else iO.params.toList.map λt=>match af.underlying t with | some (.int k)=>Z k | _=>I))=true:=cC
def Rv:(Rows.topAloneRow.pinned==Rows.topAloneRow.pinnedBy)=true:=cC
def Ru:(Rows.topAloneRow.veiled==(iO.params.toList++Rows.topAloneSpec.plain.varTypes af++iO.resultTypes.toList).any (af.veiledRec ·))=true:=cC
def Rs:Rows.topAloneRow.veiledFits af iO.params.toList (iO.params.toList++Rows.topAloneSpec.plain.varTypes af++iO.resultTypes.toList)=true:=cC
def MA:Tryz.pinned.checked.prog.funcNamed Rows.topAloneRow.func=Z 5:=cC
def GD:iO.isInstance Tryz.pinned.checked.prog Rows.topAloneRow.origin Rows.topAloneRow.targs:=of_decide_eq_true cC
def GC:iO.isWrapper Tryz.pinned.checked.prog Rows.topAloneRow.wrapper Rows.topAloneRow.mainSum:=by unfold Func.isWrapper;first|(rw[if_pos (by decide +kernel)];kernel_rfl)|(rw[if_neg (by decide +kernel)];exact⟨rfl,rfl⟩)
def RO:Rows.topAloneRow.wfByText (OpenSpec.ofChange Rows.topAloneSpec)=true:=cC
def RQ:Tryz.pinned.checked.prog.mainIs=Z (true, "fe3bf948f87408109fc988edfa475a9853c94568239a86a91671cb0854e8905a".toList):=cC
def Rr:true=Tryz.pinned.checked.prog.looks []:=cC
def RR:false=Rows.topAloneRow.goesBy Tryz.pinned.checked.prog:=cC
def iS{a b:Bool}(h:a=true)(k:b=true):(a&&b)=true:=by rw[h,k];rfl
def facts:joinedFacts af 5 iO Rows.topAloneSpec Rows.topAloneRow=true:=iS (iS (iS (iS (iS (iS (iS (iS (iS (iS (iS (iS (iS (iS (iS (iS (iS (iS (iS (iS (iS (iS (iS (iS (iS (iS (iS (iS (iS (iS (iS j0 j1) j2) j3) j4) j5) j6) j7) j8) j9) QQ) QP) QO) PB) RL) RJ) QM) RI) RH) RG) RF) RE) RD) RC) RA) Rz) Ry) Rx) Rw) Rv) Ru) Rs
end Go.Proofs.YtkfblammcilfhaaGreatDoor.topAlone
namespace Go.Proofs.YtkfblammcilfhaaGreatDoor
end Go.Proofs.YtkfblammcilfhaaGreatDoor
