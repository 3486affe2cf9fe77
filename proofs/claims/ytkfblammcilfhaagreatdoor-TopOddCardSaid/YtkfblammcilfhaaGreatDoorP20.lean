/- TopOdd is true at all its arguments, with no condition. -/
import Derived.SevenTiedAt
import Derived.Test.YtkfblammcilfhaaGreatDoorTie
import Derived.Test.YtkfblammcilfhaaGreatDoorCards
import Derived.Test.YtkfblammcilfhaaGreatDoorP19
set_option linter.all false
set_option maxRecDepth 100000
set_option maxHeartbeats 100000000
open Go.ChangeShapes Go.WideShapes Go.ChangeAt Go.RowKit Go.Proofs.Tryz
open Go.OpenSpec renaming ofChange->ia
open Go.Proofs.Tryz renaming prog->af,f7->iN,checked->oM
open Go.DataW renaming trod_lt->mi
open Go.Value renaming cells->gW,int->J,slice->ae,agg->cg
open Go renaming trodAll_cons_mk->kF
open Go.IntKind renaming i64->V
open Option renaming none->I,some->Z
namespace Go.Proofs.YtkfblammcilfhaaGreatDoor
end Go.Proofs.YtkfblammcilfhaaGreatDoor
open Go.Proofs.YtkfblammcilfhaaGreatDoor
namespace Go.Proofs.YtkfblammcilfhaaGreatDoor.topOdd
open Go.Proofs.YtkfblammcilfhaaGreatDoor
def j0:Rows.topOddRow.wf (ia Rows.topOddSpec)=true:=cC
def j1:laidOutB af=true:=cC
def j2:mapsRowed af=true:=cC
def j3:iN.params.all (af.readableRec ·)=true:=cC
def j4:namedTie af Rows.topOddRow.named Rows.topOddSpec.vars=true:=cC
def j5:(Rows.topOddRow.stops==[])=true:=cC
def j6:(af.stops==[])=true:=cC
def j7:(Rows.topOddRow.knobs==[])=true:=cC
def j8:(af.stopKnobs==[])=true:=cC
def j9:(Rows.topOddRow.inPlace==af.inPlace 7)=true:=cC
def QQ:(Rows.topOddRow.unfollowed==af.unfollowed 7)=true:=cC
def QP:(Rows.topOddRow.recurses==af.recurses 7)=true:=cC
def QO:(Rows.topOddRow.named==af.varsNamed 7)=true:=cC
def PB:(Rows.topOddRow.maps==(iN.params.toList++Rows.topOddSpec.plain.varTypes af).any (af.mapsRec ·))=true:=cC
def RL:(Rows.topOddRow.ifaces==(iN.params.toList++Rows.topOddSpec.plain.varTypes af).any (af.ifacesRec ·))=true:=cC
def RJ:(Rows.topOddRow.mapsOut==af.mapsAmong iN.resultTypes.toList)=true:=cC
def QM:(Rows.topOddRow.loops==(iN.params.toList++Rows.topOddSpec.plain.varTypes af).any (af.loopsFrom ·))=true:=cC
def RI:(Rows.topOddRow.wideKeys==(iN.params.toList++Rows.topOddSpec.plain.varTypes af++iN.resultTypes.toList).any (af.wideKeysFrom ·))=true:=cC
def RH:Rows.topOddSpec.vars.all (af.varReadable ·)=true:=cC
def RG:iN.resultTypes.all (λt=>af.readableRec t&&decide (t<af.types.size))=true:=cC
def RF:(Rows.topOddRow.ifacesOut==iN.resultTypes.toList.any (af.ifacesRec ·))=true:=cC
def RE:(Rows.topOddRow.loopsOut==iN.resultTypes.toList.any (af.loopsFrom ·))=true:=cC
def RD:(Rows.topOddRow.plainKeys==af.plainKeys)=true:=cC
def RC:Rows.topOddRow.shortTexts.isNone=true:=cC
def RA:af.stopsHeard=true:=cC
def Rz:af.mayEnter=true:=cC
def Ry:(Rows.topOddRow.lifted==af.liftsFinal)=true:=cC
def Rx:(af.make==Z Rows.topOddRow.make)=true:=cC
def Rw:(Rows.topOddRow.kinds==(if Rows.topOddRow.domain.isEmpty then[] else iN.params.toList.map λt=>match af.underlying t with | some (.int k)=>Z k | _=>I))=true:=cC
def Rv:(Rows.topOddRow.pinned==Rows.topOddRow.pinnedBy)=true:=cC
def Ru:(Rows.topOddRow.veiled==(iN.params.toList++Rows.topOddSpec.plain.varTypes af++iN.resultTypes.toList).any (af.veiledRec ·))=true:=cC
def Rs:Rows.topOddRow.veiledFits af iN.params.toList (iN.params.toList++Rows.topOddSpec.plain.varTypes af++iN.resultTypes.toList)=true:=cC
def MA:Tryz.pinned.checked.prog.funcNamed Rows.topOddRow.func=Z 7:=cC
def GD:iN.isInstance Tryz.pinned.checked.prog Rows.topOddRow.origin Rows.topOddRow.targs:=of_decide_eq_true cC
def GC:iN.isWrapper Tryz.pinned.checked.prog Rows.topOddRow.wrapper Rows.topOddRow.mainSum:=by unfold Func.isWrapper;first|(rw[if_pos (by decide +kernel)];kernel_rfl)|(rw[if_neg (by decide +kernel)];exact⟨rfl,rfl⟩)
def RO:Rows.topOddRow.wfByText (ia Rows.topOddSpec)=true:=cC
def RQ:Tryz.pinned.checked.prog.mainIs=Z (true, "fe3bf948f87408109fc988edfa475a9853c94568239a86a91671cb0854e8905a".toList):=cC
def Rr:true=Tryz.pinned.checked.prog.looks []:=cC
def RR:false=Rows.topOddRow.goesBy Tryz.pinned.checked.prog:=cC
def iS{a b:Bool}(h:a=true)(k:b=true):(a&&b)=true:=by rw[h,k];rfl
def facts:joinedFacts af 7 iN Rows.topOddSpec Rows.topOddRow=true:=iS (iS (iS (iS (iS (iS (iS (iS (iS (iS (iS (iS (iS (iS (iS (iS (iS (iS (iS (iS (iS (iS (iS (iS (iS (iS (iS (iS (iS (iS (iS j0 j1) j2) j3) j4) j5) j6) j7) j8) j9) QQ) QP) QO) PB) RL) RJ) QM) RI) RH) RG) RF) RE) RD) RC) RA) Rz) Ry) Rx) Rw) Rv) Ru) Rs
end Go.Proofs.YtkfblammcilfhaaGreatDoor.topOdd
namespace Go.Proofs.YtkfblammcilfhaaGreatDoor
end Go.Proofs.YtkfblammcilfhaaGreatDoor
open Go.Proofs.YtkfblammcilfhaaGreatDoor
namespace Go.Proofs.YtkfblammcilfhaaGreatDoor.topOdd
open Go.ChangeShapes Go.WideShapes Go.ChangeAt Go.RowKit Go.Proofs.YtkfblammcilfhaaGreatDoor
theorem lifted(os:Os)(started:os.Started)(H:Type)(enc:TypeId×Value->H) :
  ReturnsInHanded {} oM os 7 .any (λw args=>(Rows.topOddSpec.pre enc af iN [] false w args/\laidMetH af wD w)/\sizedMet enc af iN (ia Rows.topOddSpec) false w args)
   (Rows.topOddSpec.post enc af iN false true false false):=by
 refine we (C:=oM) (X:=λw _=>laidMetH af wD w) (λ_ _ _ hh h=>h.of_heap hh) Qr started cC func7
  (ChangeSpec.witness_shaped (enc:=enc) (C:=oM) (os:=os) (X:=λw _=>laidMetH af wD w) false (World.laidAll af os wD) #[cg #[J V 0,J V 0,J V 0,J V 0,J V 0,J V 0],ae I 0 0,ae I 0 0,ae I 0 0] 8 (World.laidAll_os _ _ _)
    (World.shaped_of_ZipB cC cC) cC cC cC
    (by rw[MakeChecks.laidMetH_plain _ _ _ cC];exact laidMet_laidAll _ cC cC)) ?_
 intro W base args ds gs before c hW hL D;have a:∀(j:Nat) t v,iN.params[j]? = Z t->args[j]? = Z v->Value.okWide af W .any base t v:=c;have E:=hW;obtain⟨p,q,hA0,hV,rfl,SH,SI⟩:=hW;have hA:DataW.TrodAll enc af W 0 (λ_=>true) true iN.params.toList args.toList ds p:=hA0;rw[params7]at hA a;rw[MakeChecks.laidMetH_plain _ _ _ cC]at hL;have g:Env W:=MN hL D;obtain⟨v0,SJ,d0,SK,p0,q0,F,rfl,rfl,h0,r0⟩:=trodAll_cons hA;obtain⟨v1,SL,d1,SM,p1,q1,rfl,rfl,rfl,h1,r1⟩:=trodAll_cons r0;obtain⟨v2,SN,d2,SO,p2,q2,rfl,rfl,rfl,h2,r2⟩:=trodAll_cons r1;obtain⟨v3,SP,d3,SQ,p3,q3,rfl,rfl,rfl,h3,r3⟩:=trodAll_cons r2;obtain⟨rfl,rfl,rfl⟩:=trodAll_nil r3;obtain rfl:args=#[v0,v1,v2,v3]:=by cases args;simp_all
 obtain⟨rfl,rfl⟩:=trodVars_none hV;have k0:=h0;have G:∀x∈p0,x.block<W.heap.size:=by obtain⟨m,hm⟩:=k0;exact mi m _ _ _ hm
 have k1:=h1;have K:∀x∈p1,x.block<W.heap.size:=by obtain⟨m,hm⟩:=k1;exact mi m _ _ _ hm
 have k2:=h2;have L:∀x∈p2,x.block<W.heap.size:=by obtain⟨m,hm⟩:=k2;exact mi m _ _ _ hm
 have k3:=h3;have M:∀x∈p3,x.block<W.heap.size:=by obtain⟨m,hm⟩:=k3;exact mi m _ _ _ hm
 obtain⟨N,rfl,SU⟩:=okWide_struct underlying25 (a 0 25 v0 rfl rfl);obtain⟨l0⟩:=N;obtain⟨SV,P⟩:=h0;have F0:=CP 6 25 [.i V,.i V,.i V,.i V,.i V,.i V] cC _ _ _ P;simp only[gW]at F0;obtain⟨_,_,rfl,⟨k,rfl,aI⟩,⟨_,_,rfl,⟨l,rfl,df⟩,⟨_,_,rfl,⟨n,rfl,eI⟩,⟨_,_,rfl,⟨o,rfl,gX⟩,⟨_,_,rfl,⟨r,rfl,mK⟩,⟨_,_,rfl,⟨s,rfl,SG⟩,rfl⟩⟩⟩⟩⟩⟩:=F0;obtain⟨b1,u,y,rfl⟩:=okWide_slice underlying26 (a 1 26 v1 rfl rfl);obtain⟨SW,Q⟩:=h1;obtain⟨⟨l1,L1⟩,z1⟩:=xp (by simpa[gW]using Q);obtain⟨b2,A,B,rfl⟩:=okWide_slice underlying26 (a 2 26 v2 rfl rfl);obtain⟨SX,R⟩:=h2;obtain⟨⟨l2,L2⟩,z2⟩:=xp (by simpa[gW]using R);obtain⟨b3,d,f,rfl⟩:=okWide_slice underlying38 (a 3 38 v3 rfl rfl);obtain⟨S,T⟩:=h3;obtain⟨SY,U,Y,l3,e3,L3⟩:=uD underlying38 underlying5 cC (show DataW.trod enc af W 0 (λ_=>true) true S 38 [ae b3 d f]=_ by simpa[gW]using T);simp only[List.cons.injEq,Value.slice.injEq,and_true]at e3;obtain⟨rfl,rfl,rfl⟩:=e3;clear hA0 c;refine(NR k l n o r s b1 b2 b3 u A d y B f l1 l2 l3 W L1 L2 L3 z2 (λX b=>BO X (g.below b))).mono λe W' ⟨he,fN⟩=>?_;subst he;exact⟨_,rfl,_,_,_,[],_,[],E,trodAll_mk1 (shut_bool underlying4 _),(kF (Below.trod qX cC (of_decide_eq_true cC) k0 fN G) (kF (Below.trod qX cC (of_decide_eq_true cC) k1 fN K) (kF (Below.trod qX cC (of_decide_eq_true cC) k2 fN L) (kF (Below.trod qX cC (of_decide_eq_true cC) k3 fN M) trodAll_mk0)))),rfl,fN.frame _,λh=>by cases h⟩
theorem over:Rows.topOddRow.holds Tryz.pinned (ia Rows.topOddSpec):=
 OpenClaim.holds_of_wide 7 iN rfl rfl rfl rfl rfl rfl rfl ⟨rfl,rfl,rfl,rfl,rfl⟩ rfl rfl rfl rfl rfl MA func7 facts
  GD GC
  (λos started H enc _=>lifted os started H enc)
theorem proved:Rows.TopOddCardSaid:=
 Claim7.holds_tied_plain_at .later [] [.data,.data,.data,.data,.pinned] true (true, "fe3bf948f87408109fc988edfa475a9853c94568239a86a91671cb0854e8905a") true
  over (λ_ h=>by cases h) RO (λ_ h=>by cases h) topOdd_row_tie rfl ⟨rfl,rfl⟩ RQ rfl
  (λf fn c b=>by
    obtain rfl:f=7:=Option.some.inj (MA.symm.trans c) |>.symm
    obtain rfl:fn=iN:=(Option.some.inj (func7.symm.trans b)).symm
    exact⟨Rr,λj t ht=>by
     rw[params7]at ht
     have hm:t∈[25,26,26,38]:=by simpa using Array.mem_of_getElem? ht
     have a:([25,26,26,38].all λu=>!Tryz.prog.wantsStandIn u)=true:=cC
     exact(show af.wantsStandIn t=false by simpa using List.all_eq_true.1 a t hm)⟩)
  RR
end Go.Proofs.YtkfblammcilfhaaGreatDoor.topOdd
namespace Go.Proofs.YtkfblammcilfhaaGreatDoor
end Go.Proofs.YtkfblammcilfhaaGreatDoor
