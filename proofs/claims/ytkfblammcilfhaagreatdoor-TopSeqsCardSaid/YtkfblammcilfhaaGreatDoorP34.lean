/- TopSeqs is true at all its arguments, with no condition. -/
import Derived.Test.YtkfblammcilfhaaGreatDoorTie
import Derived.Test.YtkfblammcilfhaaGreatDoorCards
import Derived.Test.YtkfblammcilfhaaGreatDoorP21
import Derived.Test.YtkfblammcilfhaaGreatDoorP32
import Derived.Test.YtkfblammcilfhaaGreatDoorP33
set_option linter.all false
set_option maxRecDepth 100000
set_option maxHeartbeats 100000000
open Go.ChangeShapes Go.WideShapes Go.ChangeAt Go.RowKit Go.Proofs.Tryz
open Go.Proofs.Tryz renaming prog->af,f3->aa
open Go.Value renaming cells->gW,int->J,slice->ae,agg->cg
open Go.IntKind renaming i64->V
open Option renaming none->I,some->Z
namespace Go.Proofs.YtkfblammcilfhaaGreatDoor
end Go.Proofs.YtkfblammcilfhaaGreatDoor
open Go.Proofs.YtkfblammcilfhaaGreatDoor
namespace Go.Proofs.YtkfblammcilfhaaGreatDoor.topSeqs
open Go.ChangeShapes Go.WideShapes Go.ChangeAt Go.RowKit Go.Proofs.YtkfblammcilfhaaGreatDoor
theorem lifted(os:Os)(started:os.Started)(H:Type)(enc:TypeId×Value->H) :
  ReturnsInHanded {} Tryz.checked os 3 .any (λw args=>(Rows.topSeqsSpec.pre enc af aa [] false w args/\laidMetH af wD w)/\sizedMet enc af aa (OpenSpec.ofChange Rows.topSeqsSpec) false w args)
   (Rows.topSeqsSpec.post enc af aa false true false false):=by
 refine we (C:=Tryz.checked) (X:=λw _=>laidMetH af wD w) (λ_ _ _ hh h=>h.of_heap hh) Qr started cC func3
  (ChangeSpec.witness_shaped (enc:=enc) (C:=Tryz.checked) (os:=os) (X:=λw _=>laidMetH af wD w) false (World.laidAll af os wD) #[cg #[J V 0,J V 0,J V 0,J V 0,J V 0,J V 0],ae I 0 0] 8 (World.laidAll_os _ _ _)
    (World.shaped_of_ZipB cC cC) cC cC cC
    (by rw[MakeChecks.laidMetH_plain _ _ _ cC];exact laidMet_laidAll _ cC cC)) ?_
 intro W base args ds gs before a K L u;have c:∀(j:Nat) t v,aa.params[j]? = Z t->args[j]? = Z v->Value.okWide af W .any base t v:=a;have y:=K;obtain⟨p,q,hA0,hV,rfl,Ho,Hs⟩:=K;have M:DataW.TrodAll enc af W 0 (λ_=>true) true aa.params.toList args.toList ds p:=hA0;rw[params3]at M c;rw[MakeChecks.laidMetH_plain _ _ _ cC]at L;have d:Env W:=MN L u;obtain⟨v0,Hu,d0,Ia,p0,q0,A,rfl,rfl,h0,r0⟩:=trodAll_cons M;obtain⟨v1,II,d1,I8,p1,q1,rfl,rfl,rfl,h1,r1⟩:=trodAll_cons r0;obtain⟨rfl,rfl,rfl⟩:=trodAll_nil r1;obtain rfl:args=#[v0,v1]:=by cases args;simp_all
 obtain⟨rfl,rfl⟩:=trodVars_none hV;have N:=h0;have B:∀x∈p0,x.block<W.heap.size:=by obtain⟨m,hm⟩:=N;exact DataW.trod_lt m _ _ _ hm
 have P:=h1;have D:∀x∈p1,x.block<W.heap.size:=by obtain⟨m,hm⟩:=P;exact DataW.trod_lt m _ _ _ hm
 obtain⟨E,rfl,I9⟩:=okWide_struct underlying25 (c 0 25 v0 rfl rfl);obtain⟨l0⟩:=E;obtain⟨Kk,F⟩:=h0;have Q:=CP 6 25 [.i V,.i V,.i V,.i V,.i V,.i V] cC _ _ _ F;simp only[gW]at Q;obtain⟨_,_,rfl,⟨f,rfl,R⟩,⟨_,_,rfl,⟨g,rfl,S⟩,⟨_,_,rfl,⟨k,rfl,T⟩,⟨_,_,rfl,⟨l,rfl,U⟩,⟨_,_,rfl,⟨n,rfl,Y⟩,⟨_,_,rfl,⟨o,rfl,Hl⟩,rfl⟩⟩⟩⟩⟩⟩:=Q;obtain⟨b1,r,s,rfl⟩:=okWide_slice underlying26 (c 1 26 v1 rfl rfl);obtain⟨Kl,G⟩:=h1;obtain⟨⟨l1,L1⟩,z1⟩:=xp (by simpa[gW]using G);clear hA0 a;refine(Gu f g k l n o b1 r s l1 W L1 (λX b=>BO X (d.below b))).mono λe W' ⟨he,fN⟩=>?_;subst he;exact⟨_,rfl,_,_,_,[],_,[],y,trodAll_mk1 (shut_bool underlying4 _),(trodAll_cons_mk (Below.trod qX cC (of_decide_eq_true cC) N fN B) (trodAll_cons_mk (Below.trod qX cC (of_decide_eq_true cC) P fN D) trodAll_mk0)),rfl,fN.frame _,λh=>by cases h⟩
theorem over:Rows.topSeqsRow.holds Tryz.pinned (OpenSpec.ofChange Rows.topSeqsSpec):=
 OpenClaim.holds_of_wide 3 aa rfl rfl rfl rfl rfl rfl rfl ⟨rfl,rfl,rfl,rfl,rfl⟩ rfl rfl rfl rfl rfl MA func3 facts
  GD GC
  (λos started H enc _=>lifted os started H enc)
theorem proved:Rows.TopSeqsCardSaid:=
 Claim7.holds_tied_plain_at .later [] [.data,.data,.data,.data,.pinned] true (true, "fe3bf948f87408109fc988edfa475a9853c94568239a86a91671cb0854e8905a") true
  over (λ_ h=>by cases h) RO (λ_ h=>by cases h) topSeqs_row_tie rfl ⟨rfl,rfl⟩ RQ rfl
  (λf fn c b=>by
    obtain rfl:f=3:=Option.some.inj (MA.symm.trans c) |>.symm
    obtain rfl:fn=aa:=(Option.some.inj (func3.symm.trans b)).symm
    exact⟨Rr,λj t ht=>by
     rw[params3]at ht
     have hm:t∈[25,26]:=by simpa using Array.mem_of_getElem? ht
     have a:([25,26].all λu=>!Tryz.prog.wantsStandIn u)=true:=cC
     exact(show af.wantsStandIn t=false by simpa using List.all_eq_true.1 a t hm)⟩)
  RR
#print axioms proved
end Go.Proofs.YtkfblammcilfhaaGreatDoor.topSeqs
namespace Go.Proofs.YtkfblammcilfhaaGreatDoor
end Go.Proofs.YtkfblammcilfhaaGreatDoor
