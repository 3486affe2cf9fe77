/- TopAsks is true at all its arguments, with no condition. -/
import Derived.Test.YtkfblammcilfhaaGreatDoorTie
import Derived.Test.YtkfblammcilfhaaGreatDoorCards
import Derived.Test.YtkfblammcilfhaaGreatDoorP21
import Derived.Test.YtkfblammcilfhaaGreatDoorP22
import Derived.Test.YtkfblammcilfhaaGreatDoorP23
set_option linter.all false
set_option maxRecDepth 100000
set_option maxHeartbeats 100000000
open Go.ChangeShapes Go.WideShapes Go.ChangeAt Go.RowKit Go.Proofs.Tryz
open Go.Proofs.Tryz renaming prog->af,f4->ab
open Go.Value renaming cells->gW,int->J,slice->ae,agg->cg
open Go.IntKind renaming i64->V,u8->bI
open Option renaming none->I,some->Z
namespace Go.Proofs.YtkfblammcilfhaaGreatDoor
end Go.Proofs.YtkfblammcilfhaaGreatDoor
open Go.Proofs.YtkfblammcilfhaaGreatDoor
namespace Go.Proofs.YtkfblammcilfhaaGreatDoor.topAsks
open Go.ChangeShapes Go.WideShapes Go.ChangeAt Go.RowKit Go.Proofs.YtkfblammcilfhaaGreatDoor
theorem lifted(os:Os)(started:os.Started)(H:Type)(enc:TypeId×Value->H) :
  ReturnsInHanded {} Tryz.checked os 4 .any (λw args=>(Rows.topAsksSpec.pre enc af ab [] false w args/\laidMetH af wD w)/\sizedMet enc af ab (OpenSpec.ofChange Rows.topAsksSpec) false w args)
   (Rows.topAsksSpec.post enc af ab false true false false):=by
 refine we (C:=Tryz.checked) (X:=λw _=>laidMetH af wD w) (λ_ _ _ hh h=>h.of_heap hh) Qr started cC func4
  (ChangeSpec.witness_shaped (enc:=enc) (C:=Tryz.checked) (os:=os) (X:=λw _=>laidMetH af wD w) false (World.laidAll af os wD) #[cg #[J V 0,J V 0,J V 0,J V 0,J V 0,J V 0],ae I 0 0,J bI 0] 8 (World.laidAll_os _ _ _)
    (World.shaped_of_ZipB cC cC) cC cC cC
    (by rw[MakeChecks.laidMetH_plain _ _ _ cC];exact laidMet_laidAll _ cC cC)) ?_
 intro W base args ds gs before c L M u;have a:∀(j:Nat) t v,ab.params[j]? = Z t->args[j]? = Z v->Value.okWide af W .any base t v:=c;have y:=L;obtain⟨p,q,hA0,hV,rfl,Tj,Tk⟩:=L;have N:DataW.TrodAll enc af W 0 (λ_=>true) true ab.params.toList args.toList ds p:=hA0;rw[params4]at N a;rw[MakeChecks.laidMetH_plain _ _ _ cC]at M;have d:Env W:=MN M u;obtain⟨v0,Tl,d0,Tm,p0,q0,A,rfl,rfl,h0,r0⟩:=trodAll_cons N;obtain⟨v1,Tn,d1,To,p1,q1,rfl,rfl,rfl,h1,r1⟩:=trodAll_cons r0;obtain⟨v2,Tp,d2,Tq,p2,q2,rfl,rfl,rfl,h2,r2⟩:=trodAll_cons r1;obtain⟨rfl,rfl,rfl⟩:=trodAll_nil r2;obtain rfl:args=#[v0,v1,v2]:=by cases args;simp_all
 obtain⟨rfl,rfl⟩:=trodVars_none hV;have P:=h0;have B:∀x∈p0,x.block<W.heap.size:=by obtain⟨m,hm⟩:=P;exact DataW.trod_lt m _ _ _ hm
 have Q:=h1;have D:∀x∈p1,x.block<W.heap.size:=by obtain⟨m,hm⟩:=Q;exact DataW.trod_lt m _ _ _ hm
 have R:=h2;have E:∀x∈p2,x.block<W.heap.size:=by obtain⟨m,hm⟩:=R;exact DataW.trod_lt m _ _ _ hm
 obtain⟨F,rfl,Ts⟩:=okWide_struct underlying25 (a 0 25 v0 rfl rfl);obtain⟨l0⟩:=F;obtain⟨Tt,G⟩:=h0;have S:=CP 6 25 [.i V,.i V,.i V,.i V,.i V,.i V] cC _ _ _ G;simp only[gW]at S;obtain⟨_,_,rfl,⟨f,rfl,T⟩,⟨_,_,rfl,⟨g,rfl,U⟩,⟨_,_,rfl,⟨k,rfl,Y⟩,⟨_,_,rfl,⟨l,rfl,Tf⟩,⟨_,_,rfl,⟨n,rfl,Tg⟩,⟨_,_,rfl,⟨o,rfl,Ti⟩,rfl⟩⟩⟩⟩⟩⟩:=S;obtain⟨b1,r,s,rfl⟩:=okWide_slice underlying26 (a 1 26 v1 rfl rfl);obtain⟨Tu,K⟩:=h1;obtain⟨⟨l1,L1⟩,z1⟩:=xp (by simpa[gW]using K);obtain⟨a2,rfl,rfl,rfl,w2⟩:=open_int underlying5 (a 2 5 v2 rfl rfl) h2;clear hA0 c;refine(SI f g k l n o b1 r s l1 a2 w2 W L1 (λX b=>BO X (d.below b))).mono λe W' ⟨he,fN⟩=>?_;subst he;exact⟨_,rfl,_,_,_,[],_,[],y,trodAll_mk1 (shut_bool underlying4 _),(trodAll_cons_mk (Below.trod qX cC (of_decide_eq_true cC) P fN B) (trodAll_cons_mk (Below.trod qX cC (of_decide_eq_true cC) Q fN D) (trodAll_cons_mk (Below.trod qX cC (of_decide_eq_true cC) R fN E) trodAll_mk0))),rfl,fN.frame _,λh=>by cases h⟩
theorem over:Rows.topAsksRow.holds Tryz.pinned (OpenSpec.ofChange Rows.topAsksSpec):=
 OpenClaim.holds_of_wide 4 ab rfl rfl rfl rfl rfl rfl rfl ⟨rfl,rfl,rfl,rfl,rfl⟩ rfl rfl rfl rfl rfl MA func4 facts
  GD GC
  (λos started H enc _=>lifted os started H enc)
theorem proved:Rows.TopAsksCardSaid:=
 Claim7.holds_tied_plain_at .later [] [.data,.data,.data,.data,.pinned] true (true, "fe3bf948f87408109fc988edfa475a9853c94568239a86a91671cb0854e8905a") true
  over (λ_ h=>by cases h) RO (λ_ h=>by cases h) topAsks_row_tie rfl ⟨rfl,rfl⟩ RQ rfl
  (λf fn c b=>by
    obtain rfl:f=4:=Option.some.inj (MA.symm.trans c) |>.symm
    obtain rfl:fn=ab:=(Option.some.inj (func4.symm.trans b)).symm
    exact⟨Rr,λj t ht=>by
     rw[params4]at ht
     have hm:t∈[25,26,5]:=by simpa using Array.mem_of_getElem? ht
     have a:([25,26,5].all λu=>!Tryz.prog.wantsStandIn u)=true:=cC
     exact(show af.wantsStandIn t=false by simpa using List.all_eq_true.1 a t hm)⟩)
  RR
#print axioms proved
end Go.Proofs.YtkfblammcilfhaaGreatDoor.topAsks
namespace Go.Proofs.YtkfblammcilfhaaGreatDoor
end Go.Proofs.YtkfblammcilfhaaGreatDoor
