import Derived.Test.YtkfblammcilfhaaGreatDoorP12
set_option linter.all false
set_option maxRecDepth 100000
set_option maxHeartbeats 100000000
open Go.ChangeShapes Go.WideShapes Go.ChangeAt Go.RowKit Go.Proofs.Tryz
open Nat renaming le_succ->cZ
open Go.Value renaming int->J,bool->ai,pointer->aq,tuple->aB
open Go.IntKind renaming i64->V
open Option renaming none->I,some->Z
namespace Go.Proofs.YtkfblammcilfhaaGreatDoor
section
theorem vU(R:M.Room)(s p aY:Int)(a:R.cN=false)(ht:M.there aY=true)(hg:R.eG s=false) :
  R.dN s p aY=if xe R.aQ R.bh s p=0 then M.Room.fj { R with bh:=M.set R.bh s (Z ⟨((R.bh s).getD ⟨0,false,0⟩).own,true,p⟩) } s aY else(R,xe R.aQ R.bh s p):=by
 unfold M.Room.dN xe;rw[if_neg (by rw[a];simp),if_neg (by rw[ht];simp),if_neg (by rw[hg];simp)];by_cases h1:(!M.fY s || !M.mB p)=true
 ·rw[if_pos h1,if_pos h1,if_neg aR]
 ·rw[if_neg h1,if_neg h1];cases b:R.bh s with
  |none=>simp
  |some x =>
   simp only[Option.getD_some];cases h2:(R.aQ (p,0)).isSome
   ·simp
   ·cases h3:x.cL<;>simp
section
variable {B:RB} {R:M.Room} {N:Nat} {w:World} (h:aL w B R N)
include h
theorem uw(s p aY:Int)(u:(Lit.int V s).wf=true)(X:N<900000)(v:(R.bh s).isSome=true->(R.aD s).isSome=true) :
  Calls Tryz.prog 40 #[aq (Z ⟨B.g,0,I⟩),J V s,J V p,J V aY] w (kk B w (J V (R.dN s p aY).2) (R.dN s p aY).1 (N+1)):=by
 have S:=h.cw.cell 7;have y:=h.cw.cell 11;have A:=h.cw.cell 12;simp at S y A;obtain⟨res,a⟩:=dH (R.dN s p aY);rw[<-a];have H:=au h;cases d:R.cN
 ·rw[d]at S;cases ht:M.there aY
  ·have o:R.dN s p aY=(R,1):=by unfold M.Room.dN;rw[if_neg (by rw[d];simp),if_pos (by rw[ht];simp)]
   rw[o]at a;subst a;clear o d h v y A u;go_enter func40,ntmps40;go_wp2_with (go_at_call 88;refine(kU aY w).mono ?_;rintro e w1 ⟨rfl,hw⟩;have b:=hw.symm;subst b;rw[ht]);go_ret;exact⟨B,rfl,H.O.mono (cZ N),fK.refl _ _⟩
  have j:fA w B.t R.cW R.aQ R.bh N:=h.part .table;obtain⟨m,Q⟩:=bu (Ak B.t R.cW R.aQ R.bh N w j s p z) j.ni;have k:=h.uS s u;clear j;cases f:R.aD s with
  |none =>
   rw[f,h.CG f]at k;simp only[Option.map_none,Option.getD_none,Option.isSome_none]at k;have hg:R.eG s=false:=by unfold M.Room.eG;rw[f]
   have n:=vU R s p aY d ht hg;have i:xe R.aQ R.bh s p≠0:=by
    intro q;unfold xe at q;split at q
    ·cases q
    ·cases T:R.bh s with
     |none=>rw[T]at q;cases q
     |some x=>have:=v (by rw[T];rfl);rw[f]at this;cases this
   rw[if_neg i]at n;rw[n]at a;subst a;have c:Dr R.aQ R.bh s p=R.bh:=by unfold Dr;rw[if_neg i]
   rw[c]at m;have C:(xe R.aQ R.bh s p !=0)=true:=by simpa using i
   clear n c d h v f hg u;generalize xe R.aQ R.bh s p=E at m C i;go_enter func40,ntmps40;go_wp2_with (first
    |(go_at_call 88;refine(kU aY w).mono ?_;rintro e w1 ⟨rfl,hw⟩;have b:=hw.symm;subst b;rw[ht])
    |(go_at_call 89;refine m.O.mono ?_;rintro e w1 ⟨rfl,G,u1⟩))
   go_ret;have r:=(H.O.mono (cZ N)).kS (Fr.jT u1 Q.O) (or:=R.cW) (so:=R.aQ) (su:=R.bh) G;exact⟨B,rfl,r.1,r.2⟩
  |some l =>
   obtain⟨L,K,U⟩:=h.jq f;rw[f,K]at k;have k:(Instr.lookup 54 (.map (Z B.lm)) (J V s) true).run Tryz.prog w=.ok (aB #[aq (Z ⟨L.g,0,I⟩),ai true]) w:=k;have D:=au (qK L R.dA.aG R.dA.aT l N w U);clear U;cases hg:l.eG
   ·have F:R.eG s=false:=by unfold M.Room.eG;rw[f];exact hg
    have n:=vU R s p aY d ht F;by_cases i:xe R.aQ R.bh s p=0
    ·rw[if_pos i]at n;rw[n]at a;subst a;have c:Dr R.aQ R.bh s p=M.set R.bh s (Z ⟨((R.bh s).getD ⟨0,false,0⟩).own,true,p⟩):=by unfold Dr;rw[if_pos i]
     rw[c,i]at m;have P:=au (And.intro f K);generalize M.set R.bh s (Z ⟨((R.bh s).getD ⟨0,false,0⟩).own,true,p⟩)=su at m ⊢;clear n c d h v f F u i K;go_enter func40,ntmps40;go_wp2_with (first
      |(go_at_call 88;refine(kU aY w).mono ?_;rintro e w1 ⟨rfl,hw⟩;have b:=hw.symm;subst b;rw[ht])
      |(go_at_call 46;refine D.O.mono ?_;rintro e w1 ⟨rfl,hw⟩;have b:=hw.symm;subst b;rw[hg])
      |(go_at_call 89;refine m.O.mono ?_;rintro e w1 ⟨rfl,G,u1⟩;have r:=au ((H.O.mono (cZ N)).kS (Fr.jT u1 Q.O) (or:=R.cW) (so:=R.aQ) (su:=su) G);clear G u1)
      |(go_at_call 90;refine(vq r.O.1 (aY:=aY) P.O.1 P.O.2).mono ?_;rintro e w2 ⟨B',rfl,hR,W⟩))
     go_ret;exact⟨B',rfl,hR,r.O.2.trans W⟩
    ·rw[if_neg i]at n;rw[n]at a;subst a;have c:Dr R.aQ R.bh s p=R.bh:=by unfold Dr;rw[if_neg i]
     rw[c]at m;have C:(xe R.aQ R.bh s p !=0)=true:=by simpa using i
     clear n c d h v f F u K;generalize xe R.aQ R.bh s p=E at m C i;go_enter func40,ntmps40;go_wp2_with (first
      |(go_at_call 88;refine(kU aY w).mono ?_;rintro e w1 ⟨rfl,hw⟩;have b:=hw.symm;subst b;rw[ht])
      |(go_at_call 46;refine D.O.mono ?_;rintro e w1 ⟨rfl,hw⟩;have b:=hw.symm;subst b;rw[hg])
      |(go_at_call 89;refine m.O.mono ?_;rintro e w1 ⟨rfl,G,u1⟩))
     go_ret;have r:=(H.O.mono (cZ N)).kS (Fr.jT u1 Q.O) (or:=R.cW) (so:=R.aQ) (su:=R.bh) G;exact⟨B,rfl,r.1,r.2⟩
   ·have o:R.dN s p aY=(R,5):=by
     unfold M.Room.dN;rw[if_neg (by rw[d];simp),if_neg (by rw[ht];simp),if_pos (by unfold M.Room.eG;rw[f];exact hg)]
    rw[o]at a;subst a;clear o d h v f u K m Q;go_enter func40,ntmps40;go_wp2_with (first
     |(go_at_call 88;refine(kU aY w).mono ?_;rintro e w1 ⟨rfl,hw⟩;have b:=hw.symm;subst b;rw[ht])
     |(go_at_call 46;refine D.O.mono ?_;rintro e w1 ⟨rfl,hw⟩;have b:=hw.symm;subst b;rw[hg]))
    go_ret;exact⟨B,rfl,H.O.mono (cZ N),fK.refl _ _⟩
 ·have o:R.dN s p aY=(R,7):=by unfold M.Room.dN;simp[d]
  rw[o]at a;subst a;rw[d]at S;clear o d h y A v u;go_enter func40,ntmps40;go_wp2_with fail;go_ret;exact⟨B,rfl,H.O.mono (cZ N),fK.refl _ _⟩
end
end
end Go.Proofs.YtkfblammcilfhaaGreatDoor
