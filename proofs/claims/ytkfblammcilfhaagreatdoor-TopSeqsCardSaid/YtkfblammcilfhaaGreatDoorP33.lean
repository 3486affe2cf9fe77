import Derived.Test.YtkfblammcilfhaaGreatDoorP30
set_option linter.all false
set_option maxRecDepth 100000
set_option maxHeartbeats 100000000
open Go.ChangeShapes Go.WideShapes Go.ChangeAt Go.RowKit Go.Proofs.Tryz
open Go.RowKit.Below renaming refl->ao
open Nat renaming le_refl->aj
open List renaming getElem_mem->dy,mem_cons_self->ec,eq_nil_of_length_eq_zero->wU
open Go renaming wpList_load_mid->gQ,wpAnyH_ready->cH,wpAnyH_done->gV
open Go.Act renaming put->aA
open Go.AllReadyH renaming cons->bH,nil->cy
open Go.IntKind renaming u16->aN,i64->V
open Go.Value renaming int->J,slice->ae,bool->ai,pointer->aq,agg->cg
open Go.Ending renaming returned->av
open Option renaming none->I,some->Z
namespace Go.Proofs.YtkfblammcilfhaaGreatDoor
def Gu(aG eJ cX eA ek aT:Int)(A1:Option Addr)(n1 c1:Nat)(l:List M.Act)(w:World)(h1:pZ w A1 n1 l)(HA:IM w) :
  Calls Tryz.prog 3 #[cg #[J V aG,J V eJ,J V cX,J V eA,J V ek,J V aT],ae A1 n1 c1] w λe w'=>e=av (ai true)/\aC w w':=by
 obtain⟨H1,UY⟩:=bu h1 HA;have VW:=h1.1;clear h1 HA;go_enter func3,ntmps3;go_upto_region 1 with fail;obtain⟨r2,e2⟩:=dH w.heap.size;rw[<-e2];refine aW (λX=>aK X r2 25 #[J V aG,J V eJ,J V cX,J V eA,J V ek,J V aT]/\aC w X) ⟨aK.newAt _ _ _ _ e2,(ao _ w).alloc (aj _) _⟩ ?_;have h2:w.heap.size<=r2:=z;clear e2;rintro X ⟨b2,bX⟩;obtain⟨UZ,Lz,Um⟩:=bU (UY.O X bX) b2 bX;clear b2 bX UY;go_upto_region 3 with(go_at_call 8;refine UZ.O.mono ?_;rintro e w2 ⟨rfl,b3⟩;have SP:=au b3;clear b3)
 have bw:=Um.O.trans (SP.O.mono Um.O.size);have b2:=Lz.O.kept SP.O;have k0:=b2.cell 0;have k1:=b2.cell 1;have k2:=b2.cell 2;have k3:=b2.cell 3;have k4:=b2.cell 4;have k5:=b2.cell 5;simp at k0 k1 k2 k3 k4 k5;obtain⟨Lz,SQ⟩:=bu b2 bw;clear b2 bw Um SP UZ;cases hc:M.jr aG eJ cX eA ek aT with
 |false =>
  have U0:=λW=>xV aG eJ cX eA ek aT W hc;have HN:=au U0;clear U0 hc;go_wp2_with (go_at_call 9;refine(HN.O _).mono ?_;rintro e w3 ⟨rfl,b3⟩;have SQ:=au (SQ.O.trans (b3.mono SQ.O.size));clear b3);go_ret;exact⟨rfl,SQ.O⟩
 |true =>
  obtain⟨rm,rfl⟩:∃rm:Nat,aG=(rm:Int):=by
   have q:=hc;simp only[M.jr,Bool.and_eq_true,decide_eq_true_eq]at q;exact⟨aG.toNat,z⟩
  have Un:=hc;simp only[M.jr,Bool.and_eq_true,decide_eq_true_eq]at Un;obtain⟨cf,Uo⟩:=dH (⟨rm,eJ,cX,eA,ek,aT⟩:M.Ou);have Tl:=λW=>tM rm eJ cX eA ek aT W hc;rw[<-Uo]at Tl;obtain⟨Ud,Oj,OF⟩:=bU Tl Un Uo;clear Tl hc Un Uo;go_upto_region 4 with(go_at_call 9;refine(Ud.O _).mono ?_;rintro e w3 ⟨⟨B,rfl,hR,Ue⟩,b3⟩;have SP:=au b3;have HR:=au hR;have Tm:=au Ue;clear b3 hR Ue)
  have f:mD w w3 B (.new cf) 0 [.cw r2 25 #[J V (rm:Int),J V eJ,J V cX,J V eA,J V ek,J V aT]]:=by
   have VE:=SQ.O.size;have VX:=Lz.O.lt;refine⟨HR.O,λi q=>?_,SQ.O.trans (SP.O.mono VE),λx hx=>?_,List.pairwise_singleton _ _⟩
   ·have:=Tm.O i q;omega
   ·simp at hx;subst hx;refine⟨⟨Lz.O.kept SP.O,aR,aR⟩,λi hi=>?_⟩;cases hi;exact⟨λq=>by have:=Tm.O _ q;omega,h2⟩
  have m:=au f;clear f SP HR Tm Ud SQ Lz k0 k1 k2 k3 k4 k5;have U1:=λW (b:aC w W)=>xt A1 n1 c1 l W (H1.O.below b);have Tn:=au U1;clear U1;cases To:qV l with
  |true =>
   rw[To]at Tn;clear To;go_wp2_with (go_at_call 10;refine(Tn.O _ m.O.bw).mono ?_;rintro e w9 ⟨rfl,b9⟩;have m:=au (m.O.below b9);clear b9);go_ret;exact⟨rfl,m.O.bw⟩
  |false =>
   rw[To]at Tn;have U2:=zF To;clear To;go_upto_region 6 with(go_at_call 10;refine(Tn.O _ m.O.bw).mono ?_;rintro e w9 ⟨rfl,b9⟩;have m:=au (m.O.below b9);clear b9)
   clear Tn;have Tc:=λW=>qU W;have Tp:=au Tc;clear Tc;go_upto_region 7 with(go_at_call 11;refine(Tp.O _).mono ?_;rintro e w9 ⟨g,mb,rfl,hA,bA,hg,hm⟩;have m:=au (m.O.new (y:=.xX g mb _ _ _) bA hA (λi hi=>by rcases hi with rfl|rfl;exact hg;exact hm));clear hA bA hg hm)
   clear Tp;have LC:=au U2;clear U2;have m:=au (m.O.sub (List.Sublist.cons₂ _ (List.nil_sublist _)));go_upto_region 9 with fail;obtain⟨r8,e8⟩:=dH w9.heap.size;obtain⟨r,e9⟩:=dH (w9.heap.size+1);rw[<-e9,<-e8];refine aW (λX=>mD w X B (.new cf) 0 [.qs r (λ_=>⟨I,0,0⟩) (⟨λ_=>0,λ_=>[]⟩:M.Qs).qs,.cw r8 35 (C2 (⟨λ_=>0,λ_=>[]⟩:M.Qs).rw),.xX g mb (λ_=>⟨0,0,0⟩) (λ_=>-1) 0]) ?_ ?_
   ·have h8:=m.O.new (y:=.cw r8 35 (C2 λ_=>0)) ((ao _ w9).alloc (aj _) _) ⟨aK.newAt _ _ _ _ e8,aR,aR⟩ (λi hi=>by cases hi;omega);refine h8.new ((ao _ _).alloc (aj _) _) ⟨aK.newAt _ _ _ _ (by rw[e9];simp),λs hs=>AO.nil _,λs t _ _ _ i hi=>by obtain⟨o,e⟩:=hi;cases e⟩ (λi hi=>?_);rcases hi with k | ⟨s,_,o,e⟩
    ·rw[k,e9];simp
    ·cases e
   clear e8 e9 m;rintro X f;have m:=au f;clear f;go_wp2_with fail;go_loopw [10,47] (λb i wr=>∃(k:Nat) (Bk:RB) (R:M.Room) (G:Int->M.ij) (Ln:Int->M.Jn) (jo:Int->Int) (Q:M.Qs) (fs:Nat->Sl),b=ai (!R.cN)/\i=J V k/\k<=n1/\Bk.g=B.g/\mD w wr Bk R (20*k) [.qs r fs Q.qs,.cw r8 35 (C2 Q.rw),.xX g mb Ln jo (3*k)]/\M.lG R G k/\M.rC R G Ln/\M.QJ R G Q/\Q.Le k) (λ_ i _=>n1-(intOf i).toNat);case atStart=>exact⟨0,B,_,λ_=>⟨0,0,0,0,[],[],[]⟩,_,_,⟨λ_=>0,λ_=>[]⟩,_,rfl,rfl,z,rfl,m.O,.start cf (by have q:=Oj.O;rw[OF.O];show 1<=rm;omega) _,.start cf _ _,.start cf _,λs=>⟨aj _,aj _⟩⟩
   case round =>
    clear m;obtain⟨k,Bk,R,G,Ln,jo,Q,fs,rfl,rfl,hk,TR,f,Up,Uq,hQ,Ur⟩:=hrel;by_cases Tq:k<n1
    ·obtain⟨SU,LP,HQ,Hs⟩:=cA Up Uq hQ Ur;clear Up Uq hQ Ur;have VF:((k:Int)<(n1:Int)):=z;have Us:k<l.length:=z;obtain⟨bb,off,hA1,U3⟩:=H1.O.2.2 z;obtain⟨N,q1,q2⟩:=U3 k l[k] (List.getElem?_eq_getElem Us);have Ut:=H1.O.2.1 l[k] (dy Us);have Uu:=LC.O.2 l[k] (dy Us);have VG:=LC.O.1;have q1:wr.rangeAt bb (off+k*14) (jQ l[k] N).toList:=λj v hv=>aM f.bw (q1 j v hv);generalize l[k]=x at q1 q2 Ut Uu;have VH:N.n<=400:=by rw[<-q2.len];exact Uu
     subst hA1;obtain⟨m,Va,MC,Ho⟩:=cA f q1 q2 Ut;clear U3 q1 q2 Ut Uu f;go_upto_region 13 with(refine gQ rfl 45 (.tmp 49) rfl bb (off+k*14) rfl (jQ x N).toList _ Va.O underlying45 rfl pV ?_)
     obtain⟨u,Uv⟩:=dH wr.heap.size;rw[<-Uv];refine aW (λY=>mD w Y Bk R (20*k) [.cw u 45 (jQ x N),.qs r fs Q.qs,.cw r8 35 (C2 Q.rw),.xX g mb Ln jo (3*k)]) (m.O.new (y:=.cw u 45 (jQ x N)) ((ao _ _).alloc (aj _) _) ⟨aK.newAt _ _ _ _ Uv,aR,aR⟩ (λi hi=>by cases hi;omega)) ?_;clear Uv m Va;rintro Y f;have P:=(f.get (ec ..)).1;have Tr:=au (qL P);have y0:=P.cell 0;have y5:=P.cell 5;have y6:=P.cell 6;simp at y0 y5 y6;obtain⟨op,Kl⟩:=dH (!R.cN);obtain⟨sb,Uw⟩:=dH x.w.2;obtain⟨sg,Ux⟩:=dH x.w.1;rw[<-Kl];rw[<-Uw]at y6;rw[<-Ux]at y5;obtain⟨us,SI⟩:=dH (op&&(decide (x.nv=1)&&M.fY sb));obtain⟨m,Kq,U,MP,H⟩:=gY f Kl Uw Ux SI;clear f P Kl Uw Ux SI;go_upto_region 14 with fail;go_cut [14] (λv wc=>v=ai us/\Y=wc);case first=>as_aux_lemma =>
      clear m SU LP HQ Hs MC Ho Tr Kq U MP H1 LC Oj OF;cases op
      ·go_wp2_with fail;go_meet;exact⟨congrArg Value.bool H.O.symm,rfl⟩
      ·by_cases a1:x.nv=1
       ·by_cases a2:0<=sb
        ·by_cases a3:sb<6
         ·have E2:Hd (true=us):=au (by simp[H.O,a1,M.fY,a2,a3]);clear H;go_wp2_with fail;go_meet;exact CU E2
         ·have E2:Hd (false=us):=au (by simp[H.O,a1,M.fY,a2,a3]);clear H;go_wp2_with fail;go_meet;exact CU E2
        ·have E2:Hd (false=us):=au (by simp[H.O,a1,M.fY,a2]);clear H;go_wp2_with fail;go_meet;exact CU E2
       ·have E2:Hd (false=us):=au (by simp[H.O,a1]);clear H;go_wp2_with fail;go_meet;exact CU E2
     case rest=>as_aux_lemma =>
      obtain⟨rfl,rfl⟩:=hcut;have Uy:(Lit.int V sb).wf=true:=by rw[U.O];exact Ho.O.wk
      have rb:=m.O.aG.cw;rw[TR]at rb;have Ts:=rb.cell 0;simp at Ts;obtain⟨d0,Uz⟩:=dH (R.Aq sb 6:Nat);obtain⟨n0,TS⟩:=dH ((M.kA R sb).length:Nat);have Td:=λW (b:aC Y W)=>C8 (m.O.aG.below b) sb z SU.O.wf.vz;rw[<-Uz]at Td;have SJ:=λW (b:aC Y W)=>tL (m.O.aG.below b) sb Uy z;rw[TR,<-TS]at SJ;have i9:=GS;have SV:=au Td;have Tt:=au SJ;have PC:=au Uz;have MT:=au TS;have MU:=au Uy;clear Td SJ Uz TS Uy rb;go_upto_region 16 with(first
       |(go_at_call 12;refine(SV.O _ (ao _ _)).mono ?_;rintro e w1 ⟨⟨a0,a1,a2,a3,a4,a5,a7,a8,rfl⟩,b1⟩;have TT:=au b1;clear b1)
       |(go_at_call 13;refine(Tt.O _ TT.O).mono ?_;rintro e w2 ⟨v,q,rfl,own,fit,b2⟩;obtain⟨A,c,rfl⟩:=bA own;have Lz:=au (TT.O.trans (b2.mono TT.O.size));clear own fit b2))
      refine aW (λTe=>mD w Te Bk R (20*k) [.cw u 45 (jQ x N),.qs r fs Q.qs,.cw r8 35 (C2 Q.rw),.xX g mb Ln jo (3*k)]) (m.O.below Lz.O) ?_;clear m TT Lz SV Tt Ts y0 y5 y6 Tr i9;rintro Te f;have Tr:=au (qL (f.get (ec ..)).1);have Tu:=xF f.aG SU.O z z x Ho.O N (MC.O.below f.bw) VH;rw[TR]at Tu;have Tv:=SU.O.act x Ho.O.ok Ho.O.src;have TV:=LP.O.act x Ho.O.ok;have Tf:=λ(s:Int) (i:Nat) (o:Nat×M.cQ) (h1:x.nv=1) (ho:(M.kA (R.act x).1 s)[i]? = Z o)=>M.Gj TV h1 ho;have UA:=M.GI SU.O.inv SU.O.wf HQ.O x Ho.O.ok;have SK:=M.E8 R x;have Tw:=M.xJ R x;have UB:=M.xK R x;obtain⟨C,Tx⟩:=dH ((R.act x).1);obtain⟨f1,Ty⟩:=dH ((R.act x).2.1);obtain⟨d1,UC⟩:=dH ((R.act x).2.2);unfold wY at Tu;rw[<-Tx,<-Ty,<-UC]at Tu;rw[<-Tx]at Tv SK Tf;rw[<-Tx,<-Ty]at TV;rw[<-Ty]at Tw UB;rw[<-Tx,<-Ty,<-UC,<-Kq.O]at UA;rw[<-Kq.O]at SK;have Vb:=au Tu;have m:=au f;have Hu:=au Tv;have SL:=au TV;have MV:=au UA;have Tg:=au SK;have Ti:=au Tf;have Hl:=au Tw;have PN:=au UB;clear Tu f Tv TV UA SK Tf Tw UB Tx Ty UC SU HQ;go_upto_region 17 with(first
       |(go_at_call 14;refine Vb.O.mono ?_;rintro e VI ⟨B9,rfl,Vc,UD⟩;have NR:=UD.g.trans TR;have UE:=au (m.O.act Vc UD);clear Vc UD)
       |(refine gQ rfl 45 (.tmp 12) rfl u 0 rfl (jQ x N).toList _ Tr.O underlying45 rfl pV ?_))
      have Kr:=AZ UE.O.aG sb MU.O;rw[NR]at Kr;obtain⟨la,lb,th,Kw⟩:=tv C sb;rw[Kw]at Kr;obtain⟨ln,hlen⟩:=dH (zk C sb);obtain⟨gn,Tz⟩:=dH (C.eG sb);obtain⟨cu,TA⟩:=dH ((ud C sb).1);obtain⟨tg,TC⟩:=dH ((ud C sb).2);rw[<-hlen,<-Tz,<-TA,<-TC]at Kr;obtain⟨dr,UF⟩:=dH (M.Ao C x d1 op);have Uf:dr=(us&&(d1&&(decide (sg=3)&&decide (0<ln)))):=by rw[UF,H.O,U.O,MP.O,hlen,U.O];rfl
      obtain⟨TD,TE,L⟩:=bU Kr UF Uf;clear Kr hlen Tz TA TC Kw UF Uf Vb m Tr;go_upto_region 18 with(go_at_call 15;refine TD.O.mono ?_;rintro e Vd ⟨rfl,Ve⟩;have SY:=au Ve;clear Ve)
      obtain⟨VJ,UG⟩:=dH (Vd.heap.size+1);rw[<-UG];have bb:aC VI ((Vd.alloc (.cells #[J V cu,J V tg] 68)).alloc (.cells #[J V la,J V lb,ag ln] 69)):=(SY.O.alloc SY.O.size _).alloc (by have:=SY.O.size;simp;omega) _;refine aW (λKm=>aK Km VJ 69 #[J V la,J V lb,ag ln]/\mD w Km B9 C (20*k+20) [.cw u 45 (jQ x N),.qs r fs Q.qs,.cw r8 35 (C2 Q.rw),.xX g mb Ln jo (3*k)]) ⟨aK.newAt _ _ _ _ (by rw[UG];simp),UE.O.below bb⟩ ?_;clear UG bb SY TD UE;rintro Km ⟨Vf,f⟩;have P:=(f.get (ec ..)).1;have z2:=Vf.cell 2;have y5:=P.cell 5;simp at z2 y5;rw[<-MP.O]at y5;have m:=au f;clear f P Vf;go_cut [107] (λv wc=>v=ai dr/\Km=wc);case first=>as_aux_lemma =>
       clear m Hu LP SL MV Tg Hs MC Ho H Kq U Hl PN MP TE MU PC MT H1 LC Oj OF;cases us
       ·have E2:Hd (false=dr):=au (by simp[L.O]);clear L;go_wp2_with fail;go_meet;exact CU E2
       ·cases d1
        ·have E2:Hd (false=dr):=au (by simp[L.O]);clear L;go_wp2_with fail;go_meet;exact CU E2
        ·by_cases a1:sg=3
         ·subst a1;by_cases a2:0<ln
          ·have E2:Hd (true=dr):=au (by simp[L.O,a2]);have a3:(0:Int)<(ln:Int):=z;clear L;go_wp2_with fail;go_meet;exact CU E2
          ·have E2:Hd (false=dr):=au (by simp[L.O,a2]);have a3:¬(0:Int)<(ln:Int):=z;clear L;go_wp2_with fail;go_meet;exact CU E2
         ·have E2:Hd (false=dr):=au (by simp[L.O,a1]);have a3:(sg==3)=false:=by simpa using a1
          clear L a1;go_wp2_with fail;go_meet;exact CU E2
      case rest=>as_aux_lemma =>
      obtain⟨rfl,rfl⟩:=hcut;clear z2 y5;go_upto_if 107 with fail;obtain⟨Q1,Vg⟩:=dH (M.Qs.ab R C x d1 op Q);have Kn:=au Vg;clear Vg;go_cut [] (λwc=>∃SW,mD w wc B9 C (20*k+20) [.cw u 45 (jQ x N),.qs r SW Q1.qs,.cw r8 35 (C2 Q1.rw),.xX g mb Ln jo (3*k)]);case first=>as_aux_lemma =>
       clear LP SL MV Tg MC Ho Hl PN MU MT H1 LC Oj OF;cases dr
       ·have E1:Hd (Q1=Q):=au (by rw[Kn.O];unfold M.Qs.ab;rw[<-TE.O];rfl);go_wp2_with fail;go_meet;exact⟨fs,by rw[E1.O];exact m.O⟩
       ·have SI:us=true:=by
         have q:=L.O;cases us
         ·simp at q
         ·rfl
        have Kl:M.fY sb=true:=by
         have q:=H.O;rw[SI]at q;simp at q;exact q.2.2
        obtain⟨s0,s6⟩:=M.rR Kl;obtain⟨s,rfl⟩:∃s:Nat,sb=(s:Int):=⟨sb.toNat,z⟩;have E:s<6:=z;have Vh:(s:Int)<6:=z;obtain⟨d2,UH⟩:=dH (C.Aq s 6:Nat);have SX:Q1=⟨M.set Q.rw s (Q.rw s+1),M.set Q.qs s (if d0<d2 then(Q.qs s++[Q.rw s]).tail else Q.qs s++[Q.rw s])⟩:=by rw[Kn.O];unfold M.Qs.ab;rw[<-TE.O,<-U.O,PC.O,UH];rfl
        have D:AI Km r fs Q.qs:=m.O.get (x:=.qs r fs Q.qs) dt;have TF:=D.row s E;have hle:=Hs.O s;obtain⟨n,hn⟩:=dH (Q.rw s);obtain⟨xs,TW⟩:=dH (Q.qs s);rw[<-hn,<-TW]at hle SX;rw[<-TW]at TF;have Ia:=(m.O.get (x:=.cw r8 35 (C2 Q.rw)) dt).1;have n8:=D.Hi Ia aR aR;have c8:=(Ia.cell s).trans (DB Q.rw E);rw[<-hn]at c8;have VK:n<=120:=by have:=hle.1;omega
        have VL:xs.length<=120:=by have:=hle.2;omega
        obtain⟨PO,TG,UI,Vi,TH,HN,VM,Vj,Vk⟩:=By D TF Ia n8 SX hn TW UH c8;clear SI Kl s0 s6 D TF Ia n8 SX hn TW UH c8 hle Kn TE L H Kq MP Hs U;go_upto_region 19 with fail;go_cut [] (λwx=>∃s':Sl,mD w wx B9 C (20*k+20) [.cw u 45 (jQ x N),.qs r (AN fs s s') (M.set Q.qs (s:Int) (xs++[n])),.cw r8 35 (C2 Q.rw),.xX g mb Ln jo (3*k)]);case first=>as_aux_lemma =>
         clear TH HN VM Vj PC Hu;refine wp_region_held_drew (S:=λW=>cS (Ck r fs) Km W) cC ((cS.refl _ _).drew) (λhH=>?_);refine fS 0 (J V s) rfl hH ?_;try simp only[aA,pqq]
         refine fS 1 (J V s) rfl hH ?_;simp only[aA,pqq]
         refine fS 2 (aq (Z ⟨r,s,I⟩)) rfl hH ?_;simp only[aA,pqq]
         refine fS 4 (J V s) rfl hH ?_;simp only[aA,pqq]
         refine fS 5 (aq (Z ⟨r8,s,I⟩)) rfl hH ?_;simp only[aA,pqq]
         refine fS 6 (ag n) rfl hH ?_ (hy:=λW hW=>by have q:=((UI.O.dW hW Vi.O).cell s).trans (((UI.O.cell s).symm).trans Vk.O);go_simp);simp only[aA,pqq]
         refine cH (rs:=[3,7]) cC dt ?_;refine bH rfl (λK hK=>?_) (bH rfl (λK hK=>?_) cy)
         ·have q9:Km.drew.cell? ⟨r,s,I⟩=Z (EU (fs s)):=(PO.O.cell E).1;rw[if_pos jP];go_simp;refine hK.out _ _ hH (λh2=>?_);clear hK K;try simp only[aA,pqq]
          clear q9;refine cH (rs:=[7]) cC dt ?_;refine bH rfl (λK hK=>?_) cy;rw[if_pos jP];go_simp;refine hK.out _ _ (h2.alloc _) (λh3=>?_);clear hK K;try simp only[aA,pqq]
          refine cH (rs:=[8]) cC dt ?_;refine bH rfl (λK hK=>?_) cy;refine Bt jP (.tmp 111) (.tmp 115) jP (fs s) xs jP (TG.O.dW ((cS.refl cr Km).drew.alloc _) (λ_ _ q=>q)) z n Km.drew.heap.size jP ((aK.new Km.drew 3 #[ag n]).cell 0) ?_;intro s' w5 hI u5 TI;refine hK.out _ _ (h3.step u5 (λi q=>.inl (.inr ⟨s,E,q⟩))) (λh4=>?_);clear hK K;try simp only[aA,pqq]
          have b9:aK w5 r 37 (Hk fs):=((PO.O.cw.drew).alloc (.cells #[ag n] 3)).dW u5 (PO.O.ne E);have q9:=(b9.cell s).trans (DC fs E);have f9:=b9.frozen s;refine fS 9 (aq (Z ⟨r,s,I⟩)) rfl h4 ?_;try simp only[aA,pqq]
          refine cH (rs:=[10]) cC dt ?_;refine bH rfl (λK hK=>?_) cy;rw[if_pos jP];go_simp;refine hK.out _ _ (h4.setCell (p:=⟨r,s,I⟩) (.inl (.inl rfl)) _) (λh5=>?_);clear hK K;try simp only[aA,pqq]
          refine gV cC ?_ _;have II:=PO.O.put E (((cS.refl (fs s).own Km).drew.alloc (.cells #[ag n] 3)).trans u5) hI (λi hi=>(TI i hi).imp id (λq=>by simp at q;omega));have TJ:=m.O.IW (l1:=[.cw u 45 (jQ x N)]) (x:=.qs r fs Q.qs) (y:=.qs r (AN fs s s') (M.set Q.qs (s:Int) (xs++[n]))) II.2.1 II.1 II.2.2;have SM:=au TJ;clear II TJ h2 h3 h4 h5 hI u5 TI b9 q9 f9 hH;go_wp2_with fail;go_meet;exact⟨s',SM.O⟩
         ·have q9:(Km.alloc (.cells #[ag n] 3)).drew.cell? ⟨r,s,I⟩=Z (EU (fs s)):=by
           have Tj:(Km.drew.alloc (.cells #[ag n] 3)).cell? ⟨r,s,I⟩=Z (EU (fs s)):=ea (PO.O.cell E).1;exact Tj
          rw[if_pos jP];go_simp;refine hK.out _ _ (hH.alloc _) (λh3=>?_);clear hK K;try simp only[aA,pqq]
          refine cH (rs:=[3]) cC dt ?_;refine bH rfl (λK hK=>?_) cy;rw[if_pos jP];go_simp;refine hK.out _ _ h3 (λh2=>?_);clear hK K;try simp only[aA,pqq]
          clear q9;refine cH (rs:=[8]) cC dt ?_;refine bH rfl (λK hK=>?_) cy;refine Bt jP (.tmp 111) (.tmp 115) jP (fs s) xs jP (TG.O.dW ((cS.refl cr Km).drew.alloc _) (λ_ _ q=>q)) z n Km.drew.heap.size jP ((aK.new Km.drew 3 #[ag n]).cell 0) ?_;intro s' w5 hI u5 TI;refine hK.out _ _ (h3.step u5 (λi q=>.inl (.inr ⟨s,E,q⟩))) (λh4=>?_);clear hK K;try simp only[aA,pqq]
          have b9:aK w5 r 37 (Hk fs):=((PO.O.cw.drew).alloc (.cells #[ag n] 3)).dW u5 (PO.O.ne E);have q9:=(b9.cell s).trans (DC fs E);have f9:=b9.frozen s;refine fS 9 (aq (Z ⟨r,s,I⟩)) rfl h4 ?_;try simp only[aA,pqq]
          refine cH (rs:=[10]) cC dt ?_;refine bH rfl (λK hK=>?_) cy;rw[if_pos jP];go_simp;refine hK.out _ _ (h4.setCell (p:=⟨r,s,I⟩) (.inl (.inl rfl)) _) (λh5=>?_);clear hK K;try simp only[aA,pqq]
          refine gV cC ?_ _;have II:=PO.O.put E (((cS.refl (fs s).own Km).drew.alloc (.cells #[ag n] 3)).trans u5) hI (λi hi=>(TI i hi).imp id (λq=>by simp at q;omega));have TJ:=m.O.IW (l1:=[.cw u 45 (jQ x N)]) (x:=.qs r fs Q.qs) (y:=.qs r (AN fs s s') (M.set Q.qs (s:Int) (xs++[n]))) II.2.1 II.1 II.2.2;have SM:=au TJ;clear II TJ h2 h3 h4 h5 hI u5 TI b9 q9 f9 hH;go_wp2_with fail;go_meet;exact⟨s',SM.O⟩
        case rest=>as_aux_lemma =>
        obtain⟨s',f⟩:=hcut;clear m PO TG UI Vi Vk;have Ia:=(f.get (x:=.cw r8 35 (C2 Q.rw)) dt).1;have c8:=(Ia.cell s).trans (DB Q.rw E);rw[<-HN.O]at c8;have f8:=Ia.frozen s;have m:=au f;clear f Ia;go_upto_region 21 with fail;refine aW (λX=>mD w X B9 C (20*k+20) [.cw u 45 (jQ x N),.qs r (AN fs s s') (M.set Q.qs (s:Int) (xs++[n])),.cw r8 35 (C2 (M.set Q.rw (s:Int) (n+1))),.xX g mb Ln jo (3*k)]) (by
         have Tj:=m.O.set (l1:=[.cw u 45 (jQ x N),.qs r (AN fs s s') (M.set Q.qs (s:Int) (xs++[n]))]) s (ag (n+1))
         rw[Dv Q.rw E]at Tj
         exact Tj) ?_
        clear m c8 f8;rintro X f;have Td:=C8 f.aG (s:Int) z Hu.O.wf.vz;have rb:=f.aG.cw;rw[NR]at rb;have Ts:=rb.cell 0;simp at Ts;have i9:=GS;obtain⟨SV,m⟩:=bu Td f;clear Td rb f;rw[<-Vj.O]at SV;by_cases Tq:d0<d2
        ·have hw:(d0:Int)<(d2:Int):=z;obtain⟨y,ys,hy⟩:∃y ys,xs++[n]=y::ys:=by
          cases xs with
          |nil=>exact⟨n,[],rfl⟩
          |cons a b=>exact⟨a,b++[n],rfl⟩
         have E1:Hd (Q1=⟨M.set Q.rw s (n+1),M.set Q.qs s ys⟩):=au (by rw[TH.O,if_pos Tq,hy];rfl);have HY:=au hy;clear Tq hy TH;go_upto_region 22 with(go_at_call 12;refine SV.O.mono ?_;rintro e w6 ⟨⟨a0,a1,a2,a3,a4,a5,a7,a8,rfl⟩,b6⟩;have Vl:=au b6;clear b6)
         refine aW (λTe=>mD w Te B9 C (20*k+20) [.cw u 45 (jQ x N),.qs r (AN fs s s') (M.set Q.qs (s:Int) (xs++[n])),.cw r8 35 (C2 (M.set Q.rw (s:Int) (n+1))),.xX g mb Ln jo (3*k)]) (m.O.below Vl.O) ?_;clear m Vl SV Ts i9;rintro Te f;have D:AI Te r (AN fs s s') (M.set Q.qs (s:Int) (xs++[n])):=f.get (x:=.qs r (AN fs s s') (M.set Q.qs (s:Int) (xs++[n]))) dt;obtain⟨g1,o1,Ko,e1,e2,e3,e4⟩:=D.cutAt E (y:=y) (ys:=ys) (by unfold M.set;rw[if_pos rfl];exact HY.O);obtain⟨c9,f9⟩:=D.cell E;rw[e1]at c9;have q7:(1:Int)<=(ys.length:Int)+1:=z;by_cases TM:Ko=1
         ·subst TM;obtain rfl:ys=[]:=wU z;obtain⟨e5,e6,e7⟩:=e4 o1 (.inr ⟨rfl,rfl⟩);have F:=f.IW (l1:=[.cw u 45 (jQ x N)]) (x:=.qs r (AN fs s s') (M.set Q.qs (s:Int) (xs++[n]))) (y:=.qs r _ _) e6 e5 e7;rw[EZ]at F;have M7:=au F;clear F f D e1 e3 e4 e5 e6 e7;go_wp2_with fail;go_meet;exact⟨_,by rw[E1.O];exact M7.O⟩
         ·have q5:¬Ko-1=0:=z;have q6:(Ko-1==0)=false:=dZ;have q8:(ys.length:Int)+1<=(Ko:Int):=z;have q9:(1:Int)<=(Ko:Int):=z;obtain⟨e5,e6,e7⟩:=e4 (o1+1) (.inl rfl);have F:=f.IW (l1:=[.cw u 45 (jQ x N)]) (x:=.qs r (AN fs s s') (M.set Q.qs (s:Int) (xs++[n]))) (y:=.qs r _ _) e6 e5 e7;rw[EZ]at F;have M7:=au F;clear F f D e1 e3 e4 e5 e6 e7 TM;go_wp2_with fail;go_meet;exact⟨_,by rw[E1.O];exact M7.O⟩
        ·have hw:¬(d0:Int)<(d2:Int):=z;have E1:Hd (Q1=⟨M.set Q.rw s (n+1),M.set Q.qs s (xs++[n])⟩):=au (by rw[TH.O,if_neg Tq]);clear Tq TH;go_wp2_with (go_at_call 12;refine SV.O.mono ?_;rintro e w6 ⟨⟨a0,a1,a2,a3,a4,a5,a7,a8,rfl⟩,b6⟩;have m:=au (m.O.below b6);clear b6);go_meet;exact⟨_,by rw[E1.O];exact m.O⟩
      case rest=>as_aux_lemma =>
      obtain⟨RU,f⟩:=hcut;have SJ:=tL f.aG sb MU.O z;rw[NR]at SJ;obtain⟨ro,TX⟩:=dH (M.kA C sb);rw[<-TX]at SJ;obtain⟨dw,UJ⟩:=dH (M.ya R C x op);have Ug:dw=(us&&decide (n0<ro.length)):=by rw[UJ,H.O,U.O,MT.O,TX,U.O];rfl
      have Uh:Q1.Le (k+1):=by rw[Kn.O];exact Hs.O.ab R C x d1 op
      clear m Hs;obtain⟨Tt,m,SA,T,SG,Hs⟩:=lH SJ f UJ Ug TX Uh;clear SJ f UJ Ug TX Uh TE L;go_upto_region 24 with(go_at_call 13;refine Tt.O.mono ?_;rintro e UK ⟨v,q,rfl,own,fit,P⟩;obtain⟨A,c,rfl⟩:=bA own;have SZ:=au own;have SN:=au fit;have m:=au (m.O.below P);clear own fit P)
      clear Tt;go_cut [147] (λv wc=>v=ai dw/\UK=wc);case first=>as_aux_lemma =>
       clear m SZ SN Hu LP SL MV Tg Hs MC Ho H Kq U Hl PN MP SA MU PC MT SG Kn H1 LC Oj OF;cases us
       ·have E2:Hd (false=dw):=au (by simp[T.O]);clear T;go_wp2_with fail;go_meet;exact CU E2
       ·by_cases a2:n0<ro.length
        ·have E2:Hd (true=dw):=au (by simp[T.O,a2]);have a3:(n0:Int)<(ro.length:Int):=z;clear T a2;go_wp2_with fail;go_meet;exact CU E2
        ·have E2:Hd (false=dw):=au (by simp[T.O,a2]);have a3:¬(n0:Int)<(ro.length:Int):=z;clear T a2;go_wp2_with fail;go_meet;exact CU E2
      case rest=>as_aux_lemma =>
      obtain⟨rfl,rfl⟩:=hcut;go_upto_if 147 with fail;obtain⟨Q2,Vm⟩:=dH (M.Qs.wrote R C x op Q1);have SH:=au Vm;clear Vm;go_cut [] (λwc=>∃SW,mD w wc B9 C (20*k+20) [.cw u 45 (jQ x N),.qs r SW Q2.qs,.cw r8 35 (C2 Q2.rw),.xX g mb Ln jo (3*k)]);case first=>as_aux_lemma =>
       clear LP Tg Hs MC Ho Hl PN H1 LC Oj OF;cases dw
       ·have E1:Hd (Q2=Q1):=au (by rw[SH.O];unfold M.Qs.wrote;rw[<-SA.O];rfl);go_wp2_with fail;go_meet;exact⟨RU,by rw[E1.O];exact m.O⟩
       ·have SI:us=true:=by
         have q:=T.O;cases us
         ·simp at q
         ·rfl
        have Kl:=H.O;rw[SI]at Kl;simp at Kl;obtain⟨s0,s6⟩:=M.rR Kl.2.2;obtain⟨s,rfl⟩:∃s:Nat,sb=(s:Int):=⟨sb.toNat,z⟩;have E:s<6:=z;have Vh:(s:Int)<6:=z;have UL:=MV.O.2;rw[<-SA.O,<-Kn.O,<-U.O,<-MT.O,<-SG.O]at UL;obtain⟨kq,ys,ox,h1,h2,h3,h4,h5,h6⟩:=UL rfl;have Vn:=Ti.O s n0 ox Kl.2.1 (by rw[<-SG.O];exact h3);have E1:Hd (Q2=⟨Q1.rw,M.set Q1.qs s ys⟩):=au (by rw[SH.O];unfold M.Qs.wrote;rw[<-SA.O,if_pos rfl,<-U.O,h1];rfl);obtain⟨d,hd,VN⟩:=SN.O.get h3;obtain⟨b,rfl,hb,VY,hi⟩:=VN;have Ui:=GM m.O.aG s;rw[<-SG.O,h2]at Ui;have TS:n0<=5000:=z;obtain⟨rr,cap,e1,VZ,TN⟩:=jZ SZ.O (SN.O.len (DP UK)) z;injection e1 with e1 e2 e3
        subst e1 e3;have k1:=TN n0 _ hd 1 z;simp at k1;rw[h2];have V0:(n0:Int)<(n0:Int)+1:=z;obtain⟨p,hp⟩:=dH ((M.eP ox.2).1);have UM:=wF b.a b.n b.c ox.2 UK hb.tl hb.zero z;rw[h4,<-hp]at UM;rw[<-hp]at h5 h6;obtain⟨Vo,Vp,Vq,Vr,TY,Vs⟩:=lH UM h5 h6 Vn h1 h2;clear UM h5 h6 Vn h1 h2 h3 h4 hp hd hb TN Kl SI UL Ui s0 s6 Kn SH MV SL Ti SA T H Kq U SG MT SZ SN Hu PC MU;go_upto_region 26 with(go_at_call 16;refine Vo.O.mono ?_;rintro e VO ⟨⟨s2,x2,y2,rfl,hP⟩,Vt⟩;have TO:=au Vt;clear hP Vt)
        obtain⟨VP,UN⟩:=dH VO.heap.size;rw[<-UN];refine aW (λTe=>aK Te VP 76 (uA p s2 x2 y2)/\mD w Te B9 C (20*k+20) [.cw u 45 (jQ x N),.qs r RU Q1.qs,.cw r8 35 (C2 Q1.rw),.xX g mb Ln jo (3*k)]) ⟨aK.newAt _ _ _ _ UN,m.O.below (TO.O.alloc TO.O.size _)⟩ ?_;clear m TO Vo k1 UN;rintro Te ⟨UO,f⟩;have D:AI Te r RU Q1.qs:=f.get (x:=.qs r RU Q1.qs) dt;obtain⟨g1,o1,Ko,e1,e2,e3,e4⟩:=D.cutAt E TY.O;obtain⟨c9,f9⟩:=D.cell E;rw[e1]at c9;unfold EU at c9;obtain⟨j1,j2,j3⟩:=(f.get (x:=.xX g mb Ln jo (3*k)) dt).Ab E;rw[Vr.O]at j1 j3;have k2:=UO.cell 2;have k4:=UO.cell 4;simp at k2 k4;obtain⟨sq,UP⟩:=dH p.dQ;obtain⟨sr,UQ⟩:=dH p.bJ;obtain⟨jq,UR⟩:=dH ((G s).dQ);have SX:=Vp.O;have US:=Vq.O;rw[<-UP,<-UR]at SX;rw[<-UQ]at US;simp only[<-UR,<-US]at j1 j3;rw[<-UP]at k2;rw[<-UQ]at k4;obtain⟨kz,UT⟩:=dH ((kq:Int) % 65536);have v1:aN.wrap (kq:Int)=kz:=by rw[wrap_u16];exact UT.symm
        have v2:aN.wrap (jq+kz)=sq:=by rw[wrap_u16,SX,UT];omega
        obtain⟨m,TY⟩:=bu f TY.O;have Vu:V.wrap ((n0:Int)+1)=(n0:Int)+1:=IntWalk.i64_in _ z;have Vv:(((ys.length:Int)+1)==0)=false:=dZ;have Vw:(0:Int)<(ys.length:Int)+1:=z;clear f D e1 e2 e4 UP UQ UR SX US UT UO Vp Vq Vr j2;go_quiet (fail);go_upto_region 28 with fail;refine aW (λTe=>mD w Te B9 C (20*k+20) [.cw u 45 (jQ x N),.qs r RU Q1.qs,.cw r8 35 (C2 Q1.rw),.xX g mb Ln jo (3*k)]) (m.O.below (cd (ao _ _) _)) ?_;clear m c9 f9 e3 j1 j3 k2 k4 v1 v2 Vu Vv Vw;rintro Z2 f;have D:AI Z2 r RU Q1.qs:=f.get (x:=.qs r RU Q1.qs) dt;obtain⟨g1,o1,Ko,e1,e2,e3,e4⟩:=D.cutAt E TY.O;obtain⟨c9,f9⟩:=D.cell E;rw[e1]at c9;have q7:(1:Int)<=(ys.length:Int)+1:=z;by_cases TM:Ko=1
        ·subst TM;obtain rfl:ys=[]:=wU z;obtain⟨e5,e6,e7⟩:=e4 o1 (.inr ⟨rfl,rfl⟩);have F:=f.IW (l1:=[.cw u 45 (jQ x N)]) (x:=.qs r RU Q1.qs) (y:=.qs r _ _) e6 e5 e7;have M7:=au F;clear F f D e1 e3 e4 e5 e6 e7;go_wp2_with fail;rw[<-Vs.O];go_meet;exact⟨_,by rw[E1.O];exact M7.O⟩
        ·have q5:¬Ko-1=0:=z;have q6:(Ko-1==0)=false:=dZ;have q8:(ys.length:Int)+1<=(Ko:Int):=z;have q9:(1:Int)<=(Ko:Int):=z;obtain⟨e5,e6,e7⟩:=e4 (o1+1) (.inl rfl);have F:=f.IW (l1:=[.cw u 45 (jQ x N)]) (x:=.qs r RU Q1.qs) (y:=.qs r _ _) e6 e5 e7;have M7:=au F;clear F f D e1 e3 e4 e5 e6 e7 TM;go_wp2_with fail;rw[<-Vs.O];go_meet;exact⟨_,by rw[E1.O];exact M7.O⟩
      case rest=>as_aux_lemma =>
      obtain⟨Ld,f⟩:=hcut;have Vx:=au (qL (f.get (ec ..)).1);have hw:=f.th (.xX g mb Ln jo (3*k)) dt;have Tc:=vA x N f1 f.aG hw.1 (hw.2 g (.inl rfl)).1 (hw.2 mb (.inr rfl)).1 (λq=>Hl.O q) (λq=>PN.O q) z;rw[NR]at Tc;clear m SZ SN;have m:=au f;have Tp:=au Tc;clear f hw Tc;go_upto_region 30 with(first
       |(go_at_call 17;refine Tp.O.mono ?_;rintro e T8 ⟨rfl,hA14,f14⟩;have I8:=au (m.O.IW (l1:=[.cw u 45 (jQ x N),.qs r Ld Q2.qs,.cw r8 35 (C2 Q2.rw)]) (x:=.xX g mb Ln jo (3*k)) (y:=.xX g mb (M.kF x f1 Ln) (M.vy C x f1 jo) (3*k+3)) f14 hA14 (λi hi=>.inl hi));clear hA14 f14)
       |(refine gQ rfl 45 (.tmp 12) rfl u 0 rfl (jQ x N).toList _ Vx.O underlying45 rfl pV ?_))
      have P:=(I8.O.get (ec ..)).1;have y0:=P.cell 0;have y1:=P.cell 1;simp at y0 y1;obtain⟨cl,SK⟩:=dH (!C.cN);have TP:=Tg.O;rw[<-SK]at TP;obtain⟨Ta,I9⟩:=bu SK TP;clear SK TP P m Tp Vx Tg;go_cut [10] (λv wc=>v=ai cl/\T8=wc);case first=>as_aux_lemma =>
       clear I8 Hu LP SL Ti MV Hs MC Ho H Kq U Hl PN MP SA T MU PC MT SG Kn SH H1 LC Oj OF Ta y1;cases op
       ·have E2:Hd (false=cl):=au (by simp[I9.O]);clear I9;go_wp2_with fail;go_meet;exact CU E2
       ·by_cases a1:x.nv=8
        ·have E2:Hd (false=cl):=au (by simp[I9.O,a1]);rw[a1]at y0;clear I9 a1;go_wp2_with fail;go_meet;exact CU E2
        ·have E2:Hd (true=cl):=au (by simp[I9.O,a1]);have a2:(x.nv !=8)=true:=by simpa using a1
         clear I9 a1;go_wp2_with fail;go_meet;exact CU E2
      case rest=>as_aux_lemma =>
      obtain⟨rfl,rfl⟩:=hcut;go_upto_region 31 with fail;obtain⟨jn,Tf⟩:=dH (decide (x.nv=4)&&decide (f1=0));have M9:=au Tf;clear Tf;go_cut [229] (λv wc=>v=ai jn/\T8=wc);case first=>as_aux_lemma =>
       clear I8 Hu LP SL Ti MV Hs MC Ho H Kq U Hl PN MP SA T MU PC MT SG Kn SH H1 LC Oj OF Ta I9 y1;by_cases a1:x.nv=4
       ·rw[a1]at y0;by_cases a2:f1=0
        ·have E2:Hd (true=jn):=au (by simp[M9.O,a1,a2]);subst a2;clear M9 a1;go_wp2_with fail;go_meet;exact CU E2
        ·have E2:Hd (false=jn):=au (by simp[M9.O,a1,a2]);have a3:(f1==0)=false:=by simpa using a2
         clear M9 a1 a2;go_wp2_with fail;go_meet;exact CU E2
       ·have E2:Hd (false=jn):=au (by simp[M9.O,a1]);have a3:(x.nv==4)=false:=by simpa using a1
        clear M9 a1;go_wp2_with fail;go_meet;exact CU E2
      case rest=>as_aux_lemma =>
      obtain⟨rfl,rfl⟩:=hcut;clear y0;go_upto_if 229 with fail;obtain⟨Q3,Vy⟩:=dH (M.Qs.lu x f1 Q2);have Tk:=au Vy;clear Vy;go_cut [] (λwc=>∃SW,mD w wc B9 C (20*k+20) [.cw u 45 (jQ x N),.qs r SW Q3.qs,.cw r8 35 (C2 Q3.rw),.xX g mb (M.kF x f1 Ln) (M.vy C x f1 jo) (3*k+3)]);case first=>as_aux_lemma =>
       clear Hu LP SL Ti MV Hs MC Ho H Kq U PN MP SA T MU PC MT SG Kn SH H1 LC Oj OF Ta I9;cases jn
       ·have E1:Hd (Q3=Q2):=au (by
         have q:=M9.O
         rw[Tk.O];unfold M.Qs.lu
         rw[if_neg (λTj=>by rw[decide_eq_true Tj.1,decide_eq_true Tj.2]at q;cases q)])
        clear y1;go_wp2_with fail;go_meet;exact⟨Ld,by rw[E1.O];exact I8.O⟩
       ·have q:=M9.O;simp at q;obtain⟨q4,q0⟩:=q;obtain⟨s0,s6⟩:=Hl.O q0 z z;obtain⟨s,hs⟩:∃s:Nat,x.sub=(s:Int):=⟨x.sub.toNat,z⟩;have E:s<6:=z;have Vh:(s:Int)<6:=z;have E1:Hd (Q3=⟨M.set Q2.rw s 0,M.set Q2.qs s []⟩):=au (by rw[Tk.O];unfold M.Qs.lu;rw[if_pos ⟨q4,q0⟩,hs]);rw[hs]at y1;have Ia:=(I8.O.get (x:=.cw r8 35 (C2 Q2.rw)) dt).1;have c8:=(Ia.cell s).trans (DB Q2.rw E);have f8:=Ia.frozen s;have D:AI T8 r Ld Q2.qs:=I8.O.get (x:=.qs r Ld Q2.qs) dt;obtain⟨c9,f9⟩:=D.cell E;have V1:r8≠r:=aK.jf Ia D.cw aR;have P:=(I8.O.get (ec ..)).1;have VU:r8≠u:=aK.jf Ia P aR;have VV:r≠u:=aK.jf D.cw P aR;clear M9 q4 q0 s0 s6 hs Ia D Tk Hl P;go_upto_region 32 with fail;have hD:mD w T8.drew B9 C (20*k+20) [.cw u 45 (jQ x N),.qs r Ld Q2.qs,.cw r8 35 (C2 Q2.rw),.xX g mb (M.kF x f1 Ln) (M.vy C x f1 jo) (3*k+3)]:=I8.O.below (cd (ao _ _) 1);have hA:=hD.set (l1:=[.cw u 45 (jQ x N),.qs r Ld Q2.qs]) (g:=r8) s (ag 0);rw[Dv Q2.rw E]at hA;have pA:=AI.put (hA.get (x:=.qs r Ld Q2.qs) dt) E (x:=⟨I,0,0⟩) (l:=[]) (cS.refl _ _) (AO.nil _) (λi ⟨o,e⟩=>by cases e);have hA2:=hA.IW (l1:=[.cw u 45 (jQ x N)]) (x:=.qs r Ld Q2.qs) (y:=.qs r _ _) pA.2.1 pA.1 pA.2.2;have pB:=AI.put (hD.get (x:=.qs r Ld Q2.qs) dt) E (x:=⟨I,0,0⟩) (l:=[]) (cS.refl _ _) (AO.nil _) (λi ⟨o,e⟩=>by cases e);have hB:=hD.IW (l1:=[.cw u 45 (jQ x N)]) (x:=.qs r Ld Q2.qs) (y:=.qs r _ _) pB.2.1 pB.1 pB.2.2;have UU:=hB.set (l1:=[.cw u 45 (jQ x N),.qs r _ _]) (g:=r8) s (ag 0);rw[Dv Q2.rw E]at UU;obtain⟨VQ,Lz⟩:=bu hA2 UU;clear hD hA pA hA2 pB hB UU;go_region;all_goals
         go_wp2_with fail;go_meet;exact⟨AN Ld s ⟨I,0,0⟩,by rw[E1.O];first|exact VQ.O|exact Lz.O⟩
      case rest=>as_aux_lemma =>
      obtain⟨T9,f⟩:=hcut;clear I8 y1;have Ua:=MV.O.1;rw[<-Kn.O,<-SH.O,<-Tk.O]at Ua;have Uj:(M.Qs.Cj C Q3).Le (k+1):=by rw[Tk.O,SH.O];exact((Hs.O.wrote R C x op).lu x f1).Cj C
      have TQ:=Ua.lens;obtain⟨m,VR,Vz,UW⟩:=cA f Ua Uj TQ;clear f Ua Uj TQ MV Kn SH Tk Hs LP Ti MC Ho H Kq U Hl PN MP SA T MU PC MT SG I9 M9;go_wp2_with fail;go_loopw [236] (λv wr=>∃(j:Nat) (SW:Nat->Sl),v=J V j/\j<=6/\mD w wr B9 C (20*k+20) [.cw u 45 (jQ x N),.qs r SW (nB C Q3.qs j),.cw r8 35 (C2 Q3.rw),.xX g mb (M.kF x f1 Ln) (M.vy C x f1 jo) (3*k+3)]) (λv _=>6-(intOf v).toNat);case atStart=>exact⟨0,T9,rfl,z,m.O.alt (l1:=[.cw u 45 (jQ x N)]) (x:=.qs r T9 Q3.qs) (y:=.qs r T9 _) ((m.O.get (x:=.qs r T9 Q3.qs) dt).congr (λs _=>EV C Q3.qs s)) (λ_ h=>h)⟩
      case round =>
       clear m;obtain⟨j,Kk,rfl,hj,f⟩:=hrel;by_cases Ub:j<6
       ·have VF:((j:Int)<6):=z;have Kr:=AZ f.aG (j:Int) (Ig z z);rw[NR]at Kr;obtain⟨la,lb,th,Kw⟩:=tv C j;rw[Kw]at Kr;obtain⟨ln,hlen⟩:=dH (zk C j);obtain⟨gn,Tz⟩:=dH (C.eG j);obtain⟨cu,TA⟩:=dH ((ud C j).1);obtain⟨tg,TC⟩:=dH ((ud C j).2);rw[<-hlen,<-Tz,<-TA,<-TC]at Kr;have VA:M.pe C j=ln:=hlen.symm;obtain⟨TD,m,SM⟩:=bU Kr f VA;clear Kr f Kw hlen Tz TA TC VA;go_upto_region 37 with(go_at_call 15;refine TD.O.mono ?_;rintro e VB ⟨rfl,VC⟩;have Tb:=au VC;clear VC)
        obtain⟨VD,UX⟩:=dH (VB.heap.size+1);rw[<-UX];have bb:aC wr ((VB.alloc (.cells #[J V cu,J V tg] 68)).alloc (.cells #[J V la,J V lb,ag ln] 69)):=(Tb.O.alloc Tb.O.size _).alloc (by have:=Tb.O.size;simp;omega) _;refine aW (λKm=>aK Km VD 69 #[J V la,J V lb,ag ln]/\mD w Km B9 C (20*k+20) [.cw u 45 (jQ x N),.qs r Kk (nB C Q3.qs j),.cw r8 35 (C2 Q3.rw),.xX g mb (M.kF x f1 Ln) (M.vy C x f1 jo) (3*k+3)]) ⟨aK.newAt _ _ _ _ (by rw[UX];simp),m.O.below bb⟩ ?_;clear UX bb Tb TD m;rintro Km ⟨SO,f⟩;have z2:=SO.cell 2;simp at z2;have D:AI Km r Kk (nB C Q3.qs j):=f.get (x:=.qs r Kk (nB C Q3.qs j)) dt;obtain⟨c9,f9⟩:=D.cell Ub;have Uc:=(D.row j Ub).len;by_cases h0:ln=0
        ·have hp:=D.put Ub (x:=⟨I,0,0⟩) (l:=[]) (cS.refl _ _) (AO.nil _) (λi ⟨o,e⟩=>by cases e);have F:=f.IW (l1:=[.cw u 45 (jQ x N)]) (x:=.qs r Kk (nB C Q3.qs j)) (y:=.qs r (AN Kk j ⟨I,0,0⟩) (nB C Q3.qs (j+1))) hp.2.1 (hp.1.congr (λs _=>E0 C Q3.qs j (SM.O.trans h0) s)) hp.2.2;have Uk:=SO.dS (p:=⟨r,j,I⟩) (aK.jf SO D.cw aR) (ae I 0 0);subst h0;obtain⟨M7,Ul⟩:=bu F Uk;clear hp F f D Uc SO Uk;go_upto_region 39 with fail;refine aW (λKm=>aK Km VD 69 #[J V la,J V lb,ag 0]/\mD w Km B9 C (20*k+20) [.cw u 45 (jQ x N),.qs r (AN Kk j ⟨I,0,0⟩) (nB C Q3.qs (j+1)),.cw r8 35 (C2 Q3.rw),.xX g mb (M.kF x f1 Ln) (M.vy C x f1 jo) (3*k+3)]) ⟨Ul.O,M7.O⟩ ?_;clear M7 Ul z2 c9 f9;rintro V2 ⟨SO,f⟩;have z2:=SO.cell 2;simp at z2;have c9:=(AI.cell (f.get (x:=.qs r (AN Kk j ⟨I,0,0⟩) (nB C Q3.qs (j+1))) dt) Ub).1;rw[show AN Kk j ⟨I,0,0⟩ j=⟨I,0,0⟩ from if_pos rfl]at c9;have m:=au f;clear f SO;go_quiet (fail);go_wp2_with fail;go_roundw;case rel=>exact⟨j+1,_,by go_num,z,m.O.below (cd (ao _ _) _)⟩
         case measure=>simp[intOf];omega
        ·have hq:=UW.O j;have he:(nB C Q3.qs j j).length=ln:=by
          unfold nB;rw[if_neg (λTj=>z)];have q:(if M.pe C j=0 then[] else Q3.qs j).length=M.pe C j:=hq;rw[if_neg (by rw[SM.O];exact h0),SM.O]at q;exact q
         rw[he]at Uc;have F:=f.alt (l1:=[.cw u 45 (jQ x N)]) (x:=.qs r Kk (nB C Q3.qs j)) (y:=.qs r Kk (nB C Q3.qs (j+1))) (D.congr (λs _=>EW C Q3.qs j (by rw[SM.O];exact h0) s)) (λ_ h=>h);unfold EU at c9;rw[Uc]at c9;have V3:((ln:Int)==0)=false:=dZ;have m:=au F;clear F f D Uc he hq SO h0;go_upto_region 39 with fail;go_quiet (fail);go_wp2_with fail;go_roundw;case rel=>exact⟨j+1,_,by go_num,z,m.O.below (cd (ao _ _) _)⟩
         case measure=>simp[intOf];omega
       ·have VS:j=6:=z;subst VS;have F:=f.alt (l1:=[.cw u 45 (jQ x N)]) (x:=.qs r Kk (nB C Q3.qs 6)) (y:=.qs r Kk (M.Qs.Cj C Q3).qs) (AI.congr (f.get (x:=.qs r Kk (nB C Q3.qs 6)) dt) (λs hs=>by
         show(if M.pe C s=0 then[] else Q3.qs s)=if(s:Int)<((6:Nat):Int)/\M.pe C s=0 then[] else Q3.qs s
         by_cases Tj:M.pe C s=0
         ·rw[if_pos Tj,if_pos ⟨z,Tj⟩]
         ·rw[if_neg Tj,if_neg (λq=>Tj q.2)])) (λ_ h=>h)
        have m:=au (F.sub (List.sublist_cons_self _ _));clear F f;go_wp2_with fail;go_roundw;case rel=>exact⟨k+1,B9,C,_,_,_,M.Qs.Cj C Q3,Kk,by rw[Ta.O],by go_num,z,NR,m.O,Hu.O,SL.O,VR.O,Vz.O⟩
        case measure=>simp[intOf];omega
    ·have VT:k=n1:=z;subst VT;have m:=au f;clear f Up Uq hQ Ur;go_wp2_with fail;go_ret;exact⟨rfl,m.O.bw⟩
end Go.Proofs.YtkfblammcilfhaaGreatDoor
