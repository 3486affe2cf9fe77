import Derived.Test.YtkfblammcilfhaaGreatDoorP20
set_option linter.all false
set_option maxRecDepth 100000
set_option maxHeartbeats 100000000
open Go.ChangeShapes Go.WideShapes Go.ChangeAt Go.RowKit Go.Proofs.Tryz
open Go renaming World->aw,wpList_load_mid->gQ
open Go.Proofs.Tryz renaming prog->af
open Go.IntKind renaming min->jI,max->jJ,signed->fR,bits->gM,i64->V,u8->bI
open Go.RowKit.Below renaming refl->ao
open Nat renaming le_refl->aj
open Go.RowKit renaming run_makeMap->AJ,intOf->bS
open List renaming getElem_mem->dy,mem_cons_self->Ac,length_map->gP,length_append->cG,sublist_cons_self->oq
open Go.Instr renaming mapUpdate->eF,lookup->cD
open Go.Value renaming bool->ai,int->J,slice->ae,pointer->aq,tuple->aB,agg->cg
open Go.Ending renaming returned->av
open Option renaming none->I,some->Z
namespace Go.Proofs.YtkfblammcilfhaaGreatDoor
def SI(aG eJ cX eA ek aT:Int)(A1:Option Addr)(n1 c1:Nat)(l:List M.Act)(my:Int)(Wo:(Lit.int bI my).wf=true)(w:aw)(h1:pZ w A1 n1 l)(HA:IM w) :
  Calls af 4 #[cg #[J V aG,J V eJ,J V cX,J V eA,J V ek,J V aT],ae A1 n1 c1,J bI my] w λe w'=>e=av (ai true)/\aC w w':=by
 obtain⟨H1,Wp⟩:=bu h1 HA;have XP:=h1.1;have XK:0<=my/\my<=255:=by simpa[Lit.wf,jI,jJ,fR,gM]using Wo
 clear Wo;clear h1 HA;go_enter func4,ntmps4;go_upto_region 1 with fail;obtain⟨r2,e2⟩:=dH w.heap.size;rw[<-e2];refine aW (λX=>aK X r2 25 #[J V aG,J V eJ,J V cX,J V eA,J V ek,J V aT]/\aC w X) ⟨aK.newAt _ _ _ _ e2,(ao _ w).alloc (aj _) _⟩ ?_;have h2:w.heap.size<=r2:=z;clear e2;rintro X ⟨b2,bX⟩;obtain⟨Wq,Uf,VE⟩:=bU (Wp.O X bX) b2 bX;clear b2 bX Wp;go_upto_region 3 with(go_at_call 8;refine Wq.O.mono ?_;rintro e w2 ⟨rfl,b3⟩;have TH:=au b3;clear b3)
 have bw:=VE.O.trans (TH.O.mono VE.O.size);have b2:=Uf.O.kept TH.O;have k0:=b2.cell 0;have k1:=b2.cell 1;have k2:=b2.cell 2;have k3:=b2.cell 3;have k4:=b2.cell 4;have k5:=b2.cell 5;simp at k0 k1 k2 k3 k4 k5;obtain⟨Uf,TI⟩:=bu b2 bw;clear b2 bw VE TH Wq;cases hc:M.jr aG eJ cX eA ek aT with
 |false =>
  have Wr:=λW=>xV aG eJ cX eA ek aT W hc;have HN:=au Wr;clear Wr hc;go_wp2_with (go_at_call 9;refine(HN.O _).mono ?_;rintro e w3 ⟨rfl,b3⟩;have TI:=au (TI.O.trans (b3.mono TI.O.size));clear b3);go_ret;exact⟨rfl,TI.O⟩
 |true =>
  obtain⟨rm,rfl⟩:∃rm:Nat,aG=(rm:Int):=by
   have q:=hc;simp only[M.jr,Bool.and_eq_true,decide_eq_true_eq]at q;exact⟨aG.toNat,z⟩
  have Ug:=hc;simp only[M.jr,Bool.and_eq_true,decide_eq_true_eq]at Ug;obtain⟨cf,VF⟩:=dH (⟨rm,eJ,cX,eA,ek,aT⟩:M.Ou);have Uh:=λW=>tM rm eJ cX eA ek aT W hc;rw[<-VF]at Uh;obtain⟨Vo,To,Tj⟩:=bU Uh Ug VF;clear Uh hc Ug VF;go_upto_region 4 with(go_at_call 9;refine(Vo.O _).mono ?_;rintro e w3 ⟨⟨B,rfl,hR,Vp⟩,b3⟩;have TH:=au b3;have HR:=au hR;have Ui:=au Vp;clear b3 hR Vp)
  have d:mD w w3 B (.new cf) 0 [.cw r2 25 #[J V (rm:Int),J V eJ,J V cX,J V eA,J V ek,J V aT]]:=by
   have Xq:=TI.O.size;have XQ:=Uf.O.lt;refine⟨HR.O,λi q=>?_,TI.O.trans (TH.O.mono Xq),λx hx=>?_,List.pairwise_singleton _ _⟩
   ·have:=Ui.O i q;omega
   ·simp at hx;subst hx;refine⟨⟨Uf.O.kept TH.O,aR,aR⟩,λi hi=>?_⟩;cases hi;exact⟨λq=>by have:=Ui.O _ q;omega,h2⟩
  have f:=au d;clear d TH HR Ui Vo TI Uf k0 k1 k2 k3 k4 k5;have Ws:=λW (b:aC w W)=>xt A1 n1 c1 l W (H1.O.below b);have Uj:=au Ws;clear Ws;cases Uk:qV l with
  |true =>
   rw[Uk]at Uj;clear Uk;go_wp2_with (go_at_call 10;refine(Uj.O _ f.O.bw).mono ?_;rintro e w9 ⟨rfl,b9⟩;have f:=au (f.O.below b9);clear b9);go_ret;exact⟨rfl,f.O.bw⟩
  |false =>
   rw[Uk]at Uj;have Wt:=zF Uk;clear Uk;go_upto_region 6 with(go_at_call 10;refine(Uj.O _ f.O.bw).mono ?_;rintro e w9 ⟨rfl,b9⟩;have f:=au (f.O.below b9);clear b9)
   clear Uj;have Q:=λW=>qU W;have Tp:=au Q;clear Q;go_upto_region 7 with(go_at_call 11;refine(Tp.O _).mono ?_;rintro e w9 ⟨g,mb,rfl,hA,bA,hg,hm⟩;have f:=au (f.O.new (y:=.xX g mb _ _ _) bA hA (λi hi=>by rcases hi with rfl|rfl;exact hg;exact hm));clear hA bA hg hm)
   clear Tp;have Ua:=au Wt;clear Wt;have Ul:=@AJ af;go_upto_region 8 with fail;obtain⟨E,VG⟩:=dH w9.heap.size;obtain⟨u,UT⟩:=dH (w9.heap.size+1);rw[<-UT,<-VG];refine aW (λX=>mD w X B (.new cf) 0 [.map u (λ_=>I) (9*0),.map E (λ_=>I) (9*0),.xX g mb (λ_=>⟨0,0,0⟩) (λ_=>-1) 0,.cw r2 25 #[J V (rm:Int),J V eJ,J V cX,J V eA,J V ek,J V aT]]) ?_ ?_
   ·have h1:=f.O.new (y:=.map E (λ_=>I) (9*0)) ((ao _ w9).alloc (aj _) _) (by rw[VG];exact gA.made _ _) (λi hi=>by cases hi;omega);exact h1.new (y:=.map u (λ_=>I) (9*0)) ((ao _ _).alloc (aj _) _) (by have N:=gA.made (w9.alloc (.map #[] 0)) KO;rw[show(w9.alloc (.map #[] 0)).heap.size=u by rw[UT];simp]at N;exact N) (λi hi=>by cases hi;rw[UT];simp)
   clear VG UT f Ul;rintro X d;have f:=au d;clear d;go_wp2_with fail;go_loopw [12,52] (λbf v wr=>∃(k m:Nat) (Bk:RB) (R:M.Room) (G:Int->M.ij) (Tf:Int->M.Jn) (jo:Int->Int) (fH:M.bN->Option Int) (run:M.bN->Int) (Fl Fn:M.bN->Option Value),bf=J V R.cj.length/\v=J V k/\k<=n1/\m<=8*k/\Bk.g=B.g/\mD w wr Bk R (20*m) [.map u Fn (9*m),.map E Fl (9*m),.xX g mb Tf jo (3*m),.cw r2 25 #[J V (rm:Int),J V eJ,J V cX,J V eA,J V ek,J V aT]]/\SP fH run Fl Fn/\M.Dv cf R G jo fH run m) (λ_ v _=>n1-(bS v).toNat);case atStart =>
    have Ug:=To.O;exact⟨0,0,B,_,λ_=>⟨0,0,0,0,[],[],[]⟩,_,_,_,_,_,_,rfl,rfl,z,z,rfl,f.O,⟨λ_=>rfl,λ_ _=>rfl⟩,.start cf (by rw[Tj.O];show 1<=rm;omega) (by rw[Tj.O];show 1<=ek;omega) _⟩
   case round =>
    clear f;obtain⟨k,m,Bk,R,G,Tf,jo,fH,run,Fl,Fn,rfl,rfl,hk,hm,TJ,d,hM,hI⟩:=hrel;by_cases UU:k<n1
    ·obtain⟨HM,HI⟩:=bu hM hI;clear hM hI;have Wu:((k:Int)<(n1:Int)):=z;have VH:k<l.length:=z;obtain⟨bb,off,hA1,Wv⟩:=H1.O.2.2 z;obtain⟨P,q1,q2⟩:=Wv k l[k] (List.getElem?_eq_getElem VH);have VI:=H1.O.2.1 l[k] (dy VH);have VJ:=Ua.O.2 l[k] (dy VH);have Xr:=Ua.O.1;have q1:wr.rangeAt bb (off+k*14) (jQ l[k] P).toList:=λj v hv=>aM d.bw (q1 j v hv);generalize l[k]=x at q1 q2 VI VJ;have Xs:P.n<=400:=by rw[<-q2.len];exact VJ
     subst hA1;obtain⟨f,Ww,Um,Tq⟩:=cA d q1 q2 VI;clear Wv q1 q2 VI VJ d;go_upto_region 12 with(refine gQ rfl 45 (.tmp 54) rfl bb (off+k*14) rfl (jQ x P).toList _ Ww.O underlying45 rfl pV ?_)
     obtain⟨C,VK⟩:=dH wr.heap.size;rw[<-VK];refine aW (λY=>mD w Y Bk R (20*m) [.cw C 45 (jQ x P),.map u Fn (9*m),.map E Fl (9*m),.xX g mb Tf jo (3*m),.cw r2 25 #[J V (rm:Int),J V eJ,J V cX,J V eA,J V ek,J V aT]]) (f.O.new (y:=.cw C 45 (jQ x P)) ((ao _ _).alloc (aj _) _) ⟨aK.newAt _ _ _ _ VK,aR,aR⟩ (λi hi=>by cases hi;omega)) ?_;clear VK f Ww;rintro Y d;have Un:=(d.get (Ac ..)).1;have y0:=Un.cell 0;simp at y0;have f:=au d;clear d Un;go_upto_if 58 with fail;go_cut [15] (λv wc=>∃Ts:Nat,v=J V Ts/\1<=Ts/\Ts<=8/\Y=wc);case first=>as_aux_lemma =>
      clear f HM HI Um Tq H1 Ua To Tj;by_cases a1:x.nv=2
      ·have a2:(x.nv==2)=true:=by simpa using a1
       clear a1 y0;go_wp2_with fail;go_meet;exact⟨(1+my % 8).toNat,by rw[Int.toNat_of_nonneg z],z,z,rfl⟩
      ·have a2:(x.nv==2)=false:=by simpa using a1
       clear a1;go_wp2_with fail;go_meet;exact⟨1,rfl,z,z,rfl⟩
     case rest=>as_aux_lemma =>
     obtain⟨Ts,rfl,t1,t8,rfl⟩:=hcut;clear y0;go_wp2_with fail;go_loopw [12,65] (λbf v wr=>∃(j m:Nat) (Bk:RB) (R:M.Room) (G:Int->M.ij) (Tf:Int->M.Jn) (jo:Int->Int) (fH:M.bN->Option Int) (run:M.bN->Int) (Fl Fn:M.bN->Option Value),bf=J V R.cj.length/\v=J V j/\j<=Ts/\m<=8*k+j/\Bk.g=B.g/\mD w wr Bk R (20*m) [.cw C 45 (jQ x P),.map u Fn (9*m),.map E Fl (9*m),.xX g mb Tf jo (3*m),.cw r2 25 #[J V (rm:Int),J V eJ,J V cX,J V eA,J V ek,J V aT]]/\SP fH run Fl Fn/\M.Dv cf R G jo fH run m) (λ_ v _=>Ts-(bS v).toNat);case atStart=>exact⟨0,m,Bk,R,G,Tf,jo,fH,run,Fl,Fn,rfl,rfl,z,z,TJ,f.O,HM.O,HI.O⟩
     case round =>
      clear f HM HI TJ hm;obtain⟨j,m,Bk,R,G,Tf,jo,fH,run,Fl,Fn,rfl,rfl,hj,hm,TJ,d,hM,hI⟩:=hrel;by_cases XR:j<Ts
      ·obtain⟨HM,HI⟩:=bu hM hI;clear hM hI;have XS:(j:Int)<(Ts:Int):=z;have Ul:=@AJ af;go_upto_region 18 with fail;obtain⟨D,VL⟩:=dH wr.heap.size;rw[<-VL];refine aW (λX=>mD w X Bk R (20*m) [.map D (aa (Lz R 0)) 0,.cw C 45 (jQ x P),.map u Fn (9*m),.map E Fl (9*m),.xX g mb Tf jo (3*m),.cw r2 25 #[J V (rm:Int),J V eJ,J V cX,J V eA,J V ek,J V aT]]) ?_ ?_
       ·have N:=d.new (y:=.map D (λ_=>I) 0) ((ao _ wr).alloc (aj _) _) (by rw[VL];exact gA.made _ _) (λi hi=>by cases hi;omega);rw[SG R]at N;exact N
       clear VL d Ul;rintro X0 d;have Wx:=(d.get (x:=.xX g mb Tf jo (3*m)) dt).range;obtain⟨f,Wy⟩:=bu d Wx;clear d Wx;go_upto_region 19 with(refine gQ rfl 35 (.tmp 70) rfl g 84 rfl (Qs jo).toList _ Wy.O underlying35 rfl SU ?_)
       go_loopw [72] (λv wr=>∃s:Nat,v=J V s/\s<=6/\mD w wr Bk R (20*m) [.map D (aa (Lz R s)) s,.cw C 45 (jQ x P),.map u Fn (9*m),.map E Fl (9*m),.xX g mb Tf jo (3*m),.cw r2 25 #[J V (rm:Int),J V eJ,J V cX,J V eA,J V ek,J V aT]]) (λv _=>6-(bS v).toNat);case atStart=>exact⟨0,rfl,z,f.O⟩
       case round =>
        clear f Wy;obtain⟨s,rfl,hs,d⟩:=hrel;by_cases Xt:s<6
        ·have Wu:((s:Int)<6):=z;have Uo:=AZ d.aG (s:Int) (Ig z z);rw[TJ]at Uo;obtain⟨la,lb,th,Up⟩:=tv R s;rw[Up]at Uo;obtain⟨ln,hlen⟩:=dH (zk R s);obtain⟨gn,Wz⟩:=dH (R.eG s);obtain⟨cu,VM⟩:=dH ((ud R s).1);obtain⟨tg,VN⟩:=dH ((ud R s).2);obtain⟨ps,VO⟩:=dH (jo s);rw[<-hlen,<-Wz,<-VM,<-VN]at Uo;have WA:∀o,M.AH R o (s:Int)=(decide (0<=ps)&&(decide (cu≠tg)&&decide ((ps,tg)=o))):=λo=>by
          rw[M.M9 HI.O.xX HI.O.tc.inv HI.O.tc.wf o s,VO,VM,VN];rfl
         have ix:∀W:aw,(Instr.index 35 (cg (Qs jo)) (J V (s:Int))).run af W=.ok (J V ps) W:=λW=>by rw[VO];exact SN jo Xt W
         obtain⟨WB,f,Tk⟩:=bU Uo d WA;clear Uo d Up hlen Wz VM VN VO WA;go_upto_region 22 with(go_at_call 15;refine WB.O.mono ?_;rintro e Ub ⟨rfl,TM⟩;have TY:=au TM;clear TM)
         clear ix;obtain⟨Xu,VP⟩:=dH Ub.heap.size;have bb:aC wr ((Ub.alloc (.cells #[J V cu,J V tg] 68)).alloc (.cells #[J V la,J V lb,J V ln] 69)):=(TY.O.alloc TY.O.size _).alloc (by have:=TY.O.size;simp;omega) _;rw[<-VP];refine aW (λT=>aK T Xu 68 #[J V cu,J V tg]/\mD w T Bk R (20*m) [.map D (aa (Lz R s)) s,.cw C 45 (jQ x P),.map u Fn (9*m),.map E Fl (9*m),.xX g mb Tf jo (3*m),.cw r2 25 #[J V (rm:Int),J V eJ,J V cX,J V eA,J V ek,J V aT]]) ⟨(aK.newAt _ _ _ _ VP).alloc _,f.O.below bb⟩ ?_;clear VP bb TY WB f;rintro T ⟨UW,d⟩;have c0:=UW.cell 0;have c1:=UW.cell 1;simp at c0 c1;obtain⟨f,Tw⟩:=bu d UW;clear d UW;by_cases p0:0<=ps
         ·by_cases ne:cu=tg
          ·have Uq:om.NI cu tg=false:=by rw[ne];unfold om.NI;simp
           have hP:=λW=>om.rV cu tg W;rw[Uq]at hP;have Q:∀o,M.AH R o (s:Int)=false:=λo=>by rw[Tk.O o,ne];simp
           obtain⟨VQ,Tp⟩:=bu hP Q;clear Uq hP Q ne Tk;go_wp2_with (go_at_call 18;refine(VQ.O _).mono ?_;rintro e WC ⟨rfl,TN⟩;have f:=au (f.O.below TN);have Tw:=au (Tw.O.kept TN);clear TN);go_roundw;case rel=>exact⟨s+1,by go_num,z,mD.Dm (l1:=[]) f.O (λo=>by rw[SH Tp.O]) z⟩
           case measure=>simp[bS];omega
          ·have Uq:om.NI cu tg=true:=by unfold om.NI;simpa using ne
           have hP:=λW=>om.rV cu tg W;rw[Uq]at hP;have Vq:∀t,Lz R (s+1) t=(Lz R s t||decide ((ps,tg)=t)):=λt=>by rw[Hs,Tk.O t,decide_eq_true p0,decide_eq_true ne,Bool.true_and,Bool.true_and]
           have Ur:Gi (ps,tg):=okO (M.M7 HI.O.tc.inv HI.O.tc.wf HI.O.SY (ps,tg) s (by simp[M.gF];omega) (by rw[Tk.O,decide_eq_true p0,decide_eq_true ne,decide_eq_true rfl];rfl));obtain⟨VQ,WD,Tt⟩:=bU hP Vq Ur;clear Uq hP Vq Ur ne Tk;go_upto_if 89 with(go_at_call 18;refine(VQ.O _).mono ?_;rintro e WC ⟨rfl,TN⟩;have f:=au (f.O.below TN);have Tw:=au (Tw.O.kept TN);clear TN)
           obtain⟨w7,hr,Us,_⟩:=mD.put C6 (l1:=[]) f.O z (ps,tg) Tt.O (J V 1);have hr:(eF 88 (.map (Z D)) (cg #[J V ps,J V tg]) (J V 1)).run af WC=.ok () w7:=hr;clear c0 c1;have c1:=Tw.O.cell 1;simp at c1;have UX:=au Us;clear Us;go_wp2_with fail;go_roundw;case rel=>exact⟨s+1,by go_num,z,mD.Dm (l1:=[]) UX.O (Ff WD.O) (aj _)⟩
           case measure=>simp[bS];omega
         ·have Q:∀o,M.AH R o (s:Int)=false:=λo=>by rw[Tk.O o,decide_eq_false p0,Bool.false_and]
          have XL:ps<0:=z;have Tp:=au Q;clear Q Tk;go_wp2_with fail;go_roundw;case rel=>exact⟨s+1,by go_num,z,mD.Dm (l1:=[]) f.O (λo=>by rw[SH Tp.O]) z⟩
          case measure=>simp[bS];omega
        ·have Xv:s=6:=z;subst Xv;rw[SL R]at d;have Ut:=au (qL (d.get (x:=.cw C 45 (jQ x P)) dt).1);have Uu:=xF d.aG HI.O.tc z z x Tq.O P (Um.O.below d.bw) Xs;rw[TJ]at Uu;have WE:1<=cf.eA:=by have:=To.O;rw[Tj.O];show 1<=eA;omega
         have WH:cf.eA<=cf.ek:=by have:=To.O;rw[Tj.O];show eA<=ek;omega
         have UY:=λN=>M.OF HI.O x Tq.O.ok Tq.O.src N;have UZ:=λN=>M.Oj HI.O x Tq.O.ok Tq.O.src N WE WH d.aG.et.cJ.1;have Uv:=M.xJ R x;have VR:=M.xK R x;have Vr:=HI.O.rq;have Vs:0<=R.cJ/\R.cJ<=1000000:=by have:=d.aG.et.cJ;omega
         have Vt:=au Vs;clear Vs;obtain⟨R1,VS⟩:=dH ((R.act x).1);obtain⟨f1,U0⟩:=dH ((R.act x).2.1);obtain⟨d1,WI⟩:=dH ((R.act x).2.2);unfold wY at Uu;rw[<-VS,<-U0,<-WI]at Uu;rw[<-VS,<-U0]at UY UZ;rw[<-U0]at Uv VR;obtain⟨nt,VT⟩:=dH (!(decide (x.nv=2)&&decide (f1=0)));obtain⟨H,WJ,XM,Vu⟩:∃H,R1.cj=R.cj++H/\H.length<=9/\(nt=true->H=[]):=by
          by_cases N:x.nv=2/\f1=0
          ·refine⟨_,(UZ N).1,by rw[gP];exact M.Hu R,λq=>?_⟩;rw[VT,decide_eq_true N.1,decide_eq_true N.2]at q;cases q
          ·exact⟨[],by rw[(UY N).1,List.append_nil],dt,λ_=>rfl⟩
         have WK:=au Uu;have f:=au d;have Uw:=au UY;have Ux:=au UZ;have Vv:=au Uv;have WL:=au VR;have TO:=au VT;have Uy:=au WJ;have Uz:=au Vu;clear Uu d UY UZ Uv VR VS U0 WI VT WJ Vu WE WH;go_upto_region 26 with(first
          |(go_at_call 14;refine WK.O.mono ?_;rintro e XT ⟨B9,rfl,WM,VU⟩;have Tx:=VU.g.trans TJ;have UA:=au (f.O.act WM VU);clear WM VU)
          |(refine gQ rfl 45 (.tmp 14) rfl C 0 rfl (jQ x P).toList _ Ut.O underlying45 rfl pV ?_))
         clear Ut;have Ut:=au (qL (UA.O.get (x:=.cw C 45 (jQ x P)) dt).1);have hw:=UA.O.th (.xX g mb Tf jo (3*m)) dt;have Q:=vA x P f1 UA.O.aG hw.1 (hw.2 g (.inl rfl)).1 (hw.2 mb (.inr rfl)).1 (λq=>Vv.O q) (λq=>WL.O q) z;rw[Tx]at Q;have Tp:=au Q;clear hw Q WK f;go_upto_region 27 with(first
          |(go_at_call 17;refine Tp.O.mono ?_;rintro e WN ⟨rfl,hA14,f14⟩;have Ty:=au (UA.O.IW (l1:=[.map D (aa (M.EU R)) 6,.cw C 45 (jQ x P),.map u Fn (9*m),.map E Fl (9*m)]) (x:=.xX g mb Tf jo (3*m)) (y:=.xX g mb (M.kF x f1 Tf) (M.vy R1 x f1 jo) (3*m+3)) f14 hA14 (λi hi=>.inl hi));clear hA14 f14)
          |(refine gQ rfl 45 (.tmp 14) rfl C 0 rfl (jQ x P).toList _ Ut.O underlying45 rfl pV ?_))
         clear Ut Tp UA Vv WL;have U1:=EW B9 R1 (20*m+20) WN Ty.O.aG z;rw[Tx]at U1;obtain⟨nr,U2⟩:=dH R1.cj.length;obtain⟨b0,UB⟩:=dH R.cj.length;have WQ:nr=b0+H.length:=by rw[U2,Uy.O,cG,UB]
         have XU:b0<=9*m:=by rw[UB];exact Vr
         rw[<-U2]at U1;rw[<-UB];clear Vr;obtain⟨U3,Va,Vb,Tz⟩:=cA U1 U2 UB WQ;have hle:b0<=nr:=z;clear U1 U2 UB WQ;go_cut [25] (λv wc=>∃A c',v=ae A H.length c'/\mD w wc B9 R1 (20*m+20) [.rq A H,.map D (aa (M.EU R)) 6,.cw C 45 (jQ x P),.map u Fn (9*m),.map E Fl (9*m),.xX g mb (M.kF x f1 Tf) (M.vy R1 x f1 jo) (3*m+3),.cw r2 25 #[J V (rm:Int),J V eJ,J V cX,J V eA,J V ek,J V aT]]);case first=>as_aux_lemma =>
          clear HM HI Uw Ux TO Uz Um Tq H1 Ua To Tj;by_cases TA:H=[]
          ·go_wp2_with (go_at_call 19;refine U3.O.mono ?_;rintro e Ub ⟨v,q,rfl,own,fit,TM⟩;obtain⟨A,c,rfl,VV⟩:=SV own;have UC:=au (Ty.O.below TM);clear own fit TM);all_goals
            go_meet;exact⟨_,_,by rw[show H.length=nr-b0 by have:=Tz.O;omega],UC.O.new (ao _ _) (by rw[TA];exact Ck.nil _ _) (λi hi=>absurd TA hi.1)⟩
          ·have Vw:Calls af 19 #[aq (Z ⟨B.g,0,I⟩)] WN λe w'=>∃r cap,e=av (ae (Z ⟨r,0,I⟩) nr cap)/\¬cap=b0/\nr<=cap/\mD w w' B9 R1 (20*m+20) [.rq (Z ⟨r,b0*4,I⟩) H,.map D (aa (M.EU R)) 6,.cw C 45 (jQ x P),.map u Fn (9*m),.map E Fl (9*m),.xX g mb (M.kF x f1 Tf) (M.vy R1 x f1 jo) (3*m+3),.cw r2 25 #[J V (rm:Int),J V eJ,J V cX,J V eA,J V ek,J V aT]]:=U3.O.mono (by
            rintro e Ub ⟨v,q,rfl,own,fit,TM⟩
            have WR:Fit (tm Ub) (R.cj++H) q:=by rw[<-Uy.O];exact fit
            obtain⟨r,cap,rfl,VV,Xw,Vx⟩:=SW own WR (by rw[Tz.O,Vb.O,cG]) TA
            rw[<-Vb.O]at Vx
            have XN:=List.length_pos_iff.2 TA
            have hn:=Tz.O
            refine⟨r,cap,rfl,z,VV,Ty.O.new TM Vx (λi hi=>?_)⟩
            obtain⟨_,o,e⟩:=hi
            simp only[Option.some.injEq,Addr.mk.injEq]at e
            rw[<-e.1];exact Xw)
           have WS:=au Vw;clear Vw U3 Ty TA;go_wp2_with (go_at_call 19;refine WS.O.mono ?_;rintro e Ub ⟨r,cap,rfl,Ug,VV,Vy⟩;have UC:=au Vy;clear Vy);go_meet;exact⟨Z ⟨r,b0*4,I⟩,_,by rw[show H.length=nr-b0 by have:=Tz.O;omega],UC.O⟩
         case rest=>as_aux_lemma =>
         obtain⟨A,c',rfl,d⟩:=hcut;obtain⟨VW,rfl⟩:=dH (wc:aw);have Un:=(d.get (x:=.cw C 45 (jQ x P)) dt).1;have y0:=Un.cell 0;simp at y0;have f:=au d;clear d Un Ty U3;go_upto_region 29 with fail;go_cut [121] (λv wc=>v=ai nt/\VW=wc);case first=>as_aux_lemma =>
          have fin:∀b,b=!(decide (x.nv=2)&&decide (f1=0))->b=nt:=λb hb=>hb.trans TO.O.symm;have Uc:=au fin;clear fin HM HI Uw Ux TO Uz Um Tq H1 Ua To Tj f Uy Va Vb Tz;by_cases a1:x.nv=2
          ·rw[a1]at y0;by_cases a2:f1=0
           ·have E2:Hd (false=nt):=au (Uc.O _ (by simp[a1,a2]));subst a2;clear Uc a1;go_wp2_with fail;go_meet;exact⟨congrArg ai E2.O,rfl⟩
           ·have E2:Hd (true=nt):=au (Uc.O _ (by simp[a1,a2]));have a3:(f1 !=0)=true:=by simpa using a2
            clear Uc a1 a2;go_wp2_with fail;go_meet;exact⟨congrArg ai E2.O,rfl⟩
          ·have E2:Hd (true=nt):=au (Uc.O _ (by simp[a1]));have a3:(x.nv !=2)=true:=by simpa using a1
           clear Uc a1;go_wp2_with fail;go_meet;exact⟨congrArg ai E2.O,rfl⟩
         case rest=>as_aux_lemma =>
         obtain⟨rfl,rfl⟩:=hcut;clear y0;go_upto_if 121 with fail;cases nt
         ·have TC:x.nv=2/\f1=0:=by
           have q:=TO.O;by_cases z1:x.nv=2
           ·by_cases z2:f1=0
            ·exact⟨z1,z2⟩
            ·simp[z1,z2]at q
           ·simp[z1]at q
          obtain⟨WT,VX,S,WV,WW⟩:=Ux.O TC;have T8:H=(M.DB R).map (M.EV { R with cJ:=R.cJ+1 }):=List.append_cancel_left (Uy.O.symm.trans WT);have VY:=M.Kr R;have VZ:=λo h=>M.SM (R:=R) HI.O.tc.wf (o:=o) h;have V0:=λo=>M.Cj (R:=R) HI.O.tc.wf o;have Tu:=λo=>Km (R:=R) HI.O.tc.wf HM.O.lm o;have UD:=λo=>(HI.O.ask.run o).1;have WX:=Vt.O;obtain⟨L,Vc⟩:=dH (M.DB R);obtain⟨U,Vd⟩:=dH (R.cJ+1);rw[<-Vc]at T8 VY VZ Tu;simp only[<-Vc]at V0 S;rw[<-Vd]at VX S;simp only[<-Vd]at Tu;have S:∀o a,o∈L->fH o=Z a->0<=a/\a<=U/\cf.eA<=U-a:=λo a y1 y2=>by
           obtain⟨y3,y4,y5⟩:=S o a y1 y2;exact⟨y3,z,y5⟩
          have UE:H.length=L.length:=by rw[T8,gP]
          have Vz:∀(i:Nat) (h:i<L.length) (b:Sl),∃h':i<H.length,Rl H[i] b=[J V L[i].1,J V L[i].2,J V U,ae b.a b.n b.c]:=λi h b=>by
           subst T8;refine⟨by rw[gP];exact h,?_⟩;rw[List.getElem_map,Vd];rfl
          have XO:1<=U/\U<=1000001:=z;have V1:SP (M.Gj R fH) (M.runN R run)=SP (M.Gj R fH) (M.runN R run):=rfl;obtain⟨V2,V4,V5,V6,Ve,V7,Vf,TP,TQ,Tl⟩:=PG VX S WV WW VY VZ V0 Tu UD UE;obtain⟨UF,WY⟩:=bu Vz Vc;clear WT VX S WV WW T8 VY VZ V0 Tu UD UE Vz Vc Vd WX TC V1 Ux Uw Vt Uz TO HI Uy;have Ul:=@AJ af;go_upto_region 33 with fail;obtain⟨K,V8⟩:=dH VW.heap.size;rw[<-V8];refine aW (λX=>mD w X B9 R1 (20*m+20) [.map K (aa (pe L 0)) (0),.rq A H,.map D (aa (M.EU R)) 6,.cw C 45 (jQ x P),.map u Fn (9*m),.map E (rY L U Fl 0) (9*m+0),.xX g mb (M.kF x f1 Tf) (M.vy R1 x f1 jo) (3*m+3),.cw r2 25 #[J V (rm:Int),J V eJ,J V cX,J V eA,J V ek,J V aT]]) ?_ ?_
          ·have N:=f.O.new (y:=.map K (λ_=>I) 0) ((ao _ VW).alloc (aj _) _) (by rw[V8];exact gA.made _ _) (λi hi=>by cases hi;omega);rw[Hj L]at N;exact mD.Dm (l1:=[.map K (aa (pe L 0)) 0,.rq A H,.map D (aa (M.EU R)) 6,.cw C 45 (jQ x P),.map u Fn (9*m)]) N (λo=>(Hi L U Fl o).symm) (aj _)
          clear V8 f Ul;rintro X2 d;have f:=au d;clear d;go_wp2_with fail;go_loopw [128] (λv wr=>∃i:Nat,v=J V i/\i<=H.length/\mD w wr B9 R1 (20*m+20) [.map K (aa (pe L i)) (i),.rq A H,.map D (aa (M.EU R)) 6,.cw C 45 (jQ x P),.map u Fn (9*m),.map E (rY L U Fl i) (9*m+i),.xX g mb (M.kF x f1 Tf) (M.vy R1 x f1 jo) (3*m+3),.cw r2 25 #[J V (rm:Int),J V eJ,J V cX,J V eA,J V ek,J V aT]]) (λv _=>H.length-(bS v).toNat);case atStart=>exact⟨0,rfl,z,f.O⟩
          case round =>
           clear f;obtain⟨i,rfl,hi,d⟩:=hrel;by_cases WZ:i<H.length
           ·have XV:(i:Int)<(H.length:Int):=z;have Ud:i<L.length:=by rw[<-Tl.O];exact WZ
            obtain⟨r,off,hA,b,Ti⟩:=Ck.get (d.get (x:=.rq A H) dt) WZ;subst hA;obtain⟨_,VA⟩:=UF.O i Ud b;rw[VA]at Ti;have TR:L[i]∈L:=dy Ud;have TD:=V7.O L[i] TR;have Q:=MV Ve.O Ud;have UU:=MU U Fl Ve.O Ud;have TS:=λt=>Kn Ud t;have TT:=λt=>Kl (t:=U) (F:=Fl) Ud t;have S:=λa=>V4.O L[i] a TR;obtain⟨o,ho⟩:=dH (L[i]);rw[<-ho]at Ti TD Q UU S;simp only[<-ho]at TS TT;have VB:∀W,mD w W B9 R1 (20*m+20) [.map K (aa (pe L i)) (i),.rq (Z ⟨r,off,I⟩) H,.map D (aa (M.EU R)) 6,.cw C 45 (jQ x P),.map u Fn (9*m),.map E (rY L U Fl i) (9*m+i),.xX g mb (M.kF x f1 Tf) (M.vy R1 x f1 jo) (3*m+3),.cw r2 25 #[J V (rm:Int),J V eJ,J V cX,J V eA,J V ek,J V aT]]->(cD 88 (.map (Z K)) (cg #[J V o.1,J V o.2]) false).run af W=.ok (J V 0) W:=λW q=>by
             have N:=gA.sW xM C6 (F:=aa (pe L i)) (q.get (x:=.map K (aa (pe L i)) i) dt) o (okO TD) (PC W);rw[Fw,Q]at N;exact N
            have T9:∃(la:Int) (UG:Bool),(UG=true->0<=la/\la<=U/\cf.eA<=U-la)/\(UG=false->la=0)/\∀W,mD w W B9 R1 (20*m+20) [.map K (aa (pe L i)) (i),.rq (Z ⟨r,off,I⟩) H,.map D (aa (M.EU R)) 6,.cw C 45 (jQ x P),.map u Fn (9*m),.map E (rY L U Fl i) (9*m+i),.xX g mb (M.kF x f1 Tf) (M.vy R1 x f1 jo) (3*m+3),.cw r2 25 #[J V (rm:Int),J V eJ,J V cX,J V eA,J V ek,J V aT]]->(cD 87 (.map (Z E)) (cg #[J V o.1,J V o.2]) true).run af W=.ok (aB #[J V la,ai UG]) W:=by
             have N:=λW (q:mD w W B9 R1 (20*m+20) [.map K (aa (pe L i)) (i),.rq (Z ⟨r,off,I⟩) H,.map D (aa (M.EU R)) 6,.cw C 45 (jQ x P),.map u Fn (9*m),.map E (rY L U Fl i) (9*m+i),.xX g mb (M.kF x f1 Tf) (M.vy R1 x f1 jo) (3*m+3),.cw r2 25 #[J V (rm:Int),J V eJ,J V cX,J V eA,J V ek,J V aT]])=>gA.my xM BF (F:=rY L U Fl i) (q.get (x:=.map E (rY L U Fl i) (9*m+i)) dt) o (okO TD) (Kw W);rw[UU,HM.O.lm o]at N;cases hl:fH o with
             |none=>rw[hl]at N;exact⟨0,false,λq=>(by cases q),λ_=>rfl,N⟩
             |some a =>
              rw[hl]at N;exact⟨a,true,λ_=>S a hl,λq=>(by cases q),N⟩
            obtain⟨la,UG,W9,VC,T9⟩:=T9;obtain⟨f,Xa,Xb,Xc,V9,VD,TV,TW,UH,HO⟩:=PG d Ti VB T9 W9 VC TS TT TD ho;clear d Ti VB T9 W9 VC TS TT TD ho Q UU S VA TR;go_upto_region 36 with(refine gQ rfl 94 (.tmp 130) rfl r (off+i*4) rfl [J V o.1,J V o.2,J V U,ae b.a b.n b.c] _ Xa.O underlying94 rfl SQ ?_)
            obtain⟨UI,Wa⟩:=dH wr.heap.size;rw[<-Wa];refine aW (λT=>mD w T B9 R1 (20*m+20) [.cw UI 94 #[J V o.1,J V o.2,J V U,ae b.a b.n b.c],.map K (aa (pe L i)) (i),.rq (Z ⟨r,off,I⟩) H,.map D (aa (M.EU R)) 6,.cw C 45 (jQ x P),.map u Fn (9*m),.map E (rY L U Fl i) (9*m+i),.xX g mb (M.kF x f1 Tf) (M.vy R1 x f1 jo) (3*m+3),.cw r2 25 #[J V (rm:Int),J V eJ,J V cX,J V eA,J V ek,J V aT]]) (f.O.new (y:=.cw UI 94 #[J V o.1,J V o.2,J V U,ae b.a b.n b.c]) ((ao _ _).alloc (aj _) _) ⟨aK.newAt _ _ _ _ Wa,aR,aR⟩ (λi hi=>by cases hi;omega)) ?_;clear Wa f Xa;rintro T d;have Wb:=au (d.sub (oq _ _));have Xd:=Xc.O T Wb.O;have UJ:=(d.get (Ac ..)).1;have z0:=UJ.cell 0;have z1:=UJ.cell 1;have z2:=UJ.cell 2;simp at z0 z1 z2;have Vg:=d;have UK:=au UJ;clear d UJ Xc;go_upto_region 37 with fail;clear Xd;have c3:=((Vg.get (x:=.cw r2 25 #[J V (rm:Int),J V eJ,J V cX,J V eA,J V ek,J V aT]) dt).1).cell 3;simp at c3;have Xe:cf.eA=eA:=by rw[Tj.O]
            have UL:=λW (q:aC T W)=>tN (Vg.aG.below q);rw[Tx,V2.O]at UL;have Xx:=λn=>Xb.O _ (Wb.O.below (cd (ao T.heap.size T) n));obtain⟨Wc,UM,Wd⟩:=bU Vg UL Xe;clear Vg UL Xe Xb Wb;go_cut [163] (λv wc=>v=ai false/\aC T wc);case first=>as_aux_lemma =>
             clear Wc UK TV TW UH HO V2 V4 V5 V6 Ve V7 Vf TP TQ Tl UF WY HM Va Vb Tz Um Tq H1 Ua;cases UG
             ·clear V9 VD Wd To Tj;go_quiet ((go_at_call 20;exact Calls.quiet_of_same (UM.O _ (cd (ao _ _) _))));go_wp2_with fail;go_meet;exact⟨rfl,cd (ao _ _) _⟩
             ·obtain⟨OI,OH,Xf⟩:=V9.O rfl;rw[Wd.O]at Xf;have Xg:V.wrap (U-la)=U-la:=IntWalk.i64_in _ z;have Xy:decide (U-la<eA)=false:=decide_eq_false z;clear V9 VD Wd To Tj OI OH Xf;go_quiet ((go_at_call 20;exact Calls.quiet_of_same (UM.O _ (cd (ao _ _) _))));go_wp2_with fail;go_meet;exact⟨rfl,cd (ao _ _) _⟩
            case rest=>as_aux_lemma =>
            obtain⟨rfl,We⟩:=hcut;obtain⟨V3,rfl⟩:=dH (wc:aw);have Xh:=Wc.O.below We;have hD:=Xh.below (cd (ao V3.heap.size V3) 1);have Vh:=UK.O.kept We;obtain⟨W1,Tm,Tg,u1⟩:=mD.put BF (l1:=[.cw UI 94 #[J V o.1,J V o.2,J V U,ae b.a b.n b.c],.map K (aa (pe L i)) i,.rq (Z ⟨r,off,I⟩) H,.map D (aa (M.EU R)) 6,.cw C 45 (jQ x P),.map u Fn (9*m)]) hD z o (okO UH.O) (J V U);obtain⟨W2,Xi,Xj,u2⟩:=mD.put C6 (l1:=[.cw UI 94 #[J V o.1,J V o.2,J V U,ae b.a b.n b.c]]) Tg z o (okO UH.O) (J V 1);have Tm:(eF 87 (.map (Z E)) (cg #[J V o.1,J V o.2]) (J V U)).run af V3.drew=.ok () W1:=Tm;have Xi:(eF 88 (.map (Z K)) (cg #[J V o.1,J V o.2]) (J V 1)).run af W1=.ok () W2:=Xi;have Vi:=(Tg.get (x:=.cw UI 94 #[J V o.1,J V o.2,J V U,ae b.a b.n b.c]) dt).1;clear z0 z1 z2 c3 Xx;have z0:=Vh.cell 0;have z1:=Vh.cell 1;have z2:=Vh.cell 2;have y0:=Vi.cell 0;have y1:=Vi.cell 1;have y2:=Vi.cell 2;simp at z0 z1 z2 y0 y1 y2;have Xk:=mD.Dm (l1:=[]) (F':=aa (pe L (i+1))) (K':=i+1) (Xj.sub (oq _ _)) (Ff TV.O) (aj _);have Us:=mD.Dm (l1:=[.map K (aa (pe L (i+1))) (i+1),.rq (Z ⟨r,off,I⟩) H,.map D (aa (M.EU R)) 6,.cw C 45 (jQ x P),.map u Fn (9*m)]) (F':=rY L U Fl (i+1)) (K':=9*m+(i+1)) Xk TW.O z;have UX:=au Us;clear Xh hD Vh Tg Xj Xk Us Vi u1 u2 We Wc UK TV TW UM;go_upto_region 39 with fail;go_region;all_goals
             go_wp2_with fail;go_roundw;case rel=>exact⟨i+1,by go_num,z,by first|exact UX.O|exact UX.O.below (cd (ao _ _) _)⟩
             case measure=>simp[bS];omega
           ·have Xz:i=H.length:=z;subst Xz;have Wg:=d.sub (List.Sublist.cons₂ _ (oq _ _));have Wh:∀o,pe L H.length o=M.ag R o:=λo=>by
             rw[Tl.O,Ko];by_cases N:M.ag R o=true
             ·rw[N];exact decide_eq_true ((Vf.O o).2 N)
             ·rw[Bool.eq_false_iff.2 N];exact decide_eq_false (λy=>N ((Vf.O o).1 y))
            have Vj:=TP.O;rw[<-Tl.O]at Vj;have Vk:∀o,M.runN R run o=if(M.EU R o && !M.ag R o)=true then run o+1 else 0:=λ_=>rfl
            have TA:=TQ.O;have Vl:=V5.O;have Wi:=V6.O;have Xl:=HM.O.rm;obtain⟨cm,UN⟩:=dH (pe L H.length);obtain⟨Tn,UO⟩:=dH (M.EU R);obtain⟨UP,UQ⟩:=dH (rY L U Fl H.length);obtain⟨rn,Wj⟩:=dH (M.runN R run);rw[<-UN,<-UO,<-UQ]at Wg;rw[<-Wj]at Wi;simp only[<-UN]at Wh;simp only[<-UQ]at Vj;simp only[<-Wj]at Vl Vk;simp only[<-UO,<-Wh]at Vk;have Xm:cf.ek=ek:=by rw[Tj.O]
            rw[Xm]at Vl;obtain⟨f,XA,Wl,XB,XC,XD,XE⟩:=lV Wg Vj Vk TA Vl Wi Xl;clear d Wg Wh Vj Vk TA Vl Wi Xl UN UO UQ Wj Xm HM V2 V4 V5 V6 Ve V7 Vf TP TQ Tl UF WY;go_wp2_with fail;go_loopw [173] (λv wr=>∃(p:Nat) (Fq:M.bN->Option Value),v=J V p/\p<=3/\mD w wr B9 R1 (20*m+20) [.map K (aa cm) H.length,.map D (aa Tn) 6,.cw C 45 (jQ x P),.map u Fq (9*m+3*p),.map E UP (9*m+H.length),.xX g mb (M.kF x f1 Tf) (M.vy R1 x f1 jo) (3*m+3),.cw r2 25 #[J V (rm:Int),J V eJ,J V cX,J V eA,J V ek,J V aT]]/\I8 (M.Bm run rn (3*p)) Fq) (λv _=>3-(bS v).toNat);case atStart=>exact⟨0,Fn,rfl,z,f.O,λo ho=>by rw[M.Kk run rn o ho];exact XE.O o ho⟩
            case round =>
             clear f;obtain⟨p,Fq,rfl,hp,d,hR⟩:=hrel;obtain⟨f,HR⟩:=bu d hR;clear d hR;by_cases Xn:p<3
             ·have Wu:(p:Int)<3:=z;go_wp2_with fail;obtain⟨wp,rfl⟩:=dH (wr:aw);go_loopw [176] (λv wr=>∃(q:Nat) (Fq:M.bN->Option Value),v=J V q/\q<=3/\mD w wr B9 R1 (20*m+20) [.map K (aa cm) H.length,.map D (aa Tn) 6,.cw C 45 (jQ x P),.map u Fq (9*m+3*p+q),.map E UP (9*m+H.length),.xX g mb (M.kF x f1 Tf) (M.vy R1 x f1 jo) (3*m+3),.cw r2 25 #[J V (rm:Int),J V eJ,J V cX,J V eA,J V ek,J V aT]]/\I8 (M.Bm run rn (3*p+q)) Fq) (λv _=>3-(bS v).toNat);case atStart=>exact⟨0,Fq,rfl,z,f.O,HR.O⟩
              case round =>
               clear f HR;obtain⟨q,Fq,rfl,hq,d,hR⟩:=hrel;by_cases S:q<3
               ·have XW:(q:Int)<3:=z;have Ur:=okO (RU Xn S);obtain⟨f,HR,Tt⟩:=bU d hR Ur;clear d hR Ur;go_upto_region 48 with fail;obtain⟨Ue,Wm⟩:=dH wr.heap.size;rw[<-Wm];refine aW (λT=>mD w T B9 R1 (20*m+20) [.cw Ue 91 #[J V (p:Int),J V (q:Int)],.map K (aa cm) H.length,.map D (aa Tn) 6,.cw C 45 (jQ x P),.map u Fq (9*m+3*p+q),.map E UP (9*m+H.length),.xX g mb (M.kF x f1 Tf) (M.vy R1 x f1 jo) (3*m+3),.cw r2 25 #[J V (rm:Int),J V eJ,J V cX,J V eA,J V ek,J V aT]]) (f.O.new (y:=.cw Ue 91 #[J V (p:Int),J V (q:Int)]) ((ao _ _).alloc (aj _) _) ⟨aK.newAt _ _ _ _ Wm,aR,aR⟩ (λi hi=>by cases hi;omega)) ?_;clear Wm f;rintro T d;have TE:=(d.get (Ac ..)).1;have z0:=TE.cell 0;have z1:=TE.cell 1;simp at z0 z1;have TF:=gA.sW xM C6 (F:=aa Tn) (d.get (x:=.map D (aa Tn) 6) dt) ((p:Int),(q:Int)) Tt.O (PC T);have Tv:=gA.sW xM C6 (F:=aa cm) (d.get (x:=.map K (aa cm) H.length) dt) ((p:Int),(q:Int)) Tt.O (PC T);rw[Fw]at TF Tv;obtain⟨f,UR⟩:=bu d TE;clear d TE;cases hA:Tn ((p:Int),(q:Int)) with
                |false =>
                 rw[hA]at TF;have TF:(cD 88 (.map (Z D)) (cg #[J V (p:Int),J V (q:Int)]) false).run af T=.ok (J V 0) T:=TF;have hC:=True.intro;clear Tv;have Wn:=True.intro;have hz:rn ((p:Int),(q:Int))=0:=by rw[Wl.O];simp[hA,hC]
                 obtain⟨W1,Tm,Tg,u1⟩:=mD.put BF (l1:=[.cw Ue 91 #[J V (p:Int),J V (q:Int)],.map K (aa cm) H.length,.map D (aa Tn) 6,.cw C 45 (jQ x P)]) f.O z ((p:Int),(q:Int)) Tt.O (J V (rn ((p:Int),(q:Int))));have TG:=I8.put HR.O S;rw[hz]at Tm;have Tm:(eF 87 (.map (Z u)) (cg #[J V (p:Int),J V (q:Int)]) (J V 0)).run af T=.ok () W1:=Tm;obtain⟨TX,US⟩:=bu (Tg.sub (oq _ _)) TG;clear Tg TG u1 hz hA hC f HR UR Wn;go_wp2_with fail;go_roundw;case rel=>exact⟨q+1,_,by go_num,z,TX.O,US.O⟩
                 case measure=>simp[bS];omega
                |true =>
                 rw[hA]at TF;have TF:(cD 88 (.map (Z D)) (cg #[J V (p:Int),J V (q:Int)]) false).run af T=.ok (J V 1) T:=TF;cases hC:cm ((p:Int),(q:Int)) with
                 |true =>
                  rw[hC]at Tv;have Tv:(cD 88 (.map (Z K)) (cg #[J V (p:Int),J V (q:Int)]) false).run af T=.ok (J V 1) T:=Tv;have Wn:=True.intro;have hz:rn ((p:Int),(q:Int))=0:=by rw[Wl.O];simp[hA,hC]
                  obtain⟨W1,Tm,Tg,u1⟩:=mD.put BF (l1:=[.cw Ue 91 #[J V (p:Int),J V (q:Int)],.map K (aa cm) H.length,.map D (aa Tn) 6,.cw C 45 (jQ x P)]) f.O z ((p:Int),(q:Int)) Tt.O (J V (rn ((p:Int),(q:Int))));have TG:=I8.put HR.O S;rw[hz]at Tm;have Tm:(eF 87 (.map (Z u)) (cg #[J V (p:Int),J V (q:Int)]) (J V 0)).run af T=.ok () W1:=Tm;obtain⟨TX,US⟩:=bu (Tg.sub (oq _ _)) TG;clear Tg TG u1 hz hA hC f HR UR Wn;go_wp2_with fail;go_roundw;case rel=>exact⟨q+1,_,by go_num,z,TX.O,US.O⟩
                  case measure=>simp[bS];omega
                 |false =>
                  rw[hC]at Tv;have Tv:(cD 88 (.map (Z K)) (cg #[J V (p:Int),J V (q:Int)]) false).run af T=.ok (J V 0) T:=Tv;obtain⟨rv,Vm⟩:=dH (run ((p:Int),(q:Int)));have hz:rn ((p:Int),(q:Int))=rv+1:=by rw[Wl.O];simp[hA,hC,Vm]
                  have XX:0<=rv:=by rw[Vm];exact XB.O _
                  have XY:rv+1<ek:=by rw[<-hz];exact(XC.O _).2
                  have XZ:ek<=1000:=by have:=To.O;omega
                  have Xo:(Fq ((p:Int),(q:Int))).getD (J V 0)=J V rv:=by rw[HR.O _ (RU Xn S),M.PN,Vm]
                  have hD:=f.O.below (cd (ao T.heap.size T) 1);have Vn:=gA.sW xM BF (F:=Fq) (hD.get (x:=.map u Fq (9*m+3*p+q)) dt) ((p:Int),(q:Int)) Tt.O (Kw _);obtain⟨v0,st,W1,W3,e1,e2,e3,Tg⟩:=mD.entry (l1:=[.cw Ue 91 #[J V (p:Int),J V (q:Int)],.map K (aa cm) H.length,.map D (aa Tn) 6,.cw C 45 (jQ x P)]) hD z ((p:Int),(q:Int)) Tt.O (J V (rn ((p:Int),(q:Int))));rw[Xo]at Vn e2;rw[hz]at e3;have Vn:(cD 87 (.map (Z u)) (cg #[J V (p:Int),J V (q:Int)]) false).run af T.drew=.ok (J V rv) T.drew:=Vn;have e1:(Instr.mapEntry 87 (.map (Z u)) (cg #[J V (p:Int),J V (q:Int)])).run af T.drew=.ok (aB #[v0,J V st]) W1:=e1;have e2:(cD 87 (.map (Z u)) (cg #[J V (p:Int),J V (q:Int)]) false).run af W1=.ok (J V rv) W1:=e2;have Xg:V.wrap (rv+1)=rv+1:=IntWalk.i64_in _ z;have TG:=I8.put HR.O S;obtain⟨TX,US,HZ⟩:=bU Tg TG hz;clear Tg TG hz Xo hD Vm f HR UR;go_upto_region 50 with fail;go_region;all_goals
                   refine gN (λY=>mD w Y B9 R1 (20*m+20) [.cw Ue 91 #[J V (p:Int),J V (q:Int)],.map K (aa cm) H.length,.map D (aa Tn) 6,.cw C 45 (jQ x P),.map u (M.set Fq ((p:Int),(q:Int)) (Z (J V (rn ((p:Int),(q:Int)))))) (9*m+3*p+q+1),.map E UP (9*m+H.length),.xX g mb (M.kF x f1 Tf) (M.vy R1 x f1 jo) (3*m+3),.cw r2 25 #[J V (rm:Int),J V eJ,J V cX,J V eA,J V ek,J V aT]]) (by first|exact TX.O|exact TX.O.below (cd (ao _ _) _)) ?_;clear z0 z1 Vn TF Tv e1 e2 e3 Xg TX;rintro Y d;have TE:=(d.get (Ac ..)).1;have z0:=TE.cell 0;have z1:=TE.cell 1;have c4:=((d.get (x:=.cw r2 25 #[J V (rm:Int),J V eJ,J V cX,J V eA,J V ek,J V aT]) dt).1).cell 4;simp at z0 z1 c4;have Xd:∀n,(cD 87 (.map (Z u)) (cg #[J V (p:Int),J V (q:Int)]) false).run af (Y.drewN n)=.ok (J V (rv+1)) (Y.drewN n):=λn=>by
                    have N:=gA.sW xM BF (F:=(M.set Fq ((p:Int),(q:Int)) (Z (J V (rn ((p:Int),(q:Int))))))) ((d.below (cd (ao Y.heap.size Y) n)).get (x:=.map u (M.set Fq ((p:Int),(q:Int)) (Z (J V (rn ((p:Int),(q:Int)))))) (9*m+3*p+q+1)) dt) ((p:Int),(q:Int)) Tt.O (Kw _);rw[show M.set Fq ((p:Int),(q:Int)) (Z (J V (rn ((p:Int),(q:Int))))) ((p:Int),(q:Int))=Z (J V (rn ((p:Int),(q:Int)))) from if_pos rfl,HZ.O]at N;exact N
                   have Xy:decide (ek<=rv+1)=false:=decide_eq_false z;have f:=au (d.sub (oq _ _));clear d TE;go_upto_region 51 with fail;go_quiet (fail);go_wp2_with fail;go_roundw;case rel=>exact⟨q+1,_,by go_num,z,f.O.below (cd (ao _ _) _),US.O⟩
                   case measure=>simp[bS];omega
               ·have XF:q=3:=z;subst XF;obtain⟨f,HR⟩:=bu d hR;clear d hR;go_wp2_with fail;go_roundw;case rel=>exact⟨p+1,Fq,by go_num,z,f.O,HR.O⟩
                case measure=>simp[bS];omega
             ·have XG:p=3:=z;subst XG;go_wp2_with fail;go_roundw;case rel=>exact⟨j+1,m+1,B9,R1,_,_,_,_,rn,UP,Fq,congrArg (J V) (by rw[<-Va.O,Tz.O];simp),by go_num,z,z,Tx,Gu (f.O.sub (Ho _)) z z,⟨XA.O,λo ho=>by rw[HR.O o ho,M.MP run rn o ho]⟩,XD.O⟩
              case measure=>simp[bS];omega
         ·have hE:=Uz.O rfl;have hz:¬(0:Int)<(H.length:Int):=by rw[hE];simp
          have TC:¬(x.nv=2/\f1=0):=λN=>by
           have q:=TO.O;rw[decide_eq_true N.1,decide_eq_true N.2]at q;cases q
          have Xp:=(Uw.O TC).2;have XH:=au Xp;clear hE TC Xp Uz Uw Ux TO HI;go_wp2_with fail;go_roundw;case rel=>exact⟨j+1,m+1,B9,R1,_,_,_,fH,run,Fl,Fn,congrArg (J V) (by rw[<-Va.O,Tz.O];simp),by go_num,z,z,Tx,Gu (f.O.sub (Ho _)) z z,HM.O,XH.O⟩
          case measure=>simp[bS];omega
      ·have XI:j=Ts:=z;subst XI;obtain⟨f,HM,HI⟩:=bU (d.sub (oq _ _)) hM hI;clear d hM hI;go_wp2_with fail;go_roundw;case rel=>exact⟨k+1,m,Bk,R,G,Tf,jo,fH,run,Fl,Fn,rfl,by go_num,z,z,TJ,f.O,HM.O,HI.O⟩
       case measure=>simp[bS];omega
    ·have XJ:k=n1:=z;subst XJ;have f:=au d;clear d hM hI;go_wp2_with fail;go_ret;exact⟨rfl,f.O.bw⟩
end Go.Proofs.YtkfblammcilfhaaGreatDoor
