import Derived.Deep.CutBlock
import Derived.Test.YtkfblammcilfhaaGreatDoorP10
import Derived.Test.YtkfblammcilfhaaGreatDoorP14
set_option linter.all false
set_option maxRecDepth 100000
set_option maxHeartbeats 100000000
open Go.ChangeShapes Go.WideShapes Go.ChangeAt Go.RowKit Go.Proofs.Tryz
open Go renaming World->aw,Calls->aF,bodyPost_end->dq,results_none->bT,bodyPost_ret->ax,results->aV,wp_region_held_drew->fC,yieldsIf_load_mid->eS,wpAnyH_ready->cH,wpAnyH_done->gV
open List renaming filter_congr->sA,getElem?_map->dE,take_length->cT,getElem?_eq_getElem->ay,mem_filter->eL,length_filter_le->eE,getElem_mem->dy,getD_eq_getElem?_getD->bE,getElem?_eq_some_iff->aS,setIfInBounds_toArray->eY,set_cons_zero->gK,set_cons_succ->gL,getElem_of_mem->ed,length_take->ix,getElem_take->sx
open Go.Value renaming int->J,slice->ae,bool->ai,pointer->aq,tuple->aB,agg->cg
open Nat renaming le_succ->cZ,le_trans->aP,le_refl->aj,zero_add->cO
open Go.Proofs.Tryz renaming prog->af
open Go.RowKit renaming intOf->bS
open Option renaming isSome_iff_exists->dw,none->I,some->Z
open And renaming intro->dj
open Go.Instr renaming lookup->cD
open Go.RowKit.Below renaming refl->ao
open Go.Act renaming put->aA
open Go.AllReadyH renaming cons->bH,nil->cy
open Bool renaming not_true->jV,false_eq_true->cB,true_eq_false->rL
open Go.IntKind renaming i64->V,u32->ar,u16->aN,u8->bI
open Go.Ending renaming returned->av
namespace Go.Proofs.YtkfblammcilfhaaGreatDoor
section
theorem gh.cells{w w':aw}{B:SB}{eJ cX:Int}{s s':M.eu}{N N':Nat}(h:gh w B eJ cX s N)(f:Fr (One B.g) w w')(b:aK w' B.g 172 (kI B s'))(e:s'.bQ=s.bQ)
  (hg:-100000*(N':Int)<=s'.dv/\s'.dv<=100000*(N':Int)+200000) (c:0<=s'.dJ.fH/\s'.dJ.fH<=N') (ht:0<=s'.dJ.gB/\s'.dJ.gB<=N'):gh w' B eJ cX s' N'/\Fr B.own w w':=
 ⟨⟨b,by
  rw[e]
  refine h.buf.dW f.u (λi a q=>?_)
  have q:i=B.g:=q
  rcases a with a|a
  ·exact aK.jf h.buf.cw h.cw aR (a.symm.trans q)
  ·exact ej h.buf.row h.cw aR (q ▸ a).symm,hg,c,ht⟩,f.mono λi _ q=>.inl q⟩
def Hq(s:M.eu):M.eu:={ s with jc:=true }
theorem gh.asked{w:aw}{B:SB}{eJ cX:Int}{s:M.eu}{N:Nat}(h:gh w B eJ cX s N):gh (w.setCell ⟨B.g,7,I⟩ (ai true)) B eJ cX (Hq s) N/\Fr B.own w (w.setCell ⟨B.g,7,I⟩ (ai true)):=
 h.cells ((Fr.refl (One B.g) _).setCell h.cw (.inl rfl) aR aR 7 _) (by simpa[kI,Hq]using h.cw.bC 7 (ai true)) rfl h.uE h.fH h.gB
def si(r:M.Room)(s:Int):M.Room:=
 match r.of s,r.aD s with
 |some jo,some l=>if l.wanted&&M.there l.dx then r.fG (jo,l.dx) (λx=>{ x with jc:=true }) else r
 |_,_=>r
theorem M1(r:M.Room)(x:Int):r.ask x=(r.pj x).foldl si r:=rfl
theorem Gg(r:M.Room)(x:Int):r.pj x=tJ r.bh (λs=>decide (s.own=x)):=by
 unfold M.Room.pj tJ;refine sA λs _=>?_;unfold oR;cases r.bh s<;>rfl
structure pM(r r':M.Room):Prop where
 bh:r'.bh=r.bh
 aD:r'.aD=r.aD
 az:∀o,(r'.az o).isSome=(r.az o).isSome
theorem pM.refl(r:M.Room):pM r r:=⟨rfl,rfl,λ_=>rfl⟩
theorem pM.trans{a b c:M.Room}(h:pM a b)(k:pM b c):pM a c:=⟨k.bh.trans h.bh,k.aD.trans h.aD,λo=>(k.az o).trans (h.az o)⟩
theorem pM.fold{α:Type}(f:M.Room->α->M.Room)(b:∀r a,pM r (f r a)):∀(l:List α) (r:M.Room),pM r (l.foldl f r)
 |[],r=>pM.refl r
 |a::l,r=>(b r a).trans (pM.fold f b l (f r a))
theorem pM.to(r:M.Room)(s:Int):pM r (si r s):=by
 unfold si;split
 ·split
  ·unfold M.Room.fG;split
   ·rename_i h;exact⟨rfl,rfl,λo=>M.ur _ _ _ (by rw[h];rfl) o⟩
   ·exact pM.refl r
  ·exact pM.refl r
 ·exact pM.refl r
theorem pM.ask(r:M.Room)(x:Int):pM r (r.ask x):=pM.fold si pM.to _ r
structure np(r:M.Room):Prop where
 iJ:∀s,(r.bh s).isSome=(r.aD s).isSome
 range:∀s,(r.aD s).isSome=true->0<=s/\s<6
 sub:∀s x,r.bh s=Z x->x.cL=true->(0<=x.jo/\x.jo<3)/\∀k,0<=k->k<3->(r.az (x.jo,k)).isSome=true
theorem np.tc{r r':M.Room}(h:np r)(k:pM r r'):np r':=
 ⟨λs=>by rw[k.bh,k.aD];exact h.iJ s,λs q=>h.range s (by rw[<-k.aD];exact q),λs x q y=>by
  rw[k.bh]at q
  obtain⟨a,b⟩:=h.sub s x q y
  exact⟨a,λi i0 i1=>by rw[k.az];exact b i i0 i1⟩⟩
theorem np.may{r:M.Room}(h:np r):∀s,(r.bh s).isSome=true->M.fY s=true:=λs q=>by
 have:=h.range s (by rw[<-h.iJ];exact q);simp[M.fY];omega
def Il(r:M.Room)(b:M.cQ):M.Room:=match M.ff b with
 |none=>r.count λc=>{ c with cI:=c.cI+1 }
 |some l=>l.foldl M.Room.ask (r.count λc=>{ c with ff:=c.ff+1 })
theorem NK{w:aw}{base n c k:Nat}{A:Option Addr}{l:List Int}(h:w.ownsRow base 41 1 (ae A n c) n (l.map (J ar))){x:Int}(a:l[k]? = Z x):∃r,A=Z ⟨r,0,I⟩/\w.cell? ⟨r,k,I⟩=Z (J ar x)/\n<=c:=by
 obtain⟨r,e,h1,h2,h3⟩:=xn h (k:=k) (x:=J ar x) (by rw[dE,a];rfl);exact⟨r,e,h1,(uO h).1⟩
theorem uN{w:aw}{base n c k:Nat}{A:Option Addr}{l:List Int}(h:w.ownsRow base 3 1 (ae A n c) n (l.map (J V))){x:Int}(a:l[k]? = Z x):∃r,A=Z ⟨r,0,I⟩/\w.cell? ⟨r,k,I⟩=Z (J V x)/\n<=c:=by
 obtain⟨r,e,h1,h2,h3⟩:=xn h (k:=k) (x:=J V x) (by rw[dE,a];rfl);exact⟨r,e,h1,(uO h).1⟩
theorem nh{w w':aw}{base:Nat}{B:RB}{e:TypeId}{size n:Nat}{v:Value}{xs:List Value}(h:w.ownsRow base e size v n xs)(f:Fr B.all w w')(a:∀i,B.all i->i<base):w'.ownsRow base e size v n xs:=
 du h f.u (λi b q=>by have:=(h.lt i b).1;have:=a i q;omega)
theorem qR{α β:Type}[DecidableEq α](f:α->β)(k:α)(v:β)(h:f k=v):M.set f k v=f:=by
 funext x;unfold M.set;split
 ·rename_i e;rw[e,h]
 ·rfl
theorem fK.fN{w w':aw}(B:RB)(b:aC w w'):fK w w' B B:=⟨rfl,.bn b,λi q=>.inl q⟩
section
variable {B:RB} {R:M.Room} {N:Nat} {w:aw} (h:aL w B R N)
include h
theorem aL.M0{o:M.bN}{s:M.eu}{S:SB}(a:R.az o=Z s)(b:B.sb o=Z S) :
  aL (w.setCell ⟨S.g,7,I⟩ (ai true)) B (R.fG o (λx=>{ x with jc:=true })) N/\fK w (w.setCell ⟨S.g,7,I⟩ (ai true)) B B:=by
 obtain⟨S',e,c⟩:=h.iB a;rw[b]at e;cases e;have d:=h.nL a b c.asked.2 c.asked.1 rfl (λi q=>.inl q);have e:R.fG o (λx=>{ x with jc:=true })={ R with az:=M.set R.az o (Z (Hq s)) }:=by unfold M.Room.fG;rw[a];rfl
 rw[qR B.sb o (Z S) b]at d;rw[e];exact d
theorem aL.ri(i:Nat)(f:M.nH->M.nH)(v:Value)(a:oS B (R.count f)=(oS B R).setIfInBounds i v)(b:yz (R.count f) (N+1)):aL (w.setCell ⟨B.g,i,I⟩ v) B (R.count f) (N+1)/\fK w (w.setCell ⟨B.g,i,I⟩ v) B B:=
 (h.mono (cZ N)).rq (cJ:=R.cJ) (cN:=R.cN) (bp:=f R.bp) ((Fr.refl (One B.g) _).setCell h.cw (.inl rfl) aR aR i v) (by
  have e:=h.cw.bC i v
  rw[<-a]at e;exact e) b
theorem Jd(sl:Sl)(x:M.cQ)(F:sl.B w x)(h4:sl.n<=400)(hk:np R)(hN:N<900000):aF af 122 #[aq (Z ⟨B.g,0,I⟩),ae sl.a sl.n sl.c] w (kk B w (aB #[]) (Il R x) (N+1)):=by
 obtain⟨res,K⟩:=dH (Il R x);rw[<-K];have U:=Kb sl.a sl.n sl.c x w F.tl F.le F.zero z;have hr:res=match M.ff x with | none=>R.count λc=>{ c with cI:=c.cI+1 } | some l=>l.foldl M.Room.ask (R.count λc=>{ c with ff:=c.ff+1 }):=K
 generalize M.ff x=tl at U hr;have SI:=h.cw.cell 17;have SJ:=h.cw.cell 19;have f17:=h.cw.frozen 17;have f19:=h.cw.frozen 19;have n1:=h.et.cI;have n3:=h.et.ff;simp at SI SJ;have H:=au h;cases tl with
 |none =>
  have P:res=R.count λc=>{ c with cI:=c.cI+1 }:=hr;obtain⟨HR,SK⟩:=bu P U;clear hr P U K F hk h;go_enter func122,ntmps122;go_upto_region 1 with(go_big_may;go_at_call 178;refine SK.O.mono ?_;rintro e w1 ⟨⟨v,er,rfl,Th⟩,b1⟩;have hb:(er==0)=false:=(by simpa using Th);have d17:=aM b1 SI;have TM:=(H.O.cw.kept b1).frozen 17;have D:=au b1;clear b1 Th SI SJ f17 f19)
  go_wp2_with fail;have m:=(H.O.below D.O).ri 17 (λc=>{ c with cI:=c.cI+1 }) (J V (R.bp.cI+1)) rfl { H.O.et.mono (cZ N) with cI:=by have:=H.O.et.cI;show 0<=R.bp.cI+1/\R.bp.cI+1<=((N+1:Nat):Int);omega };first
   |refine dq (bT results122 _ _ _) rfl ?_
   |refine ax (v:=aB #[]) (by simp[aV,results122,go_sem]) rfl ?_
  first|exact⟨B,rfl,by rw[HR.O];exact m.1,(fK.fN B D.O).trans m.2⟩|exact⟨rfl,B,by rw[HR.O];exact m.1,(fK.fN B D.O).trans m.2⟩
 |some l =>
  have P:res=l.foldl M.Room.ask (R.count λc=>{ c with ff:=c.ff+1 }):=hr;obtain⟨R1,SL⟩:=dH (R.count λc=>{ c with ff:=c.ff+1 });rw[<-SL]at P;have Ti:np R1:=by rw[SL];exact⟨hk.iJ,hk.range,hk.sub⟩
  obtain⟨HR,SK,Tj,TA⟩:=cA P U SL Ti;clear hr P U K F hk SL Ti h;go_enter func122,ntmps122;go_upto_region 1 with(go_big_may;go_at_call 178;refine SK.O.mono ?_;rintro e w1 ⟨⟨v,nT,q,rfl,own,fit,hl,Tk⟩,b1⟩;have d19:=aM b1 SJ;have Tl:=(H.O.cw.kept b1).frozen 19;obtain⟨A4,c4,rfl⟩:=bA own;have D:=au b1;have C:=au own;have HF:=au fit;have Tm:=au Tk;have HL:=au hl;clear b1 own fit Tk hl SI SJ f17 f19)
  go_upto_region 4 with fail;have m:=(H.O.below D.O).ri 19 (λc=>{ c with ff:=c.ff+1 }) (J V (R.bp.ff+1)) rfl { H.O.et.mono (cZ N) with ff:=by have:=H.O.et.ff;show 0<=R.bp.ff+1/\R.bp.ff+1<=((N+1:Nat):Int);omega };rw[<-Tj.O]at m;have E:∀i,B.all i->i<w.heap.size:=H.O.lt;have oz:=nh C.O m.2.fr E;have fz:Fit (mE (w1.setCell ⟨B.g,19,I⟩ (J V (R.bp.ff+1)))) nT q:=HF.O.mono (λa c k=>k.map (λg dx y=>y.dS (p:=⟨B.g,19,I⟩) (aK.jf y (H.O.below D.O).cw aR) _));refine aW (λX=>aL X B R1 (N+1)/\fK w X B B/\X.ownsRow w.heap.size 288 17 (ae A4 nT.length c4) nT.length q.flatten/\Fit (mE X) nT q) ⟨m.1,(fK.fN B D.O).trans m.2,oz,fz⟩ ?_;have TC:=au E;clear m oz fz D C HF d19 Tl H Tj E;rintro X ⟨h,A,own,fit⟩;have has:=Ku w.heap.size A4 c4 nT q X own fit Tm.O;rw[<-HL.O]at has;have Tn:=au has;have TP:l.length<=1800:=by have:=zQ fit;have:=Tm.O;rw[HL.O];omega
  have TQ:=A.fr.size;obtain⟨H,HS⟩:=bu h A;clear h A own fit has;go_wp2_with (go_at_call 179;refine Tn.O.mono ?_;rintro e w2 ⟨v,rfl,own,b2⟩;obtain⟨A5,c5,rfl⟩:=bA own;have C:=au own;have SM:=au b2;clear own b2);have E:∀i,B.all i->i<X.heap.size:=H.O.lt;have To:=au E;clear E Tn TC HL SK;go_loopw [41] (λi wr=>∃k:Nat,i=J V k/\k<=l.length/\aL wr B ((l.take k).foldl M.Room.ask R1) (N+1)/\fK w wr B B/\wr.ownsRow X.heap.size 41 1 (ae A5 l.length c5) l.length (l.map (J ar))/\X.heap.size<=wr.heap.size) (λi _=>l.length-(bS i).toNat);case atStart=>exact⟨0,rfl,z,H.O.below SM.O,HS.O.trans (fK.fN B SM.O),C.O,SM.O.size⟩
  case round =>
   clear C SM H HS;obtain⟨k,rfl,hk,hR,A,own,d⟩:=hrel;by_cases E:k<l.length;rotate_left
   ·have TD:k=l.length:=z;subst TD;rw[cT,<-HR.O]at hR;obtain⟨H,HS⟩:=bu hR A;clear hR A own;go_wp2_with fail;first
     |refine dq (bT results122 _ _ _) rfl ?_
     |refine ax (v:=aB #[]) (by simp[aV,results122,go_sem]) rfl ?_
    first|exact⟨B,rfl,H.O,HS.O⟩|exact⟨rfl,B,H.O,HS.O⟩
   have TR:((k:Int)<(l.length:Int)):=z;have F:l[k]? = Z l[k]:=ay E;obtain⟨r5,rfl,q0,TS⟩:=NK own F;have b:=M.lL M.Room.ask l k l[k] R1 F;generalize l[k]=src at F q0 b;obtain⟨f,SZ⟩:=dH ((l.take k).foldl M.Room.ask R1);rw[<-SZ]at hR b;have aI:np f:=by rw[SZ];exact TA.O.tc (pM.fold _ pM.ask _ _)
   have df:f.pj src=tJ f.bh (λs=>decide (s.own=src)):=Gg f src;have eI:=λW (hW:aL W B f (N+1))=>Aj B.t f.cW f.aQ f.bh (N+1) W (hW.part .table) z aI.may src;rw[<-df]at eI;have Tp:f.ask src=(f.pj src).foldl si f:=M1 f src;have SV:∀s∈f.pj src,(0<=s/\s<6)/\(f.bh s).isSome=true:=by
    intro s hs;rw[df]at hs;unfold tJ oR at hs;rw[eL]at hs;cases q:f.bh s with
    |none=>rw[q]at hs;simp at hs
    |some y=>exact⟨aI.range s (by rw[<-aI.iJ,q];rfl),rfl⟩
   have hlen:(f.pj src).length<=6:=aP (eE _ _) (aj 6);have gX:=hR.cw.cell 11;simp at gX;obtain⟨SW,TE,Tq,SX,TF,H,HS,C⟩:=qh eI b Tp SV aI hR A own;clear eI b Tp SV aI hR A own df SZ F;generalize f.pj src=o at SW Tq SX hlen;go_wp2_with (go_at_call 180;refine(SW.O _ H.O).mono ?_;rintro e w3 ⟨v,rfl,ky,b3⟩;obtain⟨A7,c7,rfl⟩:=bA ky;have r:=au ky;have mK:=au b3;clear ky b3);have Ta:X.heap.size<=wr.heap.size:=d;go_loopw [52] (λi wr=>∃j:Nat,i=J V j/\j<=o.length/\aL wr B ((o.take j).foldl si f) (N+1)/\fK w wr B B/\wr.ownsRow X.heap.size 41 1 (ae (Z ⟨r5,0,I⟩) l.length c5) l.length (l.map (J ar))/\wr.ownsRow X.heap.size 3 1 (ae A7 o.length c7) o.length (o.map (J V))/\X.heap.size<=wr.heap.size) (λi _=>o.length-(bS i).toNat);case atStart=>exact⟨0,rfl,z,H.O.below mK.O,HS.O.trans (fK.fN B mK.O),gI C.O mK.O,qS r.O Ta,aP Ta mK.O.size⟩
   case round =>
    clear C r mK H HS Ta d gX;obtain⟨j,rfl,hj,hR,A,own,ky,d⟩:=hrel;by_cases Tr:j<o.length;rotate_left
    ·have TG:j=o.length:=z;subst TG;rw[cT,<-Tq.O]at hR;obtain⟨H,HS,C⟩:=bU hR A own;clear hR A own ky;go_wp2_with fail;go_roundw;case rel=>exact⟨k+1,by go_num,z,by rw[TE.O];exact H.O,HS.O,C.O,d⟩
     case measure=>simp[bS];omega
    have TT:((j:Int)<(o.length:Int)):=z;have F:o[j]? = Z o[j]:=ay Tr;obtain⟨r7,rfl,q1,TN⟩:=uN ky F;obtain⟨TH,SN⟩:=SX.O o[j] (dy Tr);have b:=M.lL si o j o[j] f F;have SO:pM f ((o.take j).foldl si f):=pM.fold _ pM.to _ _;generalize o[j]=s at F q1 TH SN b;generalize (o.take j).foldl si f=Q at hR b SO;have Ts:=TF.O.tc SO;rw[<-SO.bh]at SN;obtain⟨y,hy⟩:=dw.1 SN;have Tt:(Lit.int V s).wf=true:=Ig z z;have Tb:=λW (hW:aL W B Q (N+1))=>LO B.t Q.cW Q.aQ Q.bh (N+1) W (hW.part .table) s Tt;rw[hy]at Tb;obtain⟨SP,Tc,Tu,HY,H,HS,C,r⟩:=qh Tb b Ts hy hR A own ky;have gX:=hR.cw.cell 11;have SG:=hR.cw.cell 12;simp at gX SG;clear Tb b Ts hy hR A own ky SO F SN;cases G:y.cL with
    |false =>
     have e0:si Q s=Q:=by unfold si M.Room.of;rw[HY.O];simp[G]
     have HE:=au e0;rw[show(Z y).getD (⟨0,false,0⟩:M.Sub)=y from rfl,G]at SP;clear e0 G SG;go_wp2_with (go_at_call 91;refine(SP.O _ H.O).mono ?_;rintro e w4 ⟨rfl,b4⟩;have u:=au b4;clear b4);go_roundw;case rel=>exact⟨j+1,by go_num,z,by rw[Tc.O,HE.O];exact H.O.below u.O,HS.O.trans (fK.fN B u.O),gI C.O u.O,gI r.O u.O,aP d u.O.size⟩
     case measure=>simp[bS];omega
    |true =>
     rw[show(Z y).getD (⟨0,false,0⟩:M.Sub)=y from rfl,G]at SP;obtain⟨lm,SQ⟩:=dw.1 (show(Q.aD s).isSome=true by rw[<-Tu.O.iJ,HY.O];rfl);obtain⟨hp,T⟩:=Tu.O.sub s y HY.O G;have e0:si Q s=if lm.wanted&&M.there lm.dx then Q.fG (y.jo,lm.dx) (λx=>{ x with jc:=true }) else Q:=by unfold si M.Room.of;rw[HY.O,SQ];simp[G]
     obtain⟨L,hL,hA⟩:=H.O.jq SQ;obtain⟨HE,TI,Tv⟩:=bU e0 T (dj SQ hL);clear e0 T SQ hA G;go_upto_region 12 with(go_big_may;go_at_call 91;refine(SP.O _ H.O).mono ?_;rintro e w4 ⟨rfl,b4⟩;have u:=au b4;clear b4)
     have h4:=H.O.below u.O;have SG:=h4.cw.cell 12;have Tw:(cD 54 (.map (Z B.lm)) (J V s) false).run af w4=.ok (aq (Z ⟨L.g,0,I⟩)) w4:=by
      have m:=h4.kW s Tt;rw[Tv.O.2]at m;exact m
     obtain⟨L',e',hA⟩:=h4.jq Tv.O.1;rw[hL]at e';cases e';obtain⟨SY,H4⟩:=bu (vH L Q.dA.aG Q.dA.aT lm (N+1) w4 hA) h4;simp at SG;clear h4 hA hL gX;go_upto_region 13 with(go_big_may;go_at_call 44;refine SY.O.mono ?_;rintro e w5 ⟨rfl,b5⟩;have Tx:=au b5;clear b5)
     obtain⟨Ty,Td⟩:=dH w5.heap.size;rw[<-Td];have bl:aC wr w5:=u.O.trans (Tx.O.mono u.O.size);have al:aC wr (w5.alloc (.cells #[J V lm.dx,J V lm.fh] 68)):=bl.alloc bl.size _;have TV:∀i,B.all i->i≠Ty:=λi hi=>by have:=H.O.lt i hi;have:=bl.size;omega
     refine aW (λY=>aK Y Ty 68 #[J V lm.dx,J V lm.fh]/\aL Y B Q (N+1)/\fK w Y B B/\Y.ownsRow X.heap.size 41 1 (ae (Z ⟨r5,0,I⟩) l.length c5) l.length (l.map (J ar))/\Y.ownsRow X.heap.size 3 1 (ae (Z ⟨r7,0,I⟩) o.length c7) o.length (o.map (J V))/\X.heap.size<=Y.heap.size) ⟨aK.newAt _ _ _ _ Td,H.O.below al,HS.O.trans (fK.fN B al),gI C.O al,gI r.O al,aP d al.size⟩ ?_;clear Td bl al H HS C r H4 u Tx SY Tw SG q1 q0 d w5 w4;rintro Y ⟨Te,hR,A,own,ky,d⟩;have k0:=Te.cell 0;simp at k0;obtain⟨H,HS,C,r,TO⟩:=gY hR A own ky Te;have TJ:=hR.cw.cell 13;simp at TJ;clear hR A own ky Te;have Tz:(lm.wanted&&M.there lm.dx)=false->aL Y B ((o.take (j+1)).foldl si f) (N+1):=λq=>by rw[Tc.O,HE.O,if_neg (by simp[q])];exact H.O
     have Tf:=au Tz;clear Tz;cases hw:lm.wanted with
     |false =>
      go_wp2_with fail;go_roundw;case rel=>exact⟨j+1,by go_num,z,Tf.O (by simp[hw]),HS.O,C.O,r.O,d⟩
      case measure=>simp[bS];omega
     |true =>
      cases ht:M.there lm.dx with
      |false =>
       have HT:=au ht;clear ht;go_wp2_with (go_at_call 88;refine(kU _ _).mono ?_;rw[HT.O];rintro e w6 ⟨rfl,e6⟩;subst e6);go_roundw;case rel=>exact⟨j+1,by go_num,z,Tf.O (by simp[HT.O]),HS.O,C.O,r.O,d⟩
       case measure=>simp[bS];omega
      |true =>
       have HT:=au ht;have SH:0<=lm.dx/\lm.dx<3:=by simpa[M.there]using ht
       obtain⟨st,T⟩:=dw.1 (TI.O lm.dx SH.1 SH.2);obtain⟨S,A,Tg⟩:=(H.O.below (eW (ao Y.drew.heap.size Y.drew))).iB T;have Tw:(cD 55 (.map (Z B.sm)) (cg #[J V y.jo,J V lm.dx]) false).run af Y.drew=.ok (aq (Z ⟨S.g,0,I⟩)) Y.drew:=by
        have m:=(H.O.below (eW (ao Y.drew.heap.size Y.drew))).jU (y.jo,lm.dx) (ir ⟨by show _<=y.jo;omega,by show y.jo<=_;omega⟩ ⟨by show _<=lm.dx;omega,by show lm.dx<=_;omega⟩);rw[A]at m;exact m
       have s7:=Tg.cw.cell 7;have f7:=Tg.cw.frozen 7;have s7:Y.cell? ⟨S.g,7,I⟩=_:=s7;have f7:Y.frozen? ⟨S.g,7,I⟩=_:=f7;simp at s7;have m:=(H.O.below (eW (ao Y.drew.heap.size Y.drew))).M0 T A;have hE:=HE.O;rw[if_pos (by simp[hw,ht])]at hE;rw[<-hE,<-Tc.O]at m;obtain⟨HZ,SU⟩:=bu m.1 m.2;clear ht T A Tg m hE Tf SH;go_upto_region 14 with(go_big_may;go_at_call 88;refine(kU _ _).mono ?_;rw[HT.O];rintro e w6 ⟨rfl,e6⟩;subst e6)
       go_region;all_goals
        go_wp2_with fail;go_roundw;case rel=>exact⟨j+1,by go_num,z,HZ.O,(HS.O.trans (fK.fN B (eW (ao _ _)))).trans SU.O,nh (gI C.O (eW (ao _ _))) SU.O.fr To.O,nh (gI r.O (eW (ao _ _))) SU.O.fr To.O,aP d SU.O.fr.size⟩
        case measure=>simp[bS];omega
end
end
section
def mF(R:M.Room):Prop:=∀s id,R.di s id=Z 0->(R.aD s).isSome=true
theorem Du{R:M.Room}(h:mF R)(s:Int)(id:Nat){f:Int}(d:f≠0):mF (R.bR s id f):=by
 intro s' a q;unfold M.Room.bR at q ⊢;split at q
 ·rename_i b;rw[if_pos b];refine h s' a ?_;simp only[M.set]at q;by_cases e:s'=s
  ·subst e;rw[if_pos rfl]at q;by_cases c:a=id
   ·subst c;rw[M.dY]at q;simp at q;exact absurd q d
   ·rw[M.da _ _ c]at q;exact q
  ·rw[if_neg e]at q;exact q
 ·rename_i b;rw[if_neg b];exact h s' a q
theorem FZ{R:M.Room}(h:mF R)(x:M.Item)(s:Int):mF (M.Room.iW x R s):=by
 unfold M.Room.iW;split
 ·split
  ·exact h
  ·rename_i l b;have h2:mF { R with aD:=M.set R.aD s (Z (l.put R.dA.aG x).1) }:=by
    intro s' a q;show(M.set R.aD s (Z (l.put R.dA.aG x).1) s').isSome=true;unfold M.set;split
    ·rfl
    ·exact h s' a q
   simp only;split
   ·exact Du h2 _ _ aR
   ·exact h2
 ·exact h
theorem FU{R:M.Room}{o:M.bN}(h:R.ready=Z o):(∃s d r,R.az o=Z s/\s.bQ.bD=d::r/\s.bQ.ready R.dA.eJ R.dA.cX R.cJ=true)/\(0<=o.1/\o.1<3)/\0<=o.2/\o.2<3:=by
 rw[wg]at h;have h1:=List.find?_some h;have h2:=List.mem_of_find?_eq_some h;obtain⟨a,b,c⟩:=rb R h2;obtain⟨s,e⟩:=dw.1 c;unfold Ni at h1;rw[e]at h1;simp only at h1;refine⟨⟨s,?_⟩,a,b⟩;cases hh:s.bQ.bD with
 |nil=>unfold M.mf.ready at h1;rw[hh]at h1;cases h1
 |cons d r=>exact⟨d,r,e,rfl,h1⟩
theorem FY{w:aw}{B:LB}{aG N:Nat}{aT:Int}{l:M.dP}(h:ca w B aG aT l N)(x:M.Item){b:Nat}(e:(l.put aG x).2=Z b):b<=1000000:=by
 unfold M.dP.put at e;split at e
 ·cases e
 ·simp only at e;split at e
  ·cases a:l.cK with
   |nil=>rw[a]at e;cases e
   |cons y r =>
    rw[a]at e;simp at e;rw[<-e];exact h.EF a
  ·cases e
theorem Jk{R:M.Room}(h:mF R)(x:M.Item):∀l:List Int,mF (l.foldl (M.Room.iW x) R):=λl=>by
 induction l generalizing R with
 |nil=>exact h
 |cons a l b=>exact b (FZ h x a)
theorem Oq(w:aw):∀(x:M.kM) c,uJ w x c->c.length=13:=by
 rintro x c ⟨s,e,y,rfl,_⟩;rfl
section
variable {B:RB} {R:M.Room} {N:Nat} {w:aw} (h:aL w B R N)
include h
theorem FO(st s0:Int)(a:Bool)(o:M.bN)(ho:R.ready=Z o)(hN:N<1000000)(eI:mF R)(A:∀st,R.az o=Z st->∀y∈st.bQ.bD,y.id<R.aO.length) :
  aF af 67 #[aq (Z ⟨B.g,0,I⟩),cg #[J V st,J V s0],ai a] w λe w'=>∃B',e=av (aB #[])/\aL w' B' R.order N/\fK w w' B B':=by
 obtain⟨⟨s,D,r,hs,hh,TV⟩,UD,UE⟩:=FU ho;have hid:=A s hs D (by rw[hh];simp);obtain⟨acc,SV⟩:∃acc,R.aO[D.id]? = Z acc:=⟨_,ay hid⟩;obtain⟨res,aI⟩:=dH R.order;rw[<-aI];have e0:R.order=M.gF.foldl (M.Room.iW ⟨D.id,o.2,M.lx acc.bW.cF,acc.bW⟩) { R with az:=M.set R.az o (Z { s with bQ:=s.bQ.least }) }:=by
  unfold M.Room.order;rw[ho];simp only[hs,hh];rw[bE,SV];rfl
 have UF:=h.et.cJ;have UG:=h.et.aO;have UB:D.id<=1000000:=z;obtain⟨Tm,SH,HH,Us,HS,SW,HO,H0⟩:=qh (aI.trans e0) eI hh TV hs SV ho h;have TE:=h.lt;clear h aI e0 eI hh TV hs SV A ho;go_enter func67,ntmps67;go_upto_region 1 with fail;have al:aC w (w.alloc (.cells #[J V st,J V s0] 40)):=(ao _ w).alloc (aj _) _;refine aW (λX=>aL X B R N/\aC w X) ⟨H0.O.below al,al⟩ ?_;clear al H0;rintro X ⟨h,al⟩;have SI:=zj h hN;rw[HO.O]at SI;obtain⟨SI,H,HA⟩:=bU SI h al;clear h al;go_upto_region 2 with(go_big_may;go_at_call 110;refine SI.O.mono ?_;rintro e w1 ⟨rfl,b1⟩;have Tg:=au b1;clear b1)
 obtain⟨r6,e6⟩:=dH w1.heap.size;rw[<-e6];have b2:aC X (w1.alloc (.cells #[J V o.1,J V o.2] 91)):=Tg.O.alloc Tg.O.size _;have g6:w.heap.size<=r6:=by have:=HA.O.size;have:=Tg.O.size;omega
 refine aW (λY=>aK Y r6 91 #[J V o.1,J V o.2]/\aL Y B R N/\aC w Y) ⟨by simpa using aK.newAt _ _ _ _ e6,H.O.below b2,HA.O.trans (b2.mono HA.O.size)⟩ ?_;clear e6 b2 Tg SI H HA;rintro Y ⟨b6,h,al⟩;obtain⟨S,hS,Th⟩:=(h.below (eW (ao Y.drew.heap.size Y.drew))).iB HS.O;have TF:=h.cw.cell 13;have c9:=h.cw.cell 9;have y0:=b6.cell 0;have y1:=b6.cell 1;have q0:=Th.cw.cell 0;have q0:Y.cell? ⟨S.g,0,I⟩=_:=q0;simp at TF c9 y0 y1 q0;have SX:∀W,aL W B R N->(cD 55 (.map (Z B.sm)) (cg #[J V o.1,J V o.2]) false).run af W=.ok (aq (Z ⟨S.g,0,I⟩)) W:=λW hW=>by
  have C:=hW.jU o (ir ⟨z,z⟩ ⟨z,z⟩);rw[hS]at C;exact C
 have TW:=SX _ h;have Tn:=SX _ (h.below (eW (ao Y.drew.heap.size Y.drew)));obtain⟨To,HD,TX,SJ⟩:=cA (Hm S.b R.dA.eJ R.dA.cX R.cJ s.bQ D r Y.drew Th.buf ⟨z,z⟩ HH.O Us.O) (h.below (eW (ao Y.drew.heap.size Y.drew))) hS Th;have n6:∀i,B.all i->i≠r6:=λi hi=>by have:=TE i hi;omega
 obtain⟨Ut,H,SK,HA⟩:=cA n6 h b6 al;clear h b6 al hS Th SX n6 TE;have Tp:∀w9 B',gC w9 B' R.dA.eJ R.dA.cX s.bQ.least->B'.g=S.b.g->cS S.b.own Y.drew w9->(∀i,B'.own i->S.b.own i) ->
   (aL w9 { B with sb:=M.set B.sb o (Z ⟨S.g,B'⟩) } { R with az:=M.set R.az o (Z { s with bQ:=s.bQ.least }) } N/\fK w w9 B { B with sb:=M.set B.sb o (Z ⟨S.g,B'⟩) }/\aK w9 r6 91 #[J V o.1,J V o.2]) /\
   (w9.cell? ⟨B.g,13,I⟩=Z (.map (Z B.sm))/\w9.cell? ⟨B.g,9,I⟩=Z (J V R.cJ)/\w9.cell? ⟨r6,0,I⟩=Z (J V o.1)/\w9.cell? ⟨r6,1,I⟩=Z (J V o.2)/\w9.cell? ⟨S.g,0,I⟩=Z (aq (Z ⟨S.b.g,0,I⟩))/\(cD 55 (.map (Z B.sm)) (cg #[J V o.1,J V o.2]) false).run af w9=.ok (aq (Z ⟨S.g,0,I⟩)) w9):=by
  intro w9 B' hB hg u SL;have f9:Fr S.own Y.drew w9:=Fr.jT (u.mono λi _ q=>.inr q) (λi hi=>SJ.O.ni i hi);have Uu:¬S.own r6:=λq=>Ut.O r6 ⟨.fO o,S,TX.O,q⟩ rfl;have Tq:gh w9 ⟨S.g,B'⟩ R.dA.eJ R.dA.cX { s with bQ:=s.bQ.least } N:=by
   have hb:=SJ.O.cw.dW u (λq=>by
    have:=SJ.O.buf
    rcases q with q|q
    ·exact aK.jf SJ.O.cw this.cw aR q
    ·exact ej this.row SJ.O.cw aR q.symm)
   refine⟨?_,hB,SJ.O.uE,SJ.O.fH,SJ.O.gB⟩;have e:kI ⟨S.g,B'⟩ { s with bQ:=s.bQ.least }=kI S s:=by simp[kI,hg]
   rw[e];exact hb
  have C:=HD.O.nL HS.O TX.O f9 Tq rfl (λi q=>.inl (q.imp id (SL i)));have b9:=SK.O.drew.dW f9.u Uu;refine⟨⟨C.1,(⟨rfl,.bn (HA.O.trans ((eW (ao Y.drew.heap.size Y.drew)).mono HA.O.size)),λi q=>.inl q⟩:fK w Y.drew B B).trans C.2,b9⟩,?_,?_,?_,?_,?_,?_⟩
  ·have:=C.1.cw.cell 13;simpa using this
  ·have:=C.1.cw.cell 9;simpa using this
  ·have:=b9.cell 0;simpa using this
  ·have:=b9.cell 1;simpa using this
  ·have:=Tq.cw.cell 0;simp at this;rw[hg]at this;exact this
  ·have z2:=C.1.jU o (ir ⟨z,z⟩ ⟨z,z⟩);have e:(M.set B.sb o (Z (⟨S.g,B'⟩:SB))) o=Z ⟨S.g,B'⟩:=M.dY _ _ _;rw[show({ B with sb:=M.set B.sb o (Z ⟨S.g,B'⟩) }:RB).sb o=Z ⟨S.g,B'⟩ from e]at z2;exact z2
 have Tr:=au Tp;clear Tp;go_upto_region 3 with fail;go_cut [9] (λv wc=>v=J V D.id/\∃B',aL wc B' { R with az:=M.set R.az o (Z { s with bQ:=s.bQ.least }) } N/\fK w wc B B'/\aK wc r6 91 #[J V o.1,J V o.2]);case first =>
  go_region_held3 (λW=>W.cell? ⟨B.g,13,I⟩=Z (.map (Z B.sm))/\W.cell? ⟨B.g,9,I⟩=Z (J V R.cJ)/\W.cell? ⟨r6,0,I⟩=Z (J V o.1)/\W.cell? ⟨r6,1,I⟩=Z (J V o.2)/\W.cell? ⟨S.g,0,I⟩=Z (aq (Z ⟨S.b.g,0,I⟩))/\(cD 55 (.map (Z B.sm)) (cg #[J V o.1,J V o.2]) false).run af W=.ok (aq (Z ⟨S.g,0,I⟩)) W) (first|(with_reducible exact⟨cE TF,cE c9,cE y0,cE y1,cE q0,Tn⟩)|(with_reducible exact⟨i13,i9,i0,i1,iq,il⟩)) ((go_at_call 125;refine To.O.mono ?_;rintro e w9 ⟨rfl,B',hB,hg,u,SL⟩;have HZ:=au (Tr.O w9 B' hB hg u SL).1;obtain⟨i13,i9,i0,i1,iq,il⟩:=(Tr.O w9 B' hB hg u SL).2;clear hB hg u SL));all_goals
   go_wp2_with fail;go_meet;exact⟨rfl,_,HZ.O.1,HZ.O.2.1,HZ.O.2.2⟩
 case rest =>
  obtain⟨rfl,B1,hR,SM,b6⟩:=hcut;clear TW Tn To HD H SK HA TF c9 q0 y0 y1;obtain⟨R1,SY⟩:=dH ({ R with az:=M.set R.az o (Z { s with bQ:=s.bQ.least }) }:M.Room);have Ti:B1.g=B.g:=SM.g;rw[<-SY]at hR;have aI:=Tm.O;rw[<-SY]at aI;have TY:R1.aO=R.aO:=by rw[SY]
  have Ts:mF R1:=by rw[SY];exact SH.O
  obtain⟨mK,T8⟩:=bu aI Ts;clear Tm SH aI Ts SY;obtain⟨qp,own,fit⟩:=(hR.part .aO:∃q,wc.ownsRow 0 101 13 B1.pv R1.aO.length q.flatten/\Fit (uJ wc) R1.aO q);rw[TY]at own fit;obtain⟨ac,T9,SZ⟩:=fit.get SW.O;obtain⟨sp,E,m,rfl,A⟩:=SZ;have Ua:0<R.aO.length:=by have:=(aS.1 SW.O).1;omega
  obtain⟨gp,cap,Ub,UH,Ta⟩:=jZ own (fit.len (Oq wc)) Ua;have UC:D.id<R.aO.length:=(aS.1 SW.O).1;have hk:=λj (hj:j<13)=>Ta D.id _ T9 j hj;have a0:wc.cell? ⟨gp,D.id*13+3,I⟩=Z (ai acc.bW.dR):=hk 3 z;have a1:wc.cell? ⟨gp,D.id*13+3+1,I⟩=Z (J bI acc.bW.type):=hk 4 z;have a2:wc.cell? ⟨gp,D.id*13+3+2,I⟩=Z (J aN acc.bW.dQ):=hk 5 z;have a3:wc.cell? ⟨gp,D.id*13+3+3,I⟩=Z (J ar acc.bW.aU):=hk 6 z;have a4:wc.cell? ⟨gp,D.id*13+3+4,I⟩=Z (J ar acc.bW.bJ):=hk 7 z;have a5:wc.cell? ⟨gp,D.id*13+3+5,I⟩=Z (ae sp.a sp.n sp.c):=hk 8 z;have a6:wc.cell? ⟨gp,D.id*13+3+6,I⟩=Z (ai acc.bW.has):=hk 9 z;have a7:wc.cell? ⟨gp,D.id*13+3+7,I⟩=Z (J aN acc.bW.bV):=hk 10 z;have a8:wc.cell? ⟨gp,D.id*13+3+8,I⟩=Z (ae E.a E.n E.c):=hk 11 z;have a9:wc.cell? ⟨gp,D.id*13+3+9,I⟩=Z (ae m.a m.n m.c):=hk 12 z;have Tj:=hR.cw.cell 14;rw[Ti]at Tj;simp at Tj;rw[Ub]at Tj;obtain⟨HR,SP,SK,U⟩:=cA hR SM b6 A;clear hR SM b6 A own fit T9 Ta hk Ub TY;go_upto_region 5 with fail;obtain⟨p,hp⟩:=dH acc.bW;rw[<-hp]at U mK ⊢;obtain⟨Tb,TG⟩:=dH wc.heap.size;rw[<-TG];have al:aC wc (wc.alloc (.cells #[ai p.dR,J bI p.type,J aN p.dQ,J ar p.aU,J ar p.bJ,ae sp.a sp.n sp.c,ai p.has,J aN p.bV,ae E.a E.n E.c,ae m.a m.n m.c] 76)):=(ao _ _).alloc (aj _) _;refine aW (λUc=>aK Uc Tb 76 #[ai p.dR,J bI p.type,J aN p.dQ,J ar p.aU,J ar p.bJ,ae sp.a sp.n sp.c,ai p.has,J aN p.bV,ae E.a E.n E.c,ae m.a m.n m.c]/\aK Uc r6 91 #[J V o.1,J V o.2]/\aL Uc B1 R1 N/\iT Uc p sp E m/\fK w Uc B B1) ⟨aK.newAt _ _ _ _ TG,SK.O.kept al,HR.O.below al,U.O.below al,SP.O.trans (⟨rfl,.bn al,λi q=>.inl q⟩:fK wc _ B1 B1)⟩ ?_;clear al TG HR SP SK U a0 a1 a2 a3 a4 a5 a6 a7 a8 a9 Tj hp wc;rintro X ⟨G,b6,hR,A,SM⟩;have k1:=b6.cell 1;have a0:=G.cell 0;have a1:=G.cell 1;have a2:=G.cell 2;have a3:=G.cell 3;have a4:=G.cell 4;have a5:=G.cell 5;have a6:=G.cell 6;have a7:=G.cell 7;have a8:=G.cell 8;have a9:=G.cell 9;simp at k1 a0 a1 a2 a3 a4 a5 a6 a7 a8 a9;obtain⟨ke,TH⟩:=dH (M.lx p.cF);have Ud:=au TH;have Ue:∀W,aC X W->aF af 24 #[ae m.a m.n m.c] W λe w'=>e=av (ai ke)/\aC W w':=λW b=>by
   rw[Ud.O];exact Ae m.a m.n m.c p.cF W (A.y.tl.below b) A.y.zero (by have:=A.small;have:=A.y.tl.len;omega)
  have TI:=au Ue;have n1:X.heap.size≠r6:=by have:=b6.lt;omega
  have n2:X.heap.size≠Tb:=by have:=G.lt;omega
  have Uv:=G.lt;have l6:=b6.lt;have TJ:=SM.fr.size;obtain⟨Tc,SK,HR,U,SP⟩:=gY G b6 hR A SM;have Tt:=hR.lt;have Td:=au Tt;rw[<-TH]at mK;clear TH Ue G b6 hR A SM Tt;go_cut [12] (λv wc=>∃d:Nat,v=aq (Z ⟨d,0,I⟩)/\aK wc d 227 (Mt D.id o.2 ke p sp E m)/\aL wc B1 R1 N/\iT wc p sp E m/\fK w wc B B1/\w.heap.size<=d/\∀i,B1.all i->i≠d);case first =>
   clear k1 a0 a1 a2 a3 a4 a5 a6 a7 a8 a9;refine fC (S:=λW=>aC X W) cC (eW (ao _ _)) (λhH=>?_);refine fS 0 (J V D.id) rfl hH ?_;simp only[aA,eY,gK,gL];refine fS 1 (aq (Z ⟨r6,1,I⟩)) rfl hH ?_;simp only[aA,eY,gK,gL];refine fS 2 (J V o.2) rfl hH ?_ (hy:=λW hW=>by have q:W.cell? ⟨r6,1,I⟩=Z (J V o.2):=(SK.O.kept hW).cell 1;go_simp);simp only[aA,eY,gK,gL];refine fS 3 (aq (Z ⟨Tb,9,I⟩)) rfl hH ?_;simp only[aA,eY,gK,gL];refine fS 4 (ae m.a m.n m.c) rfl hH ?_ (hy:=λW hW=>by have q:W.cell? ⟨Tb,9,I⟩=Z (ae m.a m.n m.c):=(Tc.O.kept hW).cell 9;go_simp);simp only[aA,eY,gK,gL];refine Fj 6 _ rfl (eS jP 76 (.tmp 11) rfl Tb 0 rfl (#[ai p.dR,J bI p.type,J aN p.dQ,J ar p.aU,J ar p.bJ,ae sp.a sp.n sp.c,ai p.has,J aN p.bV,ae E.a E.n E.c,ae m.a m.n m.c]:Array Value).toList _ (λW hW j v hv=>by rw[cO,(Tc.O.kept hW).cell];simpa using hv) underlying76 rfl Tryz.zf) hH ?_;simp only[aA,eY,gK,gL];have Tu:∀v∈(Mt D.id o.2 ke p sp E m).toList,v.oneCell'=true:=tk;have Tv:=au Tu;clear Tu;refine cH (rs:=[5,8]) cC dt ?_;refine bH rfl (λK hK=>?_) ?_
   ·skip;rw[if_pos jP];go_simp;go_at_call 24;refine(TI.O _ hH).mono ?_;rintro e w9 ⟨rfl,b9⟩;dsimp only;refine hK.out _ _ (hH.trans (b9.mono hH.size)) (λgX=>?_);clear hK K;try simp only[aA,jY,jX,jW]
    refine fS 7 (cg #[J V D.id,J V o.2,ai ke,ai p.dR,J bI p.type,J aN p.dQ,J ar p.aU,J ar p.bJ,ae sp.a sp.n sp.c,ai p.has,J aN p.bV,ae E.a E.n E.c,ae m.a m.n m.c]) rfl gX ?_;simp only[aA,eY,gK,gL];refine cH (rs:=[8]) cC dt ?_;refine bH rfl (λK hK=>?_) cy;rw[if_pos jP];go_simp;refine hK.out _ _ (gX.alloc gX.size _) (λSQ=>?_);clear hK K;try simp only[aA,jY,jX,jW]
    refine cH (rs:=[9]) cC dt ?_;refine bH rfl (λK hK=>?_) cy;refine lj jP (.tmp 12) (.tmp 57) 227 jP w9.heap.size 0 227 Qz rfl #[J V D.id,J V o.2,ai ke,ai p.dR,J bI p.type,J aN p.dQ,J ar p.aU,J ar p.bJ,ae sp.a sp.n sp.c,ai p.has,J aN p.bV,ae E.a E.n E.c,ae m.a m.n m.c] rfl pG (aK.new w9 227 Qz) (aj _) Tv.O ?_;intro w' TM u';refine hK.out _ _ (SQ.trans (u'.below SQ.size (λi q=>by cases q;exact gX.size))) (λSN=>?_);clear hK K;refine gV cC ?_ _;go_wp2_with fail;go_meet;exact⟨w9.heap.size,rfl,TM,HR.O.below SN,U.O.below SN,SP.O.trans (fK.fN B1 SN),aP TJ gX.size,λi hi=>by have:=Td.O i hi;have:=gX.size;omega⟩
   refine bH rfl (λK hK=>?_) cy;rw[if_pos jP];go_simp;refine hK.out _ _ (hH.alloc hH.size _) (λgX=>?_);clear hK K;try simp only[aA,jY,jX,jW]
   refine cH (rs:=[5]) cC dt ?_;refine bH rfl (λK hK=>?_) cy;rw[if_pos jP];go_simp;go_at_call 24;refine(TI.O _ gX).mono ?_;rintro e w9 ⟨rfl,b9⟩;dsimp only;refine hK.out _ _ (gX.trans (b9.mono gX.size)) (λSQ=>?_);clear hK K;try simp only[aA,jY,jX,jW]
   refine fS 7 (cg #[J V D.id,J V o.2,ai ke,ai p.dR,J bI p.type,J aN p.dQ,J ar p.aU,J ar p.bJ,ae sp.a sp.n sp.c,ai p.has,J aN p.bV,ae E.a E.n E.c,ae m.a m.n m.c]) rfl SQ ?_;simp only[aA,eY,gK,gL];refine cH (rs:=[9]) cC dt ?_;refine bH rfl (λK hK=>?_) cy;refine lj jP (.tmp 12) (.tmp 57) 227 jP X.heap.size 0 227 Qz rfl #[J V D.id,J V o.2,ai ke,ai p.dR,J bI p.type,J aN p.dQ,J ar p.aU,J ar p.bJ,ae sp.a sp.n sp.c,ai p.has,J aN p.bV,ae E.a E.n E.c,ae m.a m.n m.c] rfl pG (MK (t:=227) (cs:=Qz) b9) (aj _) Tv.O ?_;intro w' TM u';refine hK.out _ _ (SQ.trans (u'.below SQ.size (λi q=>by cases q;exact aj _))) (λSN=>?_);clear hK K;refine gV cC ?_ _;go_wp2_with fail;go_meet;exact⟨X.heap.size,rfl,TM,HR.O.below SN,U.O.below SN,SP.O.trans (fK.fN B1 SN),TJ,λi hi=>by have:=Td.O i hi;omega⟩
  case rest =>
   obtain⟨d,rfl,SG,hR,A,hS,g12,SU⟩:=hcut;obtain⟨x,hx⟩:=dH (⟨D.id,o.2,ke,p⟩:M.Item);have hr:=mK.O;rw[<-hx]at hr;obtain⟨TN,HX,df,Uf,Tw,Ug,P⟩:=lV hr hx SG hR A hS SU;clear hr hx k1 a0 a1 a2 a3 a4 a5 a6 a7 a8 a9 Tc SK HR U SP Td mK Ud TI SG hR A hS SU n1 n2 Uv l6 TJ;go_wp2_with fail;go_loopw [58] (λi wr=>∃(k:Nat) (Bk:RB),i=J V k/\k<=6/\aL wr Bk ((M.gF.take k).foldl (M.Room.iW x) R1) N/\fK w wr B Bk/\aK wr d 227 (Mt D.id o.2 ke p sp E m)/\iT wr p sp E m/\∀i,Bk.all i->i≠d) (λi _=>6-(bS i).toNat);case atStart=>exact⟨0,B1,rfl,z,Uf.O,Ug.O,df.O,Tw.O,P.O⟩
   case round =>
    clear Uf Ug df Tw P;obtain⟨k,Bk,rfl,hk,hR,hS,SG,A,SU⟩:=hrel;by_cases TE:k<6;rotate_left
    ·have Uw:k=6:=z;subst Uw;rw[show M.gF.take 6=M.gF from rfl,<-TN.O]at hR;obtain⟨H,HS⟩:=bu hR hS;clear hR hS SG A SU;go_wp2_with fail;first
      |refine dq (bT results67 _ _ _) rfl ?_
      |refine ax (v:=aB #[]) (by simp[aV,results67,go_sem]) rfl ?_
     first|exact⟨Bk,rfl,H.O,HS.O⟩|exact⟨rfl,Bk,H.O,HS.O⟩
    have UI:((k:Int)<6):=z;have Tx:M.gF[k]? = Z (k:Int):=by
     rcases(z:k=0\/k=1\/k=2\/k=3\/k=4\/k=5) with rfl|rfl|rfl|rfl|rfl|rfl<;>rfl
    have SO:=M.lL (M.Room.iW x) M.gF k (k:Int) R1 Tx;have SZ:mF ((M.gF.take k).foldl (M.Room.iW x) R1):=Jk T8.O x _;generalize (M.gF.take k).foldl (M.Room.iW x) R1=T at hR SO SZ;obtain⟨TO,Uh⟩:=bu SO SZ;have Ui:(Lit.int V (k:Int)).wf=true:=Ig z z;have c0:=hR.cw.cell 0;rw[hS.g]at c0;simp at c0;obtain⟨SH,HR,HS,df,U,P⟩:=lH (DO Bk.bg Bk.bm N T.di (k:Int) D.id wr (hR.part .di) ⟨z,z⟩ z) hR hS SG A SU;clear hR hS SG A SU SO SZ Tx;by_cases eI:T.di (k:Int) D.id=Z 0;rotate_left
    ·have e0:M.Room.iW x T k=T:=by unfold M.Room.iW;rw[HX.O,if_neg eI]
     have Uj:decide (T.di (k:Int) D.id=Z 0)=false:=decide_eq_false eI;rw[Uj]at SH;have HE:=au e0;clear eI Uj e0;go_wp2_with (go_at_call 126;refine SH.O.mono ?_;rintro e w4 ⟨rfl,b4⟩;have F:=au b4;clear b4);go_roundw;case rel=>exact⟨k+1,Bk,by go_num,z,by rw[TO.O,HE.O];exact HR.O.below F.O,HS.O.trans (fK.fN Bk F.O),df.O.kept F.O,U.O.below F.O,P.O⟩
     case measure=>simp[bS];omega
    rw[decide_eq_true eI]at SH;obtain⟨l,hl⟩:=dw.1 (Uh.O _ _ eI);have e0:M.Room.iW x T k=(match(l.put T.dA.aG x).2 with | some C=>M.Room.bR { T with aD:=M.set T.aD (k:Int) (Z (l.put T.dA.aG x).1) } k C 6 | none=>{ T with aD:=M.set T.aD (k:Int) (Z (l.put T.dA.aG x).1) }):=by
     unfold M.Room.iW;rw[show x.id=D.id by rw[HX.O],if_pos eI,hl];rfl
    obtain⟨HE,Tk⟩:=bu e0 hl;clear eI e0 hl;go_upto_region 10 with(go_big_may;go_at_call 126;refine SH.O.mono ?_;rintro e w4 ⟨rfl,b4⟩;have F:=au b4;clear b4)
    have h4:=HR.O.below F.O;have hD:=h4.below (eW (ao w4.drew.heap.size w4.drew));obtain⟨L,hL,hA⟩:=hD.jq Tk.O;have SX:(cD 54 (.map (Z Bk.lm)) (J V (k:Int)) false).run af w4=.ok (aq (Z ⟨L.g,0,I⟩)) w4:=by
     have C:=h4.kW (k:Int) Ui;rw[hL]at C;exact C
    have Uk:¬L.own Bk.lm:=λq=>xN.noConfusion (hD.vd (.fo k) .aD Bk.lm ⟨L,hL,q⟩ rfl);have Ul:¬L.own Bk.g:=λq=>xN.noConfusion (hD.vd (.fo k) .aG Bk.g ⟨L,hL,q⟩ rfl);have Ty:¬L.own d:=λq=>P.O d ⟨.fo k,L,hL,q⟩ rfl;have Ti:=HS.O.g;have hC:∀W,Fr L.own w4.drew W->W.cell? ⟨B.g,12,I⟩=Z (.map (Z Bk.lm)):=λW f=>by
     have C:=(hD.cw.dW f.u Ul).cell 12;rw[Ti]at C;simpa using C
    have hK:∀W,Fr L.own w4.drew W->(cD 54 (.map (Z Bk.lm)) (J V (k:Int)) false).run af W=.ok (aq (Z ⟨L.g,0,I⟩)) W:=λW f=>by
     have Um:gA KI W Bk.lm (λs=>(Bk.lb s).map qx) N:=(show gA KI w4.drew Bk.lm (λs=>(Bk.lb s).map qx) N from hD.part .aD).dW f.u Uk;have C:=Um.sW rB vT (k:Int) Ui (BS W);rw[hL]at C;exact C
    have hX:∀W,Fr L.own w4.drew W->W.cell? ⟨d,0,I⟩=Z (J V D.id)/\W.cell? ⟨d,1,I⟩=Z (J V o.2)/\W.cell? ⟨d,2,I⟩=Z (ai ke)/\W.cell? ⟨d,3,I⟩=Z (ai p.dR)/\W.cell? ⟨d,4,I⟩=Z (J bI p.type)/\W.cell? ⟨d,5,I⟩=Z (J aN p.dQ)/\W.cell? ⟨d,6,I⟩=Z (J ar p.aU)/\W.cell? ⟨d,7,I⟩=Z (J ar p.bJ)/\W.cell? ⟨d,8,I⟩=Z (ae sp.a sp.n sp.c)/\W.cell? ⟨d,9,I⟩=Z (ai p.has)/\W.cell? ⟨d,10,I⟩=Z (J aN p.bV)/\W.cell? ⟨d,11,I⟩=Z (ae E.a E.n E.c)/\W.cell? ⟨d,12,I⟩=Z (ae m.a m.n m.c):=λW f=>by
     have C:=((df.O.kept F.O).drew.dW f.u Ty).cell;exact⟨C 0,C 1,C 2,C 3,C 4,C 5,C 6,C 7,C 8,C 9,C 10,C 11,C 12⟩
    have f0:Fr L.own w4.drew w4.drew:=Fr.refl _ _;obtain⟨Tz,HD,HL⟩:=bU (zI L T.dA.aG T.dA.aT l N w4.drew hA D.id o.2 ke p sp E m (U.O.below (F.O.trans ((eW (ao w4.drew.heap.size w4.drew)).mono F.O.size))) z) hD hL;clear h4 hD hA Uk Ul Ty hL SX c0 Ti;go_cut [14,15] (λa b wc=>∃(oi:Int) (db:Bool),a=J V oi/\b=ai db/\og (l.put T.dA.aG ⟨D.id,o.2,ke,p⟩).2 oi db/\ca wc L T.dA.aG T.dA.aT (l.put T.dA.aG ⟨D.id,o.2,ke,p⟩).1 N/\Fr L.own w4.drew wc);case first =>
     go_region_held3 (λW=>Fr L.own w4.drew W) (first|(with_reducible exact f0)|(with_reducible exact f9)) ((go_at_call 127;refine Tz.O.mono ?_;rintro e w9 ⟨oi,db,er,rfl,Q,Te,f9⟩;have Tf:=au Q;have Ux:=au Te;clear Q Te));all_goals
      go_wp2_with fail;go_meet;exact⟨oi,db,rfl,rfl,Tf.O,Ux.O,f9⟩
    case rest =>
     obtain⟨oi,db,rfl,rfl,Q,Te,f9⟩:=hcut;have C:=HD.O.qJ Tk.O HL.O f9 Te rfl (λi q=>.inl q);rw[qR Bk.lb k (Z L) HL.O]at C;obtain⟨R2,Tl⟩:=dH ({ T with aD:=M.set T.aD (k:Int) (Z (l.put T.dA.aG ⟨D.id,o.2,ke,p⟩).1) }:M.Room);have z1:aL wc Bk R2 N:=by rw[Tl];exact C.1
     have Un:=(HS.O.trans (fK.fN Bk (F.O.trans ((eW (ao w4.drew.heap.size w4.drew)).mono F.O.size)))).trans C.2;have SG:=(df.O.kept F.O).drew.dW C.2.fr.u (λq=>P.O d q rfl);have A:=(U.O.below (F.O.trans ((eW (ao w4.drew.heap.size w4.drew)).mono F.O.size))).rows C.2.fr.r;have he:=HE.O;have Uo:x=⟨D.id,o.2,ke,p⟩:=HX.O;rw[<-Uo]at Q Tl;rw[<-Tl]at he;have eJ:∀y,(l.put T.dA.aG x).2=Z y->y<=1000000:=λy q=>by
      obtain⟨L',e',hA⟩:=HD.O.jq Tk.O;exact FY hA x q
     obtain⟨TP,Tf,TQ,TR,TA,TC,TD⟩:=lV he Q z1 Un SG A eJ;clear C Tl z1 Un SG A he Uo eJ Q Te f9 f0 hC hK hX Tz HD HL F df U HE HS HR SH Tk Uh;generalize (l.put T.dA.aG x).2=od at TP Tf TD;cases od with
     |none =>
      have TS:db=false:=Tf.O;subst TS;have he:M.Room.iW x T k=R2:=TP.O;have HE:=au he;clear he;go_wp2_with fail;go_roundw;case rel=>exact⟨k+1,Bk,by go_num,z,by rw[TO.O,HE.O];exact TQ.O,TR.O,TA.O,TC.O,P.O⟩
      case measure=>simp[bS];omega
     |some y =>
      obtain⟨TS,Uy⟩:db=true/\oi=(y:Int):=Tf.O;subst TS Uy;have he:M.Room.iW x T k=M.Room.bR R2 k y 6:=TP.O;have HE:=au he;have Up:=TD.O y rfl;have c0:=TQ.O.cw.cell 0;rw[TR.O.g]at c0;simp at c0;have Uz:=au (mz TQ.O (k:Int) y 6 ⟨z,z⟩ Up z hN);clear he Up;go_wp2_with (go_at_call 114;refine Uz.O.mono ?_;rintro e w8 ⟨rfl,Uq,Ur⟩;have UA:=au Uq;have TT:=au Ur;clear Uq Ur);go_roundw;case rel=>exact⟨k+1,Bk,by go_num,z,by rw[TO.O,HE.O];exact UA.O,TR.O.trans TT.O,TA.O.dW TT.O.fr.u (λq=>P.O d q rfl),TC.O.rows TT.O.fr.r,P.O⟩
      case measure=>simp[bS];omega
end
end
def KV(a b c d:Int)(W:aw):(Op.equalIn 10000 40 (cg #[J V a,J V b]) (cg #[J V c,J V d])).run af W=.ok (a==c&&b==d) W:=by
 have e:af.underlying 40=Z (.struct (af.fieldsOf 40)):=cC;have hp:af.stoodInHeld 40=false:=cC;have h3:af.underlying 3=Z (.int V):=cC;have f:af.cellsOf 3=1:=cC;rw[show(10000:Nat)=9999+1 from rfl,run_equalIn_struct W 9999 40 _ _ e hp];simp only[Program.fieldsOf,underlying40];simp[go_sem];by_cases h1:a=c<;>by_cases h2:b=d<;>simp[h1,h2]
def Dl(A:Option Addr)(m c:Nat)(L:List M.eK)(x:M.eK)(w:aw)(h:Fair.rP w w.heap.size A m L)(K:m<=c)(N:c<=maxLen) :
  aF af 161 #[ae A m c,cg #[J V x.1,J V x.2]] w λe w'=>(∃r:Int,e=av (J V r)/\(0<=r↔x∈L))/\aC w w':=by
 unfold maxLen at N;obtain⟨D,E⟩:=bu h.1 h;clear h;go_enter func161,ntmps161;go_upto_region 1 with fail;obtain⟨F,v⟩:=dH w.heap.size;rw[<-v];have p:aC w (w.alloc (.cells #[J V x.1,J V x.2] 40)):=(ao _ w).alloc (aj _) _;refine aW (λX=>aK X F 40 #[J V x.1,J V x.2]/\Fair.rP X w.heap.size A m L/\aC w X) ⟨aK.newAt _ _ _ _ v,E.O.below p,p⟩ ?_;clear v p E;rintro X ⟨b3,n,p⟩;obtain⟨f,s,G⟩:=bU b3 n p;clear b3 n p;go_wp2_with fail;go_loopw [5,8] (λ_ i wr=>∃k:Nat,i=J V k/\k<=m/\(∀j,j<k->L.getD j (0,0)≠x)/\aK wr F 40 #[J V x.1,J V x.2]/\Fair.rP wr w.heap.size A m L/\aC w wr) (λ_ i _=>m-(bS i).toNat);case atStart=>exact⟨0,rfl,z,λj B=>z,f.O,s.O,G.O⟩
 case round =>
  clear f s G;obtain⟨k,rfl,T,g,b3,n,t⟩:=hrel;have l:=au g;clear g;by_cases C:k<m
  ·obtain⟨b,off,rfl,U,d⟩:=n.2.2 z;obtain⟨P,Q⟩:=d k C;have R:=b3.cell 0;have S:=b3.cell 1;simp at R S;obtain⟨y,hy⟩:=dH (L.getD k (0,0));rw[<-hy]at P Q;obtain⟨H,f,s,u⟩:=cA hy b3 n t;have he:=λW=>KV x.1 x.2 y.1 y.2 W;clear hy b3 n t d;by_cases a:x=y
   ·have ht:(x.1==y.1&&x.2==y.2)=true:=by rw[a];simp
    rw[ht]at he;have o:=au a;clear a ht;go_wp2_with fail;go_quiet (fail);go_wp2_with fail;go_ret;refine⟨⟨k,rfl,⟨λ_=>?_,λ_=>z⟩⟩,cd u.O _⟩;rw[o.O,H.O,bE,ay (lE D.O)];exact dy _
   ·have ht:(x.1==y.1&&x.2==y.2)=false:=by
     rw[Bool.eq_false_iff];intro q;simp at q;exact a (Prod.ext q.1 q.2)
    rw[ht]at he;have o:=au a;clear a ht;go_wp2_with fail;go_quiet (fail);go_wp2_with fail;go_roundw;case rel =>
     refine⟨k+1,by go_num,z,λj B=>?_,f.O.drewN _,s.O,cd u.O _⟩;by_cases e:j=k
     ·rw[e,<-H.O];exactλq=>o.O q.symm
     ·exact l.O j z
    case measure=>simp[bS];omega
  ·have u:=au t;clear b3 n t;go_wp2_with fail;go_ret;refine⟨⟨-1,rfl,⟨λq=>absurd q z,λq=>?_⟩⟩,u.O⟩;obtain⟨j,B,e⟩:=ed q;have:=l.O j (lE D.O);rw[bE,ay B]at this;exact absurd e this
def yW(A:Option Addr)(m c:Nat)(L:List M.eK)(x:M.eK)(w:aw)(h:Fair.rP w w.heap.size A m L)(a:m<=c)(d:c<=maxLen) :
  aF af 109 #[ae A m c,cg #[J V x.1,J V x.2]] w λe w'=>e=av (ai (decide (x∈L)))/\aC w w':=by
 have b:aC w (w.alloc (.cells #[J V x.1,J V x.2] 40)):=(ao _ w).alloc (aj _) _;obtain⟨g,f⟩:=bu (Dl A m c L x (w.alloc (.cells #[J V x.1,J V x.2] 40)) ((h.below b).mono b.size) a d) b;have b3:=aK.new w 40 #[J V x.1,J V x.2];have i:=b3.cell 0;have j:=b3.cell 1;simp at i j;clear h b b3 d a;go_enter func109,ntmps109;go_wp2_with (go_at_call 161;refine g.O.mono ?_;rintro e w1 ⟨⟨r,rfl,hr⟩,b1⟩;have k:=au hr;have l:=au b1;clear hr b1);have n:decide (x∈L)=decide (0<=r):=decide_eq_decide.2 k.O.symm;rw[n];go_ret;exact⟨rfl,f.O.trans (l.O.mono f.O.size)⟩
section
theorem N4:(af.info? 101).map (λi=>(i.zero,i.size,i.bytes))=Z (Z (cg #[J V 0,J V 0,J V 0,ai false,J bI 0,J aN 0,J ar 0,J ar 0,ae I 0 0,ai false,J aN 0,ae I 0 0,ae I 0 0]),13,120):=cC
theorem Pg:(af.info? 91).map (·.size)=Z 2:=cC
theorem set_set{α β:Type}[DecidableEq α](f:α->β)(k:α)(a b:β):M.set (M.set f k a) k b=M.set f k b:=by
 funext x;unfold M.set;split<;>simp_all
theorem y9(r:M.Room)(x:Int):r.ik x=tJ r.bh (λs=>s.cL&&decide (s.jo=x)):=by
 unfold M.Room.ik tJ;refine sA λs _=>?_;unfold oR;cases r.bh s<;>rfl
theorem Lp(b:M.mf)(aG n now:Int)(id:Nat):(b.push aG n now id).2=10\/(b.push aG n now id).2=9\/(b.push aG n now id).2=8\/(b.push aG n now id).2=0:=by
 unfold M.mf.push;split
 ·exact .inl rfl
 ·split
  ·exact .inr (.inl rfl)
  ·split
   ·exact .inr (.inr (.inl rfl))
   ·exact .inr (.inr (.inr rfl))
def xo(bk:Bk)(bh:List Int)(id k:Nat):Bk:=λs=>if s∈bh.take k then M.set (bk s) id (Z 0) else bk s
theorem Js{bk:Bk}{bh:List Int}{id k:Nat}{s:Int}(b:bh.Nodup)(a:bh[k]? = Z s):M.set (xo bk bh id k) s (M.set (xo bk bh id k s) id (Z 0))=xo bk bh id (k+1):=by
 have c:s∉bh.take k:=λq=>by
  obtain⟨j,d,e⟩:=ed q;have h1:=(aS.1 a).1;have f:j<k:=by rw[ix]at d;omega
  have g:bh[j]? = Z s:=by rw[sx]at e;rw[ay z,e]
  have h3:j=k:=(List.getElem?_inj (by omega:j<bh.length) b).1 (g.trans a.symm);omega
 funext x;unfold xo M.set;rw[List.take_add_one,a];by_cases e:x=s
 ·subst e;simp[c]
 ·simp[e]
theorem LA(bk:Bk)(bh:List Int)(id:Nat):xo bk bh id bh.length=λs=>if s∈bh then M.set (bk s) id (Z 0) else bk s:=by
 unfold xo;rw[cT]
section
variable {B:RB} {R:M.Room} {N:Nat} {w w':aw} (h:aL w B R N)
include h
theorem aL.um{o:M.bN}{s s':M.eu}{S:SB}(c:R.az o=Z s)(a:B.sb o=Z S)(i:Nat)(v:Value)(j:kI S s'=(kI S s).setIfInBounds i v)(e:s'.bQ=s.bQ)
  (hg:-100000*(N:Int)<=s'.dv/\s'.dv<=100000*(N:Int)+200000) (k:0<=s'.dJ.fH/\s'.dJ.fH<=N) (ht:0<=s'.dJ.gB/\s'.dJ.gB<=N) :
  aL (w.setCell ⟨S.g,i,I⟩ v) B { R with az:=M.set R.az o (Z s') } N/\fK w (w.setCell ⟨S.g,i,I⟩ v) B B:=by
 obtain⟨S',d,b⟩:=h.iB c;rw[a]at d;cases d;have z0:=b.cells (s':=s') (N':=N) ((Fr.refl (One S.g) _).setCell b.cw (.inl rfl) aR aR i v) (by rw[j];exact b.cw.bC i v) e hg k ht;have f:=h.nL c a z0.2 z0.1 rfl (λi q=>.inl q);rw[qR B.sb o (Z S) a]at f;exact f
theorem aL.wk{b:Value}{a:M.kM}{q:List (List Value)}(f:Fr (λi=>B.pv.ownBlock=Z i\/i=B.g) w w')(own:w'.ownsRow 0 101 13 b (R.aO.length+1) q.flatten)(fit:Fit (uJ w') (R.aO++[a]) q)
  (l:aK w' B.g 61 ((oS B R).setIfInBounds 14 b)) (c:∀j,b.ownBlock=Z j->B.pv.ownBlock=Z j\/w.heap.size<=j) :
  aL w' { B with pv:=b } { R with aO:=R.aO++[a] } (N+1)/\fK w w' B { B with pv:=b }:=by
 have hm:=h.mono (cZ N);refine hm.IW (λY=>Y=.aG\/Y=.aO) .aO (f.mono λi _ q=>?_) ?_ rfl ?_ ?_ { hm.et with aO:=by have:=h.et.aO;simp;omega }
 ·rcases q with q|q
  ·exact⟨.aO,.inr rfl,q⟩
  ·exact⟨.aG,.inl rfl,q⟩
 ·rintro Y (rfl|rfl)
  ·exact l
  ·exact⟨q,by simpa using own,fit⟩
 ·intro Y d k;cases Y with
  |aG=>exact absurd (.inl rfl) d
  |aO=>exact absurd (.inr rfl) d
  |_=>exact k
 ·intro Y i e;cases Y with
  |aO=>exact(c i e).imp id (λq=>⟨rfl,q⟩)
  |_=>exact .inl e
theorem Dz(o:M.bN)(p:M.cR)(sp C d:Sl)(st:M.eu)(hs:R.az o=Z st)(m:iT w p sp C d)(hk:np R)(Uj:∀s,R.di s R.aO.length=I)(ho:(0<=o.1/\o.1<3)/\0<=o.2/\o.2<3)(hN:N<900000) :
  aF af 124 #[aq (Z ⟨B.g,0,I⟩),cg #[J V o.1,J V o.2],cg #[ai p.dR,J bI p.type,J aN p.dQ,J ar p.aU,J ar p.bJ,ae sp.a sp.n sp.c,ai p.has,J aN p.bV,ae C.a C.n C.c,ae d.a d.n d.c]] w (kk B w (aB #[]) (R.je o p) (N+9)):=by
 obtain⟨i0,hi,Uk,Ul,Um⟩:=info_parts N4;obtain⟨HI,Un,Uo,Up⟩:=cA hi Uk Ul Um;clear hi Uk Ul Um;obtain⟨res,eI⟩:=dH (R.je o p);rw[<-eI];rw[M.mS,hs]at eI;obtain⟨n,hn⟩:=dH (if st.any then M.jL st.dv p.dQ else M.nE p.dQ);replace eI:res=M.fE (M.ka R o st p n (st.bQ.push R.dA.eJ n R.cJ R.aO.length).1 (R.ik o.1)) R.aO.length (R.ik o.1) (st.bQ.push R.dA.eJ n R.cJ R.aO.length).2:=by rw[eI,hn]
 obtain⟨S,hS,D⟩:=h.iB hs;have Vu:=D.uE;have Uq:=m.dQ;have Te:-100000*((N+1:Nat):Int)<=n/\n<=100000*((N+1:Nat):Int)+200000:=by
  rw[hn];split
  ·have:=BD st.dv p.dQ;omega
  ·unfold M.nE;omega
 obtain⟨Ur,HS,HN,TO,HK,Va,H0,G⟩:=qh eI (dj hs hS) hn Te hk Uj h m;have SG:=h.lt;have Us:=h.et.aO;clear h eI hs m hk Uj hn D Te;go_enter func124,ntmps124;go_upto_region 1 with fail;obtain⟨r4,e4⟩:=dH w.heap.size;obtain⟨r5,e5⟩:=dH (w.heap.size+1);rw[<-e5,<-e4];have al:aC w ((w.alloc (.cells #[J V o.1,J V o.2] 91)).alloc (.cells #[ai p.dR,J bI p.type,J aN p.dQ,J ar p.aU,J ar p.bJ,ae sp.a sp.n sp.c,ai p.has,J aN p.bV,ae C.a C.n C.c,ae d.a d.n d.c] 76)):=((ao _ w).alloc (aj _) _).alloc dt _;have Ut:∀i,B.all i->i≠r4/\i≠r5:=λi hi=>by have:=SG i hi;exact⟨z,z⟩
 have SH:=au Ut;refine aW (λX=>(aK X r4 91 #[J V o.1,J V o.2]/\aK X r5 76 #[ai p.dR,J bI p.type,J aN p.dQ,J ar p.aU,J ar p.bJ,ae sp.a sp.n sp.c,ai p.has,J aN p.bV,ae C.a C.n C.c,ae d.a d.n d.c])/\aL X B R N/\iT X p sp C d/\aC w X) ⟨⟨(aK.newAt _ _ _ _ e4).alloc _,aK.newAt _ _ _ _ (by simp[e5])⟩,H0.O.below al,G.O.below al,al⟩ ?_;clear e4 e5 al H0 G SG Ut;rintro X ⟨⟨b4,b5⟩,h,m,al⟩;have Uu:=h.cw.cell 13;have y0:=b4.cell 0;have y1:=b4.cell 1;simp at Uu y0 y1;have Vb:(cD 55 (.map (Z B.sm)) (cg #[J V o.1,J V o.2]) false).run af X.drew=.ok (aq (Z ⟨S.g,0,I⟩)) X.drew:=by
  have L:=(h.below (eW (ao X.drew.heap.size X.drew))).jU o (ir ⟨z,z⟩ ⟨z,z⟩);rw[HS.O.2]at L;exact L
 obtain⟨E,F,U,G,HA⟩:=gY b4 b5 h m al;clear b4 b5 h m al;go_cut [6] (λv wc=>v=aq (Z ⟨S.g,0,I⟩)/\(aK wc r4 91 #[J V o.1,J V o.2]/\aK wc r5 76 #[ai p.dR,J bI p.type,J aN p.dQ,J ar p.aU,J ar p.bJ,ae sp.a sp.n sp.c,ai p.has,J aN p.bV,ae C.a C.n C.c,ae d.a d.n d.c])/\aL wc B R N/\iT wc p sp C d/\aC w wc);case first =>
  go_region;all_goals
   go_wp2_with fail;go_meet;have bd:=eW (ao X.drew.heap.size X.drew);exact⟨rfl,⟨E.O.drew,F.O.drew⟩,U.O.below bd,G.O.below bd,HA.O.trans (bd.mono HA.O.size)⟩
 case rest =>
 obtain⟨rfl,⟨b4,b5⟩,h,m,al⟩:=hcut;clear E F U G HA Uu y0 y1 Vb;have Uv:(Lit.int aN p.dQ).wf=true:=by have:=m.dQ;exact OV this
 have k2:=b5.cell 2;obtain⟨S',e',D⟩:=h.iB HS.O.1;rw[HS.O.2]at e';cases e';have q1:=D.cw.cell 1;have q2:=D.cw.cell 2;simp at k2 q1 q2;obtain⟨E,F,U,G,HA⟩:=gY b4 b5 h m al;clear b4 b5 h m al D;go_upto_if 28 with(go_at_call 181;refine(Oa _ _ Uq).mono ?_;rintro e w9 ⟨rfl,e9⟩;have e9:=e9.symm;subst e9)
 go_cut [7] (λv wd=>v=J V n/\(aK wd r4 91 #[J V o.1,J V o.2]/\aK wd r5 76 #[ai p.dR,J bI p.type,J aN p.dQ,J ar p.aU,J ar p.bJ,ae sp.a sp.n sp.c,ai p.has,J aN p.bV,ae C.a C.n C.c,ae d.a d.n d.c])/\aL wd B R N/\iT wd p sp C d/\aC w wd);case first =>
  cases ha:st.any with
  |false =>
   have e:n=M.nE p.dQ:=by rw[HN.O,ha];rfl
   have HE:=au e;clear e ha;go_wp2_with fail;go_meet;exact⟨by rw[HE.O],⟨E.O,F.O⟩,U.O,G.O,HA.O⟩
  |true =>
   have e:n=M.jL st.dv p.dQ:=by rw[HN.O,ha];rfl
   have HE:=au e;clear e ha;go_wp2_with fail;go_region_with (go_at_call 182;refine(MM _ _ _ ⟨z,z⟩).mono ?_;rintro e w9 ⟨rfl,e9⟩;have e9:=e9.symm;subst e9);all_goals
    go_wp2_with fail;go_meet;have bd:=eW (ao wc.drew.heap.size wc.drew);exact⟨by rw[HE.O],⟨E.O.drew,F.O.drew⟩,U.O.below bd,G.O.below bd,HA.O.trans (bd.mono HA.O.size)⟩
 case rest =>
 obtain⟨rfl,⟨b4,b5⟩,h,m,al⟩:=hcut;clear E F U G HA k2 q1 q2 Uv HN;obtain⟨S',e',D⟩:=h.iB HS.O.1;rw[HS.O.2]at e';cases e';obtain⟨g,hg⟩:=dH (if !st.any||decide (st.dv<n) then n else st.dv);obtain⟨s1,Uw⟩:=dH ({ st with any:=true,dv:=g }:M.eu);have q1:=D.cw.cell 1;have q2:=D.cw.cell 2;have f1:=D.cw.frozen 1;have f2:=D.cw.frozen 2;simp at q1 q2;obtain⟨HG,SQ⟩:=bu hg Uw;have n4:r4≠S.g:=λq=>(SH.O S.g ⟨.fO o,S,HS.O.2,.inl rfl⟩).1 q.symm;have n5:r5≠S.g:=λq=>(SH.O S.g ⟨.fO o,S,HS.O.2,.inl rfl⟩).2 q.symm;have Tf:(M.set R.az o (Z { st with dv:=g })) o=Z { st with dv:=g }:=M.dY _ _ _;have TP:=D.fH;have Ts:=D.gB;obtain⟨E,F,U,G,HA⟩:=gY b4 b5 h m al;have Te:=TO.O;clear b4 b5 h m al hg Uw D;obtain⟨up,Ux⟩:=dH (!st.any||decide (st.dv<n));have Tg:=au Ux;clear Ux;go_upto_region 5 with fail;go_cut [49] (λv wd=>v=ai up/\wd=wc);case first =>
  cases ha:st.any with
  |false =>
   have e:up=true:=by rw[Tg.O,ha];rfl
   rw[ha]at q1;have HE:=au e;clear e ha;go_wp2_with fail;go_meet;exact⟨by rw[HE.O],rfl⟩
  |true =>
   have e:up=decide (st.dv<n):=by rw[Tg.O,ha];rfl
   rw[ha]at q1;have HE:=au e;clear e ha;go_wp2_with fail;go_meet;exact⟨by rw[HE.O],rfl⟩
 case rest =>
 obtain⟨rfl,rfl⟩:=hcut;go_upto_if 49 with fail;go_cut [] (λwd=>(aK wd r4 91 #[J V o.1,J V o.2]/\aK wd r5 76 #[ai p.dR,J bI p.type,J aN p.dQ,J ar p.aU,J ar p.bJ,ae sp.a sp.n sp.c,ai p.has,J aN p.bV,ae C.a C.n C.c,ae d.a d.n d.c])/\aL wd B { R with az:=M.set R.az o (Z { st with dv:=g }) } (N+1)/\iT wd p sp C d/\fK w wd B B);case first =>
  cases up with
  |true =>
   have e:g=n:=by rw[HG.O,<-Tg.O];rfl
   have L:=(U.O.mono (cZ N)).um (s':={ st with dv:=n }) HS.O.1 HS.O.2 2 (J V n) rfl rfl ⟨Te.1,Te.2⟩ ⟨TP.1,by show st.dJ.fH<=((N+1:Nat):Int);omega⟩ ⟨Ts.1,by show st.dJ.gB<=((N+1:Nat):Int);omega⟩;obtain⟨HZ,HE⟩:=bu L e;clear L e;go_wp2_with fail;go_meet;exact⟨⟨E.O.dS (p:=⟨S.g,2,I⟩) n4 _,F.O.dS (p:=⟨S.g,2,I⟩) n5 _⟩,by rw[HE.O];exact HZ.O.1,G.O.rows HZ.O.2.fr.r,(fK.fN B HA.O).trans HZ.O.2⟩
  |false =>
   have e:g=st.dv:=by rw[HG.O,<-Tg.O];rfl
   have e2:({ R with az:=M.set R.az o (Z { st with dv:=g }) }:M.Room)=R:=by
    have e3:M.set R.az o (Z { st with dv:=g })=R.az:=qR _ _ _ (by rw[e];exact HS.O.1);rw[e3]
   have HE:=au e2;clear e e2;go_wp2_with fail;go_meet;exact⟨⟨E.O,F.O⟩,by rw[HE.O];exact U.O.mono (cZ N),G.O,fK.fN B HA.O⟩
 case rest =>
 obtain⟨⟨b4,b5⟩,h,m,Th⟩:=hcut;clear q1 q2 f1 f2 E F U G HA Tg;obtain⟨S',e',D⟩:=h.iB Tf;rw[HS.O.2]at e';cases e';have q1:=D.cw.cell 1;have f1:=D.cw.frozen 1;have L:=h.um (s':=s1) Tf HS.O.2 1 (ai true) (by rw[SQ.O];rfl) (by rw[SQ.O]) (by rw[SQ.O];exact D.uE) (by rw[SQ.O];exact D.fH) (by rw[SQ.O];exact D.gB);rw[set_set]at L;obtain⟨R1,TQ⟩:=dH ({ R with az:=M.set R.az o (Z s1) }:M.Room);have z1:aL (wc.setCell ⟨S.g,1,I⟩ (ai true)) B R1 (N+1):=by rw[TQ];exact L.1
 have z2:=Th.trans L.2;have z3:=m.rows L.2.fr.r;obtain⟨HZ,E,F,SM⟩:=cA (dj z1 (dj z2 z3)) b4 b5 TQ;simp at q1;clear L z1 z2 z3 h m Th b4 b5 TQ D Tf;go_upto_region 8 with fail;refine aW (λY=>(aK Y r4 91 #[J V o.1,J V o.2]/\aK Y r5 76 #[ai p.dR,J bI p.type,J aN p.dQ,J ar p.aU,J ar p.bJ,ae sp.a sp.n sp.c,ai p.has,J aN p.bV,ae C.a C.n C.c,ae d.a d.n d.c])/\aL Y B R1 (N+1)/\iT Y p sp C d/\fK w Y B B) ⟨⟨E.O.dS (p:=⟨S.g,1,I⟩) n4 _,F.O.dS (p:=⟨S.g,1,I⟩) n5 _⟩,HZ.O.1,HZ.O.2.2,HZ.O.2.1⟩ ?_;clear HZ E F q1 f1 n4 n5 wc;rintro X ⟨⟨b4,b5⟩,h,m,Th⟩;obtain⟨qp,own,fit⟩:=(h.part .aO:∃q,X.ownsRow 0 101 13 B.pv R1.aO.length q.flatten/\Fit (uJ X) R1.aO q);have SJ:R1.aO=R.aO:=by rw[SM.O]
 rw[SJ]at own fit;obtain⟨SY,m14,TR⟩:=bA own;have Ti:=h.cw.cell 14;have f14:=h.cw.frozen 14;simp at Ti;rw[TR]at Ti;have TS:=h.et.aO;rw[SJ]at TS;have Tt:¬(B.pv.ownBlock=Z r4\/r4=B.g):=by
  rintro(q|q)
  ·exact(SH.O r4 ⟨.aO,q⟩).1 rfl
  ·exact(SH.O r4 ⟨.aG,q⟩).1 rfl
 have Tu:¬(B.pv.ownBlock=Z r5\/r5=B.g):=by
  rintro(q|q)
  ·exact(SH.O r5 ⟨.aO,q⟩).2 rfl
  ·exact(SH.O r5 ⟨.aG,q⟩).2 rfl
 obtain⟨E,F,U,G,Tj,HO,HF,SZ⟩:=qh b4 b5 h m Th own fit TR;clear b4 b5 h m Th own fit SJ TR;go_upto_region 9 with fail;go_cut [] (λwc=>∃v',(aK wc r4 91 #[J V o.1,J V o.2]/\aK wc r5 76 #[ai p.dR,J bI p.type,J aN p.dQ,J ar p.aU,J ar p.bJ,ae sp.a sp.n sp.c,ai p.has,J aN p.bV,ae C.a C.n C.c,ae d.a d.n d.c])/\aL wc { B with pv:=v' } { R1 with aO:=R.aO++[⟨o,n,p⟩] } (N+2)/\iT wc p sp C d/\fK w wc B { B with pv:=v' }/\∀i,({ B with pv:=v' }:RB).all i->i≠r4/\i≠r5);case first =>
  refine fC (S:=λW=>Fr (λi=>B.pv.ownBlock=Z i\/i=B.g) X.drew W) cC (Fr.refl _ _) (λhH=>?_);refine fS 0 (aq (Z ⟨B.g,0,I⟩)) rfl hH ?_;try simp only[aA,jY,jX,jW]
  refine fS 1 (aq (Z ⟨B.g,0,I⟩)) rfl hH ?_;try simp only[aA,jY,jX,jW]
  refine fS 2 (aq (Z ⟨B.g,0,I⟩)) rfl hH ?_;try simp only[aA,jY,jX,jW]
  refine fS 3 (aq (Z ⟨B.g,14,I⟩)) rfl hH ?_;try simp only[aA,jY,jX,jW]
  refine Fj 5 _ rfl (eS jP 91 (.tmp 4) rfl r4 0 rfl (#[J V o.1,J V o.2]:Array Value).toList _ (λW hW j v hv=>by rw[cO,(E.O.drew.dW hW.u Tt).cell];simpa using hv) underlying91 rfl Pg) hH ?_;try simp only[aA,jY,jX,jW]
  refine fS 6 (J V n) rfl hH ?_;try simp only[aA,jY,jX,jW]
  refine Fj 7 _ rfl (eS jP 76 (.tmp 5) rfl r5 0 rfl (#[ai p.dR,J bI p.type,J aN p.dQ,J ar p.aU,J ar p.bJ,ae sp.a sp.n sp.c,ai p.has,J aN p.bV,ae C.a C.n C.c,ae d.a d.n d.c]:Array Value).toList _ (λW hW j v hv=>by rw[cO,(F.O.drew.dW hW.u Tu).cell];simpa using hv) underlying76 rfl Tryz.zf) hH ?_;try simp only[aA,jY,jX,jW]
  refine fS 8 (cg #[J V o.1,J V o.2,J V n,ai p.dR,J bI p.type,J aN p.dQ,J ar p.aU,J ar p.bJ,ae sp.a sp.n sp.c,ai p.has,J aN p.bV,ae C.a C.n C.c,ae d.a d.n d.c]) rfl hH ?_;try simp only[aA,jY,jX,jW]
  have TF:∀L∈(#[J V o.1,J V o.2,J V n,ai p.dR,J bI p.type,J aN p.dQ,J ar p.aU,J ar p.bJ,ae sp.a sp.n sp.c,ai p.has,J aN p.bV,ae C.a C.n C.c,ae d.a d.n d.c]:Array Value).toList,L.oneCell'=true:=by intro u hu;simp at hu;repeat (first|(subst hu;rfl)|(rcases hu with rfl|hu;rfl))
  have Uy:X.drew.cell? ⟨B.g,14,I⟩=Z (ae SY R.aO.length m14):=Ti;have Vs:(X.drew.alloc (.cells #[J V o.1,J V o.2,J V n,ai p.dR,J bI p.type,J aN p.dQ,J ar p.aU,J ar p.bJ,ae sp.a sp.n sp.c,ai p.has,J aN p.bV,ae C.a C.n C.c,ae d.a d.n d.c] 101)).cell? ⟨B.g,14,I⟩=Z (ae SY R.aO.length m14):=ea Uy;have Vt:(X.alloc (.cells #[J V o.1,J V o.2,J V n,ai p.dR,J bI p.type,J aN p.dQ,J ar p.aU,J ar p.bJ,ae sp.a sp.n sp.c,ai p.has,J aN p.bV,ae C.a C.n C.c,ae d.a d.n d.c] 101)).drew.cell? ⟨B.g,14,I⟩=Z (ae SY R.aO.length m14):=cE (ea Ti);have Uz:(X.drew.alloc (.cells #[J V o.1,J V o.2,J V n,ai p.dR,J bI p.type,J aN p.dQ,J ar p.aU,J ar p.bJ,ae sp.a sp.n sp.c,ai p.has,J aN p.bV,ae C.a C.n C.c,ae d.a d.n d.c] 101)).ownsRow 0 101 13 (ae SY R.aO.length m14) R.aO.length qp.flatten:=eH (gI (by rw[<-SZ.O];exact HO.O) (eW (ao _ _))) _;obtain⟨TG,Ta⟩:=bu TF Uz;clear TF Uz;refine cH (rs:=[4,9]) cC dt ?_;refine bH rfl (λK hK=>?_) ?_
  ·skip;rw[if_pos jP];go_simp;refine hK.out _ _ (hH) (λTT=>?_);clear hK K;try simp only[aA,jY,jX,jW]
   refine cH (rs:=[9]) cC dt ?_;refine bH rfl (λK hK=>?_) cy;rw[if_pos jP];go_simp;refine hK.out _ _ (TT.alloc _) (λVc=>?_);clear hK K;try simp only[aA,jY,jX,jW]
   refine cH (rs:=[10]) cC dt ?_;refine bH rfl (λK hK=>?_) cy;refine lT _ jP (.tmp 66) (.tmp 71) 56 jP 0 101 i0 _ 13 120 underlying56 HI.O Un.O Uo.O Up.O rfl aR (ae SY R.aO.length m14) R.aO.length qp.flatten jP Ta.O ⟨X.drew.heap.size,0,I⟩ 1 1 (#[J V o.1,J V o.2,J V n,ai p.dR,J bI p.type,J aN p.dQ,J ar p.aU,J ar p.bJ,ae sp.a sp.n sp.c,ai p.has,J aN p.bV,ae C.a C.n C.c,ae d.a d.n d.c]:Array Value).toList jP rfl (fB X.drew 101 _) TG.O ui z dt ?_;intro v5 w5 SK g5 SL;obtain⟨A6,c6,rfl⟩:=bA SK;have SO:aK w5 B.g 61 (oS B R1):=mQ Ta.O g5 aR _ _ ((U.O.cw.drew).alloc _);have c5:=SO.cell 14;have f5:=SO.frozen 14;simp at c5;have f9:Fr (λi=>B.pv.ownBlock=Z i\/i=B.g) X.drew w5:=((Fr.refl _ X.drew).alloc _).step (Fr.nY (eT g5) (ib Ta.O) aR aR) (λi q=>.inl (.inl (by rw[SZ.O];exact q)));obtain⟨TV,H,Tk,TW⟩:=cA f9 SO SK SL;clear SO SK g5 SL;refine hK.out _ _ f9 (λTl=>?_);clear hK K f9;try simp only[aA,jY,jX,jW]
   refine fS 11 (aq (Z ⟨B.g,0,I⟩)) rfl Tl ?_;try simp only[aA,jY,jX,jW]
   refine fS 12 (aq (Z ⟨B.g,14,I⟩)) rfl Tl ?_;try simp only[aA,jY,jX,jW]
   refine cH (rs:=[13]) cC dt ?_;refine bH rfl (λK hK=>?_) cy;rw[if_pos jP];go_simp;refine hK.out _ _ (TV.O.setCell H.O (.inl (.inr rfl)) aR aR 14 _) (λTX=>?_);clear hK K;try simp only[aA,jY,jX,jW]
   refine gV cC ?_ _;go_wp2_with fail;go_meet;have fX:Fr (λi=>B.pv.ownBlock=Z i\/i=B.g) X (w5.setCell ⟨B.g,14,I⟩ (ae A6 (R.aO.length+1) c6)):=((Fr.refl _ X).drew).trans TX;have Tm:=kJ Tk.O (ej Tk.O H.O aR) 14 (ae A6 (R.aO.length+1) c6);have SJ:R1.aO=R.aO:=by rw[SM.O]
   have L:=U.O.wk (a:=⟨o,n,p⟩) (q:=qp++[(#[J V o.1,J V o.2,J V n,ai p.dR,J bI p.type,J aN p.dQ,J ar p.aU,J ar p.bJ,ae sp.a sp.n sp.c,ai p.has,J aN p.bV,ae C.a C.n C.c,ae d.a d.n d.c]:Array Value).toList]) fX (by rw[SJ];simpa using Tm) (by rw[SJ];exact Fit.snoc (HF.O.mono λx c k=>k.rows fX.r) ⟨sp,C,d,rfl,G.O.rows fX.r⟩) (H.O.bC 14 _) (λj hj=>(TW.O j hj).imp (λq=>by rw[SZ.O];exact q) (λq=>aP (by simp[World.drew]) q));rw[SJ]at L;refine⟨_,⟨E.O.dW fX.u Tt,F.O.dW fX.u Tu⟩,L.1,G.O.rows fX.r,Tj.O.trans L.2,λi hi=>?_⟩;have l4:=E.O.lt;have l5:=F.O.lt;rcases L.2.own i hi with q|q
   ·exact SH.O i q
   ·exact⟨z,z⟩
  ·refine bH rfl (λK hK=>?_) cy;rw[if_pos jP];go_simp;refine hK.out _ _ (hH.alloc _) (λTT=>?_);clear hK K;try simp only[aA,jY,jX,jW]
   refine cH (rs:=[4]) cC dt ?_;refine bH rfl (λK hK=>?_) cy;rw[if_pos jP];go_simp;refine hK.out _ _ (TT) (λVc=>?_);clear hK K;try simp only[aA,jY,jX,jW]
   refine cH (rs:=[10]) cC dt ?_;refine bH rfl (λK hK=>?_) cy;refine lT _ jP (.tmp 66) (.tmp 71) 56 jP 0 101 i0 _ 13 120 underlying56 HI.O Un.O Uo.O Up.O rfl aR (ae SY R.aO.length m14) R.aO.length qp.flatten jP Ta.O ⟨X.drew.heap.size,0,I⟩ 1 1 (#[J V o.1,J V o.2,J V n,ai p.dR,J bI p.type,J aN p.dQ,J ar p.aU,J ar p.bJ,ae sp.a sp.n sp.c,ai p.has,J aN p.bV,ae C.a C.n C.c,ae d.a d.n d.c]:Array Value).toList jP rfl (fB X.drew 101 _) TG.O ui z dt ?_;intro v5 w5 SK g5 SL;obtain⟨A6,c6,rfl⟩:=bA SK;have SO:aK w5 B.g 61 (oS B R1):=mQ Ta.O g5 aR _ _ ((U.O.cw.drew).alloc _);have c5:=SO.cell 14;have f5:=SO.frozen 14;simp at c5;have f9:Fr (λi=>B.pv.ownBlock=Z i\/i=B.g) X.drew w5:=((Fr.refl _ X.drew).alloc _).step (Fr.nY (eT g5) (ib Ta.O) aR aR) (λi q=>.inl (.inl (by rw[SZ.O];exact q)));obtain⟨TV,H,Tk,TW⟩:=cA f9 SO SK SL;clear SO SK g5 SL;refine hK.out _ _ f9 (λTl=>?_);clear hK K f9;try simp only[aA,jY,jX,jW]
   refine fS 11 (aq (Z ⟨B.g,0,I⟩)) rfl Tl ?_;try simp only[aA,jY,jX,jW]
   refine fS 12 (aq (Z ⟨B.g,14,I⟩)) rfl Tl ?_;try simp only[aA,jY,jX,jW]
   refine cH (rs:=[13]) cC dt ?_;refine bH rfl (λK hK=>?_) cy;rw[if_pos jP];go_simp;refine hK.out _ _ (TV.O.setCell H.O (.inl (.inr rfl)) aR aR 14 _) (λTX=>?_);clear hK K;try simp only[aA,jY,jX,jW]
   refine gV cC ?_ _;go_wp2_with fail;go_meet;have fX:Fr (λi=>B.pv.ownBlock=Z i\/i=B.g) X (w5.setCell ⟨B.g,14,I⟩ (ae A6 (R.aO.length+1) c6)):=((Fr.refl _ X).drew).trans TX;have Tm:=kJ Tk.O (ej Tk.O H.O aR) 14 (ae A6 (R.aO.length+1) c6);have SJ:R1.aO=R.aO:=by rw[SM.O]
   have L:=U.O.wk (a:=⟨o,n,p⟩) (q:=qp++[(#[J V o.1,J V o.2,J V n,ai p.dR,J bI p.type,J aN p.dQ,J ar p.aU,J ar p.bJ,ae sp.a sp.n sp.c,ai p.has,J aN p.bV,ae C.a C.n C.c,ae d.a d.n d.c]:Array Value).toList]) fX (by rw[SJ];simpa using Tm) (by rw[SJ];exact Fit.snoc (HF.O.mono λx c k=>k.rows fX.r) ⟨sp,C,d,rfl,G.O.rows fX.r⟩) (H.O.bC 14 _) (λj hj=>(TW.O j hj).imp (λq=>by rw[SZ.O];exact q) (λq=>aP (by simp[World.drew]) q));rw[SJ]at L;refine⟨_,⟨E.O.dW fX.u Tt,F.O.dW fX.u Tu⟩,L.1,G.O.rows fX.r,Tj.O.trans L.2,λi hi=>?_⟩;have l4:=E.O.lt;have l5:=F.O.lt;rcases L.2.own i hi with q|q
   ·exact SH.O i q
   ·exact⟨z,z⟩
 case rest =>
 obtain⟨v',⟨b4,b5⟩,h,m,Tb,SP⟩:=hcut;clear E F U G Tj HO HF SZ Ti f14 SH Tt Tu TS;have Tc:({ B with pv:=v' }:RB).g=B.g/\({ B with pv:=v' }:RB).bg=B.bg/\({ B with pv:=v' }:RB).bm=B.bm/\({ B with pv:=v' }:RB).t=B.t/\({ B with pv:=v' }:RB).sb=B.sb:=⟨rfl,rfl,rfl,rfl,rfl⟩;generalize ({ B with pv:=v' }:RB)=T at h Tb SP Tc;obtain⟨SN,UA,UB,UC,UD⟩:=Tc;obtain⟨R2,Tv⟩:=dH ({ R1 with aO:=R.aO++[⟨o,n,p⟩] }:M.Room);rw[<-Tv]at h;have Tw:R2.bp=R.bp/\R2.dA=R.dA:=by rw[Tv,SM.O];exact⟨rfl,rfl⟩
 have UE:=h.et.fP;have Tx:=h.cw.cell 20;have f20:=h.cw.frozen 20;rw[SN]at Tx f20;simp at Tx;rw[Tw.1]at UE Tx;obtain⟨R3,TY⟩:=dH (R2.count (λc=>{ c with fP:=c.fP+1 }));have L:=h.ri 20 (λc=>{ c with fP:=c.fP+1 }) (J V (R.bp.fP+1)) (by unfold M.Room.count;rw[<-Tw.1];rfl) { h.et.mono (cZ _) with fP:=by show 0<=R2.bp.fP+1/\R2.bp.fP+1<=((N+2+1:Nat):Int);rw[Tw.1];omega };rw[<-TY,SN]at L;have n4:r4≠B.g:=λq=>(SP B.g ⟨.aG,by rw[<-SN];rfl⟩).1 q.symm;have n5:r5≠B.g:=λq=>(SP B.g ⟨.aG,by rw[<-SN];rfl⟩).2 q.symm;have TH:R3={ R1 with aO:=R.aO++[⟨o,n,p⟩],bp:={ R1.bp with fP:=R1.bp.fP+1 } }:=by rw[TY,Tv];rfl
 obtain⟨Td,HZ,E,F,SH,SI⟩:=lH TH (dj L.1 (dj (Tb.trans L.2) (m.rows L.2.fr.r))) b4 b5 SP (dj SN (dj UA (dj UB (dj UC UD))));clear L b4 b5 h m Tb SP Tw Tv TY TH SN UA UB UC UD;go_upto_region 11 with fail;refine aW (λY=>(aK Y r4 91 #[J V o.1,J V o.2]/\aK Y r5 76 #[ai p.dR,J bI p.type,J aN p.dQ,J ar p.aU,J ar p.bJ,ae sp.a sp.n sp.c,ai p.has,J aN p.bV,ae C.a C.n C.c,ae d.a d.n d.c])/\aL Y T R3 (N+3)/\iT Y p sp C d/\fK w Y B T) ⟨⟨E.O.dS (p:=⟨B.g,20,I⟩) n4 _,F.O.dS (p:=⟨B.g,20,I⟩) n5 _⟩,HZ.O.1,HZ.O.2.2,HZ.O.2.1⟩ ?_;clear HZ E F Tx f20 n4 n5 UE wc R2;rintro Y ⟨⟨b4,b5⟩,h,m,Tb⟩;have UF:np R3:=by
  have hk:=HK.O;rw[Td.O,SM.O];exact⟨hk.iJ,hk.range,λs x q1 q2=>by
   obtain⟨a,b⟩:=hk.sub s x q1 q2
   exact⟨a,λi i0 i1=>by
    show(M.set R.az o (Z s1) (x.jo,i)).isSome=true
    rw[M.ur _ _ _ (by rw[HS.O.1];rfl)];exact b i i0 i1⟩⟩
 obtain⟨bh,gX⟩:=dH (R.ik o.1);have TI:tJ R3.bh (λs=>s.cL&&decide (s.jo=o.1))=bh:=by
  rw[gX,y9];have:R3.bh=R.bh:=by rw[Td.O,SM.O]
  rw[this]
 have T8:=xQ T.t R3.cW R3.aQ R3.bh (N+3) Y.drew ((h.below (eW (ao Y.drew.heap.size Y.drew))).part .table) z UF.may o.1;rw[TI,SI.O.2.2.2.1]at T8;have Ty:=h.cw.cell 11;rw[SI.O.1]at Ty;have k0:=b4.cell 0;simp at Ty k0;rw[SI.O.2.2.2.1]at Ty;have UG:bh.Nodup:=by rw[gX];unfold M.Room.ik;exact List.Pairwise.filter _ (by unfold M.gF;decide)
 have UH:∀s∈bh,0<=s/\s<6:=λs q=>by
  rw[gX]at q;unfold M.Room.ik M.gF at q;rw[eL]at q;have:=q.1;simp at this;omega
 have Vv:bh.length<=6:=by rw[gX];unfold M.Room.ik;exact aP (eE _ _) (aj 6)
 obtain⟨UI,UJ,UK,UL,E,F,U,G,SU⟩:=By T8 UG UH gX b4 b5 h m Tb;clear b4 b5 h m Tb T8 UG UH gX TI UF;go_cut [9] (λv wd=>∃A c,v=ae A bh.length c/\wd.ownsRow Y.heap.size 3 1 (ae A bh.length c) bh.length (bh.map (J V))/\aC Y wd);case first =>
  go_region_with (go_at_call 141;refine UI.O.mono ?_;rintro e w9 ⟨v,rfl,own,b9⟩;obtain⟨A,c,rfl⟩:=bA own;have HO:=au own;have H:=au b9;clear own b9);all_goals
   go_wp2_with fail;go_meet;exact⟨A,c,rfl,HO.O,eW H.O⟩
 case rest =>
 obtain⟨A9,m9,rfl,own,bY⟩:=hcut;have h:=U.O.below bY;have b4:=E.O.kept bY;have b5:=F.O.kept bY;have m:=G.O.below bY;have P:=SU.O.trans (fK.fN T bY);have SG:∀i,T.all i->i<Y.heap.size:=U.O.lt;have Tz:=au SG;clear E F U G SU UI Ty k0 SG;obtain⟨E,F,U,G,Q,HO⟩:=lH b4 b5 h m P own;clear b4 b5 h m P own bY;have TS:R.aO.length<=N:=Us;have TJ:R3.di=R.di:=by rw[Td.O,SM.O]
 have UM:=au TJ;clear TJ;go_wp2_with fail;go_loopw [93] (λi wr=>∃k:Nat,i=J V k/\k<=bh.length/\(aK wr r4 91 #[J V o.1,J V o.2]/\aK wr r5 76 #[ai p.dR,J bI p.type,J aN p.dQ,J ar p.aU,J ar p.bJ,ae sp.a sp.n sp.c,ai p.has,J aN p.bV,ae C.a C.n C.c,ae d.a d.n d.c])/\aL wr T { R3 with di:=xo R.di bh R.aO.length k } (N+3+k)/\iT wr p sp C d/\fK w wr B T/\wr.ownsRow Y.heap.size 3 1 (ae A9 bh.length m9) bh.length (bh.map (J V))) (λi _=>bh.length-(bS i).toNat);case atStart =>
  refine⟨0,rfl,z,⟨E.O,F.O⟩,?_,G.O,Q.O,HO.O⟩;have e:xo R.di bh R.aO.length 0=R3.di:=by rw[UM.O];funext s;unfold xo;simp
  rw[e];exact U.O
 case round =>
 clear E F U G Q HO;obtain⟨k,rfl,hk,⟨b4,b5⟩,h,m,P,own⟩:=hrel;by_cases SG:k<bh.length
 ·have Vd:((k:Int)<(bh.length:Int)):=z;have hx:bh[k]? = Z bh[k]:=ay SG;obtain⟨r9,rfl,q1,Ve⟩:=uN own hx;have T9:=UK.O bh[k] (dy SG);have aI:=Js (bk:=R.di) (id:=R.aO.length) UJ.O hx;have SV:xo R.di bh R.aO.length k bh[k] R.aO.length=I:=by
   unfold xo;rw[if_neg]
   ·exact Va.O _
   ·intro q;obtain⟨j,hj,e⟩:=ed q;have Vw:j<k:=by rw[ix]at hj;omega
    rw[sx]at e;have:=(List.getElem?_inj (by omega:j<bh.length) UJ.O).1 (show bh[j]? = bh[k]? by rw[ay z,hx,e]);omega
  generalize bh[k]=s at hx q1 T9 aI SV;have c0:=h.cw.cell 0;rw[SI.O.1]at c0;simp at c0;rw[SI.O.2.1]at c0;have Tn:eD wr T.bg T.bm (xo R.di bh R.aO.length k) (N+3+k):=h.part .di;have TA:=au (Fa T.bg T.bm (N+3+k) (xo R.di bh R.aO.length k) s R.aO.length wr Tn ⟨z,z⟩ z SV z);rw[aI,SI.O.2.1]at TA;obtain⟨E,F,U,G,Q,HO,Vf⟩:=lV b4 b5 h m P own Tn;clear b4 b5 h m P own aI SV hx Tn;go_wp2_with (go_at_call 183;refine TA.O.mono ?_;rintro e w9 ⟨rfl,SW,u9⟩;have H:=au SW;have Vg:=au u9;clear SW u9);have f9:Fr (One T.bm) wr w9:=Fr.jT Vg.O (λi hi=>Vf.O.ni i (.inr hi));have L:=(U.O.mono (cZ _)).ve f9 (by rw[SI.O.2.1];exact H.O);have HZ:=au L;have Vh:¬One T.bm r4:=λq=>(SH.O T.bm ⟨.di,.inr rfl⟩).1 q.symm;have Vi:¬One T.bm r5:=λq=>(SH.O T.bm ⟨.di,.inr rfl⟩).2 q.symm;clear L;go_roundw;case rel=>exact⟨k+1,by go_num,z,⟨E.O.dW f9.u Vh,F.O.dW f9.u Vi⟩,HZ.O.1,G.O.rows f9.r,Q.O.trans HZ.O.2,nh HO.O HZ.O.2.fr Tz.O⟩
  case measure=>simp[bS];omega
 have Ua:k=bh.length:=z;subst Ua;rw[LA]at h;obtain⟨R4,TC⟩:=dH ({ R3 with di:=λs=>if s∈bh then M.set (R.di s) R.aO.length (Z 0) else R.di s }:M.Room);rw[<-TC]at h;replace h:=h.mono (by omega:N+3+bh.length<=N+9);have To:R4.az o=Z s1:=by rw[TC,Td.O,SM.O];exact M.dY _ _ _
 have Ub:T.sb o=Z S:=by rw[SI.O.2.2.2.2];exact HS.O.2
 obtain⟨ke,Uc⟩:=dH (M.lx p.cF);obtain⟨s2,UN⟩:=dH ({ s1 with jc:=s1.jc && !ke }:M.eu);obtain⟨S',e',D⟩:=h.iB To;rw[Ub]at e';cases e';have q7:=D.cw.cell 7;have f7:=D.cw.frozen 7;have k9:=b5.cell 9;simp at q7 k9;have SN:=Ae d.a d.n d.c p.cF wr m.y.tl m.y.zero (by have:=m.small;have:=m.y.tl.len;omega);rw[<-Uc]at SN;obtain⟨UO,Vj,SU,UP,SX,U,Q,HO,df⟩:=By SN Uc UN TC (dj To Ub) h P own D;clear b4 b5 h m P own SN Uc UN TC To Ub D SG;go_upto_if 109 with(go_at_call 24;refine UO.O.mono ?_;rintro e w9 ⟨rfl,b9⟩;have H:=au b9;clear b9)
 have Vk:=aM H.O q7;have Vl:=(df.O.cw.kept H.O).frozen 7;clear q7 f7 k9;go_cut [] (λwd=>aL wd T { R4 with az:=M.set R4.az o (Z s2) } (N+9)/\fK w wd B T/\wd.ownsRow Y.heap.size 3 1 (ae A9 bh.length m9) bh.length (bh.map (J V)));case first =>
  cases ke with
  |true =>
   have e:s2={ s1 with jc:=false }:=by rw[SU.O];simp
   have L:=(U.O.below H.O).um (s':=s2) SX.O.1 SX.O.2 7 (ai false) (by rw[e];rfl) (by rw[e]) (by rw[e];exact df.O.uE) (by rw[e];exact df.O.fH) (by rw[e];exact df.O.gB);have HZ:=au L;clear L e;go_wp2_with fail;go_meet;exact⟨HZ.O.1,(Q.O.trans (fK.fN T H.O)).trans HZ.O.2,nh (gI HO.O H.O) HZ.O.2.fr Tz.O⟩
  |false =>
   have e:s2=s1:=by rw[SU.O];simp
   have e2:({ R4 with az:=M.set R4.az o (Z s2) }:M.Room)=R4:=by
    have e3:M.set R4.az o (Z s2)=R4.az:=qR _ _ _ (by rw[e];exact SX.O.1);rw[e3]
   have HE:=au e2;clear e e2;go_wp2_with fail;go_meet;exact⟨by rw[HE.O];exact U.O.below H.O,Q.O.trans (fK.fN T H.O),gI HO.O H.O⟩
 case rest =>
 obtain⟨h,P,own⟩:=hcut;clear Vk Vl H U Q HO df UO;obtain⟨R5,Tp⟩:=dH ({ R4 with az:=M.set R4.az o (Z s2) }:M.Room);rw[<-Tp]at h;have Tq:R5.az o=Z s2:=by rw[Tp];exact M.dY _ _ _
 have TD:R5.dA=R.dA/\R5.cJ=R.cJ:=by rw[Tp,UP.O,Td.O,SM.O];exact⟨rfl,rfl⟩
 have UQ:s2.bQ=st.bQ:=by rw[SU.O,SQ.O]
 have Ud:T.sb o=Z S:=SX.O.2;have UR:=h.et.cJ;rw[TD.2]at UR;have hD:=h.below (eW (ao wc.drew.heap.size wc.drew));obtain⟨S',e',D⟩:=hD.iB Tq;rw[Ud]at e';cases e';have Ue:=E9 S.b R5.dA.eJ R5.dA.cX n R.cJ R.aO.length s2.bQ wc.drew D.buf ⟨by have:=TO.O;omega,by have:=TO.O;omega⟩ ⟨z,z⟩;obtain⟨pu,Tr⟩:=dH (s2.bQ.push R5.dA.eJ n R.cJ R.aO.length);rw[<-Tr]at Ue;have c9:=h.cw.cell 9;rw[SI.O.1]at c9;have q0:wc.cell? ⟨S.g,0,I⟩=_:=D.cw.cell 0;simp at c9 q0;rw[TD.2]at c9;obtain⟨buf,er⟩:=pu;obtain⟨US,Vm,Vn,TM,UT,HD,Q,HO,df⟩:=By Ue Tr Tp (dj Tq Ud) (dj TD UQ) hD P own D;clear h P own hD D Ue Tr Tp Tq TD UQ Ud UR;go_upto_region 20 with fail;go_cut [123] (λv wd=>v=J V er/\∃B',aL wd { T with sb:=M.set T.sb o (Z ⟨S.g,B'⟩) } { R5 with az:=M.set R5.az o (Z { s2 with bQ:=buf }) } (N+9)/\fK w wd B { T with sb:=M.set T.sb o (Z ⟨S.g,B'⟩) }/\wd.ownsRow Y.heap.size 3 1 (ae A9 bh.length m9) bh.length (bh.map (J V))/\∀i,({ T with sb:=M.set T.sb o (Z ⟨S.g,B'⟩) }:RB).all i->(Value.slice A9 bh.length m9).ownBlock≠Z i);case first =>
  go_region_with (go_at_call 184;refine US.O.mono ?_;rintro e w9 ⟨rfl,B',SW,TE,u9,mK⟩;have HH:=au (dj SW (dj TE (dj u9 mK)));clear SW TE u9 mK);all_goals
   go_wp2_with fail;go_meet;obtain⟨SW,TE,u9,mK⟩:=HH.O;have f9:Fr S.own wc.drew w9:=Fr.jT (u9.mono λi _ q=>.inr q) (λi hi=>df.O.ni i hi);have UU:gh w9 ⟨S.g,B'⟩ R5.dA.eJ R5.dA.cX { s2 with bQ:=buf } (N+9):=by
    have hb:=df.O.cw.dW u9 (λq=>by
     have:=df.O.buf
     rcases q with q|q
     ·exact aK.jf df.O.cw this.cw aR q
     ·exact ej this.row df.O.cw aR q.symm)
    refine⟨?_,SW,df.O.uE,df.O.fH,df.O.gB⟩;have e:kI ⟨S.g,B'⟩ { s2 with bQ:=buf }=kI S s2:=by simp[kI,TE]
    rw[e];exact hb
   have L:=HD.O.nL TM.O.1 TM.O.2 f9 UU rfl (λi q=>by
    rcases q with q|q
    ·exact .inl (.inl q)
    ·exact(mK i q).imp (λy=>.inr y) id)
   exact⟨rfl,B',L.1,(Q.O.trans (fK.fN T (eW (ao _ _)))).trans L.2,nh (gI HO.O (eW (ao _ _))) L.2.fr Tz.O,λi hi e=>by
    have l:=HO.O.lt i e
    rcases L.2.own i hi with q|q
    ·have:=Tz.O i q;omega
    ·have q:wc.heap.size<=i:=q
     omega⟩
 case rest =>
 obtain⟨rfl,B',h,P,own,mK⟩:=hcut;clear HD Q HO df US c9 q0;have Tc:({ T with sb:=M.set T.sb o (Z ⟨S.g,B'⟩) }:RB).g=T.g/\({ T with sb:=M.set T.sb o (Z ⟨S.g,B'⟩) }:RB).bg=T.bg:=⟨rfl,rfl⟩;obtain⟨R6,Uf⟩:=dH ({ R5 with az:=M.set R5.az o (Z { s2 with bQ:=buf }) }:M.Room);rw[<-Uf]at h;have Ug:(buf,er)=st.bQ.push R.dA.eJ n R.cJ R.aO.length:=by rw[Vm.O,UT.O.1.1,UT.O.2]
 have TN:R6=M.ka R o st p n buf (R.ik o.1):=by
  rw[Uf,Vn.O,UP.O,Td.O,SM.O,SU.O,SQ.O,HG.O,Vj.O,UL.O];simp only[set_set];rfl
 have eI:res=M.fE R6 R.aO.length bh er:=by rw[Ur.O,<-Ug,<-TN,<-UL.O]
 have UW:er=10\/er=9\/er=8\/er=0:=by
  have e:=Lp st.bQ R.dA.eJ n R.cJ R.aO.length;rw[<-Ug]at e;exact e
 generalize ({ T with sb:=M.set T.sb o (Z ⟨S.g,B'⟩) }:RB)=B3 at h P Tc mK;obtain⟨f,hf⟩:=dH (if er=10 then 3 else if er=9 then 2 else 6:Int);obtain⟨UX,UY,HF,U,Q,HO,TA,Uh⟩:=qh eI UW hf h P own mK Tc;clear eI UW hf h P own TN Ug Uf mK Tc;go_upto_block 2 with fail;go_cut [12] (λv wd=>v=J V f/\wd=wc/\er≠0);case first =>
  rcases UY.O with he|he|he|he
  ·subst he;go_wp2_with fail;go_meet;exact⟨by rw[HF.O];rfl,rfl,aR⟩
  ·subst he;go_wp2_with fail;go_meet;exact⟨by rw[HF.O];rfl,rfl,aR⟩
  ·subst he;go_wp2_with fail;go_meet;exact⟨by rw[HF.O];rfl,rfl,aR⟩
  ·subst he;have e:res=R6:=UX.O;have HE:=au e;clear e;go_wp2_with fail;refine ax (v:=aB #[]) (by simp[aV,results124,go_sem]) rfl ?_;exact⟨B3,rfl,by rw[HE.O];exact U.O,Q.O⟩
 case rest =>
 obtain⟨rfl,rfl,UZ⟩:=hcut;have hr:res=bh.foldl (λr s=>r.bR s R.aO.length f) R6:=by
  rw[UX.O,HF.O];unfold M.fE;rcases UY.O with he|he|he|he
  ·rw[he];rfl
  ·rw[he];rfl
  ·rw[he];rfl
  ·exact absurd he UZ
 have U0:1<=f/\f<=8:=by rw[HF.O];split<;>(try split)<;>omega
 have Vo:=au hr;clear hr UZ;go_wp2_with fail;go_loopw [132] (λi wr=>∃k:Nat,i=J V k/\k<=bh.length/\aL wr B3 ((bh.take k).foldl (λr s=>r.bR s R.aO.length f) R6) (N+9)/\fK w wr B B3/\wr.ownsRow Y.heap.size 3 1 (ae A9 bh.length m9) bh.length (bh.map (J V))) (λi _=>bh.length-(bS i).toNat);case atStart=>exact⟨0,rfl,z,U.O,Q.O,HO.O⟩
 case round =>
 clear U Q HO;obtain⟨k,rfl,hk,h,P,own⟩:=hrel;by_cases SG:k<bh.length
 ·have Vd:((k:Int)<(bh.length:Int)):=z;have hx:bh[k]? = Z bh[k]:=ay SG;obtain⟨r9,rfl,q1,Ve⟩:=uN own hx;have T9:=UK.O bh[k] (dy SG);have aI:=M.lL (λr s=>M.Room.bR r s R.aO.length f) bh k bh[k] R6 hx;generalize bh[k]=s at hx q1 T9 aI;generalize (bh.take k).foldl (λr s=>M.Room.bR r s R.aO.length f) R6=Rk at h aI;have c0:=h.cw.cell 0;rw[Uh.O.1,SI.O.1]at c0;simp at c0;rw[Uh.O.2,SI.O.2.1]at c0;have Ui:=mz h s R.aO.length f ⟨z,z⟩ z U0 z;rw[Uh.O.2,SI.O.2.1]at Ui;obtain⟨Vp,Vq,Q,HO⟩:=cA Ui aI P own;clear h P own Ui aI hx;go_wp2_with (go_at_call 114;refine Vp.O.mono ?_;rintro e w9 ⟨rfl,U1,U2⟩;have Vr:=au U1;have U3:=au U2;clear U1 U2);go_roundw;case rel=>exact⟨k+1,by go_num,z,by rw[Vq.O];exact Vr.O,Q.O.trans U3.O,du HO.O U3.O.fr.u (λi hi q=>TA.O i q hi)⟩
  case measure=>simp[bS];omega
 have Ua:k=bh.length:=z;subst Ua;rw[cT,<-Vo.O]at h;obtain⟨U,Q⟩:=bu h P;clear h P own;go_wp2_with fail;first
  |refine dq (bT results124 _ _ _) rfl ?_
  |refine ax (v:=aB #[]) (by simp[aV,results124,go_sem]) rfl ?_
 exact⟨B3,rfl,U.O,Q.O⟩
end
end
section
def Ir(st:M.bN->Option M.eu)(p:Int):Nat->M.bN->Option M.eu
 |0=>st
 |k+1=>M.set (Ir st p k) (p,(k:Int)) (Z .new)
theorem F4(R:M.Room)(p s0 s1 s2:Int)(a:R.cN=false):R.gg p s0 s1 s2=if xm R.cW R.aQ p s0 s1 s2=0 then({ R with cW:=uz R.cW p s0 s1 s2 3,aQ:=uy R.aQ p s0 s1 s2 3,az:=Ir R.az p 3 },0) else(R,xm R.cW R.aQ p s0 s1 s2):=by
 unfold M.Room.gg xm;rw[if_neg (by rw[a];simp)];cases h1:M.mB p
 ·simp
 ·by_cases h2:s1=s0\/s2=s0\/s2=s1
  ·simp[h2]
  ·by_cases h3:(R.aQ (p,0)).isSome=true
   ·simp[h2,h3]
   ·by_cases h4:(R.cW s0).isSome=true\/(R.cW s1).isSome=true\/(R.cW s2).isSome=true
    ·simp only[jV,cB,if_false,if_neg h2,if_neg h3,if_pos h4,rL];rfl
    ·simp only[jV,cB,if_false,if_neg h2,if_neg h3,if_neg h4,rL,if_true];rfl
section
variable {B:RB} {R:M.Room} {N:Nat} {w:aw} (h:aL w B R N)
include h
theorem aL.FD{w1 w2:aw}{o:M.bN}{S:SB}{s:M.eu}(b1:aC w w1)(g:gh w1 S R.dA.eJ R.dA.cX s N)(b:∀i,S.own i->w.heap.size<=i)(u:cS (One B.sm) w1 w2)
  (j:gA KO w2 B.sm (M.set (λs=>(B.sb s).map tS) o (Z (tS S))) N) :
  aL w2 { B with sb:=M.set B.sb o (Z S) } { R with az:=M.set R.az o (Z s) } N/\fK w w2 B { B with sb:=M.set B.sb o (Z S) }:=by
 have c:gA KO w B.sm (λs=>(B.sb s).map tS) N:=h.part .az;have l:=c.lt;have d:Fr (One B.sm) w1 w2:=.jT u (λi a=>by cases a;exact(c.below b1).mut);refine h.IW (λY=>Y=.az\/Y=.fO o) (.fO o) ?_ ?_ rfl ?_ ?_ { h.et with }
 ·exact(Fr.bn b1).step d (λi a=>.inl ⟨.az,.inl rfl,a⟩)
 ·rintro Y (rfl|rfl)
  ·refine gA.congr j λt=>?_;show M.set (λs=>(B.sb s).map tS) o (Z (tS S)) t=(M.set B.sb o (Z S) t).map tS;unfold M.set;split<;>rfl
  ·show lX _ (M.set R.az o (Z s) o) (M.set B.sb o (Z S) o);simp only[M.set,if_true];exact g.fr d (λi a q=>by have:=b i a;rw[show i=B.sm from q]at this;omega)
 ·intro Y f k;cases Y with
  |fO t =>
   have e:t≠o:=λe=>f (.inr (e ▸ rfl));show lX _ (M.set R.az o (Z s) t) (M.set B.sb o (Z S) t);simp only[M.set,if_neg e];exact k
  |az=>exact absurd (.inl rfl) f
  |_=>exact k
 ·intro Y i a;cases Y with
  |fO t =>
   obtain⟨K,q,a⟩:=a;simp only[M.set]at q;split at q
   ·rename_i e;simp only[Option.some.injEq]at q;subst q e;exact .inr ⟨rfl,b i a⟩
   ·exact .inl ⟨K,q,a⟩
  |_=>exact .inl a
theorem vZ(p s0 s1 s2:Int)(hN:N<800000)(w0:Ng s0)(w1:Ng s1)(w2:Ng s2) :
  aF af 38 #[aq (Z ⟨B.g,0,I⟩),J V p,cg #[J ar s0,J ar s1,J ar s2]] w (kk B w (J V (R.gg p s0 s1 s2).2) (R.gg p s0 s1 s2).1 (N+9)):=by
 obtain⟨res,a⟩:=dH (R.gg p s0 s1 s2);rw[<-a];have H0:=au h;have y:=h.lt;have mK:w.cell? ⟨B.g,7,I⟩=Z (ai R.cN):=by have gX:=h.cw.cell 7;simpa using gX
 have SG:=h.cw.lt;clear h;go_enter func38,ntmps38;go_upto_region 1 with fail;obtain⟨r5,h5⟩:=dH w.heap.size;rw[<-h5];have S:=(ao _ w).alloc (aj _) (.cells #[J ar s0,J ar s1,J ar s2] 43);refine aW (λX=>aK X r5 43 #[J ar s0,J ar s1,J ar s2]/\aL X B R N/\aC w X) ⟨aK.newAt _ _ _ _ h5,H0.O.below S,S⟩ ?_;have SH:Hd (∀i,B.all i->i≠r5):=au (λi hi=>by have:=y i hi;omega);clear h5 S y SG mK;rintro X ⟨b5,h,S⟩;have c7:=h.cw.cell 7;have c:=h.cw.cell 11;have A:=b5.cell 0;have C:=b5.cell 1;have D:=b5.cell 2;simp at c7 c A C D;have S0:Hd (fK w X B B):=au ⟨rfl,.bn S,λi q=>.inl q⟩;have H:=au h;clear b5 S H0;cases G:R.cN
 ·rw[G]at c7;have U:=F4 R p s0 s1 s2 G;have d:fA X B.t R.cW R.aQ R.bh N:=h.part .table;have hP:=xW B.t R.cW R.aQ R.bh N X d p s0 s1 s2 z w0 w1 w2;have b:=xW B.t R.cW R.aQ R.bh N X.drew (d.dW (F:=cr) (cS.refl cr X).drew (λ_ _ q=>q)) p s0 s1 s2 z w0 w1 w2;have HM:=au d.ni;have NG:Hd (¬B.t.own B.g):=au (λq=>by have:=h.vd .aG .table B.g rfl q;cases this);have Y:Hd (¬B.t.own r5):=au (λq=>SH.O r5 ⟨.table,q⟩ rfl);have n:(1<=R.dA.eJ/\R.dA.eJ<=8)/\0<=R.dA.cX/\R.dA.cX<=1000:=by
   have:=h.et.dA;simp[M.jr]at this;omega
  have K:xm R.cW R.aQ p s0 s1 s2=0->0<=p/\p<3:=λq=>by
   unfold xm at q;cases hm:M.mB p
   ·rw[hm]at q;simp at q
   ·simpa[M.mB]using hm
  clear hP d h;by_cases r:xm R.cW R.aQ p s0 s1 s2=0
  ·obtain⟨p0,p3⟩:=K r;rw[if_pos r]at U;rw[r]at b;simp only[if_true]at b;have L:=au b;rw[U]at a;have j:=au a;clear U b a r K G;go_wp2_with fail;go_region_held3 (λW=>W.cell? ⟨B.g,11,I⟩=Z (aq (Z ⟨B.t.g,0,I⟩))/\W.cell? ⟨r5,0,I⟩=Z (J ar s0)/\W.cell? ⟨r5,1,I⟩=Z (J ar s1)/\W.cell? ⟨r5,2,I⟩=Z (J ar s2)) (first|(with_reducible exact⟨cE c,cE A,cE C,cE D⟩)|(with_reducible exact⟨d11,d0,d1,d2⟩)) (first|(go_at_call 85;refine L.O.mono ?_;rintro e w3 ⟨rfl,hT,u⟩;have f:Fr B.t.own X w3:=Eu (.jT u (λi hi=>HM.O i hi));have d11:=dD f NG.O c;have d0:=dD f Y.O A;have d1:=dD f Y.O C;have d2:=dD f Y.O D;have T:=(H.O.mono (z:N<=N+6)).kS f hT;have HT:=au T;clear hT u f T));all_goals
    have st:∃k:Nat,(J V 0)=J V k/\k<=3/\∃B',aL w3 B' { R with cW:=uz R.cW p s0 s1 s2 3,aQ:=uy R.aQ p s0 s1 s2 3,az:=Ir R.az p k } (N+6+k)/\fK w w3 B B':=⟨0,rfl,z,B,HT.O.1,S0.O.trans HT.O.2⟩;have aI:=au st;clear st c7 c A C D d11 d0 d1 d2 HT H;go_wp2_with fail;go_loopw [25] (λv wr=>∃k:Nat,v=J V k/\k<=3/\∃B',aL wr B' { R with cW:=uz R.cW p s0 s1 s2 3,aQ:=uy R.aQ p s0 s1 s2 3,az:=Ir R.az p k } (N+6+k)/\fK w wr B B') (λv _=>3-(bS v).toNat);case atStart=>exact aI.O
    case round =>
     clear aI;obtain⟨k,rfl,hk,B',hR,hS⟩:=hrel;by_cases y:k<3
     ·have SP:((k:Int)<3):=z;have P:=hR.cw;rw[hS.g]at P;have c2:=P.cell 2;have c3:=P.cell 3;have df:=P.cell 13;simp at c2 c3 df;have lb:=P.lt;have Q:gA KO wr B'.sm (λs=>(B'.sb s).map tS) (N+6+k):=hR.part .az;have SQ:B'.sm≠B.g:=Q.ki P;obtain⟨SI,HR,HS⟩:=bU Q hR hS;clear P Q hR hS;go_wp2_with fail;go_region_held3 (λW=>W.cell? ⟨B.g,2,I⟩=Z (J V R.dA.eJ)/\W.cell? ⟨B.g,3,I⟩=Z (J V R.dA.cX)) (first|(with_reducible exact⟨cE c2,cE c3⟩)|(with_reducible exact⟨d2,d3⟩)) (first|(go_at_call 31;refine(vM R.dA.eJ R.dA.cX _ n.1 n.2).mono ?_;rintro e l ⟨g,rfl,eI,b9,hg⟩;have bx:aC wr l:=(by with_reducible exact eW b9);have d2:=aM bx c2;have d3:=aM bx c3;have m:=au bx;have SJ:=au eI;have SK:=au (show wr.heap.size<=g from hg);clear bx b9 eI hg));all_goals
       have b5:aC wr (l.alloc (.cells (kI ⟨l.heap.size,⟨g,ae I 0 0⟩⟩ .new) 172)):=m.O.alloc m.O.size _;obtain⟨SL,x,hM,u2⟩:=(SI.O.below b5).nX xM BY z (p,(k:Int)) (tS ⟨l.heap.size,⟨g,ae I 0 0⟩⟩) (ir ⟨by show(-1000000000000:Int)<=p;omega,by show p<=1000000000000;omega⟩ ⟨by show(-1000000000000:Int)<=k;omega,by show(k:Int)<=1000000000000;omega⟩);have x:(Instr.mapUpdate 55 (.map (Z B'.sm)) (cg #[J V p,J V k]) (aq (Z ⟨l.heap.size,0,I⟩))).run af (l.alloc (.cells #[aq (Z ⟨g,0,I⟩),ai false,J V 0,ai false,ai false,J V 0,J V 0,ai false] 172))=.ok () SL:=x;have d13:=aM m.O df;have hA:gh (l.alloc (.cells (kI ⟨l.heap.size,⟨g,ae I 0 0⟩⟩ .new) 172)) ⟨l.heap.size,⟨g,ae I 0 0⟩⟩ R.dA.eJ R.dA.cX .new (N+6+k+1):=
        ⟨aK.new l 172 _,SJ.O.below ((ao _ _).alloc (aj _) _),by simp[M.eu.new];omega,by simp[M.eu.new];omega,by simp[M.eu.new];omega⟩
       have SM:=m.O.size;have gX:=(HR.O.mono (cZ (N+6+k))).FD (o:=(p,(k:Int))) b5 hA (by
        rintro i (rfl|rfl|q)
        ·show wr.heap.size<=l.heap.size;exact SM
        ·exact SK.O
        ·cases q) u2 hM
       have HZ:=au gX;clear b5 hM u2 hA gX;go_wp2_with fail;go_roundw;case rel=>exact⟨k+1,by go_num,z,_,HZ.O.1,HS.O.trans HZ.O.2⟩
       case measure=>simp[bS];omega
     ·have SN:k=3:=z;subst SN;obtain⟨HR,HS⟩:=bu hR hS;clear hR hS;go_wp2_with fail;go_ret;rw[j.O];exact⟨B',rfl,HR.O,HS.O⟩
  ·rw[if_neg r]at U;have SO:(xm R.cW R.aQ p s0 s1 s2 !=0)=true:=by simpa using r
   simp only[if_neg r]at b;rw[U]at a;clear U K G;generalize xm R.cW R.aQ p s0 s1 s2=E at b SO r a;have j:=au a;clear a;have L:=au b;clear b;go_wp2_with fail;go_region_held3 (λW=>W.cell? ⟨B.g,11,I⟩=Z (aq (Z ⟨B.t.g,0,I⟩))/\W.cell? ⟨r5,0,I⟩=Z (J ar s0)/\W.cell? ⟨r5,1,I⟩=Z (J ar s1)/\W.cell? ⟨r5,2,I⟩=Z (J ar s2)) (first|(with_reducible exact⟨cE c,cE A,cE C,cE D⟩)|(with_reducible exact⟨d11,d0,d1,d2⟩)) (first|(go_at_call 85;refine L.O.mono ?_;rintro e w3 ⟨rfl,hT,u⟩;have f:Fr B.t.own X w3:=Eu (.jT u (λi hi=>HM.O i hi));have d11:=dD f NG.O c;have d0:=dD f Y.O A;have d1:=dD f Y.O C;have d2:=dD f Y.O D;have T:=(H.O.mono (z:N<=N+6)).kS f hT;have HT:=au T;clear hT u f T));all_goals
    go_wp2_with fail;go_ret;rw[j.O];exact⟨B,rfl,HT.O.1.mono z,S0.O.trans HT.O.2⟩
 ·have e1:R.gg p s0 s1 s2=(R,7):=by unfold M.Room.gg;simp[G]
  rw[e1]at a;subst a;rw[G]at c7;clear e1 G h c A C D;go_wp2_with fail;go_ret;exact⟨B,rfl,H.O.mono z,S0.O⟩
end
end
section
theorem vU(R:M.Room)(s p aY:Int)(a:R.cN=false)(ht:M.there aY=true)(hg:R.eG s=false) :
  R.dN s p aY=if xe R.aQ R.bh s p=0 then M.Room.fj { R with bh:=M.set R.bh s (Z ⟨((R.bh s).getD ⟨0,false,0⟩).own,true,p⟩) } s aY else(R,xe R.aQ R.bh s p):=by
 unfold M.Room.dN xe;rw[if_neg (by rw[a];simp),if_neg (by rw[ht];simp),if_neg (by rw[hg];simp)];by_cases h1:(!M.fY s || !M.mB p)=true
 ·rw[if_pos h1,if_pos h1,if_neg aR]
 ·rw[if_neg h1,if_neg h1];cases b:R.bh s with
  |none=>simp
  |some x =>
   simp only[Option.getD_some];cases h2:(R.aQ (p,0)).isSome
   ·simp
   ·cases h3:x.cL<;>simp
section
variable {B:RB} {R:M.Room} {N:Nat} {w:aw} (h:aL w B R N)
include h
theorem uw(s p aY:Int)(u:(Lit.int V s).wf=true)(X:N<900000)(v:(R.bh s).isSome=true->(R.aD s).isSome=true) :
  aF af 40 #[aq (Z ⟨B.g,0,I⟩),J V s,J V p,J V aY] w (kk B w (J V (R.dN s p aY).2) (R.dN s p aY).1 (N+1)):=by
 have S:=h.cw.cell 7;have y:=h.cw.cell 11;have A:=h.cw.cell 12;simp at S y A;obtain⟨res,a⟩:=dH (R.dN s p aY);rw[<-a];have H:=au h;cases d:R.cN
 ·rw[d]at S;cases ht:M.there aY
  ·have o:R.dN s p aY=(R,1):=by unfold M.Room.dN;rw[if_neg (by rw[d];simp),if_pos (by rw[ht];simp)]
   rw[o]at a;subst a;clear o d h v y A u;go_enter func40,ntmps40;go_wp2_with (go_at_call 88;refine(kU aY w).mono ?_;rintro e w1 ⟨rfl,hw⟩;have b:=hw.symm;subst b;rw[ht]);go_ret;exact⟨B,rfl,H.O.mono (cZ N),fK.refl _ _⟩
  have j:fA w B.t R.cW R.aQ R.bh N:=h.part .table;obtain⟨m,Q⟩:=bu (Ak B.t R.cW R.aQ R.bh N w j s p z) j.ni;have k:=h.uS s u;clear j;cases f:R.aD s with
  |none =>
   rw[f,h.CG f]at k;simp only[Option.map_none,Option.getD_none,Option.isSome_none]at k;have hg:R.eG s=false:=by unfold M.Room.eG;rw[f]
   have n:=vU R s p aY d ht hg;have i:xe R.aQ R.bh s p≠0:=by
    intro q;unfold xe at q;split at q
    ·cases q
    ·cases T:R.bh s with
     |none=>rw[T]at q;cases q
     |some x=>have:=v (by rw[T];rfl);rw[f]at this;cases this
   rw[if_neg i]at n;rw[n]at a;subst a;have c:Dr R.aQ R.bh s p=R.bh:=by unfold Dr;rw[if_neg i]
   rw[c]at m;have C:(xe R.aQ R.bh s p !=0)=true:=by simpa using i
   clear n c d h v f hg u;generalize xe R.aQ R.bh s p=E at m C i;go_enter func40,ntmps40;go_wp2_with (first
    |(go_at_call 88;refine(kU aY w).mono ?_;rintro e w1 ⟨rfl,hw⟩;have b:=hw.symm;subst b;rw[ht])
    |(go_at_call 89;refine m.O.mono ?_;rintro e w1 ⟨rfl,G,u1⟩))
   go_ret;have r:=(H.O.mono (cZ N)).kS (Fr.jT u1 Q.O) (or:=R.cW) (so:=R.aQ) (su:=R.bh) G;exact⟨B,rfl,r.1,r.2⟩
  |some l =>
   obtain⟨L,K,U⟩:=h.jq f;rw[f,K]at k;have k:(cD 54 (.map (Z B.lm)) (J V s) true).run af w=.ok (aB #[aq (Z ⟨L.g,0,I⟩),ai true]) w:=k;have D:=au (qK L R.dA.aG R.dA.aT l N w U);clear U;cases hg:l.eG
   ·have F:R.eG s=false:=by unfold M.Room.eG;rw[f];exact hg
    have n:=vU R s p aY d ht F;by_cases i:xe R.aQ R.bh s p=0
    ·rw[if_pos i]at n;rw[n]at a;subst a;have c:Dr R.aQ R.bh s p=M.set R.bh s (Z ⟨((R.bh s).getD ⟨0,false,0⟩).own,true,p⟩):=by unfold Dr;rw[if_pos i]
     rw[c,i]at m;have P:=au (dj f K);generalize M.set R.bh s (Z ⟨((R.bh s).getD ⟨0,false,0⟩).own,true,p⟩)=su at m ⊢;clear n c d h v f F u i K;go_enter func40,ntmps40;go_wp2_with (first
      |(go_at_call 88;refine(kU aY w).mono ?_;rintro e w1 ⟨rfl,hw⟩;have b:=hw.symm;subst b;rw[ht])
      |(go_at_call 46;refine D.O.mono ?_;rintro e w1 ⟨rfl,hw⟩;have b:=hw.symm;subst b;rw[hg])
      |(go_at_call 89;refine m.O.mono ?_;rintro e w1 ⟨rfl,G,u1⟩;have r:=au ((H.O.mono (cZ N)).kS (Fr.jT u1 Q.O) (or:=R.cW) (so:=R.aQ) (su:=su) G);clear G u1)
      |(go_at_call 90;refine(vq r.O.1 (aY:=aY) P.O.1 P.O.2).mono ?_;rintro e w2 ⟨B',rfl,hR,W⟩))
     go_ret;exact⟨B',rfl,hR,r.O.2.trans W⟩
    ·rw[if_neg i]at n;rw[n]at a;subst a;have c:Dr R.aQ R.bh s p=R.bh:=by unfold Dr;rw[if_neg i]
     rw[c]at m;have C:(xe R.aQ R.bh s p !=0)=true:=by simpa using i
     clear n c d h v f F u K;generalize xe R.aQ R.bh s p=E at m C i;go_enter func40,ntmps40;go_wp2_with (first
      |(go_at_call 88;refine(kU aY w).mono ?_;rintro e w1 ⟨rfl,hw⟩;have b:=hw.symm;subst b;rw[ht])
      |(go_at_call 46;refine D.O.mono ?_;rintro e w1 ⟨rfl,hw⟩;have b:=hw.symm;subst b;rw[hg])
      |(go_at_call 89;refine m.O.mono ?_;rintro e w1 ⟨rfl,G,u1⟩))
     go_ret;have r:=(H.O.mono (cZ N)).kS (Fr.jT u1 Q.O) (or:=R.cW) (so:=R.aQ) (su:=R.bh) G;exact⟨B,rfl,r.1,r.2⟩
   ·have o:R.dN s p aY=(R,5):=by
     unfold M.Room.dN;rw[if_neg (by rw[d];simp),if_neg (by rw[ht];simp),if_pos (by unfold M.Room.eG;rw[f];exact hg)]
    rw[o]at a;subst a;clear o d h v f u K m Q;go_enter func40,ntmps40;go_wp2_with (first
     |(go_at_call 88;refine(kU aY w).mono ?_;rintro e w1 ⟨rfl,hw⟩;have b:=hw.symm;subst b;rw[ht])
     |(go_at_call 46;refine D.O.mono ?_;rintro e w1 ⟨rfl,hw⟩;have b:=hw.symm;subst b;rw[hg]))
    go_ret;exact⟨B,rfl,H.O.mono (cZ N),fK.refl _ _⟩
 ·have o:R.dN s p aY=(R,7):=by unfold M.Room.dN;simp[d]
  rw[o]at a;subst a;rw[d]at S;clear o d h y A v u;go_enter func40,ntmps40;go_wp2_with fail;go_ret;exact⟨B,rfl,H.O.mono (cZ N),fK.refl _ _⟩
end
end
end Go.Proofs.YtkfblammcilfhaaGreatDoor
