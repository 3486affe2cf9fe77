import Derived.Test.YtkfblammcilfhaaGreatDoorP3
import Derived.Test.YtkfblammcilfhaaGreatDoorP17
import Derived.Test.YtkfblammcilfhaaGreatDoorP18
set_option linter.all false
set_option maxRecDepth 100000
set_option maxHeartbeats 100000000
open Go.ChangeShapes Go.WideShapes Go.ChangeAt Go.RowKit Go.Proofs.Tryz
open Go renaming World->aw,Calls->aF,bodyPost_end->dq,results_none->bT,bodyPost_ret->ax,results->aV,info_parts->cY,results_tmp2->ew,wp_region_held_drew->fC,yieldsIf_load_mid->eS,wpAnyH_ready->cH,wpAnyH_done->gV
open Go.Proofs.Tryz renaming prog->af
open And renaming intro->dj
open Go.RowKit.Below renaming refl->ao
open Nat renaming le_refl->aj,le_succ->cZ,le_trans->aP,zero_add->cO,le_of_lt->lN
open Go.Instr renaming lookup->cD
open Bool renaming and_eq_true->cM,false_eq_true->cB
open Option renaming isSome_iff_exists->dw,none->I,some->Z
open List renaming getElem?_toArray->iC,length_append->cG,length->pN,take_length->cT,getElem?_eq_getElem->ay,all_eq_true->iZ,map_cons->eV,map_nil->jk,mem_cons->fw,not_mem_nil->tt
open Go.RowKit renaming Below->iQ,intOf->bS
open Go.Value renaming slice->ae,int->J,bool->ai,pointer->aq,tuple->aB,agg->cg
open Go.Act renaming put->aA
open Go.AllReadyH renaming cons->bH,nil->cy
open Go.IntKind renaming i64->V,u32->ar,u16->aN,u8->bI
open Go.Lib renaming TabIs->qM,decDigits->iI
open Go.Ending renaming returned->av
namespace Go.Proofs.YtkfblammcilfhaaGreatDoor
section
theorem Ev{o:Option Nat}{a:Int}{b:Bool}(h:og o a b):b=o.isSome/\∀x,o=Z x->a=(x:Int):=by
 unfold og at h;cases o with
 |none=>exact⟨h,λx q=>by cases q⟩
 |some y=>exact⟨h.1,λx q=>by cases q;exact h.2⟩
theorem ca.FR{w:aw}{B:LB}{aG N:Nat}{aT:Int}{l:M.dP}(h:ca w B aG aT l N){o:Nat}(a:(l.eO aG).2=Z o):o<=1000000:=by
 obtain⟨q,hR,hF⟩:=h.ready;unfold M.dP.eO at a;cases hp:l.bF with
 |nil=>rw[hp]at a;cases a
 |cons y d =>
  rw[hp]at a;simp only at a;split at a
  ·cases hr:l.ready with
   |nil=>rw[hr]at a;cases a
   |cons e zs =>
    rw[hr]at a hF;obtain⟨c,f,rfl,b,_⟩:=hF.cons_inv;obtain⟨_,_,_,_,hi⟩:=b;simp at a;subst a;exact hi
  ·cases a
section
variable {B:RB} {R:M.Room} {N:Nat} {w:aw} (h:aL w B R N)
include h
theorem Cn(st s:Int)(a:Bool)(l:M.dP)(x:M.Item)(first:Bool)(r:List (M.Item×Bool))(Y:R.aD s=Z l)(hc:l.bF=(x,first)::r)(hs:0<=s/\s<6)(hN:N<1000000) :
  aF af 69 #[aq (Z ⟨B.g,0,I⟩),cg #[J V st,J V s],ai a] w λe w'=>∃B',e=av (aB #[])/\aL w' B' (R.fD s) N/\fK w w' B B':=by
 obtain⟨res,k⟩:=dH (R.fD s);rw[<-k];have e0:R.fD s=match(l.eO R.dA.aG).2 with | some t=>M.Room.bR { R with aD:=M.set R.aD s (Z (l.eO R.dA.aG).1) } s t 6 | none=>{ R with aD:=M.set R.aD s (Z (l.eO R.dA.aG).1) }:=by
  unfold M.Room.fD;rw[Y];cases hq:(l.eO R.dA.aG).2<;>simp[hq]
 obtain⟨L,hL,F⟩:=h.jq Y;have y:∀o,(l.eO R.dA.aG).2=Z o->o<=1000000:=λo ho=>F.FR ho;have G:∀W,ca W L R.dA.aG R.dA.aT l N->aF af 129 #[aq (Z ⟨L.g,0,I⟩)] W λe W'=>∃p:Int,e=av (aB #[J V p,ai (l.eO R.dA.aG).2.isSome,ai true])/\(∀x,(l.eO R.dA.aG).2=Z x->p=(x:Int))/\ca W' L R.dA.aG R.dA.aT (l.eO R.dA.aG).1 N/\Fr L.own W W':=λW hW =>
  (CM L R.dA.aG R.dA.aT l N W hW x first r hc).mono (by
   rintro e W' ⟨p,b,h1,h2,h3,h4⟩
   obtain⟨h5,h6⟩:=Ev h2
   exact⟨p,by rw[h1,h5],h6,h3,h4⟩)
 have m:=au G;clear G;generalize (l.eO R.dA.aG).2=o2 at e0 m y;generalize (l.eO R.dA.aG).1=l1 at e0 m;obtain⟨j,A,H0⟩:=bU (k.trans e0) (dj Y hL) h;have Tf:(Lit.int V s).wf=true:=Ig z z;have H:=h.lt;clear h F k e0 hc Y;go_enter func69,ntmps69;go_upto_region 1 with fail;obtain⟨r4,e4⟩:=dH w.heap.size;rw[<-e4];have E:aC w (w.alloc (.cells #[J V st,J V s] 40)):=(ao _ w).alloc (aj _) _;have K:∀i,B.all i->i≠r4:=λi hi=>by have:=H i hi;omega
 refine aW (λX=>aK X r4 40 #[J V st,J V s]/\aL X B R N/\aC w X) ⟨aK.newAt _ _ _ _ e4,H0.O.below E,E⟩ ?_;have Tg:=au K;clear e4 E H0 H K;rintro X ⟨b4,h,E⟩;have hD:=h.below (eW (ao X.drew.heap.size X.drew));have Ti:(cD 54 (.map (Z B.lm)) (J V s) false).run af X.drew=.ok (aq (Z ⟨L.g,0,I⟩)) X.drew:=by
  have P:=hD.kW s Tf;rw[hL]at P;exact P
 have Q:=h.cw.cell 12;have k1:=b4.cell 1;simp at Q k1;obtain⟨L',e',F⟩:=hD.jq A.O.1;rw[hL]at e';cases e';obtain⟨C,HD,Tj,HA⟩:=cA F hD b4 E;clear h E b4 F hD hL;go_cut [6,7,8] (λa b c wc=>∃p:Int,a=J V p/\b=ai o2.isSome/\c=ai true/\(∀x,o2=Z x->p=(x:Int))/\∃B',aL wc B' { R with aD:=M.set R.aD s (Z l1) } N/\fK w wc B B'/\B'.bg=B.bg/\aK wc r4 40 #[J V st,J V s]);case first =>
  go_region_with (go_at_call 129;refine(m.O _ C.O).mono ?_;rintro e w9 ⟨p,rfl,n,Tk,f⟩);all_goals
   go_wp2_with fail;go_meet;have P:=HD.O.qJ A.O.1 A.O.2 f Tk rfl (λi q=>.inl q);exact⟨p,rfl,rfl,rfl,n,_,P.1,(⟨rfl,.bn (HA.O.trans (eW (ao X.drew.heap.size X.drew) |>.mono HA.O.size)),λi q=>.inl q⟩:fK w X.drew B B).trans P.2,rfl,Tj.O.drew.dW f.u (λq=>Tg.O r4 ⟨.fo s,L,A.O.2,q⟩ rfl)⟩
 case rest =>
  obtain⟨p,rfl,rfl,rfl,n,B',hR,hS,S,b4⟩:=hcut;have hb:=hR.cw;rw[hS.g]at hb;have c0:=hb.cell 0;have k1:=b4.cell 1;simp at c0 k1;rw[S]at c0;obtain⟨HR,HS⟩:=bu hR hS;clear hR hS b4 hb Ti Q;cases o2 with
  |none =>
   have d:=j;clear j m C n y;simp only[Option.isSome_none];go_wp2_with fail;first
    |refine dq (bT results69 _ _ _) rfl ?_
    |refine ax (v:=aB #[]) (by simp[aV,results69,go_sem]) rfl ?_
   first|exact⟨B',rfl,by rw[d.out];exact HR.O,HS.O⟩|exact⟨rfl,B',by rw[d.out];exact HR.O,HS.O⟩
  |some o =>
   have e1:=n o rfl;subst e1;have hi:=y o rfl;have d:=j;have D:=λW hW=>mz (w:=W) (B:=B') (R:={ R with aD:=M.set R.aD s (Z l1) }) (N:=N) hW s o 6 ⟨z,z⟩ hi z hN;rw[S]at D;have Tl:=au D;clear D j m C n y;simp only[Option.isSome_some];go_wp2_with fail;go_region_with (go_at_call 114;refine(Tl.O _ (HR.O.below (eW (ao _ _)))).mono ?_;rintro e w9 ⟨rfl,U,Tm⟩);all_goals
    go_wp2_with fail;first
     |refine dq (bT results69 _ _ _) rfl ?_
     |refine ax (v:=aB #[]) (by simp[aV,results69,go_sem]) rfl ?_
    have T:=(HS.O.trans (⟨rfl,.bn (eW (ao _ _)),λi q=>.inl q⟩:fK _ _ B' B')).trans Tm;first|exact⟨B',rfl,by rw[d.out];exact U,T⟩|exact⟨rfl,B',by rw[d.out];exact U,T⟩
end
end
section
theorem Gt(L:LB)(aG:Nat)(aT:Int)(l:M.dP)(N:Nat)(w:aw)(h:ca w L aG aT l N)(x:Nat×M.cQ)(r:List (Nat×M.cQ))(b:l.ready=x::r)(hg:l.eG=false)(k:N<=1000000)(a:Bool) :
  aF af 113 #[aq (Z ⟨L.g,0,I⟩),ai a] w λe w'=>∃c:LB,e=av (aB #[J V x.1,J V (l.write aT a).2.2,ai true])/\c.g=L.g/\(∀i,c.own i->L.own i\/w.heap.size<=i) /\
   ca w' c aG aT (l.write aT a).1 (N+1)/\Fr L.own w w':=by
 cases a with
 |true =>
  have d:l.write aT true=({ l with ready:=r,fF:=l.fF++[x],row:=0 },x.1,1):=by
   unfold M.dP.write;rw[b];simp[hg]
  rw[d];refine(zH L aG aT l N w h x r b hg k).mono ?_;rintro e w' ⟨m,rfl,n,j,f⟩;refine⟨{ L with ov:=m },rfl,rfl,?_,j,f⟩;rintro i (q|q|q|q|q)
  ·exact .inl (.inl q)
  ·exact .inl (.inr (.inl q))
  ·exact .inl (.inr (.inr (.inl q)))
  ·exact .inl (.inr (.inr (.inr (.inl q))))
  ·exact(n i q).imp (λo=>.inr (.inr (.inr (.inr o)))) id
 |false =>
  have d:l.write aT false=((if l.row+1=aT then { l with row:=l.row+1,eG:=true,cK:=[],bF:=[],ready:=[] } else { l with row:=l.row+1 }),x.1,(if l.row+1=aT then 7 else 0)):=by
   unfold M.dP.write;rw[b];by_cases q:l.row+1=aT
   ·simp[hg,q]
   ·simp[hg,q,b]
  rw[d];refine(Ax L aG aT l N w h x r b hg).mono ?_;rintro e w' ⟨rfl,j,f⟩;exact⟨L,rfl,rfl,λi q=>.inl q,j.mono (cZ N),f⟩
theorem K0(su:Int->Option M.Sub)(s:Int)(hm:M.fY s=true):BV su s=match su s with | some x=>if x.cL then M.set su s (Z ⟨x.own,false,0⟩) else su | none=>su:=by
 unfold BV BW;cases h:su s with
 |none=>simp[hm]
 |some x=>cases a:x.cL<;>simp[hm,a]
section
variable {B:RB} {R:M.Room} {N:Nat} {w:aw} (h:aL w B R N)
include h
theorem FN(st s:Int)(a:Bool)(l:M.dP)(x:Nat×M.cQ)(r:List (Nat×M.cQ))(hl:R.aD s=Z l)(hc:l.ready=x::r)(hg:l.eG=false)(TR:x.1<=1000000)(hs:0<=s/\s<6)(hN:N<900000) :
  aF af 64 #[aq (Z ⟨B.g,0,I⟩),cg #[J V st,J V s],ai a] w λe w'=>∃B',e=av (aB #[])/\aL w' B' (R.jS s a) (N+2)/\fK w w' B B':=by
 obtain⟨res,y⟩:=dH (R.jS s a);rw[<-y];have e0:R.jS s a=M.nA (M.kg R s (l.write R.dA.aT a).1 x.1 (l.write R.dA.aT a).2.2) s (l.write R.dA.aT a).1.eG:=by
  have hid:(l.write R.dA.aT a).2.1=x.1:=by
   unfold M.dP.write;rw[hc];simp[hg];split<;>(try split)<;>rfl
  rw[M.kh,hl,<-hid]
 obtain⟨L,hL,hA⟩:=h.jq hl;have G:=au (λW hW=>Gt L R.dA.aG R.dA.aT l N W hW x r hc hg z a);generalize (l.write R.dA.aT a).2.2=fa at e0 G;generalize (l.write R.dA.aT a).1=l1 at e0 G;obtain⟨T,A,H0⟩:=bU (y.trans e0) (dj hl hL) h;have Tw:(Lit.int V s).wf=true:=Ig z z;have Tx:=h.lt;clear h hA y e0 hc hl hg;go_enter func64,ntmps64;go_upto_region 1 with fail;obtain⟨r4,e4⟩:=dH w.heap.size;rw[<-e4];have al:aC w (w.alloc (.cells #[J V st,J V s] 40)):=(ao _ w).alloc (aj _) _;have H:∀i,B.all i->i≠r4:=λi hi=>by have:=Tx i hi;omega
 refine aW (λX=>aK X r4 40 #[J V st,J V s]/\aL X B R N/\aC w X) ⟨aK.newAt _ _ _ _ e4,H0.O.below al,al⟩ ?_;have Ty:=au H;clear e4 al H0 Tx H;rintro X ⟨b4,h,al⟩;have hD:=h.below (eW (ao X.drew.heap.size X.drew));have TS:(cD 54 (.map (Z B.lm)) (J V s) false).run af X.drew=.ok (aq (Z ⟨L.g,0,I⟩)) X.drew:=by
  have j:=hD.kW s Tw;rw[hL]at j;exact j
 have Tz:(cD 54 (.map (Z B.lm)) (J V s) false).run af X=.ok (aq (Z ⟨L.g,0,I⟩)) X:=by
  have j:=h.kW s Tw;rw[hL]at j;exact j
 have TA:=h.cw.cell 12;have p:=b4.cell 1;simp at TA p;obtain⟨HX,m,HA⟩:=bU h b4 al;clear h al b4 hD hL;go_upto_region 2 with fail;go_region;clear TS Tz TA p;have hD:=HX.O.below (eW (ao X.drew.heap.size X.drew));have HD:=au hD;obtain⟨L',e',hA⟩:=hD.jq A.O.1;rw[A.O.2]at e';cases e';have TC:=au hA;clear hD hA;go_upto_region 3 with(go_big_may;go_at_call 113;refine(G.O _ TC.O).mono ?_;rintro e w1 ⟨F,rfl,Tf,U,TD,f⟩)
 have j:=(HD.O.mono (cZ N)).qJ A.O.1 A.O.2 f TD Tf U;obtain⟨HR,HS⟩:=bu j.1 ((⟨rfl,.bn (HA.O.trans (eW (ao X.drew.heap.size X.drew) |>.mono HA.O.size)),λi q=>.inl q⟩:fK w X.drew B B).trans j.2);have Tg:∀i,({ B with lb:=M.set B.lb s (Z F) }:RB).all i->i≠r4:=λi hi e=>by
  rcases j.2.own i hi with q|q
  ·exact Ty.O i q e
  ·have e1:=m.O.drew.lt;omega
 have b4:=m.O.drew.dW f.u (λq=>Ty.O r4 ⟨.fo s,L,A.O.2,q⟩ rfl);clear j TD f;have TE:M.set R.aD s (Z l1) s=Z l1:=by simp[M.set]
 have TF:M.set B.lb s (Z F) s=Z F:=by simp[M.set]
 have n:({ B with lb:=M.set B.lb s (Z F) }:RB).bg=B.bg:=rfl;have K:({ B with lb:=M.set B.lb s (Z F) }:RB).g=B.g:=rfl;have Ti:({ B with lb:=M.set B.lb s (Z F) }:RB).t=B.t:=rfl;have Tj:({ R with aD:=M.set R.aD s (Z l1) }:M.Room).aD s=Z l1:=TE;have Tk:({ B with lb:=M.set B.lb s (Z F) }:RB).lb s=Z F:=TF;have TG:M.kg R s l1 x.1 fa=if fa=1 then M.Room.bR { R with aD:=M.set R.aD s (Z l1) } s x.1 1 else { R with aD:=M.set R.aD s (Z l1) }:=rfl
 have P:=T.O;rw[TG]at P;generalize ({ B with lb:=M.set B.lb s (Z F) }:RB)=c at HR HS n K Ti Tk Tg;generalize ({ R with aD:=M.set R.aD s (Z l1) }:M.Room)=R1 at HR P Tj;obtain⟨d,b,C,TH⟩:=cA P (dj n (dj K (dj Ti (dj Tj (dj Tk Tf))))) b4 Tg;have o:=HR.O.cw.cell 0;have p:=b4.cell 1;rw[K]at o;simp at o p;rw[n]at o;clear TG P T n K Ti Tj Tk Tg b4 TE TF G TC HD m Tf U;obtain⟨k,Q⟩:=dH (if fa=1 then M.Room.bR R1 s x.1 1 else R1);rw[<-Q]at d;have Y:k.aD s=Z l1:=by
  rw[Q];split
  ·rw[sV];exact b.O.2.2.2.1
  ·exact b.O.2.2.2.1
 obtain⟨TI,TJ⟩:=bu Q Y;clear Q Y;go_upto_if 28 with fail;go_cut [6,8] (λq _ wc=>q=aq (Z ⟨L.g,0,I⟩)/\aL wc c k (N+1)/\fK w wc B c/\aK wc r4 40 #[J V st,J V s]);case first =>
  by_cases hf:fa=1
  ·have e2:k=M.Room.bR R1 s x.1 1:=by rw[TI.O,if_pos hf]
   have Tl:=λW hW=>mz (w:=W) (B:=c) (R:=R1) (N:=N+1) hW s x.1 1 ⟨z,z⟩ TR z z;rw[b.O.1]at Tl;obtain⟨TT,Tm⟩:=bu Tl e2;have H:(fa==1)=true:=by simpa using hf
   clear Tl e2;go_wp2_with fail;go_region_with (go_at_call 114;refine(TT.O _ (HR.O.below (eW (ao _ _)))).mono ?_;rintro e w9 ⟨rfl,TV,TM⟩);all_goals
    go_wp2_with fail;go_meet;exact⟨rfl,by rw[Tm.O];exact TV,(HS.O.trans (⟨rfl,.bn (eW (ao _ _)),λi q=>.inl q⟩:fK _ _ c c)).trans TM,C.O.drew.dW TM.fr.u (λq=>TH.O _ q rfl)⟩
  ·have e2:k=R1:=by rw[TI.O,if_neg hf]
   have H:(fa==1)=false:=by simpa using hf
   have Tm:=au e2;clear e2;go_wp2_with fail;go_meet;exact⟨rfl,by rw[Tm.O];exact HR.O,HS.O,C.O⟩
 case rest =>
  obtain⟨rfl,hR,hS,b4⟩:=hcut;obtain⟨L',e',hA⟩:=hR.jq TJ.O;rw[b.O.2.2.2.2.1]at e';cases e';have Tn:=qK F k.dA.aG k.dA.aT l1 (N+1) wc hA;rw[b.O.2.2.2.2.2]at Tn;have S:=au Tn;have o:=hR.cw.cell 0;rw[b.O.2.1]at o;have p:=b4.cell 1;simp at o p;rw[b.O.1]at o;obtain⟨D,To,m⟩:=bU hR hS b4;clear hR hS b4 hA Tn C HR HS;cases TN:l1.eG with
  |false =>
   rw[TN]at S d;go_wp2_with (go_at_call 46;refine S.O.mono ?_;rintro e w8 ⟨rfl,Tp⟩;have E:=Tp.symm;subst E);first
    |refine dq (bT results64 _ _ _) rfl ?_
    |refine ax (v:=aB #[]) (by simp[aV,results64,go_sem]) rfl ?_
   have j:aL wc c res (N+2):=by
    rw[d.O];exact D.O.mono z
   first|exact⟨c,rfl,j,To.O⟩|exact⟨rfl,c,j,To.O⟩
  |true =>
   rw[TN]at S d;go_upto_region 6 with(go_big_may;go_at_call 46;refine S.O.mono ?_;rintro e w8 ⟨rfl,Tp⟩;have E:=Tp.symm;subst E)
   have Tq:=λW (hW:aL W c k (N+1))=>yx c.bg c.bm (N+1) k.di s 7 W (hW.part .di) z z;rw[b.O.1]at Tq;have TW:=au Tq;clear Tq o p;have o:=D.O.cw.cell 0;rw[b.O.2.1]at o;have p:=m.O.cell 1;simp at o p;rw[b.O.1]at o;go_cut [] (λwd=>aL wd c { k with di:=BN k.di s 7 } (N+1)/\fK w wd B c/\aK wd r4 40 #[J V st,J V s]);case first =>
    go_region_with (go_at_call 93;refine(TW.O _ (D.O.below (eW (ao _ _)))).mono ?_;rintro e w9 ⟨⟨v,rfl⟩,TX,u⟩);all_goals
     go_wp2_with fail;go_meet;have n:eD wc c.bg c.bm k.di (N+1):=D.O.part .di;have f9:Fr (One c.bm) wc w9:=(Fr.bn (eW (ao _ _))).step (Fr.jT u (λi hi=>by cases hi;exact(n.below (eW (ao _ _))).ni _ (.inr rfl))) (λi q=>.inl q);have j:=D.O.ve f9 (by rw[b.O.1];exact TX);exact⟨j.1,To.O.trans j.2,m.O.dW f9.u (λq=>TH.O r4 ⟨.di,.inr q⟩ rfl)⟩
   case rest =>
    obtain⟨Ts,TO,TP⟩:=hcut;clear o p;have Tt:=Ts.cw.cell 11;rw[b.O.2.1]at Tt;have p:=TP.cell 1;simp at Tt p;rw[b.O.2.2.1]at Tt;have Tu:=λW (hW:aL W c { k with di:=BN k.di s 7 } (N+1))=>yC c.t k.cW k.aQ k.bh (N+1) W (hW.part .table) s z;rw[b.O.2.2.1]at Tu;obtain⟨TY,Tv,TQ⟩:=bU Tu Ts TO;clear Tu Ts TO TP;go_wp2_with fail;go_region_with (go_at_call 115;refine(TY.O _ (Tv.O.below (eW (ao _ _)))).mono ?_;rintro e w9 ⟨rfl,T8,u⟩);all_goals
     go_wp2_with fail;first
      |refine dq (bT results64 _ _ _) rfl ?_
      |refine ax (v:=aB #[]) (by simp[aV,results64,go_sem]) rfl ?_
     have T9:fA wc c.t k.cW k.aQ k.bh (N+1):=Tv.O.part .table;have f9:Fr c.t.own wc w9:=(Fr.bn (eW (ao _ _))).step (Fr.jT (u.mono λi _ q=>by rw[b.O.2.2.1];exact q) (T9.below (eW (ao _ _))).ni) (λi q=>.inl q);have j:=(Tv.O.mono (cZ (N+1))).kS f9 (by rw[b.O.2.2.1];exact T8);have zz:aL w9 c res (N+2):=by
      rw[d.O];have e9:=j.1;rw[K0 k.bh s (by simp[M.fY];omega)]at e9;exact e9
     first|exact⟨c,rfl,zz,TQ.O.trans j.2⟩|exact⟨rfl,c,zz,TQ.O.trans j.2⟩
end
end
section
structure Hx(R:M.Room):Prop where
 tell:np R
 kz:mF R
 held:∀o st,R.az o=Z st->∀y∈st.bQ.bD,y.id<R.aO.length
 back:R.returned.length<=1000
 fresh:∀s,R.di s R.aO.length=I
 Qt:∀x o,R.cW x=Z o->(R.az o).isSome=true
 Qh:∀o,(R.az o).isSome=true->(0<=o.1/\o.1<3)/\0<=o.2/\o.2<3
 eG:∀s l,R.aD s=Z l->0<l.ready.length->l.eG=false
section
variable {B:RB} {R:M.Room} {N:Nat}
theorem oT(f:Hx R)(st s:Int)(a:Bool)(hm:R.may (st,s)=true)(H:N<700000) :
  ∃fn:Nat,(R.cN=true/\fn=65\/R.cN=false/\(st=0/\fn=66\/st=1/\fn=67\/st=2/\fn=68\/st=3/\fn=69\/st=4/\fn=64)) /\
   ∀w,aL w B R N->aF af fn #[aq (Z ⟨B.g,0,I⟩),cg #[J V st,J V s],ai a] w (kk B w (aB #[]) (R.pick (st,s) a).1 (N+9)):=by
 have hp:(R.pick (st,s) a).1=if R.cN then R.ku (st,s) else if st=0 then R.read else if st=1 then R.order else if st=2 then R.gq s else if st=3 then R.fD s else R.jS s a:=by
  unfold M.Room.pick;rw[hm];rfl
 rw[hp];unfold M.Room.may at hm;rw[cM,decide_eq_true_iff,M.mA]at hm;obtain⟨hw,hm⟩:=hm;have i:2<=st->∃l,R.aD s=Z l/\(0<=s/\s<6):=λh2=>by
  rcases hw with e|e | ⟨_,_,e⟩
  ·injection e with k m;omega
  ·injection e with k m;omega
  ·obtain⟨l,j⟩:=dw.1 e;exact⟨l,j,f.tell.range s e⟩
 have h4:0<=st/\st<=4:=by
  rcases hw with e|e | ⟨e,_,_⟩
  ·injection e with k m;omega
  ·injection e with k m;omega
  ·have e:st=2\/st=3\/st=4:=e;omega
 have h6:0<=s/\s<6:=by
  rcases hw with e|e | ⟨e,_,q⟩
  ·injection e with k m;omega
  ·injection e with k m;omega
  ·exact f.tell.range s q
 cases D:R.cN with
 |true =>
  rw[D]at hm;simp only[if_true]at hm;refine⟨65,.inl ⟨rfl,rfl⟩,λw h=>?_⟩;simp only[if_true];exact Lj h st s a h4 h6 (λh2=>by obtain⟨l,j,_⟩:=i h2;rw[j];rfl) (by simpa using hm) f.back (λo sm u y hy=>by have:=f.held o sm u y hy;have:=h.et.aO;omega) z
 |false =>
  rw[D]at hm;simp only[cB,if_false]at hm ⊢;by_cases v:st=0
  ·refine⟨66,.inr ⟨trivial,.inl ⟨v,rfl⟩⟩,λw h=>?_⟩;rw[if_pos v]at hm ⊢;cases E:R.dm with
   |nil=>rw[E]at hm;simp at hm
   |cons b q=>exact Je h st s a b q E f.tell f.fresh f.Qt f.Qh z
  ·rw[if_neg v]at hm ⊢;by_cases k:st=1
   ·refine⟨67,.inr ⟨trivial,.inr (.inl ⟨k,rfl⟩)⟩,λw h=>?_⟩;rw[if_pos k]at hm ⊢;obtain⟨o,F⟩:=dw.1 hm;refine(FO h st s a o F z f.kz (λsm u=>f.held o sm u)).mono ?_;rintro e w' ⟨B',n,p,t⟩;exact⟨B',n,p.mono z,t⟩
   ·rw[if_neg k]at hm ⊢;obtain⟨l,j,_⟩:=i z;rw[j]at hm;simp only at hm;by_cases m:st=2
    ·refine⟨68,.inr ⟨trivial,.inr (.inr (.inl ⟨m,rfl⟩))⟩,λw h=>?_⟩;rw[if_pos m]at hm ⊢;simp[M.dP.nO]at hm;cases d:l.cK with
     |nil=>rw[d]at hm;simp at hm
     |cons x r =>
      refine(Dy h st s a l x r j d z h6 z).mono ?_;rintro e w' ⟨B',n,p,t⟩;exact⟨B',n,p.mono z,t⟩
    ·rw[if_neg m]at hm ⊢;by_cases A:st=3
     ·refine⟨69,.inr ⟨trivial,.inr (.inr (.inr (.inl ⟨A,rfl⟩)))⟩,λw h=>?_⟩;rw[if_pos A]at hm ⊢;cases d:l.bF with
      |nil=>rw[d]at hm;simp at hm
      |cons x r =>
       obtain⟨x,first⟩:=x;refine(Cn h st s a l x first r j d h6 z).mono ?_;rintro e w' ⟨B',n,p,t⟩;exact⟨B',n,p.mono z,t⟩
     ·refine⟨64,.inr ⟨trivial,.inr (.inr (.inr (.inr ⟨z,rfl⟩)))⟩,λw h=>?_⟩;rw[if_neg A]at hm ⊢;have hg:=f.eG s l j (by simpa using hm);cases d:l.ready with
      |nil=>rw[d]at hm;simp at hm
      |cons x r =>
       obtain⟨L,K,G⟩:=h.jq j;obtain⟨q,hR,hF⟩:=G.ready;have C:x.1<=1000000:=hF.On (Q:=λx=>x.1<=1000000) (by rintro x c ⟨_,_,_,_,hi⟩;exact hi) x (by rw[d];simp);refine(FN h st s a l x r j d hg C h6 z).mono ?_;rintro e w' ⟨B',n,p,t⟩;exact⟨B',n,p.mono z,t⟩
end
section
variable {B:RB} {R:M.Room} {N:Nat} {w:aw} (h:aL w B R N)
include h
theorem sY(st s:Int)(a:Bool)(E:Hx R)(P:N<700000) :
  aF af 25 #[aq (Z ⟨B.g,0,I⟩),cg #[J V st,J V s],ai a] w (kk B w (ai (R.pick (st,s) a).2) (R.pick (st,s) a).1 (N+9)):=by
 have l:=λW (Q:aL W B R N)=>Li Q (st,s) z;have n:aC w (w.alloc (.cells #[J V st,J V s] 40)):=(ao _ w).alloc (aj _) _;cases hm:R.may (st,s) with
 |false =>
  have e:R.pick (st,s) a=(R,false):=by unfold M.Room.pick;rw[hm];rfl
  rw[e];obtain⟨H,m,i,u⟩:=cA h l n hm;clear h l n e hm;go_enter func25,ntmps25;go_wp2_with (go_at_call 63;refine(m.O _ (H.O.below i.O)).mono ?_;rw[u.O];rintro e w2 ⟨rfl,b2⟩;have j:=au b2;clear b2);go_ret;have r:=i.O.trans (j.O.mono i.O.size);exact⟨B,rfl,(H.O.mono z).below r,fK.fN B r⟩
 |true =>
  have F:(R.pick (st,s) a).2=true:=by unfold M.Room.pick;rw[hm];rfl
  rw[F];obtain⟨fn,A,o⟩:=oT (B:=B) E st s a hm P;generalize (R.pick (st,s) a).1=res at o;obtain⟨r4,C⟩:=dH w.heap.size;obtain⟨H,m,i,u,d⟩:=gY h l n hm o;have G:∀X,aC w X->fK w X B B/\aL X B R N:=λX b=>⟨fK.fN B b,H.O.below b⟩;have K:=au G;have b4:aK (w.alloc (.cells #[J V st,J V s] 40)) r4 40 #[J V st,J V s]:=aK.newAt _ _ _ _ C;have S:∀(fn:Fn) (first cap:Array Value) (w:aw),(Instr.makeFunc fn first cap).run af w=.ok (.func fn first cap) w:=λ_ _ _ _=>rfl;have k:=au b4;clear h l n hm F o E G b4;go_enter func25,ntmps25;go_upto_region 1 with fail;rw[<-C];refine aW (λX=>aK X r4 40 #[J V st,J V s]/\aC w X) ⟨k.O,i.O⟩ ?_;clear C i k;rintro X ⟨b4,n⟩;have v:=b4.cell 0;have x:=b4.cell 1;simp at v x;obtain⟨i,k⟩:=bu n b4;clear n b4;go_upto_region 3 with(go_at_call 63;refine(m.O _ (H.O.below i.O)).mono ?_;rw[u.O];rintro e w2 ⟨rfl,b2⟩;have j:=au b2;clear b2)
  have r:=i.O.trans (j.O.mono i.O.size);have y:=K.O _ r;have b4:=k.O.kept j.O;clear v x;obtain⟨T,f⟩:=bu y y.2;have L:=y.2.cw.cell 7;have v:=b4.cell 0;have x:=b4.cell 1;simp at L v x;clear y b4 r m u K k j H i;rcases A with⟨D,rfl⟩ | ⟨D,⟨rfl,rfl⟩ | ⟨rfl,rfl⟩ | ⟨rfl,rfl⟩ | ⟨rfl,rfl⟩ | ⟨rfl,rfl⟩⟩
  all_goals
   rw[D]at L;clear D;go_wp2_with (first|(go_at_call 65;refine(d.O _ f.O).mono ?_;rintro e t ⟨B',rfl,h9,c⟩;have p:=au h9;have q:=au c;clear h9 c)|(go_at_call 66;refine(d.O _ f.O).mono ?_;rintro e t ⟨B',rfl,h9,c⟩;have p:=au h9;have q:=au c;clear h9 c)|(go_at_call 67;refine(d.O _ f.O).mono ?_;rintro e t ⟨B',rfl,h9,c⟩;have p:=au h9;have q:=au c;clear h9 c)|(go_at_call 68;refine(d.O _ f.O).mono ?_;rintro e t ⟨B',rfl,h9,c⟩;have p:=au h9;have q:=au c;clear h9 c)|(go_at_call 69;refine(d.O _ f.O).mono ?_;rintro e t ⟨B',rfl,h9,c⟩;have p:=au h9;have q:=au c;clear h9 c)|(go_at_call 64;refine(d.O _ f.O).mono ?_;rintro e t ⟨B',rfl,h9,c⟩;have p:=au h9;have q:=au c;clear h9 c));go_ret;exact⟨B',rfl,p.O,T.O.1.trans q.O⟩
end
end
section
namespace M
structure lG(R:Room)(G:Int->ij)(n:Nat):Prop where
 inv:Inv R G n
 wf:Wf R
 back:R.returned.length<=n
def lG.more{R:Room}{G:Int->ij}{n m:Nat}(h:lG R G n)(k:n<=m):lG R G m:=⟨h.inv.more k,h.wf,aP h.back k⟩
def lG.act{R:Room}{G:Int->ij}{n:Nat}(h:lG R G n)(x:Act)(a:x.Ok)(b:(0<=x.s0/\x.s0<=4294967295)/\(0<=x.s1/\x.s1<=4294967295)/\0<=x.s2/\x.s2<=4294967295):lG (R.act x).1 (Ag R G x) (n+1):=
 ⟨h.inv.act x a,h.wf.act x a b,by have:(R.act x).1.returned.length<=R.returned.length+1:=Rg.act R x;have:=h.back;omega⟩
def lG.start(c:Ou)(a:1<=c.aG)(G:Int->ij):lG (.new c) G 0:=⟨Inv.start c a G,Wf.start c,Nat.zero_le _⟩
def lG.pick{R:Room}{G:Int->ij}{n:Nat}(h:lG R G n)(w:eK)(a:Bool):lG (R.pick w a).1 (uM R G w a) (n+1):=
 h.act ⟨1,0,0,0,[],w,a,0,0,0,0,0,0⟩ ⟨λ_ h=>(by cases h),dt,dt,dt⟩ dt
end M
variable {R:M.Room} {G:Int->M.ij} {n:Nat}
def Bs(h:M.lG R G n):np R where
 iJ:=h.inv.lu
 range:=h.wf.uf
 sub s x q r:=by
  have k:=h.wf.sub s x q r;have a:=h.wf.Pf _ (k 0 z z);exact⟨a.1,k⟩
def ta(h:M.lG R G n)(b:n<=1000):Hx R where
 tell:=Bs h
 kz s id q:=by
  obtain⟨a,x,_,c,_⟩:=h.inv.kz s id q;rw[<-h.inv.lu s,c];rfl
 held o st q y hy:=by
  obtain⟨a,d,_⟩:=((h.inv.held o st q).2 y hy).1;exact(List.getElem?_eq_some_iff.1 d).1
 back:=aP h.back b
 fresh s:=h.wf.vz s _ (aj _)
 Qt:=h.wf.st
 Qh:=h.wf.Pf
 eG s l q hr:=by
  cases hg:l.eG with
  |false=>rfl
  |true =>
   have e:=(h.inv.fo s l q).1.eG hg;unfold M.ids at e;simp at e;rw[e.2.2]at hr;simp at hr
def Ml(h:M.lG R G n)(o:M.bN):0<=(R.aQ o).getD 0/\(R.aQ o).getD 0<=4294967295:=by
 cases e:R.aQ o with
 |none=>simp
 |some v=>exact h.wf.I5 o v e
end
abbrev OG:List Value:=[ai false,J ar 0,J ar 0,J ar 0,J ar 0,J ar 0,J ar 0,ae I 0 0]
abbrev zr(x:Int):List Value:=[J V 1,J ar 0,J ar x,ae I 0 0,ae I 0 0]
abbrev Gp:List Value:=[J bI 0,J bI 0,ae I 0 0]
abbrev tT(x:Int):List Value:=[J V 2,ai false,J ar 0,J ar 0,J ar 0,J ar 0,J ar 0,J ar 0,ae I 0 0,J V 1,J ar 0,J ar x,ae I 0 0,ae I 0 0,J bI 0,J bI 0,ae I 0 0]
def CH(w:aw):aF af 317 #[cg OG.toArray] w λe w'=>e=av (ai true)/\aC w w':=by
 have a:aC w (w.alloc (.cells OG.toArray 284)):=(ao _ w).alloc (aj _) _;have b:=au a;clear a;go_enter func317,ntmps317;go_wp2_with fail;go_ret;exact⟨rfl,b.O⟩
def DZ(w:aw):aF af 315 #[cg Gp.toArray] w λe w'=>e=av (ai true)/\aC w w':=by
 have a:aC w (w.alloc (.cells Gp.toArray 286)):=(ao _ w).alloc (aj _) _;have b:=au a;clear a;go_enter func315,ntmps315;go_wp2_with fail;go_ret;exact⟨rfl,b.O⟩
def wi(x:Int)(w:aw):aF af 318 #[cg (zr x).toArray] w λe w'=>e=av (ai true)/\aC w w':=by
 have a:aC w (w.alloc (.cells (zr x).toArray 277)):=(ao _ w).alloc (aj _) _;have b:=au a;clear a;go_enter func318,ntmps318;go_wp2_with fail;go_ret;exact⟨rfl,b.O⟩
def DY(w:aw):aF af 321 #[ae I 0 0] w λe w'=>e=av (ae I 0 0)/\w'=w:=by
 go_enter func321,ntmps321;go_wp2_with fail;refine wp_loop_rounds 1 ?_;rw[rounds_succ];go_wp2_with fail;go_ret;exact⟨rfl,rfl⟩
def Au(x:Int)(w:aw):aF af 290 #[cg (tT x).toArray] w λe w'=>e=av (ai true)/\aC w w':=by
 have f:aC w (w.alloc (.cells (tT x).toArray 288)):=(ao _ w).alloc (aj _) _;have d:=au f;clear f;go_enter func290,ntmps290;go_upto_region 1 with fail;obtain⟨r1,h⟩:=dH w.heap.size;rw[<-h];refine aW (λX=>aK X r1 288 (tT x).toArray/\aC w X) ⟨aK.newAt _ _ _ _ h,d.O⟩ ?_;clear h d;rintro X ⟨b1,f⟩;have a:=au (λ(W:aw) (q:aK W r1 288 (tT x).toArray) (i:Nat) (v:Value) (l:(tT x)[i]? = Z v)=>(show W.cell? ⟨r1,i,I⟩=Z v from by have k:=q.cell i;simp only[iC]at k;rw[k,l]));have m:=a.O X b1 0 _ rfl;have n:=a.O X b1 1 _ rfl;have o:=a.O X b1 2 _ rfl;have p:=a.O X b1 3 _ rfl;have r:=a.O X b1 4 _ rfl;have s:=a.O X b1 5 _ rfl;have t:=a.O X b1 6 _ rfl;have u:=a.O X b1 7 _ rfl;have y:=a.O X b1 8 _ rfl;have d:=au f;have c:=au b1;clear f b1;go_wp2_with (first
  |(go_at_call 317;refine(CH _).mono ?_;rintro e w1 ⟨rfl,b1⟩;have i14:=a.O w1 (c.O.kept b1) 14 _ rfl;have i15:=a.O w1 (c.O.kept b1) 15 _ rfl;have i16:=a.O w1 (c.O.kept b1) 16 _ rfl;have b:=au b1;clear b1)
  |(go_at_call 315;refine(DZ _).mono ?_;rintro e w2 ⟨rfl,b2⟩;have j9:=a.O w2 ((c.O.kept b.O).kept b2) 9 _ rfl;have QQ:=a.O w2 ((c.O.kept b.O).kept b2) 10 _ rfl;have QP:=a.O w2 ((c.O.kept b.O).kept b2) 11 _ rfl;have QO:=a.O w2 ((c.O.kept b.O).kept b2) 12 _ rfl;have PB:=a.O w2 ((c.O.kept b.O).kept b2) 13 _ rfl;have g:=au b2;clear b2)
  |(go_at_call 318;refine(wi x _).mono ?_;rintro e w3 ⟨rfl,b3⟩;have j:=au b3;clear b3))
 go_ret;exact⟨rfl,((d.O.trans (b.O.mono d.O.size)).trans (g.O.mono (aP d.O.size b.O.size))).trans (j.O.mono (aP (aP d.O.size b.O.size) g.O.size))⟩
def MF(w:aw):aF af 322 #[J V 1] w λe w'=>e=av (aB #[J bI 206,J bI 1])/\w'=w:=by
 go_enter func322,ntmps322;go_wp2_with fail;refine ax (v:=aB #[J bI 206,J bI 1]) (by simp[aV,results322,go_sem]) rfl ⟨rfl,rfl⟩
structure FW(w W:aw)(r1 r2 r4:Nat)(x:Int)(bs:List Int):Prop where
 b1:aK W r1 277 (zr x).toArray
 b2:aK W r2 286 Gp.toArray
 wr:lM W r4 r4 bs
 fN:aC w W
 lt:w.heap.size<=r1/\r1<r2/\r2<r4
def FW.step{w W W':aw}{r1 r2 r4:Nat}{x:Int}{bs a:List Int}(h:FW w W r1 r2 r4 x bs)(q:lM W' r4 r4 a)(b:iQ r4 W W'):FW w W' r1 r2 r4 x a:=
 ⟨h.b1.below b (lE h.lt),h.b2.below b (lE h.lt),q,h.fN.trans (b.mono (lE h.lt)),h.lt⟩
def FW.c1{w W:aw}{r1 r2 r4:Nat}{x:Int}{bs:List Int}(h:FW w W r1 r2 r4 x bs)(i:Nat)(v:Value)(b:(zr x)[i]? = Z v):W.cell? ⟨r1,i,I⟩=Z v:=by
 have a:=h.b1.cell i;simp only[iC]at a;rw[a,b]
def Cv(x:Int)(hx:0<=x/\x<=4294967295)(w:aw):aF af 292 #[cg (zr x).toArray] w λe w'=>(∃A c,e=av (aB #[cg #[J bI 1,J bI 206,ae A 8 c],J V 0])/\TB w' A 8 (M.bK 4 0++M.bK 4 x)/\8<=c/\c<=maxLen/\(A=I->c=0))/\aC w w':=by
 have m:(M.bK 4 0++M.bK 4 x).length=8:=by rw[cG,cV,cV]
 have s:=au m;clear m;go_enter func292,ntmps292;go_upto_region 1 with fail;obtain⟨r1,t⟩:=dH w.heap.size;obtain⟨r2,u⟩:=dH (w.heap.size+1);rw[<-u,<-t];have K:aC w ((w.alloc (.cells (zr x).toArray 277)).alloc (.cells Gp.toArray 286)):=((ao _ w).alloc (aj _) _).alloc dt _;have g12:w.heap.size<=r1/\r1<r2:=z;refine aW (λX=>aK X r1 277 (zr x).toArray/\aK X r2 286 Gp.toArray/\aC w X) ⟨(aK.newAt _ _ _ _ t).alloc _,aK.newAt _ _ _ _ (by simp[u]),K⟩ ?_;clear t u K;rintro X ⟨b1,b2,fN⟩;have k:=au (λ(W:aw) (q:aK W r1 277 (zr x).toArray) (i:Nat) (v:Value) (hv:(zr x)[i]? = Z v)=>(show W.cell? ⟨r1,i,I⟩=Z v from by have L:=q.cell i;simp only[iC]at L;rw[L,hv]));have N:=k.O X b1 0 _ rfl;have y:=k.O X b1 1 _ rfl;have B:=k.O X b1 2 _ rfl;have P:=k.O X b1 3 _ rfl;have Q:=k.O X b1 4 _ rfl;obtain⟨n,g,d⟩:=bU b1 b2 fN;clear b1 b2 fN;go_upto_region 4 with(go_at_call 318;refine(wi x _).mono ?_;rintro e w3 ⟨rfl,b3⟩;have b:=au b3;clear b3)
 obtain⟨r4,C⟩:=dH w3.heap.size;rw[<-C];have o:FW w (w3.alloc (.cells #[ae I 0 0] 408)) r1 r2 r4 x []:=by
  refine⟨(n.O.kept b.O).alloc _,(g.O.kept b.O).alloc _,?_,(d.O.trans (b.O.mono d.O.size)).alloc (by have:=d.O.size;have:=b.O.size;omega) _,?_⟩
  ·rw[C];exact wZ w3
  ·have:=(g.O.kept b.O).lt;omega
 refine aW (λY=>FW w Y r1 r2 r4 x []) o ?_;clear C o N y B P Q n g d b k w3 X g12;intro Y f;have y:=f.c1 1 _ rfl;have B:=f.c1 2 _ rfl;have h:=au f;clear f;go_upto_region 6 with(first
  |(go_at_call 242;refine(kH r4 r4 [] 0 _ h.O.wr dt z).mono ?_;rintro e w5 ⟨rfl,R,b5⟩;have f5:=h.O.step R b5;have i2:=f5.c1 2 _ rfl;have j:=au f5;clear R b5 f5 h)
  |(go_at_call 242;refine(kH r4 r4 _ x _ j.O.wr (by simp[cV]) hx).mono ?_;rintro e w6 ⟨rfl,S,T⟩;have f6:=j.O.step S T;have a:=au f6;clear S T f6 j))
 have f:=a.O;have N:=f.c1 0 _ rfl;have P:=f.c1 3 _ rfl;have Q:=f.c1 4 _ rfl;clear y B i2 f;go_wp2_with fail;refine wp_loop_rounds 1 ?_;rw[rounds_succ];go_wp2_with (go_at_call 321;refine(DY _).mono ?_;rintro e w7 ⟨rfl,e7⟩;subst e7);refine wp_loop_rounds 1 ?_;rw[rounds_succ];go_wp2_with (first
  |(go_at_call 322;refine(MF _).mono ?_;rintro e w8 ⟨rfl,e8⟩;subst e8)
  |(go_at_call 244;refine(oX r4 r4 _ _ a.O.wr (by simp[cV])).mono ?_;rintro e w9 ⟨⟨A,c,rfl,l,h8,r,U⟩,D⟩;have f9:=a.O.b2.kept D;have m0:=f9.cell 0;have m1:=f9.cell 1;have m2:=f9.cell 2;have z0:=f9.frozen 0;have z1:=f9.frozen 1;have z2:=f9.frozen 2;simp at m0 m1 m2;have HT:=au l;have E:=au D;have HH:=au (dj h8 (dj r U));have HK:=au f9;clear l D h8 r U f9))
 have s0:=HK.O.bC 0 (J bI 1);have s1:=s0.bC 1 (J bI 206);have s2:=s1.bC 2 (ae A (pN (M.bK 4 0)+pN (M.bK 4 x)) c);have F:=s2.cell 0;have G:=s2.cell 1;have H:=s2.cell 2;have l:=((HT.O.bC HK.O aR 0 (J bI 1)).bC s0 aR 1 (J bI 206)).bC s1 aR 2 (ae A (pN (M.bK 4 0)+pN (M.bK 4 x)) c);have hb:=(((a.O.fN.trans (E.O.mono a.O.fN.size)).setCell (p:=⟨r2,0,I⟩) (by have:=a.O.lt;show _<=r2;omega) (J bI 1)).setCell (p:=⟨r2,1,I⟩) (by have:=a.O.lt;show _<=r2;omega) (J bI 206)).setCell (p:=⟨r2,2,I⟩) (by have:=a.O.lt;show _<=r2;omega) (ae A (pN (M.bK 4 0)+pN (M.bK 4 x)) c);simp at F G H;have hh:=HH.O;simp only[List.nil_append,s.O]at hh l;rw[cV,cV]at F G H l hb ⊢;exact ax (v:=aB #[cg #[J bI 1,J bI 206,ae A 8 c],J V 0]) (by simp[aV,results292,go_sem,F,G,H]) rfl ⟨⟨A,c,rfl,l,hh.1,hh.2.1,hh.2.2⟩,hb⟩
abbrev Jn(x:Int):List Int:=M.bK 4 0++M.bK 4 x
def vB(w:aw)(x:Int)(A:Option Addr)(c:Nat):Prop:=TB w A 8 (Jn x)/\8<=c/\c<=maxLen/\(A=I->c=0)
def Cw(x:Int)(E:0<=x/\x<=4294967295)(w:aw):aF af 258 #[cg (tT x).toArray] w λe w'=>(∃A c,e=av (aB #[cg #[J bI 1,J bI 206,ae A 8 c],J V 0])/\vB w' x A c)/\aC w w':=by
 go_enter func258,ntmps258;go_upto_region 1 with fail;obtain⟨r1,j⟩:=dH w.heap.size;obtain⟨r2,k⟩:=dH (w.heap.size+1);rw[<-k,<-j];have r:aC w ((w.alloc (.cells (tT x).toArray 288)).alloc (.cells Gp.toArray 286)):=((ao _ w).alloc (aj _) _).alloc dt _;have g12:w.heap.size<=r1/\r1<r2:=z;refine aW (λX=>aK X r1 288 (tT x).toArray/\aK X r2 286 Gp.toArray/\aC w X) ⟨(aK.newAt _ _ _ _ j).alloc _,aK.newAt _ _ _ _ (by simp[k]),r⟩ ?_;clear j k r;rintro X ⟨b1,b2,fN⟩;have a:=au (λ(W:aw) (q:aK W r1 288 (tT x).toArray) (i:Nat) (v:Value) (F:(tT x)[i]? = Z v)=>(show W.cell? ⟨r1,i,I⟩=Z v from by have s:=q.cell i;simp only[iC]at s;rw[s,F]));have S:=a.O X b1 0 _ rfl;have T:=a.O X b1 1 _ rfl;have U:=a.O X b1 2 _ rfl;have Y:=a.O X b1 3 _ rfl;have k4:=a.O X b1 4 _ rfl;have k5:=a.O X b1 5 _ rfl;have k6:=a.O X b1 6 _ rfl;have k7:=a.O X b1 7 _ rfl;have k8:=a.O X b1 8 _ rfl;have k9:=a.O X b1 9 _ rfl;have G:=a.O X b1 10 _ rfl;have H:=a.O X b1 11 _ rfl;have K:=a.O X b1 12 _ rfl;have L:=a.O X b1 13 _ rfl;have M:=a.O X b1 14 _ rfl;have N:=a.O X b1 15 _ rfl;have P:=a.O X b1 16 _ rfl;have b:=au b1;have l:=au b2;have d:=au fN;clear b1 b2 fN;go_wp2_with (first
  |(go_at_call 290;refine(Au x _).mono ?_;rintro e w3 ⟨rfl,b3⟩;have i0:=a.O w3 (b.O.kept b3) 0 _ rfl;have i9:=a.O w3 (b.O.kept b3) 9 _ rfl;have i10:=a.O w3 (b.O.kept b3) 10 _ rfl;have i11:=a.O w3 (b.O.kept b3) 11 _ rfl;have i12:=a.O w3 (b.O.kept b3) 12 _ rfl;have i13:=a.O w3 (b.O.kept b3) 13 _ rfl;have f:=au b3;clear b3)
  |(go_at_call 292;refine(Cv x E _).mono ?_;rintro e w9 ⟨⟨A,c,rfl,h,h8,g,t⟩,m⟩;have f9:=(l.O.kept f.O).kept m;have m0:=f9.cell 0;have m1:=f9.cell 1;have m2:=f9.cell 2;have z0:=f9.frozen 0;have z1:=f9.frozen 1;have z2:=f9.frozen 2;simp at m0 m1 m2;have Q:=au h;have n:=au m;have o:=au (dj h8 (dj g t));have u:=au f9;clear h m h8 g t f9))
 have s0:=u.O.bC 0 (J bI 1);have s1:=s0.bC 1 (J bI 206);have s2:=s1.bC 2 (ae A 8 c);have y:=s2.cell 0;have B:=s2.cell 1;have C:=s2.cell 2;have h:=((Q.O.bC u.O aR 0 (J bI 1)).bC s0 aR 1 (J bI 206)).bC s1 aR 2 (ae A 8 c);have D:=(d.O.trans (f.O.mono d.O.size));have R:=(((D.trans (n.O.mono D.size)).setCell (p:=⟨r2,0,I⟩) (by show _<=r2;omega) (J bI 1)).setCell (p:=⟨r2,1,I⟩) (by show _<=r2;omega) (J bI 206)).setCell (p:=⟨r2,2,I⟩) (by show _<=r2;omega) (ae A 8 c);simp at y B C;exact ax (v:=aB #[cg #[J bI 1,J bI 206,ae A 8 c],J V 0]) (by simp[aV,results258,go_sem,y,B,C]) rfl ⟨⟨A,c,rfl,h,o.O.1,o.O.2.1,o.O.2.2⟩,R⟩
def As(x:Int)(hx:0<=x/\x<=4294967295)(g:Nat)(w:aw)(hc:aK w g 288 (tT x).toArray) :
  aF af 208 #[ae (Z ⟨g,0,I⟩) 1 1] w λe w'=>(∃A c A2 c2,e=av (aB #[ae A2 1 c2,J V 0])/\w'.ownsRow w.heap.size 286 3 (ae A2 1 c2) 1 [J bI 1,J bI 206,ae A 8 c]/\vB w' x A c)/\aC w w':=by
 obtain⟨i0,hi,D,E,F⟩:=cY IC;obtain⟨HI,Tf,Tg,Ti⟩:=cA hi D E F;obtain⟨i1,hj,G,H,K⟩:=cY My;obtain⟨HJ,Tj,Tk,Tl,HW⟩:=gY hj G H K (λ(W:aw) (b:aC w W)=>hc.kept b);clear hi D E F hj G H K hc;have u:=au (show aC w w/\w.ownsRow w.heap.size 286 3 (ae I 0 0) 0 []/\w.ownsRow w.heap.size 29 1 (ae I 0 0) 0 [] from⟨ao _ _,⟨rfl,.inl ⟨rfl,rfl⟩⟩,⟨rfl,.inl ⟨rfl,rfl⟩⟩⟩);go_enter func208,ntmps208;go_wp2_with fail;go_loopw [4,5,12] (λa b i wr=>∃k:Nat,i=J V k/\aC w wr/\(k=0/\wr.ownsRow w.heap.size 286 3 a 0 []/\wr.ownsRow w.heap.size 29 1 b 0 []\/k=1/\∃A c,wr.ownsRow w.heap.size 286 3 a 1 [J bI 1,J bI 206,ae A 8 c]/\wr.ownsRow w.heap.size 29 1 b 1 [J V 0]/\vB wr x A c)) (λa b i _=>2-(bS i).toNat);case atStart=>exact⟨0,rfl,u.O.1,.inl ⟨rfl,u.O.2.1,u.O.2.2⟩⟩
 case round =>
  clear u;obtain⟨k,rfl,fN,⟨rfl,p,n⟩ | ⟨rfl,A,c,p,n,m⟩⟩:=hrel
  ·obtain⟨T,U,rfl⟩:=bA p;obtain⟨L,M,rfl⟩:=bA n;obtain⟨d,h,o⟩:=bU p n fN;clear p n fN;have HG:=au (HW.O wr o.O);go_upto_region 6 with(go_big_may;refine lI _ rfl (.tmp 14) 288 rfl g 0 288 (tT x).toArray rfl (tT x).toArray _ underlying288 qv HG.O (λj _=>by rw[cO]) ?_)
   obtain⟨r7,e7⟩:=dH wr.heap.size;rw[<-e7];have v:aC wr (wr.alloc (.cells (tT x).toArray 288)):=(ao _ _).alloc (aj _) _;refine aW (λY=>aK Y r7 288 (tT x).toArray/\Y.ownsRow w.heap.size 286 3 (ae T 0 U) 0 []/\Y.ownsRow w.heap.size 29 1 (ae L 0 M) 0 []/\aC w Y) ⟨aK.newAt _ _ _ _ e7,gI d.O v,gI h.O v,o.O.trans (v.mono o.O.size)⟩ ?_;clear e7 v d h o HG;rintro Y ⟨b7,p,n,fN⟩;obtain⟨HC,d,h,o⟩:=cA b7 p n fN;clear p n fN b7;go_upto_region 7 with(first|(go_big_may;refine lI _ rfl (.tmp 7) 288 rfl r7 0 288 (tT x).toArray rfl (tT x).toArray _ underlying288 qv HC.O (λj _=>by rw[cO]) ?_)|(go_at_call 258;refine(Cw x hx _).mono ?_;rintro e w2 ⟨⟨A,c,rfl,m⟩,b2⟩;have l:=au m;have C:=au b2;clear m b2))
   obtain⟨r8,e8⟩:=dH w2.heap.size;rw[<-e8];have v:aC w2 (w2.alloc (.cells #[J bI 1,J bI 206,ae A 8 c] 286)):=(ao _ _).alloc (aj _) _;have X:=C.O.trans (v.mono C.O.size);have y:∀W,aC w2 W->vB W x A c:=λW b=>⟨l.O.1.below b,l.O.2⟩;refine aW (λB=>aK B r8 286 #[J bI 1,J bI 206,ae A 8 c]/\B.ownsRow w.heap.size 286 3 (ae T 0 U) 0 []/\B.ownsRow w.heap.size 29 1 (ae L 0 M) 0 []/\vB B x A c/\aC w B) ⟨aK.newAt _ _ _ _ e8,gI d.O X,gI h.O X,y _ v,o.O.trans (X.mono o.O.size)⟩ ?_;clear e8 v X y l C d h o HC w2 Y;rintro B ⟨b8,p,n,m,fN⟩;have y0:=b8.cell 0;have y1:=b8.cell 1;have y2:=b8.cell 2;simp at y0 y1 y2;obtain⟨d,h,o,l⟩:=cA p n fN m;have hZ:=fN.size;clear p n fN m b8;go_upto_region 8 with(at_builtin;go_loud (refine dV _ rfl _ _ 373 rfl w.heap.size 286 i0 (cg #[J bI 0,J bI 0,ae I 0 0]) 3 32 underlying373 HI.O Tf.O Tg.O Ti.O rfl aR _ _ _ rfl (eH d.O _) ⟨B.heap.size,0,I⟩ 1 1 [J bI 1,J bI 206,ae A 8 c] rfl rfl (fB B 286 _) tk ui z dZ ?_;intro v5 w5 f g5 q))
   have N:=pn (eH h.O _) (eH d.O _) aR g5;have s:vB w5 x A c:=⟨(l.O.1.below ((ao _ _).alloc (aj _) _)).typed (eT g5) (ib (eH d.O _)) aR,l.O.2⟩;have t:=tf (o.O.alloc o.O.size _) (eH d.O _) (aj _) g5;obtain⟨A9,c9,rfl⟩:=bA f;have f:w5.ownsRow w.heap.size 286 3 (ae A9 1 c9) 1 [J bI 1,J bI 206,ae A 8 c]:=by simpa using f
   refine aW (λW=>W.ownsRow w.heap.size 286 3 (ae A9 1 c9) 1 [J bI 1,J bI 206,ae A 8 c]/\W.ownsRow w.heap.size 29 1 (ae L 0 M) 0 []/\vB W x A c/\aC w W) ⟨f,N,s,t⟩ ?_;clear f N s t g5 q d h o l hZ y0 y1 y2;rintro W ⟨p,n,m,fN⟩;obtain⟨d,h,o,l⟩:=cA p n fN m;have hZ:=fN.size;clear p n fN m;go_upto_region 9 with(at_builtin;go_loud (refine dV _ rfl _ _ 391 rfl w.heap.size 29 i1 (J V 0) 1 8 underlying391 HJ.O Tj.O Tk.O Tl.O rfl aR _ _ _ rfl (eH h.O _) ⟨W.heap.size,0,I⟩ 1 1 [J V 0] rfl rfl (fB W 29 _) tk ui z dZ ?_;intro v5 w5 f g5 q))
   have P:=pn (eH d.O _) (eH h.O _) aR g5;have s:vB w5 x A c:=⟨(l.O.1.below ((ao _ _).alloc (aj _) _)).typed (eT g5) (ib (eH h.O _)) aR,l.O.2⟩;have t:=tf (o.O.alloc o.O.size _) (eH h.O _) (aj _) g5;have f:w5.ownsRow w.heap.size 29 1 v5 1 [J V 0]:=by simpa using f
   obtain⟨Q,R,Tm,Tn⟩:=cA P f t s;clear P f t s g5 q d h o l;go_wp2_with fail;go_roundw;case rel=>exact⟨1,by go_num,Tm.O,.inr ⟨rfl,A,c,Q.O,R.O,Tn.O⟩⟩
   case measure=>simp[bS]
  ·obtain⟨T,U,rfl⟩:=bA p;obtain⟨L,M,rfl⟩:=bA n;have S:=BC L 1 M [0] wr rfl (by
    intro _
    obtain⟨r,e,To,_⟩:=xn (k:=0) n (x:=J V 0) rfl
    refine⟨r,e,λi hi=>?_⟩
    have:i=0:=z
    subst this
    exact To) (uO n).1 (uO n).2
   obtain⟨Tp,d,o,l⟩:=cA S p fN m;clear S p n fN m;go_wp2_with (go_at_call 227;refine Tp.O.mono ?_;rintro e w2 ⟨rfl,hw⟩;have Tq:=hw.symm;subst Tq);refine ax (ew rfl _ _ _) rfl ?_;exact⟨⟨A,c,T,U,rfl,d.O,l.O⟩,o.O⟩
def Ai(w w':aw):Prop:=∀b cs,aK w b 286 cs->aK w' b 286 cs
def Ai.of{w w':aw}(b:aC w w'):Ai w w':=λi cs h=>h.kept b
def Ai.trans{a b c:aw}(h:Ai a b)(k:Ai b c):Ai a c:=λi cs q=>k i cs (h i cs q)
def KP(g B:Nat)(xs o:List Int)(A:Option Addr)(n c:Nat)(w:aw)(h:lM w B g xs)(ht:TB w A n o)(F:A=I->c=0)(X:xs.length<=1000000)(hn:n<=1000000) :
  aF af 243 #[aq (Z ⟨g,0,I⟩),ae A n c] w λe w'=>e=av (aB #[])/\lM w' B g (xs++o)/\iQ B w w'/\Ai w w':=by
 obtain⟨i0,hi,r,s,t⟩:=cY Tryz.zL;obtain⟨Y,G,H,K⟩:=cA hi r s t;clear hi r s t;obtain⟨f,v,i,own,hw⟩:=h;have u:=au (λ(b:Nat) (cs:Array Value) (h:aK w b 286 cs)=>(aK.jf h i aR:b≠g));have E:=ht.len;have c0:=i.cell 0;have f0:=i.frozen 0;simp at c0;have sz:B<=w.heap.size:=aP f (lN i.lt);have y:∀x∈xs++o,(Lit.int bI x).wf=true:=λx X=>by
  rcases List.mem_append.1 X with q|q
  ·exact hw x q
  ·exact ht.wf x q
 obtain⟨HW,HL⟩:=bu y E;clear y hw;cases A with
 |none =>
  have L:n=0:=by
   rcases Nat.eq_zero_or_pos n with q|q
   ·exact q
   ·obtain⟨b,off,e,_⟩:=ht.cell q;cases e
  have M:=F rfl;subst L;subst M;have hy:o=[]:=List.length_eq_zero_iff.1 E;subst hy;obtain⟨p,c1,rfl⟩:=bA own;have m:Z g≠(ae p xs.length c1).ownBlock:=ej own i aR;have ky:=kJ own m 0 (ae p xs.length c1);have B2:=i.bC 0 (ae p xs.length c1);obtain⟨N,HO,P⟩:=bU B2 ky own;clear i B2 ky own ht F E;go_enter func243,ntmps243;go_wp2_with (at_builtin;go_loud (refine wpList_append_own_none rfl _ _ 38 rfl B 5 i0 1 underlying38 Y.O _ _ _ rfl P.O rfl ?_));first|refine dq (bT results243 _ _ _) rfl ?_|refine ax (bT results243 _ _ _) rfl ?_
  refine⟨rfl,⟨f,ae p xs.length c1,?_,?_,HW.O⟩,(ao _ _).setCell f _,λb cs h=>h.dS (u.O b cs h) _⟩
  ·simpa using N.O
  ·simpa using HO.O
 |some a =>
  have NW:=au ht.iX;obtain⟨p,c1,rfl⟩:=bA own;have m:Z g≠(ae p xs.length c1).ownBlock:=ej own i aR;clear ht F E;have N:=au i;clear i;go_enter func243,ntmps243;go_wp2_with (at_builtin;go_loud (refine wpList_append_own _ rfl _ _ 38 rfl B 5 i0 (J bI 0) 1 1 underlying38 Y.O G.O H.O K.O rfl aR _ _ _ rfl own a n c (o.map (J bI)) rfl (by simp[HL.O]) NW.O uQ ?c3 ?c4 ?c5 ?_));case c3=>unfold maxLen;omega
  case c4=>omega
  case c5=>omega
  intro v5 w5 k g5 _;have C:=N.O.grown g5 m;have Q:=au (λ(b:Nat) (cs:Array Value) (h:aK w b 286 cs)=>(h.grown g5 (ej own h aR):aK w5 b 286 cs));have R:iQ B w w5:=(ao _ _).grown g5 sz (λj hj=>(own.lt j hj).1);have d:w5.ownsRow B 5 1 v5 (xs.length+n) ((xs++o).map (J bI)):=by
   rw[List.map_append];exact k
  have c5:=C.cell 0;have f5:=C.frozen 0;simp at c5;obtain⟨S,T,rfl⟩:=bA d;have D:=ej d C aR;have B6:=C.bC 0 (ae S (xs.length+n) T);have l:=kJ d D 0 (ae S (xs.length+n) T);obtain⟨U,W⟩:=bu B6 l;clear own k g5 C B6 c0 f0 d l D;go_wp2_with fail;first|refine dq (bT results243 _ _ _) rfl ?_|refine ax (bT results243 _ _ _) rfl ?_
  exact⟨rfl,⟨f,ae S (xs.length+n) T,by simpa using U.O,by rw[cG,HL.O];exact W.O,HW.O⟩,R.setCell f _,λb cs h=>(Q.O b cs h).dS (u.O b cs h) _⟩
def AS(g B:Nat)(xs:List Int)(n:Int)(s:Nat)(w:aw)(h:lM w B g xs)(p:xs.length<=900000)(h0:0<=n)(h1:n<=4294967295)(k:1<=s/\s<=4) :
  aF af 278 #[aq (Z ⟨g,0,I⟩),J ar n,J V s] w λe w'=>e=av (aB #[])/\lM w' B g (xs++M.bK s n)/\iQ B w w'/\Ai w w':=by
 have d:=au h;have l:B<=w.heap.size:=aP h.1 (lN h.lt);clear h;go_enter func278,ntmps278;go_wp2_with fail;refine(BJ n s w h0 h1 k).mono ?_;rintro e w1 ⟨⟨g1,rfl,f,m⟩,b1⟩;obtain⟨a,o⟩:=bu (d.O.below b1) f;clear f d;go_wp2_with fail;refine(KP g B xs (M.bK s n) _ s s w1 a.O o.O (λe=>by cases e) z z).mono ?_;rintro e w2 ⟨rfl,i,b2,j⟩;obtain⟨b,c⟩:=bu i j;clear i j;go_wp2_with fail;first|refine dq (bT results278 _ _ _) rfl ?_|refine ax (bT results278 _ _ _) rfl ?_
 exact⟨rfl,b.O,(b1.mono l).trans b2,(Ai.of b1).trans c.O⟩
def Ih(g B:Nat)(xs:List Int)(n:Int)(w:aw)(h:lM w B g xs)(f:xs.length<=900000)(h0:0<=n/\n<=255) :
  aF af 240 #[aq (Z ⟨g,0,I⟩),J bI n] w λe w'=>e=av (aB #[])/\lM w' B g (xs++M.bK 1 n)/\iQ B w w'/\Ai w w':=by
 have i:=au h;clear h;obtain⟨h0,h1⟩:=h0;go_enter func240,ntmps240;go_wp2_with fail;refine(AS g B xs n 1 w i.O f h0 z z).mono ?_;rintro e w1 ⟨rfl,c,b1,d⟩;obtain⟨a,b⟩:=bu c d;clear c d;go_wp2_with fail;first|refine dq (bT results240 _ _ _) rfl ?_|refine ax (bT results240 _ _ _) rfl ?_
 exact⟨rfl,a.O,b1,b.O⟩
def KN(g B:Nat)(xs:List Int)(n:Int)(w:aw)(h:lM w B g xs)(f:xs.length<=900000)(h0:0<=n/\n<=65535) :
  aF af 241 #[aq (Z ⟨g,0,I⟩),J aN n] w λe w'=>e=av (aB #[])/\lM w' B g (xs++M.bK 2 n)/\iQ B w w'/\Ai w w':=by
 have i:=au h;clear h;obtain⟨h0,h1⟩:=h0;go_enter func241,ntmps241;go_wp2_with fail;refine(AS g B xs n 2 w i.O f h0 z z).mono ?_;rintro e w1 ⟨rfl,c,b1,d⟩;obtain⟨a,b⟩:=bu c d;clear c d;go_wp2_with fail;first|refine dq (bT results241 _ _ _) rfl ?_|refine ax (bT results241 _ _ _) rfl ?_
 exact⟨rfl,a.O,b1,b.O⟩
def Lt(x:Int):(Jn x).length=8:=by rw[cG,cV,cV]
def Ge(x:Int):M.Chunk.right ⟨1,206,Jn x⟩=true:=by
 unfold M.Chunk.right;simp[cV]
abbrev wj(x:Int):List Int:=[]++M.bK 1 129++M.bK 1 206++M.bK 2 2++Jn x
def DJ(x:Int)(base:Nat)(A A2:Option Addr)(c c2:Nat)(w:aw)(own:w.ownsRow base 286 3 (ae A2 1 c2) 1 [J bI 1,J bI 206,ae A 8 c])(h:vB w x A c) :
  aF af 209 #[ae A2 1 c2] w λe w'=>(∃E:Sl,e=av (aB #[ae E.a E.n E.c,J V 0])/\E.B w' (wj x)/\E.n<=400)/\aC w w':=by
 have F:=own.lt;obtain⟨r,cap,U,Tp,g⟩:=jZ (q:=[[J bI 1,J bI 206,ae A 8 c]]) (by simpa using own) (by intro d hd;simp at hd;subst hd;rfl) z;injection U with U e2 e3
 subst U e3;have hr:r<w.heap.size:=(F r rfl).2;have s:=g 0 _ rfl 0 z;have u:=g 0 _ rfl 1 z;have v:=g 0 _ rfl 2 z;simp at s u v;have hq:∀W,aC w W->W.cell? ⟨r,0,I⟩=Z (J bI 1)/\W.cell? ⟨r,1,I⟩=Z (J bI 206)/\W.cell? ⟨r,2,I⟩=Z (ae A 8 c)/\vB W x A c:=λW b =>
  ⟨(b.cell (p:=⟨r,0,I⟩) hr).trans s,(b.cell (p:=⟨r,1,I⟩) hr).trans u,(b.cell (p:=⟨r,2,I⟩) hr).trans v,h.1.below b,h.2⟩
 obtain⟨X,Tf,G⟩:=bU hq h (ao w.heap.size w);clear s u v hq g own h F;go_enter func209,ntmps209;go_wp2_with fail;go_loopw [4,12] (λt i wr=>∃k:Nat,i=J V k/\aC w wr/\(k=0/\t=J V 0\/k=1/\t=J V 12)) (λt i _=>2-(bS i).toNat);case atStart=>exact⟨0,rfl,G.O,.inl ⟨rfl,rfl⟩⟩
 case round =>
  clear G;obtain⟨k,rfl,fN,⟨rfl,rfl⟩ | ⟨rfl,rfl⟩⟩:=hrel
  ·obtain⟨s,u,v,h⟩:=X.O wr fN;have f:=au fN;clear fN h;go_upto_region 5 with fail;obtain⟨r6,e6⟩:=dH wr.heap.size;rw[<-e6];have H:aC w (wr.alloc (.cells #[J bI 1,J bI 206,ae A 8 c] 286)):=f.O.alloc f.O.size _;refine aW (λY=>aK Y r6 286 #[J bI 1,J bI 206,ae A 8 c]/\aC w Y) ⟨aK.newAt _ _ _ _ e6,H⟩ ?_;clear e6 H f s u v;rintro Y ⟨m,fN⟩;have y0:=m.cell 0;have y1:=m.cell 1;have R:=m.cell 2;simp at y0 y1 R;have y:=rj 1 206 A 8 c (Jn x) Y (Lt x) z;rw[Ge]at y;obtain⟨Tg,f,K⟩:=bU y fN m;clear y fN m;go_wp2_with (go_at_call 259;refine Tg.O.mono ?_;rintro e w3 ⟨rfl,b3⟩;have j2:=aM b3 R;have Ti:=au b3;clear b3);go_roundw;case rel=>exact⟨1,by go_num,f.O.trans (Ti.O.mono f.O.size),.inr ⟨rfl,rfl⟩⟩
   case measure=>simp[bS]
  ·have f:=au fN;clear fN;go_upto_region 12 with fail;obtain⟨r7,e7⟩:=dH wr.heap.size;rw[<-e7];have H:aC w (wr.alloc (.cells #[ae I 0 0] 408)):=f.O.alloc f.O.size _;have g7:w.heap.size<=r7:=by have:=f.O.size;omega
   refine aW (λY=>lM Y r7 r7 []/\aC w Y) ⟨by rw[e7];exact wZ wr,H⟩ ?_;clear e7 H f;rintro Y ⟨hw,fN⟩;have HI:=au (dj hw fN);clear hw fN;go_wp2_with fail;go_loopw [30] (λi wr=>∃k:Nat,i=J V k/\aC w wr/\(k=0/\lM wr r7 r7 []\/k=1/\lM wr r7 r7 (wj x))) (λi _=>2-(bS i).toNat);case atStart=>exact⟨0,rfl,HI.O.2,.inl ⟨rfl,HI.O.1⟩⟩
   case round =>
    clear HI;obtain⟨k,rfl,fN,⟨rfl,hw⟩ | ⟨rfl,hw⟩⟩:=hrel
    ·obtain⟨s,u,v,h⟩:=X.O wr fN;have f:=au fN;have l:=au hw;clear fN h hw;go_upto_region 15 with fail;obtain⟨r9,e9⟩:=dH wr.heap.size;rw[<-e9];have C:aC wr (wr.alloc (.cells #[J bI 1,J bI 206,ae A 8 c] 286)):=(ao _ _).alloc (aj _) _;refine aW (λS=>aK S r9 286 #[J bI 1,J bI 206,ae A 8 c]/\lM S r7 r7 []/\aC w S) ⟨aK.newAt _ _ _ _ e9,l.O.below C,f.O.trans (C.mono f.O.size)⟩ ?_;clear e9 C f l s u v;rintro S ⟨o,hw,fN⟩;have y0:=o.cell 0;have y1:=o.cell 1;have R:=o.cell 2;simp at y0 y1 R;have f:=au fN;have D:=au o;have L:=au hw;clear fN o hw;go_wp2_with (first
      |(go_at_call 240;refine(Ih r7 r7 [] 129 _ L.O dt z).mono ?_;rintro e w5 ⟨rfl,q5,b5,k5⟩;have j:=k5 _ _ D.O;have n1:=j.cell 1;simp at n1;have M:=au q5;have Tj:=au (f.O.trans (b5.mono g7));have Tk:=au j;clear q5 b5 k5 j L)
      |(go_at_call 240;refine(Ih r7 r7 _ 206 _ M.O (by simp[cV]) z).mono ?_;rintro e w6 ⟨rfl,q6,m,k6⟩;have j:=k6 _ _ Tk.O;have n2:=j.cell 2;simp at n2;have Tl:=au q6;have K:=au (Tj.O.trans (m.mono g7));have Tm:=au j;clear q6 m k6 j M)
      |(go_at_call 241;refine(KN r7 r7 _ 2 _ Tl.O (by simp[cV]) z).mono ?_;rintro e w7 ⟨rfl,q7,b7,k7⟩;have j:=k7 _ _ Tm.O;have m2:=j.cell 2;simp at m2;have Tn:=au q7;have N:=au (K.O.trans (b7.mono g7));clear q7 b7 k7 j)
      |(go_at_call 243;refine(KP r7 r7 _ (Jn x) A 8 c _ Tn.O (X.O _ N.O).2.2.2.1 Tf.O.2.2.2 (by simp[cV]) z).mono ?_;rintro e w8 ⟨rfl,q8,b8,k8⟩;have P:=au q8;have Q:=au (N.O.trans (b8.mono g7));clear q8 b8 k8))
     go_roundw;case rel=>first|exact⟨1,by go_num,Q.O,.inr ⟨rfl,P.O⟩⟩|(refine⟨_,_,_,_,_,_,_,_,_,_,_,_,_,_,_,_,_,_,_,_,_,_,⟨1,?_,Q.O,.inr ⟨rfl,P.O⟩⟩,rfl⟩;go_num)
     case measure=>simp[bS]
    ·obtain⟨f,l⟩:=bu fN hw;clear fN hw;have hl:(wj x).length=12:=by simp[cV]
     have hb:=oX r7 r7 (wj x) wr l.O (by rw[hl];omega);rw[hl]at hb;have To:=au hb;clear hb hl;go_wp2_with (go_at_call 244;refine To.O.mono ?_;rintro e w9 ⟨⟨A',c',rfl,T,h1,h2,h3⟩,o⟩;have HT:=au (⟨T,h1,h2,h3⟩:Sl.B w9 ⟨A',12,c'⟩ (wj x));have D:=au o;clear T h1 h2 h3 o);refine ax (ew rfl _ _ _) rfl ?_;exact⟨⟨⟨A',12,c'⟩,rfl,HT.O,by show 12<=400;omega⟩,f.O.trans (D.O.mono f.O.size)⟩
def Cx(x:Int)(l:0<=x/\x<=4294967295)(g:Nat)(w:aw)(j:aK w g 288 (tT x).toArray) :
  aF af 143 #[ae (Z ⟨g,0,I⟩) 1 1] w λe w'=>(∃b:Sl,e=av (aB #[ae b.a b.n b.c,J V 0])/\b.B w' (wj x)/\b.n<=400)/\aC w w':=by
 have m:=au (As x l g w j);clear j;go_enter func143,ntmps143;go_wp2_with (first
  |(go_at_call 208;refine m.O.mono ?_;rintro e w1 ⟨⟨A,c,o,c2,rfl,own,d⟩,b1⟩;have p:=au own;have h:=au d;have f:=au b1;clear own d b1)
  |(go_at_call 209;refine(DJ x _ A o c c2 _ p.O h.O).mono ?_;rintro e w2 ⟨⟨b,rfl,k,h4⟩,b2⟩;have HS:=au k;have q:=au h4;have i:=au b2;clear k h4 b2))
 refine ax (ew rfl _ _ _) rfl ?_;exact⟨⟨b,rfl,HS.O,q.O⟩,f.O.trans (i.O.mono f.O.size)⟩
section
theorem Mv:(af.info? 94).map (λi=>(i.zero,i.size,i.bytes))=Z (Z (cg #[J V 0,J V 0,J V 0,ae I 0 0]),4,48):=cC
section
variable {B:RB} {R:M.Room} {N:Nat} {w w':aw} (h:aL w B R N)
include h
theorem aL.vr{b:Value}{a:M.Request}{q:List (List Value)}(f:Fr (λi=>B.rv.ownBlock=Z i\/i=B.g) w w')(own:w'.ownsRow 0 94 4 b (R.cj.length+1) q.flatten)(fit:Fit (tm w') (R.cj++[a]) q)
  (e:aK w' B.g 61 ((oS B R).setIfInBounds 15 b)) (c:∀j,b.ownBlock=Z j->B.rv.ownBlock=Z j\/w.heap.size<=j) :
  aL w' { B with rv:=b } { R with cj:=R.cj++[a] } (N+1)/\fK w w' B { B with rv:=b }:=by
 have hm:=h.mono (cZ N);refine hm.IW (λY=>Y=.aG\/Y=.cj) .cj (f.mono λi _ q=>?_) ?_ rfl ?_ ?_ { hm.et with cj:=by have:=h.et.cj;simp;omega }
 ·rcases q with q|q
  ·exact⟨.cj,.inr rfl,q⟩
  ·exact⟨.aG,.inl rfl,q⟩
 ·rintro Y (rfl|rfl)
  ·exact e
  ·exact⟨q,by simpa using own,fit⟩
 ·intro Y d k;cases Y with
  |aG=>exact absurd (.inl rfl) d
  |cj=>exact absurd (.inr rfl) d
  |_=>exact k
 ·intro Y i hi;cases Y with
  |cj=>exact(c i hi).imp id (λq=>⟨rfl,q⟩)
  |_=>exact .inl hi
theorem Co(o:M.bN)(ho:Gi o)(hx:0<=(R.aQ o).getD 0/\(R.aQ o).getD 0<=4294967295)(hN:N<900000) :
  aF af 84 #[aq (Z ⟨B.g,0,I⟩),cg #[J V o.1,J V o.2]] w (kk B w (aB #[]) { R with cj:=R.cj++[⟨o,R.cJ,M.tU ((R.aQ o).getD 0)⟩] } (N+1)):=by
 have F:=λW (hW:aL W B R N)=>FJ B.t R.cW R.aQ R.bh N W (hW.part .table) o ho;obtain⟨x,Tl⟩:=dH ((R.aQ o).getD 0);obtain⟨ok,Ts⟩:=dH ((R.aQ o).isSome);rw[<-Tl]at hx ⊢;rw[<-Tl,<-Ts]at F;obtain⟨Ti,H0⟩:=bu F h;have Tt:=h.lt;clear F h Tl Ts;go_enter func84,ntmps84;go_upto_region 1 with fail;obtain⟨U,e3⟩:=dH w.heap.size;rw[<-e3];have al:aC w (w.alloc (.cells #[J V o.1,J V o.2] 91)):=(ao _ w).alloc (aj _) _;have Tu:∀i,B.all i->i<U:=λi hi=>by have:=Tt i hi;omega
 have g3:w.heap.size<=U:=z;refine aW (λX=>aK X U 91 #[J V o.1,J V o.2]/\aL X B R N/\fK w X B B) ⟨aK.newAt _ _ _ _ e3,H0.O.below al,fK.fN B al⟩ ?_;clear al e3 H0 Tt;rintro X ⟨b3,h,hS⟩;have k0:=b3.cell 0;have k1:=b3.cell 1;have Tv:=h.cw.cell 11;simp at k0 k1 Tv;obtain⟨HD,H,HS,y,Tw⟩:=gY (h.below (eW (ao X.drew.heap.size X.drew))) h hS b3 Tu;clear h hS b3 Tu;go_cut [4] (λv wc=>v=J ar x/\aC X wc);case first =>
  go_region_with (go_at_call 142;refine(Ti.O _ HD.O).mono ?_;rintro e w4 ⟨rfl,b4⟩;have TH:=au b4;clear b4);all_goals
   go_wp2_with fail;go_meet;exact⟨rfl,eW TH.O⟩
 case rest =>
  obtain⟨rfl,bx⟩:=hcut;have Tm:=au bx;clear bx k0 k1 Tv HD Ti;go_upto_region 3 with fail;obtain⟨r6,e6⟩:=dH wc.heap.size;rw[<-e6];have al:aC X (wc.alloc (.cells (zr x).toArray 277)):=Tm.O.alloc Tm.O.size _;refine aW (λY=>aK Y r6 277 (zr x).toArray/\aK Y U 91 #[J V o.1,J V o.2]/\aL Y B R N/\fK w Y B B) ⟨aK.newAt _ _ _ _ e6,y.O.kept al,H.O.below al,HS.O.trans (fK.fN B al)⟩ ?_;clear al e6 Tm H HS y;rintro Y ⟨b6,b3,h,hS⟩;have y0:=b6.cell 0;have y1:=b6.cell 1;have y2:=b6.cell 2;have y3:=b6.cell 3;have y4:=b6.cell 4;simp at y0 y1 y2 y3 y4;obtain⟨H,HS,y⟩:=bU h hS b3;clear b6 b3 h hS;go_upto_region 4 with(go_at_call 143;refine(Cx x hx _ _ (aK.new Y 288 (tT x).toArray)).mono ?_;rintro e f ⟨⟨b,rfl,hs,h4⟩,b9⟩;have G:=au hs;have H4:=au h4;have d:=au b9;clear hs h4 b9)
  have bb:aC Y f:=((ao Y.heap.size Y).alloc (aj _) _).trans (d.O.mono dt);have HZ:=au (show aK f U 91 #[J V o.1,J V o.2]/\aL f B R N/\fK w f B B/\b.B f (wj x) from⟨y.O.kept bb,H.O.below bb,HS.O.trans (fK.fN B bb),G.O⟩);clear H HS y G d bb y0 y1 y2 y3 y4;obtain⟨i0,hi,Tx,Ty,Tz⟩:=cY Mv;obtain⟨HI,TA,TC,TD⟩:=cA hi Tx Ty Tz;clear hi Tx Ty Tz;obtain⟨b3,h,hS,TE⟩:=HZ.O;obtain⟨qp,own,fit⟩:=(h.part .cj:∃q,f.ownsRow 0 94 4 B.rv R.cj.length q.flatten/\Fit (tm f) R.cj q);obtain⟨C,m14,Tn⟩:=bA own;have c9:=h.cw.cell 9;have Tf:=h.cw.cell 15;have f15:=h.cw.frozen 15;simp at c9 Tf;rw[Tn]at Tf;have TO:=h.et.cj;have TI:¬(B.rv.ownBlock=Z U\/U=B.g):=by
   rintro(q|q)
   ·have:=Tw.O U ⟨.cj,q⟩;omega
   ·have:=Tw.O U ⟨.aG,q⟩;omega
  obtain⟨y,HR,HS,G,HO,HF,L⟩:=lV b3 h hS TE own fit Tn;clear b3 h hS TE own fit Tn HZ;refine fC (S:=λW=>Fr (λi=>B.rv.ownBlock=Z i\/i=B.g) f.drew W/\W.cell? ⟨B.g,9,I⟩=Z (J V R.cJ)) cC (⟨Fr.refl _ _,c9⟩) (λA=>?_);refine fS 0 (aq (Z ⟨B.g,0,I⟩)) rfl A ?_;try simp only[aA,jY,jX,jW]
  refine fS 1 (aq (Z ⟨B.g,0,I⟩)) rfl A ?_;try simp only[aA,jY,jX,jW]
  refine fS 2 (aq (Z ⟨B.g,0,I⟩)) rfl A ?_;try simp only[aA,jY,jX,jW]
  refine fS 3 (aq (Z ⟨B.g,15,I⟩)) rfl A ?_;try simp only[aA,jY,jX,jW]
  refine Fj 5 _ rfl (eS jP 91 (.tmp 3) rfl U 0 rfl (#[J V o.1,J V o.2]:Array Value).toList _ (λW hW j v hv=>by rw[cO,(y.O.drew.dW hW.1.u TI).cell];simpa using hv) underlying91 rfl cC) A ?_;try simp only[aA,jY,jX,jW]
  refine fS 6 (aq (Z ⟨B.g,0,I⟩)) rfl A ?_;try simp only[aA,jY,jX,jW]
  refine fS 7 (aq (Z ⟨B.g,0,I⟩)) rfl A ?_;try simp only[aA,jY,jX,jW]
  refine fS 8 (aq (Z ⟨B.g,9,I⟩)) rfl A ?_;try simp only[aA,jY,jX,jW]
  refine fS 9 (J V R.cJ) rfl A ?_ (hy:=λW hW=>by have q:=hW.2;go_simp);try simp only[aA,jY,jX,jW]
  refine fS 10 (ae b.a b.n b.c) rfl A ?_;try simp only[aA,jY,jX,jW]
  refine fS 11 (cg #[J V o.1,J V o.2,J V R.cJ,ae b.a b.n b.c]) rfl A ?_;try simp only[aA,jY,jX,jW]
  have Tj:∀D∈(#[J V o.1,J V o.2,J V R.cJ,ae b.a b.n b.c]:Array Value).toList,D.oneCell'=true:=by intro u hu;simp at hu;repeat (first|(subst hu;rfl)|(rcases hu with rfl|hu;rfl))
  have TF:f.drew.cell? ⟨B.g,15,I⟩=Z (ae C R.cj.length m14):=Tf;have TM:(f.drew.alloc (.cells #[J V o.1,J V o.2,J V R.cJ,ae b.a b.n b.c] 94)).cell? ⟨B.g,15,I⟩=Z (ae C R.cj.length m14):=ea TF;have TN:(f.alloc (.cells #[J V o.1,J V o.2,J V R.cJ,ae b.a b.n b.c] 94)).drew.cell? ⟨B.g,15,I⟩=Z (ae C R.cj.length m14):=cE (ea Tf);have TG:(f.drew.alloc (.cells #[J V o.1,J V o.2,J V R.cJ,ae b.a b.n b.c] 94)).ownsRow 0 94 4 (ae C R.cj.length m14) R.cj.length qp.flatten:=eH (gI (by rw[<-L.O];exact HO.O) (eW (ao _ _))) _;obtain⟨Tk,E⟩:=bu Tj TG;clear Tj TG;refine cH (rs:=[4,12]) cC dt ?_;refine bH rfl (λK l=>?_) ?_
  ·skip;rw[if_pos jP];go_simp;refine l.out _ _ (A) (λTg=>?_);clear l K;try simp only[aA,jY,jX,jW]
   refine cH (rs:=[12]) cC dt ?_;refine bH rfl (λK l=>?_) cy;rw[if_pos jP];go_simp;refine l.out _ _ (⟨Tg.1.alloc _,ea Tg.2⟩) (λTJ=>?_);clear l K;try simp only[aA,jY,jX,jW]
   refine cH (rs:=[13]) cC dt ?_;refine bH rfl (λK l=>?_) cy;refine lT _ jP (.tmp 31) (.tmp 39) 57 jP 0 94 i0 _ 4 48 underlying57 HI.O TA.O TC.O TD.O rfl aR (ae C R.cj.length m14) R.cj.length qp.flatten jP E.O ⟨f.drew.heap.size,0,I⟩ 1 1 (#[J V o.1,J V o.2,J V R.cJ,ae b.a b.n b.c]:Array Value).toList jP rfl (fB f.drew 94 _) Tk.O ui z dt ?_;intro v5 w5 m g5 p;obtain⟨A6,c6,rfl⟩:=bA m;have s:aK w5 B.g 61 (oS B R):=mQ E.O g5 aR _ _ ((HR.O.cw.drew).alloc _);have c5:=s.cell 15;have f5:=s.frozen 15;have d9:=s.cell 9;simp at c5 d9;have f9:Fr (λi=>B.rv.ownBlock=Z i\/i=B.g) f.drew w5:=((Fr.refl _ f.drew).alloc _).step (Fr.nY (eT g5) (ib E.O) aR aR) (λi q=>.inl (.inl (by rw[L.O];exact q)));obtain⟨To,d,P,Tp⟩:=cA f9 s m p;clear s m g5 p;refine l.out _ _ ⟨f9,d9⟩ (λQ=>?_);clear l K f9;try simp only[aA,jY,jX,jW]
   refine fS 14 (aq (Z ⟨B.g,0,I⟩)) rfl Q ?_;try simp only[aA,jY,jX,jW]
   refine fS 15 (aq (Z ⟨B.g,15,I⟩)) rfl Q ?_;try simp only[aA,jY,jX,jW]
   refine cH (rs:=[16]) cC dt ?_;refine bH rfl (λK l=>?_) cy;rw[if_pos jP];go_simp;refine l.out _ _ (⟨To.O.setCell d.O (.inl (.inr rfl)) aR aR 15 _,by have D:=(d.O.bC 15 (ae A6 (R.cj.length+1) c6)).cell 9;simpa using D⟩) (λTq=>?_);clear l K;try simp only[aA,jY,jX,jW]
   refine gV cC ?_ _;go_wp2_with fail;have fX:Fr (λi=>B.rv.ownBlock=Z i\/i=B.g) f (w5.setCell ⟨B.g,15,I⟩ (ae A6 (R.cj.length+1) c6)):=((Fr.refl _ f).drew).trans Tq.1;have T:=kJ P.O (ej P.O d.O aR) 15 (ae A6 (R.cj.length+1) c6);have D:=HR.O.vr (a:=⟨o,R.cJ,M.tU x⟩) (q:=qp++[(#[J V o.1,J V o.2,J V R.cJ,ae b.a b.n b.c]:Array Value).toList]) fX (by simpa using T) (Fit.snoc (HF.O.mono λx c k=>k.rows fX.r) ⟨b,wj x,rfl,G.O.rows (.inl rfl) fX.r,H4.O⟩) (d.O.bC 15 _) (λj hj=>(Tp.O j hj).imp (λq=>by rw[L.O];exact q) (λq=>aP (by simp[World.drew]) q));have zs:=HS.O.trans D.2;first
    |refine dq (bT results84 _ _ _) rfl ?_
    |refine ax (v:=aB #[]) (by simp[aV,results84,go_sem]) rfl ?_
   first|exact⟨_,rfl,D.1,zs⟩|exact⟨rfl,_,D.1,zs⟩
  ·refine bH rfl (λK l=>?_) cy;rw[if_pos jP];go_simp;refine l.out _ _ (⟨A.1.alloc _,ea A.2⟩) (λTg=>?_);clear l K;try simp only[aA,jY,jX,jW]
   refine cH (rs:=[4]) cC dt ?_;refine bH rfl (λK l=>?_) cy;rw[if_pos jP];go_simp;refine l.out _ _ (Tg) (λTJ=>?_);clear l K;try simp only[aA,jY,jX,jW]
   refine cH (rs:=[13]) cC dt ?_;refine bH rfl (λK l=>?_) cy;refine lT _ jP (.tmp 31) (.tmp 39) 57 jP 0 94 i0 _ 4 48 underlying57 HI.O TA.O TC.O TD.O rfl aR (ae C R.cj.length m14) R.cj.length qp.flatten jP E.O ⟨f.drew.heap.size,0,I⟩ 1 1 (#[J V o.1,J V o.2,J V R.cJ,ae b.a b.n b.c]:Array Value).toList jP rfl (fB f.drew 94 _) Tk.O ui z dt ?_;intro v5 w5 m g5 p;obtain⟨A6,c6,rfl⟩:=bA m;have s:aK w5 B.g 61 (oS B R):=mQ E.O g5 aR _ _ ((HR.O.cw.drew).alloc _);have c5:=s.cell 15;have f5:=s.frozen 15;have d9:=s.cell 9;simp at c5 d9;have f9:Fr (λi=>B.rv.ownBlock=Z i\/i=B.g) f.drew w5:=((Fr.refl _ f.drew).alloc _).step (Fr.nY (eT g5) (ib E.O) aR aR) (λi q=>.inl (.inl (by rw[L.O];exact q)));obtain⟨To,d,P,Tp⟩:=cA f9 s m p;clear s m g5 p;refine l.out _ _ ⟨f9,d9⟩ (λQ=>?_);clear l K f9;try simp only[aA,jY,jX,jW]
   refine fS 14 (aq (Z ⟨B.g,0,I⟩)) rfl Q ?_;try simp only[aA,jY,jX,jW]
   refine fS 15 (aq (Z ⟨B.g,15,I⟩)) rfl Q ?_;try simp only[aA,jY,jX,jW]
   refine cH (rs:=[16]) cC dt ?_;refine bH rfl (λK l=>?_) cy;rw[if_pos jP];go_simp;refine l.out _ _ (⟨To.O.setCell d.O (.inl (.inr rfl)) aR aR 15 _,by have D:=(d.O.bC 15 (ae A6 (R.cj.length+1) c6)).cell 9;simpa using D⟩) (λTq=>?_);clear l K;try simp only[aA,jY,jX,jW]
   refine gV cC ?_ _;go_wp2_with fail;have fX:Fr (λi=>B.rv.ownBlock=Z i\/i=B.g) f (w5.setCell ⟨B.g,15,I⟩ (ae A6 (R.cj.length+1) c6)):=((Fr.refl _ f).drew).trans Tq.1;have T:=kJ P.O (ej P.O d.O aR) 15 (ae A6 (R.cj.length+1) c6);have D:=HR.O.vr (a:=⟨o,R.cJ,M.tU x⟩) (q:=qp++[(#[J V o.1,J V o.2,J V R.cJ,ae b.a b.n b.c]:Array Value).toList]) fX (by simpa using T) (Fit.snoc (HF.O.mono λx c k=>k.rows fX.r) ⟨b,wj x,rfl,G.O.rows (.inl rfl) fX.r,H4.O⟩) (d.O.bC 15 _) (λj hj=>(Tp.O j hj).imp (λq=>by rw[L.O];exact q) (λq=>aP (by simp[World.drew]) q));have zs:=HS.O.trans D.2;first
    |refine dq (bT results84 _ _ _) rfl ?_
    |refine ax (v:=aB #[]) (by simp[aV,results84,go_sem]) rfl ?_
   first|exact⟨_,rfl,D.1,zs⟩|exact⟨rfl,_,D.1,zs⟩
end
end
end Go.Proofs.YtkfblammcilfhaaGreatDoor
open Go.Proofs.YtkfblammcilfhaaGreatDoor
namespace Go.Proofs.YtkfblammcilfhaaGreatDoor
def AT(R:M.Room)(o:M.bN)(h:R.az o=I):R.fg o=R:=by unfold M.Room.fg;rw[h]
def Ik(R:M.Room)(o:M.bN)(s:M.eu)(h:R.az o=Z s):R.fg o =
  if(M.iK R.dA.eA R.dA.ek s.dJ (R.wanted o) R.cJ).2 then { R with az:=M.set R.az o (Z { s with dJ:=(M.iK R.dA.eA R.dA.ek s.dJ (R.wanted o) R.cJ).1 }),cj:=R.cj++[⟨o,R.cJ,M.tU ((R.aQ o).getD 0)⟩] }
  else { R with az:=M.set R.az o (Z { s with dJ:=(M.iK R.dA.eA R.dA.ek s.dJ (R.wanted o) R.cJ).1 }) }:=by
 unfold M.Room.fg;rw[h]
def xb(R:M.Room)(o:M.bN):(R.fg o).bh=R.bh/\(R.fg o).aD=R.aD/\(R.fg o).aQ=R.aQ/\(R.fg o).dA=R.dA/\(R.fg o).cJ=R.cJ/\∀a,((R.fg o).az a).isSome=(R.az a).isSome:=by
 cases h:R.az o with
 |none=>rw[AT R o h];exact⟨rfl,rfl,rfl,rfl,rfl,λ_=>rfl⟩
 |some s =>
  rw[Ik R o s h];have k:∀(x:M.eu) a,(M.set R.az o (Z x) a).isSome=(R.az a).isSome:=λx a=>by
   unfold M.set;split
   ·rename_i e;subst e;rw[h];rfl
   ·rfl
  split
  ·exact⟨rfl,rfl,rfl,rfl,rfl,λa=>k _ a⟩
  ·exact⟨rfl,rfl,rfl,rfl,rfl,λa=>k _ a⟩
def IY{R:M.Room}(h:np R)(o:M.bN):np (R.fg o):=by
 obtain⟨c,d,f,g,j,e⟩:=xb R o;refine⟨λs=>by rw[c,d];exact h.iJ s,λs q=>h.range s (by rw[<-d];exact q),λs x q y=>?_⟩;rw[c]at q;obtain⟨a,b⟩:=h.sub s x q y;exact⟨a,λi i0 i1=>by rw[e];exact b i i0 i1⟩
def xP:∀(l:List M.bN) (R:M.Room) (p:M.bN->Bool),(∀o,p o=(R.az o).isSome)->l.foldl M.Room.fg R=(l.filter p).foldl M.Room.fg R
 |[],R,p,hp=>rfl
 |o::l,R,p,hp=>by
  rw[List.foldl_cons,List.filter_cons];have a:=xP l (R.fg o) p (λb=>by rw[hp,(xb R o).2.2.2.2.2]);rw[a,hp o];cases h:R.az o with
  |none=>rw[AT R o h];rfl
  |some s=>simp
def IX(R:M.Room):M.eX.foldl M.Room.fg R=(ei R 9).foldl M.Room.fg R:=by
 unfold ei;rw[List.take_of_length_le (aR:M.eX.length<=9)];exact xP _ R _ λ_=>rfl
def Fx(l:List M.bN)(R:M.Room)(h:np R):np (l.foldl M.Room.fg R)/\(l.foldl M.Room.fg R).aQ=R.aQ/\(l.foldl M.Room.fg R).dA=R.dA/\(l.foldl M.Room.fg R).cJ=R.cJ/\∀o,((l.foldl M.Room.fg R).az o).isSome=(R.az o).isSome:=by
 induction l generalizing R with
 |nil=>exact⟨h,rfl,rfl,rfl,λ_=>rfl⟩
 |cons a l b =>
  obtain⟨g,i,c,d,e,f⟩:=xb R a;obtain⟨h1,h2,h3,h4,h5⟩:=b (R.fg a) (IY h a);exact⟨h1,h2.trans c,h3.trans d,h4.trans e,λo=>(h5 o).trans (f o)⟩
end Go.Proofs.YtkfblammcilfhaaGreatDoor
open Go.Proofs.YtkfblammcilfhaaGreatDoor
namespace Go.Proofs.YtkfblammcilfhaaGreatDoor
end Go.Proofs.YtkfblammcilfhaaGreatDoor
open Go.Proofs.YtkfblammcilfhaaGreatDoor
namespace Go.Proofs.YtkfblammcilfhaaGreatDoor
section
section
variable {B:RB} {R:M.Room} {N:Nat} {w:aw} (h:aL w B R N)
include h
theorem Cl(a:R.cN=true):aF af 37 #[aq (Z ⟨B.g,0,I⟩)] w λe w'=>e=av (J V R.tick.2)/\R.tick.1=R/\w'=w:=by
 have b:=h.cw.cell 7;simp at b;rw[a]at b;have e:R.tick=(R,7):=by unfold M.Room.tick;rw[a];rfl
 rw[e];clear h e a;go_enter func37,ntmps37;go_wp2_with fail;go_ret;exact⟨rfl,trivial,rfl⟩
theorem aL.GV:aL (w.setCell ⟨B.g,9,I⟩ (J V (R.cJ+1))) B { R with cJ:=R.cJ+1 } (N+1)/\fK w (w.setCell ⟨B.g,9,I⟩ (J V (R.cJ+1))) B B:=by
 have n:=h.et.mono (cZ N);have a:=h.et.cJ;exact(h.mono (cZ N)).rq (cJ:=R.cJ+1) (cN:=R.cN) (bp:=R.bp) ((Fr.refl (One B.g) _).setCell h.cw (.inl rfl) aR aR 9 _) (by simpa using h.cw.bC 9 (J V (R.cJ+1))) { n with cJ:=by show 0<=R.cJ+1/\R.cJ+1<=((N+1:Nat):Int);omega }
end
end
section
theorem Ch:(af.info? 170).map (·.size)=Z 4:=cC
theorem Oi(S R:Int)(s:M.Ask)(wt:Bool)(now:Int)(N:Nat)(h1:0<=s.fH/\s.fH<=N)(h2:0<=s.gB/\s.gB<=N)(h3:0<=now/\now<=N) :
  (0<=(M.iK S R s wt now).1.fH/\(M.iK S R s wt now).1.fH<=((N+1:Nat):Int))/\(0<=(M.iK S R s wt now).1.gB/\(M.iK S R s wt now).1.gB<=((N+1:Nat):Int)):=by
 obtain⟨tr,a⟩:=dH (if(!wt || !s.wanted)=true then 0 else s.gB);have b:0<=tr/\tr<=N:=by rw[a];split<;>omega
 have e:M.iK S R s wt now=if(!wt||(s.any&&decide (now-s.fH<M.QT S R tr)))=true then(⟨wt,s.any,s.fH,tr⟩,false) else(⟨wt,true,now,tr+1⟩,true):=by rw[a];rfl
 rw[e];split<;>dsimp only<;>omega
section
variable {B:RB} {R:M.Room} {N:Nat} {w:aw} (h:aL w B R N)
include h
theorem Jc(hc:R.cN=false)(hk:np R)(Ty:∀o,0<=(R.aQ o).getD 0/\(R.aQ o).getD 0<=4294967295)(hN:N<800000) :
  aF af 37 #[aq (Z ⟨B.g,0,I⟩)] w (kk B w (J V 0) R.tick.1 (N+20)):=by
 obtain⟨C,Tf⟩:=dH ({ R with cJ:=R.cJ+1 }:M.Room);have e:R.tick.1=(ei C 9).foldl M.Room.fg C:=by rw[<-IX,Tf];unfold M.Room.tick;rw[hc];rfl
 rw[e];have T9:np C:=by rw[Tf];exact⟨hk.iJ,hk.range,hk.sub⟩
 have Ua:∀o,0<=(C.aQ o).getD 0/\(C.aQ o).getD 0<=4294967295:=by rw[Tf];exact Ty
 have c7:=h.cw.cell 7;have c9:=h.cw.cell 9;have f9:=h.cw.frozen 9;simp at c7 c9;rw[hc]at c7;have Tw:=h.et.cJ;have P:=h.GV;rw[<-Tf]at P;have Ub:V.wrap (R.cJ+1)=R.cJ+1:=IntWalk.i64_in _ ⟨z,z⟩;obtain⟨HZ,HK,Ux⟩:=bU P T9 Ua;have Uc:=h.lt;have Uy:=au Uc;clear h e T9 Ua P hc hk Ty Uc Tf;go_enter func37,ntmps37;go_upto_region 4 with fail;refine aW (λX=>aL X B C (N+1)/\fK w X B B) HZ.O ?_;clear HZ c7 c9 f9 Tw Ub;rintro X ⟨h,s⟩;obtain⟨p,Tg⟩:=dH (ei C 9);have TI:=qw h;rw[<-Tg]at TI;have UK:p.length<=9:=by rw[Tg];exact re C 9
 have Ti:∀o∈p,(0<=o.1/\o.1<3)/\(0<=o.2/\o.2<3)/\(C.az o).isSome=true:=by rw[Tg];exactλo ho=>rb C ho
 obtain⟨Uz,Ud,UA,H,HS⟩:=gY Tg TI Ti h s;clear TI Ti Tg h s;go_wp2_with (go_at_call 71;refine Ud.O.mono ?_;rintro e w2 ⟨v,rfl,own,b2⟩;obtain⟨A5,c5,rfl⟩:=bA own;have D:=au own;have TJ:=au b2;clear own b2);have HX:=au (show aL w2 B C (N+1)/\fK w w2 B B from⟨H.O.below TJ.O,HS.O.trans (fK.fN B TJ.O)⟩);have UL:=HS.O.fr.size;clear H HS Ud TJ;go_loopw [22] (λi wr=>∃(k:Nat) (Bk:RB),i=J V k/\k<=p.length/\aL wr Bk ((p.take k).foldl M.Room.fg C) (N+1+2*k)/\fK w wr B Bk/\(∀i,(ae A5 p.length c5).ownBlock=Z i->¬Bk.all i)/\wr.ownsRow X.heap.size 91 2 (ae A5 p.length c5) p.length (p.flatMap zw)) (λi _=>p.length-(bS i).toNat);case atStart=>exact⟨0,B,rfl,z,HX.O.1,HX.O.2,(λi hi q=>by have:=Uy.O i q;have:=(D.O.lt i hi).1;omega),D.O⟩
 case round =>
  clear HX D;obtain⟨k,Bk,rfl,hk,hR,s,m,own⟩:=hrel;by_cases Ue:k<p.length;rotate_left
  ·have UB:k=p.length:=z;subst UB;rw[cT]at hR;obtain⟨H,HS⟩:=bu hR s;clear hR s own m;go_wp2_with fail;go_ret;exact⟨Bk,rfl,by rw[<-Uz.O];exact H.O.mono z,HS.O⟩
  have Ub:((k:Int)<(p.length:Int)):=z;have Tx:p[k]? = Z p[k]:=ay Ue;have x:=M.lL M.Room.fg p k p[k] C Tx;obtain⟨Uf,Ug,Tj⟩:=UA.O p[k] (List.getElem_mem Ue);obtain⟨TM,TN,TO,TP,Tk⟩:=Fx (p.take k) C HK.O;rw[<-Tk]at Tj;generalize p[k]=o at Tx x Uf Ug Tj;generalize (p.take k).foldl M.Room.fg C=f at hR x TM TN TO TP Tk Tj;clear Tk;obtain⟨r5,rfl,UM,_,Tl⟩:=wm own z;obtain⟨y0,y1⟩:=Tl k o Tx;obtain⟨st,TQ⟩:=dw.1 Tj;have Uh:=x.trans (Ik f o st TQ);obtain⟨H,HS,D,HV,HF,Tm,UC,UD⟩:=qh hR s own m Uh TQ TM TN;clear hR s own m Uh TQ TM TN x Tj Tl Tx;go_upto_region 7 with fail;obtain⟨r7,e7⟩:=dH wr.heap.size;rw[<-e7];have al:aC wr (wr.alloc (.cells #[J V o.1,J V o.2] 91)):=(ao _ _).alloc (aj _) _;refine aW (λY=>aK Y r7 91 #[J V o.1,J V o.2]/\aC wr Y) ⟨by simpa using aK.newAt _ _ _ _ e7,al⟩ ?_;clear al y0 y1;rintro Y ⟨b7,bY⟩;have hR:=H.O.below bY;have s:=HS.O.trans (fK.fN Bk bY);have own:=gI D.O bY;have h7:∀i,Bk.all i->i≠r7:=λi hi=>by have:=H.O.lt i hi;omega
  clear e7 bY H HS D;obtain⟨S,TR,d⟩:=hR.iB Tm.O;have TS:=s.g;have TT:=hR.cw.cell 13;have y0:=b7.cell 0;have y1:=b7.cell 1;simp at TT y0 y1;rw[TS]at TT;have Ti:Gi o:=ir ⟨z,z⟩ ⟨z,z⟩;have Ui:(cD 55 (.map (Z Bk.sm)) (cg #[J V o.1,J V o.2]) false).run af Y.drew=.ok (aq (Z ⟨S.g,0,I⟩)) Y.drew:=by
   have P:=(hR.below (eW (ao Y.drew.heap.size Y.drew))).jU o Ti;rw[TR]at P;exact P
  obtain⟨H,HS,D,Tn,To,TV⟩:=lH hR s own b7 TR d;clear hR s own b7 TR d;go_cut [5] (λv wc=>v=aq (Z ⟨S.g,0,I⟩)/\aC Y wc);case first =>
   go_region;all_goals
    go_wp2_with fail;go_meet;exact⟨rfl,eW (ao _ _)⟩
  case rest =>
   obtain⟨rfl,bc⟩:=hcut;have hR:=H.O.below bc;have s:=HS.O.trans (fK.fN Bk bc);have own:=gI D.O bc;have b7:=Tn.O.kept bc;have d:gh wc S f.dA.eJ f.dA.cX st (N+1+2*k):=by
    obtain⟨S',Tp,TW⟩:=hR.iB Tm.O;rw[To.O]at Tp;cases Tp;exact TW
   clear bc TT y0 y1 Ui H HS D Tn TV;have hC:∀(i:Nat) v,(oS Bk f)[i]? = Z v->∀W,aC wc W->W.cell? ⟨B.g,i,I⟩=Z v:=λi v e W b=>by
    have P:=hR.cw.cell i;rw[e,TS]at P;exact aM b P
   have d4:=hC 4 _ rfl;have d5:=hC 5 _ rfl;have d9:=hC 9 _ rfl;have y0:∀W,aC wc W->W.cell? ⟨r7,0,I⟩=Z (J V o.1):=λW b=>aM b (b7.cell 0);have y1:∀W,aC wc W->W.cell? ⟨r7,1,I⟩=Z (J V o.2):=λW b=>aM b (b7.cell 1);have s3:∀W,aC wc W->W.cell? ⟨S.g,3,I⟩=Z (ai st.dJ.wanted):=λW b=>aM b (d.cw.cell 3);have s4:∀W,aC wc W->W.cell? ⟨S.g,4,I⟩=Z (ai st.dJ.any):=λW b=>aM b (d.cw.cell 4);have s5:∀W,aC wc W->W.cell? ⟨S.g,5,I⟩=Z (J V st.dJ.fH):=λW b=>aM b (d.cw.cell 5);have s6:∀W,aC wc W->W.cell? ⟨S.g,6,I⟩=Z (J V st.dJ.gB):=λW b=>aM b (d.cw.cell 6);clear hC;have Q:=λW (b:aC wc W)=>Dx (hR.below b) o st Tm.O UC.O ⟨Uf,Ug⟩ z;have Tz:=hR.et.cJ;have Uj:=d.fH;have Uk:=d.gB;have F:Ask.Fit f.dA.eA f.dA.ek st.dJ.fH st.dJ.gB f.cJ:=by
    have q:=hR.et.dA;simp[M.jr]at q;exact⟨z,z,z,z,z,z,z,z,z⟩
   obtain⟨wt,Ul⟩:=dH (f.wanted o);have hf:=HF.O;rw[<-Ul]at Q hf;rw[TS]at Q;obtain⟨UN,UO⟩:=bu TO TP;clear TO TP;have Tq:=λW=>Kv f.dA.eA f.dA.ek st.dJ wt f.cJ W F;have Ts:=Oi f.dA.eA f.dA.ek st.dJ wt f.cJ (N+1+2*k) Uj Uk Tz;obtain⟨c,TX⟩:=dH ((M.iK f.dA.eA f.dA.ek st.dJ wt f.cJ).1);obtain⟨nw,Um⟩:=dH ((M.iK f.dA.eA f.dA.ek st.dJ wt f.cJ).2);rw[<-TX,<-Um]at Tq hf;rw[<-TX]at Ts;obtain⟨Tt,T,UE,TA,H,HS,D,Tn,TV⟩:=By Q Tq hf Ts hR s own b7 d;clear Q Tq hf Ts TX Um Ul F Tz Uj Uk hR s own b7 d HF;go_upto_region 8 with fail;go_cut [6,7] (λa b wd=>∃r6,a=aq (Z ⟨r6,0,I⟩)/\b=ai nw/\aK wd r6 170 #[ai c.wanted,ai c.any,J V c.fH,J V c.gB]/\aC wc wd);case first =>
    have TC:∀W,aC wc W->∀(j:Nat) v,(#[J V f.dA.eA,J V f.dA.ek]:Array Value).toList[j]? = Z v->W.cell? ⟨B.g,4+j,I⟩=Z v:=λW A j v m=>by
     rcases j with _|_|j
     ·simp at m;rw[<-m];exact d4 W A
     ·simp at m;rw[<-m];exact d5 W A
     ·simp at m
    have TD:∀W,aC wc W->∀(j:Nat) v,(#[ai st.dJ.wanted,ai st.dJ.any,J V st.dJ.fH,J V st.dJ.gB]:Array Value).toList[j]? = Z v->W.cell? ⟨S.g,3+j,I⟩=Z v:=λW A j v m=>by
     rcases j with _|_|_|_|j
     ·simp at m;rw[<-m];exact s3 W A
     ·simp at m;rw[<-m];exact s4 W A
     ·simp at m;rw[<-m];exact s5 W A
     ·simp at m;rw[<-m];exact s6 W A
     ·simp at m
    have TE:∀W,aC wc W->∀(j:Nat) v,(#[J V o.1,J V o.2]:Array Value).toList[j]? = Z v->W.cell? ⟨r7,0+j,I⟩=Z v:=λW A j v m=>by
     rcases j with _|_|j
     ·simp at m;rw[<-m];exact y0 W A
     ·simp at m;rw[<-m];exact y1 W A
     ·simp at m
    obtain⟨Un,Uo,Up⟩:=bU TC TD TE;clear TC TD TE d4 d5 s3 s4 s5 s6 y0 y1;refine fC (S:=λW=>aC wc W) cC (eW (ao _ _)) (λt=>?_);refine fS 0 (aq (Z ⟨B.g,0,I⟩)) rfl t ?_;try simp only[aA,pqq]
    refine fS 1 (aq (Z ⟨B.g,0,I⟩)) rfl t ?_;simp only[aA,pqq]
    refine fS 2 (aq (Z ⟨B.g,1,I⟩)) rfl t ?_;simp only[aA,pqq]
    refine fS 3 (aq (Z ⟨B.g,4,I⟩)) rfl t ?_;simp only[aA,pqq]
    refine Fj 4 (cg #[J V f.dA.eA,J V f.dA.ek]) rfl (eS jP 23 (.tmp 36) rfl B.g 4 rfl (#[J V f.dA.eA,J V f.dA.ek]:Array Value).toList _ (λW A j v m=>Un.O W A j v m) underlying23 rfl cC) t ?_;simp only[aA,pqq]
    refine fS 5 (aq (Z ⟨S.g,0,I⟩)) rfl t ?_;simp only[aA,pqq]
    refine fS 6 (aq (Z ⟨S.g,0,I⟩)) rfl t ?_;simp only[aA,pqq]
    refine fS 7 (aq (Z ⟨S.g,3,I⟩)) rfl t ?_;simp only[aA,pqq]
    refine Fj 8 (cg #[ai st.dJ.wanted,ai st.dJ.any,J V st.dJ.fH,J V st.dJ.gB]) rfl (eS jP 170 (.tmp 40) rfl S.g 3 rfl (#[ai st.dJ.wanted,ai st.dJ.any,J V st.dJ.fH,J V st.dJ.gB]:Array Value).toList _ (λW A j v m=>Uo.O W A j v m) underlying170 rfl cC) t ?_;simp only[aA,pqq]
    refine fS 9 (aq (Z ⟨B.g,0,I⟩)) rfl t ?_;simp only[aA,pqq]
    refine Fj 10 (cg #[J V o.1,J V o.2]) rfl (eS jP 91 (.tmp 4) rfl r7 0 rfl (#[J V o.1,J V o.2]:Array Value).toList _ (λW A j v m=>Up.O W A j v m) underlying91 rfl cC) t ?_;simp only[aA,pqq]
    refine fS 12 (aq (Z ⟨B.g,0,I⟩)) rfl t ?_;simp only[aA,pqq]
    refine fS 13 (aq (Z ⟨B.g,0,I⟩)) rfl t ?_;simp only[aA,pqq]
    refine fS 14 (aq (Z ⟨B.g,9,I⟩)) rfl t ?_;simp only[aA,pqq]
    refine fS 15 (J V f.cJ) rfl t ?_ (hy:=λW A=>by have q:=d9 W A;go_simp);simp only[aA,pqq]
    have TF:∀v∈(#[ai c.wanted,ai c.any,J V c.fH,J V c.gB]:Array Value).toList,v.oneCell'=true:=tk;have Tu:=au TF;clear TF d9;refine cH (rs:=[11,20]) cC dt ?_;refine bH rfl (λK l=>?_) ?_
    ·skip;rw[if_pos jP];go_simp;go_at_call 83;refine(Tt.O _ t).mono ?_;rintro e w4 ⟨rfl,b4⟩;dsimp only;refine l.out _ _ (t.trans (b4.mono t.size)) (λy=>?_);clear l K;try simp only[aA,pqq]
     refine cH (rs:=[16,20]) cC dt ?_;refine bH rfl (λK l=>?_) ?_
     ·skip;rw[if_pos jP];go_simp;go_at_call 82;refine(T.O _).mono ?_;rintro e w5 ⟨rfl,b5⟩;dsimp only;refine l.out _ _ (y.trans (b5.mono y.size)) (λr=>?_);clear l K;try simp only[aA,pqq]
      refine fS 17 (aB #[cg #[ai c.wanted,ai c.any,J V c.fH,J V c.gB],ai nw]) rfl r ?_;simp only[aA,pqq]
      refine fS 18 (cg #[ai c.wanted,ai c.any,J V c.fH,J V c.gB]) rfl r ?_;simp only[aA,pqq]
      refine fS 19 (ai nw) rfl r ?_;simp only[aA,pqq]
      refine cH (rs:=[20]) cC dt ?_;refine bH rfl (λK l=>?_) cy;rw[if_pos jP];go_simp;refine l.out _ _ (r.alloc r.size _) (λn=>?_);clear l K;try simp only[aA,pqq]
      refine cH (rs:=[21]) cC dt ?_;refine bH rfl (λK l=>?_) cy;refine lj jP (.tmp 6) (.tmp 50) 170 jP w5.heap.size 0 170 #[ai false,ai false,J V 0,J V 0] rfl #[ai c.wanted,ai c.any,J V c.fH,J V c.gB] rfl Ch (aK.new w5 170 #[ai false,ai false,J V 0,J V 0]) (aj _) Tu.O ?_;intro w' E u';refine l.out _ _ (n.trans (u'.below n.size (λi q=>by cases q;exact r.size))) (λG=>?_);clear l K;try simp only[aA,pqq]
      refine fS 22 (ai nw) rfl G ?_;simp only[aA,pqq]
      refine gV cC ?_ _;go_wp2_with fail;go_meet;exact⟨w5.heap.size,rfl,rfl,by first|exact E|simpa[de]using E,G⟩
     ·refine bH rfl (λK l=>?_) cy;rw[if_pos jP];go_simp;refine l.out _ _ (y.alloc y.size _) (λr=>?_);clear l K;try simp only[aA,pqq]
      refine cH (rs:=[16]) cC dt ?_;refine bH rfl (λK l=>?_) cy;rw[if_pos jP];go_simp;go_at_call 82;refine(T.O _).mono ?_;rintro e w5 ⟨rfl,b5⟩;dsimp only;refine l.out _ _ (r.trans (b5.mono r.size)) (λn=>?_);clear l K;try simp only[aA,pqq]
      refine fS 17 (aB #[cg #[ai c.wanted,ai c.any,J V c.fH,J V c.gB],ai nw]) rfl n ?_;simp only[aA,pqq]
      refine fS 18 (cg #[ai c.wanted,ai c.any,J V c.fH,J V c.gB]) rfl n ?_;simp only[aA,pqq]
      refine fS 19 (ai nw) rfl n ?_;simp only[aA,pqq]
      refine cH (rs:=[21]) cC dt ?_;refine bH rfl (λK l=>?_) cy;refine lj jP (.tmp 6) (.tmp 50) 170 jP w4.heap.size 0 170 #[ai false,ai false,J V 0,J V 0] rfl #[ai c.wanted,ai c.any,J V c.fH,J V c.gB] rfl Ch (aK.born b5) (aj _) Tu.O ?_;intro w' E u';refine l.out _ _ (n.trans (u'.below n.size (λi q=>by cases q;exact y.size))) (λG=>?_);clear l K;try simp only[aA,pqq]
      refine fS 22 (ai nw) rfl G ?_;simp only[aA,pqq]
      refine gV cC ?_ _;go_wp2_with fail;go_meet;exact⟨w4.heap.size,rfl,rfl,by first|exact E|simpa[de]using E,G⟩
    ·refine bH rfl (λK l=>?_) cy;rw[if_pos jP];go_simp;refine l.out _ _ (t.alloc t.size _) (λy=>?_);clear l K;try simp only[aA,pqq]
     refine cH (rs:=[11]) cC dt ?_;refine bH rfl (λK l=>?_) cy;rw[if_pos jP];go_simp;go_at_call 83;refine(Tt.O _ y).mono ?_;rintro e w4 ⟨rfl,b4⟩;dsimp only;refine l.out _ _ (y.trans (b4.mono y.size)) (λr=>?_);clear l K;try simp only[aA,pqq]
     refine cH (rs:=[16]) cC dt ?_;refine bH rfl (λK l=>?_) cy;rw[if_pos jP];go_simp;go_at_call 82;refine(T.O _).mono ?_;rintro e w5 ⟨rfl,b5⟩;dsimp only;refine l.out _ _ (r.trans (b5.mono r.size)) (λn=>?_);clear l K;try simp only[aA,pqq]
     refine fS 17 (aB #[cg #[ai c.wanted,ai c.any,J V c.fH,J V c.gB],ai nw]) rfl n ?_;simp only[aA,pqq]
     refine fS 18 (cg #[ai c.wanted,ai c.any,J V c.fH,J V c.gB]) rfl n ?_;simp only[aA,pqq]
     refine fS 19 (ai nw) rfl n ?_;simp only[aA,pqq]
     refine cH (rs:=[21]) cC dt ?_;refine bH rfl (λK l=>?_) cy;refine lj jP (.tmp 6) (.tmp 50) 170 jP wc.heap.size 0 170 #[ai false,ai false,J V 0,J V 0] rfl #[ai c.wanted,ai c.any,J V c.fH,J V c.gB] rfl Ch ((OO b4).kept b5) (aj _) Tu.O ?_;intro w' E u';refine l.out _ _ (n.trans (u'.below n.size (λi q=>by cases q;exact aj _))) (λG=>?_);clear l K;try simp only[aA,pqq]
     refine fS 22 (ai nw) rfl G ?_;simp only[aA,pqq]
     refine gV cC ?_ _;go_wp2_with fail;go_meet;exact⟨wc.heap.size,rfl,rfl,by first|exact E|simpa[de]using E,G⟩
   case rest =>
    obtain⟨r6,rfl,rfl,b6,bd⟩:=hcut;have hR:=H.O.below bd;have s:=HS.O.trans (fK.fN Bk bd);have own:=gI D.O bd;have b7:=Tn.O.kept bd;have d:gh wc S f.dA.eJ f.dA.cX st (N+1+2*k):=by
     obtain⟨S',Tp,TW⟩:=hR.iB Tm.O;rw[To.O]at Tp;cases Tp;exact TW
    have q0:=b6.cell 0;have q1:=b6.cell 1;have q2:=b6.cell 2;have q3:=b6.cell 3;have t3:=d.cw.cell 3;have t4:=d.cw.cell 4;have t5:=d.cw.cell 5;have t6:=d.cw.cell 6;have f3:=d.cw.frozen 3;have f4:=d.cw.frozen 4;have f5:=d.cw.frozen 5;have f6:=d.cw.frozen 6;simp at q0 q1 q2 q3 t3 t4 t5 t6;have S4:=Fr.im (F:=One S.g) aR aR [ai c.wanted,ai c.any,J V c.fH,J V c.gB] 3 d.cw (.inl rfl) (Fr.refl (One S.g) wc);have Z4:=(((d.cw.bC 3 (ai c.wanted)).bC 4 (ai c.any)).bC 5 (J V c.fH)).bC 6 (J V c.gB);simp only[im,Nat.reduceAdd]at S4;have hA4:=(d.mono (z:N+1+2*k<=N+1+2*k+1)).cells (s':={ st with dJ:=c }) S4 (by simpa[kI]using Z4) rfl (by have:=d.uE;show -100000*((N+1+2*k+1:Nat):Int)<=st.dv/\st.dv<=100000*((N+1+2*k+1:Nat):Int)+200000;omega) TA.O.1 TA.O.2;have P:=(hR.mono (z:N+1+2*k<=N+1+2*k+1)).nL Tm.O To.O hA4.2 hA4.1 rfl (λi q=>.inl q);rw[qR _ _ _ To.O]at P;have UF:∀i,Bk.all i->i<wc.heap.size:=hR.lt;have Tv:∀i,S.own i->Bk.all i:=λi q=>⟨.fO o,S,To.O,q⟩;have TG:=du own (F:=S.own) hA4.2.u (λi hi q=>HV.O i hi (Tv i q));have Uq:aK _ r7 91 #[J V o.1,J V o.2]:=b7.dW hA4.2.u (λq=>h7 r7 (Tv r7 q) rfl);obtain⟨HZ,Ur,Us,TH⟩:=cA P (s.trans P.2) TG Uq;clear hA4 S4 Z4 P hR s own b7 d b6 bd TG Uq H HS D Tn TV T Tt Tv UF;go_upto_region 10 with fail;obtain⟨Rn,L⟩:=dH ({ f with az:=M.set f.az o (Z { st with dJ:=c }) }:M.Room);have hz:=HZ.O.1;rw[<-L]at hz;refine aW (λY2=>aL Y2 Bk Rn (N+1+2*k+1)/\fK w Y2 B Bk/\Y2.ownsRow X.heap.size 91 2 (ae (Z ⟨r5,0,I⟩) p.length c5) p.length (p.flatMap zw)/\aK Y2 r7 91 #[J V o.1,J V o.2]) ⟨hz,Ur.O,Us.O,TH.O⟩ ?_;clear hz HZ Ur Us TH q0 q1 q2 q3 t3 t4 t5 t6 f3 f4 f5 f6;rintro Y2 ⟨hR,s,own,b7⟩;have TY:∀o,Rn.aQ o=C.aQ o:=λo=>by rw[L];exact congrFun UD.O o
    have Tw:Rn.cJ=f.cJ:=by rw[L]
    have y0:=b7.cell 0;have y1:=b7.cell 1;simp at y0 y1;have hf:=UE.O;cases nw with
    |false =>
     simp only[cB,if_false]at hf;rw[<-L]at hf;obtain⟨H,HS,D,HF⟩:=cA hR s own hf;clear hR s own hf TY Tw L b7;go_wp2_with fail;go_roundw;case rel=>exact⟨k+1,Bk,by go_num,z,by rw[HF.O];exact H.O.mono z,HS.O,HV.O,D.O⟩
     case measure=>simp[bS];omega
    |true =>
     simp only[if_true]at hf;have U:=Co hR o Ti (by rw[TY];exact Ux.O o) z;rw[s.g]at U;have e1:({ Rn with cj:=Rn.cj++[⟨o,Rn.cJ,M.tU ((Rn.aQ o).getD 0)⟩] }:M.Room)=(p.take (k+1)).foldl M.Room.fg C:=by rw[hf,L]
     rw[e1]at U;have UJ:=hR.lt;obtain⟨Ut,HS,D⟩:=bU U s own;clear U hf e1 hR s own TY Tw L b7;have Uu:∀w3 B3,fK Y2 w3 Bk B3->(∀i,(ae (Z ⟨r5,0,I⟩) p.length c5).ownBlock=Z i->¬B3.all i)/\w3.ownsRow X.heap.size 91 2 (ae (Z ⟨r5,0,I⟩) p.length c5) p.length (p.flatMap zw):=λw3 B3 s3 =>
      ⟨λi hi q=>by
       rcases s3.own i q with q|q
       ·exact HV.O i hi q
       ·have:=(D.O.lt i hi).2;omega,du D.O s3.fr.u (λi hi q=>HV.O i hi q)⟩
     have UG:=au Uu;clear Uu;go_wp2_with (go_at_call 84;refine Ut.O.mono ?_;rintro e w3 ⟨B3,rfl,Uv,T8⟩;have UH:=au Uv;have UI:=au (HS.O.trans T8);have Uw:=au (UG.O w3 B3 T8);clear Uv T8);go_roundw;case rel=>exact⟨k+1,B3,by go_num,z,UH.O.mono z,UI.O,Uw.O.1,Uw.O.2⟩
     case measure=>simp[bS];omega
end
end
end Go.Proofs.YtkfblammcilfhaaGreatDoor
open Go.Proofs.YtkfblammcilfhaaGreatDoor
namespace Go.Proofs.YtkfblammcilfhaaGreatDoor
namespace M
def oT:List eK->Room->Room
 |[],r=>r
 |w::l,r=>oT l (r.pick w true).1
def done:List eK->Room->Nat
 |[],r=>0
 |w::l,r=>(r.pick w true).2.toNat+done l (r.pick w true).1
def zt:∀(l:List eK) (w:eK) (r:Room),oT (l++[w]) r=((oT l r).pick w true).1
 |[],w,r=>rfl
 |a::l,w,r=>zt l w _
def BE:∀(l:List eK) (w:eK) (r:Room),done (l++[w]) r=done l r+((oT l r).pick w true).2.toNat
 |[],w,r=>by show _+0=0+_;simp[oT]
 |a::l,w,r=>by
  show _+done (l++[w]) _=_+done l _+_;rw[BE l w,<-Nat.add_assoc];rfl
def IH:∀(l:List eK) (r:Room),done l r<=l.length
 |[],r=>aj _
 |a::l,r=>by
  have:=IH l (r.pick a true).1;have h1:(r.pick a true).2.toNat<=1:=by cases(r.pick a true).2<;>decide
  show _+done l _<=l.length+1;omega
def lG.oT:∀(l:List eK) {R:Room} {G:Int->ij} {n:Nat},lG R G n->∃a,lG (oT l R) a (n+l.length)
 |[],R,G,n,h=>⟨G,h⟩
 |w::l,R,G,n,h=>by
  obtain⟨a,k⟩:=lG.oT l (h.pick w true);exact⟨a,k.more dZ⟩
end M
def Dj(R:M.Room):2<=R.dF.length:=by unfold M.Room.dF;simp
def K6{B:RB}{R:M.Room}{N:Nat}{w:aw}(h:aL w B R N)(p:Nat)(hp:aK w p 180 #[aq (Z ⟨B.g,0,I⟩)])(Tf:¬B.all p){G:Int->M.ij}{n:Nat}(hk:M.lG R G n)(hn:n<=900)(hN:N<=600000)(hw:R.dF.length<=20) :
  aF af 253 #[aq (Z ⟨p,0,I⟩),J V 1] w λe w'=>∃B',e=av (J V (M.done R.dF R:Nat))/\aL w' B' (M.oT R.dF R) (N+9*R.dF.length)/\fK w w' B B':=by
 obtain⟨H,HK,TA,U⟩:=cA h hk Tf hp;have TJ:=hp.lt;clear h hk Tf hp;go_enter func253,ntmps253;go_wp2_with fail;go_loopw [5,9] (λd i wr=>(i=J V 0/\d=J V 0/\wr=w)\/(i=J V 1/\∃B',d=J V (M.done R.dF R:Nat)/\aL wr B' (M.oT R.dF R) (N+9*R.dF.length)/\fK w wr B B')) (λd i _=>1-(bS i).toNat);case atStart=>exact .inl ⟨rfl,rfl,rfl⟩
 case round =>
  rcases hrel with⟨rfl,rfl,he⟩ | ⟨rfl,B',rfl,hR,E⟩
  ·have he:=he.symm;subst he;have c0:=U.O.cell 0;simp at c0;have Tg:=au (vo H.O);go_wp2_with (go_at_call 74;refine Tg.O.mono ?_;rintro e w2 ⟨⟨A,m,c,rfl,TN,TO,hW,j⟩,b2⟩;obtain⟨hlen,Ti,y⟩:=hW;have h0:0<m:=(by rw[<-hlen];exact Nat.lt_of_lt_of_le z (Dj R));obtain⟨b,off,rfl,Tj,o⟩:=y h0;have Tk:=j _ rfl;have D:=au b2;have C:=au o;have TM:=au Ti;clear y j o b2 Ti);have Tk:w.heap.size<=b:=Tk;have Tl:=H.O.lt;have HX:=au (show aL w2 B R N/\fK w w2 B B/\aK w2 p 180 #[aq (Z ⟨B.g,0,I⟩)]/\¬B.all b from⟨H.O.below D.O,fK.fN B D.O,U.O.kept D.O,λq=>by have:=Tl b q;omega⟩);clear c0 Tg H U Tl D;go_loopw [5,17] (λd i wr=>∃(k:Nat) (Bk:RB),i=J V k/\k<=m/\d=J V (M.done (R.dF.take k) R:Nat)/\aL wr Bk (M.oT (R.dF.take k) R) (N+9*k)/\fK w wr B Bk/\aK wr p 180 #[aq (Z ⟨B.g,0,I⟩)]/\¬Bk.all b/\¬Bk.all p/\b<wr.heap.size /\
    ∀i,i<m->wr.cell? ⟨b,off+i*2,I⟩=Z (J V (R.dF.getD i (0,0)).1)/\wr.cell? ⟨b,off+i*2+1,I⟩=Z (J V (R.dF.getD i (0,0)).2)) (λd i _=>m-(bS i).toNat)
   case atStart=>exact⟨0,B,rfl,z,rfl,HX.O.1,HX.O.2.1,HX.O.2.2.1,HX.O.2.2.2,TA.O,Tj,C.O⟩
   case round =>
    clear HX C Tj;obtain⟨k,Bk,rfl,TP,rfl,hR,E,L,Tm,Tn,TC,o⟩:=hrel;by_cases TD:k<m
    ·have TQ:((k:Int)<(m:Int)):=z;have To:k<R.dF.length:=z;have Tp:R.dF.take (k+1)=R.dF.take k++[R.dF[k]]:=List.take_succ_eq_append_getElem To;have l:=M.zt (R.dF.take k) R.dF[k] R;have f:=M.BE (R.dF.take k) R.dF[k] R;rw[<-Tp]at l f;have TE:=M.IH (R.dF.take k) R;have TR:(R.dF.take k).length<=20:=by rw[List.length_take];omega
     obtain⟨G',Tq⟩:=M.lG.oT (R.dF.take k) HK.O;have P:=ta Tq z;obtain⟨q1,q2⟩:=o k TD;have Ts:R.dF.getD k (0,0)=R.dF[k]:=by rw[List.getD_eq_getElem?_getD,ay To];rfl
     rw[Ts]at q1 q2;generalize M.done (R.dF.take k) R=dn at f TE;generalize M.oT (R.dF.take k) R=Rk at hR l f P;generalize R.dF[k]=x at q1 q2 l f;obtain⟨st,s⟩:=x;simp only at q1 q2;have TS:=hR.lt;have TT:=E.fr.size;obtain⟨W,HS,U,C,Tt,Tu,Tv⟩:=lV hR E L o l f P;clear hR E L o l f P Tq Ts Tp;go_upto_region 7 with fail;obtain⟨r7,e7⟩:=dH wr.heap.size;rw[<-e7];have al:aC wr (wr.alloc (.cells #[J V st,J V s] 40)):=(ao _ _).alloc (aj _) _;refine aW (λY=>aK Y r7 40 #[J V st,J V s]/\aC wr Y) ⟨by simpa using aK.newAt _ _ _ _ e7,al⟩ ?_;clear al e7 q1 q2;rintro Y ⟨b7,X⟩;have k0:=b7.cell 0;have k1:=b7.cell 1;simp at k0 k1;have L:=U.O.kept X;have c0:=L.cell 0;simp at c0;have Tw:=W.O.below X;have Q:=HS.O.trans (fK.fN Bk X);have hg:=Q.g;have TF:=au (Tw.below (eW (ao Y.drew.heap.size Y.drew)));have r:=au (sY TF.O st s true Tv.O z);have TV:=X.size;obtain⟨TG,Tx,TH⟩:=bU Q L X;clear X b7 L Tw Q U W HS;obtain⟨bd,S⟩:=dH ((Rk.pick (st,s) true).2);rw[<-S]at r;have f:=Tu.O;rw[<-S]at f;have l:=Tt.O;have F:∀u B',aL u B' (Rk.pick (st,s) true).1 (N+9*k+9)->fK Y.drew u Bk B'->aL u B' (M.oT (R.dF.take (k+1)) R) (N+9*(k+1))/\fK w u B B'/\aK u p 180 #[aq (Z ⟨B.g,0,I⟩)]/\¬B'.all b/\¬B'.all p/\b<u.heap.size /\
       ∀i,i<m->u.cell? ⟨b,off+i*2,I⟩=Z (J V (R.dF.getD i (0,0)).1)/\u.cell? ⟨b,off+i*2+1,I⟩=Z (J V (R.dF.getD i (0,0)).2):=by
      intro u B' t a;have j:∀i,i<wr.heap.size->¬Bk.all i->¬B'.all i:=λi hi hn q=>by
       rcases a.own i q with q|q
       ·exact hn q
       ·have:Y.heap.size<=i:=q;omega
      have Ty:∀i v,wr.cell? ⟨b,i,I⟩=Z v->u.cell? ⟨b,i,I⟩=Z v:=λi v q=>dD a.fr Tm (cE (aM TH.O q));have TW:=Tx.O.lt;refine⟨by rw[l];exact t,(TG.O.trans (fK.fN Bk (eW (ao Y.drew.heap.size Y.drew)))).trans a,Tx.O.drew.OB a (λi q e=>Tn (e ▸ q)),j b TC Tm,j p z Tn,by have:=a.fr.size;have:Y.drew.heap.size=Y.heap.size:=rfl;omega,λi hi=>⟨Ty _ _ (C.O i hi).1,Ty _ _ (C.O i hi).2⟩⟩
     obtain⟨K,Tz⟩:=bu F f;rw[<-hg]at c0;clear f l S F Tt Tu Tv hg;have TX:V.wrap ((dn:Int)+1)=((dn+1:Nat):Int):=by rw[IntWalk.i64_in _ ⟨z,z⟩];omega
     cases bd with
     |true =>
      go_region_with (go_at_call 25;refine r.O.mono ?_;rintro e u ⟨B',rfl,t,a⟩;have T:=au (K.O u B' t a);clear t a);all_goals
       go_wp2_with fail;go_roundw;case rel=>exact⟨k+1,B',by go_num,z,by rw[Tz.O];simp,T.O⟩
       case measure=>simp[bS];omega
     |false =>
      go_region_with (go_at_call 25;refine r.O.mono ?_;rintro e u ⟨B',rfl,t,a⟩;have T:=au (K.O u B' t a);clear t a);all_goals
       go_wp2_with fail;go_roundw;case rel=>exact⟨k+1,B',by go_num,z,by rw[Tz.O];simp,T.O⟩
       case measure=>simp[bS];omega
    ·have TI:k=R.dF.length:=z;subst TI;rw[cT]at hR;obtain⟨W,HS⟩:=bu hR E;clear hR E L o;go_wp2_with fail;go_roundw;case rel=>exact .inr ⟨by go_num,Bk,by rw[cT],W.O,HS.O⟩
     case measure=>simp[bS]
  ·obtain⟨W,HS⟩:=bu hR E;clear hR E;go_wp2_with fail;go_ret;exact⟨B',rfl,W.O,HS.O⟩
def Pc(xs:M.cQ):Bool:=xs.isEmpty||xs.any λx=>decide (x=16)
def Lc(p:M.cR):Bool:=Pc p.fp&&Pc p.cF
def LZ(l:M.dP):Bool:=(l.cK.all λx=>Lc x.bW)&&((l.bF.all λx=>Lc x.1.bW)&&((l.ready.all λx=>Pc x.2)&&l.fF.all λx=>Pc x.2))
def Qg(R:M.Room):Bool:=R.dm.all Pc&&((R.aO.all λa=>Lc a.bW)&&(R.cj.isEmpty&&M.gF.all λs=>match R.aD s with | none=>true | some l=>LZ l))
def Dq{xs:M.cQ}(h:Pc xs=true):Sx xs:=by
 unfold Pc at h;rw[Bool.or_eq_true]at h;rcases h with h|h
 ·left;simpa using h
 ·right;rw[List.any_eq_true]at h;obtain⟨x,a,e⟩:=h;rw[decide_eq_true_iff]at e;exact e ▸ a
def FC{p:M.cR}(h:Lc p=true):KH p:=by
 unfold Lc at h;rw[cM]at h;exact⟨Dq h.1,Dq h.2⟩
def xd{R:M.Room}(h:Qg R=true)(hr:∀s,(R.aD s).isSome=true->0<=s/\s<6):Nl R:=by
 unfold Qg at h;rw[cM,cM,cM]at h;obtain⟨h1,h2,h3,h4⟩:=h;rw[iZ]at h1 h2 h4;have key:∀s l,R.aD s=Z l->LZ l=true:=λs l e=>by
  have:=hr s (by rw[e];rfl);have hm:s∈M.gF:=by
   unfold M.gF;have:s=0\/s=1\/s=2\/s=3\/s=4\/s=5:=z;rcases this with rfl|rfl|rfl|rfl|rfl|rfl<;>simp
  have c:=h4 s hm;rw[e]at c;exact c
 have key:∀s l,R.aD s=Z l->(∀x∈l.cK,KH x.bW)/\(∀x∈l.bF,KH x.1.bW)/\(∀x∈l.ready,Sx x.2)/\∀x∈l.fF,Sx x.2:=λs l e=>by
  have c:=key s l e;unfold LZ at c;rw[cM,cM,cM,iZ,iZ,iZ,iZ]at c;obtain⟨d,z2,z3,z4⟩:=c;exact⟨λx b=>FC (d x b),λx b=>FC (z2 x b),λx b=>Dq (z3 x b),λx b=>Dq (z4 x b)⟩
 exact⟨λx b=>Dq (h1 x b),λa f=>FC (h2 a f),by simpa using h3,λs l e=>(key s l e).1,λs l e=>(key s l e).2.1,λs l e=>(key s l e).2.2.1,λs l e=>(key s l e).2.2.2⟩
namespace M
def s0:Room:=.new ⟨2,2,1,1,2,1⟩
def s1:Room:=(s0.gg 0 7 8 9).1
def s2:Room:=(s1.iJ 0 50 5 100).1
def s3:Room:=(s2.dN 0 0 0).1
def dg:cQ:=(ic ⟨false,96,1,9,7,[],false,0,[],[16,0]⟩).1
def s4:Room:=(s3.fT dg).1
def s5:Room:=oT s4.dF s4
def Rh:(s0.gg 0 7 8 9).2=0:=cC
def Re:(s1.iJ 0 50 5 100).2=0:=cC
def Rb:(s2.dN 0 0 0).2=0:=cC
def Q9:(s3.fT dg).2=0:=cC
def QG:dg=[128,96,0,1,0,0,0,9,0,0,0,7,16,0]:=cC
def NC:s4.dF=[(0,0),(1,0),(2,0),(3,0),(4,0)]:=cC
def QZ:done s4.dF s4=5:=cC
def Ja:kA s5 0=[(0,[128,96,0,5,0,0,0,100,0,0,0,50,16,0])]:=cC
def Qj:(eP [128,96,0,5,0,0,0,100,0,0,0,50,16,0]).1.dQ=5/\(eP [128,96,0,5,0,0,0,100,0,0,0,50,16,0]).1.aU=100:=⟨cC,cC⟩
def Sy:Int->ij:=λ_=>⟨0,0,0,0,[],[],[]⟩
def Qm:lG s0 Sy 0:=lG.start _ aR _
def Ql:∃G,lG s1 G 1:=⟨_,Qm.act ⟨3,0,0,0,[],(0,0),false,0,0,0,7,8,9⟩ ⟨λ_ h=>(by cases h),dt,dt,dt⟩ dt⟩
def Pk:∃G,lG s2 G 2:=by
 obtain⟨G,h⟩:=Ql;exact⟨_,h.act ⟨4,0,0,0,[],(0,0),false,50,100,5,0,0,0⟩ ⟨λ_ h=>(by cases h),dt,dt,dt⟩ dt⟩
def Qk:∃G,lG s3 G 3:=by
 obtain⟨G,h⟩:=Pk;exact⟨_,h.act ⟨5,0,0,0,[],(0,0),false,0,0,0,0,0,0⟩ ⟨λ_ h=>(by cases h),dt,dt,dt⟩ dt⟩
def Pj:∃G,lG s4 G 4:=by
 obtain⟨G,h⟩:=Qk;exact⟨_,h.act ⟨0,0,0,0,dg,(0,0),false,0,0,0,0,0,0⟩ ⟨λx h=>(by rw[QG]at h;simp at h;omega),dt,dt,dt⟩ dt⟩
def QY:∃G,lG s5 G 9:=by
 obtain⟨G,h⟩:=Pj;obtain⟨a,k⟩:=lG.oT s4.dF h;rw[NC]at k;refine⟨a,?_⟩;unfold s5;rw[NC];exact k
end M
def Ri:Nl M.s0:=xd cC M.Qm.wf.uf
def Rf:Nl M.s1:=by obtain⟨G,h⟩:=M.Ql;exact xd cC h.wf.uf
def Rc:Nl M.s2:=by obtain⟨G,h⟩:=M.Pk;exact xd cC h.wf.uf
def Ra:Nl M.s3:=by obtain⟨G,h⟩:=M.Qk;exact xd cC h.wf.uf
def Q8:Nl M.s4:=by obtain⟨G,h⟩:=M.Pj;exact xd cC h.wf.uf
def QX:Nl M.s5:=by obtain⟨G,h⟩:=M.QY;exact xd cC h.wf.uf
structure Env(w:aw):Prop where
 max:∃m,w.cell? ⟨0,0,I⟩=Z (J V m)
 Qa:qM af w "internal/strconv.uint64pow10" .u64 Lib.pow10Tab
def I1{w w':aw}{B:Nat}{name:String}{k:IntKind}{zs:List Int}(h:qM af w name k zs)(b:iQ B w w')(hg:∀g,af.globalNamed name=Z g->g<B):qM af w' name k zs:=by
 unfold qM World.var? at *;cases a:af.globalNamed name with
 |none=>simp[a]at h
 |some g =>
  simp only[a,Option.bind_some]at h ⊢;rw[b.block g (hg g a)];exact h
def Pb{w:aw}{name:String}{k:IntKind}{zs:List Int}(h:qM af w name k zs):∀g,af.globalNamed name=Z g->g<w.heap.size:=by
 intro g b;unfold qM World.var? at h;simp only[b,Option.bind_some]at h;rcases Nat.lt_or_ge g w.heap.size with a|a
 ·exact a
 ·rw[Array.getElem?_eq_none a]at h;simp at h
def Env.below{w w':aw}(h:Env w)(b:aC w w'):Env w':=by
 obtain⟨m,hm⟩:=h.max;exact⟨⟨m,aM b hm⟩,I1 h.Qa b (Pb h.Qa)⟩
def Nk(n:Int):ByteArray:=⟨(Lib.itoa n).toArray⟩
def Mn{w:aw}(h:Env w)(n:Int)(a:0<=n/\n<=1000):aF af 136 #[J V n] w λe w'=>e=av (.string (Nk n))/\aC w w':=by
 refine(Tryz.strconv_Itoa n z z w h.Qa).mono ?_;rintro e w' ⟨rfl,k,os,rfl⟩;refine⟨rfl,⟨rfl,rfl,rfl,?_,λi hi=>?_⟩⟩
 ·simp[Go.Sort.grow]
 ·unfold Go.Sort.grow;simp only[World.drewN];rw[Array.getElem?_append_left hi]
def QH:iI 5=[53]:=by unfold iI;rfl
def RW:iI 0=[48]:=by unfold iI;rfl
def PI:iI 100=[49,48,48]:=by
 unfold iI;rw[dif_neg aR];unfold iI;rw[dif_neg aR];unfold iI;rw[dif_pos aR];rfl
def Sh:Nk 5=⟨#[53]⟩:=by unfold Nk;rw[show Lib.itoa 5=iI 5 from rfl,QH]
def Si:Nk 0=⟨#[48]⟩:=by unfold Nk;rw[show Lib.itoa 0=iI 0 from rfl,RW]
def OJ:Nk 100=⟨#[49,48,48]⟩:=by unfold Nk;rw[show Lib.itoa 100=iI 100 from rfl,PI]
abbrev answer:ByteArray:=⟨#[48,58,53,58,49,48,48]⟩
def CC:Gh (0,[128,96,0,5,0,0,0,100,0,0,0,50,16,0])=[0,5,100]:=by
 unfold Gh;rw[M.Qj.1,M.Qj.2];rfl
def Iw:s8 Nk (0,[128,96,0,5,0,0,0,100,0,0,0,50,16,0])=answer:=by
 unfold s8;rw[CC];simp only[eV,jk,Si,Sh,OJ];rfl
def NZ:(⟨(Lib.join (((M.kA M.s5 0).map (s8 Nk)).map (·.data.toList)) vD.data.toList).toArray⟩:ByteArray)=answer:=by
 rw[M.Ja];simp only[eV,jk,Iw];rfl
def IZ{B:RB}{N:Nat}{w:aw}(h:aL w B M.s4 N)(p:Nat)(hp:aK w p 180 #[aq (Z ⟨B.g,0,I⟩)])(a:¬B.all p)(l:N<=500000)(bk o c:Nat)(m:w.cell? ⟨bk,o,I⟩=Z (J V 1)) :
  aF af 205 #[aq (Z ⟨p,0,I⟩),.string ⟨#[116,117,114,110]⟩,ae (Z ⟨bk,o,I⟩) 1 c] w λe w'=>∃B',e=av (.string ⟨#[53]⟩)/\aL w' B' M.s5 (N+45)/\fK w w' B B':=by
 obtain⟨G,b⟩:=M.Pj;have ht:=K6 h p hp a b z z (by rw[M.NC];decide);rw[M.QZ]at ht;have he:N+9*M.s4.dF.length=N+45:=by rw[M.NC];rfl
 rw[he]at ht;have f:=hp.cell 0;simp at f;have i:=au ht;clear ht b h hp a he;go_enter func205,ntmps205;go_upto_region 16 with fail;have h5:=λW:aw=>Tryz.strconv_Itoa_small 5 aR W;rw[QH]at h5;have j:=au h5;clear h5;go_wp2_with (first
  |(go_at_call 253;refine i.O.mono ?_;rintro e w2 ⟨B',rfl,hR,d⟩;have k:=au hR;have HS:=au d;clear hR d)
  |(go_at_call 136;refine(j.O _).mono ?_;rintro e w3 ⟨rfl,rfl⟩))
 go_ret;exact⟨B',rfl,k.O,HS.O⟩
def FA{B:RB}{N:Nat}{w:aw}(h:aL w B M.s5 N)(p:Nat)(hp:aK w p 180 #[aq (Z ⟨B.g,0,I⟩)])(k:N<=500000)(he:Env w)(bk o c:Nat)(l:w.cell? ⟨bk,o,I⟩=Z (J V 0)) :
  aF af 205 #[aq (Z ⟨p,0,I⟩),.string ⟨#[119,114,111,116,101]⟩,ae (Z ⟨bk,o,I⟩) 1 c] w λe w'=>e=av (.string answer)/\aC w w':=by
 have hw:=IN h p (aq I) hp 0 aR z Nk (λx a n d W b=>by
  rw[M.Ja]at a
  simp only[fw,tt,or_false]at a
  subst a
  rw[CC]at d
  simp only[fw,tt,or_false]at d
  exact Mn (he.below b) n z) (by rw[M.Ja];decide) (by rw[M.Ja];decide) (λx a=>by
  rw[M.Ja]at a
  simp only[fw,tt,or_false]at a
  subst a
  rw[CC]
  simp only[eV,jk,Si,Sh,OJ]
  decide) (by
  rw[M.Ja]
  simp only[eV,jk,Iw]
  decide)
 rw[NZ]at hw;have f:=hp.cell 0;simp at f;have i:=au hw;clear hw h hp he;go_enter func205,ntmps205;go_upto_region 24 with fail;go_wp2_with (go_at_call 255;refine i.O.mono ?_;rintro e w2 ⟨rfl,b2⟩;have j:=au b2;clear b2);go_ret;exact⟨rfl,j.O⟩
end Go.Proofs.YtkfblammcilfhaaGreatDoor
