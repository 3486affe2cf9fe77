import Derived.Lib.AppendStr
import Derived.Test.YtkfblammcilfhaaGreatDoorP13
import Derived.Test.YtkfblammcilfhaaGreatDoorP14
set_option linter.all false
set_option maxRecDepth 100000
set_option maxHeartbeats 100000000
open Go.ChangeShapes Go.WideShapes Go.ChangeAt Go.RowKit Go.Proofs.Tryz
open Go renaming World->aw,Calls->aF,bodyPost_end->dq,results_none->bT,bodyPost_ret->ax,results->aV,info_parts->cY,wpList_append_own->dM,wpOp_step->lC,results_tmp2->ew,TypeInfo->pO,grownCap->tA,setRow_heap->kQ,growslice_fits->rG,Oper->mJ,wpList->oD,wpList_plain->oB
open Ne renaming symm->jx
open Go.Proofs.Tryz renaming prog->af
open And renaming intro->dj
open Go.Lit renaming int->dU
open Go.RowKit.Below renaming refl->ao
open Nat renaming le_refl->aj,le_succ->cZ,zero_add->cO,lt_or_ge->iL
open Go.Instr renaming lookup->cD
open Option renaming isSome_none->fy,map_none->qc,getD_none->gy,none->I,some->Z
open List renaming getElem?_eq_some_iff->aS,getElem?_map->dE,getElem?_eq_getElem->ay,getD_eq_getElem?_getD->bE,length_eq_zero_iff->cU,map_append->fL,mem_append->bt,mem_of_mem_take->eZ,mem_of_mem_drop->ga,map_toArray->tu,map_cons->eV,map_nil->jk
open Go.Value renaming int->J,ownBlock->eR,slice->ae,bool->ai,pointer->aq,tuple->aB,agg->cg
open Option.some renaming injEq->bf
open Go.IntKind renaming i64->V,u32->ar,u8->bI
open Array renaming size_setIfInBounds->dh
open Go.Lib renaming join->mb,strCells->iP,byteCells->gD
open Go.Builtin renaming zeroCells->fM,append_->qe
open Go.Obj.cells renaming injEq->kG
open Go.Ending renaming returned->av
namespace Go.Proofs.YtkfblammcilfhaaGreatDoor
section
def wT(w:aw)(g pl cap:Nat)(l:List M.cQ):Prop:=∃q,ko w g pl cap q/\Fit (Dd w) l q
section
variable {w w':aw} {g pl cap:Nat}
theorem wJ{tr te:TypeId}{k:Nat}{w w':aw}{g pl cap:Nat}{q:List (List Value)}(h:RingM tr te k w g pl cap q)(u:cS (jK g pl) w w')(h1:tr≠5)(h2:tr≠41)(h3:te≠5)(h4:te≠41):Fr (jK g pl) w w':=
 .nY u h.typed (by simp;exact⟨jx h1,jx h3⟩) (by simp;exact⟨jx h2,jx h4⟩)
theorem wT.below{l:List M.cQ}(h:wT w g pl cap l)(b:aC w w'):wT w' g pl cap l:=by
 obtain⟨q,h1,h2⟩:=h;exact⟨q,h1.below b,h2.mono λx c k=>k.rows (.bn b)⟩
theorem MQ{l:List M.cQ}(h:wT w g pl cap l)(b:Sl)(xs:M.cQ)(o:b.B w xs)(j:b.n<=400) :
  aF af 70 #[aq (Z ⟨g,0,I⟩),ae b.a b.n b.c] w λr w'=>∃v:Value,r=av (aB #[v,ai (decide (l.length=cap)),J V 0])/\wT w' g pl cap (M.push cap l xs)/\Fr (jK g pl) w w':=by
 obtain⟨q,hR,hF⟩:=h;have A:=hF.length;by_cases i:l.length=cap
 ·cases l with
  |nil=>have:=hR.one;simp at i;omega
  |cons x p =>
   obtain⟨c,s,rfl,t,m⟩:=hF.cons_inv;obtain⟨C,rfl,D,_⟩:=t;refine(yJ g pl cap _ _ _ _ s w hR (by have:=m.length;simp at i;omega)).mono ?_;rintro r w' ⟨rfl,e,u⟩;have f:=wJ hR u aR aR aR aR;refine⟨_,by rw[decide_eq_true i],⟨_,e,?_⟩,f⟩;unfold M.push;rw[if_pos i];exact(m.mono λy d k=>k.rows f.r).snoc ⟨b,rfl,o.rows (.inl rfl) f.r,j⟩
 ·have hle:=hR.le;refine(yI g pl cap _ _ _ q w hR z).mono ?_;rintro r w' ⟨rfl,e,u⟩;have f:=wJ hR u aR aR aR aR;refine⟨_,by rw[decide_eq_false i],⟨_,e,?_⟩,f⟩;unfold M.push;rw[if_neg i];exact(hF.mono λy d k=>k.rows f.r).snoc ⟨b,rfl,o.rows (.inl rfl) f.r,j⟩
theorem Of{x:M.cQ}{l:List M.cQ}(h:wT w g pl cap (x::l)) :
  aF af 120 #[aq (Z ⟨g,0,I⟩)] w λr w'=>∃b:Sl,r=av (aB #[ae b.a b.n b.c,ai true])/\b.B w' x/\b.n<=400/\wT w' g pl cap l/\Fr (jK g pl) w w':=by
 obtain⟨q,hR,hF⟩:=h;obtain⟨c,j,rfl,m,e⟩:=hF.cons_inv;obtain⟨b,rfl,o,h4⟩:=m;refine(Kg g pl cap _ j w hR).mono ?_;rintro r w' ⟨rfl,i,u⟩;have f:=wJ hR u aR aR aR aR;exact⟨b,rfl,o.rows (.inl rfl) f.r,h4,⟨_,i,e.mono λp d k=>k.rows f.r⟩,f⟩
end
section
variable {B:RB} {R:M.Room} {N:Nat} {w:aw} (h:aL w B R N)
include h
theorem aL.Qb:wT w B.qg B.qp R.dA.aG R.dm:=h.part .dm
theorem aL.Qo:¬jK B.qg B.qp B.g:=by
 intro q;have:=h.vd .aG .dm B.g rfl q;cases this
end
end
section
theorem Ev{o:Option Nat}{a:Int}{b:Bool}(h:og o a b):b=o.isSome/\∀x,o=Z x->a=(x:Int):=by
 unfold og at h;cases o with
 |none=>exact⟨h,λx q=>by cases q⟩
 |some y=>exact⟨h.1,λx q=>by cases q;exact h.2⟩
theorem ca.FR{w:aw}{B:LB}{aG N:Nat}{aT:Int}{l:M.dP}(h:ca w B aG aT l N){o:Nat}(a:(l.eO aG).2=Z o):o<=1000000:=by
 obtain⟨q,hR,hF⟩:=h.ready;unfold M.dP.eO at a;cases hp:l.bF with
 |nil=>rw[hp]at a;cases a
 |cons y e =>
  rw[hp]at a;simp only at a;split at a
  ·cases hr:l.ready with
   |nil=>rw[hr]at a;cases a
   |cons f zs =>
    rw[hr]at a hF;obtain⟨c,g,rfl,b,_⟩:=hF.cons_inv;obtain⟨_,_,_,_,d⟩:=b;simp at a;subst a;exact d
  ·cases a
section
variable {B:RB} {R:M.Room} {N:Nat} {w:aw} (h:aL w B R N)
include h
theorem Cn(st s:Int)(a:Bool)(l:M.dP)(x:M.Item)(first:Bool)(r:List (M.Item×Bool))(Y:R.aD s=Z l)(hc:l.bF=(x,first)::r)(hs:0<=s/\s<6)(hN:N<1000000) :
  aF af 69 #[aq (Z ⟨B.g,0,I⟩),cg #[J V st,J V s],ai a] w λe w'=>∃B',e=av (aB #[])/\aL w' B' (R.fD s) N/\fK w w' B B':=by
 obtain⟨res,k⟩:=dH (R.fD s);rw[<-k];have e0:R.fD s=match(l.eO R.dA.aG).2 with | some t=>M.Room.bR { R with aD:=M.set R.aD s (Z (l.eO R.dA.aG).1) } s t 6 | none=>{ R with aD:=M.set R.aD s (Z (l.eO R.dA.aG).1) }:=by
  unfold M.Room.fD;rw[Y];cases hq:(l.eO R.dA.aG).2<;>simp[hq]
 obtain⟨L,hL,F⟩:=h.jq Y;have y:∀o,(l.eO R.dA.aG).2=Z o->o<=1000000:=λo ho=>F.FR ho;have G:∀W,ca W L R.dA.aG R.dA.aT l N->aF af 129 #[aq (Z ⟨L.g,0,I⟩)] W λe W'=>∃p:Int,e=av (aB #[J V p,ai (l.eO R.dA.aG).2.isSome,ai true])/\(∀x,(l.eO R.dA.aG).2=Z x->p=(x:Int))/\ca W' L R.dA.aG R.dA.aT (l.eO R.dA.aG).1 N/\Fr L.own W W':=λW hW =>
  (CM L R.dA.aG R.dA.aT l N W hW x first r hc).mono (by
   rintro e W' ⟨p,b,h1,h2,h3,h4⟩
   obtain⟨h5,h6⟩:=Ev h2
   exact⟨p,by rw[h1,h5],h6,h3,h4⟩)
 have m:=au G;clear G;generalize (l.eO R.dA.aG).2=o2 at e0 m y;generalize (l.eO R.dA.aG).1=l1 at e0 m;obtain⟨j,A,H0⟩:=bU (k.trans e0) (dj Y hL) h;have aI:(dU V s).wf=true:=Ig z z;have H:=h.lt;clear h F k e0 hc Y;go_enter func69,ntmps69;go_upto_region 1 with fail;obtain⟨r4,e4⟩:=dH w.heap.size;rw[<-e4];have E:aC w (w.alloc (.cells #[J V st,J V s] 40)):=(ao _ w).alloc (aj _) _;have K:∀i,B.all i->i≠r4:=λi hi=>by have:=H i hi;omega
 refine aW (λX=>aK X r4 40 #[J V st,J V s]/\aL X B R N/\aC w X) ⟨aK.newAt _ _ _ _ e4,H0.O.below E,E⟩ ?_;have df:=au K;clear e4 E H0 H K;rintro X ⟨b4,h,E⟩;have hD:=h.below (eW (ao X.drew.heap.size X.drew));have eI:(cD 54 (.map (Z B.lm)) (J V s) false).run af X.drew=.ok (aq (Z ⟨L.g,0,I⟩)) X.drew:=by
  have P:=hD.kW s aI;rw[hL]at P;exact P
 have Q:=h.cw.cell 12;have k1:=b4.cell 1;simp at Q k1;obtain⟨L',e',F⟩:=hD.jq A.O.1;rw[hL]at e';cases e';obtain⟨C,HD,gX,HA⟩:=cA F hD b4 E;clear h E b4 F hD hL;go_cut [6,7,8] (λa b c wc=>∃p:Int,a=J V p/\b=ai o2.isSome/\c=ai true/\(∀x,o2=Z x->p=(x:Int))/\∃B',aL wc B' { R with aD:=M.set R.aD s (Z l1) } N/\fK w wc B B'/\B'.bg=B.bg/\aK wc r4 40 #[J V st,J V s]);case first =>
  go_region_with (go_at_call 129;refine(m.O _ C.O).mono ?_;rintro e w9 ⟨p,rfl,n,mK,f⟩);all_goals
   go_wp2_with fail;go_meet;have P:=HD.O.qJ A.O.1 A.O.2 f mK rfl (λi q=>.inl q);exact⟨p,rfl,rfl,rfl,n,_,P.1,(⟨rfl,.bn (HA.O.trans (eW (ao X.drew.heap.size X.drew) |>.mono HA.O.size)),λi q=>.inl q⟩:fK w X.drew B B).trans P.2,rfl,gX.O.drew.dW f.u (λq=>df.O r4 ⟨.fo s,L,A.O.2,q⟩ rfl)⟩
 case rest =>
  obtain⟨p,rfl,rfl,rfl,n,B',hR,hS,S,b4⟩:=hcut;have hb:=hR.cw;rw[hS.g]at hb;have c0:=hb.cell 0;have k1:=b4.cell 1;simp at c0 k1;rw[S]at c0;obtain⟨HR,HS⟩:=bu hR hS;clear hR hS b4 hb eI Q;cases o2 with
  |none =>
   have d:=j;clear j m C n y;simp only[fy];go_wp2_with fail;first
    |refine dq (bT results69 _ _ _) rfl ?_
    |refine ax (v:=aB #[]) (by simp[aV,results69,go_sem]) rfl ?_
   first|exact⟨B',rfl,by rw[d.out];exact HR.O,HS.O⟩|exact⟨rfl,B',by rw[d.out];exact HR.O,HS.O⟩
  |some o =>
   have e1:=n o rfl;subst e1;have hi:=y o rfl;have d:=j;have D:=λW hW=>mz (w:=W) (B:=B') (R:={ R with aD:=M.set R.aD s (Z l1) }) (N:=N) hW s o 6 ⟨z,z⟩ hi z hN;rw[S]at D;have SG:=au D;clear D j m C n y;simp only[Option.isSome_some];go_wp2_with fail;go_region_with (go_at_call 114;refine(SG.O _ (HR.O.below (eW (ao _ _)))).mono ?_;rintro e w9 ⟨rfl,U,SH⟩);all_goals
    go_wp2_with fail;first
     |refine dq (bT results69 _ _ _) rfl ?_
     |refine ax (v:=aB #[]) (by simp[aV,results69,go_sem]) rfl ?_
    have T:=(HS.O.trans (⟨rfl,.bn (eW (ao _ _)),λi q=>.inl q⟩:fK _ _ B' B')).trans SH;first|exact⟨B',rfl,by rw[d.out];exact U,T⟩|exact⟨rfl,B',by rw[d.out];exact U,T⟩
end
end
section
theorem Gt(L:LB)(aG:Nat)(aT:Int)(l:M.dP)(N:Nat)(w:aw)(h:ca w L aG aT l N)(x:Nat×M.cQ)(r:List (Nat×M.cQ))(b:l.ready=x::r)(hg:l.eG=false)(k:N<=1000000)(a:Bool) :
  aF af 113 #[aq (Z ⟨L.g,0,I⟩),ai a] w λe w'=>∃c:LB,e=av (aB #[J V x.1,J V (l.write aT a).2.2,ai true])/\c.g=L.g/\(∀i,c.own i->L.own i\/w.heap.size<=i) /\
   ca w' c aG aT (l.write aT a).1 (N+1)/\Fr L.own w w':=by
 cases a with
 |true =>
  have d:l.write aT true=({ l with ready:=r,fF:=l.fF++[x],row:=0 },x.1,1):=by
   unfold M.dP.write;rw[b];simp[hg]
  rw[d];refine(zH L aG aT l N w h x r b hg k).mono ?_;rintro e w' ⟨m,rfl,n,j,f⟩;refine⟨{ L with ov:=m },rfl,rfl,?_,j,f⟩;rintro i (q|q|q|q|q)
  ·exact .inl (.inl q)
  ·exact .inl (.inr (.inl q))
  ·exact .inl (.inr (.inr (.inl q)))
  ·exact .inl (.inr (.inr (.inr (.inl q))))
  ·exact(n i q).imp (λo=>.inr (.inr (.inr (.inr o)))) id
 |false =>
  have d:l.write aT false=((if l.row+1=aT then { l with row:=l.row+1,eG:=true,cK:=[],bF:=[],ready:=[] } else { l with row:=l.row+1 }),x.1,(if l.row+1=aT then 7 else 0)):=by
   unfold M.dP.write;rw[b];by_cases q:l.row+1=aT
   ·simp[hg,q]
   ·simp[hg,q,b]
  rw[d];refine(Ax L aG aT l N w h x r b hg).mono ?_;rintro e w' ⟨rfl,j,f⟩;exact⟨L,rfl,rfl,λi q=>.inl q,j.mono (cZ N),f⟩
theorem K0(su:Int->Option M.Sub)(s:Int)(hm:M.fY s=true):BV su s=match su s with | some x=>if x.cL then M.set su s (Z ⟨x.own,false,0⟩) else su | none=>su:=by
 unfold BV BW;cases h:su s with
 |none=>simp[hm]
 |some x=>cases a:x.cL<;>simp[hm,a]
section
variable {B:RB} {R:M.Room} {N:Nat} {w:aw} (h:aL w B R N)
include h
theorem FN(st s:Int)(a:Bool)(l:M.dP)(x:Nat×M.cQ)(r:List (Nat×M.cQ))(hl:R.aD s=Z l)(hc:l.ready=x::r)(hg:l.eG=false)(Tl:x.1<=1000000)(hs:0<=s/\s<6)(hN:N<900000) :
  aF af 64 #[aq (Z ⟨B.g,0,I⟩),cg #[J V st,J V s],ai a] w λe w'=>∃B',e=av (aB #[])/\aL w' B' (R.jS s a) (N+2)/\fK w w' B B':=by
 obtain⟨res,y⟩:=dH (R.jS s a);rw[<-y];have e0:R.jS s a=M.nA (M.kg R s (l.write R.dA.aT a).1 x.1 (l.write R.dA.aT a).2.2) s (l.write R.dA.aT a).1.eG:=by
  have hid:(l.write R.dA.aT a).2.1=x.1:=by
   unfold M.dP.write;rw[hc];simp[hg];split<;>(try split)<;>rfl
  rw[M.kh,hl,<-hid]
 obtain⟨L,hL,hA⟩:=h.jq hl;have G:=au (λW hW=>Gt L R.dA.aG R.dA.aT l N W hW x r hc hg z a);generalize (l.write R.dA.aT a).2.2=fa at e0 G;generalize (l.write R.dA.aT a).1=l1 at e0 G;obtain⟨T,A,H0⟩:=bU (y.trans e0) (dj hl hL) h;have SQ:(dU V s).wf=true:=Ig z z;have SU:=h.lt;clear h hA y e0 hc hl hg;go_enter func64,ntmps64;go_upto_region 1 with fail;obtain⟨r4,e4⟩:=dH w.heap.size;rw[<-e4];have al:aC w (w.alloc (.cells #[J V st,J V s] 40)):=(ao _ w).alloc (aj _) _;have H:∀i,B.all i->i≠r4:=λi hi=>by have:=SU i hi;omega
 refine aW (λX=>aK X r4 40 #[J V st,J V s]/\aL X B R N/\aC w X) ⟨aK.newAt _ _ _ _ e4,H0.O.below al,al⟩ ?_;have SV:=au H;clear e4 al H0 SU H;rintro X ⟨b4,h,al⟩;have hD:=h.below (eW (ao X.drew.heap.size X.drew));have Tm:(cD 54 (.map (Z B.lm)) (J V s) false).run af X.drew=.ok (aq (Z ⟨L.g,0,I⟩)) X.drew:=by
  have j:=hD.kW s SQ;rw[hL]at j;exact j
 have SW:(cD 54 (.map (Z B.lm)) (J V s) false).run af X=.ok (aq (Z ⟨L.g,0,I⟩)) X:=by
  have j:=h.kW s SQ;rw[hL]at j;exact j
 have SX:=h.cw.cell 12;have p:=b4.cell 1;simp at SX p;obtain⟨HX,m,HA⟩:=bU h b4 al;clear h al b4 hD hL;go_upto_region 2 with fail;go_region;clear Tm SW SX p;have hD:=HX.O.below (eW (ao X.drew.heap.size X.drew));have HD:=au hD;obtain⟨L',e',hA⟩:=hD.jq A.O.1;rw[A.O.2]at e';cases e';have SY:=au hA;clear hD hA;go_upto_region 3 with(go_big_may;go_at_call 113;refine(G.O _ SY.O).mono ?_;rintro e w1 ⟨F,rfl,aI,U,SZ,f⟩)
 have j:=(HD.O.mono (cZ N)).qJ A.O.1 A.O.2 f SZ aI U;obtain⟨HR,HS⟩:=bu j.1 ((⟨rfl,.bn (HA.O.trans (eW (ao X.drew.heap.size X.drew) |>.mono HA.O.size)),λi q=>.inl q⟩:fK w X.drew B B).trans j.2);have df:∀i,({ B with lb:=M.set B.lb s (Z F) }:RB).all i->i≠r4:=λi hi e=>by
  rcases j.2.own i hi with q|q
  ·exact SV.O i q e
  ·have e1:=m.O.drew.lt;omega
 have b4:=m.O.drew.dW f.u (λq=>SV.O r4 ⟨.fo s,L,A.O.2,q⟩ rfl);clear j SZ f;have Ta:M.set R.aD s (Z l1) s=Z l1:=by simp[M.set]
 have Tb:M.set B.lb s (Z F) s=Z F:=by simp[M.set]
 have n:({ B with lb:=M.set B.lb s (Z F) }:RB).bg=B.bg:=rfl;have K:({ B with lb:=M.set B.lb s (Z F) }:RB).g=B.g:=rfl;have eI:({ B with lb:=M.set B.lb s (Z F) }:RB).t=B.t:=rfl;have gX:({ R with aD:=M.set R.aD s (Z l1) }:M.Room).aD s=Z l1:=Ta;have mK:({ B with lb:=M.set B.lb s (Z F) }:RB).lb s=Z F:=Tb;have Tc:M.kg R s l1 x.1 fa=if fa=1 then M.Room.bR { R with aD:=M.set R.aD s (Z l1) } s x.1 1 else { R with aD:=M.set R.aD s (Z l1) }:=rfl
 have P:=T.O;rw[Tc]at P;generalize ({ B with lb:=M.set B.lb s (Z F) }:RB)=c at HR HS n K eI mK df;generalize ({ R with aD:=M.set R.aD s (Z l1) }:M.Room)=R1 at HR P gX;obtain⟨d,b,C,Td⟩:=cA P (dj n (dj K (dj eI (dj gX (dj mK aI))))) b4 df;have o:=HR.O.cw.cell 0;have p:=b4.cell 1;rw[K]at o;simp at o p;rw[n]at o;clear Tc P T n K eI gX mK df b4 Ta Tb G SY HD m aI U;obtain⟨k,Q⟩:=dH (if fa=1 then M.Room.bR R1 s x.1 1 else R1);rw[<-Q]at d;have Y:k.aD s=Z l1:=by
  rw[Q];split
  ·rw[sV];exact b.O.2.2.2.1
  ·exact b.O.2.2.2.1
 obtain⟨Te,Tf⟩:=bu Q Y;clear Q Y;go_upto_if 28 with fail;go_cut [6,8] (λq _ wc=>q=aq (Z ⟨L.g,0,I⟩)/\aL wc c k (N+1)/\fK w wc B c/\aK wc r4 40 #[J V st,J V s]);case first =>
  by_cases hf:fa=1
  ·have e2:k=M.Room.bR R1 s x.1 1:=by rw[Te.O,if_pos hf]
   have SG:=λW hW=>mz (w:=W) (B:=c) (R:=R1) (N:=N+1) hW s x.1 1 ⟨z,z⟩ Tl z z;rw[b.O.1]at SG;obtain⟨Tn,SH⟩:=bu SG e2;have H:(fa==1)=true:=by simpa using hf
   clear SG e2;go_wp2_with fail;go_region_with (go_at_call 114;refine(Tn.O _ (HR.O.below (eW (ao _ _)))).mono ?_;rintro e w9 ⟨rfl,To,Tg⟩);all_goals
    go_wp2_with fail;go_meet;exact⟨rfl,by rw[SH.O];exact To,(HS.O.trans (⟨rfl,.bn (eW (ao _ _)),λi q=>.inl q⟩:fK _ _ c c)).trans Tg,C.O.drew.dW Tg.fr.u (λq=>Td.O _ q rfl)⟩
  ·have e2:k=R1:=by rw[Te.O,if_neg hf]
   have H:(fa==1)=false:=by simpa using hf
   have SH:=au e2;clear e2;go_wp2_with fail;go_meet;exact⟨rfl,by rw[SH.O];exact HR.O,HS.O,C.O⟩
 case rest =>
  obtain⟨rfl,hR,hS,b4⟩:=hcut;obtain⟨L',e',hA⟩:=hR.jq Tf.O;rw[b.O.2.2.2.2.1]at e';cases e';have SI:=qK F k.dA.aG k.dA.aT l1 (N+1) wc hA;rw[b.O.2.2.2.2.2]at SI;have S:=au SI;have o:=hR.cw.cell 0;rw[b.O.2.1]at o;have p:=b4.cell 1;simp at o p;rw[b.O.1]at o;obtain⟨D,SJ,m⟩:=bU hR hS b4;clear hR hS b4 hA SI C HR HS;cases Th:l1.eG with
  |false =>
   rw[Th]at S d;go_wp2_with (go_at_call 46;refine S.O.mono ?_;rintro e w8 ⟨rfl,SK⟩;have E:=SK.symm;subst E);first
    |refine dq (bT results64 _ _ _) rfl ?_
    |refine ax (v:=aB #[]) (by simp[aV,results64,go_sem]) rfl ?_
   have j:aL wc c res (N+2):=by
    rw[d.O];exact D.O.mono z
   first|exact⟨c,rfl,j,SJ.O⟩|exact⟨rfl,c,j,SJ.O⟩
  |true =>
   rw[Th]at S d;go_upto_region 6 with(go_big_may;go_at_call 46;refine S.O.mono ?_;rintro e w8 ⟨rfl,SK⟩;have E:=SK.symm;subst E)
   have SL:=λW (hW:aL W c k (N+1))=>yx c.bg c.bm (N+1) k.di s 7 W (hW.part .di) z z;rw[b.O.1]at SL;have Tp:=au SL;clear SL o p;have o:=D.O.cw.cell 0;rw[b.O.2.1]at o;have p:=m.O.cell 1;simp at o p;rw[b.O.1]at o;go_cut [] (λwd=>aL wd c { k with di:=BN k.di s 7 } (N+1)/\fK w wd B c/\aK wd r4 40 #[J V st,J V s]);case first =>
    go_region_with (go_at_call 93;refine(Tp.O _ (D.O.below (eW (ao _ _)))).mono ?_;rintro e w9 ⟨⟨v,rfl⟩,Tq,u⟩);all_goals
     go_wp2_with fail;go_meet;have n:eD wc c.bg c.bm k.di (N+1):=D.O.part .di;have f9:Fr (One c.bm) wc w9:=(Fr.bn (eW (ao _ _))).step (Fr.jT u (λi hi=>by cases hi;exact(n.below (eW (ao _ _))).ni _ (.inr rfl))) (λi q=>.inl q);have j:=D.O.ve f9 (by rw[b.O.1];exact Tq);exact⟨j.1,SJ.O.trans j.2,m.O.dW f9.u (λq=>Td.O r4 ⟨.di,.inr q⟩ rfl)⟩
   case rest =>
    obtain⟨SM,Ti,Tj⟩:=hcut;clear o p;have SN:=SM.cw.cell 11;rw[b.O.2.1]at SN;have p:=Tj.cell 1;simp at SN p;rw[b.O.2.2.1]at SN;have SO:=λW (hW:aL W c { k with di:=BN k.di s 7 } (N+1))=>yC c.t k.cW k.aQ k.bh (N+1) W (hW.part .table) s z;rw[b.O.2.2.1]at SO;obtain⟨Tr,SP,Tk⟩:=bU SO SM Ti;clear SO SM Ti Tj;go_wp2_with fail;go_region_with (go_at_call 115;refine(Tr.O _ (SP.O.below (eW (ao _ _)))).mono ?_;rintro e w9 ⟨rfl,Ts,u⟩);all_goals
     go_wp2_with fail;first
      |refine dq (bT results64 _ _ _) rfl ?_
      |refine ax (v:=aB #[]) (by simp[aV,results64,go_sem]) rfl ?_
     have Tt:fA wc c.t k.cW k.aQ k.bh (N+1):=SP.O.part .table;have f9:Fr c.t.own wc w9:=(Fr.bn (eW (ao _ _))).step (Fr.jT (u.mono λi _ q=>by rw[b.O.2.2.1];exact q) (Tt.below (eW (ao _ _))).ni) (λi q=>.inl q);have j:=(SP.O.mono (cZ (N+1))).kS f9 (by rw[b.O.2.2.1];exact Ts);have zz:aL w9 c res (N+2):=by
      rw[d.O];have e9:=j.1;rw[K0 k.bh s (by simp[M.fY];omega)]at e9;exact e9
     first|exact⟨c,rfl,zz,Tk.O.trans j.2⟩|exact⟨rfl,c,zz,Tk.O.trans j.2⟩
end
end
section
def qW(o:Option M.dP):Value:=match o with
 |none=>aB #[cg #[J V 0,J V 0],cg #[J V 0,J V 0,J V 0],ai false,ai false]
 |some l=>aB #[cg #[J V l.dx,J V l.fh],cg #[J V l.cK.length,J V l.bF.length,J V l.ready.length],ai l.eG,ai true]
section
variable {B:RB} {R:M.Room} {N:Nat} {w:aw} (h:aL w B R N)
include h
theorem AZ(s:Int)(T:(dU V s).wf=true):aF af 15 #[aq (Z ⟨B.g,0,I⟩),J V s] w λe w'=>e=av (qW (R.aD s))/\aC w w':=by
 have H0:=au h;obtain⟨res,d⟩:=dH (qW (R.aD s));rw[<-d];have k:=au d;clear h d;go_enter func15,ntmps15;go_upto_region 1 with fail;obtain⟨r4,U⟩:=dH w.heap.size;obtain⟨r5,e5⟩:=dH (w.heap.size+1);rw[<-e5,<-U];have c:aC w ((w.alloc (.cells #[J V 0,J V 0] 68)).alloc (.cells #[J V 0,J V 0,J V 0] 69)):=((ao _ w).alloc (aj _) _).alloc dt _;refine aW (λX=>aK X r4 68 #[J V 0,J V 0]/\aK X r5 69 #[J V 0,J V 0,J V 0]/\aL X B R N/\aC w X) ⟨(aK.newAt _ _ _ _ U).alloc _,aK.newAt _ _ _ _ (by simp[e5]),H0.O.below c,c⟩ ?_;have g4:w.heap.size<=r4:=z;have g5:w.heap.size<=r5:=z;have n45:r4≠r5:=z;clear U e5 c H0;rintro X ⟨b4,b5,h,c⟩;have C:=h.cw.cell 12;simp at C;have f:=h.uS s T;cases m:R.aD s with
 |none =>
  rw[m,h.CG m]at f;simp only[qc,gy,fy]at f;have j0:=b4.cell 0;have j1:=b4.cell 1;have i0:=b5.cell 0;have i1:=b5.cell 1;have i2:=b5.cell 2;have f0:=b4.frozen 0;have f1:=b4.frozen 1;have y0:=b5.frozen 0;have y1:=b5.frozen 1;have y2:=b5.frozen 2;simp at j0 j1 i0 i1 i2;obtain⟨n,q⟩:=bu c m;have aI:=((((b4.bC 0 (J V 0)).bC 1 (J V 0)).dS (p:=⟨r5,0,I⟩) n45 (J V 0)).dS (p:=⟨r5,1,I⟩) n45 (J V 0)).dS (p:=⟨r5,2,I⟩) n45 (J V 0);have Y:=((((b5.dS (p:=⟨r4,0,I⟩) (jx n45) (J V 0)).dS (p:=⟨r4,1,I⟩) (jx n45) (J V 0)).bC 0 (J V 0)).bC 1 (J V 0)).bC 2 (J V 0);have z0:=aI.cell 0;have D:=aI.cell 1;have E:=Y.cell 0;have F:=Y.cell 1;have G:=Y.cell 2;simp at z0 D E F G;clear h c b4 b5 m T aI Y;go_wp2_with fail;refine ax (v:=aB #[cg #[J V 0,J V 0],cg #[J V 0,J V 0,J V 0],ai false,ai false]) (by simp[aV,results15,go_sem,z0,D,E,F,G]) rfl ⟨by rw[k.O,q.O];rfl,?_⟩;exact((((n.O.setCell (p:=⟨r4,0,I⟩) g4 _).setCell (p:=⟨r4,1,I⟩) g4 _).setCell (p:=⟨r5,0,I⟩) g5 _).setCell (p:=⟨r5,1,I⟩) g5 _).setCell (p:=⟨r5,2,I⟩) g5 _
 |some l =>
  obtain⟨L,hL,r⟩:=h.jq m;rw[m,hL]at f;have H:(cD 54 (.map (Z B.lm)) (J V s) true).run af X=.ok (aB #[aq (Z ⟨L.g,0,I⟩),ai true]) X:=f;have q:=au m;clear f;obtain⟨K,M,i,j,n⟩:=gY (vH L R.dA.aG R.dA.aT l N X r) r b4 b5 c;clear h r b4 b5 c m hL T;go_upto_region 5 with(go_big_may;go_at_call 44;refine K.O.mono ?_;rintro e w1 ⟨rfl,b1⟩)
  obtain⟨t,u⟩:=dH w1.heap.size;rw[<-u];have b2:aC X (w1.alloc (.cells #[J V l.dx,J V l.fh] 68)):=b1.alloc b1.size _;have SG:t≠r4/\t≠r5:=⟨by have:=i.O.lt;have:=b1.size;omega,by have:=j.O.lt;have:=b1.size;omega⟩;refine aW (λY=>aK Y t 68 #[J V l.dx,J V l.fh]/\aK Y r4 68 #[J V 0,J V 0]/\aK Y r5 69 #[J V 0,J V 0,J V 0]/\ca Y L R.dA.aG R.dA.aT l N/\aC w Y) ⟨aK.newAt _ _ _ _ u,i.O.kept b2,j.O.kept b2,M.O.below b2,n.O.trans (b2.mono n.O.size)⟩ ?_;clear u b1 b2 i j M n H C K X;rintro X ⟨x,b4,b5,r,c⟩;have k0:=x.cell 0;have k1:=x.cell 1;simp at k0 k1;obtain⟨HL,i,j,n,df,eI⟩:=lH r b4 b5 c (JN L R.dA.aG R.dA.aT l N X.drew (r.below (eW (ao _ _)))) (λW hW=>qK L R.dA.aG R.dA.aT l N W hW);clear x b4 b5 r c;go_cut [6,7] (λa b wc=>a=ai l.eG/\b=ai true/\aK wc r4 68 #[J V l.dx,J V l.fh]/\aK wc r5 69 #[J V l.cK.length,J V l.bF.length,J V l.ready.length]/\aC w wc);case first =>
   go_region_with (first
    |(go_at_call 45;refine df.O.mono ?_;rintro e w9 ⟨rfl,b9⟩;have y:aC X w9:=(by with_reducible exact eW b9);have q0:=aM y k0;have q1:=aM y k1;have A:=i.O.kept y;have o:=j.O.kept y;have j0:=A.cell 0;have j1:=A.cell 1;have i0:=o.cell 0;have i1:=o.cell 1;have i2:=o.cell 2;have f0:=A.frozen 0;have f1:=A.frozen 1;have y0:=o.frozen 0;have y1:=o.frozen 1;have y2:=o.frozen 2;simp at j0 j1 i0 i1 i2;have P:=au y;have Q:=au A;have S:=au o;clear y b9 A o)
    |(go_at_call 46;refine(eI.O w9 (HL.O.below P.O)).mono ?_;rintro e SH ⟨rfl,hw⟩;have gX:=hw.symm;subst gX))
   all_goals
    go_wp2_with fail;go_meet;have bb:=n.O.trans (P.O.mono n.O.size);first
     | exact⟨rfl,rfl,by simpa using((((Q.O.bC 0 (J V l.dx)).bC 1 (J V l.fh)).dS (p:=⟨r5,0,I⟩) n45 (J V l.cK.length)).dS (p:=⟨r5,1,I⟩) n45 (J V l.bF.length)).dS (p:=⟨r5,2,I⟩) n45 (J V l.ready.length),
       by simpa using((((S.O.dS (p:=⟨r4,0,I⟩) (jx n45) (J V l.dx)).dS (p:=⟨r4,1,I⟩) (jx n45) (J V l.fh)).bC 0 (J V l.cK.length)).bC 1 (J V l.bF.length)).bC 2 (J V l.ready.length),
       ((((bb.setCell (p:=⟨r4,0,I⟩) g4 _).setCell (p:=⟨r4,1,I⟩) g4 _).setCell (p:=⟨r5,0,I⟩) g5 _).setCell (p:=⟨r5,1,I⟩) g5 _).setCell (p:=⟨r5,2,I⟩) g5 _⟩
     | exact⟨rfl,rfl,by simpa using((((Q.O.dS (p:=⟨r5,0,I⟩) n45 (J V l.cK.length)).dS (p:=⟨r5,1,I⟩) n45 (J V l.bF.length)).dS (p:=⟨r5,2,I⟩) n45 (J V l.ready.length)).bC 0 (J V l.dx)).bC 1 (J V l.fh),
       by simpa using((((S.O.bC 0 (J V l.cK.length)).bC 1 (J V l.bF.length)).bC 2 (J V l.ready.length)).dS (p:=⟨r4,0,I⟩) (jx n45) (J V l.dx)).dS (p:=⟨r4,1,I⟩) (jx n45) (J V l.fh),
       ((((bb.setCell (p:=⟨r5,0,I⟩) g5 _).setCell (p:=⟨r5,1,I⟩) g5 _).setCell (p:=⟨r5,2,I⟩) g5 _).setCell (p:=⟨r4,0,I⟩) g4 _).setCell (p:=⟨r4,1,I⟩) g4 _⟩
  case rest =>
   obtain⟨rfl,rfl,b4,b5,c⟩:=hcut;have z0:=b4.cell 0;have D:=b4.cell 1;have E:=b5.cell 0;have F:=b5.cell 1;have G:=b5.cell 2;simp at z0 D E F G;have mK:=au c;clear b4 b5 c k0 k1;go_wp2_with fail;refine ax (v:=qW (Z l)) (by simp[aV,results15,go_sem,z0,D,E,F,G,qW]) rfl ⟨by rw[k.O,q.O],mK.O⟩
end
end
section
theorem LF(w:aw):∀(x:Nat×M.cQ) c,mG w x c->∀u∈c,u.oneCell'=true:=by
 rintro x c ⟨b,rfl,_⟩ u hu;simp at hu;rcases hu with rfl|rfl<;>rfl
theorem DP(w:aw):∀(x:Nat×M.cQ) c,mG w x c->c.length=2:=by
 rintro x c ⟨b,rfl,_⟩;rfl
theorem CV(v:Value)(n:Nat)(l:List (Nat×M.cQ))(q:List (List Value))(w:aw)(own:w.ownsRow 0 80 2 v n q.flatten)(fit:Fit (mG w) l q)(G:n<=1000000) :
  aF af 81 #[v] w λe w'=>∃s,e=av s/\w'.ownsRow w.heap.size 80 2 s n q.flatten/\aC w w':=by
 obtain⟨i0,t,f,h,i⟩:=cY wu;obtain⟨B,k,m,o⟩:=cA t f h i;clear t f h i;have a:=fit.one (LF w);have hlen:=own.1;rcases own.2 with⟨rfl,rfl⟩ | ⟨g,cap,dx,rfl,_⟩
 ·have he:∀W:aw,(binOp .eql 63 (ae I 0 0) (ae I 0 0)).run af W=.ok (ai true) W:=λ_=>rfl;have ky:w.ownsRow w.heap.size 80 2 (ae I 0 0) 0 q.flatten:=⟨hlen,.inl ⟨rfl,rfl⟩⟩;have p:=au ky;clear own ky a hlen fit;go_enter func81,ntmps81;go_wp2_with fail;go_ret;exact⟨_,rfl,p.O,ao _ _⟩
 ·have he:∀W:aw,(binOp .eql 63 (ae (Z ⟨g,0,I⟩) n cap) (ae I 0 0)).run af W=.ok (ai false) W:=λ_=>rfl;have b:=sZ (aK.new w 80 #[]) (base:=w.heap.size) (e:=80) (size:=2) (aj _);have x:=((ao w.heap.size w).alloc (aj _) (.cells #[] 80));have y:∀j u,q.flatten[j]? = Z u->(w.alloc (.cells #[] 80)).cell? ((⟨g,0,I⟩:Addr).add j)=Z u:=λj u hu=>by
   have r:j<n*2:=by rw[<-hlen];exact(aS.1 hu).1
   have e:=own.cellAt j r;rw[hu]at e;rw[add_lit,cO];exact ea e
  obtain⟨C,D,E,H1⟩:=cA y hlen x a;clear y hlen x own a fit;go_enter func81,ntmps81;go_wp2_with (at_builtin;go_loud (refine dM _ rfl _ _ 63 rfl w.heap.size 80 i0 vh 2 32 underlying63 B.O k.O m.O o.O rfl aR _ _ _ rfl b ⟨g,0,I⟩ n cap q.flatten rfl D.O C.O H1.O ?c3 ?c4 ?c5 ?_));case c3=>unfold maxLen;omega
  case c4=>omega
  case c5=>simp
  intro v5 w5 c g5 _;have d:w5.ownsRow w.heap.size 80 2 v5 n q.flatten:=by simpa using c
  have A:aC w w5:=E.O.grown g5 dt (λj r=>by have:=(b.lt j r).1;omega);obtain⟨p,F⟩:=bu d A;clear b c d g5 A;go_wp2_with fail;go_ret;exact⟨_,rfl,p.O,F.O⟩
theorem Di(B:LB)(aG:Nat)(aT:Int)(l:M.dP)(N:Nat)(w:aw)(h:ca w B aG aT l N)(hN:N<=1000000) :
  aF af 36 #[aq (Z ⟨B.g,0,I⟩)] w λe w'=>∃(v:Value) (q:List (List Value)),e=av v/\w'.ownsRow w.heap.size 80 2 v l.fF.length q.flatten/\Fit (mG w') l.fF q/\aC w w':=by
 obtain⟨q0,C,f⟩:=h.fF;have c0:=h.cw.cell 0;simp at c0;have SG:=h.small;obtain⟨F,G⟩:=bu (CV B.ov l.fF.length l.fF q0 w C f z) f;clear h C f;go_enter func36,ntmps36;go_wp2_with (go_at_call 81;refine F.O.mono ?_;rintro e w1 ⟨v,rfl,own,b1⟩;obtain⟨A,c,rfl⟩:=bA own;have HW:=au own;have E:=au b1;clear own b1);go_loopw [4,12] (λ_ i wr=>∃(k:Nat) (q:List (List Value)),i=J V k/\k<=l.fF.length/\wr.ownsRow w.heap.size 80 2 (ae A l.fF.length c) l.fF.length q.flatten/\Fit (mG wr) l.fF q/\aC w wr) (λ_ i _=>l.fF.length-(intOf i).toNat);case atStart=>exact⟨0,q0,rfl,z,HW.O,G.O.mono (λx c k=>k.rows (.bn E.O)),E.O⟩
 case round =>
  clear HW E G F c0;obtain⟨k,q,rfl,hk,own,fit,H⟩:=hrel;by_cases T:k<l.fF.length
  ·obtain⟨x,d,hx,U,b,rfl,W,X,hi⟩:=fit.MD T;obtain⟨r,cap,Y,SH,m⟩:=jZ own (fit.len (DP wr)) z;injection Y with Y e2 e3
   subst Y e3;have k1:=m k _ U 1 z;simp at k1;have fz:=λj=>own.frozenAt j;have SI:=H.size;obtain⟨K,HX,aI,o,s,u,SJ⟩:=lV (mC b.a b.n b.c x.2 wr W.tl z W.zero) hx U own fit H fz;clear hx U own fit H m fz W;go_wp2_with fail;refine K.O.mono ?_;rintro e w4 ⟨⟨R,S,rfl,hT,hle,df,hz⟩,b4⟩;have t:=qI o.O b4;have SK:=t.frozenAt (k*2+1);have d1:=aM b4 k1;obtain⟨L,P,eI⟩:=bU t b4 (⟨hT,hle,df,hz⟩:Sl.B w4 ⟨R,b.n,S⟩ x.2);clear t b4 hT;go_wp2_with fail;go_roundw;case rel =>
    have D:Fit (mG w4) l.fF q:=s.O.mono λy d gX=>gX.rows (.bn P.O);obtain⟨dx,hB,mK⟩:=Iu L.O;have Q:Rows w4 (w4.setCell ⟨r,k*2+1,I⟩ (ae R b.n S)):=(Rows.refl w4).setCell hB aR aR _ _;have st:=(L.O.stored (k*2+1) (ae R b.n S)).1;rw[zP (D.len (DP w4)) k 1 _ _ z aI.O]at st;refine⟨k+1,_,by go_num,z,st,?_,((u.O.trans (P.O.mono u.O.size)).setCell (p:=⟨r,k*2+1,I⟩) mK _)⟩;exact(D.mono λy d gX=>gX.rows Q).set HX.O ⟨⟨R,b.n,S⟩,rfl,eI.O.rows (.inl rfl) Q,X,hi⟩
   case measure=>simp[intOf];omega
  ·obtain⟨o,s,u⟩:=bU own fit H;clear own fit H;go_wp2_with fail;go_ret;exact⟨_,q,rfl,o.O,s.O,u.O⟩
section
variable {B:RB} {R:M.Room} {N:Nat} {w:aw} (h:aL w B R N)
include h
theorem tL(s:Int)(k:(dU V s).wf=true)(m:N<=1000000):aF af 13 #[aq (Z ⟨B.g,0,I⟩),J V s] w λe w'=>∃(v:Value) (q:List (List Value)),e=av v/\w'.ownsRow w.heap.size 80 2 v (M.kA R s).length q.flatten/\Fit (mG w') (M.kA R s) q/\aC w w':=by
 have d:=h.cw.cell 12;simp at d;have a:=h.uS s k;cases b:R.aD s with
 |none =>
  have c:M.kA R s=[]:=by unfold M.kA;rw[b]
  rw[b,h.CG b]at a;simp only[qc,gy,fy]at a;rw[c];clear h b c;go_enter func13,ntmps13;go_wp2_with fail;go_ret;exact⟨ae I 0 0,[],rfl,⟨rfl,.inl ⟨rfl,rfl⟩⟩,trivial,ao _ _⟩
 |some l =>
  obtain⟨L,f,i⟩:=h.jq b;rw[b,f]at a;have j:(cD 54 (.map (Z B.lm)) (J V s) true).run af w=.ok (aB #[aq (Z ⟨L.g,0,I⟩),ai true]) w:=a;have c:M.kA R s=l.fF:=by unfold M.kA;rw[b]
  rw[c];have n:=au (Di L R.dA.aG R.dA.aT l N w i m);clear h i b f a c;go_enter func13,ntmps13;go_wp2_with (go_at_call 36;refine n.O.mono ?_;rintro e w1 ⟨v,q,rfl,own,fit,b1⟩;have o:=au own;have p:=au fit;have r:=au b1;clear own fit b1);go_ret;exact⟨v,q,rfl,o.O,p.O,r.O⟩
end
end
section
structure pL(w:aw)(A:Option Addr)(n c:Nat)(xs:List Int):Prop where
 len:xs.length=n
 wf:∀x∈xs,(dU bI x).wf=true
 cells:0<n->∃b off,A=Z ⟨b,off,I⟩/\∀i,i<n->w.cell? ⟨b,off+i,I⟩=Z (J bI (xs.getD i 0))
 zero:A=I->c=0
theorem pL.below{w w':aw}{A:Option Addr}{n c:Nat}{xs:List Int}(h:pL w A n c xs)(b:aC w w'):pL w' A n c xs:=
 ⟨h.len,h.wf,λh0=>by
  obtain⟨g,off,e,k⟩:=h.cells h0
  exact⟨g,off,e,λi a=>aM b (k i a)⟩,h.zero⟩
theorem pL.of{w:aw}{d:Sl}{xs:List Int}(h:d.B w xs):pL w d.a d.n d.c xs:=
 ⟨h.tl.1,h.tl.2.1,λh0=>by
  obtain⟨b,off,cs,e,f,k⟩:=h.tl.2.2 h0
  exact⟨b,off,e,λi g=>(f.cell _).trans (k i g)⟩,h.zero⟩
theorem pL.iX{w:aw}{a:Addr}{n c:Nat}{xs:List Int}(h:pL w (Z a) n c xs):∀j u,(xs.map (J bI))[j]? = Z u->w.cell? (a.add j)=Z u:=by
 intro j u hu;rw[dE]at hu;have b:j<xs.length:=by
  rcases iL j xs.length with h|h
  ·exact h
  ·rw[List.getElem?_eq_none h]at hu;simp at hu
 have f:=h.len;obtain⟨g,d,he,e⟩:=h.cells z;simp only[bf]at he;subst he;rw[ay b]at hu;rw[add_lit,e j z,bE,ay b];simpa using hu
theorem CW(a:Addr)(n c:Nat)(xs:List Int)(w:aw)(hw:∀x∈xs,(dU bI x).wf=true)(s:xs.length=n)(f:∀j u,(xs.map (J bI))[j]? = Z u->w.cell? (a.add j)=Z u)(hm:n<=100000) :
  aF af 57 #[ae (Z a) n c] w λe w'=>(∃m k,e=av (ae m n k)/\TL 5 bI w' m n xs/\n<=k/\k<=maxLen/\(m=I->k=0))/\aC w w':=by
 obtain⟨i0,t,g,h,i⟩:=cY Tryz.zL;obtain⟨F,o,p,r⟩:=cA t g h i;clear t g h i;have own:=sZ (aK.new w 5 #[]) (base:=w.heap.size) (e:=5) (size:=1) (aj _);have v:=((ao w.heap.size w).alloc (aj _) (.cells #[] 5));have y:∀j u,(xs.map (J bI))[j]? = Z u->(w.alloc (.cells #[] 5)).cell? (a.add j)=Z u:=λj u hu=>by
  have l:=f j u hu;rw[World.cell?_alloc_lt _ _ _ (by
   rcases iL (a.add j).block w.heap.size with q|q
   ·exact q
   ·unfold World.cell? at l;rw[Array.getElem?_eq_none q]at l;cases l)]
  exact l
 have he:∀W:aw,(binOp .eql 38 (ae (Z a) n c) (ae I 0 0)).run af W=.ok (ai false) W:=λ_=>rfl;obtain⟨G,H,K⟩:=bU y hw s;clear y hw s f;go_enter func57,ntmps57;go_wp2_with (at_builtin;go_loud (refine dM _ rfl _ _ 38 rfl w.heap.size 5 i0 (J bI 0) 1 1 underlying38 F.O o.O p.O r.O rfl aR _ _ _ rfl own a n c (xs.map (J bI)) rfl (by simp[K.O]) G.O uQ ?c3 ?c4 ?c5 ?_));case c3=>unfold maxLen;omega
 case c4=>omega
 case c5=>simp
 intro v5 w5 d g5 _;have b:w5.ownsRow w.heap.size 5 1 v5 n (xs.map (J bI)):=by simpa using d
 obtain⟨A,c5,rfl,B,C,D⟩:=TL.own b H.O;have E:A=I->c5=0:=wo b;obtain⟨L,M,N,P⟩:=cA B C D E;have Q:aC w w5:=v.grown g5 dt (λj R=>by have:=(own.lt j R).1;omega);clear own d b g5 B C D v E;go_wp2_with fail;go_ret;exact⟨⟨A,c5,rfl,N.O,L.O,M.O,P.O⟩,Q⟩
theorem yq(A:Option Addr)(n c:Nat)(xs:List Int)(w:aw)(h:pL w A n c xs)(hm:n<=100000) :
  aF af 57 #[ae A n c] w λe w'=>(∃f d,e=av (ae f n d)/\TL 5 bI w' f n xs/\n<=d/\d<=maxLen/\(f=I->d=0))/\aC w w':=by
 cases A with
 |some a=>exact CW a n c xs w h.wf h.len h.iX hm
 |none =>
  have g:n=0:=by
   rcases Nat.eq_zero_or_pos n with q|q
   ·exact q
   ·obtain⟨b,off,e,_⟩:=h.cells q;cases e
  have i:xs=[]:=by have:=h.len;rw[g]at this;exact cU.1 this
  subst i;refine(mC I n c [] w ⟨h.len,h.wf,λq=>z⟩ hm h.zero).mono λe w' k=>k
section
variable {B:RB} {R:M.Room} {N:Nat} {w:aw} (h:aL w B R N)
include h
theorem tO(j:Sl)(b:M.cQ)(y:pL w j.a j.n j.c b)(Y:j.n<=400)(hN:N<=900000) :
  aF af 26 #[aq (Z ⟨B.g,0,I⟩),ae j.a j.n j.c] w (kk B w (J V (R.fT b).2) (R.fT b).1 (N+1)):=by
 have x:=h.cw.cell 7;have k:=h.cw.cell 10;simp at x k;obtain⟨res,d⟩:=dH (R.fT b);rw[<-d];have H:=au h;cases o:R.cN
 ·rw[o]at x;have r:R.fT b=({ R with dm:=M.push R.dA.aG R.dm b,bp:=if R.dm.length=R.dA.aG then { R.bp with jw:=R.bp.jw+1 } else R.bp },0):=by
   unfold M.Room.fT;rw[if_neg (by rw[o];simp)]
  rw[r]at d;obtain⟨l,A,aI,s⟩:=cA d h.Qo (yq j.a j.n j.c b w y z) (yq j.a j.n j.c b w.drew (y.below (cd (ao _ _) 1)) z);clear d r o h;go_enter func26,ntmps26;go_wp2_with fail;go_cut [5,6,7] (λa bb c wc=>∃v:Value,a=v/\bb=ai (decide (R.dm.length=R.dA.aG))/\c=J V 0/\aL wc B { R with dm:=M.push R.dA.aG R.dm b } N/\fK w wc B B);case first =>
   go_region_held3 (λW=>W.cell? ⟨B.g,10,I⟩=Z (aq (Z ⟨B.qg,0,I⟩))) (first|(with_reducible exact cE k)|(with_reducible exact d10)|(with_reducible exact i10)) (first|(go_at_call 57;refine s.O.mono ?_;rintro e w4 ⟨⟨K,L,rfl,P,hle,C,hz⟩,b4⟩;have D:aC w w4:=(by with_reducible exact eW b4);have d10:=aM D k;have m:=au D;have E:=au (⟨P,hle,C,hz⟩:Sl.B w4 ⟨K,j.n,L⟩ b);clear b4 D P)|(go_at_call 70;refine(MQ (H.O.below m.O).Qb ⟨K,j.n,L⟩ b E.O Y).mono ?_;rintro e w5 ⟨v,rfl,Q,f⟩;have i10:=dD f A.O d10;have T:=(H.O.below m.O).vF f Q;have S:=au T;clear Q f T));all_goals
    go_wp2_with fail;go_meet;exact⟨v,rfl,rfl,rfl,S.O.1,(⟨rfl,.bn m.O,λi q=>.inl q⟩:fK w w4 B B).trans S.O.2⟩
  case rest =>
   obtain⟨v,rfl,rfl,rfl,hR,U⟩:=hcut;have F:=hR.cw.cell 16;have f16:=hR.cw.frozen 16;simp at F;have G:=hR.et.jw;have df:V.wrap (R.bp.jw+1)=R.bp.jw+1:=IntWalk.i64_in _ ⟨by have h1:=G.1;have:0<=R.bp.jw:=h1;omega,by have h1:=G.2;have:R.bp.jw<=N:=h1;omega⟩;obtain⟨t,HS⟩:=bu hR U;clear hR U G k x;by_cases p:R.dm.length=R.dA.aG
   ·have u:decide (R.dm.length=R.dA.aG)=true:=decide_eq_true p;rw[u];have d:=l.O;rw[if_pos p]at d;subst d;clear u p;go_wp2_with fail;go_ret;have X:=(t.O.mono (cZ N)).rq (cJ:=R.cJ) (cN:=R.cN) (bp:={ R.bp with jw:=R.bp.jw+1 }) ((Fr.refl (One B.g) _).setCell t.O.cw (.inl rfl) aR aR 16 (J V (R.bp.jw+1))) (by simpa using t.O.cw.bC 16 (J V (R.bp.jw+1))) (by
     have n:=t.O.et
     exact⟨n.dA,(n.mono (cZ N)).cJ,(n.mono (cZ N)).aO,(n.mono (cZ N)).cj,by have:=n.jw;show 0<=R.bp.jw+1/\R.bp.jw+1<=((N+1:Nat):Int);have h1:0<=R.bp.jw/\R.bp.jw<=N:=n.jw;omega,(n.mono (cZ N)).cI,(n.mono (cZ N)).gR,(n.mono (cZ N)).ff,(n.mono (cZ N)).fP⟩)
    exact⟨B,rfl,X.1,HS.O.trans X.2⟩
   ·have u:decide (R.dm.length=R.dA.aG)=false:=decide_eq_false p;rw[u];have d:=l.O;rw[if_neg p]at d;subst d;clear u p;go_wp2_with fail;go_ret;exact⟨B,rfl,t.O.mono (cZ N),HS.O⟩
 ·have r:R.fT b=(R,7):=by unfold M.Room.fT;simp[o]
  rw[r]at d;subst d;rw[o]at x;clear r o h k y;go_enter func26,ntmps26;go_wp2_with fail;go_ret;exact⟨B,rfl,H.O.mono (cZ N),fK.refl _ _⟩
end
end
def wU(k:IntKind)(w:aw)(A:Option Addr)(n:Nat)(xs:List Int):Prop:=
 0<n->∃b off,A=Z ⟨b,off,I⟩/\∀i,i<n->w.cell? ⟨b,off+i,I⟩=Z (J k (xs.getD i 0))
def wU.OF{t:TypeId}{k:IntKind}{w:aw}{A:Option Addr}{n:Nat}{xs:List Int}(h:TL t k w A n xs):wU k w A n xs:=λh0=>by
 obtain⟨b,off,cs,e,a,q⟩:=h.2.2 h0;exact⟨b,off,e,λi c=>(a.cell _).trans (q i c)⟩
def I9(A m:Option Addr)(n c r:Nat)(xs:List Int)(w:aw)(h:wU bI w A n xs)(o:wU bI w m n xs)(hm:n<=100000) :
  aF af 101 #[ae A n c,ae m n r] w λe w'=>e=av (ai true)/\∃j,w'=w.drewN j:=by
 obtain⟨s,g⟩:=bu h o;clear h o;go_enter func101,ntmps101;go_wp2_with fail;go_loopw [5] (λi wr=>∃k:Nat,i=J V k/\k<=n/\∃q,wr=w.drewN q) (λi _=>n-(intOf i).toNat);case atStart=>exact⟨0,rfl,z,0,rfl⟩
 case round =>
  obtain⟨k,rfl,v,q,rfl⟩:=hrel;by_cases f:k<n
  ·obtain⟨b,off,rfl,d⟩:=s.O z;obtain⟨y,p,rfl,a⟩:=g.O z;have t:=d k f;have u:=a k f;generalize xs.getD k 0=x at t u;clear d a;go_wp2_with fail;go_region;go_wp2_with fail;go_roundw;case rel=>exact⟨k+1,by go_num,z,_,rfl⟩
   case measure=>simp[intOf];omega
  ·have l:k=n:=z;subst l;go_wp2_with fail;go_ret;exact⟨rfl,_,rfl⟩
def I8(A m:Option Addr)(n c r:Nat)(xs:List Int)(w:aw)(h:wU V w A n xs)(o:wU V w m n xs)(hm:n<=1000000) :
  aF af 59 #[ae A n c,ae m n r] w λe w'=>e=av (ai true)/\∃j,w'=w.drewN j:=by
 obtain⟨s,g⟩:=bu h o;clear h o;go_enter func59,ntmps59;go_wp2_with fail;go_loopw [5] (λi wr=>∃k:Nat,i=J V k/\k<=n/\∃q,wr=w.drewN q) (λi _=>n-(intOf i).toNat);case atStart=>exact⟨0,rfl,z,0,rfl⟩
 case round =>
  obtain⟨k,rfl,v,q,rfl⟩:=hrel;by_cases f:k<n
  ·obtain⟨b,off,rfl,d⟩:=s.O z;obtain⟨y,p,rfl,a⟩:=g.O z;have t:=d k f;have u:=a k f;generalize xs.getD k 0=x at t u;clear d a;go_wp2_with fail;go_region;go_wp2_with fail;go_roundw;case rel=>exact⟨k+1,by go_num,z,_,rfl⟩
   case measure=>simp[intOf];omega
  ·have l:k=n:=z;subst l;go_wp2_with fail;go_ret;exact⟨rfl,_,rfl⟩
def LC(b1 b2:Nat)(v1 v2:Value)(l:List (Nat×M.cQ))(j m:List (List Value))(w:aw)(o:w.ownsRow b1 80 2 v1 l.length j.flatten)(p:w.ownsRow b2 80 2 v2 l.length m.flatten)(f1:Fit (mG w) l j)(f2:Fit (mG w) l m)(hm:l.length<=1000000) :
  aF af 58 #[v1,v2] w λe w'=>e=av (ai true)/\aC w w':=by
 obtain⟨L,c1,rfl⟩:=bA o;obtain⟨N,c2,rfl⟩:=bA p;have E:0<l.length->∃g1 g2,L=Z ⟨g1,0,I⟩/\N=Z ⟨g2,0,I⟩/\l.length<=c1/\l.length<=c2/\∀k x,l[k]? = Z x->∃(s1 s2:Sl),s1.B w x.2/\s2.B w x.2/\s1.n<=400/\x.1<=1000000 /\
   w.cell? ⟨g1,k*2,I⟩=Z (J V x.1)/\w.cell? ⟨g1,k*2+1,I⟩=Z (ae s1.a s1.n s1.c)/\w.cell? ⟨g2,k*2,I⟩=Z (J V x.1)/\w.cell? ⟨g2,k*2+1,I⟩=Z (ae s2.a s2.n s2.c):=λh0=>by
  have P:∀c∈j,c.length=2:=Fit.len (R:=mG w) (λx c k=>by obtain⟨b,rfl,_⟩:=k;rfl) f1;have Q:∀c∈m,c.length=2:=Fit.len (R:=mG w) (λx c k=>by obtain⟨b,rfl,_⟩:=k;rfl) f2;obtain⟨g1,m1,r,S,F⟩:=jZ o P h0;obtain⟨g2,m2,s,z2,G⟩:=jZ p Q h0;injection r with r _ t
  injection s with s _ u
  subst r;subst s;subst t;subst u;refine⟨g1,g2,rfl,rfl,S,z2,λk x H=>?_⟩;obtain⟨d1,p1,s1,rfl,r1,n1,i1⟩:=Fit.get f1 H;obtain⟨d2,p2,s2,rfl,r2,n2,i2⟩:=Fit.get f2 H;exact⟨s1,s2,r1,r2,n1,i1,F k _ p1 0 z,F k _ p1 1 z,G k _ p2 0 z,G k _ p2 1 z⟩
 have T:=au E;clear E o p f1 f2;go_enter func58,ntmps58;go_wp2_with fail;go_loopw [13] (λi wr=>∃k:Nat,i=J V k/\k<=l.length/\aC w wr) (λi _=>l.length-(intOf i).toNat);case atStart=>exact⟨0,rfl,z,ao _ _⟩
 case round =>
  obtain⟨k,rfl,hk,d⟩:=hrel;by_cases v:k<l.length
  ·obtain⟨g1,g2,rfl,rfl,U,X,f⟩:=T.O z;obtain⟨s1,s2,r1,r2,n1,i1,y,p1,p2,p3⟩:=f k l[k] (ay v);generalize l[k]=x at r1 r2 i1 y p2;have Y:((k:Int)<(l.length:Int)):=z;have y:=aM d y;have p1:=aM d p1;have p2:=aM d p2;have p3:=aM d p3;have A:s2.n=s1.n:=by rw[<-r2.tl.1,<-r1.tl.1]
   rw[A]at p3;have g:=λW (b:aC w W)=>I9 s1.a s2.a s1.n s1.c s2.c x.2 W (wU.OF (r1.map λq=>q.rows (.inl rfl) (.bn b)).tl) (by
    have K:=wU.OF (r2.map λq=>q.rows (.inl rfl) (.bn b)).tl
    rw[A]at K;exact K) z
   obtain⟨C,h⟩:=bu g d;clear f r1 r2 g d A;go_upto_region 6 with fail;go_quiet ((go_at_call 101;exact Calls.quiet_of (C.O _ (cd h.O _))));all_goals
    go_wp2_with fail;go_roundw;case rel=>exact⟨k+1,by go_num,z,cd h.O _⟩
    case measure=>simp[intOf];omega
  ·have D:k=l.length:=z;subst D;have h:=au d;clear d;go_wp2_with fail;go_ret;exact⟨rfl,h.O⟩
def xL(bk:Nat->Option Int)(zs:List Int):Prop:=zs.Pairwise (· < ·)/\∀x:Int,x∈zs↔∃id:Nat,x=id/\bk id=Z 0
def xL.same{bk:Nat->Option Int}:∀{l m:List Int},xL bk l->xL bk m->l=m:=by
 intro l m h k;refine List.Perm.eq_of_pairwise (le:=(· < ·)) (λa b _ _ h1 h2=>z) h.1 k.1 ?_;refine(List.perm_ext_iff_of_nodup (h.1.imp (λh=>Int.ne_of_lt h)) (k.1.imp (λh=>Int.ne_of_lt h))).2 λx=>?_;rw[h.2,k.2]
def ya(g m N:Nat)(bk:Bk)(sub:Int)(w:aw)(h:eD w g m bk N)(f:N<=1000000) :
  aF af 60 #[cg #[aq (Z ⟨g,0,I⟩)],J V sub] w λe w'=>∃(v:Value) (zs:List Int),e=av v/\w'.ownsRow w.heap.size 3 1 v zs.length (zs.map (J V))/\xL (bk sub) zs/\aC w w':=by
 have a:aC w (w.alloc (.cells #[aq (Z ⟨g,0,I⟩)] 50)):=(ao _ w).alloc (aj _) _;obtain⟨i,b⟩:=bu (rV g m N bk sub _ (h.below a) f) a;clear h a;go_enter func60,ntmps60;go_wp2_with (go_at_call 102;refine i.O.mono ?_;rintro e w2 ⟨v,zs,rfl,own,b2,p1,p2⟩;have j:=au own;have c:=au b2;have d:=au (⟨p1,p2⟩:xL (bk sub) zs);clear own b2 p1 p2);go_ret;exact⟨v,zs,rfl,qS j.O b.O.size,d.O,b.O.trans (c.O.mono b.O.size)⟩
abbrev Kf(aG:Nat)(eJ cX eA ek aT:Int):Array Value:=#[J V aG,J V eJ,J V cX,J V eA,J V ek,J V aT]
structure Hy(w:aw)(own:Nat->Nat->Prop)(qg qp:Nat)(B:RB):Prop where
 di:eD w B.bg B.bm (λ_ _=>I) 0
 OQ:∀b,jK B.bg B.bm b->own 0 b
 ret:gE KW w B.ret [] (λ_=>ai true)
 Qn:own 3 B.ret
 q:B.qg=qg/\B.qp=qp
 Qa:fA w B.t (λ_=>I) (λ_=>I) (λ_=>I) 0
 Qf:∀b,B.t.own b->own 5 b
 lm:gA KI w B.lm (λ_=>I) 0
 Sg:own 6 B.lm
 sm:gA KO w B.sm (λ_=>I) 0
 Sd:own 7 B.sm
 no:B.lb=(λ_=>I)/\B.sb=(λ_=>I)/\B.pv=ae I 0 0/\B.rv=ae I 0 0
def Hy.below{w w':aw}{own a:Nat->Nat->Prop}{qg qp:Nat}{B:RB}(h:Hy w own qg qp B)(b:aC w w')(c:∀i x,own i x->a i x):Hy w' a qg qp B:=
 ⟨h.di.below b,λx q=>c _ _ (h.OQ x q),h.ret.below b,c _ _ h.Qn,h.q,h.Qa.below b,λx q=>c _ _ (h.Qf x q),h.lm.below b,c _ _ h.Sg,h.sm.below b,c _ _ h.Sd,h.no⟩
structure lF(low:Nat)(w0:aw)(cf:Array Value)(R0:M.Room)(qg qp:Nat)(listed:Array Bool)(w:aw)(v2 v3 pf pd pc pa v46 o8 o7 v49 o6 v51:Value)(own:Nat->Nat->Prop):Prop where
 size:listed.size=12
 fN:aC w0 w
 wb:∀i b,own i b->w0.heap.size<=b/\b<w.heap.size
 vd:∀i j b,own i b->own j b->i=j
 f0:listed.getD 0 false=true->∃g m,pf=aq (Z ⟨g,0,I⟩)/\eD w g m (λ_ _=>I) 0/\∀b,jK g m b->own 0 b
 f1:listed.getD 1 false=true->∃g m,pd=cg #[aq (Z ⟨g,0,I⟩)]/\eD w g m (λ_ _=>I) 0/\∀b,jK g m b->own 0 b
 f2:listed.getD 2 false=true->pc=cg cf
 f3:listed.getD 3 false=true->∃m,pa=.map (Z m)/\gE KW w m [] (λ_=>ai true)/\own 3 m
 f4:listed.getD 4 false=true->v46=aq (Z ⟨qg,0,I⟩)
 f5:listed.getD 5 false=true->∃T:sL,o8=aq (Z ⟨T.g,0,I⟩)/\fA w T (λ_=>I) (λ_=>I) (λ_=>I) 0/\∀b,T.own b->own 5 b
 f6:listed.getD 6 false=true->∃m,o7=.map (Z m)/\gA KI w m (λ_=>I) 0/\own 6 m
 f7:listed.getD 7 false=true->∃m,v49=.map (Z m)/\gA KO w m (λ_=>I) 0/\own 7 m
 f8:listed.getD 8 false=true->∃B:RB,o6=cg (oS B R0)/\Hy w own qg qp B
 f9:listed.getD 9 false=true->∃B:RB,v51=aq (Z ⟨B.g,0,I⟩)/\aL w B R0 0/\∀i,B.all i->low<=i
 f10:listed.getD 10 false=true->∃B:RB,v2=aq (Z ⟨B.g,0,I⟩)/\aL w B R0 0/\∀i,B.all i->low<=i
 f11:listed.getD 11 false=true->v3=J V 0
def owns(own:Nat->Nat->Prop)(k n m:Nat):Nat->Nat->Prop:=λi b=>own i b\/i=k/\n<=b/\b<m
def lF.below{low:Nat}{w0:aw}{cf:Array Value}{R0:M.Room}{qg qp:Nat}{listed:Array Bool}{w:aw}{v2 v3 pf pd pc pa v46 o8 o7 v49 o6 v51:Value}{own:Nat->Nat->Prop}(h:lF low w0 cf R0 qg qp listed w v2 v3 pf pd pc pa v46 o8 o7 v49 o6 v51 own){w':aw}(b:aC w w')(k:Nat):lF low w0 cf R0 qg qp listed w' v2 v3 pf pd pc pa v46 o8 o7 v49 o6 v51 (owns own k w.heap.size w'.heap.size) where
 size:=h.size
 fN:=h.fN.trans (b.mono h.fN.size)
 wb i x q:=by
  have s:=b.size;have t:=h.fN.size;rcases q with q | ⟨_,q⟩
  ·have:=h.wb i x q;omega
  ·omega
 vd i j x q r:=by
  rcases q with q | ⟨d,q⟩<;>rcases r with r | ⟨f,r⟩
  ·exact h.vd i j x q r
  ·have:=h.wb i x q;omega
  ·have:=h.wb j x r;omega
  ·rw[d,f]
 f0 q:=by obtain⟨g,m,e,a,c⟩:=h.f0 q;exact⟨g,m,e,a.below b,λx y=>.inl (c x y)⟩
 f1 q:=by obtain⟨g,m,e,a,c⟩:=h.f1 q;exact⟨g,m,e,a.below b,λx y=>.inl (c x y)⟩
 f2:=h.f2
 f3 q:=by obtain⟨m,e,a,c⟩:=h.f3 q;exact⟨m,e,a.below b,.inl c⟩
 f4:=h.f4
 f5 q:=by obtain⟨T,e,a,c⟩:=h.f5 q;exact⟨T,e,a.below b,λx y=>.inl (c x y)⟩
 f6 q:=by obtain⟨m,e,a,c⟩:=h.f6 q;exact⟨m,e,a.below b,.inl c⟩
 f7 q:=by obtain⟨m,e,a,c⟩:=h.f7 q;exact⟨m,e,a.below b,.inl c⟩
 f8 q:=by obtain⟨B,e,a⟩:=h.f8 q;exact⟨B,e,a.below b (λi x y=>.inl y)⟩
 f9 q:=by obtain⟨B,e,a,c⟩:=h.f9 q;exact⟨B,e,a.below b,c⟩
 f10 q:=by obtain⟨B,e,a,c⟩:=h.f10 q;exact⟨B,e,a.below b,c⟩
 f11:=h.f11
def aH{listed:Array Bool}{i j:Nat}(h:(listed.setIfInBounds i true).getD j false=true)(a:i≠j):listed.getD j false=true:=by
 have e:(listed.setIfInBounds i true).getD j false=listed.getD j false:=by simp only[Array.getD_eq_getD_getElem?];rw[Array.getElem?_setIfInBounds_ne a]
 rw[<-e];exact h
def lF.Sw{low:Nat}{w0:aw}{cf:Array Value}{R0:M.Room}{qg qp:Nat}{listed:Array Bool}{w:aw}{v2 v3 pf pd pc pa v46 o8 o7 v49 o6 v51:Value}{own:Nat->Nat->Prop}(h:lF low w0 cf R0 qg qp listed w v2 v3 pf pd pc pa v46 o8 o7 v49 o6 v51 own)(a:Value)(d:∃g m,a=aq (Z ⟨g,0,I⟩)/\eD w g m (λ_ _=>I) 0/\∀b,jK g m b->own 0 b):lF low w0 cf R0 qg qp (listed.setIfInBounds 0 true) w v2 v3 a pd pc pa v46 o8 o7 v49 o6 v51 own:=
 ⟨by rw[dh];exact h.size,h.fN,h.wb,h.vd,λ_=>d,λq=>h.f1 (aH q aR),λq=>h.f2 (aH q aR),λq=>h.f3 (aH q aR),λq=>h.f4 (aH q aR),λq=>h.f5 (aH q aR),λq=>h.f6 (aH q aR),λq=>h.f7 (aH q aR),λq=>h.f8 (aH q aR),λq=>h.f9 (aH q aR),λq=>h.f10 (aH q aR),λq=>h.f11 (aH q aR)⟩
def lF.Sv{low:Nat}{w0:aw}{cf:Array Value}{R0:M.Room}{qg qp:Nat}{listed:Array Bool}{w:aw}{v2 v3 pf pd pc pa v46 o8 o7 v49 o6 v51:Value}{own:Nat->Nat->Prop}(h:lF low w0 cf R0 qg qp listed w v2 v3 pf pd pc pa v46 o8 o7 v49 o6 v51 own)(a:Value)(d:∃g m,a=cg #[aq (Z ⟨g,0,I⟩)]/\eD w g m (λ_ _=>I) 0/\∀b,jK g m b->own 0 b):lF low w0 cf R0 qg qp (listed.setIfInBounds 1 true) w v2 v3 pf a pc pa v46 o8 o7 v49 o6 v51 own:=
 ⟨by rw[dh];exact h.size,h.fN,h.wb,h.vd,λq=>h.f0 (aH q aR),λ_=>d,λq=>h.f2 (aH q aR),λq=>h.f3 (aH q aR),λq=>h.f4 (aH q aR),λq=>h.f5 (aH q aR),λq=>h.f6 (aH q aR),λq=>h.f7 (aH q aR),λq=>h.f8 (aH q aR),λq=>h.f9 (aH q aR),λq=>h.f10 (aH q aR),λq=>h.f11 (aH q aR)⟩
def lF.Su{low:Nat}{w0:aw}{cf:Array Value}{R0:M.Room}{qg qp:Nat}{listed:Array Bool}{w:aw}{v2 v3 pf pd pc pa v46 o8 o7 v49 o6 v51:Value}{own:Nat->Nat->Prop}(h:lF low w0 cf R0 qg qp listed w v2 v3 pf pd pc pa v46 o8 o7 v49 o6 v51 own)(a:Value)(d:a=cg cf):lF low w0 cf R0 qg qp (listed.setIfInBounds 2 true) w v2 v3 pf pd a pa v46 o8 o7 v49 o6 v51 own:=
 ⟨by rw[dh];exact h.size,h.fN,h.wb,h.vd,λq=>h.f0 (aH q aR),λq=>h.f1 (aH q aR),λ_=>d,λq=>h.f3 (aH q aR),λq=>h.f4 (aH q aR),λq=>h.f5 (aH q aR),λq=>h.f6 (aH q aR),λq=>h.f7 (aH q aR),λq=>h.f8 (aH q aR),λq=>h.f9 (aH q aR),λq=>h.f10 (aH q aR),λq=>h.f11 (aH q aR)⟩
def lF.St{low:Nat}{w0:aw}{cf:Array Value}{R0:M.Room}{qg qp:Nat}{listed:Array Bool}{w:aw}{v2 v3 pf pd pc pa v46 o8 o7 v49 o6 v51:Value}{own:Nat->Nat->Prop}(h:lF low w0 cf R0 qg qp listed w v2 v3 pf pd pc pa v46 o8 o7 v49 o6 v51 own)(a:Value)(d:∃m,a=.map (Z m)/\gE KW w m [] (λ_=>ai true)/\own 3 m):lF low w0 cf R0 qg qp (listed.setIfInBounds 3 true) w v2 v3 pf pd pc a v46 o8 o7 v49 o6 v51 own:=
 ⟨by rw[dh];exact h.size,h.fN,h.wb,h.vd,λq=>h.f0 (aH q aR),λq=>h.f1 (aH q aR),λq=>h.f2 (aH q aR),λ_=>d,λq=>h.f4 (aH q aR),λq=>h.f5 (aH q aR),λq=>h.f6 (aH q aR),λq=>h.f7 (aH q aR),λq=>h.f8 (aH q aR),λq=>h.f9 (aH q aR),λq=>h.f10 (aH q aR),λq=>h.f11 (aH q aR)⟩
def lF.Ss{low:Nat}{w0:aw}{cf:Array Value}{R0:M.Room}{qg qp:Nat}{listed:Array Bool}{w:aw}{v2 v3 pf pd pc pa v46 o8 o7 v49 o6 v51:Value}{own:Nat->Nat->Prop}(h:lF low w0 cf R0 qg qp listed w v2 v3 pf pd pc pa v46 o8 o7 v49 o6 v51 own)(a:Value)(d:a=aq (Z ⟨qg,0,I⟩)):lF low w0 cf R0 qg qp (listed.setIfInBounds 4 true) w v2 v3 pf pd pc pa a o8 o7 v49 o6 v51 own:=
 ⟨by rw[dh];exact h.size,h.fN,h.wb,h.vd,λq=>h.f0 (aH q aR),λq=>h.f1 (aH q aR),λq=>h.f2 (aH q aR),λq=>h.f3 (aH q aR),λ_=>d,λq=>h.f5 (aH q aR),λq=>h.f6 (aH q aR),λq=>h.f7 (aH q aR),λq=>h.f8 (aH q aR),λq=>h.f9 (aH q aR),λq=>h.f10 (aH q aR),λq=>h.f11 (aH q aR)⟩
def lF.Sr{low:Nat}{w0:aw}{cf:Array Value}{R0:M.Room}{qg qp:Nat}{listed:Array Bool}{w:aw}{v2 v3 pf pd pc pa v46 o8 o7 v49 o6 v51:Value}{own:Nat->Nat->Prop}(h:lF low w0 cf R0 qg qp listed w v2 v3 pf pd pc pa v46 o8 o7 v49 o6 v51 own)(a:Value)(d:∃T:sL,a=aq (Z ⟨T.g,0,I⟩)/\fA w T (λ_=>I) (λ_=>I) (λ_=>I) 0/\∀b,T.own b->own 5 b):lF low w0 cf R0 qg qp (listed.setIfInBounds 5 true) w v2 v3 pf pd pc pa v46 a o7 v49 o6 v51 own:=
 ⟨by rw[dh];exact h.size,h.fN,h.wb,h.vd,λq=>h.f0 (aH q aR),λq=>h.f1 (aH q aR),λq=>h.f2 (aH q aR),λq=>h.f3 (aH q aR),λq=>h.f4 (aH q aR),λ_=>d,λq=>h.f6 (aH q aR),λq=>h.f7 (aH q aR),λq=>h.f8 (aH q aR),λq=>h.f9 (aH q aR),λq=>h.f10 (aH q aR),λq=>h.f11 (aH q aR)⟩
def lF.Sq{low:Nat}{w0:aw}{cf:Array Value}{R0:M.Room}{qg qp:Nat}{listed:Array Bool}{w:aw}{v2 v3 pf pd pc pa v46 o8 o7 v49 o6 v51:Value}{own:Nat->Nat->Prop}(h:lF low w0 cf R0 qg qp listed w v2 v3 pf pd pc pa v46 o8 o7 v49 o6 v51 own)(a:Value)(d:∃m,a=.map (Z m)/\gA KI w m (λ_=>I) 0/\own 6 m):lF low w0 cf R0 qg qp (listed.setIfInBounds 6 true) w v2 v3 pf pd pc pa v46 o8 a v49 o6 v51 own:=
 ⟨by rw[dh];exact h.size,h.fN,h.wb,h.vd,λq=>h.f0 (aH q aR),λq=>h.f1 (aH q aR),λq=>h.f2 (aH q aR),λq=>h.f3 (aH q aR),λq=>h.f4 (aH q aR),λq=>h.f5 (aH q aR),λ_=>d,λq=>h.f7 (aH q aR),λq=>h.f8 (aH q aR),λq=>h.f9 (aH q aR),λq=>h.f10 (aH q aR),λq=>h.f11 (aH q aR)⟩
def lF.Sp{low:Nat}{w0:aw}{cf:Array Value}{R0:M.Room}{qg qp:Nat}{listed:Array Bool}{w:aw}{v2 v3 pf pd pc pa v46 o8 o7 v49 o6 v51:Value}{own:Nat->Nat->Prop}(h:lF low w0 cf R0 qg qp listed w v2 v3 pf pd pc pa v46 o8 o7 v49 o6 v51 own)(a:Value)(d:∃m,a=.map (Z m)/\gA KO w m (λ_=>I) 0/\own 7 m):lF low w0 cf R0 qg qp (listed.setIfInBounds 7 true) w v2 v3 pf pd pc pa v46 o8 o7 a o6 v51 own:=
 ⟨by rw[dh];exact h.size,h.fN,h.wb,h.vd,λq=>h.f0 (aH q aR),λq=>h.f1 (aH q aR),λq=>h.f2 (aH q aR),λq=>h.f3 (aH q aR),λq=>h.f4 (aH q aR),λq=>h.f5 (aH q aR),λq=>h.f6 (aH q aR),λ_=>d,λq=>h.f8 (aH q aR),λq=>h.f9 (aH q aR),λq=>h.f10 (aH q aR),λq=>h.f11 (aH q aR)⟩
def lF.Sn{low:Nat}{w0:aw}{cf:Array Value}{R0:M.Room}{qg qp:Nat}{listed:Array Bool}{w:aw}{v2 v3 pf pd pc pa v46 o8 o7 v49 o6 v51:Value}{own:Nat->Nat->Prop}(h:lF low w0 cf R0 qg qp listed w v2 v3 pf pd pc pa v46 o8 o7 v49 o6 v51 own)(a:Value)(d:∃B:RB,a=cg (oS B R0)/\Hy w own qg qp B):lF low w0 cf R0 qg qp (listed.setIfInBounds 8 true) w v2 v3 pf pd pc pa v46 o8 o7 v49 a v51 own:=
 ⟨by rw[dh];exact h.size,h.fN,h.wb,h.vd,λq=>h.f0 (aH q aR),λq=>h.f1 (aH q aR),λq=>h.f2 (aH q aR),λq=>h.f3 (aH q aR),λq=>h.f4 (aH q aR),λq=>h.f5 (aH q aR),λq=>h.f6 (aH q aR),λq=>h.f7 (aH q aR),λ_=>d,λq=>h.f9 (aH q aR),λq=>h.f10 (aH q aR),λq=>h.f11 (aH q aR)⟩
def lF.Sm{low:Nat}{w0:aw}{cf:Array Value}{R0:M.Room}{qg qp:Nat}{listed:Array Bool}{w:aw}{v2 v3 pf pd pc pa v46 o8 o7 v49 o6 v51:Value}{own:Nat->Nat->Prop}(h:lF low w0 cf R0 qg qp listed w v2 v3 pf pd pc pa v46 o8 o7 v49 o6 v51 own)(a:Value)(d:∃B:RB,a=aq (Z ⟨B.g,0,I⟩)/\aL w B R0 0/\∀i,B.all i->low<=i):lF low w0 cf R0 qg qp (listed.setIfInBounds 9 true) w v2 v3 pf pd pc pa v46 o8 o7 v49 o6 a own:=
 ⟨by rw[dh];exact h.size,h.fN,h.wb,h.vd,λq=>h.f0 (aH q aR),λq=>h.f1 (aH q aR),λq=>h.f2 (aH q aR),λq=>h.f3 (aH q aR),λq=>h.f4 (aH q aR),λq=>h.f5 (aH q aR),λq=>h.f6 (aH q aR),λq=>h.f7 (aH q aR),λq=>h.f8 (aH q aR),λ_=>d,λq=>h.f10 (aH q aR),λq=>h.f11 (aH q aR)⟩
def lF.Ro{low:Nat}{w0:aw}{cf:Array Value}{R0:M.Room}{qg qp:Nat}{listed:Array Bool}{w:aw}{v2 v3 pf pd pc pa v46 o8 o7 v49 o6 v51:Value}{own:Nat->Nat->Prop}(h:lF low w0 cf R0 qg qp listed w v2 v3 pf pd pc pa v46 o8 o7 v49 o6 v51 own)(a:Value)(d:∃B:RB,a=aq (Z ⟨B.g,0,I⟩)/\aL w B R0 0/\∀i,B.all i->low<=i):lF low w0 cf R0 qg qp (listed.setIfInBounds 10 true) w a v3 pf pd pc pa v46 o8 o7 v49 o6 v51 own:=
 ⟨by rw[dh];exact h.size,h.fN,h.wb,h.vd,λq=>h.f0 (aH q aR),λq=>h.f1 (aH q aR),λq=>h.f2 (aH q aR),λq=>h.f3 (aH q aR),λq=>h.f4 (aH q aR),λq=>h.f5 (aH q aR),λq=>h.f6 (aH q aR),λq=>h.f7 (aH q aR),λq=>h.f8 (aH q aR),λq=>h.f9 (aH q aR),λ_=>d,λq=>h.f11 (aH q aR)⟩
def lF.Rm{low:Nat}{w0:aw}{cf:Array Value}{R0:M.Room}{qg qp:Nat}{listed:Array Bool}{w:aw}{v2 v3 pf pd pc pa v46 o8 o7 v49 o6 v51:Value}{own:Nat->Nat->Prop}(h:lF low w0 cf R0 qg qp listed w v2 v3 pf pd pc pa v46 o8 o7 v49 o6 v51 own)(a:Value)(d:a=J V 0):lF low w0 cf R0 qg qp (listed.setIfInBounds 11 true) w v2 a pf pd pc pa v46 o8 o7 v49 o6 v51 own:=
 ⟨by rw[dh];exact h.size,h.fN,h.wb,h.vd,λq=>h.f0 (aH q aR),λq=>h.f1 (aH q aR),λq=>h.f2 (aH q aR),λq=>h.f3 (aH q aR),λq=>h.f4 (aH q aR),λq=>h.f5 (aH q aR),λq=>h.f6 (aH q aR),λq=>h.f7 (aH q aR),λq=>h.f8 (aH q aR),λq=>h.f9 (aH q aR),λq=>h.f10 (aH q aR),λ_=>d⟩
def PJ(k:Nat):xN:=if k=0 then .di else if k=3 then .ret else if k=5 then .table else if k=6 then .aD else .az
def Hy.aG{w0 w:aw}{own:Nat->Nat->Prop}{qg qp:Nat}{B:RB}{c:M.Ou}(h:Hy w own qg qp B)(fN:aC w0 w)(wb:∀i b,own i b->w0.heap.size<=b/\b<w.heap.size)(vd:∀i j b,own i b->own j b->i=j)
  (p:ko w0 qg qp c.aG []) (x:M.jr c.aG c.eJ c.cX c.eA c.ek c.aT=true) {low:Nat} (r:low<=w0.heap.size) (y:low<=qg/\low<=qp) :
  aL (w.alloc (.cells (oS B (.new c)) 61)) { B with g:=w.heap.size } (.new c) 0/\∀i,({ B with g:=w.heap.size }:RB).all i->low<=i:=by
 have f:aC w (w.alloc (.cells (oS B (.new c)) 61)):=(ao _ _).alloc (aj _) _;have l:=p.below fN;obtain⟨t,u⟩:=h.q;obtain⟨n1,m,v,n4⟩:=h.no;have A:=fN.size;have key:∀X i,({ B with g:=w.heap.size }:RB).own X i->(X=.aG/\i=w.heap.size)\/(X=.dm/\low<=i/\i<w0.heap.size)\/∃k,own k i/\X=PJ k:=by
  intro X i d;cases X with
  |aG=>exact .inl ⟨rfl,d⟩
  |di=>exact .inr (.inr ⟨0,h.OQ i d,rfl⟩)
  |ret=>have d:i=B.ret:=d;subst d;exact .inr (.inr ⟨3,h.Qn,rfl⟩)
  |dm =>
   have d:jK B.qg B.qp i:=d;rw[t,u]at d;refine .inr (.inl ⟨rfl,?_⟩);have:=p.lt;rcases d with d|d<;>omega
  |table=>exact .inr (.inr ⟨5,h.Qf i d,rfl⟩)
  |aD=>have d:i=B.lm:=d;subst d;exact .inr (.inr ⟨6,h.Sg,rfl⟩)
  |az=>have d:i=B.sm:=d;subst d;exact .inr (.inr ⟨7,h.Sd,rfl⟩)
  |fo s=>obtain⟨L,e,_⟩:=d;rw[show({ B with g:=w.heap.size }:RB).lb=B.lb from rfl,n1]at e;cases e
  |fO o=>obtain⟨L,e,_⟩:=d;rw[show({ B with g:=w.heap.size }:RB).sb=B.sb from rfl,m]at e;cases e
  |aO=>have d:B.pv.ownBlock=Z i:=d;rw[v]at d;cases d
  |cj=>have d:B.rv.ownBlock=Z i:=d;rw[n4]at d;cases d
 refine⟨⟨λX=>?_,λX Y i h1 h2=>?_,?_⟩,λi ⟨X,d⟩=>?_⟩
 ·cases X with
  |aG=>exact aK.new _ _ _
  |di=>exact h.di.below f
  |ret=>exact h.ret.below f
  |dm=>refine⟨[],?_,trivial⟩;rw[show({ B with g:=w.heap.size }:RB).qg=qg from t,show({ B with g:=w.heap.size }:RB).qp=qp from u];exact l.below f
  |table=>exact h.Qa.below f
  |aD=>refine gA.congr (h.lm.below f) (λs=>?_);rw[show({ B with g:=w.heap.size }:RB).lb=B.lb from rfl,n1];rfl
  |az=>refine gA.congr (h.sm.below f) (λs=>?_);rw[show({ B with g:=w.heap.size }:RB).sb=B.sb from rfl,m];rfl
  |fo s=>show lX _ I (B.lb s);rw[n1];trivial
  |fO o=>show lX _ I (B.sb o);rw[m];trivial
  |aO=>refine⟨[],?_,trivial⟩;rw[show({ B with g:=w.heap.size }:RB).pv=ae I 0 0 from v];exact⟨rfl,.inl ⟨rfl,rfl⟩⟩
  |cj=>refine⟨[],?_,trivial⟩;rw[show({ B with g:=w.heap.size }:RB).rv=ae I 0 0 from n4];exact⟨rfl,.inl ⟨rfl,rfl⟩⟩
 ·rcases key X i h1 with⟨a1,a2⟩ | ⟨a1,a2⟩ | ⟨k,a1,a2⟩<;>rcases key Y i h2 with⟨b1,b2⟩ | ⟨b1,b2⟩ | ⟨n,b1,b2⟩
  ·rw[a1,b1]
  ·omega
  ·have:=wb n i b1;omega
  ·omega
  ·rw[a1,b1]
  ·have:=wb n i b1;omega
  ·have:=wb k i a1;omega
  ·have:=wb k i a1;omega
  ·rw[a2,b2,vd k n i a1 b1]
 ·exact⟨x,by simp[M.Room.new],by simp[M.Room.new],by simp[M.Room.new],by simp[M.Room.new],by simp[M.Room.new],by simp[M.Room.new],by simp[M.Room.new],by simp[M.Room.new]⟩
 ·rcases key X i d with⟨_,a⟩ | ⟨_,a⟩ | ⟨k,a,_⟩
  ·omega
  ·exact a.1
  ·have:=wb k i a;omega
def tM(aG:Nat)(eJ cX eA ek aT:Int)(w:aw)(hc:M.jr aG eJ cX eA ek aT=true) :
  aF af 9 #[cg (Kf aG eJ cX eA ek aT)] w λe w'=>(∃B:RB,e=av (aB #[aq (Z ⟨B.g,0,I⟩),J V 0])/\aL w' B (.new ⟨aG,eJ,cX,eA,ek,aT⟩) 0/\∀i,B.all i->w.heap.size<=i)/\aC w w':=by
 have E:=hc;simp only[M.jr,Bool.and_eq_true,decide_eq_true_eq]at hc;obtain⟨⟨⟨a1,a2⟩,⟨a3,a4⟩,a5,a6⟩,⟨a7,a8,a9⟩,SV,SW⟩:=hc;have r:(decide (1<=eA)&&(decide (eA<=ek)&&decide (ek<=1000)))=true:=dZ;obtain⟨HC,F⟩:=bu E r;clear E r;go_enter func9,ntmps9;go_upto_region 1 with fail;obtain⟨r1,e1⟩:=dH w.heap.size;rw[<-e1];refine aW (λX=>aK X r1 25 (Kf aG eJ cX eA ek aT)/\aC w X) ⟨aK.newAt _ _ _ _ e1,(ao _ w).alloc (aj _) _⟩ ?_;clear e1;rintro X ⟨b1,bX⟩;have k0:=b1.cell 0;simp at k0;obtain⟨t,n,HQ⟩:=bU b1 bX (BH aG X z z);clear b1 bX;go_upto_region 2 with(go_big_may;go_at_call 30;refine HQ.O.mono ?_;rintro e w1 ⟨qg,qp,rfl,G,uq,l1,l2⟩;have u:=au (dj G (dj uq.nothing (dj l1 l2)));clear G uq l1 l2)
 have b2:=t.O.kept u.O.2.1;have k1:=b2.cell 1;have k2:=b2.cell 2;simp at k1 k2;have HN:=au (vM eJ cX w1 ⟨a3,a4⟩ ⟨a5,a6⟩);clear b2 k0;go_upto_region 5 with(go_big_may;go_at_call 31;refine HN.O.mono ?_;rintro e w2 ⟨jg,rfl,_,b2,_⟩;have o:=au b2;clear b2)
 have b3:=(t.O.kept u.O.2.1).kept o.O;have k3:=b3.cell 3;have k4:=b3.cell 4;have H:=b3.cell 5;simp at k3 k4 H;have A:=λW=>Lh eA ek W;rw[F.O]at A;have L:=au A;clear b3 k1 k2 A;go_upto_region 9 with(go_big_may;go_at_call 32;refine(L.O _).mono ?_;rintro e w3 ⟨rfl,b3⟩;have SG:=aM b3 H;have v:=au b3;clear b3)
 obtain⟨G,bq,l1,l2⟩:=u.O;have N:aK w3 r1 25 (Kf aG eJ cX eA ek aT):=((t.O.kept bq).kept o.O).kept v.O;have P:aC w w3:=(n.O.trans (bq.mono n.O.size)).trans ((o.O.trans (v.O.mono o.O.size)).mono (n.O.trans (bq.mono n.O.size)).size);have Q:ko w3 qg qp aG []:=(G.below o.O).below v.O;obtain⟨R,C,SH⟩:=bU N P Q;have hl:=n.O.size;obtain⟨R0,S⟩:=dH (M.Room.new ⟨aG,eJ,cX,eA,ek,aT⟩);have D:=au S;clear N P Q t n u o v HN L F HQ k3 k4 H SG G bq S;refine wp_region_any cC ?_;refine AR (λlisted a W=>∃(u0 u5 u6 u7 u8 u9 u10 u11 u12 u13 u14 u15 u16 u17 u18 u19 u20 u21 u22 u23 u24 u25 u26 u27 u28 u29 u30 u31 u32 u33 u34 u35 u36 u37 u38 u39 u40 u41 v2 v3 pf pd pc pa v46 o8 o7 v49 o6 v51:Value) (own:Nat->Nat->Prop),a={ tmps:=#[u0,aq (Z ⟨r1,0,I⟩),v2,v3,aq (Z ⟨qg,0,I⟩),u5,u6,u7,u8,u9,u10,u11,u12,u13,u14,u15,u16,u17,u18,u19,u20,u21,u22,u23,u24,u25,u26,u27,u28,u29,u30,u31,u32,u33,u34,u35,u36,u37,u38,u39,u40,u41,pf,pd,pc,pa,v46,o8,o7,v49,o6,v51],defers:=[] }/\lF w.heap.size w3 (Kf aG eJ cX eA ek aT) R0 qg qp listed W v2 v3 pf pd pc pa v46 o8 o7 v49 o6 v51 own) ?_ (Hp cC) ?_ ?_ _ _ _ _ aR ?_
 ·rintro listed a W ⟨u0,u5,u6,u7,u8,u9,u10,u11,u12,u13,u14,u15,u16,u17,u18,u19,u20,u21,u22,u23,u24,u25,u26,u27,u28,u29,u30,u31,u32,u33,u34,u35,u36,u37,u38,u39,u40,u41,v2,v3,pf,pd,pc,pa,v46,o8,o7,v49,o6,v51,own,rfl,h⟩;exact h.size
 ·rintro listed a W i O ⟨u0,u5,u6,u7,u8,u9,u10,u11,u12,u13,u14,u15,u16,u17,u18,u19,u20,u21,u22,u23,u24,u25,u26,u27,u28,u29,u30,u31,u32,u33,u34,u35,u36,u37,u38,u39,u40,u41,v2,v3,pf,pd,pc,pa,v46,o8,o7,v49,o6,v51,own,rfl,h⟩ p d;have SX:i<12:=(Array.getElem?_eq_some_iff.1 p).1;rcases(z:i=0\/i=1\/i=2\/i=3\/i=4\/i=5\/i=6\/i=7\/i=8\/i=9\/i=10\/i=11) with rfl|rfl|rfl|rfl|rfl|rfl|rfl|rfl|rfl|rfl|rfl|rfl
  ·cases p;refine lC rfl (λK f=>?_);rw[if_pos jP];go_simp;go_at_call 33;refine(Fb W).mono ?_;rintro e w' ⟨g,m,rfl,k,bb,y1,y2⟩;dsimp only;refine f _ _ ⟨u0,u5,u6,u7,u8,u9,u10,u11,u12,u13,u14,u15,u16,u17,u18,u19,u20,u21,u22,u23,u24,u25,u26,u27,u28,u29,u30,u31,u32,u33,u34,u35,u36,u37,u38,u39,u40,u41,v2,v3,aq (Z ⟨g,0,I⟩),pd,pc,pa,v46,o8,o7,v49,o6,v51,_,rfl,(h.below bb 0).Sw _ ⟨g,m,rfl,k,λb q=>.inr ⟨rfl,by rcases q with rfl|rfl<;>assumption,by rcases q with rfl|rfl;exact k.lt.1;exact k.lt.2⟩⟩⟩
  ·cases p;obtain⟨g,m,rfl,k,hw⟩:=h.f0 (d ⟨0,.data⟩ dt rfl);refine lC rfl (λK f=>?_);clear d;rw[if_pos jP];go_simp;refine f _ _ ⟨u0,u5,u6,u7,u8,u9,u10,u11,u12,u13,u14,u15,u16,u17,u18,u19,u20,u21,u22,u23,u24,u25,u26,u27,u28,u29,u30,u31,u32,u33,u34,u35,u36,u37,u38,u39,u40,u41,v2,v3,aq (Z ⟨g,0,I⟩),cg #[aq (Z ⟨g,0,I⟩)],pc,pa,v46,o8,o7,v49,o6,v51,own,rfl,(h).Sv _ ⟨g,m,rfl,k,hw⟩⟩
  ·cases p;have b:=R.O.kept h.fN;have k0:=b.cell 0;have k1:=b.cell 1;have k2:=b.cell 2;have k3:=b.cell 3;have k4:=b.cell 4;have H:=b.cell 5;simp at k0 k1 k2 k3 k4 H;refine lC rfl (λK f=>?_);rw[if_pos jP];go_simp;refine f _ _ ⟨u0,u5,u6,u7,u8,u9,u10,u11,u12,u13,u14,u15,u16,u17,u18,u19,u20,u21,u22,u23,u24,u25,u26,u27,u28,u29,u30,u31,u32,u33,u34,u35,u36,u37,u38,u39,u40,u41,v2,v3,pf,pd,cg (Kf aG eJ cX eA ek aT),pa,v46,o8,o7,v49,o6,v51,own,rfl,(h).Su _ rfl⟩
  ·cases p;refine lC rfl (λK f=>?_);rw[if_pos jP];go_simp;refine f _ _ ⟨u0,u5,u6,u7,u8,u9,u10,u11,u12,u13,u14,u15,u16,u17,u18,u19,u20,u21,u22,u23,u24,u25,u26,u27,u28,u29,u30,u31,u32,u33,u34,u35,u36,u37,u38,u39,u40,u41,v2,v3,pf,pd,pc,.map (Z W.heap.size),v46,o8,o7,v49,o6,v51,_,rfl,(h.below ((ao _ _).alloc (aj _) (.map #[] 0)) 3).St _ ⟨_,rfl,gE.made W _,.inr ⟨rfl,aj _,dt⟩⟩⟩
  ·cases p;refine lC rfl (λK f=>?_);rw[if_pos jP];go_simp;refine f _ _ ⟨u0,u5,u6,u7,u8,u9,u10,u11,u12,u13,u14,u15,u16,u17,u18,u19,u20,u21,u22,u23,u24,u25,u26,u27,u28,u29,u30,u31,u32,u33,u34,u35,u36,u37,u38,u39,u40,u41,v2,v3,pf,pd,pc,pa,aq (Z ⟨qg,0,I⟩),o8,o7,v49,o6,v51,own,rfl,(h).Ss _ rfl⟩
  ·cases p;refine lC rfl (λK f=>?_);rw[if_pos jP];go_simp;go_at_call 34;refine(FB W).mono ?_;rintro e w' ⟨T,rfl,k,bb,y1⟩;dsimp only;refine f _ _ ⟨u0,u5,u6,u7,u8,u9,u10,u11,u12,u13,u14,u15,u16,u17,u18,u19,u20,u21,u22,u23,u24,u25,u26,u27,u28,u29,u30,u31,u32,u33,u34,u35,u36,u37,u38,u39,u40,u41,v2,v3,pf,pd,pc,pa,v46,aq (Z ⟨T.g,0,I⟩),o7,v49,o6,v51,_,rfl,(h.below bb 5).Sr _ ⟨T,rfl,k,λb q=>.inr ⟨rfl,y1 b q,k.lt b q⟩⟩⟩
  ·cases p;refine lC rfl (λK f=>?_);rw[if_pos jP];go_simp;refine f _ _ ⟨u0,u5,u6,u7,u8,u9,u10,u11,u12,u13,u14,u15,u16,u17,u18,u19,u20,u21,u22,u23,u24,u25,u26,u27,u28,u29,u30,u31,u32,u33,u34,u35,u36,u37,u38,u39,u40,u41,v2,v3,pf,pd,pc,pa,v46,o8,.map (Z W.heap.size),v49,o6,v51,_,rfl,(h.below ((ao _ _).alloc (aj _) (.map #[] 0)) 6).Sq _ ⟨_,rfl,gA.made W KI,.inr ⟨rfl,aj _,dt⟩⟩⟩
  ·cases p;refine lC rfl (λK f=>?_);rw[if_pos jP];go_simp;refine f _ _ ⟨u0,u5,u6,u7,u8,u9,u10,u11,u12,u13,u14,u15,u16,u17,u18,u19,u20,u21,u22,u23,u24,u25,u26,u27,u28,u29,u30,u31,u32,u33,u34,u35,u36,u37,u38,u39,u40,u41,v2,v3,pf,pd,pc,pa,v46,o8,o7,.map (Z W.heap.size),o6,v51,_,rfl,(h.below ((ao _ _).alloc (aj _) (.map #[] 0)) 7).Sp _ ⟨_,rfl,gA.made W KO,.inr ⟨rfl,aj _,dt⟩⟩⟩
  ·cases p;obtain⟨bg,bm,SI,k,U⟩:=h.f1 (d ⟨1,.data⟩ dt rfl);have SJ:=h.f2 (d ⟨2,.data⟩ dt rfl);obtain⟨ret,SK,Y,aI⟩:=h.f3 (d ⟨3,.data⟩ dt rfl);have SL:=h.f4 (d ⟨4,.data⟩ dt rfl);obtain⟨T,SM,hT,df⟩:=h.f5 (d ⟨5,.data⟩ dt rfl);obtain⟨lm,SN,hL,eI⟩:=h.f6 (d ⟨6,.data⟩ dt rfl);obtain⟨sm,SO,hM,gX⟩:=h.f7 (d ⟨7,.data⟩ dt rfl);subst SI SJ SK SL SM SN SO;obtain⟨l,x⟩:=bu (dj k (dj U (dj Y (dj aI (dj hT (dj df (dj hL (dj eI (dj hM gX))))))))) h;clear d k U Y aI hT df hL eI hM gX h;refine lC rfl (λK f=>?_);rw[if_pos jP];go_simp;refine f _ _ ⟨u0,u5,u6,u7,u8,u9,u10,u11,u12,u13,u14,u15,u16,u17,u18,u19,u20,u21,u22,u23,u24,u25,u26,u27,u28,u29,u30,u31,u32,u33,u34,u35,u36,u37,u38,u39,u40,u41,v2,v3,pf,cg #[aq (Z ⟨bg,0,I⟩)],cg (Kf aG eJ cX eA ek aT),.map (Z ret),aq (Z ⟨qg,0,I⟩),aq (Z ⟨T.g,0,I⟩),.map (Z lm),.map (Z sm),_,v51,own,rfl,(x.O).Sn _ ⟨⟨0,bg,bm,ret,qg,qp,T,lm,sm,λ_=>I,λ_=>I,ae I 0 0,ae I 0 0⟩,by rw[D.O];rfl,⟨l.O.1,l.O.2.1,l.O.2.2.1,l.O.2.2.2.1,⟨rfl,rfl⟩,l.O.2.2.2.2.1,l.O.2.2.2.2.2.1,l.O.2.2.2.2.2.2.1,l.O.2.2.2.2.2.2.2.1,l.O.2.2.2.2.2.2.2.2.1,l.O.2.2.2.2.2.2.2.2.2,⟨rfl,rfl,rfl,rfl⟩⟩⟩⟩
  ·cases p;obtain⟨B,SP,k⟩:=h.f8 (d ⟨8,.data⟩ dt rfl);subst SP;obtain⟨HB,x⟩:=bu k h;clear d k h;refine lC rfl (λK f=>?_);rw[if_pos jP];go_simp;have al:aC W (W.alloc (.cells (oS B R0) 61)):=(ao _ _).alloc (aj _) _;have SQ:=HB.O.aG (c:=⟨aG,eJ,cX,eA,ek,aT⟩) x.O.fN x.O.wb x.O.vd SH.O HC.O (low:=w.heap.size) C.O.size ⟨z,z⟩;rw[<-D.O]at SQ;refine f _ _ ⟨u0,u5,u6,u7,u8,u9,u10,u11,u12,u13,u14,u15,u16,u17,u18,u19,u20,u21,u22,u23,u24,u25,u26,u27,u28,u29,u30,u31,u32,u33,u34,u35,u36,u37,u38,u39,u40,u41,v2,v3,pf,pd,pc,pa,v46,o8,o7,v49,cg (oS B R0),aq (Z ⟨W.heap.size,0,I⟩),_,rfl,(x.O.below al 9).Sm _ ⟨_,rfl,SQ.1,SQ.2⟩⟩
  ·cases p;obtain⟨B,SU,k,mK⟩:=h.f9 (d ⟨9,.data⟩ dt rfl);subst SU;obtain⟨HB,x⟩:=bu (dj k mK) h;clear d k mK h;refine lC rfl (λK f=>?_);rw[if_pos jP];go_simp;refine f _ _ ⟨u0,u5,u6,u7,u8,u9,u10,u11,u12,u13,u14,u15,u16,u17,u18,u19,u20,u21,u22,u23,u24,u25,u26,u27,u28,u29,u30,u31,u32,u33,u34,u35,u36,u37,u38,u39,u40,u41,aq (Z ⟨B.g,0,I⟩),v3,pf,pd,pc,pa,v46,o8,o7,v49,o6,aq (Z ⟨B.g,0,I⟩),own,rfl,(x.O).Ro _ ⟨B,rfl,HB.O.1,HB.O.2⟩⟩
  ·cases p;refine lC rfl (λK f=>?_);rw[if_pos jP];go_simp;refine f _ _ ⟨u0,u5,u6,u7,u8,u9,u10,u11,u12,u13,u14,u15,u16,u17,u18,u19,u20,u21,u22,u23,u24,u25,u26,u27,u28,u29,u30,u31,u32,u33,u34,u35,u36,u37,u38,u39,u40,u41,v2,J V 0,pf,pd,pc,pa,v46,o8,o7,v49,o6,v51,own,rfl,(h).Rm _ rfl⟩
 ·rintro listed a W ⟨u0,u5,u6,u7,u8,u9,u10,u11,u12,u13,u14,u15,u16,u17,u18,u19,u20,u21,u22,u23,u24,u25,u26,u27,u28,u29,u30,u31,u32,u33,u34,u35,u36,u37,u38,u39,u40,u41,v2,v3,pf,pd,pc,pa,v46,o8,o7,v49,o6,v51,own,rfl,h⟩ s;obtain⟨B,rfl,hR,y⟩:=h.f10 (s 10 aR);have e3:=h.f11 (s 11 aR);subst e3;have hb:=C.O.trans (h.fN.mono C.O.size);have l:=au (dj hR (dj y hb));clear hR y hb h s;go_wp2_with fail;refine ax (ew rfl _ _ _) rfl ?_;exact⟨⟨B,rfl,by rw[<-D.O];exact l.O.1,l.O.2.1⟩,l.O.2.2⟩
 ·refine⟨_,_,_,_,_,_,_,_,_,_,_,_,_,_,_,_,_,_,_,_,_,_,_,_,_,_,_,_,_,_,_,_,_,_,_,_,_,_,_,_,_,_,_,_,_,_,_,_,_,_,λ_ _=>False,rfl,⟨rfl,eW (ao _ _),λi b q=>q.elim,λi j b q=>q.elim,λq=>(by cases q),λq=>(by cases q),λq=>(by cases q),λq=>(by cases q),λq=>(by cases q),λq=>(by cases q),λq=>(by cases q),λq=>(by cases q),λq=>(by cases q),λq=>(by cases q),λq=>(by cases q),λq=>(by cases q)⟩⟩
def xV(aG eJ cX eA ek aT:Int)(w:aw)(C:M.jr aG eJ cX eA ek aT=false) :
  aF af 9 #[cg #[J V aG,J V eJ,J V cX,J V eA,J V ek,J V aT]] w λe w'=>e=av (aB #[aq I,J V 1])/\aC w w':=by
 have G:=au C;clear C;go_enter func9,ntmps9;go_upto_region 1 with fail;obtain⟨r1,c⟩:=dH w.heap.size;rw[<-c];refine aW (λX=>aK X r1 25 #[J V aG,J V eJ,J V cX,J V eA,J V ek,J V aT]/\aC w X) ⟨aK.newAt _ _ _ _ c,(ao _ w).alloc (aj _) _⟩ ?_;clear c;rintro X ⟨b1,D⟩;have E:=b1.cell 0;have r:=b1.cell 1;have s:=b1.cell 2;have v:=b1.cell 3;have x:=b1.cell 4;have y:=b1.cell 5;simp at E r s v x y;have d:=au D;clear b1 D;by_cases hr:1<=aG/\aG<=8;rotate_left
 ·have k:=au (AF aG X z);clear hr;go_wp2_with (go_at_call 30;refine k.O.mono ?_;rintro e w1 ⟨rfl,c⟩;have c:=c.symm;subst c);refine ax (ew rfl _ _ _) rfl ?_;exact⟨rfl,d.O⟩
 obtain⟨t,rfl⟩:∃t:Nat,aG=t:=⟨aG.toNat,z⟩;have k:=au (BH t X z z);by_cases l:(1<=eJ/\eJ<=8)/\(0<=cX/\cX<=1000);rotate_left
 ·have u:=au (λW=>Hn eJ cX W l);clear l;go_wp2_with (first|(go_at_call 30;refine k.O.mono ?_;rintro e w1 ⟨qg,qp,rfl,A,m,l1,l2⟩;have b:=m.nothing;have j1:=aM b r;have j2:=aM b s;have g:=au b;clear A m l1 l2 b)|(go_at_call 31;refine(u.O _).mono ?_;rintro e w2 ⟨rfl,c⟩;have c:=c.symm;subst c));refine ax (ew rfl _ _ _) rfl ?_;exact⟨rfl,d.O.trans (g.O.mono d.O.size)⟩
 have u:=au (λW=>vM eJ cX W l.1 l.2);obtain⟨F,h⟩:=dH (decide (1<=eA)&&(decide (eA<=ek)&&decide (ek<=1000)));have n:F=true->aT<1\/10<aT:=by
  intro q;have h0:=G.O;rw[q]at h;have h1:=h.symm;simp only[Bool.and_eq_true,decide_eq_true_eq]at h1;by_cases H:aT<1\/10<aT
  ·exact H
  ·exfalso;have:M.jr t eJ cX eA ek aT=true:=by simp[M.jr];omega
   rw[this]at h0;cases h0
 have i:=λW=>Lh eA ek W;rw[<-h]at i;obtain⟨j,B⟩:=bu i n;clear i n h l hr;go_upto_region 7 with(first|(go_big_may;go_at_call 30;refine k.O.mono ?_;rintro e w1 ⟨qg,qp,rfl,A,m,l1,l2⟩;have b:=m.nothing;have j1:=aM b r;have j2:=aM b s;have j3:=aM b v;have j4:=aM b x;have j5:=aM b y;have g:=au b;clear A m l1 l2 b E r s v x y)|(go_big_may;go_at_call 31;refine(u.O _).mono ?_;rintro e w2 ⟨L,rfl,_,b2,_⟩;have i3:=aM b2 j3;have i4:=aM b2 j4;have i5:=aM b2 j5;have o:=au b2;clear b2 j1 j2 j3 j4 j5))
 have bw:=d.O.trans (g.O.mono d.O.size);have p:=bw.trans (o.O.mono bw.size);have a:=au p;clear bw p g o k u;cases F with
 |false =>
  go_wp2_with (go_at_call 32;refine(j.O _).mono ?_;rintro e w3 ⟨rfl,b3⟩;have f:=au b3;clear b3 i3 i4 i5);refine ax (ew rfl _ _ _) rfl ?_;exact⟨rfl,a.O.trans (f.O.mono a.O.size)⟩
 |true =>
  rcases B.O rfl with hm|hm
  ·go_wp2_with (go_at_call 32;refine(j.O _).mono ?_;rintro e w3 ⟨rfl,b3⟩;have h5:=aM b3 i5;have f:=au b3;clear b3 i3 i4 i5);refine ax (ew rfl _ _ _) rfl ?_;exact⟨rfl,a.O.trans (f.O.mono a.O.size)⟩
  ·have K:¬aT<1:=z;go_wp2_with (go_at_call 32;refine(j.O _).mono ?_;rintro e w3 ⟨rfl,b3⟩;have h5:=aM b3 i5;have f:=au b3;clear b3 i3 i4 i5);refine ax (ew rfl _ _ _) rfl ?_;exact⟨rfl,a.O.trans (f.O.mono a.O.size)⟩
section
def Sx(xs:M.cQ):Prop:=xs=[]\/(16:Int)∈xs
def KH(p:M.cR):Prop:=Sx p.fp/\Sx p.cF
structure Nl(R:M.Room):Prop where
 dm:∀x∈R.dm,Sx x
 aO:∀a∈R.aO,KH a.bW
 cj:R.cj=[]
 cK:∀s l,R.aD s=Z l->∀x∈l.cK,KH x.bW
 bF:∀s l,R.aD s=Z l->∀x∈l.bF,KH x.1.bW
 ready:∀s l,R.aD s=Z l->∀x∈l.ready,Sx x.2
 fF:∀s l,R.aD s=Z l->∀x∈l.fF,Sx x.2
def PW(cs:Array Value):Prop:=∀v∈cs.toList,v≠J bI 16
def mT(w:aw)(F:Nat->Prop):Prop:=∀i cs,F i->(aK w i 5 cs->PW cs)/\¬aK w i 41 cs
section
variable {w w':aw} {F:Nat->Prop}
def TL.jF{A:Option Addr}{n:Nat}{xs:List Int}(h:TL 5 bI w A n xs)(u:cS F w w')(hF:mT w F)(g:Sx xs):TL 5 bI w' A n xs:=by
 obtain⟨h1,h2,h3⟩:=h;refine⟨h1,h2,λh0=>?_⟩;obtain⟨b,off,cs,e,d,f⟩:=h3 h0;refine⟨b,off,cs,e,d.dW u (λq=>?_),f⟩;have k:=(hF b cs q).1 d;rcases g with rfl|j
 ·simp at h1;omega
 ·obtain⟨i,l,a⟩:=List.getElem_of_mem j;have c:=f i z;rw[bE,ay l,a]at c;rw[<-Array.getElem?_toList]at c;exact k _ (List.mem_of_getElem? c) rfl
def TL.Om{A:Option Addr}{n:Nat}{xs:List Int}(h:TL 41 ar w A n xs)(u:cS F w w')(hF:mT w F):TL 41 ar w' A n xs:=by
 obtain⟨h1,h2,h3⟩:=h;refine⟨h1,h2,λh0=>?_⟩;obtain⟨b,off,cs,e,a,c⟩:=h3 h0;exact⟨b,off,cs,e,a.dW u (λq=>(hF b cs q).2 a),c⟩
def Sl.At.jF{s:Sl}{xs:List Int}(h:s.B w xs)(u:cS F w w')(hF:mT w F)(a:Sx xs):s.B w' xs:=h.map λq=>q.jF u hF a
def iT.jF{p:M.cR}{s e y:Sl}(h:iT w p s e y)(u:cS F w w')(hF:mT w F)(a:KH p):iT w' p s e y:=
 ⟨h.s.map λq=>q.Om u hF,h.e.jF u hF a.1,h.y.jF u hF a.2,h.type,h.dQ,h.aU,h.bJ,h.bV,h.small⟩
def Fit.xZ{α:Type}{R S:α->List Value->Prop}:∀{xs:List α} {cs:List (List Value)},(∀x∈xs,∀c,R x c->S x c)->Fit R xs cs->Fit S xs cs
 |[],[],_,_=>trivial
 |x::xs,c::cs,k,h=>⟨k x dt c h.1,Fit.xZ (λy hy=>k y (by simp[hy])) h.2⟩
 |[],_::_,_,h=>h.elim
 |_::_,[],_,h=>h.elim
def uH.jF{x:M.Item}{c:List Value}(h:uH w x c)(u:cS F w w')(hF:mT w F)(a:KH x.bW):uH w' x c:=by
 obtain⟨s,e,y,h1,h2,h3⟩:=h;exact⟨s,e,y,h1,h2.jF u hF a,h3⟩
def pK.jF{x:M.Item×Bool}{c:List Value}(h:pK w x c)(u:cS F w w')(hF:mT w F)(a:KH x.1.bW):pK w' x c:=by
 obtain⟨s,e,y,h1,h2,h3⟩:=h;exact⟨s,e,y,h1,h2.jF u hF a,h3⟩
def mG.jF{x:Nat×M.cQ}{c:List Value}(h:mG w x c)(u:cS F w w')(hF:mT w F)(a:Sx x.2):mG w' x c:=by
 obtain⟨b,h1,h2,h3⟩:=h;exact⟨b,h1,h2.jF u hF a,h3⟩
def uJ.jF{x:M.kM}{c:List Value}(h:uJ w x c)(u:cS F w w')(hF:mT w F)(a:KH x.bW):uJ w' x c:=by
 obtain⟨s,e,y,h1,h2⟩:=h;exact⟨s,e,y,h1,h2.jF u hF a⟩
def Dd.jF{x:M.cQ}{c:List Value}(h:Dd w x c)(u:cS F w w')(hF:mT w F)(a:Sx x):Dd w' x c:=by
 obtain⟨b,h1,h2,h3⟩:=h;exact⟨b,h1,h2.jF u hF a,h3⟩
def ca.jF{B:LB}{aG N:Nat}{aT:Int}{l:M.dP}(h:ca w B aG aT l N)(u:cS F w w')(hF:mT w F)(a:∀i,B.own i->¬F i)
  (a1:∀x∈l.cK,KH x.bW) (a2:∀x∈l.bF,KH x.1.bW) (a3:∀x∈l.ready,Sx x.2) (a4:∀x∈l.fF,Sx x.2):ca w' B aG aT l N:=by
 obtain⟨d,r1,f1⟩:=h.cK;obtain⟨e,r2,f2⟩:=h.bF;obtain⟨f,g,f3⟩:=h.ready;obtain⟨j,r4,f4⟩:=h.fF;exact⟨h.cw.dW u (a _ (.inl rfl)),⟨d,r1.dW u (a _ (.inr (.inl (.inl rfl)))) (a _ (.inr (.inl (.inr rfl)))),f1.xZ λx b c q=>q.jF u hF (a1 x b)⟩,
  ⟨e,r2.dW u (a _ (.inr (.inr (.inl (.inl rfl))))) (a _ (.inr (.inr (.inl (.inr rfl))))),f2.xZ λx b c q=>q.jF u hF (a2 x b)⟩,
  ⟨f,g.dW u (a _ (.inr (.inr (.inr (.inl (.inl rfl)))))) (a _ (.inr (.inr (.inr (.inl (.inr rfl)))))),f3.xZ λx b c q=>q.jF u hF (a3 x b)⟩,
  ⟨j,du r4 u (λi k=>a i (.inr (.inr (.inr (.inr k))))),f4.xZ λx b c q=>q.jF u hF (a4 x b)⟩,h.ne,h.et,h.small⟩
def ly.jF{B:RB}{R:M.Room}{N:Nat}(u:cS F w w')(hF:mT w F)(e:Nl R):∀{X:xN},ly w B R N X->(∀i,B.own X i->¬F i)->ly w' B R N X
 | .aG,h,d=>aK.dW h u (d _ rfl)
 | .di,h,d=>eD.dW h u (d _ (.inl rfl)) (d _ (.inr rfl))
 | .ret,h,d=>gE.dW h u (d _ rfl)
 | .dm,h,d=>by obtain⟨q,h1,h2⟩:=h;exact⟨q,h1.dW u (d _ (.inl rfl)) (d _ (.inr rfl)),h2.xZ λx f c k=>k.jF u hF (e.dm x f)⟩
 | .table,h,d=>fA.dW h u d
 | .aD,h,d=>gA.dW h u (d _ rfl)
 | .az,h,d=>gA.dW h u (d _ rfl)
 | .fo s,h,d=>lX.mono h λa b h1 h2 k=>k.jF u hF (λi g=>d i ⟨b,h2,g⟩) (e.cK s a h1) (e.bF s a h1) (e.ready s a h1) (e.fF s a h1)
 | .fO o,h,d=>lX.mono h λa b h1 h2 k=>⟨k.cw.dW u (d _ ⟨b,h2,.inl rfl⟩),k.buf.dW u (λi g=>d i ⟨b,h2,.inr g⟩),k.uE,k.fH,k.gB⟩
 | .aO,h,d=>by obtain⟨q,h1,h2⟩:=h;exact⟨q,du h1 u d,h2.xZ λx f c k=>k.jF u hF (e.aO x f)⟩
 | .cj,h,d=>by
  obtain⟨q,h1,h2⟩:=h;refine⟨q,du h1 u d,?_⟩;rw[e.cj]at h2 ⊢;exact h2.xZ λx f c k=>absurd f dt
def aL.jF{B:RB}{R:M.Room}{N:Nat}(h:aL w B R N)(u:cS F w w')(hF:mT w F)(a:Nl R)(b:∀i,B.all i->¬F i):aL w' B R N:=
 ⟨λX=>(h.part X).jF u hF a λi c=>b i ⟨X,c⟩,h.vd,h.et⟩
end
end
def Gh(x:Nat×M.cQ):List Int:=[(x.1:Int),(M.eP x.2).1.dQ,(M.eP x.2).1.aU]
def s8(it:Int->ByteArray)(x:Nat×M.cQ):ByteArray:=⟨(mb (((Gh x).map it).map (·.data.toList)) [58]).toArray⟩
def IN{B:RB}{R:M.Room}{N:Nat}{w:aw}(h:aL w B R N)(p:Nat)(v0:Value)(hp:aK w p 180 #[aq (Z ⟨B.g,0,I⟩)])(s:Int)(hs:(dU V s).wf=true)(hN:N<=1000000)(it:Int->ByteArray)
  (H:∀x∈M.kA R s,∀n∈Gh x,∀W,aC w W->aF af 136 #[J V n] W λe W'=>e=av (.string (it n))/\aC W W') (h1:1<=(M.kA R s).length) (h2:(M.kA R s).length<=100)
  (C:∀x∈M.kA R s,(mb (((Gh x).map it).map (·.data.toList)) [58]).length<=100000) (Q:(mb (((M.kA R s).map (s8 it)).map (·.data.toList)) vD.data.toList).length<=100000) :
  aF af 255 #[aq (Z ⟨p,0,I⟩),J V s] w λe w'=>e=av (.string ⟨(mb (((M.kA R s).map (s8 it)).map (·.data.toList)) vD.data.toList).toArray⟩)/\aC w w':=by
 obtain⟨i0,hi,SM,SN,SO⟩:=cY Mw;obtain⟨HI,Ti,Tj,Tk,HW⟩:=gY hi SM SN SO (tL h s hs hN);have c0:=hp.cell 0;simp at c0;obtain⟨L,hL⟩:=dH (M.kA R s);rw[<-hL]at HW H h1 h2 C Q;obtain⟨HL,HH,HJ,Tl⟩:=cA hL H C Q;clear hi SM SN SO h hp hL H C Q;go_enter func255,ntmps255;go_wp2_with (go_at_call 13;refine HW.O.mono ?_;rintro e w2 ⟨v,q,rfl,own,fit,b2⟩;obtain⟨A1,c1,rfl⟩:=bA own;have HO:=au own;have HF:=au fit;have f:=au b2;clear own fit b2);go_loopw [5,17] (λv i wr=>∃k:Nat,k<=L.length/\i=J V k/\wr.ownsRow w2.heap.size 9 1 v ((L.take k).map (s8 it)).length (((L.take k).map (s8 it)).map Value.string)/\aC w2 wr) (λ_ i _=>L.length-(intOf i).toNat);case atStart=>exact⟨0,Nat.zero_le _,rfl,⟨rfl,.inl ⟨rfl,rfl⟩⟩,ao _ _⟩
 case round =>
  obtain⟨k,hk,rfl,own,D⟩:=hrel;by_cases S:k<L.length
  ·have TA:((k:Int)<(L.length:Int)):=z;obtain⟨g1,m1,e1,z1,d⟩:=jZ HO.O (Fit.len (R:=mG w2) (λx c k=>by obtain⟨b,rfl,_⟩:=k;rfl) HF.O) z;injection e1 with Tm _ Tn
   subst Tm;subst Tn;have T:L[k]? = Z L[k]:=ay S;obtain⟨cx,l,m,rfl,U,TC,hid⟩:=Fit.get HF.O T;have k0:=aM D (d k _ l 0 z);have k1:=aM D (d k _ l 1 z);simp at k0 k1;have aI:L[k]∈L:=List.getElem_mem S;have o:(L.take (k+1)).map (s8 it)=(L.take k).map (s8 it)++[s8 it L[k]]:=by rw[List.take_succ_eq_append_getElem S,fL];rfl
   have r:((L.take k).map (s8 it)).length=k:=dZ;have df:=HH.O L[k] aI;have eI:=HJ.O L[k] aI;generalize L[k]=x at T l U hid k0 k1 o df eI;rw[r]at own;generalize ((L.take k).map (s8 it))=vs at own o r;obtain⟨A5,c5,rfl⟩:=bA own;have SP:=f.O.trans (D.mono f.O.size);obtain⟨To,Tp,SQ,SU,SV,Tq,Tr,SW⟩:=qh r o own D SP df eI (U.rows (.inl rfl) (.bn D));clear r o own D SP df eI U T l aI d;go_upto_region 5 with fail;obtain⟨r7,e7⟩:=dH wr.heap.size;rw[<-e7];refine aW (λX=>aK X r7 80 #[J V x.1,ae m.a m.n m.c]/\aC wr X) ⟨by simpa using aK.newAt _ _ _ _ e7,(ao _ wr).alloc (aj _) _⟩ ?_;clear e7 k0 k1;rintro X ⟨b7,bX⟩;have j0:=b7.cell 0;have j1:=b7.cell 1;simp at j0 j1;obtain⟨Ts,gX,SX⟩:=bU (wF m.a m.n m.c x.2 X (SW.O.rows (.inl rfl) (.bn bX)).tl SW.O.zero z) bX b7;clear bX b7;go_upto_region 6 with(go_at_call 16;refine Ts.O.mono ?_;rintro e w4 ⟨⟨sp,ep,yp,rfl,SY⟩,b4⟩;have mK:=au SY;have SG:=au b4;clear SY b4)
   obtain⟨r8,e8⟩:=dH w4.heap.size;rw[<-e8];have b4:=gX.O.trans (SG.O.mono gX.O.size);have SZ:=mK.O.dQ;have Ta:=mK.O.aU;obtain⟨P,hP⟩:=dH ((M.eP x.2).1);rw[<-hP]at SZ Ta ⊢;refine aW (λY=>aK Y r8 76 (uA P sp ep yp)/\aK Y r7 80 #[J V x.1,ae m.a m.n m.c]/\aC wr Y) ⟨aK.newAt _ _ _ _ e8,(SX.O.kept SG.O).alloc _,b4.alloc b4.size _⟩ ?_;clear e8 b4 j0 j1 SX SG gX mK;rintro Y ⟨b8,b7,bY⟩;have j0:=b7.cell 0;have p2:=b8.cell 2;have p3:=b8.cell 3;simp at j0 p2 p3;have x1:V.wrap P.dQ=P.dQ:=IntWalk.i64_in _ ⟨z,z⟩;have x2:V.wrap P.aU=P.aU:=IntWalk.i64_in _ ⟨z,z⟩;have SH:Gh x=[(x.1:Int),P.dQ,P.aU]:=by unfold Gh;rw[hP]
   have t:=SV.O.trans (bY.mono SV.O.size);have al:=(ao Y.heap.size Y).alloc (aj _) (.cells #[J V x.1,J V P.dQ,J V P.aU] 3);have hit:=Tq.O;have SI:=Tr.O;rw[SH]at hit SI;have y:=Gf ⟨#[58]⟩ Y.heap.size 0 3 [(x.1:Int),P.dQ,P.aU] it (Y.alloc (.cells #[J V x.1,J V P.dQ,J V P.aU] 3)) (λj u hu=>by
    rw[cO,cell_of_row _ _ j _ _ _ (heap_alloc_new Y _)]
    rcases j with _|_|_|j
    ·simp at hu;rw[<-hu];rfl
    ·simp at hu;rw[<-hu];rfl
    ·simp at hu;rw[<-hu];rfl
    ·simp at hu) dt dt dt (λn hn W b=>hit n hn W ((t.trans (al.mono t.size)).trans (b.mono (Nat.le_trans t.size al.size)))) SI
   have Tb:(⟨(mb (([(x.1:Int),P.dQ,P.aU].map it).map (·.data.toList)) [58]).toArray⟩:ByteArray)=s8 it x:=by unfold s8;rw[SH]
   have y:aF af 254 #[.string ⟨#[58]⟩,ae (Z ⟨Y.heap.size,0,I⟩) 3 3] (Y.alloc (.cells #[J V x.1,J V P.dQ,J V P.aU] 3)) λe w'=>e=av (.string (s8 it x))/\Below (Y.alloc (.cells #[J V x.1,J V P.dQ,J V P.aU] 3)).heap.size (Y.alloc (.cells #[J V x.1,J V P.dQ,J V P.aU] 3)) w':=by rw[<-Tb];exact y
   obtain⟨Tc,SJ,SK⟩:=bU y bY al;clear y Tb hit SI al t bY b7 b8 SH hP SZ Ta;go_wp2_with fail;refine Tc.O.mono ?_;rintro e w5 ⟨rfl,b5⟩;have b5:=SJ.O.trans ((SK.O.trans (b5.mono SK.O.size)).mono SJ.O.size);have E:=Bg SQ.O b5;have b6:=SU.O.trans (b5.mono SU.O.size);have TD:=b6.size;obtain⟨SL,Td,F⟩:=bU E (fB w5 9 #[.string (s8 it x)]) (b6.alloc b6.size (.cells #[.string (s8 it x)] 9));clear b5 E b6 Tc SJ SK SQ;go_wp2_with (at_builtin;go_loud (refine dM _ rfl _ _ 181 rfl w2.heap.size 9 i0 _ 1 16 underlying181 HI.O Ti.O Tj.O Tk.O rfl aR _ _ _ rfl (SL.O.alloc _) ⟨w5.heap.size,0,I⟩ 1 1 [.string (s8 it x)] rfl rfl Td.O tk ?_ ?_ ?_ ?_))
   ·unfold maxLen;omega
   ·omega
   ·first|omega|(simp;omega)
   intro v5 w6 G g5 _;have b6:=F.O.grown g5 dZ (λj C=>((SL.O.alloc (.cells #[.string (s8 it x)] 9)).lt j C).1);obtain⟨Tt,Tu⟩:=bu G b6;clear G g5 b6 F Td SL;go_wp2_with fail;go_roundw;case rel=>exact⟨k+1,z,by go_num,by rw[Tp.O];simpa[To.O]using Tt.O,Tu.O⟩
   case measure=>simp[intOf];omega
  ·have Tv:k=L.length:=z;subst Tv;rw[List.take_length]at own;obtain⟨vs,A⟩:=dH (L.map (s8 it));have Tw:vs.length=L.length:=by rw[A];simp
   have Q:=Tl.O;rw[<-A]at own Q;have Te:0<vs.length:=z;obtain⟨g5,c5,rfl⟩:=Joins.ownsRow_form own Te;have Tf:g5<wr.heap.size:=(own.lt g5 rfl).2;have Tg:∀(j:Nat) x,vs[j]? = Z x->wr.cell? ⟨g5,0+j,I⟩=Z (.string x):=λj x C=>by
    have Tx:=(aS.1 C).1;rw[cO,own.cellAt j (by simpa using Tx),dE,C];rfl
   have K:vs.length<=c5:=by
    rcases own.2 with⟨q,_⟩ | ⟨g,cap,dx,q,_,_,q3,_⟩
    ·cases q
    ·injection q with _ _ q5
     subst q5;omega
   have Th:=LU g5 0 c5 vs wr Tg Tf z z K Q;obtain⟨Ty,HB,HV⟩:=bU Th (f.O.trans (D.mono f.O.size)) (A.trans (by rw[HL.O]));clear Th own D Tg Tf K Q A Tw;go_wp2_with (go_at_call 289;refine Ty.O.mono ?_;rintro e w3 ⟨rfl,b3⟩;have Tz:=au b3;clear b3);go_ret;exact⟨by rw[<-HV.O];rfl,HB.O.trans (Tz.O.mono HB.O.size)⟩
section
structure nr(w:aw)(base:Nat)(v:Value)(n:Nat)(xs:List Value):Prop where
 own:w.ownsRow base 5 1 v n xs
 no:∀g cs,v.ownBlock=Z g->aK w g 5 cs->PW cs
def wy{xs b:List Value}{n:Nat}(c:∀v∈xs,v≠J bI 16)(hy:∀v∈b,v≠J bI 16):PW (xs.toArray++b.toArray++fM (J bI 0).cells n):=by
 intro v a;simp only[Array.toList_append,bt]at a;rcases a with(a|a)|a
 ·exact c v a
 ·exact hy v a
 ·have e:v=J bI 0:=by
   have:v∈(fM (J bI 0).cells n):=by simpa using a
   obtain⟨i,d,rfl⟩:=Array.mem_iff_getElem.1 this;simp[fM,Value.cells,Nat.mod_one]
  rw[e];intro q;injection q with _ q;cases q
def nr.xs{w:aw}{base:Nat}{v:Value}{n:Nat}{xs:List Value}(h:nr w base v n xs):∀u∈xs,u≠J bI 16:=by
 rcases h.own.2 with⟨rfl,h0⟩ | ⟨g,cap,dx,rfl,b,hg,c,d,e,a⟩
 ·have:xs=[]:=by have:=h.own.1;exact cU.1 z
  rw[this];intro u hu;cases hu
 ·have f:aK w g 5 dx:=hg;have k:=h.no g dx rfl f;intro u hu;rw[<-a]at hu;exact k u (eZ hu)
section
variable (w:aw)
def xh(base:Nat)(t u ty:TypeId)(i:pO)(ht:af.underlying t=Z (.slice 5))(hu:af.underlying u=Z .string)(y:af.info? 5=Z i)(B:i.zero=Z (J bI 0))
  (e:i.size=1) (l:i.bytes=1) (v:Value) (n:Nat) (xs:List Value) (c:nr w base v n xs) (s:ByteArray) (C:∀x∈iP s,x≠J bI 16) (Q:n+s.size<=100000) (m:base<=w.heap.size) :
  ∃A w',(qe #[t,u] ty #[v,.string s]).run af w=.ok A w'/\nr w' base A (n+s.size) (xs++iP s)/\w.grownBy w' v.ownBlock:=by
 obtain⟨A,w',hr,h2,h3,h4⟩:=Lib.run_append_own_string (P:=af) w base t u ty 5 i ht hu y B e l v n xs c.own s ui z m;refine⟨A,w',hr,⟨h2,?_⟩,h3⟩;have D:=c.xs;intro R H f a;rcases c.own.2 with⟨rfl,h0⟩ | ⟨g,cap,dx,rfl,K,hg,L,M,E,F⟩
 ·by_cases hm:s.size=0
  ·have:=(h4.2 ⟨rfl,hm⟩);subst this;cases f
  ·have d:=run_append_nil_string (P:=af) w t u ty 5 i (J bI 0) ht hu y B s z z (by rw[l];omega);rw[hr]at d;injection d with o r
   subst o;simp[eR]at f;subst f;have o:(s.data.map λb=>J bI b.toNat)=(iP s).toArray:=by
    apply Array.ext';simp[iP]
   rw[o]at r;have q:aK w' w.heap.size 5 ((iP s).toArray++fM (J bI 0).cells (tA w s.size 0 5-s.size)):=by rw[r];exact aK.newAt w.drew 5 _ _ rfl
   unfold aK at q a;rw[q]at a;simp only[bf,kG,and_true]at a;rw[<-a];have N:=wy (n:=tA w s.size 0 5-s.size) (xs:=[]) (λu hu=>by cases hu) C;simpa using N
 ·by_cases p:n+s.size<=cap
  ·have G:dx.size=cap:=by simpa using E
   have d:=Lib.run_append_room_string (P:=af) w t u ty 5 i ht hu y e g n cap dx hg s p z;rw[hr]at d;injection d with o r
   subst o;simp[eR]at f;subst f;have q:aK w' g 5 (dx.toList.take n++iP s++dx.toList.drop (n+s.size)).toArray:=by rw[r];exact kQ w g dx _ 5 (0,0) hg
   unfold aK at q a;rw[q]at a;simp only[bf,kG,and_true]at a;rw[<-a];have k:=c.no g dx rfl hg;intro x h;simp only[bt]at h;rcases h with(h|h)|h
   ·exact k x (eZ h)
   ·exact C x h
   ·exact k x (ga h)
  ·have bD:∀j u,xs[j]? = Z u->w.cell? ((⟨g,0,I⟩:Addr).add j)=Z u:=c.own.cells (g:=g) rfl;have d:=Lib.run_append_grow_string (P:=af) w t u ty 5 i (J bI 0) ht hu y B ⟨g,0,I⟩ n cap xs (by rw[e];simpa using c.own.1) bD s z z (by rw[l];exact rG z z);rw[hr]at d;injection d with o r
   subst o;simp[eR]at f;subst f;have q:aK w' w.heap.size 5 (xs.toArray++(iP s).toArray++fM (J bI 0).cells (tA w (n+s.size) cap 5-(n+s.size))):=by rw[r];exact aK.newAt w.drew 5 _ _ rfl
   unfold aK at q a;rw[q]at a;simp only[bf,kG,and_true]at a;rw[<-a];exact wy D C
def xi(base:Nat)(t ty:TypeId)(i:pO)(ht:af.underlying t=Z (.slice 5))(C:af.info? 5=Z i)(E:i.zero=Z (J bI 0))
  (e:i.size=1) (p:i.bytes=1) (v:Value) (n:Nat) (xs:List Value) (d:nr w base v n xs) (a:Addr) (m c:Nat) (iX:List Value) (T:iX.length=m) (f:∀j u,iX[j]? = Z u->w.cell? (a.add j)=Z u)
  (h1:∀u∈iX,u.oneCell'=true) (F:∀x∈iX,x≠J bI 16) (hm:0<m) (U:n+m<=100000) (r:base<=w.heap.size) :
  ∃D w',(qe #[t,t] ty #[v,ae (Z a) m c]).run af w=.ok D w'/\nr w' base D (n+m) (xs++iX)/\w.grownBy w' v.ownBlock:=by
 have s:iX.length=m*i.size:=by rw[e];omega
 obtain⟨D,w',hr,h2,h3,h4⟩:=run_append_own (P:=af) w base t ty 5 i (J bI 0) 1 1 ht C E e p rfl aR v n xs d.own a m c iX z f h1 ui z r;refine⟨D,w',hr,⟨h2,?_⟩,h3⟩;have G:=d.xs;intro W M l b;rcases d.own.2 with⟨rfl,h0⟩ | ⟨g,cap,dx,rfl,N,hg,Q,R,H,K⟩
 ·have h:=run_append_nil (P:=af) w t ty 5 i (J bI 0) ht C E a m c iX s f hm z (by rw[p];omega);rw[hr]at h;injection h with A B
  subst A;simp[eR]at l;subst l;have q:aK w' w.heap.size 5 (iX.toArray++fM (J bI 0).cells (tA w m 0 5-m)):=by rw[B];exact aK.newAt w.drew 5 _ _ rfl
  unfold aK at q b;rw[q]at b;simp only[bf,kG,and_true]at b;rw[<-b];have S:=wy (n:=tA w m 0 5-m) (xs:=[]) (λu hu=>by cases hu) F;simpa using S
 ·by_cases y:n+m<=cap
  ·have L:dx.size=cap:=by simpa using H
   have h:=run_append_room (P:=af) w t ty 5 i ht C g n cap dx hg a m c iX s f h1 y (by rw[e];omega);rw[hr]at h;injection h with A B
   subst A;simp[eR]at l;subst l;have q:aK w' g 5 (dx.toList.take (n*i.size)++iX++dx.toList.drop (n*i.size+iX.length)).toArray:=by rw[B];exact kQ w g dx _ 5 (0,0) hg
   unfold aK at q b;rw[q]at b;simp only[bf,kG,and_true]at b;rw[<-b];have k:=d.no g dx rfl hg;intro x o;simp only[bt]at o;rcases o with(o|o)|o
   ·exact k x (eZ o)
   ·exact F x o
   ·exact k x (ga o)
  ·have bD:∀j u,xs[j]? = Z u->w.cell? ((⟨g,0,I⟩:Addr).add j)=Z u:=d.own.cells (g:=g) rfl;have h:=run_append_grow (P:=af) w t ty 5 i (J bI 0) ht C E ⟨g,0,I⟩ n cap xs (by rw[e];simpa using d.own.1) bD a m c iX s f z z (by rw[p];exact rG z z);rw[hr]at h;injection h with A B
   subst A;simp[eR]at l;subst l;have q:aK w' w.heap.size 5 (xs.toArray++iX.toArray++fM (J bI 0).cells (tA w (n+m) cap 5-(n+m))):=by rw[B];exact aK.newAt w.drew 5 _ _ rfl
   unfold aK at q b;rw[q]at b;simp only[bf,kG,and_true]at b;rw[<-b];exact wy G F
def vf{ops:Array mJ}{rest:List mJ}{o:mJ}{a:Act}{Q:Exit->Act->aw->Prop}(f:o.guard=I)(k x:Operand)(t u:TypeId)
  (l:o.op=.call { callee:=.builtin .append,args:=#[k,x],argTypes:=#[t,u] })
  (base:Nat) (i:pO) (ht:af.underlying t=Z (.slice 5)) (hu:af.underlying u=Z .string) (m:af.info? 5=Z i) (p:i.zero=Z (J bI 0)) (b:i.size=1) (g:i.bytes=1)
  (v:Value) (n:Nat) (xs:List Value) (j:a.eval k=v) (d:nr w base v n xs) (s:ByteArray) (q:a.eval x=.string s) (r:∀x∈iP s,x≠J bI 16) (y:n+s.size<=100000) (c:base<=w.heap.size)
  (h:∀e w',nr w' base e (n+s.size) (xs++iP s)->w.grownBy w' v.ownBlock->oD af ops Q rest (a.put o.dst e) w'):oD af ops Q (o::rest) a w:=by
 refine oB f λK A=>?_;obtain⟨e,w',hr,h2,h3⟩:=xh w base t u o.type i ht hu m p b g v n xs d s r y c;unfold Oper.wp execOp;simp only[l,resolve,invoke,builtin,Sem.run_bind,Sem.run_pure,Result.andThen_ok,tu,eV,jk,j,q,hr];exact A _ _ (h e w' h2 h3)
def vg{ops:Array mJ}{rest:List mJ}{o:mJ}{a:Act}{Q:Exit->Act->aw->Prop}(k:o.guard=I)(r x:Operand)(t:TypeId)
  (s:o.op=.call { callee:=.builtin .append,args:=#[r,x],argTypes:=#[t,t] })
  (base:Nat) (i:pO) (ht:af.underlying t=Z (.slice 5)) (y:af.info? 5=Z i) (A:i.zero=Z (J bI 0)) (b:i.size=1) (l:i.bytes=1)
  (v:Value) (n:Nat) (xs:List Value) (p:a.eval r=v) (f:nr w base v n xs) (q:Addr) (m c:Nat) (iX:List Value) (B:a.eval x=ae (Z q) m c) (C:iX.length=m) (d:∀j u,iX[j]? = Z u->w.cell? (q.add j)=Z u)
  (h1:∀u∈iX,u.oneCell'=true) (D:∀x∈iX,x≠J bI 16) (hm:0<m) (E:n+m<=100000) (e:base<=w.heap.size)
  (h:∀g w',nr w' base g (n+m) (xs++iX)->w.grownBy w' v.ownBlock->oD af ops Q rest (a.put o.dst g) w'):oD af ops Q (o::rest) a w:=by
 refine oB k λK F=>?_;obtain⟨g,w',hr,h2,h3⟩:=xi w base t o.type i ht y A b l v n xs f q m c iX C d h1 D hm E e;unfold Oper.wp execOp;simp only[s,resolve,invoke,builtin,Sem.run_bind,Sem.run_pure,Result.andThen_ok,tu,eV,jk,p,B,hr];exact F _ _ (h g w' h2 h3)
end
end
def nr.dW{F:Nat->Prop}{w w':aw}{base:Nat}{v:Value}{n:Nat}{xs:List Value}(h:nr w base v n xs)(u:cS F w w')(hF:∀i,v.ownBlock=Z i->¬F i):nr w' base v n xs:=
 ⟨du h.own u hF,λg cs hg b=>by
  have a:=(h.own.lt g hg).2
  have e:=u.block g a (hF g hg)
  refine h.no g cs hg ?_
  unfold aK at b ⊢
  rw[<-e];exact b⟩
def nr.ne{w:aw}{base:Nat}{v:Value}{n:Nat}{xs:List Value}(h:nr w base v n xs){b:Nat}{t:TypeId}{cs:Array Value}(a:aK w b t cs)(ht:t≠5):v.ownBlock≠Z b:=λe=>ej h.own a (jx ht) e.symm
def nr.PL{w:aw}{base:Nat}{v:Value}{n:Nat}{xs:List Value}(h:nr w base v n xs){g:Nat}(hg:v.ownBlock=Z g):∃cs,aK w g 5 cs:=by
 rcases h.own.2 with⟨rfl,_⟩ | ⟨b,cap,dx,rfl,_,a,_⟩
 ·cases hg
 ·simp[eR]at hg;subst hg;exact⟨dx,a⟩
def yA(w:aw)(base b:Nat)(t:List UInt8):Prop:=
 ∃(a:Option Addr) (v:Value),base<=b/\aK w b 178 #[aq a,v]/\(a=I\/a=Z ⟨b,0,I⟩)/\nr w base v t.length (gD t)
def QK(w:aw)(base b:Nat)(F:Nat->Prop):Prop:=mT w F/\∀i,F i->base<=i/\(i=b\/∃cs,aK w i 5 cs)
def Oh{w:aw}{base b:Nat}{e:Option Addr}{v:Value}{n:Nat}{xs:List Value}(f:base<=b)(d:aK w b 178 #[aq e,v])(c:nr w base v n xs):QK w base b (λi=>i=b\/v.ownBlock=Z i):=by
 refine⟨λi cs a=>⟨λk=>?_,λk=>?_⟩,λi a=>?_⟩
 ·rcases a with rfl|a
  ·exact absurd rfl (aK.jf k d aR)
  ·exact c.no i cs a k
 ·rcases a with rfl|a
  ·exact absurd rfl (aK.jf k d aR)
  ·obtain⟨g,q⟩:=c.PL a;exact absurd rfl (aK.jf k q aR)
 ·rcases a with rfl|a
  ·exact⟨f,.inl rfl⟩
  ·exact⟨(c.own.lt i a).1,.inr (c.PL a)⟩
def EC{w:aw}{b:Nat}{c:Option Addr}{v:Value}(a:aK w b 178 #[aq c,v])(d:c=I\/c=Z ⟨b,0,I⟩) :
  aF af 134 #[aq (Z ⟨b,0,I⟩)] w λe w'=>e=av (aB #[])/\aK w' b 178 #[aq (Z ⟨b,0,I⟩),v]/\cS (One b) w w':=by
 rcases d with rfl|rfl
 ·refine(GQ b v w a).mono ?_;rintro e w' ⟨rfl,rfl⟩;exact⟨rfl,by simpa using a.bC 0 (aq (Z ⟨b,0,I⟩)),(cS.refl (One b) _).setCell (p:=⟨b,0,I⟩) (.inl rfl) _⟩
 ·refine(Kc b w (by have f:=a.cell 0;simpa using f)).mono ?_;rintro e w' ⟨rfl,he⟩;rw[he];exact⟨rfl,a,cS.refl _ _⟩
def yT(w:aw)(base b:Nat)(a:List UInt8)(w':aw):Prop:=yA w' base b a/\∃F,QK w base b F/\cS F w w'
def IJ{w w1 w2:aw}{base b:Nat}{m:Option Addr}{v d:Value}{t s:List UInt8}{n:Nat}{xs:List Value}(h:base<=b)(hw:base<=w.heap.size)(k:aK w b 178 #[aq m,v])(l:nr w base v n xs)(f:aK w1 b 178 #[aq (Z ⟨b,0,I⟩),v])(u1:cS (One b) w w1)
  (a:nr w2 base d (t++s).length (gD (t++s))) (hg:w1.grownBy w2 v.ownBlock):yT w base b (t++s) (w2.setCell ⟨b,1,I⟩ d):=by
 have g:=l.ne k aR;have c:aK w2 b 178 #[aq (Z ⟨b,0,I⟩),v]:=f.grown hg (λe=>g e.symm);have u2:cS (λi=>i=b\/v.ownBlock=Z i) w w2:=(u1.mono λi _ q=>.inl q).grown hg (λj o=>.inl (.inr o));refine⟨⟨Z ⟨b,0,I⟩,d,h,by simpa using c.bC 1 d,.inr rfl,?_⟩,_,Oh h k l,u2.setCell (p:=⟨b,1,I⟩) (.inl (.inl rfl)) _⟩;exact a.dW (F:=One b) ((cS.refl (One b) _).setCell (p:=⟨b,1,I⟩) (.inl rfl) _) (λi r q=>a.ne c aR (by rw[r];exact congrArg Z q))
def uF(t s:List UInt8):gD (t++s)=gD t++gD s:=by unfold gD;rw[fL]
def IP(base b:Nat)(t:List UInt8)(s:ByteArray)(w:aw)(h:yA w base b t)(C:∀x∈iP s,x≠J bI 16)(G:t.length+s.size<=100000)(hw:base<=w.heap.size) :
  aF af 77 #[aq (Z ⟨b,0,I⟩),.string s] w λe w'=>e=av (aB #[J V s.size,.nilIface])/\yT w base b (t++s.data.toList) w':=by
 obtain⟨i0,n,d,f,g⟩:=cY Tryz.zL;obtain⟨Q,v,H,o,D,p⟩:=h;have E:=EC o D;obtain⟨K,r,u,y,L,F,M,HS⟩:=qh n d f g o p E C;have j:=p.ne o aR;have k:=au j;clear n d f g o p E C D j;go_enter func77,ntmps77;go_upto_region 2 with(go_at_call 134;refine M.O.mono ?_;rintro e w1 ⟨rfl,b1,u1⟩;have c1:=b1.cell 1;have f1:=b1.frozen 1;simp at c1;have l:=au b1;have m:=au u1;have A:=au (F.O.dW u1 (λi n q=>k.O (by rw[n];exact congrArg Z q)));clear b1 u1)
 have N:=m.O.size;go_wp2_with (at_builtin;go_loud (refine vf _ rfl _ _ 38 9 rfl base i0 underlying38 underlying9 K.O r.O u.O y.O _ _ _ rfl A.O s rfl HS.O G z ?_));intro v2 w2 a g2;have c:aK w2 b 178 #[aq (Z ⟨b,0,I⟩),v]:=l.O.grown g2 (λe=>k.O e.symm);have c1:=c.cell 1;have f1:=c.frozen 1;simp at c1;obtain⟨B,P⟩:=bu a g2;obtain⟨R,c2,rfl⟩:=bA a.own;clear a g2 c;go_wp2_with fail;refine ax (ew rfl _ _ _) rfl ?_;refine⟨rfl,IJ H hw L.O F.O l.O m.O ?_ P.O⟩;rw[uF];have e:(t++s.data.toList).length=t.length+s.size:=by rw[List.length_append];rfl
 rw[e];exact B.O
def Fl(base b:Nat)(t:List UInt8)(c:UInt8)(w:aw)(h:yA w base b t)(N:c≠16)(T:t.length+1<=100000)(hw:base<=w.heap.size) :
  aF af 79 #[aq (Z ⟨b,0,I⟩),J bI c.toNat] w λe w'=>e=av .nilIface/\yT w base b (t++[c]) w':=by
 obtain⟨i0,y,l,m,n⟩:=cY Tryz.zL;obtain⟨ad,v,U,A,P,C⟩:=h;have Q:=EC A P;have a:∀x∈[J bI c.toNat],x≠J bI 16:=by
  intro x R;simp at R;rw[R];intro e;injection e with _ e
  exact N (UInt8.toNat_inj.1 (by simpa using Int.ofNat.inj e))
 obtain⟨W,D,E,G,X,S,Y,HS⟩:=qh y l m n A C Q a;have o:=C.ne A aR;have p:=au o;obtain⟨B,H⟩:=dH (c.toNat:Int);rw[<-H]at HS ⊢;have HZ:=au H;clear y l m n A C Q N P o a H;go_enter func79,ntmps79;go_upto_region 2 with(go_at_call 134;refine Y.O.mono ?_;rintro e w1 ⟨rfl,b1,u1⟩;have c1:=b1.cell 1;have f1:=b1.frozen 1;simp at c1;have r:=au b1;have s:=au u1;have K:=au (S.O.dW u1 (λi y q=>p.O (by rw[y];exact congrArg Z q)));clear b1 u1)
 have aI:=s.O.size;have d:=au (K.O.dW (F:=cr) ((cS.refl _ w1).alloc (.cells #[J bI B] 5)) (λ_ _ q=>q));have u:=au (fB w1 5 #[J bI B]);go_wp2_with (at_builtin;go_loud (refine vg _ rfl _ _ 38 rfl base i0 underlying38 W.O D.O E.O G.O _ _ _ rfl d.O ⟨w1.heap.size,0,I⟩ 1 1 [J bI B] rfl rfl u.O tk HS.O aR T dZ ?_));intro v2 w2 f g2;have g:w1.grownBy w2 v.ownBlock:=⟨g2.os,g2.tape,g2.output,by have:=g2.size;simp at this;omega,λk hk L=>by
  have:=g2.block k dZ L
  rw[this];exact Below.heap_alloc w1 _ k hk⟩
 have j:aK w2 b 178 #[aq (Z ⟨b,0,I⟩),v]:=r.O.grown g (λe=>p.O e.symm);have c1:=j.cell 1;have f1:=j.frozen 1;simp at c1;obtain⟨M,HG⟩:=bu f g;obtain⟨A2,c2,rfl⟩:=bA f.own;clear f g2 j g d u;go_wp2_with fail;go_ret;refine⟨rfl,IJ U hw X.O S.O r.O s.O ?_ HG.O⟩;rw[uF];have e:(t++[c]).length=t.length+1:=dt;rw[e];have e2:gD [c]=[J bI B]:=by rw[HZ.O];rfl
 rw[e2];exact M.O
def Og(base b:Nat)(t:List UInt8)(w:aw)(h:yA w base b t)(hw:base<=w.heap.size) :
  aF af 80 #[aq (Z ⟨b,0,I⟩)] w λe w'=>e=av (.string ⟨t.toArray⟩)/\Below base w w':=by
 obtain⟨g,v,i,d,j,f⟩:=h;have k:(gD t).length=t.length:=by unfold gD;simp
 have a:w.ownsRow base 5 1 v (gD t).length (gD t):=by rw[k];exact f.own
 have c:Lib.BuilderAt 178 5 base b (aq g) (gD t) w:=⟨i,v,d,a,f.ne d aR⟩;have l:Lib.IsBuilder 178 5 base b (gD t) w:=by
  rcases j with rfl|rfl
  ·exact .inl c
  ·exact .inr c
 refine(Tryz.Builder_String_any_k base b t w (Lib.IsBuilderF.of l) hw).mono ?_;rintro e w' ⟨rfl,_,q,_⟩;exact⟨rfl,q⟩
end Go.Proofs.YtkfblammcilfhaaGreatDoor
