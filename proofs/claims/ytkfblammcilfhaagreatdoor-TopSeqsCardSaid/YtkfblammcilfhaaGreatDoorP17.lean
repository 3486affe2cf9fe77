import Derived.Laws.StructEq
import Derived.Test.YtkfblammcilfhaaGreatDoorP6
import Derived.Test.YtkfblammcilfhaaGreatDoorP14
import Derived.Test.YtkfblammcilfhaaGreatDoorP15
set_option linter.all false
set_option maxRecDepth 100000
set_option maxHeartbeats 100000000
open Go.ChangeShapes Go.WideShapes Go.ChangeAt Go.RowKit Go.Proofs.Tryz
open Option renaming isSome_iff_exists->dw,none->I,some->Z
open Go renaming World->aw,Calls->aF,wpAnyH_ready->cH,wpAnyH_done->gV,bodyPost_end->dq,results_none->bT,bodyPost_ret->ax,results->aV
open Go.Proofs.Tryz renaming prog->af
open List renaming getElem?_eq_getElem->ay,getD_eq_getElem?_getD->bE,getElem?_eq_some_iff->aS,setIfInBounds_toArray->eY,set_cons_zero->gK,set_cons_succ->gL,getElem_mem->dy,length_map->gP,getElem?_map->dE,foldl_cons->eN,mem_map->eU,map_map->qC,take_length->cT
open Go.RowKit.Below renaming refl->ao
open Nat renaming le_refl->aj,zero_add->cO,le_trans->aP,reduceAdd->mh
open Go.Instr renaming lookup->cD,mapUpdate->eF
open Go.Act renaming put->aA
open Go.AllReadyH renaming cons->bH,nil->cy
open Go.RowKit renaming intOf->bS
open Bool renaming false_eq_true->cB
open Go.Value renaming int->J,bool->ai,slice->ae,pointer->aq,tuple->aB,agg->cg
open Function renaming comp_def->sG
open Go.IntKind renaming i64->V,u32->ar,u16->aN,u8->bI
open Go.Ending renaming returned->av
namespace Go.Proofs.YtkfblammcilfhaaGreatDoor
section
def mF(R:M.Room):Prop:=∀s id,R.di s id=Z 0->(R.aD s).isSome=true
theorem Du{R:M.Room}(h:mF R)(s:Int)(id:Nat){f:Int}(d:f≠0):mF (R.bR s id f):=by
 intro s' a q;unfold M.Room.bR at q ⊢;split at q
 ·rename_i b;rw[if_pos b];refine h s' a ?_;simp only[M.set]at q;by_cases e:s'=s
  ·subst e;rw[if_pos rfl]at q;by_cases c:a=id
   ·subst c;rw[M.dY]at q;simp at q;exact absurd q d
   ·rw[M.da _ _ c]at q;exact q
  ·rw[if_neg e]at q;exact q
 ·rename_i b;rw[if_neg b];exact h s' a q
theorem FZ{R:M.Room}(h:mF R)(x:M.Item)(s:Int):mF (M.Room.iW x R s):=by
 unfold M.Room.iW;split
 ·split
  ·exact h
  ·rename_i l b;have h2:mF { R with aD:=M.set R.aD s (Z (l.put R.dA.aG x).1) }:=by
    intro s' a q;show(M.set R.aD s (Z (l.put R.dA.aG x).1) s').isSome=true;unfold M.set;split
    ·rfl
    ·exact h s' a q
   simp only;split
   ·exact Du h2 _ _ aR
   ·exact h2
 ·exact h
theorem FU{R:M.Room}{o:M.bN}(h:R.ready=Z o):(∃s d r,R.az o=Z s/\s.bQ.bD=d::r/\s.bQ.ready R.dA.eJ R.dA.cX R.cJ=true)/\(0<=o.1/\o.1<3)/\0<=o.2/\o.2<3:=by
 rw[wg]at h;have h1:=List.find?_some h;have h2:=List.mem_of_find?_eq_some h;obtain⟨a,b,c⟩:=rb R h2;obtain⟨s,e⟩:=dw.1 c;unfold Ni at h1;rw[e]at h1;simp only at h1;refine⟨⟨s,?_⟩,a,b⟩;cases hh:s.bQ.bD with
 |nil=>unfold M.mf.ready at h1;rw[hh]at h1;cases h1
 |cons d r=>exact⟨d,r,e,rfl,h1⟩
theorem FY{w:aw}{B:LB}{aG N:Nat}{aT:Int}{l:M.dP}(h:ca w B aG aT l N)(x:M.Item){b:Nat}(e:(l.put aG x).2=Z b):b<=1000000:=by
 unfold M.dP.put at e;split at e
 ·cases e
 ·simp only at e;split at e
  ·cases a:l.cK with
   |nil=>rw[a]at e;cases e
   |cons y r =>
    rw[a]at e;simp at e;rw[<-e];exact h.EF a
  ·cases e
theorem Jk{R:M.Room}(h:mF R)(x:M.Item):∀l:List Int,mF (l.foldl (M.Room.iW x) R):=λl=>by
 induction l generalizing R with
 |nil=>exact h
 |cons a l b=>exact b (FZ h x a)
theorem Oq(w:aw):∀(x:M.kM) c,uJ w x c->c.length=13:=by
 rintro x c ⟨s,e,y,rfl,_⟩;rfl
section
variable {B:RB} {R:M.Room} {N:Nat} {w:aw} (h:aL w B R N)
include h
theorem FO(st s0:Int)(a:Bool)(o:M.bN)(ho:R.ready=Z o)(hN:N<1000000)(Ti:mF R)(A:∀st,R.az o=Z st->∀y∈st.bQ.bD,y.id<R.aO.length) :
  aF af 67 #[aq (Z ⟨B.g,0,I⟩),cg #[J V st,J V s0],ai a] w λe w'=>∃B',e=av (aB #[])/\aL w' B' R.order N/\fK w w' B B':=by
 obtain⟨⟨s,D,r,hs,hh,Ux⟩,Vd,Ve⟩:=FU ho;have hid:=A s hs D (by rw[hh];simp);obtain⟨acc,Ty⟩:∃acc,R.aO[D.id]? = Z acc:=⟨_,ay hid⟩;obtain⟨res,Tf⟩:=dH R.order;rw[<-Tf];have e0:R.order=M.gF.foldl (M.Room.iW ⟨D.id,o.2,M.lx acc.bW.cF,acc.bW⟩) { R with az:=M.set R.az o (Z { s with bQ:=s.bQ.least }) }:=by
  unfold M.Room.order;rw[ho];simp only[hs,hh];rw[bE,Ty];rfl
 have Vf:=h.et.cJ;have Vg:=h.et.aO;have Vb:D.id<=1000000:=z;obtain⟨TS,Tm,HH,UW,HS,Tz,HO,H0⟩:=qh (Tf.trans e0) Ti hh Ux hs Ty ho h;have Uj:=h.lt;clear h Tf e0 Ti hh Ux hs Ty A ho;go_enter func67,ntmps67;go_upto_region 1 with fail;have al:aC w (w.alloc (.cells #[J V st,J V s0] 40)):=(ao _ w).alloc (aj _) _;refine aW (λX=>aL X B R N/\aC w X) ⟨H0.O.below al,al⟩ ?_;clear al H0;rintro X ⟨h,al⟩;have Tn:=zj h hN;rw[HO.O]at Tn;obtain⟨Tn,H,HA⟩:=bU Tn h al;clear h al;go_upto_region 2 with(go_big_may;go_at_call 110;refine Tn.O.mono ?_;rintro e w1 ⟨rfl,b1⟩;have TM:=au b1;clear b1)
 obtain⟨r6,e6⟩:=dH w1.heap.size;rw[<-e6];have b2:aC X (w1.alloc (.cells #[J V o.1,J V o.2] 91)):=TM.O.alloc TM.O.size _;have g6:w.heap.size<=r6:=by have:=HA.O.size;have:=TM.O.size;omega
 refine aW (λY=>aK Y r6 91 #[J V o.1,J V o.2]/\aL Y B R N/\aC w Y) ⟨by simpa using aK.newAt _ _ _ _ e6,H.O.below b2,HA.O.trans (b2.mono HA.O.size)⟩ ?_;clear e6 b2 TM Tn H HA;rintro Y ⟨b6,h,al⟩;obtain⟨S,hS,TN⟩:=(h.below (eW (ao Y.drew.heap.size Y.drew))).iB HS.O;have Uk:=h.cw.cell 13;have c9:=h.cw.cell 9;have y0:=b6.cell 0;have y1:=b6.cell 1;have q0:=TN.cw.cell 0;have q0:Y.cell? ⟨S.g,0,I⟩=_:=q0;simp at Uk c9 y0 y1 q0;have TA:∀W,aL W B R N->(cD 55 (.map (Z B.sm)) (cg #[J V o.1,J V o.2]) false).run af W=.ok (aq (Z ⟨S.g,0,I⟩)) W:=λW hW=>by
  have C:=hW.jU o (ir ⟨z,z⟩ ⟨z,z⟩);rw[hS]at C;exact C
 have Uy:=TA _ h;have TT:=TA _ (h.below (eW (ao Y.drew.heap.size Y.drew)));obtain⟨TV,HD,Uz,To⟩:=cA (Hm S.b R.dA.eJ R.dA.cX R.cJ s.bQ D r Y.drew TN.buf ⟨z,z⟩ HH.O UW.O) (h.below (eW (ao Y.drew.heap.size Y.drew))) hS TN;have n6:∀i,B.all i->i≠r6:=λi hi=>by have:=Uj i hi;omega
 obtain⟨UX,H,Tp,HA⟩:=cA n6 h b6 al;clear h b6 al hS TN TA n6 Uj;have TW:∀w9 B',gC w9 B' R.dA.eJ R.dA.cX s.bQ.least->B'.g=S.b.g->cS S.b.own Y.drew w9->(∀i,B'.own i->S.b.own i) ->
   (aL w9 { B with sb:=M.set B.sb o (Z ⟨S.g,B'⟩) } { R with az:=M.set R.az o (Z { s with bQ:=s.bQ.least }) } N/\fK w w9 B { B with sb:=M.set B.sb o (Z ⟨S.g,B'⟩) }/\aK w9 r6 91 #[J V o.1,J V o.2]) /\
   (w9.cell? ⟨B.g,13,I⟩=Z (.map (Z B.sm))/\w9.cell? ⟨B.g,9,I⟩=Z (J V R.cJ)/\w9.cell? ⟨r6,0,I⟩=Z (J V o.1)/\w9.cell? ⟨r6,1,I⟩=Z (J V o.2)/\w9.cell? ⟨S.g,0,I⟩=Z (aq (Z ⟨S.b.g,0,I⟩))/\(cD 55 (.map (Z B.sm)) (cg #[J V o.1,J V o.2]) false).run af w9=.ok (aq (Z ⟨S.g,0,I⟩)) w9):=by
  intro w9 B' hB hg u Tq;have f9:Fr S.own Y.drew w9:=Fr.jT (u.mono λi _ q=>.inr q) (λi hi=>To.O.ni i hi);have UY:¬S.own r6:=λq=>UX.O r6 ⟨.fO o,S,Uz.O,q⟩ rfl;have TX:gh w9 ⟨S.g,B'⟩ R.dA.eJ R.dA.cX { s with bQ:=s.bQ.least } N:=by
   have hb:=To.O.cw.dW u (λq=>by
    have:=To.O.buf
    rcases q with q|q
    ·exact aK.jf To.O.cw this.cw aR q
    ·exact ej this.row To.O.cw aR q.symm)
   refine⟨?_,hB,To.O.uE,To.O.fH,To.O.gB⟩;have e:kI ⟨S.g,B'⟩ { s with bQ:=s.bQ.least }=kI S s:=by simp[kI,hg]
   rw[e];exact hb
  have C:=HD.O.nL HS.O Uz.O f9 TX rfl (λi q=>.inl (q.imp id (Tq i)));have b9:=Tp.O.drew.dW f9.u UY;refine⟨⟨C.1,(⟨rfl,.bn (HA.O.trans ((eW (ao Y.drew.heap.size Y.drew)).mono HA.O.size)),λi q=>.inl q⟩:fK w Y.drew B B).trans C.2,b9⟩,?_,?_,?_,?_,?_,?_⟩
  ·have:=C.1.cw.cell 13;simpa using this
  ·have:=C.1.cw.cell 9;simpa using this
  ·have:=b9.cell 0;simpa using this
  ·have:=b9.cell 1;simpa using this
  ·have:=TX.cw.cell 0;simp at this;rw[hg]at this;exact this
  ·have z2:=C.1.jU o (ir ⟨z,z⟩ ⟨z,z⟩);have e:(M.set B.sb o (Z (⟨S.g,B'⟩:SB))) o=Z ⟨S.g,B'⟩:=M.dY _ _ _;rw[show({ B with sb:=M.set B.sb o (Z ⟨S.g,B'⟩) }:RB).sb o=Z ⟨S.g,B'⟩ from e]at z2;exact z2
 have TY:=au TW;clear TW;go_upto_region 3 with fail;go_cut [9] (λv wc=>v=J V D.id/\∃B',aL wc B' { R with az:=M.set R.az o (Z { s with bQ:=s.bQ.least }) } N/\fK w wc B B'/\aK wc r6 91 #[J V o.1,J V o.2]);case first =>
  go_region_held3 (λW=>W.cell? ⟨B.g,13,I⟩=Z (.map (Z B.sm))/\W.cell? ⟨B.g,9,I⟩=Z (J V R.cJ)/\W.cell? ⟨r6,0,I⟩=Z (J V o.1)/\W.cell? ⟨r6,1,I⟩=Z (J V o.2)/\W.cell? ⟨S.g,0,I⟩=Z (aq (Z ⟨S.b.g,0,I⟩))/\(cD 55 (.map (Z B.sm)) (cg #[J V o.1,J V o.2]) false).run af W=.ok (aq (Z ⟨S.g,0,I⟩)) W) (first|(with_reducible exact⟨cE Uk,cE c9,cE y0,cE y1,cE q0,TT⟩)|(with_reducible exact⟨i13,i9,i0,i1,iq,il⟩)) ((go_at_call 125;refine TV.O.mono ?_;rintro e w9 ⟨rfl,B',hB,hg,u,Tq⟩;have HZ:=au (TY.O w9 B' hB hg u Tq).1;obtain⟨i13,i9,i0,i1,iq,il⟩:=(TY.O w9 B' hB hg u Tq).2;clear hB hg u Tq));all_goals
   go_wp2_with fail;go_meet;exact⟨rfl,_,HZ.O.1,HZ.O.2.1,HZ.O.2.2⟩
 case rest =>
  obtain⟨rfl,B1,hR,Ts,b6⟩:=hcut;clear Uy TT TV HD H Tp HA Uk c9 q0 y0 y1;obtain⟨R1,TC⟩:=dH ({ R with az:=M.set R.az o (Z { s with bQ:=s.bQ.least }) }:M.Room);have TO:B1.g=B.g:=Ts.g;rw[<-TC]at hR;have Tf:=TS.O;rw[<-TC]at Tf;have UA:R1.aO=R.aO:=by rw[TC]
  have T8:mF R1:=by rw[TC];exact Tm.O
  obtain⟨Tk,UB⟩:=bu Tf T8;clear TS Tm Tf T8 TC;obtain⟨qp,own,fit⟩:=(hR.part .aO:∃q,wc.ownsRow 0 101 13 B1.pv R1.aO.length q.flatten/\Fit (uJ wc) R1.aO q);rw[UA]at own fit;obtain⟨ac,UC,TD⟩:=fit.get Tz.O;obtain⟨sp,E,m,rfl,A⟩:=TD;have UD:0<R.aO.length:=by have:=(aS.1 Tz.O).1;omega
  obtain⟨gp,cap,UE,Vh,TE⟩:=jZ own (fit.len (Oq wc)) UD;have Vc:D.id<R.aO.length:=(aS.1 Tz.O).1;have hk:=λj (hj:j<13)=>TE D.id _ UC j hj;have a0:wc.cell? ⟨gp,D.id*13+3,I⟩=Z (ai acc.bW.dR):=hk 3 z;have a1:wc.cell? ⟨gp,D.id*13+3+1,I⟩=Z (J bI acc.bW.type):=hk 4 z;have a2:wc.cell? ⟨gp,D.id*13+3+2,I⟩=Z (J aN acc.bW.dQ):=hk 5 z;have a3:wc.cell? ⟨gp,D.id*13+3+3,I⟩=Z (J ar acc.bW.aU):=hk 6 z;have a4:wc.cell? ⟨gp,D.id*13+3+4,I⟩=Z (J ar acc.bW.bJ):=hk 7 z;have a5:wc.cell? ⟨gp,D.id*13+3+5,I⟩=Z (ae sp.a sp.n sp.c):=hk 8 z;have a6:wc.cell? ⟨gp,D.id*13+3+6,I⟩=Z (ai acc.bW.has):=hk 9 z;have a7:wc.cell? ⟨gp,D.id*13+3+7,I⟩=Z (J aN acc.bW.bV):=hk 10 z;have a8:wc.cell? ⟨gp,D.id*13+3+8,I⟩=Z (ae E.a E.n E.c):=hk 11 z;have a9:wc.cell? ⟨gp,D.id*13+3+9,I⟩=Z (ae m.a m.n m.c):=hk 12 z;have TP:=hR.cw.cell 14;rw[TO]at TP;simp at TP;rw[UE]at TP;obtain⟨HR,Tv,Tp,U⟩:=cA hR Ts b6 A;clear hR Ts b6 A own fit UC TE hk UE UA;go_upto_region 5 with fail;obtain⟨p,hp⟩:=dH acc.bW;rw[<-hp]at U Tk ⊢;obtain⟨TF,Ul⟩:=dH wc.heap.size;rw[<-Ul];have al:aC wc (wc.alloc (.cells #[ai p.dR,J bI p.type,J aN p.dQ,J ar p.aU,J ar p.bJ,ae sp.a sp.n sp.c,ai p.has,J aN p.bV,ae E.a E.n E.c,ae m.a m.n m.c] 76)):=(ao _ _).alloc (aj _) _;refine aW (λUF=>aK UF TF 76 #[ai p.dR,J bI p.type,J aN p.dQ,J ar p.aU,J ar p.bJ,ae sp.a sp.n sp.c,ai p.has,J aN p.bV,ae E.a E.n E.c,ae m.a m.n m.c]/\aK UF r6 91 #[J V o.1,J V o.2]/\aL UF B1 R1 N/\iT UF p sp E m/\fK w UF B B1) ⟨aK.newAt _ _ _ _ Ul,Tp.O.kept al,HR.O.below al,U.O.below al,Tv.O.trans (⟨rfl,.bn al,λi q=>.inl q⟩:fK wc _ B1 B1)⟩ ?_;clear al Ul HR Tv Tp U a0 a1 a2 a3 a4 a5 a6 a7 a8 a9 TP hp wc;rintro X ⟨G,b6,hR,A,Ts⟩;have k1:=b6.cell 1;have a0:=G.cell 0;have a1:=G.cell 1;have a2:=G.cell 2;have a3:=G.cell 3;have a4:=G.cell 4;have a5:=G.cell 5;have a6:=G.cell 6;have a7:=G.cell 7;have a8:=G.cell 8;have a9:=G.cell 9;simp at k1 a0 a1 a2 a3 a4 a5 a6 a7 a8 a9;obtain⟨ke,Um⟩:=dH (M.lx p.cF);have UG:=au Um;have UH:∀W,aC X W->aF af 24 #[ae m.a m.n m.c] W λe w'=>e=av (ai ke)/\aC W w':=λW b=>by
   rw[UG.O];exact Ae m.a m.n m.c p.cF W (A.y.tl.below b) A.y.zero (by have:=A.small;have:=A.y.tl.len;omega)
  have Un:=au UH;have n1:X.heap.size≠r6:=by have:=b6.lt;omega
  have n2:X.heap.size≠TF:=by have:=G.lt;omega
  have UZ:=G.lt;have l6:=b6.lt;have Uo:=Ts.fr.size;obtain⟨TG,Tp,HR,U,Tv⟩:=gY G b6 hR A Ts;have T9:=hR.lt;have TH:=au T9;rw[<-Um]at Tk;clear Um UH G b6 hR A Ts T9;go_cut [12] (λv wc=>∃d:Nat,v=aq (Z ⟨d,0,I⟩)/\aK wc d 227 (Mt D.id o.2 ke p sp E m)/\aL wc B1 R1 N/\iT wc p sp E m/\fK w wc B B1/\w.heap.size<=d/\∀i,B1.all i->i≠d);case first =>
   clear k1 a0 a1 a2 a3 a4 a5 a6 a7 a8 a9;refine wp_region_held_drew (S:=λW=>aC X W) cC (eW (ao _ _)) (λhH=>?_);refine fS 0 (J V D.id) rfl hH ?_;simp only[aA,eY,gK,gL];refine fS 1 (aq (Z ⟨r6,1,I⟩)) rfl hH ?_;simp only[aA,eY,gK,gL];refine fS 2 (J V o.2) rfl hH ?_ (hy:=λW hW=>by have q:W.cell? ⟨r6,1,I⟩=Z (J V o.2):=(Tp.O.kept hW).cell 1;go_simp);simp only[aA,eY,gK,gL];refine fS 3 (aq (Z ⟨TF,9,I⟩)) rfl hH ?_;simp only[aA,eY,gK,gL];refine fS 4 (ae m.a m.n m.c) rfl hH ?_ (hy:=λW hW=>by have q:W.cell? ⟨TF,9,I⟩=Z (ae m.a m.n m.c):=(TG.O.kept hW).cell 9;go_simp);simp only[aA,eY,gK,gL];refine Fj 6 _ rfl (yieldsIf_load_mid jP 76 (.tmp 11) rfl TF 0 rfl (#[ai p.dR,J bI p.type,J aN p.dQ,J ar p.aU,J ar p.bJ,ae sp.a sp.n sp.c,ai p.has,J aN p.bV,ae E.a E.n E.c,ae m.a m.n m.c]:Array Value).toList _ (λW hW j v hv=>by rw[cO,(TG.O.kept hW).cell];simpa using hv) underlying76 rfl Tryz.zf) hH ?_;simp only[aA,eY,gK,gL];have Ua:∀v∈(Mt D.id o.2 ke p sp E m).toList,v.oneCell'=true:=tk;have Ub:=au Ua;clear Ua;refine cH (rs:=[5,8]) cC dt ?_;refine bH rfl (λK hK=>?_) ?_
   ·skip;rw[if_pos jP];go_simp;go_at_call 24;refine(Un.O _ hH).mono ?_;rintro e w9 ⟨rfl,b9⟩;dsimp only;refine hK.out _ _ (hH.trans (b9.mono hH.size)) (λTj=>?_);clear hK K;try simp only[aA,jY,jX,jW]
    refine fS 7 (cg #[J V D.id,J V o.2,ai ke,ai p.dR,J bI p.type,J aN p.dQ,J ar p.aU,J ar p.bJ,ae sp.a sp.n sp.c,ai p.has,J aN p.bV,ae E.a E.n E.c,ae m.a m.n m.c]) rfl Tj ?_;simp only[aA,eY,gK,gL];refine cH (rs:=[8]) cC dt ?_;refine bH rfl (λK hK=>?_) cy;rw[if_pos jP];go_simp;refine hK.out _ _ (Tj.alloc Tj.size _) (λTw=>?_);clear hK K;try simp only[aA,jY,jX,jW]
    refine cH (rs:=[9]) cC dt ?_;refine bH rfl (λK hK=>?_) cy;refine lj jP (.tmp 12) (.tmp 57) 227 jP w9.heap.size 0 227 Qz rfl #[J V D.id,J V o.2,ai ke,ai p.dR,J bI p.type,J aN p.dQ,J ar p.aU,J ar p.bJ,ae sp.a sp.n sp.c,ai p.has,J aN p.bV,ae E.a E.n E.c,ae m.a m.n m.c] rfl pG (aK.new w9 227 Qz) (aj _) Ub.O ?_;intro w' Up u';refine hK.out _ _ (Tw.trans (u'.below Tw.size (λi q=>by cases q;exact Tj.size))) (λTt=>?_);clear hK K;refine gV cC ?_ _;go_wp2_with fail;go_meet;exact⟨w9.heap.size,rfl,Up,HR.O.below Tt,U.O.below Tt,Tv.O.trans (fK.fN B1 Tt),aP Uo Tj.size,λi hi=>by have:=TH.O i hi;have:=Tj.size;omega⟩
   refine bH rfl (λK hK=>?_) cy;rw[if_pos jP];go_simp;refine hK.out _ _ (hH.alloc hH.size _) (λTj=>?_);clear hK K;try simp only[aA,jY,jX,jW]
   refine cH (rs:=[5]) cC dt ?_;refine bH rfl (λK hK=>?_) cy;rw[if_pos jP];go_simp;go_at_call 24;refine(Un.O _ Tj).mono ?_;rintro e w9 ⟨rfl,b9⟩;dsimp only;refine hK.out _ _ (Tj.trans (b9.mono Tj.size)) (λTw=>?_);clear hK K;try simp only[aA,jY,jX,jW]
   refine fS 7 (cg #[J V D.id,J V o.2,ai ke,ai p.dR,J bI p.type,J aN p.dQ,J ar p.aU,J ar p.bJ,ae sp.a sp.n sp.c,ai p.has,J aN p.bV,ae E.a E.n E.c,ae m.a m.n m.c]) rfl Tw ?_;simp only[aA,eY,gK,gL];refine cH (rs:=[9]) cC dt ?_;refine bH rfl (λK hK=>?_) cy;refine lj jP (.tmp 12) (.tmp 57) 227 jP X.heap.size 0 227 Qz rfl #[J V D.id,J V o.2,ai ke,ai p.dR,J bI p.type,J aN p.dQ,J ar p.aU,J ar p.bJ,ae sp.a sp.n sp.c,ai p.has,J aN p.bV,ae E.a E.n E.c,ae m.a m.n m.c] rfl pG (MK (t:=227) (cs:=Qz) b9) (aj _) Ub.O ?_;intro w' Up u';refine hK.out _ _ (Tw.trans (u'.below Tw.size (λi q=>by cases q;exact aj _))) (λTt=>?_);clear hK K;refine gV cC ?_ _;go_wp2_with fail;go_meet;exact⟨X.heap.size,rfl,Up,HR.O.below Tt,U.O.below Tt,Tv.O.trans (fK.fN B1 Tt),Uo,λi hi=>by have:=TH.O i hi;omega⟩
  case rest =>
   obtain⟨d,rfl,Tl,hR,A,hS,g12,Tx⟩:=hcut;obtain⟨x,hx⟩:=dH (⟨D.id,o.2,ke,p⟩:M.Item);have hr:=Tk.O;rw[<-hx]at hr;obtain⟨Uq,HX,Tg,UI,Uc,UJ,P⟩:=lV hr hx Tl hR A hS Tx;clear hr hx k1 a0 a1 a2 a3 a4 a5 a6 a7 a8 a9 TG Tp HR U Tv TH Tk UG Un Tl hR A hS Tx n1 n2 UZ l6 Uo;go_wp2_with fail;go_loopw [58] (λi wr=>∃(k:Nat) (Bk:RB),i=J V k/\k<=6/\aL wr Bk ((M.gF.take k).foldl (M.Room.iW x) R1) N/\fK w wr B Bk/\aK wr d 227 (Mt D.id o.2 ke p sp E m)/\iT wr p sp E m/\∀i,Bk.all i->i≠d) (λi _=>6-(bS i).toNat);case atStart=>exact⟨0,B1,rfl,z,UI.O,UJ.O,Tg.O,Uc.O,P.O⟩
   case round =>
    clear UI UJ Tg Uc P;obtain⟨k,Bk,rfl,hk,hR,hS,Tl,A,Tx⟩:=hrel;by_cases Uj:k<6;rotate_left
    ·have U0:k=6:=z;subst U0;rw[show M.gF.take 6=M.gF from rfl,<-Uq.O]at hR;obtain⟨H,HS⟩:=bu hR hS;clear hR hS Tl A Tx;go_wp2_with fail;first
      |refine dq (bT results67 _ _ _) rfl ?_
      |refine ax (v:=aB #[]) (by simp[aV,results67,go_sem]) rfl ?_
     first|exact⟨Bk,rfl,H.O,HS.O⟩|exact⟨rfl,Bk,H.O,HS.O⟩
    have Vi:((k:Int)<6):=z;have Ud:M.gF[k]? = Z (k:Int):=by
     rcases(z:k=0\/k=1\/k=2\/k=3\/k=4\/k=5) with rfl|rfl|rfl|rfl|rfl|rfl<;>rfl
    have Tu:=M.lL (M.Room.iW x) M.gF k (k:Int) R1 Ud;have TD:mF ((M.gF.take k).foldl (M.Room.iW x) R1):=Jk UB.O x _;generalize (M.gF.take k).foldl (M.Room.iW x) R1=T at hR Tu TD;obtain⟨Ur,UK⟩:=bu Tu TD;have UL:(Lit.int V (k:Int)).wf=true:=Ig z z;have c0:=hR.cw.cell 0;rw[hS.g]at c0;simp at c0;obtain⟨Tm,HR,HS,Tg,U,P⟩:=lH (DO Bk.bg Bk.bm N T.di (k:Int) D.id wr (hR.part .di) ⟨z,z⟩ z) hR hS Tl A Tx;clear hR hS Tl A Tx Tu TD Ud;by_cases Ti:T.di (k:Int) D.id=Z 0;rotate_left
    ·have e0:M.Room.iW x T k=T:=by unfold M.Room.iW;rw[HX.O,if_neg Ti]
     have UM:decide (T.di (k:Int) D.id=Z 0)=false:=decide_eq_false Ti;rw[UM]at Tm;have HE:=au e0;clear Ti UM e0;go_wp2_with (go_at_call 126;refine Tm.O.mono ?_;rintro e w4 ⟨rfl,b4⟩;have F:=au b4;clear b4);go_roundw;case rel=>exact⟨k+1,Bk,by go_num,z,by rw[Ur.O,HE.O];exact HR.O.below F.O,HS.O.trans (fK.fN Bk F.O),Tg.O.kept F.O,U.O.below F.O,P.O⟩
     case measure=>simp[bS];omega
    rw[decide_eq_true Ti]at Tm;obtain⟨l,hl⟩:=dw.1 (UK.O _ _ Ti);have e0:M.Room.iW x T k=(match(l.put T.dA.aG x).2 with | some C=>M.Room.bR { T with aD:=M.set T.aD (k:Int) (Z (l.put T.dA.aG x).1) } k C 6 | none=>{ T with aD:=M.set T.aD (k:Int) (Z (l.put T.dA.aG x).1) }):=by
     unfold M.Room.iW;rw[show x.id=D.id by rw[HX.O],if_pos Ti,hl];rfl
    obtain⟨HE,TQ⟩:=bu e0 hl;clear Ti e0 hl;go_upto_region 10 with(go_big_may;go_at_call 126;refine Tm.O.mono ?_;rintro e w4 ⟨rfl,b4⟩;have F:=au b4;clear b4)
    have h4:=HR.O.below F.O;have hD:=h4.below (eW (ao w4.drew.heap.size w4.drew));obtain⟨L,hL,hA⟩:=hD.jq TQ.O;have TA:(cD 54 (.map (Z Bk.lm)) (J V (k:Int)) false).run af w4=.ok (aq (Z ⟨L.g,0,I⟩)) w4:=by
     have C:=h4.kW (k:Int) UL;rw[hL]at C;exact C
    have UN:¬L.own Bk.lm:=λq=>xN.noConfusion (hD.vd (.fo k) .aD Bk.lm ⟨L,hL,q⟩ rfl);have UO:¬L.own Bk.g:=λq=>xN.noConfusion (hD.vd (.fo k) .aG Bk.g ⟨L,hL,q⟩ rfl);have Ue:¬L.own d:=λq=>P.O d ⟨.fo k,L,hL,q⟩ rfl;have TO:=HS.O.g;have hC:∀W,Fr L.own w4.drew W->W.cell? ⟨B.g,12,I⟩=Z (.map (Z Bk.lm)):=λW f=>by
     have C:=(hD.cw.dW f.u UO).cell 12;rw[TO]at C;simpa using C
    have hK:∀W,Fr L.own w4.drew W->(cD 54 (.map (Z Bk.lm)) (J V (k:Int)) false).run af W=.ok (aq (Z ⟨L.g,0,I⟩)) W:=λW f=>by
     have UP:gA KI W Bk.lm (λs=>(Bk.lb s).map qx) N:=(show gA KI w4.drew Bk.lm (λs=>(Bk.lb s).map qx) N from hD.part .aD).dW f.u UN;have C:=UP.sW rB vT (k:Int) UL (BS W);rw[hL]at C;exact C
    have hX:∀W,Fr L.own w4.drew W->W.cell? ⟨d,0,I⟩=Z (J V D.id)/\W.cell? ⟨d,1,I⟩=Z (J V o.2)/\W.cell? ⟨d,2,I⟩=Z (ai ke)/\W.cell? ⟨d,3,I⟩=Z (ai p.dR)/\W.cell? ⟨d,4,I⟩=Z (J bI p.type)/\W.cell? ⟨d,5,I⟩=Z (J aN p.dQ)/\W.cell? ⟨d,6,I⟩=Z (J ar p.aU)/\W.cell? ⟨d,7,I⟩=Z (J ar p.bJ)/\W.cell? ⟨d,8,I⟩=Z (ae sp.a sp.n sp.c)/\W.cell? ⟨d,9,I⟩=Z (ai p.has)/\W.cell? ⟨d,10,I⟩=Z (J aN p.bV)/\W.cell? ⟨d,11,I⟩=Z (ae E.a E.n E.c)/\W.cell? ⟨d,12,I⟩=Z (ae m.a m.n m.c):=λW f=>by
     have C:=((Tg.O.kept F.O).drew.dW f.u Ue).cell;exact⟨C 0,C 1,C 2,C 3,C 4,C 5,C 6,C 7,C 8,C 9,C 10,C 11,C 12⟩
    have f0:Fr L.own w4.drew w4.drew:=Fr.refl _ _;obtain⟨Uf,HD,HL⟩:=bU (zI L T.dA.aG T.dA.aT l N w4.drew hA D.id o.2 ke p sp E m (U.O.below (F.O.trans ((eW (ao w4.drew.heap.size w4.drew)).mono F.O.size))) z) hD hL;clear h4 hD hA UN UO Ue hL TA c0 TO;go_cut [14,15] (λa b wc=>∃(oi:Int) (db:Bool),a=J V oi/\b=ai db/\og (l.put T.dA.aG ⟨D.id,o.2,ke,p⟩).2 oi db/\ca wc L T.dA.aG T.dA.aT (l.put T.dA.aG ⟨D.id,o.2,ke,p⟩).1 N/\Fr L.own w4.drew wc);case first =>
     go_region_held3 (λW=>Fr L.own w4.drew W) (first|(with_reducible exact f0)|(with_reducible exact f9)) ((go_at_call 127;refine Uf.O.mono ?_;rintro e w9 ⟨oi,db,er,rfl,Q,TI,f9⟩;have TJ:=au Q;have U1:=au TI;clear Q TI));all_goals
      go_wp2_with fail;go_meet;exact⟨oi,db,rfl,rfl,TJ.O,U1.O,f9⟩
    case rest =>
     obtain⟨oi,db,rfl,rfl,Q,TI,f9⟩:=hcut;have C:=HD.O.qJ TQ.O HL.O f9 TI rfl (λi q=>.inl q);rw[qR Bk.lb k (Z L) HL.O]at C;obtain⟨R2,TR⟩:=dH ({ T with aD:=M.set T.aD (k:Int) (Z (l.put T.dA.aG ⟨D.id,o.2,ke,p⟩).1) }:M.Room);have z1:aL wc Bk R2 N:=by rw[TR];exact C.1
     have UQ:=(HS.O.trans (fK.fN Bk (F.O.trans ((eW (ao w4.drew.heap.size w4.drew)).mono F.O.size)))).trans C.2;have Tl:=(Tg.O.kept F.O).drew.dW C.2.fr.u (λq=>P.O d q rfl);have A:=(U.O.below (F.O.trans ((eW (ao w4.drew.heap.size w4.drew)).mono F.O.size))).rows C.2.fr.r;have he:=HE.O;have UR:x=⟨D.id,o.2,ke,p⟩:=HX.O;rw[<-UR]at Q TR;rw[<-TR]at he;have eJ:∀y,(l.put T.dA.aG x).2=Z y->y<=1000000:=λy q=>by
      obtain⟨L',e',hA⟩:=HD.O.jq TQ.O;exact FY hA x q
     obtain⟨Us,TJ,Ut,Uu,Ug,Uh,Ui⟩:=lV he Q z1 UQ Tl A eJ;clear C TR z1 UQ Tl A he UR eJ Q TI f9 f0 hC hK hX Uf HD HL F Tg U HE HS HR Tm TQ UK;generalize (l.put T.dA.aG x).2=od at Us TJ Ui;cases od with
     |none =>
      have Uv:db=false:=TJ.O;subst Uv;have he:M.Room.iW x T k=R2:=Us.O;have HE:=au he;clear he;go_wp2_with fail;go_roundw;case rel=>exact⟨k+1,Bk,by go_num,z,by rw[Ur.O,HE.O];exact Ut.O,Uu.O,Ug.O,Uh.O,P.O⟩
      case measure=>simp[bS];omega
     |some y =>
      obtain⟨Uv,U2⟩:db=true/\oi=(y:Int):=TJ.O;subst Uv U2;have he:M.Room.iW x T k=M.Room.bR R2 k y 6:=Us.O;have HE:=au he;have US:=Ui.O y rfl;have c0:=Ut.O.cw.cell 0;rw[Uu.O.g]at c0;simp at c0;have U3:=au (mz Ut.O (k:Int) y 6 ⟨z,z⟩ US z hN);clear he US;go_wp2_with (go_at_call 114;refine U3.O.mono ?_;rintro e w8 ⟨rfl,UT,UU⟩;have Va:=au UT;have Uw:=au UU;clear UT UU);go_roundw;case rel=>exact⟨k+1,Bk,by go_num,z,by rw[Ur.O,HE.O];exact Va.O,Uu.O.trans Uw.O,Ug.O.dW Uw.O.fr.u (λq=>P.O d q rfl),Uh.O.rows Uw.O.fr.r,P.O⟩
      case measure=>simp[bS];omega
end
end
def KV(a b c d:Int)(W:aw):(Op.equalIn 10000 40 (cg #[J V a,J V b]) (cg #[J V c,J V d])).run af W=.ok (a==c&&b==d) W:=by
 have e:af.underlying 40=Z (.struct (af.fieldsOf 40)):=cC;have hp:af.stoodInHeld 40=false:=cC;have h3:af.underlying 3=Z (.int V):=cC;have f:af.cellsOf 3=1:=cC;rw[show(10000:Nat)=9999+1 from rfl,run_equalIn_struct W 9999 40 _ _ e hp];simp only[Program.fieldsOf,underlying40];simp[go_sem];by_cases h1:a=c<;>by_cases h2:b=d<;>simp[h1,h2]
def Dl(A:Option Addr)(m c:Nat)(L:List M.eK)(x:M.eK)(w:aw)(h:Fair.rP w w.heap.size A m L)(K:m<=c)(N:c<=maxLen) :
  aF af 161 #[ae A m c,cg #[J V x.1,J V x.2]] w λe w'=>(∃r:Int,e=av (J V r)/\(0<=r↔x∈L))/\aC w w':=by
 unfold maxLen at N;obtain⟨D,E⟩:=bu h.1 h;clear h;go_enter func161,ntmps161;go_upto_region 1 with fail;obtain⟨F,v⟩:=dH w.heap.size;rw[<-v];have p:aC w (w.alloc (.cells #[J V x.1,J V x.2] 40)):=(ao _ w).alloc (aj _) _;refine aW (λX=>aK X F 40 #[J V x.1,J V x.2]/\Fair.rP X w.heap.size A m L/\aC w X) ⟨aK.newAt _ _ _ _ v,E.O.below p,p⟩ ?_;clear v p E;rintro X ⟨b3,n,p⟩;obtain⟨f,s,G⟩:=bU b3 n p;clear b3 n p;go_wp2_with fail;go_loopw [5,8] (λ_ i wr=>∃k:Nat,i=J V k/\k<=m/\(∀j,j<k->L.getD j (0,0)≠x)/\aK wr F 40 #[J V x.1,J V x.2]/\Fair.rP wr w.heap.size A m L/\aC w wr) (λ_ i _=>m-(bS i).toNat);case atStart=>exact⟨0,rfl,z,λj B=>z,f.O,s.O,G.O⟩
 case round =>
  clear f s G;obtain⟨k,rfl,T,g,b3,n,t⟩:=hrel;have l:=au g;clear g;by_cases C:k<m
  ·obtain⟨b,off,rfl,U,d⟩:=n.2.2 z;obtain⟨P,Q⟩:=d k C;have R:=b3.cell 0;have S:=b3.cell 1;simp at R S;obtain⟨y,hy⟩:=dH (L.getD k (0,0));rw[<-hy]at P Q;obtain⟨H,f,s,u⟩:=cA hy b3 n t;have he:=λW=>KV x.1 x.2 y.1 y.2 W;clear hy b3 n t d;by_cases a:x=y
   ·have ht:(x.1==y.1&&x.2==y.2)=true:=by rw[a];simp
    rw[ht]at he;have o:=au a;clear a ht;go_wp2_with fail;go_quiet (fail);go_wp2_with fail;go_ret;refine⟨⟨k,rfl,⟨λ_=>?_,λ_=>z⟩⟩,cd u.O _⟩;rw[o.O,H.O,bE,ay (lE D.O)];exact dy _
   ·have ht:(x.1==y.1&&x.2==y.2)=false:=by
     rw[Bool.eq_false_iff];intro q;simp at q;exact a (Prod.ext q.1 q.2)
    rw[ht]at he;have o:=au a;clear a ht;go_wp2_with fail;go_quiet (fail);go_wp2_with fail;go_roundw;case rel =>
     refine⟨k+1,by go_num,z,λj B=>?_,f.O.drewN _,s.O,cd u.O _⟩;by_cases e:j=k
     ·rw[e,<-H.O];exactλq=>o.O q.symm
     ·exact l.O j z
    case measure=>simp[bS];omega
  ·have u:=au t;clear b3 n t;go_wp2_with fail;go_ret;refine⟨⟨-1,rfl,⟨λq=>absurd q z,λq=>?_⟩⟩,u.O⟩;obtain⟨j,B,e⟩:=List.getElem_of_mem q;have:=l.O j (lE D.O);rw[bE,ay B]at this;exact absurd e this
def yW(A:Option Addr)(m c:Nat)(L:List M.eK)(x:M.eK)(w:aw)(h:Fair.rP w w.heap.size A m L)(a:m<=c)(d:c<=maxLen) :
  aF af 109 #[ae A m c,cg #[J V x.1,J V x.2]] w λe w'=>e=av (ai (decide (x∈L)))/\aC w w':=by
 have b:aC w (w.alloc (.cells #[J V x.1,J V x.2] 40)):=(ao _ w).alloc (aj _) _;obtain⟨g,f⟩:=bu (Dl A m c L x (w.alloc (.cells #[J V x.1,J V x.2] 40)) ((h.below b).mono b.size) a d) b;have b3:=aK.new w 40 #[J V x.1,J V x.2];have i:=b3.cell 0;have j:=b3.cell 1;simp at i j;clear h b b3 d a;go_enter func109,ntmps109;go_wp2_with (go_at_call 161;refine g.O.mono ?_;rintro e w1 ⟨⟨r,rfl,hr⟩,b1⟩;have k:=au hr;have l:=au b1;clear hr b1);have n:decide (x∈L)=decide (0<=r):=decide_eq_decide.2 k.O.symm;rw[n];go_ret;exact⟨rfl,f.O.trans (l.O.mono f.O.size)⟩
section
theorem BZ:af.underlying 51=Z (.map KW.k 4):=underlying51
theorem Qe(w:aw):(zeroValue 4).run af w=.ok (ai false) w:=cC
theorem BU{R:M.Room}{x:M.eK}(h:x∈R.dF):(0<=x.1/\x.1<=4)/\(0<=x.2/\x.2<6):=by
 rcases(M.mA R x).1 h with rfl|rfl | ⟨h1,h2,_⟩
 ·exact⟨dt,dt⟩
 ·exact⟨dt,dt⟩
 ·refine⟨z,?_⟩;simp[M.gF]at h2;omega
section
variable {B:RB} {R:M.Room} {N:Nat} {w:aw} (h:aL w B R N)
include h
theorem aL.Eb(x:M.eK)(a:Gi x):(cD 51 (.map (Z B.ret)) (pv x) false).run af w=.ok (ai (decide (x∈R.returned))) w:=by
 have hm:gE KW w B.ret R.returned (λ_=>ai true):=h.part .ret;have b:gA KW w B.ret (λy=>if y∈R.returned then Z (ai true) else I) R.returned.length:=⟨_,_,hm,λy=>(by by_cases e:y∈R.returned<;>simp[e]),aj _⟩;refine(b.sW Nc BZ x a (Qe w)).trans ?_;by_cases e:x∈R.returned<;>simp[e]
theorem Li(x:M.eK)(hN:N<1000000):aF af 63 #[aq (Z ⟨B.g,0,I⟩),cg #[J V x.1,J V x.2]] w λe w'=>e=av (ai (R.may x))/\aC w w':=by
 have H0:=au h;obtain⟨res,j⟩:=dH (R.may x);rw[<-j];have b:=au j;clear h j;go_enter func63,ntmps63;go_upto_region 1 with fail;obtain⟨K,u⟩:=dH w.heap.size;rw[<-u];have k:aC w (w.alloc (.cells #[J V x.1,J V x.2] 40)):=(ao _ w).alloc (aj _) _;refine aW (λX=>aK X K 40 #[J V x.1,J V x.2]/\aL X B R N/\aC w X) ⟨aK.newAt _ _ _ _ u,H0.O.below k,k⟩ ?_;clear u k H0;rintro X ⟨b3,h,k⟩;have o:=b3.cell 0;have y:=b3.cell 1;simp at o y;obtain⟨P,H,Q,d⟩:=cA (h.below (eW (ao X.drew.heap.size X.drew))) h b3 k;clear h b3 k;go_cut [11] (λv wc=>v=ai (!decide (x∈R.dF))/\aK wc K 40 #[J V x.1,J V x.2]/\aL wc B R N/\aC w wc);case first =>
  go_region_held3 (λW=>W.cell? ⟨K,0,I⟩=Z (J V x.1)/\W.cell? ⟨K,1,I⟩=Z (J V x.2)) (first|(with_reducible exact⟨cE o,cE y⟩)|(with_reducible exact⟨d0,d1⟩)|(with_reducible exact⟨i0,i1⟩)) (first
   |(go_at_call 74;refine(vY P.O).mono ?_;rintro e w4 ⟨⟨A,m,c,rfl,Tm,p,r⟩,b4⟩;have n:aC X w4:=(by with_reducible exact eW b4);have d0:=aM n o;have d1:=aM n y;have a:=au n;have Tn:=au r;clear b4 n r)
   |(go_at_call 109;refine(yW A m c R.dF x w4 Tn.O Tm p).mono ?_;rintro e w5 ⟨rfl,b5⟩;have i0:=aM b5 d0;have i1:=aM b5 d1;have D:=au b5;clear b5))
  all_goals
   go_wp2_with fail;go_meet;have S:=a.O.trans (D.O.mono a.O.size);exact⟨rfl,Q.O.kept S,H.O.below S,d.O.trans (S.mono d.O.size)⟩
 case rest =>
  obtain⟨rfl,b3,h,k⟩:=hcut;clear H P Q d o y;by_cases hw:x∈R.dF;rotate_left
  ·have T:decide (x∈R.dF)=false:=decide_eq_false hw;have hr:res=false:=by rw[b.O];unfold M.Room.may;simp[hw]
   have d:=au k;clear b b3 h k hw;rw[T];subst hr;go_wp2_with fail;go_ret;exact⟨rfl,d.O⟩
  have T:decide (x∈R.dF)=true:=decide_eq_true hw;rw[T];obtain⟨Ty,Tz⟩:=BU hw;have hr:res=if R.cN then !decide (x∈R.returned) else if x.1=0 then decide (0<R.dm.length) else if x.1=1 then R.ready.isSome else match R.aD x.2 with | none=>false | some l=>if x.1=2 then l.nO R.dA.aG else if x.1=3 then decide (0<l.bF.length) else decide (0<l.ready.length):=by
   rw[b.O];unfold M.Room.may;rw[T];rfl
  obtain⟨HR,d,HW⟩:=bU hr k hw;have c2:=h.cw.cell 7;have o:=b3.cell 0;have y:=b3.cell 1;simp at c2 o y;clear hr k b hw T;cases p:R.cN with
  |true =>
   rw[p]at c2;have c3:=h.cw.cell 8;simp at c3;have hk:=λW (r:aL W B R N)=>r.Eb x (ir ⟨z,z⟩ ⟨z,z⟩);have TA:=hk _ h;have TC:=hk _ (h.below (eW (ao wc.drew.heap.size wc.drew)));have HC:=au p;clear p hk b3 h;go_wp2_with fail;go_region;all_goals
    go_wp2_with fail;go_ret;exact⟨by rw[HR.O,HC.O];rfl,cd d.O 1⟩
  |false =>
   rw[p]at c2;have hr:=HR.O;rw[p]at hr;simp only[cB,if_false]at hr;have f:=au hr;clear HR hr;by_cases s:x.1=0
   ·have hr:=f.O;rw[if_pos s]at hr;have i:=au hr;have To:=h.cw.cell 10;simp at To;rw[s]at o;have hq:=h.Qb;obtain⟨q,U,Y⟩:=hq;have Tf:=Y.length;obtain⟨HQ,Tp⟩:=bu (BI B.qg B.qp R.dA.aG q wc U) Tf;clear h b3 U Y Tf hr f p s;go_wp2_with (go_at_call 73;refine HQ.O.mono ?_;rw[Tp.O];rintro e w9 ⟨rfl,e9⟩;subst e9);go_ret;exact⟨by rw[i.O];first|rfl|simp,d.O⟩
   ·have d0:(x.1==0)=false:=by simpa using s
    by_cases C:x.1=1
    ·have hr:=f.O;rw[if_neg s,if_pos C]at hr;have i:=au hr;rw[C]at o;have Tq:=au (zj h hN);clear h b3 hr f p s C d0;go_wp2_with (go_at_call 110;refine Tq.O.mono ?_;rintro e w9 ⟨rfl,b9⟩;have Tg:=au b9;clear b9);go_ret;exact⟨by rw[i.O];rfl,(d.O.trans (Tg.O.mono d.O.size)).alloc (by have:=d.O.size;have:=Tg.O.size;omega) _⟩
    ·have d1:(x.1==1)=false:=by simpa using C
     have hl:∃l,R.aD x.2=Z l:=by
      rcases(M.mA R x).1 HW.O with e|e | ⟨_,_,e⟩
      ·rw[e]at s;exact absurd rfl s
      ·rw[e]at C;exact absurd rfl C
      ·exact dw.1 e
     obtain⟨l,hl⟩:=hl;obtain⟨L,hL,hA⟩:=h.jq hl;have hr:=f.O;rw[if_neg s,if_neg C,hl]at hr;simp only at hr;have i:=au hr;have E:=h.cw.cell 12;simp at E;have Ts:(Lit.int V x.2).wf=true:=Ig z z;have t:∀W,aL W B R N->(cD 54 (.map (Z B.lm)) (J V x.2) false).run af W=.ok (aq (Z ⟨L.g,0,I⟩)) W:=λW r=>by
      have Tw:=r.kW x.2 Ts;rw[hL]at Tw;exact Tw
     have Tx:=t _ h;have Ti:=t _ (h.below (eW (ao wc.drew.heap.size wc.drew)));obtain⟨Tj,HH,Tt⟩:=bU t h (λW=>xf x.1 x.2 W);have F:∀W,ca W L R.dA.aG R.dA.aT l N->aF af 111 #[aq (Z ⟨L.g,0,I⟩),J V (if x.1=2 then 1 else if x.1=3 then 2 else 3)] W λe w'=>e=av (ai res)/\aC W w':=λW r=>by
      rw[i.O];by_cases e2:x.1=2
      ·rw[if_pos e2,if_pos e2];exact Bp L R.dA.aG R.dA.aT l N W r
      ·rw[if_neg e2,if_neg e2];by_cases u:x.1=3
       ·rw[if_pos u,if_pos u];exact Bo L R.dA.aG R.dA.aT l N W r
       ·rw[if_neg u,if_neg u];exact xu L R.dA.aG R.dA.aT l N W r
     obtain⟨sg,G⟩:=dH (if x.1=2 then(1:Int) else if x.1=3 then 2 else 3);rw[<-G]at F;have Tk:∀W:aw,aF af 112 #[cg #[J V x.1,J V x.2]] W λe w'=>e=av (J V sg)/\aC W w':=λW=>by rw[G];exact xf x.1 x.2 W
     have Tu:=au Tk;have Tl:=au F;have Tv:=au hA;clear F Tk G hr f i Tt t hA hL hl h b3 p s C;go_wp2_with fail;go_region_held3 (λW=>W.cell? ⟨K,0,I⟩=Z (J V x.1)/\W.cell? ⟨K,1,I⟩=Z (J V x.2)/\W.cell? ⟨B.g,12,I⟩=Z (.map (Z B.lm))/\(cD 54 (.map (Z B.lm)) (J V x.2) false).run af W=.ok (aq (Z ⟨L.g,0,I⟩)) W) (first|(with_reducible exact⟨cE o,cE y,cE E,Ti⟩)|(with_reducible exact⟨i0,i1,i2,i3⟩)|(with_reducible exact⟨j0,j1,j2,j3⟩)) (first
      |(go_at_call 112;refine(Tu.O _).mono ?_;rintro e w4 ⟨rfl,b4⟩;have n:aC wc w4:=(by with_reducible exact eW b4);have i0:=aM n o;have i1:=aM n y;have i2:=aM n E;have i3:=Tj.O w4 (HH.O.below n);have a:=au n;clear b4 n)
      |(go_at_call 111;refine(Tl.O w4 (Tv.O.below a.O)).mono ?_;rintro e w5 ⟨rfl,b5⟩;have j0:=aM b5 i0;have j1:=aM b5 i1;have j2:=aM b5 i2;have j3:=Tj.O w5 ((HH.O.below a.O).below b5);have D:=au b5;clear b5))
     all_goals
      go_wp2_with fail;go_ret;have S:=a.O.trans (D.O.mono a.O.size);exact⟨rfl,d.O.trans (S.mono d.O.size)⟩
end
end
def Fit.ID{α:Type}{R:α->List Value->Prop}:∀{xs:List α} {cs:List (List Value)} {i:Nat} {c:List Value},Fit R xs cs->cs[i]? = Z c->∃x,xs[i]? = Z x/\R x c
 |x::xs,c::cs,0,_,h,e=>by simp at e;subst e;exact⟨x,rfl,h.1⟩
 |x::xs,c::cs,i+1,_,h,e=>by simpa using Fit.ID h.2 (by simpa using e)
 |_,[],_,_,_,e=>by simp at e
 |[],_::_,_,_,h,_=>h.elim
def ca.qT{w:aw}{B:LB}{aG N:Nat}{aT:Int}{l:M.dP}(h:ca w B aG aT l N):pY w B.g3 B.p3 aG l.ready:=h.ready
def ca.tP{w w':aw}{B:LB}{aG N:Nat}{aT:Int}{l:M.dP}{xs:List (Nat×M.cQ)}(h:ca w B aG aT l N)(f:Fr (jK B.g3 B.p3) w w')(hi:pY w' B.g3 B.p3 aG xs):ca w' B aG aT { l with ready:=xs } N:=by
 obtain⟨b,r1,f1⟩:=h.cK;obtain⟨d,r2,f2⟩:=h.bF;obtain⟨m,g,f3⟩:=h.ready;obtain⟨j,r4,f4⟩:=h.fF;obtain⟨_,_,b1,b2⟩:=r1.cw;obtain⟨_,_,c1,c2⟩:=r2.cw;obtain⟨_,_,a1,a2⟩:=g.cw;have a:=h.cw;refine⟨a.dW f.u ?_,⟨b,r1.dW f.u ?_ ?_,f1.mono λx c k=>k.rows f.r⟩,⟨d,r2.dW f.u ?_ ?_,f2.mono λx c k=>k.rows f.r⟩,hi,⟨j,du r4 f.u ?_,f4.mono λx c k=>k.rows f.r⟩,h.ne,⟨h.et.src,h.et.dQ,h.et.aU,h.et.row,h.et.less,h.et.aT⟩,h.small⟩
 ·rintro(e|e)
  ·exact aK.jf a a1 aR e
  ·exact aK.jf a a2 aR e
 ·rintro(e|e)
  ·exact aK.jf b1 a1 aR e
  ·exact aK.jf b1 a2 aR e
 ·rintro(e|e)
  ·exact aK.jf b2 a1 aR e
  ·exact aK.jf b2 a2 aR e
 ·rintro(e|e)
  ·exact aK.jf c1 a1 aR e
  ·exact aK.jf c1 a2 aR e
 ·rintro(e|e)
  ·exact aK.jf c2 a1 aR e
  ·exact aK.jf c2 a2 aR e
 ·rintro i hi (e|e)
  ·exact Out.DX h a1 aR (by rw[hi,e])
  ·exact h.ne (by rw[hi,e])
def ca.DN(B:LB):∀i,jK B.g3 B.p3 i->B.own i:=λi hi=>.inr (.inr (.inr (.inl hi)))
def yi(B:LB)(aG:Nat)(aT:Int)(l:M.dP)(N:Nat)(w:aw)(h:ca w B aG aT l N) :
  aF af 118 #[aq (Z ⟨B.g,0,I⟩),J V 1] w λr w'=>∃v,r=av v/\w'.ownsRow w.heap.size 3 1 v l.cK.length ((l.cK.map λx=>((x.id:Nat):Int)).map (J V))/\ca w' B aG aT { l with cK:=[] } N/\Fr B.own w w':=by
 obtain⟨q,hR,hF⟩:=h.cK;have p:=hF.length;have d:∀x∈q,Bx x:=λc t=>by
  obtain⟨x,_,A⟩:=hF.mem c t;obtain⟨s,e,y,rfl,hp,L⟩:=A;exact⟨_,_,_,_,_,_,_,_,_,_,_,_,_,_,_,_,_,_,_,rfl⟩
 have E:=Gy B.g1 B.p1 aG q w hR d;have a:∀(v:Value) (W:aw),w.heap.size<=W.heap.size->W.ownsRow w.heap.size 227 13 v q.length q.flatten->aF af 169 #[v,.func (.func 171) #[] #[]] W λe W'=>∃j,e=av j/\W'.ownsRow w.heap.size 3 1 j q.length ((l.cK.map λx=>((x.id:Nat):Int)).map (J V))/\aC W W':=λv W P Q =>
  (Mr q (l.cK.map λx=>((x.id:Nat):Int)) v w.heap.size W Q (by rw[gP,p]) (λi c t=>by
    obtain⟨x,A,C⟩:=hF.ID t
    obtain⟨s,e,y,rfl,hp,L⟩:=C
    exact⟨_,_,_,_,_,_,_,_,_,_,_,_,_,_,_,_,_,_,_,rfl,by rw[dE,A];rfl⟩) (by have:=hR.le;have:=hR.aT;omega)).mono (by rintro e W' ⟨j,h1,h2,h3⟩;exact⟨j,h1,qS h2 P,h3⟩)
 have c1:=h.cw.cell 1;simp at c1;rw[<-p];have k:=hR.typed;have R:∀i,B.own i->i<w.heap.size:=h.lt;have S:=au E;have b:=au a;have H:=au h;have T:=au hR;clear E a h hR hF d p k;generalize ((l.cK.map λx=>((x.id:Nat):Int)).map (J V))=vs at b ⊢;go_enter func118,ntmps118;go_wp2_with (first
  |(go_at_call 170;refine S.O.mono ?_;rintro r w1 ⟨v,rfl,F,m,u⟩;have f:=oa T.O u aR aR aR aR;have G:ca w1 B aG aT { l with cK:=[] } N:=H.O.ub f ⟨[],m,trivial⟩;have U:=au F;have X:=au G;have K:=au f;clear F m u f G)
  |(go_at_call 169;refine(b.O _ _ K.O.size U.O).mono ?_;rintro r w2 ⟨j,rfl,n,b2⟩;have D:=au n;have o:=au b2;clear n b2))
 go_ret;exact⟨_,rfl,D.O,X.O.below o.O,(K.O.mono λi _ hi=>ca.rO B i hi).then o.O⟩
def yg(B:LB)(aG:Nat)(aT:Int)(l:M.dP)(N:Nat)(w:aw)(h:ca w B aG aT l N) :
  aF af 118 #[aq (Z ⟨B.g,0,I⟩),J V 2] w λr w'=>∃v,r=av v/\w'.ownsRow w.heap.size 3 1 v l.bF.length ((l.bF.map λx=>((x.1.id:Nat):Int)).map (J V))/\ca w' B aG aT { l with bF:=[] } N/\Fr B.own w w':=by
 obtain⟨q,hR,hF⟩:=h.bF;have p:=hF.length;have d:∀x∈q,yv x:=λc t=>by
  obtain⟨x,_,A⟩:=hF.mem c t;obtain⟨s,e,y,rfl,hp,L⟩:=A;exact⟨_,_,_,_,_,_,_,_,_,_,_,_,_,_,_,_,_,_,_,_,rfl⟩
 have E:=CY B.g2 B.p2 aG q w hR d;have a:∀(v:Value) (W:aw),w.heap.size<=W.heap.size->W.ownsRow w.heap.size 229 14 v q.length q.flatten->aF af 172 #[v,.func (.func 174) #[] #[]] W λe W'=>∃j,e=av j/\W'.ownsRow w.heap.size 3 1 j q.length ((l.bF.map λx=>((x.1.id:Nat):Int)).map (J V))/\aC W W':=λv W P Q =>
  (GZ q (l.bF.map λx=>((x.1.id:Nat):Int)) v w.heap.size W Q (by rw[gP,p]) (λi c t=>by
    obtain⟨x,A,C⟩:=hF.ID t
    obtain⟨s,e,y,rfl,hp,L⟩:=C
    exact⟨_,_,_,_,_,_,_,_,_,_,_,_,_,_,_,_,_,_,_,_,rfl,by rw[dE,A];rfl⟩) (by have:=hR.le;have:=hR.aT;omega)).mono (by rintro e W' ⟨j,h1,h2,h3⟩;exact⟨j,h1,qS h2 P,h3⟩)
 have c2:=h.cw.cell 2;simp at c2;rw[<-p];have k:=hR.typed;have R:∀i,B.own i->i<w.heap.size:=h.lt;have S:=au E;have b:=au a;have H:=au h;have T:=au hR;clear E a h hR hF d p k;generalize ((l.bF.map λx=>((x.1.id:Nat):Int)).map (J V))=vs at b ⊢;go_enter func118,ntmps118;go_wp2_with (first
  |(go_at_call 173;refine S.O.mono ?_;rintro r w1 ⟨v,rfl,F,m,u⟩;have f:=oa T.O u aR aR aR aR;have G:ca w1 B aG aT { l with bF:=[] } N:=H.O.uB f ⟨[],m,trivial⟩;have U:=au F;have X:=au G;have K:=au f;clear F m u f G)
  |(go_at_call 172;refine(b.O _ _ K.O.size U.O).mono ?_;rintro r w2 ⟨j,rfl,n,b2⟩;have D:=au n;have o:=au b2;clear n b2))
 go_ret;exact⟨_,rfl,D.O,X.O.below o.O,(K.O.mono λi _ hi=>ca.ky B i hi).then o.O⟩
def ye(B:LB)(aG:Nat)(aT:Int)(l:M.dP)(N:Nat)(w:aw)(h:ca w B aG aT l N) :
  aF af 118 #[aq (Z ⟨B.g,0,I⟩),J V 3] w λr w'=>∃v,r=av v/\w'.ownsRow w.heap.size 3 1 v l.ready.length ((l.ready.map λx=>((x.1:Nat):Int)).map (J V))/\ca w' B aG aT { l with ready:=[] } N/\Fr B.own w w':=by
 obtain⟨q,hR,hF⟩:=h.ready;have s:=hF.length;have j:∀x∈q,DS x:=λc t=>by
  obtain⟨x,_,y⟩:=hF.mem c t;obtain⟨b,rfl,hp,K⟩:=y;exact⟨_,_,_,_,rfl⟩
 have D:=Jv B.g3 B.p3 aG q w hR j;have a:∀(v:Value) (W:aw),w.heap.size<=W.heap.size->W.ownsRow w.heap.size 80 2 v q.length q.flatten->aF af 175 #[v,.func (.func 177) #[] #[]] W λe W'=>∃k,e=av k/\W'.ownsRow w.heap.size 3 1 k q.length ((l.ready.map λx=>((x.1:Nat):Int)).map (J V))/\aC W W':=λv W L P =>
  (NO q (l.ready.map λx=>((x.1:Nat):Int)) v w.heap.size W P (by rw[gP,s]) (λi c t=>by
    obtain⟨x,y,A⟩:=hF.ID t
    obtain⟨b,rfl,hp,K⟩:=A
    exact⟨_,_,_,_,rfl,by rw[dE,y];rfl⟩) (by have:=hR.le;have:=hR.aT;omega)).mono (by rintro e W' ⟨k,h1,h2,h3⟩;exact⟨k,h1,qS h2 L,h3⟩)
 have c3:=h.cw.cell 3;simp at c3;rw[<-s];have m:=hR.typed;have Q:∀i,B.own i->i<w.heap.size:=h.lt;have R:=au D;have d:=au a;have H:=au h;have S:=au hR;clear D a h hR hF j s m;generalize ((l.ready.map λx=>((x.1:Nat):Int)).map (J V))=vs at d ⊢;go_enter func118,ntmps118;go_wp2_with (first
  |(go_at_call 176;refine R.O.mono ?_;rintro r w1 ⟨v,rfl,E,n,u⟩;have f:=oa S.O u aR aR aR aR;have F:ca w1 B aG aT { l with ready:=[] } N:=H.O.tP f ⟨[],n,trivial⟩;have T:=au E;have U:=au F;have G:=au f;clear E n u f F)
  |(go_at_call 175;refine(d.O _ _ G.O.size T.O).mono ?_;rintro r w2 ⟨k,rfl,o,b2⟩;have C:=au o;have p:=au b2;clear o b2))
 go_ret;exact⟨_,rfl,C.O,U.O.below p.O,(G.O.mono λi _ hi=>ca.DN B i hi).then p.O⟩
section
def Holds(R:M.Room):Prop:=∀o st,R.az o=Z st->∀y∈st.bQ.bD,y.id<=1000000
abbrev yD(s:Int)(r:M.Room)(id:Nat):M.Room:=r.bR s id 8
abbrev AY(id:Nat)(r:M.Room)(s:Int):M.Room:=r.bR s id 8
abbrev xS(r:M.Room)(id:Nat):M.Room:=M.gF.foldl (AY id) r
theorem zg(r:M.Room)(s:Int)(id:Nat)(f:Int):(r.bR s id f).az=r.az:=by rw[sV]
theorem po{α β c:Type}(g:β->c)(f:β->α->β)(b:∀r a,g (f r a)=g r):∀(l:List α) (r:β),g (l.foldl f r)=g r
 |[],r=>rfl
 |a::l,r=>by rw[eN,po g f b l,b]
theorem Am(r:M.Room)(id:Nat):(xS r id).az=r.az:=po M.Room.az (AY id) (λr s=>zg r s id 8) _ _
theorem drain_eq(R:M.Room)(o:M.bN)(s:M.eu)(h:R.az o=Z s):R.cP o=(s.bQ.bD.map (·.id)).foldl xS { R with az:=M.set R.az o (Z { s with bQ:=M.mf.iu s.bQ.bD.length s.bQ }) }:=by
 unfold M.Room.cP;rw[h]
theorem vx(R:M.Room)(o:M.bN)(s:M.eu)(h:R.az o=Z s):(R.cP o).az=M.set R.az o (Z { s with bQ:=M.mf.iu s.bQ.bD.length s.bQ }):=by
 rw[drain_eq R o s h];exact po M.Room.az xS Am _ _
theorem rh(R:M.Room)(o:M.bN)(h:R.az o=I):R.cP o=R:=by unfold M.Room.cP;rw[h]
theorem zR(R:M.Room)(o a:M.bN):((R.cP o).az a).isSome=(R.az a).isSome:=by
 cases h:R.az o with
 |none=>rw[rh R o h]
 |some s =>
  rw[vx R o s h];unfold M.set;split
  ·rename_i e;subst e;rw[h];rfl
  ·rfl
theorem Ex{R:M.Room}(h:Holds R)(o:M.bN):Holds (R.cP o):=by
 cases a:R.az o with
 |none=>rw[rh R o a];exact h
 |some s =>
  intro b FH q y hy;rw[vx R o s a]at q;unfold M.set at q;split at q
  ·cases q;have hy:y∈(M.mf.iu s.bQ.bD.length s.bQ).bD:=hy;rw[ua s.bQ _ (aj _),List.drop_length]at hy;cases hy
  ·exact h b FH q y hy
theorem wL:∀(l:List M.bN) (R:M.Room) (p:M.bN->Bool),(∀o,p o=(R.az o).isSome)->l.foldl M.Room.cP R=(l.filter p).foldl M.Room.cP R
 |[],R,p,hp=>rfl
 |o::l,R,p,hp=>by
  rw[eN,List.filter_cons];have a:=wL l (R.cP o) p (λb=>by rw[hp,zR]);rw[a,hp o];cases h:R.az o with
  |none=>rw[rh R o h];rfl
  |some s=>simp
theorem J9(R:M.Room):M.eX.foldl M.Room.cP R=(ei R 9).foldl M.Room.cP R:=by
 unfold ei;rw[List.take_of_length_le (aR:M.eX.length<=9)];exact wL _ R _ λ_=>rfl
theorem Ew(l:List M.bN)(R:M.Room)(b:Holds R):Holds (l.foldl M.Room.cP R)/\∀o,((l.foldl M.Room.cP R).az o).isSome=(R.az o).isSome:=by
 induction l generalizing R with
 |nil=>exact⟨b,λ_=>rfl⟩
 |cons a l c =>
  obtain⟨h1,h2⟩:=c (R.cP a) (Ex b a);exact⟨h1,λo=>by rw[eN,h2,zR]⟩
theorem J7(R:M.Room)(w:M.eK):(M.jd R w).returned=R.returned:=by
 have a:∀(l:List Nat) (s:Int) (r:M.Room),(r.fI s l).returned=r.returned:=λl s r=>po M.Room.returned (yD s) (λr id=>by show(r.bR s id 8).returned=_;rw[sV]) l r;have c:∀(r:M.Room) (o:M.bN),(r.cP o).returned=r.returned:=λr o=>by
  cases b:r.az o with
  |none=>rw[rh r o b]
  |some s =>
   rw[drain_eq r o s b];exact po M.Room.returned xS (λr id=>po M.Room.returned (AY id) (λr s=>by show(r.bR s id 8).returned=_;rw[sV]) _ _) _ _
 unfold M.jd;split
 ·rfl
 ·split
  ·exact po M.Room.returned M.Room.cP c _ _
  ·split
   ·rfl
   ·split
    ·exact a _ _ _
    ·split
     ·exact a _ _ _
     ·exact a _ _ _
theorem Hr{B:RB}{o:M.bN}{S S':SB}(a:B.sb o=Z S)(b:∀i,S'.own i->S.own i):∀i,({ B with sb:=M.set B.sb o (Z S') }:RB).all i->B.all i:=by
 rintro i ⟨X,hi⟩;cases X with
 |fO t =>
  obtain⟨K,q,hi⟩:=hi;have q:M.set B.sb o (Z S') t=Z K:=q;unfold M.set at q;split at q
  ·rename_i e;cases q;subst e;exact⟨.fO t,S,a,b i hi⟩
  ·exact⟨.fO t,K,q,hi⟩
 |aG=>exact⟨.aG,hi⟩
 |di=>exact⟨.di,hi⟩
 |ret=>exact⟨.ret,hi⟩
 |dm=>exact⟨.dm,hi⟩
 |table=>exact⟨.table,hi⟩
 |aD=>exact⟨.aD,hi⟩
 |az=>exact⟨.az,hi⟩
 |fo t=>exact⟨.fo t,hi⟩
 |aO=>exact⟨.aO,hi⟩
 |cj=>exact⟨.cj,hi⟩
theorem aK.OB{w w':aw}{g:Nat}{t:TypeId}{cs:Array Value}{B B':RB}(h:aK w g t cs)(k:fK w w' B B')(hg:∀i,B.all i->i≠g):aK w' g t cs:=h.dW k.fr.u (λq=>hg g q rfl)
section
variable {B:RB} {R:M.Room} {N:Nat} {w:aw} (h:aL w B R N)
include h
theorem aL.Lm{w':aw}{l:List M.eK}(f:Fr (One B.ret) w w')(a:gE KW w' B.ret l (λ_=>ai true)):aL w' B { R with returned:=l } N/\fK w w' B B:=by
 refine h.yZ .ret (f.mono λi _ q=>q) a rfl ?_ (λY i hi=>.inl hi) { h.et with };intro Y b k;cases Y with
 |ret=>exact absurd rfl b
 |_=>exact k
theorem aL.ND(x:M.eK)(a:Gi x)(b:x∉R.returned)(hlen:R.returned.length<=1000):∃w',(eF 51 (.map (Z B.ret)) (pv x) (ai true)).run af w=.ok () w'/\aL w' B { R with returned:=R.returned++[x] } N/\fK w w' B B:=by
 have hm:gE KW w B.ret R.returned (λ_=>ai true):=h.part .ret;obtain⟨w',h1,h2,h3⟩:=hm.Ci w Nc BZ B.ret R.returned _ ui x (ai true) b a;have c:=h.Lm (Fr.jT h3 (λi hi=>by cases hi;exact yP hm)) (h2.congr (λy _=>dt));exact⟨w',h1,c⟩
end
theorem Fit.On{α:Type}{P:α->List Value->Prop}{xs:List α}{cs:List (List Value)}(h:Fit P xs cs){Q:α->Prop}(a:∀x c,P x c->Q x):∀x∈xs,Q x:=λx b=>by
 obtain⟨i,hi⟩:=List.getElem?_of_mem b;obtain⟨c,_,d⟩:=h.get hi;exact a x c d
theorem LY(L:LB)(aG:Nat)(aT:Int)(l:M.dP)(N:Nat)(w:aw)(h:ca w L aG aT l N)(st:Int)(j:2<=st) :
  ∃(ids:List Nat) (l1:M.dP),(∀(R:M.Room) (s:Int),R.aD s=Z l->M.jd R (st,s)=ids.foldl (yD s) { R with aD:=M.set R.aD s (Z l1) })/\(∀id∈ids,id<=1000000)/\ids.length<=1000000 /\
   ∀W,ca W L aG aT l N->aF af 118 #[aq (Z ⟨L.g,0,I⟩),J V (if st=2 then 1 else if st=3 then 2 else 3)] W λr w'=>∃v,r=av v/\w'.ownsRow W.heap.size 3 1 v ids.length ((ids.map λx=>((x:Nat):Int)).map (J V))/\ca w' L aG aT l1 N/\Fr L.own W w':=by
 have n0:¬st=0:=z;have n1:¬st=1:=z;by_cases a:st=2
 ·refine⟨l.cK.map M.Item.id,{ l with cK:=[] },λR s b=>?_,?_,?_,λW d=>?_⟩
  ·unfold M.jd;simp only[n0,n1,a,if_false,if_true,b];rfl
  ·obtain⟨q,hR,hF⟩:=h.cK;intro id hid;obtain⟨x,e,rfl⟩:=eU.1 hid;exact hF.On (Q:=λx=>x.id<=1000000) (by rintro x c ⟨_,_,_,_,_,hi,_⟩;exact hi) x e
  ·obtain⟨q,hR,hF⟩:=h.cK;have:=hR.le;have:=hR.aT;have:=hF.length;rw[gP];omega
  ·have f:=yi L aG aT l N W d;rw[if_pos a];simpa[qC,sG]using f
 ·by_cases i:st=3
  ·refine⟨l.bF.map (λy=>y.1.id),{ l with bF:=[] },λR s b=>?_,?_,?_,λW d=>?_⟩
   ·unfold M.jd;simp only[n0,n1,a,i,if_false,if_true,b];rfl
   ·obtain⟨q,hR,hF⟩:=h.bF;intro id hid;obtain⟨x,e,rfl⟩:=eU.1 hid;exact hF.On (Q:=λx=>x.1.id<=1000000) (by rintro x c ⟨_,_,_,_,_,hi,_⟩;exact hi) x e
   ·obtain⟨q,hR,hF⟩:=h.bF;have:=hR.le;have:=hR.aT;have:=hF.length;rw[gP];omega
   ·have f:=yg L aG aT l N W d;rw[if_neg a,if_pos i];simpa[qC,sG]using f
  ·refine⟨l.ready.map Prod.fst,{ l with ready:=[] },λR s b=>?_,?_,?_,λW d=>?_⟩
   ·unfold M.jd;simp only[n0,n1,a,i,if_false,if_true,b];rfl
   ·obtain⟨q,hR,hF⟩:=h.ready;intro id hid;obtain⟨x,e,rfl⟩:=eU.1 hid;exact hF.On (Q:=λx=>x.1<=1000000) (by rintro x c ⟨_,_,_,_,hi⟩;exact hi) x e
   ·obtain⟨q,hR,hF⟩:=h.ready;have:=hR.le;have:=hR.aT;have:=hF.length;rw[gP];omega
   ·have f:=ye L aG aT l N W d;rw[if_neg a,if_neg i];simpa[qC,sG]using f
end
section
section
variable {B:RB} {R:M.Room} {N:Nat} {w:aw} (h:aL w B R N)
include h
theorem Lj(st s:Int)(a:Bool)(Tp:0<=st/\st<=4)(hs:0<=s/\s<6)(Uz:2<=st->(R.aD s).isSome=true)(Tt:(st,s)∉R.returned)(hlen:R.returned.length<=1000)(hH:Holds R)(hN:N<900000) :
  aF af 65 #[aq (Z ⟨B.g,0,I⟩),cg #[J V st,J V s],ai a] w λe w'=>∃B',e=av (aB #[])/\aL w' B' (R.ku (st,s)) (N+9)/\fK w w' B B':=by
 rw[M.rf];obtain⟨U,TO⟩:=dH (M.jd R (st,s));rw[<-TO];have TW:U.returned=R.returned:=by rw[TO];exact J7 R _
 rw[<-TW]at Tt hlen;obtain⟨Tu,TX,Uc,UA,H0⟩:=gY TO Tt Uz hH h;have UB:=h.lt;clear h TO TW Tt Uz hH;go_enter func65,ntmps65;go_upto_region 1 with fail;obtain⟨r4,e4⟩:=dH w.heap.size;rw[<-e4];have al:aC w (w.alloc (.cells #[J V st,J V s] 40)):=(ao _ w).alloc (aj _) _;refine aW (λX=>aK X r4 40 #[J V st,J V s]/\aL X B R N/\fK w X B B) ⟨aK.newAt _ _ _ _ e4,H0.O.below al,fK.fN B al⟩ ?_;have UC:∀i,B.all i->i<r4:=λi hi=>by have:=UB i hi;omega
 clear al H0 e4;rintro X ⟨b4,h,m⟩;have k0:=b4.cell 0;have k1:=b4.cell 1;simp at k0 k1;obtain⟨H,HS,d,Tm⟩:=cA h m b4 UC;clear h m b4 UB UC;go_upto_block 0 with fail;go_cut [] (λwc=>∃B',aL wc B' U (N+9)/\fK w wc B B'/\aK wc r4 40 #[J V st,J V s]);case first =>
  clear TX;rcases(z:st=0\/st=1\/2<=st) with rfl|rfl|h2
  ·obtain⟨qq,TP,Ud⟩:=H.O.Qb;have UD:R.dm.length=qq.length:=Ud.length.symm;have Vu:qq.length<=8:=by
    have:=TP.le;have k:=H.O.et.dA;simp[M.jr]at k;omega
   have hl:=H.O.et.jw;have Vd:=H.O.cw.cell 10;have UE:=H.O.cw.cell 16;have f16:=H.O.cw.frozen 16;simp at Vd UE;obtain⟨A,Ve,Vf,UF⟩:=cA (ES B.qg B.qp R.dA.aG qq X.drew (TP.below (eW (ao X.drew.heap.size X.drew))) (λc hc=>by obtain⟨x,_,hx⟩:=Ud.mem c hc;obtain⟨b,rfl,_⟩:=hx;exact⟨_,_,_,rfl⟩)) TP UD H.O.Qo;have UG:V.wrap (R.bp.jw+(qq.length:Int))=R.bp.jw+(qq.length:Int):=IntWalk.i64_in _ ⟨z,z⟩;clear TP Ud UD;go_upto_region 8 with fail;go_region_with (go_at_call 116;refine A.O.mono ?_;rintro e w9 ⟨v,rfl,own,hb,u⟩;have f9:=wJ (Ve.O.below (eW (ao X.drew.heap.size X.drew))) u aR aR aR aR;have i16:=dD f9 UF.O (cE UE);have QM:=(H.O.cw.drew.dW f9.u UF.O).frozen 16;obtain⟨A5,c5,rfl⟩:=bA own;have HB:=au hb;have HF:=au f9;clear own hb u f9);all_goals
    go_wp2_with fail;go_meet;have z1:=(H.O.below (eW (ao X.drew.heap.size X.drew))).vF (l:=[]) HF.O ⟨[],HB.O,trivial⟩;have hq:=Vf.O;have z2:=(z1.1.mono (z:N<=N+9)).rq (cJ:=R.cJ) (cN:=R.cN) (bp:={ R.bp with jw:=R.bp.jw+R.dm.length }) ((Fr.refl (One B.g) _).setCell z1.1.cw (.inl rfl) aR aR 16 (J V (R.bp.jw+qq.length))) (by have e:=z1.1.cw.bC 16 (J V (R.bp.jw+qq.length));rw[hq];simpa using e) { (z1.1.et.mono (z:N<=N+9)) with jw:=by show 0<=R.bp.jw+(R.dm.length:Int)/\R.bp.jw+(R.dm.length:Int)<=((N+9:Nat):Int);omega };have T:=(fK.fN B (eW (ao X.drew.heap.size X.drew))).trans (z1.2.trans z2.2);refine⟨B,?_,HS.O.trans T,d.O.OB T (λi hi=>by have:=Tm.O i hi;omega)⟩;have e:M.jd R (0,s)={ R with dm:=[],bp:={ R.bp with jw:=R.bp.jw+R.dm.length } }:=by unfold M.jd;rw[if_pos rfl]
    rw[Tu.O,e];exact z2.1
  ·obtain⟨p,Tv⟩:=dH (ei R 9);have Ue:=qw H.O;rw[<-Tv]at Ue;have Tw:U=p.foldl M.Room.cP R:=by rw[Tu.O,Tv,<-J9];unfold M.jd;rw[if_neg (by show¬((1:Int)=0);decide),if_pos rfl]
   have Vv:p.length<=9:=by rw[Tv];exact re R 9
   have P:∀o∈p,(0<=o.1/\o.1<3)/\(0<=o.2/\o.2<3)/\(R.az o).isSome=true:=by rw[Tv];exactλo ho=>rb R ho
   obtain⟨UH,TQ,Tq⟩:=bU Ue Tw P;have Vg:=d.O.lt;clear Ue Tw P Tv Tu Uc;go_wp2_with (go_at_call 71;refine UH.O.mono ?_;rintro e w2 ⟨v,rfl,own,b2⟩;obtain⟨A5,c5,rfl⟩:=bA own;have D:=au own;have E:=au b2;clear own b2);have HX:=au (show aL w2 B R N/\fK w w2 B B/\aK w2 r4 40 #[J V 1,J V s] from⟨H.O.below E.O,HS.O.trans (fK.fN B E.O),d.O.kept E.O⟩);clear k0 k1 H HS d UH E;go_loopw [63] (λi wr=>∃(k:Nat) (Bk:RB),i=J V k/\k<=p.length/\aL wr Bk ((p.take k).foldl M.Room.cP R) N/\fK w wr B Bk/\(∀i,Bk.all i->i<r4)/\wr.ownsRow X.heap.size 91 2 (ae A5 p.length c5) p.length (p.flatMap zw)/\aK wr r4 40 #[J V 1,J V s]) (λi _=>p.length-(bS i).toNat);case atStart=>exact⟨0,B,rfl,z,HX.O.1,HX.O.2.1,Tm.O,D.O,HX.O.2.2⟩
   case round =>
    clear HX D;obtain⟨k,Bk,rfl,hk,hR,m,UI,own,b4⟩:=hrel;by_cases F:k<p.length;rotate_left
    ·have Uf:k=p.length:=z;subst Uf;rw[cT,<-TQ.O]at hR;obtain⟨H,HS,d⟩:=bU hR m b4;clear hR m own b4;go_wp2_with fail;go_meet;exact⟨Bk,H.O.mono z,HS.O,d.O⟩
    have UG:((k:Int)<(p.length:Int)):=z;have r:p[k]? = Z p[k]:=ay F;have f:=M.lL M.Room.cP p k p[k] R r;obtain⟨Vh,Vi,Tx⟩:=Tq.O p[k] (dy F);obtain⟨Ug,UJ⟩:=Ew (p.take k) R UA.O;rw[<-UJ]at Tx;generalize p[k]=o at r f Vh Vi Tx;clear UJ;generalize (p.take k).foldl M.Room.cP R=Rk at hR f Ug Tx;obtain⟨r5,rfl,Vj,_,UK⟩:=wm own z;obtain⟨y0,y1⟩:=UK k o r;obtain⟨st,Tp⟩:=dw.1 Tx;have UL:=f.trans (drain_eq Rk o st Tp);have UM:=Ug o st Tp;obtain⟨H,HS,D,d,HF,UN,G,Uh⟩:=qh hR m own b4 UL UM UI Tp;clear hR m own b4 UL UM UI Tp f Ug Tx UK r;go_upto_region 13 with fail;obtain⟨r7,e7⟩:=dH wr.heap.size;rw[<-e7];have al:aC wr (wr.alloc (.cells #[J V o.1,J V o.2] 91)):=(ao _ _).alloc (aj _) _;have g7:∀i,Bk.all i->i≠r7:=λi hi=>by have:=G.O i hi;have:=d.O.lt;omega
    refine aW (λY=>aK Y r7 91 #[J V o.1,J V o.2]/\aL Y Bk Rk N/\fK w Y B Bk/\Y.ownsRow X.heap.size 91 2 (ae (Z ⟨r5,0,I⟩) p.length c5) p.length (p.flatMap zw)/\aK Y r4 40 #[J V 1,J V s]) ⟨by simpa using aK.newAt _ _ _ _ e7,H.O.below al,HS.O.trans (fK.fN Bk al),gI D.O al,d.O.kept al⟩ ?_;have Vk:=au g7;clear al e7 g7 y0 y1 H HS D d;rintro Y ⟨b7,hR,m,own,b4⟩;have hD:=hR.below (eW (ao Y.drew.heap.size Y.drew));obtain⟨S,Ui,Ty⟩:=hD.iB Uh.O;have UO:=m.g;have Uj:=hR.cw.cell 13;have y0:=b7.cell 0;have y1:=b7.cell 1;have q0:Y.cell? ⟨S.g,0,I⟩=_:=Ty.cw.cell 0;simp at Uj y0 y1 q0;rw[UO]at Uj;have UP:(cD 55 (.map (Z Bk.sm)) (cg #[J V o.1,J V o.2]) false).run af Y.drew=.ok (aq (Z ⟨S.g,0,I⟩)) Y.drew:=by
     have Tl:=hD.jU o (ir ⟨z,z⟩ ⟨z,z⟩);rw[Ui]at Tl;exact Tl
    have Vl:=Ty.buf.small;obtain⟨A,H,HD,HS,D,d,Uk,Q⟩:=qh (Da S.b Rk.dA.eJ Rk.dA.cX st.bQ Y.drew Ty.buf) hR hD m own b4 Ui Ty;clear hR hD m own b4 Ui Ty b7;have TY:∀w9 B',gC w9 B' Rk.dA.eJ Rk.dA.cX (M.mf.iu st.bQ.bD.length st.bQ)->B'.g=S.b.g->cS S.b.own Y.drew w9->(∀i,B'.own i->S.b.own i) ->
      aL w9 { Bk with sb:=M.set Bk.sb o (Z ⟨S.g,B'⟩) } { Rk with az:=M.set Rk.az o (Z { st with bQ:=M.mf.iu st.bQ.bD.length st.bQ }) } N/\fK Y.drew w9 Bk { Bk with sb:=M.set Bk.sb o (Z ⟨S.g,B'⟩) }/\(∀i,({ Bk with sb:=M.set Bk.sb o (Z ⟨S.g,B'⟩) }:RB).all i->i<r4):=by
     intro w9 B' hB hg u Tf;have f9:Fr S.own Y.drew w9:=Fr.jT (u.mono λi _ q=>.inr q) (λi hi=>Q.O.ni i hi);have UQ:gh w9 ⟨S.g,B'⟩ Rk.dA.eJ Rk.dA.cX { st with bQ:=M.mf.iu st.bQ.bD.length st.bQ } N:=by
      have hb:=Q.O.cw.dW u (λq=>by
       have:=Q.O.buf
       rcases q with q|q
       ·exact aK.jf Q.O.cw this.cw aR q
       ·exact ej this.row Q.O.cw aR q.symm)
      refine⟨?_,hB,Q.O.uE,Q.O.fH,Q.O.gB⟩;have e:kI ⟨S.g,B'⟩ { st with bQ:=M.mf.iu st.bQ.bD.length st.bQ }=kI S st:=by simp[kI,hg]
      rw[e];exact hb
     have Tl:=HD.O.nL Uh.O Uk.O f9 UQ rfl (λi q=>.inl (q.imp id (Tf i)));exact⟨Tl.1,Tl.2,λi hi=>G.O i (Hr Uk.O (S':=⟨S.g,B'⟩) (λi q=>q.imp id (Tf i)) i hi)⟩
    have Tz:=au TY;clear TY;obtain⟨ids,Tg⟩:=dH (st.bQ.bD.map (·.id));obtain⟨Rd,UR⟩:=dH ({ Rk with az:=M.set Rk.az o (Z { st with bQ:=M.mf.iu st.bQ.bD.length st.bQ }) }:M.Room);rw[<-UR]at Tz HF;have hlen:st.bQ.bD.length=ids.length:=by rw[Tg,gP]
    have T8:st.bQ.bD.map (λh=>J V (h.id:Nat))=(ids.map λx=>((x:Nat):Int)).map (J V):=by rw[Tg,qC,qC];rfl
    have hid:∀id∈ids,id<=1000000:=by
     rw[Tg];intro id q;obtain⟨y,hy,rfl⟩:=eU.1 q;exact UN.O y hy
    rw[<-Tg]at HF;rw[T8]at A;have TA:=A.O;rw[hlen]at TA Vl;obtain⟨A,Ul⟩:=bu TA hid;have Tn:=Tz;rw[hlen]at Tn;clear TA hlen T8 Tg hid UR Tz Q Uk Uh UN HD;go_cut [76,77,78] (λv n i wc=>n=J V ids.length/\i=J V 0/\wc.ownsRow Y.heap.size 3 1 v ids.length ((ids.map λx=>((x:Nat):Int)).map (J V))/\∃B',aL wc B' Rd N/\fK Y wc Bk B'/\(∀i,B'.all i->i<r4));case first =>
     go_region_with (go_at_call 117;refine A.O.mono ?_;rintro e w9 ⟨v,rfl,own,B',hB,hg,u,Tf⟩;obtain⟨A6,c6,rfl⟩:=bA own;have HZ:=au (Tn.out w9 B' hB hg u Tf);have Um:=au own;clear own hB hg u Tf);all_goals
      go_wp2_with fail;go_meet;exact⟨rfl,rfl,Um.O,_,HZ.O.1,(fK.fN Bk (eW (ao Y.drew.heap.size Y.drew))).trans HZ.O.2.1,HZ.O.2.2⟩
    case rest =>
     obtain⟨rfl,rfl,ky,B',hR,Ti,US⟩:=hcut;obtain⟨A6,c6,rfl⟩:=bA ky;have b4:=d.O.OB Ti (λi hi=>by have:=G.O i hi;omega);have Vw:=d.O.lt;have UT:∀i,Bk.all i->i<X.heap.size:=λi hi=>by have:=G.O i hi;omega
     have own:=nh D.O Ti.fr UT;have m:=HS.O.trans Ti;obtain⟨Ts,C⟩:=dH (ids.map λx=>((x:Nat):Int));rw[<-C]at ky;obtain⟨Un,HL,H2,UU,t,UW,E⟩:=lV C US hR m ky own b4;clear own ky hR Ti m b4 C UP Uj y0 y1 q0 H HS A d Tn US UT G Vk UO D;go_wp2_with fail;go_loopw [78] (λi wr=>∃j:Nat,i=J V j/\j<=ids.length/\aL wr B' ((ids.take j).foldl xS Rd) N/\fK w wr B B'/\wr.ownsRow X.heap.size 91 2 (ae (Z ⟨r5,0,I⟩) p.length c5) p.length (p.flatMap zw)/\wr.ownsRow Y.heap.size 3 1 (ae A6 ids.length c6) ids.length (Ts.map (J V))/\aK wr r4 40 #[J V 1,J V s]) (λi _=>ids.length-(bS i).toNat);case atStart=>exact⟨0,rfl,z,H2.O,UU.O,UW.O,t.O,E.O⟩
     case round =>
      clear H2 UU t E UW;obtain⟨j,rfl,hj,hR,m,own,ky,b4⟩:=hrel;by_cases UX:j<ids.length;rotate_left
      ·have Vm:j=ids.length:=z;subst Vm;rw[cT,<-HF.O]at hR;obtain⟨H,HS,d,D⟩:=cA hR m b4 own;clear hR m own b4 ky;go_wp2_with fail;go_roundw;case rel=>exact⟨k+1,B',by go_num,z,H.O,HS.O,HL.O,D.O,d.O⟩
       case measure=>simp[bS];omega
      have Vx:((j:Int)<(ids.length:Int)):=z;have r:ids[j]? = Z ids[j]:=ay UX;have f:=M.lL xS ids j ids[j] Rd r;have Tj:=Ul.O ids[j] (dy UX);have hx:Ts[j]? = Z ((ids[j]:Nat):Int):=by rw[Un.O,dE,r];rfl
      generalize ids[j]=id at r f Tj hx;obtain⟨r6,rfl,z0,Vt⟩:=uN ky hx;generalize (ids.take j).foldl xS Rd=Rj at hR f;obtain⟨Vn,H,HS,D,t,d⟩:=lH f hR m own ky b4;clear f hR m own ky b4 hx r;go_wp2_with fail;go_loopw [82] (λi wr=>∃q:Nat,i=J V q/\q<=6/\aL wr B' ((M.gF.take q).foldl (AY id) Rj) N/\fK w wr B B'/\wr.ownsRow X.heap.size 91 2 (ae (Z ⟨r5,0,I⟩) p.length c5) p.length (p.flatMap zw)/\wr.ownsRow Y.heap.size 3 1 (ae (Z ⟨r6,0,I⟩) ids.length c6) ids.length (Ts.map (J V))/\aK wr r4 40 #[J V 1,J V s]) (λi _=>6-(bS i).toNat);case atStart=>exact⟨0,rfl,z,H.O,HS.O,D.O,t.O,d.O⟩
      case round =>
       clear H HS D t d z0;obtain⟨q,rfl,hq,hR,m,own,ky,b4⟩:=hrel;by_cases Vy:q<6;rotate_left
       ·have Vo:q=6:=z;subst Vo;have hR:aL wr B' (xS Rj id) N:=hR;obtain⟨H,HS,D,t,d⟩:=gY hR m own ky b4;clear hR m own ky b4;go_wp2_with fail;go_roundw;case rel=>exact⟨j+1,by go_num,z,by rw[Vn.O];exact H.O,HS.O,D.O,t.O,d.O⟩
        case measure=>simp[bS];omega
       have Vz:((q:Int)<6):=z;have UY:M.gF[q]? = Z ((q:Nat):Int):=by
        rcases(z:q=0\/q=1\/q=2\/q=3\/q=4\/q=5) with rfl|rfl|rfl|rfl|rfl|rfl<;>rfl
       have Uo:=M.lL (AY id) M.gF q _ Rj UY;generalize (M.gF.take q).foldl (AY id) Rj=Rq at hR Uo;have c0:=hR.cw.cell 0;simp at c0;rw[m.g]at c0;have TC:=λW hW=>mz (w:=W) (B:=B') (R:=Rq) (N:=N) hW q id 8 ⟨z,z⟩ Tj z z;obtain⟨Up,Vp,H,HS,D,t,d⟩:=lV TC Uo hR m own ky b4;clear TC Uo hR m own ky b4 UY;go_wp2_with (go_at_call 114;refine(Up.O _ H.O).mono ?_;rintro e w9 ⟨rfl,TD,TE⟩;have Uq:=au TD;have TR:=au TE;clear TD TE);go_roundw;case rel=>exact⟨q+1,by go_num,z,by rw[Vp.O];exact Uq.O,HS.O.trans TR.O,nh D.O TR.O.fr (λi hi=>by have:=HL.O i hi;omega),nh t.O TR.O.fr (λi hi=>by have:=HL.O i hi;omega),d.O.OB TR.O (λi hi=>by have:=HL.O i hi;omega)⟩
       case measure=>simp[bS];omega
  ·obtain⟨l,hl⟩:=dw.1 (Uc.O h2);obtain⟨L,hL,hA⟩:=H.O.jq hl;obtain⟨ids,l1,he,hid,VA,UZ⟩:=LY L R.dA.aG R.dA.aT l N X hA st h2;have Tw:=Tu.O.trans (he R s hl);obtain⟨TQ,Ul,A,To⟩:=cA Tw hid UZ (And.intro hl hL);have Vq:(Lit.int V s).wf=true:=Ig z z;have TF:∀W R',aL W B R' N->(cD 54 (.map (Z B.lm)) (J V s) false).run af W=.ok (aq (Z ⟨L.g,0,I⟩)) W:=λW R' hW=>by
    have Tl:=hW.kW s Vq;rw[To.O.2]at Tl;exact Tl
   have Ur:=au TF;have F:=TF X.drew R (H.O.below (eW (ao _ _)));have TS:=H.O.cw.cell 12;simp at TS;have q0:(st==0)=false:=by simpa using(z:st≠0)
   have q1:(st==1)=false:=by simpa using(z:st≠1)
   have Us:=au (λW:aw=>xf st s W);clear hl hL hA he hid UZ Tw TF Tu Uc UA;obtain⟨sg,U0⟩:=dH (if st=2 then 1 else if st=3 then 2 else 3:Int);rw[<-U0]at A Us;clear U0;go_upto_region 2 with fail;go_cut [26,27,28] (λv n i wc=>v.ownBlock=v.ownBlock/\n=J V ids.length/\i=J V 0/\wc.ownsRow X.heap.size 3 1 v ids.length ((ids.map λx=>((x:Nat):Int)).map (J V))/\aL wc B { R with aD:=M.set R.aD s (Z l1) } N/\fK X wc B B);case first =>
    go_region_held3 (λW=>W.cell? ⟨B.g,12,I⟩=Z (.map (Z B.lm))/\W.cell? ⟨r4,0,I⟩=Z (J V st)/\W.cell? ⟨r4,1,I⟩=Z (J V s)/\(cD 54 (.map (Z B.lm)) (J V s) false).run af W=.ok (aq (Z ⟨L.g,0,I⟩)) W) (first|(with_reducible exact⟨cE TS,cE k0,cE k1,F⟩)|(with_reducible exact⟨d12,d0,d1,dl⟩)|(with_reducible exact⟨i12,i0,i1,il⟩)) (first
     |(go_at_call 112;refine(Us.O X.drew).mono ?_;rintro e w5 ⟨rfl,b5⟩;have bx:aC X w5:=(by with_reducible exact eW b5);have d12:=aM bx TS;have d0:=aM bx k0;have d1:=aM bx k1;have dl:=Ur.O w5 R (H.O.below bx);have TT:=au bx;clear b5 bx)
     |(go_at_call 118;obtain⟨Lx,U1,U2⟩:=(H.O.below TT.O).jq To.O.1;rw[To.O.2]at U1;cases U1;refine(A.O w5 U2).mono ?_;rintro e w6 ⟨v,rfl,own,U3,f6⟩;have Tl:=(H.O.below TT.O).qJ To.O.1 To.O.2 f6 U3 rfl (λi q=>.inl q);rw[qR B.lb s (Z L) To.O.2]at Tl;have i12:=Tl.1.cw.cell 12;simp at i12;have i0:=dD Tl.2.fr (λq=>by have:=Tm.O _ q;omega) d0;have i1:=dD Tl.2.fr (λq=>by have:=Tm.O _ q;omega) d1;have il:=Ur.O _ _ Tl.1;obtain⟨A5,c5,rfl⟩:=bA own;have D:=au own;have HZ:=au Tl;clear own U3 f6 Tl U2))
    all_goals
     go_wp2_with fail;go_meet;exact⟨trivial,rfl,rfl,qS D.O TT.O.size,HZ.O.1,(fK.fN B TT.O).trans HZ.O.2⟩
   case rest =>
    obtain⟨_,rfl,rfl,own,hR,Ti⟩:=hcut;obtain⟨A5,c5,rfl⟩:=bA own;have b4:=d.O.OB Ti (λi hi=>by have:=Tm.O i hi;omega);have Vg:=d.O.lt;have m:=HS.O.trans Ti;generalize ({ R with aD:=M.set R.aD s (Z l1) }:M.Room)=R2 at hR TQ;obtain⟨Ts,C⟩:=dH (ids.map λx=>((x:Nat):Int));rw[<-C]at own;obtain⟨Un,H2,TG,t,E⟩:=gY C hR m own b4;clear own hR Ti m b4 C F TS k0 k1 H HS A Ur To Us d q0 q1;go_wp2_with fail;go_loopw [28] (λi wr=>∃k:Nat,i=J V k/\k<=ids.length/\aL wr B ((ids.take k).foldl (yD s) R2) N/\fK w wr B B/\wr.ownsRow X.heap.size 3 1 (ae A5 ids.length c5) ids.length (Ts.map (J V))/\aK wr r4 40 #[J V st,J V s]) (λi _=>ids.length-(bS i).toNat);case atStart=>exact⟨0,rfl,z,H2.O,TG.O,t.O,E.O⟩
    case round =>
     clear H2 TG t E;obtain⟨k,rfl,hk,hR,m,own,b4⟩:=hrel;by_cases F:k<ids.length;rotate_left
     ·have Uf:k=ids.length:=z;subst Uf;rw[cT,<-TQ.O]at hR;obtain⟨H,HS,d⟩:=bU hR m b4;clear hR m own b4;go_wp2_with fail;go_meet;exact⟨B,H.O.mono z,HS.O,d.O⟩
     have UG:((k:Int)<(ids.length:Int)):=z;have r:ids[k]? = Z ids[k]:=ay F;have f:=M.lL (yD s) ids k ids[k] R2 r;have Tj:=Ul.O ids[k] (dy F);have hx:Ts[k]? = Z ((ids[k]:Nat):Int):=by rw[Un.O,dE,r];rfl
     generalize ids[k]=id at r f Tj hx;obtain⟨r5,rfl,y0,Vj⟩:=uN own hx;have c0:=hR.cw.cell 0;have k1:=b4.cell 1;simp at c0 k1;generalize (ids.take k).foldl (yD s) R2=Rk at hR f;have TC:=λW hW=>mz (w:=W) (B:=B) (R:=Rk) (N:=N) hW s id 8 ⟨z,z⟩ Tj z z;obtain⟨Up,HF,H,HS,D,d⟩:=lH TC f hR m own b4;clear TC f hR m own b4 hx r;go_wp2_with fail;go_region_with (go_at_call 114;refine(Up.O _ (H.O.below (eW (ao _ _)))).mono ?_;rintro e w9 ⟨rfl,TD,TE⟩);all_goals
      have T:=(fK.fN B (eW (ao wr.drew.heap.size wr.drew))).trans TE;have T9:∀i,B.all i->i<X.heap.size:=λi hi=>by have:=Tm.O i hi;omega
      have O9:=nh D.O T.fr T9;have B9:=d.O.OB T (λi hi=>by have:=Tm.O i hi;omega);have S9:=HS.O.trans T;obtain⟨Uq,Vr,Um,TH⟩:=cA TD S9 O9 B9;clear TD TE T O9 B9 S9 T9;go_wp2_with fail;go_roundw;case rel=>exact⟨k+1,by go_num,z,by rw[HF.O];exact Uq.O,Vr.O,Um.O,TH.O⟩
      case measure=>simp[bS];omega
 case rest =>
  obtain⟨B',hR,m,b4⟩:=hcut;have hg:=m.g;have c8:=hR.cw.cell 8;have k0:=b4.cell 0;have k1:=b4.cell 1;simp at c8 k0 k1;rw[hg]at c8;have Ut:=λW=>Kx st s W Tp;obtain⟨ah,Tk⟩:=dH (M.ahead (st,s));rw[<-Tk]at Ut;have Tj:∀x,ah=Z x->Gi x:=by
   intro x q;rw[Tk]at q;unfold M.ahead at q;simp only at q;split at q
   ·cases q
   ·split at q
    ·cases q;exact ir ⟨dt,dt⟩ ⟨dt,dt⟩
    ·split at q
     ·cases q;exact ir ⟨dt,dt⟩ ⟨dt,dt⟩
     ·cases q;exact ir ⟨by show _<=st-1;omega,by show st-1<=_;omega⟩ ⟨by show _<=s;omega,by show s<=_;omega⟩
  have Va:∀b:Bool,M.qz U (st,s)=b->M.back U (st,s)=if b then { U with returned:=U.returned++[(st,s)] } else U:=by
   intro b q;unfold M.back;rw[q]
  have Vb:(ah=I->M.qz U (st,s)=true)/\∀x,ah=Z x->M.qz U (st,s)=decide (x∈U.returned):=by
   constructor
   ·intro q;unfold M.qz;rw[<-Tk,q]
   ·intro x q;unfold M.qz;rw[<-Tk,q]
  obtain⟨Uu,Uv,G,TV,H,TG,HB⟩:=lV Ut Tj Va Vb hR m b4;clear Ut Tj Va Tk hR m b4 Vb;have Ua:∀W,aL W B' U (N+9)->∃w',(eF 51 (.map (Z B'.ret)) (cg #[J V st,J V s]) (ai true)).run af W=.ok () w'/\aL w' B' { U with returned:=U.returned++[(st,s)] } (N+9)/\fK W w' B' B':=λW hW =>
   hW.ND (st,s) (ir ⟨by show _<=st;omega,by show st<=_;omega⟩ ⟨by show _<=s;omega,by show s<=_;omega⟩) TX.O hlen
  have Ub:=au Ua;clear Ua;obtain⟨x1,x2,hx⟩:∃x1 x2:Int,ah.getD (0,0)=(x1,x2):=⟨_,_,rfl⟩;obtain⟨ok,P⟩:=dH ah.isSome;rw[hx,<-P]at Uu;obtain⟨Uw,Tq⟩:=bu hx P;clear hx P;go_upto_region 24 with(go_at_call 119;refine(Uu.O _).mono ?_;rintro e w9 ⟨rfl,b9⟩;have TH:=au b9;clear b9)
  obtain⟨Vs,Ux⟩:=dH w9.heap.size;rw[<-Ux];have al:aC wc (w9.alloc (.cells #[J V x1,J V x2] 40)):=TH.O.alloc TH.O.size _;refine aW (λY=>aK Y Vs 40 #[J V x1,J V x2]/\aL Y B' U (N+9)/\fK w Y B B'/\aK Y r4 40 #[J V st,J V s]) ⟨by simpa using aK.newAt _ _ _ _ Ux,H.O.below al,TG.O.trans (fK.fN B' al),HB.O.kept al⟩ ?_;clear Ux al H TG HB TH Uu c8 k0 k1 w9;rintro Y ⟨Uy,hR,m,b4⟩;have c8:=hR.cw.cell 8;have k0:=b4.cell 0;have k1:=b4.cell 1;have z0:=Uy.cell 0;have z1:=Uy.cell 1;simp at c8 k0 k1 z0 z1;rw[hg]at c8;have hD:=hR.below (eW (ao Y.drew.heap.size Y.drew));obtain⟨VB,H,HS⟩:=bU (show aL Y.drew B' U (N+9)/\fK w Y.drew B B' from⟨hD,m.trans (fK.fN B' (eW (ao Y.drew.heap.size Y.drew)))⟩) hR m;clear hR m Uy b4;cases ok with
  |false =>
   have e0:ah=I:=by have:=Tq.O;cases ah<;>simp at this ⊢
   have hb:=G.O _ (TV.O.1 e0);rw[if_pos rfl]at hb;have HE:=au hb;clear hb e0 G TV Tq Uw Uv hD;go_quiet (fail);obtain⟨wn,Vc,TI,TJ⟩:=Ub.O _ (H.O.below (cd (ao Y.heap.size Y) (nq+1)));obtain⟨TM,TN⟩:=bu TI (HS.O.trans ((fK.fN B' (cd (ao Y.heap.size Y) (nq+1))).trans TJ));clear TI TJ;go_wp2_with fail;go_region;all_goals
    go_wp2_with fail;first
     |refine dq (bT results65 _ _ _) rfl ?_
     |refine ax (v:=aB #[]) (by simp[aV,results65,go_sem]) rfl ?_
    have e:=HE.O;first|exact⟨B',rfl,by rw[e];exact TM.O,TN.O⟩|exact⟨rfl,B',by rw[e];exact TM.O,TN.O⟩
  |true =>
   have e0:ah=Z (x1,x2):=by
    have h1:=Tq.O;have h2:=Uw.O;cases ah with
    |none=>simp at h1
    |some y=>simp at h2;rw[h2]
   have hb:=G.O _ (TV.O.2 _ e0);have P:=Uv.O _ e0;have F:∀n,(cD 51 (.map (Z B'.ret)) (cg #[J V x1,J V x2]) false).run af (Y.drewN n)=.ok (ai (decide ((x1,x2)∈U.returned))) (Y.drewN n):=λn=>(H.O.below (cd (ao Y.heap.size Y) n)).Eb (x1,x2) P;generalize decide ((x1,x2)∈U.returned)=bb at hb F;have HE:=au hb;clear hb e0 G TV Tq Uw Uv hD P;cases bb with
   |true =>
    go_quiet (fail);obtain⟨wn,Vc,TI,TJ⟩:=Ub.O _ (H.O.below (cd (ao Y.heap.size Y) (nq+1)));obtain⟨TM,TN⟩:=bu TI (HS.O.trans ((fK.fN B' (cd (ao Y.heap.size Y) (nq+1))).trans TJ));clear TI TJ;go_wp2_with fail;go_region;all_goals
     go_wp2_with fail;first
      |refine dq (bT results65 _ _ _) rfl ?_
      |refine ax (v:=aB #[]) (by simp[aV,results65,go_sem]) rfl ?_
     have e:=HE.O;first|exact⟨B',rfl,by rw[e];exact TM.O,TN.O⟩|exact⟨rfl,B',by rw[e];exact TM.O,TN.O⟩
   |false =>
    go_quiet (fail);go_wp2_with fail;first
     |refine dq (bT results65 _ _ _) rfl ?_
     |refine ax (v:=aB #[]) (by simp[aV,results65,go_sem]) rfl ?_
    have T:=HS.O.trans (fK.fN B' (cd (ao Y.heap.size Y) nq));have K:=H.O.below (cd (ao Y.heap.size Y) nq);have e:=HE.O;rw[if_neg dt]at e;first|exact⟨B',rfl,by rw[e];exact K,T⟩|exact⟨rfl,B',by rw[e];exact K,T⟩
end
end
abbrev Qc(id:Int)(aY:Int)(key:Bool)(p:M.cR)(s e y:Sl)(first:Bool):Array Value:=#[J V id,J V aY,ai key,ai p.dR,J bI p.type,J aN p.dQ,J ar p.aU,J ar p.bJ,ae s.a s.n s.c,ai p.has,J aN p.bV,ae e.a e.n e.c,ae y.a y.n y.c,ai first]
def IL(B:LB)(aG:Nat)(aT:Int)(N:Nat)(w:aw)(res:M.dP×Option Nat)(r:Ending)(w':aw):Prop:=
 ∃(a:Int) (b:Bool),r=av (aB #[J V a,ai b,ai true])/\og res.2 a b/\ca w' B aG aT res.1 N/\Fr B.own w w'
def Ki(p:M.cR):(M.ic p).1.length<=200:=by
 unfold M.ic;split
 ·rename_i h;rw[M.C1];exact(M.DA h).2.2.2.2
 ·simp
abbrev Cp(q:M.Qd):List Value:=[J ar q.bJ,J aN q.dQ,J ar q.aU,ai q.any,J ar q.fH,J ar q.shift]
abbrev wG(p:M.cR):List Value:=[ai p.dR,J bI p.type,J aN p.dQ,J ar p.aU,J ar p.bJ]
def CM(B:LB)(aG:Nat)(aT:Int)(l:M.dP)(N:Nat)(w:aw)(h:ca w B aG aT l N)(x:M.Item)(first:Bool)(r:List (M.Item×Bool))(hc:l.bF=(x,first)::r) :
  aF af 129 #[aq (Z ⟨B.g,0,I⟩)] w (IL B aG aT N w (l.eO aG)):=by
 have K:=Bo B aG aT l N w h;have TE:decide (0<l.bF.length)=true:=by rw[hc];simp
 rw[TE]at K;obtain⟨s',j,L⟩:∃s' j,M.dO l.mv x.bW first=(s',j):=⟨_,_,rfl⟩
 have Tn:l.eO aG=({ l with bF:=r,mv:=s',ready:=M.push aG l.ready (x.id,(M.ic j).1) },if l.ready.length=aG then l.ready.head?.map (·.1) else I):=by
  unfold M.dP.eO;rw[hc];simp only[L]
 obtain⟨res,Tt⟩:=dH (l.eO aG);rw[<-Tt];have To:=au (Tt.trans Tn);clear Tt;have U:=λW=>Jg l.mv x.bW first W
 rw[L]at U;simp only at U;have Tf:s'=(M.dO l.mv x.bW first).1:=by rw[L]
 have Tu:j=(M.dO l.mv x.bW first).2:=by rw[L]
 have hN:Nb aT { l with bF:=r,mv:=s' }:=by
  have p:=h.et;refine⟨?_,?_,?_,p.row,p.less,p.aT⟩
  ·show 0<=s'.bJ/\s'.bJ<=4294967295;rw[Tf];exact p.src
  ·show 0<=s'.dQ/\s'.dQ<=65535;rw[Tf];show 0<=(l.mv.dQ+1) % 65536/\(l.mv.dQ+1) % 65536<=65535;omega
  ·show 0<=s'.aU/\s'.aU<=4294967295;rw[Tf];exact p.aU
 have TF:∀(W:aw) (s e y:Sl),iT W x.bW s e y->iT W j s e y:=λW s e y q=>by
  have p:=h.et;rw[Tu];exact⟨q.s,q.e,q.y,q.type,p.dQ,by show 0<=(x.bW.aU+_) % 4294967296/\(x.bW.aU+_) % 4294967296<=4294967295;omega,p.src,q.bV,q.small⟩
 have TG:j.has=x.bW.has/\j.bV=x.bW.bV:=by rw[Tu];exact⟨rfl,rfl⟩
 have H:=au h;have Tp:=au K;have Ub:=au U;have HC:=au hc;have HN:=au hN;have TH:=au TF;have Tg:=au TG;have Tq:=Ki j;have TI:=au Tq;clear h K U Tn hc L TE Tf Tu hN TF Tq TG;go_enter func129,ntmps129;go_upto_region 4 with(go_big_may;first
  |(go_at_call 111;refine Tp.O.mono ?_;rintro e w1 ⟨rfl,b1⟩;have L1:=H.O.below b1;have c1:=L1.cw.cell 2;simp at c1;have TJ:pw w1 B.g2 B.p2 aG ((x,first)::r):=(by have p:=L1.bF;rw[HC.O]at p;exact p);have TM:=au TJ;have TN:=au L1;have TO:=au b1;clear L1 b1 TJ)
  |(go_at_call 191;refine(EK TM.O).mono ?_;rintro e w2 ⟨s,ex,y,rfl,P,hi,hI,f⟩;have L2:=TN.O.uB f hI;have F2:Fr B.own w w2:=(Fr.bn TO.O).step f (λi q=>.inl (ca.ky B i q));have TP:=au L2;have Tv:=au F2;have TQ:=au P;have Uc:=au hi;clear L2 F2 P hI f hi))
 obtain⟨r5,h5⟩:=dH w2.heap.size;rw[<-h5];refine aW (λX=>aK X r5 229 (Qc x.id x.aY x.key x.bW s ex y first)/\ca X B aG aT { l with bF:=r } N/\iT X x.bW s ex y/\Fr B.own w X) ⟨aK.newAt _ _ _ _ h5,TP.O.below ((ao _ _).alloc (aj _) _),TQ.O.below ((ao _ _).alloc (aj _) _),Tv.O.alloc _⟩ ?_;have Uo:w.heap.size<=r5:=by have:=Tv.O.size;omega
 clear h5 TP TQ Tv TM TN TO c1;rintro X ⟨b5,d,P,hF⟩;have S:=b5.cell 3;have T:=b5.cell 4;have k5:=b5.cell 5;have k6:=b5.cell 6;have k7:=b5.cell 7;have k8:=b5.cell 8;have k9:=b5.cell 9;have Tw:=b5.cell 10;have TR:=b5.cell 11;have TS:=b5.cell 12;simp at S T k5 k6 k7 k8 k9 Tw TR TS;have l5:=b5.lt;obtain⟨k,C,HP,D⟩:=cA b5 d P hF;clear b5 d P hF H Tp;go_upto_region 5 with fail;obtain⟨r7,h7⟩:=dH X.heap.size;rw[<-h7];refine aW (λY=>aK Y r7 76 (uA x.bW s ex y)/\aK Y r5 229 (Qc x.id x.aY x.key x.bW s ex y first)/\ca Y B aG aT { l with bF:=r } N/\iT Y x.bW s ex y/\Fr B.own w Y) ⟨aK.newAt _ _ _ _ h7,k.O.alloc _,C.O.below ((ao _ _).alloc (aj _) _),HP.O.below ((ao _ _).alloc (aj _) _),D.O.alloc _⟩ ?_;have TT:w.heap.size<=r7:=by have:=D.O.size;omega
 clear h7 k C HP D S T k5 k6 k7 k8 k9 Tw TR TS l5 X;rintro X ⟨b7,b5,d,P,hF⟩;have c7:=d.cw.cell 7;have f7:=d.cw.frozen 7;have c8:=d.cw.cell 8;have f8:=d.cw.frozen 8;have c9:=d.cw.cell 9;have f9:=d.cw.frozen 9;have Ti:=d.cw.cell 10;have f10:=d.cw.frozen 10;have Tj:=d.cw.cell 11;have f11:=d.cw.frozen 11;have Tk:=d.cw.cell 12;have f12:=d.cw.frozen 12;have E:=b7.cell 0;have o0:=b7.frozen 0;have k1:=b7.cell 1;have o1:=b7.frozen 1;have k2:=b7.cell 2;have o2:=b7.frozen 2;have S:=b7.cell 3;have o3:=b7.frozen 3;have T:=b7.cell 4;have o4:=b7.frozen 4;have PB:=b5.cell 13;simp at c7 c8 c9 Ti Tj Tk E k1 k2 S T PB;have n7:=aK.jf b7 d.cw aR;have n5:=aK.jf b5 d.cw aR;have Tx:=aK.jf b5 b7 aR;have TV:∀i,B.own i->i≠r7:=λi hi e=>by
  obtain⟨t,cs,ht,hB⟩:=d.typed i hi;rw[e]at hB;exact aK.jf hB b7 (λq=>by subst q;exact absurd ht aR) rfl
 obtain⟨Ty,Tz,k,C,HP,D⟩:=lH TV b7 b5 d P hF;clear b7 b5 d P hF TV;go_cut [] (λwc=>aK wc r7 76 (uA j s ex y)/\aK wc r5 229 (Qc x.id x.aY x.key x.bW s ex y first)/\ca wc B aG aT { l with bF:=r,mv:=s' } N/\iT wc j s ex y/\Fr B.own w wc);case first =>
  go_region_with (go_at_call 192;refine(Ub.O _).mono ?_;rintro e G ⟨rfl,b9⟩;have bx:aC X G:=(by with_reducible exact eW b9);have A:=Tz.O.kept bx;have m:=C.O.below bx;have c7:=m.cw.cell 7;have f7:=m.cw.frozen 7;have c8:=m.cw.cell 8;have f8:=m.cw.frozen 8;have c9:=m.cw.cell 9;have f9:=m.cw.frozen 9;have Ti:=m.cw.cell 10;have f10:=m.cw.frozen 10;have Tj:=m.cw.cell 11;have f11:=m.cw.frozen 11;have Tk:=m.cw.cell 12;have f12:=m.cw.frozen 12;have E:=A.cell 0;have o0:=A.frozen 0;have k1:=A.cell 1;have o1:=A.frozen 1;have k2:=A.cell 2;have o2:=A.frozen 2;have S:=A.cell 3;have o3:=A.frozen 3;have T:=A.cell 4;have o4:=A.frozen 4;simp at c7 c8 c9 Ti Tj Tk E k1 k2 S T;have Q:=au bx;clear bx b9 A m);all_goals
   go_wp2_with fail;go_meet;have A:=Tz.O.kept Q.O;have m:=C.O.below Q.O;have F9:=D.O.then Q.O;have P9:=HP.O.below Q.O;have B5:=k.O.kept Q.O;have key:∀Y,Fr (One B.g) G Y->aK Y B.g 133 (ph (nP B aT { l with bF:=r }) 7 (Cp s'))->∀o,Fr (One r7) Y o->aK o r7 76 (ph (uA x.bW s ex y) 0 (wG j))->(aK o r7 76 (uA j s ex y)/\aK o r5 229 (Qc x.id x.aY x.key x.bW s ex y first)/\ca o B aG aT { l with bF:=r,mv:=s' } N/\iT o j s ex y/\Fr B.own w o):=by
    intro Y f1 bY o f2 bZ;have e1:ph (nP B aT { l with bF:=r }) 7 (Cp s')=nP B aT { l with bF:=r,mv:=s' }:=rfl;have e2:ph (uA x.bW s ex y) 0 (wG j)=uA j s ex y:=by
     show(#[_,_,_,_,_,_,ai x.bW.has,J aN x.bW.bV,_,_]:Array Value)=#[_,_,_,_,_,_,ai j.has,J aN j.bV,_,_];rw[Tg.O.1,Tg.O.2]
    rw[e1]at bY;rw[e2]at bZ;have L':=m.cells f1 bY rfl rfl rfl rfl HN.O;exact⟨bZ,(B5.dW f1.u n5).dW f2.u Tx,L'.fr f2 (λi hi q=>Ty.O i hi q),TH.O _ _ _ _ ((P9.rows f1.r).rows f2.r),(F9.step f1 (λi q=>.inl (.inl q))).step f2 (λi q=>.inr (by rw[show i=r7 from q];exact TT))⟩
   have S1:=Fr.im (F:=One B.g) aR aR (Cp s') 7 m.cw (.inl rfl) (Fr.refl (One B.g) G);have Z1:=aK.im (Cp s') 7 m.cw;have TW:aK (im G B.g 7 (Cp s')) r7 76 (uA x.bW s ex y):=A.dW S1.u n7;have S2:=Fr.im (F:=One r7) aR aR (wG j) 0 TW (.inl rfl) (Fr.refl (One r7) _);have Z2:=aK.im (wG j) 0 TW;have TX:∀Y,Fr (One r7) G Y->aK Y r7 76 (ph (uA x.bW s ex y) 0 (wG j))->∀o,Fr (One B.g) Y o->aK o B.g 133 (ph (nP B aT { l with bF:=r }) 7 (Cp s'))->(aK o r7 76 (uA j s ex y)/\aK o r5 229 (Qc x.id x.aY x.key x.bW s ex y first)/\ca o B aG aT { l with bF:=r,mv:=s' } N/\iT o j s ex y/\Fr B.own w o):=by
    intro Y f1 bY o f2 bZ;have e1:ph (nP B aT { l with bF:=r }) 7 (Cp s')=nP B aT { l with bF:=r,mv:=s' }:=rfl;have e2:ph (uA x.bW s ex y) 0 (wG j)=uA j s ex y:=by
     show(#[_,_,_,_,_,_,ai x.bW.has,J aN x.bW.bV,_,_]:Array Value)=#[_,_,_,_,_,_,ai j.has,J aN j.bV,_,_];rw[Tg.O.1,Tg.O.2]
    rw[e1]at bZ;rw[e2]at bY;have L':=(m.fr f1 (λi hi q=>Ty.O i hi q)).cells f2 bZ rfl rfl rfl rfl HN.O;exact⟨bY.dW f2.u n7,(B5.dW f1.u Tx).dW f2.u n5,L',TH.O _ _ _ _ ((P9.rows f1.r).rows f2.r),(F9.step f1 (λi q=>.inr (by rw[show i=r7 from q];exact TT))).step f2 (λi q=>.inl (.inl q))⟩
   have T1:=Fr.im (F:=One r7) aR aR (wG j) 0 A (.inl rfl) (Fr.refl (One r7) G);have Y1:=aK.im (wG j) 0 A;have TY:aK (im G r7 0 (wG j)) B.g 133 (nP B aT { l with bF:=r }):=m.cw.dW T1.u (λq=>n7 (show B.g=r7 from q).symm);have T2:=Fr.im (F:=One B.g) aR aR (Cp s') 7 TY (.inl rfl) (Fr.refl (One B.g) _);have Y2:=aK.im (Cp s') 7 TY;have K1:=key _ S1 Z1 _ S2 Z2;have K2:=TX _ T1 Y1 _ T2 Y2;clear S1 Z1 S2 Z2 T1 Y1 T2 Y2;simp only[im,mh,cO]at K1 K2;first
    |(with_reducible exact K1)
    |(with_reducible exact K2)
 case rest =>
  obtain⟨b7,b5,d,P,hF⟩:=hcut;clear Tz k C HP D n7 n5 Tx Ty PB c7 c8 c9 Ti Tj Tk f7 f8 f9 f10 f11 f12 E k1 k2 S T o0 o1 o2 o3 o4 X;have E:=b7.cell 0;have k1:=b7.cell 1;have k2:=b7.cell 2;have S:=b7.cell 3;have T:=b7.cell 4;have k5:=b7.cell 5;have k6:=b7.cell 6;have k7:=b7.cell 7;have k8:=b7.cell 8;have k9:=b7.cell 9;simp at E k1 k2 S T k5 k6 k7 k8 k9;obtain⟨k,C,HP,D⟩:=cA b5 d P hF;clear b7 b5 d P hF;go_upto_region 7 with(go_big_may;go_at_call 193;refine(vw j s ex y wc HP.O).mono ?_;rintro e w4 ⟨⟨sl,rfl,hB⟩,b4⟩)
  have Ud:sl.n<=400:=by have a:=hB.tl.len;have b:=TI.O;omega
  refine aW (λY=>aK Y r5 229 (Qc x.id x.aY x.key x.bW s ex y first)/\ca Y B aG aT { l with bF:=r,mv:=s' } N/\sl.B Y (M.ic j).1/\Fr B.own w Y) ⟨k.O.kept b4,C.O.below b4,hB,D.O.then b4⟩ ?_;clear k C HP D hB b4 E k1 k2 S T k5 k6 k7 k8 k9 wc;rintro X ⟨b5,d,hB,hF⟩;have c3:=d.cw.cell 3;have E:=b5.cell 0;simp at c3 E;have Up:=b5.lt;have Uq:=d.cw.lt;have NG:Hd (¬jK B.g3 B.p3 B.g):=au ((d.MJ d.cw).2.2 aR aR);have N5:Hd (¬jK B.g3 B.p3 r5):=au ((d.MJ b5).2.2 aR aR);have Ue:Hd (¬One X.heap.size r5):=au (λq=>by have:r5=X.heap.size:=q;omega);have Uf:Hd (¬One X.heap.size B.g):=au (λq=>by have:B.g=X.heap.size:=q;omega);have Ug:Hd (¬jK B.g3 B.p3 X.heap.size):=au (by
   rintro(q|q)
   ·have:=d.lt _ (ca.DN B _ (.inl rfl));omega
   ·have:=d.lt _ (ca.DN B _ (.inr rfl));omega)
  have Ts:∀i,B.own i->i≠X.heap.size:=λi hi=>by have:=d.lt i hi;omega
  obtain⟨Uh,T8,k,C,T9,D⟩:=lH (λW (hW:pY W B.g3 B.p3 aG l.ready) (hs:sl.B W (M.ic j).1)=>Ju hW x.id sl (M.ic j).1 hs Ud Uc.O) Ts b5 d hB hF;clear b5 d hB hF Ts;go_cut [10,11,12] (λa b c wc=>∃(TA:Nat) (R:Int),a=aq (Z ⟨TA,0,I⟩)/\b=ai (decide (l.ready.length=aG))/\c=J V 0/\wc.cell? ⟨TA,0,I⟩=Z (J V R)/\(l.ready.length=aG->∃p,l.ready.head? = Z p/\R=(p.1:Int))/\ca wc B aG aT { l with bF:=r,mv:=s',ready:=M.push aG l.ready (x.id,(M.ic j).1) } N/\Fr B.own w wc);case first =>
   go_region_held3 (λW=>W.cell? ⟨B.g,3,I⟩=Z (aq (Z ⟨B.g3,0,I⟩))/\W.cell? ⟨r5,0,I⟩=Z (J V x.id)) (first|(with_reducible exact⟨cE c3,cE E⟩)|(with_reducible exact⟨cE (ea c3),cE (ea E)⟩)|(with_reducible exact⟨TC,TD⟩)|(with_reducible exact⟨ea TC,ea TD⟩)|(with_reducible exact⟨dD Tl.O Uf.O TC,dD Tl.O Ue.O TD⟩)) (first|(go_at_call 194;refine Calls.mono (Uh.O _ ?_ ?_) ?_;(first|(with_reducible exact(C.O.below (eW (ao _ _))).qT)|(with_reducible exact(C.O.below (ML (ao _ _))).qT));(first|(with_reducible exact T9.O.below (eW (ao _ _)))|(with_reducible exact T9.O.below (ML (ao _ _))));rintro rr G ⟨R,ob,rfl,hd,hI,f⟩;have f1:Fr (jK B.g3 B.p3) X G:=(by first|(with_reducible exact Eu f)|(with_reducible exact ON f));have TC:=dD f1 NG.O c3;have TD:=dD f1 N5.O E;have Tm:=au f1;have HI:=au hI;have Ua:=au hd;first|(have z7:aK G X.heap.size 80 #[J V 0,ae I 0 0]:=(by with_reducible exact OM f Ug.O);have q0:=z7.cell 0;have q1:=z7.cell 1;have p0:=z7.frozen 0;have p1:=z7.frozen 1;simp at q0 q1;have S7:=Fr.im (F:=One X.heap.size) aR aR (Jw R ob) 0 z7 (.inl rfl) (Fr.refl (One X.heap.size) G);have Z7:=aK.im (Jw R ob) 0 z7;simp only[im,mh,cO]at S7 Z7;have Tl:=au S7;have Ui:=au Z7;clear S7 Z7 z7 f f1 hI hd)|(clear f f1 hI hd)));all_goals
    go_wp2_with fail;go_meet;first
     | (with_reducible refine⟨G.heap.size,R,rfl,rfl,rfl,?_,Ua.O,?_,?_⟩
        ·rw[(aK.new G 80 _).cell 0];rfl
        ·exact(C.O.tP Tm.O HI.O).below ((ao _ _).alloc (aj _) _)
        ·exact(D.O.step Tm.O (λi hi=>.inl (ca.DN B i hi))).alloc _)
     | (with_reducible refine⟨X.heap.size,R,rfl,rfl,rfl,?_,Ua.O,?_,?_⟩
        ·rw[Ui.O.cell 0,uv _ _ _ _ (aj 2)];rfl
        ·exact(C.O.tP Tm.O HI.O).fr Tl.O (λi hi q=>T8.O i hi q)
        ·exact(D.O.step Tm.O (λi hi=>.inl (ca.DN B i hi))).step Tl.O (λi q=>.inr (by have h1:=D.O.size;have h2:i=X.heap.size:=q;omega)))
  case rest =>
   obtain⟨TA,R,rfl,rfl,rfl,Tw,hd,d,hF⟩:=hcut;have hD:og res.2 R (decide (l.ready.length=aG)):=by
    rw[To.O];unfold og;by_cases hc:l.ready.length=aG
    ·obtain⟨p,Uj,Uk⟩:=hd hc;simp[hc,Uj,Uk]
    ·simp[hc]
   obtain⟨Ul,Um,Un⟩:=bU hD d hF;clear hD hd d hF E c3;go_wp2_with fail;refine ax (v:=aB #[J V R,ai (decide (l.ready.length=aG)),ai true]) (by simp[aV,results129,go_sem]) rfl ?_;unfold IL;refine⟨R,_,rfl,Ul.O,?_,Un.O⟩;rw[To.O];exact Um.O
def ca.Jt{w w':aw}{B:LB}{aG N M':Nat}{aT:Int}{l:M.dP}{a:Value}{xs:List (Nat×M.cQ)}(h:ca w B aG aT l N)(f:Fr (λi=>i=B.g\/B.ov.ownBlock=Z i) w w')(b:aK w' B.g 133 (nP { B with ov:=a } aT l))
  (n:∃q,w'.ownsRow 0 80 2 a xs.length q.flatten/\Fit (mG w') xs q) (o:∀j,a.ownBlock=Z j->B.ov.ownBlock=Z j\/w.heap.size<=j) (p:xs.length<=M'):ca w' { B with ov:=a } aG aT { l with fF:=xs } M':=by
 obtain⟨s,r1,f1⟩:=h.cK;obtain⟨v,r2,f2⟩:=h.bF;obtain⟨y,d,f3⟩:=h.ready;obtain⟨C,r4,f4⟩:=h.fF;obtain⟨_,_,b1,b2⟩:=r1.cw;obtain⟨_,_,c1,c2⟩:=r2.cw;obtain⟨_,_,a1,a2⟩:=d.cw;have m:=h.cw;have no:∀{i:Nat} {t:TypeId} {cs:Array Value},aK w i t cs->t≠133->t≠80->¬(i=B.g\/B.ov.ownBlock=Z i):=λb n1 A=>by
  rintro(e|e)
  ·exact aK.jf b m n1 e
  ·exact Out.DX h b A e
 refine⟨b,⟨s,r1.dW f.u (no b1 aR aR) (no b2 aR aR),f1.mono λx c k=>k.rows f.r⟩,⟨v,r2.dW f.u (no c1 aR aR) (no c2 aR aR),f2.mono λx c k=>k.rows f.r⟩,⟨y,d.dW f.u (no a1 aR aR) ?_,f3.mono λx c k=>k.rows f.r⟩,n,?_,⟨h.et.src,h.et.dQ,h.et.aU,h.et.row,h.et.less,h.et.aT⟩,p⟩
 ·rintro(e|e)
  ·exact aK.jf a2 m aR e
  ·exact h.ne e
 ·intro e;rcases o _ e with q|q
  ·exact h.ne q
  ·have h3:=a2.lt;have D:w.heap.size<=B.p3:=q;omega
def Ol{X w5:aw}{n:Nat}{v:Value}{xs:List Value}{o:Obj}(own:X.ownsRow 0 80 2 v n xs)(g:(X.drew.alloc o).grownBy w5 v.ownBlock):Fr (λi=>v.ownBlock=Z i) X w5:=
 ((Fr.refl _ X).drew.alloc o).trans (Fr.nY (eT g) (ib ((show X.drew.ownsRow 0 80 2 v n xs from own).alloc o)) aR aR)
def M8{X:aw}{v v5:Value}{o:Obj}(n5:∀j,v5.ownBlock=Z j->v.ownBlock=Z j\/(X.drew.alloc o).heap.size<=j):∀j,v5.ownBlock=Z j->v.ownBlock=Z j\/X.heap.size<=j:=λj a=>(n5 j a).imp id (λq=>aP ((Fr.refl cr X).drew.alloc o).size q)
def zH(B:LB)(aG:Nat)(aT:Int)(l:M.dP)(N:Nat)(w:aw)(h:ca w B aG aT l N)(x:Nat×M.cQ)(r:List (Nat×M.cQ))(hc:l.ready=x::r)(hg:l.eG=false)(hN:N<=1000000) :
  aF af 113 #[aq (Z ⟨B.g,0,I⟩),ai true] w λrr w'=>∃K:Value,rr=av (aB #[J V x.1,J V 1,ai true])/\(∀j,K.ownBlock=Z j->B.ov.ownBlock=Z j\/w.heap.size<=j) /\
   ca w' { B with ov:=K } aG aT { l with ready:=r,fF:=l.fF++[x],row:=0 } (N+1)/\Fr B.own w w':=by
 obtain⟨i0,hi,Tq,Ts,Tt⟩:=info_parts wu;obtain⟨HI,TS,TT,TV⟩:=cA hi Tq Ts Tt;have t:=xu B aG aT l N w h;have Tu:decide (0<l.ready.length)=true:=by rw[hc];simp
 rw[Tu]at t;have Ti:=λW=>Ix aT l.row false true W h.et.row.1 (by have:=h.et.row;have:=h.et.aT;omega);simp only[wv,cB,if_false,if_true]at Ti;have hlen:=h.small;have H:=au h;have T:=au t;have TW:=au Ti;have HC:=au hc;have HG:=au hg;clear h t Ti hc Tu hi Tq Ts Tt hg;go_enter func113,ntmps113;go_upto_region 4 with(go_big_may;first
  |(go_at_call 111;refine T.O.mono ?_;rintro e w1 ⟨rfl,b1⟩;have L1:=H.O.below b1;have c1:=L1.cw.cell 3;simp at c1;have Tv:pY w1 B.g3 B.p3 aG (x::r):=(by have s:=L1.qT;rw[HC.O]at s;exact s);have Tw:=au Tv;have Tx:=au L1;have Tj:=au b1;clear L1 b1 Tv)
  |(go_at_call 164;refine(Bh Tw.O).mono ?_;rintro e w2 ⟨m,rfl,U,Ty,Tz,hI,b2⟩;have Tk:=au (Tx.O.below b2);have L:=au (Tj.O.trans (b2.mono Tj.O.size));have o:=au U;have TA:=au (And.intro Ty Tz);clear U Ty Tz hI b2))
 obtain⟨r7,h7⟩:=dH w2.heap.size;rw[<-h7];refine aW (λX=>aK X r7 80 #[J V x.1,ae m.a m.n m.c]/\ca X B aG aT l N/\m.B X x.2/\aC w X) ⟨aK.newAt _ _ _ _ h7,Tk.O.below ((ao _ _).alloc (aj _) _),o.O.below ((ao _ _).alloc (aj _) _),L.O.alloc L.O.size _⟩ ?_;have Uc:w.heap.size<=r7:=by have:=L.O.size;omega
 have TC:∀i,B.own i->i≠r7:=λi hi=>by have:=Tk.O.lt i hi;omega
 have C:=au TC;clear h7 Tk L o Tw Tx Tj c1 TC;rintro X ⟨b7,b,U,al⟩;have c3:=b.cw.cell 3;simp at c3;have hI:pY X B.g3 B.p3 aG (x::r):=by have s:=b.qT;rw[HC.O]at s;exact s
 obtain⟨p,D,o,HA,TD⟩:=gY b7 b U al hI;clear b7 b U al hI H T;go_upto_region 7 with(go_big_may;go_at_call 165;refine(LD TD.O).mono ?_;rintro e w3 ⟨Ud,rfl,_,_,_,TE,f⟩;have L3:=D.O.tP f TE;have TF:=au L3;have P:=au f;clear L3 f TE)
 have N7:¬jK B.g3 B.p3 r7:=by
  rintro(q|q)
  ·exact C.O _ (ca.DN B _ (.inl rfl)) q.symm
  ·exact C.O _ (ca.DN B _ (.inr rfl)) q.symm
 refine aW (λY=>aK Y r7 80 #[J V x.1,ae m.a m.n m.c]/\ca Y B aG aT { l with ready:=r } N/\m.B Y x.2/\Fr B.own w Y) ⟨p.O.dW P.O.u N7,TF.O,o.O.rows (.inl rfl) P.O.r,(Fr.bn HA.O).step P.O (λi q=>.inl (ca.DN B i q))⟩ ?_;clear p D o HA TD TF P N7 c3 X;rintro X ⟨b7,b,U,hF⟩;obtain⟨q4,own,fit⟩:=b.fF;have own:X.ownsRow 0 80 2 B.ov l.fF.length q4.flatten:=own;have fit:Fit (mG X) l.fF q4:=fit;obtain⟨A,c,Q⟩:=bA own;have c0:=b.cw.cell 0;have f0:=b.cw.frozen 0;have k0:=b7.cell 0;have k1:=b7.cell 1;simp at c0 k0 k1;have Tf:∀i,B.ov.ownBlock=Z i->i≠B.g:=λi hi e=>Out.DX b b.cw aR (by rw[hi,e]);have Tg:∀i,B.ov.ownBlock=Z i->i≠r7:=λi hi=>C.O i (.inr (.inr (.inr (.inr hi))));have TG:r7≠B.g:=aK.jf b7 b.cw aR;have TH:=b.cw.lt;have TI:=b7.lt;obtain⟨p,D,o,HF,HO,TJ,Tl,TM⟩:=qh b7 b U hF own fit Tf Tg;clear b7 b U hF own fit Tf Tg;rw[Q]at c0;go_cut [] (λwc=>∃K:Value,(∀j,K.ownBlock=Z j->B.ov.ownBlock=Z j\/w.heap.size<=j)/\ca wc { B with ov:=K } aG aT { l with ready:=r,fF:=l.fF++[x] } (N+1)/\aK wc r7 80 #[J V x.1,ae m.a m.n m.c]/\Fr B.own w wc);case first =>
  go_region_law (refine lT _ rfl (.tmp 35) (.tmp 37) 63 rfl 0 80 i0 vh 2 32 underlying63 HI.O TS.O TT.O TV.O rfl aR (ae A l.fF.length c) l.fF.length q4.flatten rfl (by rw[<-Q];first|exact HO.O.alloc _|exact(show X.drew.ownsRow 0 80 2 B.ov l.fF.length q4.flatten from HO.O).alloc _) ⟨X.heap.size,0,I⟩ 1 1 (Jw x.1 m) rfl rfl (by first|exact fB X 80 _|exact fB X.drew 80 _) tk ui z (Nat.zero_le _) ?_;intro v5 w5 E g5 n5;rw[<-Q]at g5 n5;have f5:Fr (λi=>B.ov.ownBlock=Z i) X w5:=(by first|exact Ol HO.O g5|exact TN HO.O g5);have m5:∀j,v5.ownBlock=Z j->B.ov.ownBlock=Z j\/X.heap.size<=j:=(by first|exact M8 n5|exact Tp n5);have BG:=D.O.cw.dW f5.u (λq=>Tl.O _ q rfl);have e0:=BG.cell 0;have p0:=BG.frozen 0;simp at e0;have TX:=au f5;have Tm:=au m5;have TY:=au E;have Tn:=au BG;obtain⟨A8,c8,rfl⟩:=bA E;clear f5 m5 BG g5 n5 E);all_goals
   go_wp2_with fail;go_meet;have B6:aK (w5.setCell ⟨B.g,0,I⟩ (ae A8 (l.fF.length+1) c8)) B.g 133 (nP { B with ov:=ae A8 (l.fF.length+1) c8 } aT { l with ready:=r }):=by simpa using Tn.O.bC 0 (ae A8 (l.fF.length+1) c8)
   have F6:Fr (λi=>i=B.g\/B.ov.ownBlock=Z i) X (w5.setCell ⟨B.g,0,I⟩ (ae A8 (l.fF.length+1) c8)):=(TX.O.mono λi _ q=>.inr q).setCell Tn.O (.inl (.inl rfl)) aR aR 0 _;have fs:Fr (One B.g) w5 (w5.setCell ⟨B.g,0,I⟩ (ae A8 (l.fF.length+1) c8)):=(Fr.refl (One B.g) w5).setCell Tn.O (.inl rfl) aR aR 0 _;have O6:(w5.setCell ⟨B.g,0,I⟩ (ae A8 (l.fF.length+1) c8)).ownsRow 0 80 2 (ae A8 (l.fF.length+1) c8) (l.fF.length+1) (q4.flatten++Jw x.1 m):=
    du TY.O fs.u (λi hi q=>by
     rw[show i=B.g from q]at hi
     rcases Tm.O _ hi with s|s
     ·exact Tl.O _ s rfl
     ·omega)
   refine⟨ae A8 (l.fF.length+1) c8,λj hj=>?_,D.O.Jt F6 B6 ⟨q4++[Jw x.1 m],?_,?_⟩ Tm.O ?_,p.O.dW F6.u ?_,HF.O.step F6 ?_⟩
   ·rcases Tm.O j hj with s|s
    ·exact .inl s
    ·exact .inr (aP HF.O.size s)
   ·have s:=O6;simpa using s
   ·exact(TJ.O.mono λy d k=>k.rows F6.r).snoc ⟨m,rfl,o.O.rows (.inl rfl) F6.r,TA.O.1,TA.O.2⟩
   ·simp;omega
   ·rintro(q|q)
    ·exact TG q
    ·exact TM.O _ q rfl
   ·rintro i (q|q)
    ·exact .inl (.inl q)
    ·exact .inl (.inr (.inr (.inr (.inr q))))
 case rest =>
  obtain⟨K,hv,b,b7,hF⟩:=hcut;clear c0 f0 k0 k1 p D HF HO TJ Tl TM TG TH TI o Q;have k0:=b7.cell 0;have TO:=b.cw.cell 13;have TP:=b.cw.cell 14;have To:=b.cw.cell 15;have TQ:=HG.O;simp at k0 TO TP To;rw[TQ]at To;clear TQ;obtain⟨p,D,HF,HV⟩:=cA b7 b hF hv;clear b7 b hF hv;go_upto_region 10 with(go_big_may;go_at_call 166;refine(TW.O wc).mono ?_;rintro e w8 ⟨rfl,b8⟩)
  obtain⟨TR,xx⟩:=dH w8.heap.size;rw[<-xx];have R:aC wc (w8.alloc (.cells #[J V aT,J V 0,ai false] 131)):=b8.alloc b8.size _;refine aW (λY=>aK Y TR 131 #[J V aT,J V 0,ai false]/\aK Y r7 80 #[J V x.1,ae m.a m.n m.c]/\ca Y { B with ov:=K } aG aT { l with ready:=r,fF:=l.fF++[x] } (N+1)/\Fr B.own w Y) ⟨aK.newAt _ _ _ _ xx,p.O.kept R,D.O.below R,HF.O.then R⟩ ?_;clear xx b8 R p D HF k0 TO TP To wc;rintro Y ⟨G,b7,b,hF⟩;have k0:=b7.cell 0;have j0:=G.cell 0;have j1:=G.cell 1;have j2:=G.cell 2;have T8:=b.cw.cell 13;have T9:=b.cw.cell 14;have Ua:=b.cw.cell 15;have f13:=b.cw.frozen 13;have f14:=b.cw.frozen 14;have f15:=b.cw.frozen 15;simp at k0 j0 j1 j2 T8 T9 Ua;have n7:r7≠B.g:=aK.jf b7 b.cw aR;have Ue:TR≠B.g:=aK.jf G b.cw aR;have S:=Fr.im (F:=One B.g) aR aR [J V aT,J V 0,ai false] 13 b.cw (.inl rfl) (Fr.refl (One B.g) Y);have Ub:=aK.im [J V aT,J V 0,ai false] 13 b.cw;have e1:ph (nP { B with ov:=K } aT { l with ready:=r,fF:=l.fF++[x] }) 13 [J V aT,J V 0,ai false]=nP { B with ov:=K } aT { l with ready:=r,fF:=l.fF++[x],row:=0,eG:=false }:=rfl;rw[e1]at Ub;have L':=b.cells S Ub rfl rfl rfl rfl ⟨b.et.src,b.et.dQ,b.et.aU,⟨Int.le_refl 0,by have:=b.et.aT;show(0:Int)<=aT;omega⟩,λ_=>by have:=b.et.aT;show(0:Int)<aT;omega,b.et.aT⟩;have F':=hF.step S (λi q=>.inl (.inl q));simp only[im,mh]at L' F';obtain⟨D,HF⟩:=bu L' F';clear S Ub e1 L' F' b hF G b7;go_wp2_with fail;refine ax (v:=aB #[J V x.1,J V 1,ai true]) (by simp[aV,results113,go_sem]) rfl ⟨rfl,K,HV.O,?_,HF.O⟩;have s:=D.O;have e:({ l with ready:=r,fF:=l.fF++[x],row:=0 }:M.dP)={ l with ready:=r,fF:=l.fF++[x],row:=0,eG:=false }:=by simp[HG.O]
  rw[e];exact s
def IG(k:Int)(l:M.dP):M.dP:=if k=1 then l else if k=2 then { l with cK:=[] } else if k=3 then { l with cK:=[],bF:=[] } else { l with cK:=[],bF:=[],ready:=[] }
def Ax(B:LB)(aG:Nat)(aT:Int)(l:M.dP)(N:Nat)(w:aw)(h:ca w B aG aT l N)(x:Nat×M.cQ)(r:List (Nat×M.cQ))(hc:l.ready=x::r)(hg:l.eG=false) :
  aF af 113 #[aq (Z ⟨B.g,0,I⟩),ai false] w λrr w'=>rr=av (aB #[J V x.1,J V (if l.row+1=aT then 7 else 0),ai true]) /\
   ca w' B aG aT (if l.row+1=aT then { l with row:=l.row+1,eG:=true,cK:=[],bF:=[],ready:=[] } else { l with row:=l.row+1 }) N/\Fr B.own w w':=by
 have t:=xu B aG aT l N w h;have Tn:decide (0<l.ready.length)=true:=by rw[hc];simp
 rw[Tn]at t;have K:=λW=>Ix aT l.row false false W h.et.row.1 (by have:=h.et.row;have:=h.et.aT;omega);simp only[wv,cB,if_false]at K;have TN:=h.et.row;have TC:=h.et.less hg;have TD:=h.et.aT;have H:=au h;have Q:=au t;have HC:=au hc;have HG:=au hg;clear h t hc Tn hg;generalize R:(if l.row+1=aT then(7:Int) else 0)=sJ;generalize f:(if l.row+1=aT then({ l with row:=l.row+1,eG:=true,cK:=[],bF:=[],ready:=[] }:M.dP) else { l with row:=l.row+1 })=l2;have HQ:=au R;have To:=au f;clear R f;obtain⟨L,Tf⟩:=dH (decide (l.row+1=aT));rw[<-Tf]at K;have TE:=au K;have Tg:=au Tf;clear K Tf;go_enter func113,ntmps113;go_upto_region 9 with(go_big_may;first
  |(go_at_call 111;refine Q.O.mono ?_;rintro e w1 ⟨rfl,b1⟩;have L1:=H.O.below b1;have c1:=L1.cw.cell 3;simp at c1;have Tp:pY w1 B.g3 B.p3 aG (x::r):=(by have TO:=L1.qT;rw[HC.O]at TO;exact TO);have Tq:=au Tp;have Ts:=au L1;have Ti:=au b1;clear L1 b1 Tp)
  |(go_at_call 164;refine(Bh Tq.O).mono ?_;rintro e w2 ⟨o,rfl,hB,TF,TG,hI,b2⟩;have Tj:=au (Ts.O.below b2);have Tk:=au (Ti.O.trans (b2.mono Ti.O.size));clear hB TF TG hI b2))
 obtain⟨r7,h7⟩:=dH w2.heap.size;rw[<-h7];refine aW (λX=>aK X r7 80 #[J V x.1,ae o.a o.n o.c]/\ca X B aG aT l N/\aC w X) ⟨aK.newAt _ _ _ _ h7,Tj.O.below ((ao _ _).alloc (aj _) _),Tk.O.alloc Tk.O.size _⟩ ?_;have Tt:∀i,B.own i->i≠r7:=λi hi=>by have:=Tj.O.lt i hi;omega
 have y:=au Tt;clear h7 Tj Tk Tq Ts Ti c1 Tt Q H;rintro wc ⟨b7,b,al⟩;have Tu:=b.cw.cell 13;have Tv:=b.cw.cell 14;have Tl:=b.cw.cell 15;have Tw:=HG.O;simp at Tu Tv Tl;rw[Tw]at Tl;clear Tw;obtain⟨d,p,HA⟩:=bU b7 b al;clear b7 b al;go_upto_region 10 with(go_big_may;go_at_call 166;refine(TE.O wc).mono ?_;rintro e w8 ⟨rfl,b8⟩)
 obtain⟨Tx,xx⟩:=dH w8.heap.size;rw[<-xx];have P:aC wc (w8.alloc (.cells #[J V aT,J V (l.row+1),ai L] 131)):=b8.alloc b8.size _;refine aW (λY=>aK Y Tx 131 #[J V aT,J V (l.row+1),ai L]/\aK Y r7 80 #[J V x.1,ae o.a o.n o.c]/\ca Y B aG aT l N/\aC w Y) ⟨aK.newAt _ _ _ _ xx,d.O.kept P,p.O.below P,HA.O.trans (P.mono HA.O.size)⟩ ?_;clear xx b8 P d p HA Tu Tv Tl wc;rintro Y ⟨A,b7,b,al⟩;have k0:=b7.cell 0;have j0:=A.cell 0;have j1:=A.cell 1;have j2:=A.cell 2;have Ty:=b.cw.cell 13;have Tz:=b.cw.cell 14;have TA:=b.cw.cell 15;have f13:=b.cw.frozen 13;have f14:=b.cw.frozen 14;have f15:=b.cw.frozen 15;simp at k0 j0 j1 j2 Ty Tz TA;have n7:r7≠B.g:=aK.jf b7 b.cw aR;have TH:Tx≠B.g:=aK.jf A b.cw aR;have S:=Fr.im (F:=One B.g) aR aR [J V aT,J V (l.row+1),ai L] 13 b.cw (.inl rfl) (Fr.refl (One B.g) Y);have TI:=aK.im [J V aT,J V (l.row+1),ai L] 13 b.cw;have e1:ph (nP B aT l) 13 [J V aT,J V (l.row+1),ai L]=nP B aT { l with row:=l.row+1,eG:=L }:=rfl;rw[e1]at TI;have L':=b.cells S TI rfl rfl rfl rfl ⟨b.et.src,b.et.dQ,b.et.aU,⟨by show 0<=l.row+1;omega,by show l.row+1<=aT;omega⟩,λq=>by
  have q:L=false:=q
  rw[Tg.O]at q
  have:=of_decide_eq_false q
  show l.row+1<aT;omega,b.et.aT⟩
 have F':=(Fr.bn (F:=B.own) al).step S (λi q=>.inl (.inl q));have Tm:=b7.dW S.u n7;simp only[im,mh]at L' F' Tm;obtain⟨p,s,d⟩:=bU L' F' Tm;clear S TI e1 L' F' b A b7 Tm al;go_upto_region 11 with fail;refine aW (λY=>aK Y r7 80 #[J V x.1,ae o.a o.n o.c]/\ca Y B aG aT { l with row:=l.row+1,eG:=L } N/\Fr B.own w Y) ⟨d.O,p.O,s.O⟩ ?_;clear d p s k0 j0 j1 j2 Ty Tz TA f13 f14 f15 n7 TH Y;rintro Y ⟨b7,b,hF⟩;obtain⟨d,p,s⟩:=bU b7 b hF;cases L
 ·have k0:=b7.cell 0;simp at k0;have TJ:¬(l.row+1=aT):=λe=>by have:=Tg.O;rw[decide_eq_true e]at this;cases this
  have R:=HQ.O;have f:=To.O;rw[if_neg TJ]at R f;subst R f;clear b7 b hF;go_wp2_with fail;refine ax (v:=aB #[J V x.1,J V 0,ai true]) (by simp[aV,results113,go_sem]) rfl ⟨rfl,?_,s.O⟩;have e:({ l with row:=l.row+1 }:M.dP)={ l with row:=l.row+1,eG:=false }:=by simp[HG.O]
  rw[e];exact p.O
 ·have heq:l.row+1=aT:=of_decide_eq_true Tg.O.symm;have R:=HQ.O;have f:=To.O;rw[if_pos heq]at R f;subst R f;clear heq;have st:∃k:Int,(J V 1)=J V k/\(1<=k/\k<=4)/\ca Y B aG aT (IG k { l with row:=l.row+1,eG:=true }) N/\Fr B.own w Y/\aK Y r7 80 #[J V x.1,ae o.a o.n o.c]:=⟨1,rfl,z,b,hF,b7⟩;have TM:=au st;clear b7 b hF st d p s;go_wp2_with fail;go_loopw [12] (λv wr=>∃k:Int,v=J V k/\(1<=k/\k<=4)/\ca wr B aG aT (IG k { l with row:=l.row+1,eG:=true }) N/\Fr B.own w wr/\aK wr r7 80 #[J V x.1,ae o.a o.n o.c]) (λv _=>(4-bS v).toNat);case atStart=>exact TM.O
  case round =>
   obtain⟨k,rfl,⟨TP,TQ⟩,b,hF,b7⟩:=hrel;rcases(z:k=1\/k=2\/k=3\/k=4) with rfl|rfl|rfl|rfl
   ·have D:=yi B aG aT _ N wr b;obtain⟨HD,s,d,p⟩:=cA D hF b7 b;clear D b hF b7;go_wp2_with (go_at_call 118;refine HD.O.mono ?_;rintro e w9 ⟨v,rfl,_,T,C⟩;have j:=s.O.step C (λi q=>.inl q);have U:=d.O.dW C.u (λq=>y.O _ q rfl);have E:=au T;have m:=au j;have G:=au U;clear T C j U);go_roundw;case rel=>exact⟨2,rfl,z,E.O,m.O,G.O⟩
    case measure=>simp[bS]
   ·have D:=yg B aG aT _ N wr b;obtain⟨HD,s,d,p⟩:=cA D hF b7 b;clear D b hF b7;go_wp2_with (go_at_call 118;refine HD.O.mono ?_;rintro e w9 ⟨v,rfl,_,T,C⟩;have j:=s.O.step C (λi q=>.inl q);have U:=d.O.dW C.u (λq=>y.O _ q rfl);have E:=au T;have m:=au j;have G:=au U;clear T C j U);go_roundw;case rel=>exact⟨3,rfl,z,E.O,m.O,G.O⟩
    case measure=>simp[bS]
   ·have D:=ye B aG aT _ N wr b;obtain⟨HD,s,d,p⟩:=cA D hF b7 b;clear D b hF b7;go_wp2_with (go_at_call 118;refine HD.O.mono ?_;rintro e w9 ⟨v,rfl,_,T,C⟩;have j:=s.O.step C (λi q=>.inl q);have U:=d.O.dW C.u (λq=>y.O _ q rfl);have E:=au T;have m:=au j;have G:=au U;clear T C j U);go_roundw;case rel=>exact⟨4,rfl,z,E.O,m.O,G.O⟩
    case measure=>simp[bS]
   ·have k0:=b7.cell 0;simp at k0;obtain⟨s,p⟩:=bu hF b;clear b hF b7;go_wp2_with fail;refine ax (v:=aB #[J V x.1,J V 7,ai true]) (by simp[aV,results113,go_sem]) rfl ⟨rfl,p.O,s.O⟩
end Go.Proofs.YtkfblammcilfhaaGreatDoor
