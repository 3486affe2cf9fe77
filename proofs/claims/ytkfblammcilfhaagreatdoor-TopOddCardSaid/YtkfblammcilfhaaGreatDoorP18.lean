import Derived.Test.YtkfblammcilfhaaGreatDoorP17
set_option linter.all false
set_option maxRecDepth 100000
set_option maxHeartbeats 100000000
open Go.ChangeShapes Go.WideShapes Go.ChangeAt Go.RowKit Go.Proofs.Tryz
open Nat renaming le_trans->aP,le_refl->aj,le_succ->cZ,zero_add->cO,lt_of_lt_of_le->iU
open List renaming getElem?_eq_some_iff->aS,take_of_length_le->dC,take_length->cT,getElem?_eq_getElem->ay,getElem_mem->dy,take_succ_eq_append_getElem->dK,any_eq_true->tw,mem_cons->fw,map_cons->eV,map_nil->jk,all_eq_true->iZ,not_mem_nil->tt
open Go.Proofs.Tryz renaming prog->af
open Go renaming World->aw,Calls->aF,info_parts->cY,wp_region_held_drew->fC,yieldsIf_load_mid->eS,wpAnyH_ready->cH,wpAnyH_done->gV,bodyPost_end->dq,results_none->bT,bodyPost_ret->ax,results_tmp2->ew,wpList_load_mid->gQ
open Go.RowKit.Below renaming refl->ao
open Go.Act renaming put->aA
open Go.AllReadyH renaming cons->bH,nil->cy
open Go.RowKit renaming intOf->bS
open Go.IntKind renaming i64->V,u32->ar,u16->aN
open Go.Value renaming slice->ae,int->J,bool->ai,pointer->aq,tuple->aB,agg->cg
open Bool renaming and_eq_true->cM
open Go.Lib renaming TabIs->qM,decDigits->iI
open Go.Ending renaming returned->av
open Option renaming none->I,some->Z
namespace Go.Proofs.YtkfblammcilfhaaGreatDoor
section
namespace M
structure lG(R:Room)(G:Int->ij)(n:Nat):Prop where
 inv:Inv R G n
 wf:Wf R
 back:R.returned.length<=n
def lG.more{R:Room}{G:Int->ij}{n m:Nat}(h:lG R G n)(k:n<=m):lG R G m:=⟨h.inv.more k,h.wf,aP h.back k⟩
def lG.act{R:Room}{G:Int->ij}{n:Nat}(h:lG R G n)(x:Act)(a:x.Ok)(b:(0<=x.s0/\x.s0<=4294967295)/\(0<=x.s1/\x.s1<=4294967295)/\0<=x.s2/\x.s2<=4294967295):lG (R.act x).1 (Ag R G x) (n+1):=
 ⟨h.inv.act x a,h.wf.act x a b,by have:(R.act x).1.returned.length<=R.returned.length+1:=Rg.act R x;have:=h.back;omega⟩
def lG.start(c:Ou)(a:1<=c.aG)(G:Int->ij):lG (.new c) G 0:=⟨Inv.start c a G,Wf.start c,Nat.zero_le _⟩
def lG.pick{R:Room}{G:Int->ij}{n:Nat}(h:lG R G n)(w:eK)(a:Bool):lG (R.pick w a).1 (uM R G w a) (n+1):=
 h.act ⟨1,0,0,0,[],w,a,0,0,0,0,0,0⟩ ⟨λ_ h=>(by cases h),dt,dt,dt⟩ dt
end M
variable {R:M.Room} {G:Int->M.ij} {n:Nat}
def Bs(h:M.lG R G n):np R where
 iJ:=h.inv.lu
 range:=h.wf.uf
 sub s x q r:=by
  have k:=h.wf.sub s x q r;have a:=h.wf.Pf _ (k 0 z z);exact⟨a.1,k⟩
def ta(h:M.lG R G n)(b:n<=1000):Hx R where
 tell:=Bs h
 kz s id q:=by
  obtain⟨a,x,_,c,_⟩:=h.inv.kz s id q;rw[<-h.inv.lu s,c];rfl
 held o st q y hy:=by
  obtain⟨a,d,_⟩:=((h.inv.held o st q).2 y hy).1;exact(aS.1 d).1
 back:=aP h.back b
 fresh s:=h.wf.vz s _ (aj _)
 Qt:=h.wf.st
 Qh:=h.wf.Pf
 eG s l q hr:=by
  cases hg:l.eG with
  |false=>rfl
  |true =>
   have e:=(h.inv.fo s l q).1.eG hg;unfold M.ids at e;simp at e;rw[e.2.2]at hr;simp at hr
def Ml(h:M.lG R G n)(o:M.bN):0<=(R.aQ o).getD 0/\(R.aQ o).getD 0<=4294967295:=by
 cases e:R.aQ o with
 |none=>simp
 |some v=>exact h.wf.I5 o v e
end
section
theorem Mv:(af.info? 94).map (λi=>(i.zero,i.size,i.bytes))=Z (Z (cg #[J V 0,J V 0,J V 0,ae I 0 0]),4,48):=cC
section
variable {B:RB} {R:M.Room} {N:Nat} {w w':aw} (h:aL w B R N)
include h
theorem aL.vr{b:Value}{a:M.Request}{q:List (List Value)}(f:Fr (λi=>B.rv.ownBlock=Z i\/i=B.g) w w')(own:w'.ownsRow 0 94 4 b (R.cj.length+1) q.flatten)(fit:Fit (tm w') (R.cj++[a]) q)
  (l:aK w' B.g 61 ((oS B R).setIfInBounds 15 b)) (c:∀j,b.ownBlock=Z j->B.rv.ownBlock=Z j\/w.heap.size<=j) :
  aL w' { B with rv:=b } { R with cj:=R.cj++[a] } (N+1)/\fK w w' B { B with rv:=b }:=by
 have hm:=h.mono (cZ N);refine hm.IW (λY=>Y=.aG\/Y=.cj) .cj (f.mono λi _ q=>?_) ?_ rfl ?_ ?_ { hm.et with cj:=by have:=h.et.cj;simp;omega }
 ·rcases q with q|q
  ·exact⟨.cj,.inr rfl,q⟩
  ·exact⟨.aG,.inl rfl,q⟩
 ·rintro Y (rfl|rfl)
  ·exact l
  ·exact⟨q,by simpa using own,fit⟩
 ·intro Y d k;cases Y with
  |aG=>exact absurd (.inl rfl) d
  |cj=>exact absurd (.inr rfl) d
  |_=>exact k
 ·intro Y i e;cases Y with
  |cj=>exact(c i e).imp id (λq=>⟨rfl,q⟩)
  |_=>exact .inl e
theorem Co(o:M.bN)(ho:Gi o)(hx:0<=(R.aQ o).getD 0/\(R.aQ o).getD 0<=4294967295)(hN:N<900000) :
  aF af 84 #[aq (Z ⟨B.g,0,I⟩),cg #[J V o.1,J V o.2]] w (kk B w (aB #[]) { R with cj:=R.cj++[⟨o,R.cJ,M.tU ((R.aQ o).getD 0)⟩] } (N+1)):=by
 have F:=λW (hW:aL W B R N)=>FJ B.t R.cW R.aQ R.bh N W (hW.part .table) o ho;obtain⟨x,SG⟩:=dH ((R.aQ o).getD 0);obtain⟨ok,SM⟩:=dH ((R.aQ o).isSome);rw[<-SG]at hx ⊢;rw[<-SG,<-SM]at F;obtain⟨eI,H0⟩:=bu F h;have SN:=h.lt;clear F h SG SM;go_enter func84,ntmps84;go_upto_region 1 with fail;obtain⟨U,e3⟩:=dH w.heap.size;rw[<-e3];have al:aC w (w.alloc (.cells #[J V o.1,J V o.2] 91)):=(ao _ w).alloc (aj _) _;have SO:∀i,B.all i->i<U:=λi hi=>by have:=SN i hi;omega
 have g3:w.heap.size<=U:=z;refine aW (λX=>aK X U 91 #[J V o.1,J V o.2]/\aL X B R N/\fK w X B B) ⟨aK.newAt _ _ _ _ e3,H0.O.below al,fK.fN B al⟩ ?_;clear al e3 H0 SN;rintro X ⟨b3,h,hS⟩;have k0:=b3.cell 0;have k1:=b3.cell 1;have SP:=h.cw.cell 11;simp at k0 k1 SP;obtain⟨HD,H,HS,y,SQ⟩:=gY (h.below (eW (ao X.drew.heap.size X.drew))) h hS b3 SO;clear h hS b3 SO;go_cut [4] (λv wc=>v=J ar x/\aC X wc);case first =>
  go_region_with (go_at_call 142;refine(eI.O _ HD.O).mono ?_;rintro e w4 ⟨rfl,b4⟩;have Td:=au b4;clear b4);all_goals
   go_wp2_with fail;go_meet;exact⟨rfl,eW Td.O⟩
 case rest =>
  obtain⟨rfl,bx⟩:=hcut;have SH:=au bx;clear bx k0 k1 SP HD eI;go_upto_region 3 with fail;obtain⟨r6,e6⟩:=dH wc.heap.size;rw[<-e6];have al:aC X (wc.alloc (.cells (zr x).toArray 277)):=SH.O.alloc SH.O.size _;refine aW (λY=>aK Y r6 277 (zr x).toArray/\aK Y U 91 #[J V o.1,J V o.2]/\aL Y B R N/\fK w Y B B) ⟨aK.newAt _ _ _ _ e6,y.O.kept al,H.O.below al,HS.O.trans (fK.fN B al)⟩ ?_;clear al e6 SH H HS y;rintro Y ⟨b6,b3,h,hS⟩;have y0:=b6.cell 0;have y1:=b6.cell 1;have y2:=b6.cell 2;have y3:=b6.cell 3;have y4:=b6.cell 4;simp at y0 y1 y2 y3 y4;obtain⟨H,HS,y⟩:=bU h hS b3;clear b6 b3 h hS;go_upto_region 4 with(go_at_call 143;refine(Cx x hx _ _ (aK.new Y 288 (tT x).toArray)).mono ?_;rintro e f ⟨⟨b,rfl,hs,h4⟩,b9⟩;have G:=au hs;have H4:=au h4;have d:=au b9;clear hs h4 b9)
  have bb:aC Y f:=((ao Y.heap.size Y).alloc (aj _) _).trans (d.O.mono dt);have HZ:=au (show aK f U 91 #[J V o.1,J V o.2]/\aL f B R N/\fK w f B B/\b.B f (wj x) from⟨y.O.kept bb,H.O.below bb,HS.O.trans (fK.fN B bb),G.O⟩);clear H HS y G d bb y0 y1 y2 y3 y4;obtain⟨i0,hi,SU,SV,SW⟩:=cY Mv;obtain⟨HI,SX,SY,SZ⟩:=cA hi SU SV SW;clear hi SU SV SW;obtain⟨b3,h,hS,Ta⟩:=HZ.O;obtain⟨qp,own,fit⟩:=(h.part .cj:∃q,f.ownsRow 0 94 4 B.rv R.cj.length q.flatten/\Fit (tm f) R.cj q);obtain⟨C,m14,SI⟩:=bA own;have c9:=h.cw.cell 9;have aI:=h.cw.cell 15;have f15:=h.cw.frozen 15;simp at c9 aI;rw[SI]at aI;have Ti:=h.et.cj;have Te:¬(B.rv.ownBlock=Z U\/U=B.g):=by
   rintro(q|q)
   ·have:=SQ.O U ⟨.cj,q⟩;omega
   ·have:=SQ.O U ⟨.aG,q⟩;omega
  obtain⟨y,HR,HS,G,HO,HF,L⟩:=lV b3 h hS Ta own fit SI;clear b3 h hS Ta own fit SI HZ;refine fC (S:=λW=>Fr (λi=>B.rv.ownBlock=Z i\/i=B.g) f.drew W/\W.cell? ⟨B.g,9,I⟩=Z (J V R.cJ)) cC (⟨Fr.refl _ _,c9⟩) (λA=>?_);refine fS 0 (aq (Z ⟨B.g,0,I⟩)) rfl A ?_;try simp only[aA,jY,jX,jW]
  refine fS 1 (aq (Z ⟨B.g,0,I⟩)) rfl A ?_;try simp only[aA,jY,jX,jW]
  refine fS 2 (aq (Z ⟨B.g,0,I⟩)) rfl A ?_;try simp only[aA,jY,jX,jW]
  refine fS 3 (aq (Z ⟨B.g,15,I⟩)) rfl A ?_;try simp only[aA,jY,jX,jW]
  refine Fj 5 _ rfl (eS jP 91 (.tmp 3) rfl U 0 rfl (#[J V o.1,J V o.2]:Array Value).toList _ (λW hW j v hv=>by rw[cO,(y.O.drew.dW hW.1.u Te).cell];simpa using hv) underlying91 rfl cC) A ?_;try simp only[aA,jY,jX,jW]
  refine fS 6 (aq (Z ⟨B.g,0,I⟩)) rfl A ?_;try simp only[aA,jY,jX,jW]
  refine fS 7 (aq (Z ⟨B.g,0,I⟩)) rfl A ?_;try simp only[aA,jY,jX,jW]
  refine fS 8 (aq (Z ⟨B.g,9,I⟩)) rfl A ?_;try simp only[aA,jY,jX,jW]
  refine fS 9 (J V R.cJ) rfl A ?_ (hy:=λW hW=>by have q:=hW.2;go_simp);try simp only[aA,jY,jX,jW]
  refine fS 10 (ae b.a b.n b.c) rfl A ?_;try simp only[aA,jY,jX,jW]
  refine fS 11 (cg #[J V o.1,J V o.2,J V R.cJ,ae b.a b.n b.c]) rfl A ?_;try simp only[aA,jY,jX,jW]
  have gX:∀D∈(#[J V o.1,J V o.2,J V R.cJ,ae b.a b.n b.c]:Array Value).toList,D.oneCell'=true:=by intro u hu;simp at hu;repeat (first|(subst hu;rfl)|(rcases hu with rfl|hu;rfl))
  have Tb:f.drew.cell? ⟨B.g,15,I⟩=Z (ae C R.cj.length m14):=aI;have Tg:(f.drew.alloc (.cells #[J V o.1,J V o.2,J V R.cJ,ae b.a b.n b.c] 94)).cell? ⟨B.g,15,I⟩=Z (ae C R.cj.length m14):=ea Tb;have Th:(f.alloc (.cells #[J V o.1,J V o.2,J V R.cJ,ae b.a b.n b.c] 94)).drew.cell? ⟨B.g,15,I⟩=Z (ae C R.cj.length m14):=cE (ea aI);have Tc:(f.drew.alloc (.cells #[J V o.1,J V o.2,J V R.cJ,ae b.a b.n b.c] 94)).ownsRow 0 94 4 (ae C R.cj.length m14) R.cj.length qp.flatten:=eH (gI (by rw[<-L.O];exact HO.O) (eW (ao _ _))) _;obtain⟨mK,E⟩:=bu gX Tc;clear gX Tc;refine cH (rs:=[4,12]) cC dt ?_;refine bH rfl (λK l=>?_) ?_
  ·skip;rw[if_pos jP];go_simp;refine l.out _ _ (A) (λdf=>?_);clear l K;try simp only[aA,jY,jX,jW]
   refine cH (rs:=[12]) cC dt ?_;refine bH rfl (λK l=>?_) cy;rw[if_pos jP];go_simp;refine l.out _ _ (⟨df.1.alloc _,ea df.2⟩) (λTf=>?_);clear l K;try simp only[aA,jY,jX,jW]
   refine cH (rs:=[13]) cC dt ?_;refine bH rfl (λK l=>?_) cy;refine lT _ jP (.tmp 31) (.tmp 39) 57 jP 0 94 i0 _ 4 48 underlying57 HI.O SX.O SY.O SZ.O rfl aR (ae C R.cj.length m14) R.cj.length qp.flatten jP E.O ⟨f.drew.heap.size,0,I⟩ 1 1 (#[J V o.1,J V o.2,J V R.cJ,ae b.a b.n b.c]:Array Value).toList jP rfl (fB f.drew 94 _) mK.O ui z dt ?_;intro v5 w5 m g5 p;obtain⟨A6,c6,rfl⟩:=bA m;have s:aK w5 B.g 61 (oS B R):=mQ E.O g5 aR _ _ ((HR.O.cw.drew).alloc _);have c5:=s.cell 15;have f5:=s.frozen 15;have d9:=s.cell 9;simp at c5 d9;have f9:Fr (λi=>B.rv.ownBlock=Z i\/i=B.g) f.drew w5:=((Fr.refl _ f.drew).alloc _).step (Fr.nY (eT g5) (ib E.O) aR aR) (λi q=>.inl (.inl (by rw[L.O];exact q)));obtain⟨SJ,d,P,SK⟩:=cA f9 s m p;clear s m g5 p;refine l.out _ _ ⟨f9,d9⟩ (λQ=>?_);clear l K f9;try simp only[aA,jY,jX,jW]
   refine fS 14 (aq (Z ⟨B.g,0,I⟩)) rfl Q ?_;try simp only[aA,jY,jX,jW]
   refine fS 15 (aq (Z ⟨B.g,15,I⟩)) rfl Q ?_;try simp only[aA,jY,jX,jW]
   refine cH (rs:=[16]) cC dt ?_;refine bH rfl (λK l=>?_) cy;rw[if_pos jP];go_simp;refine l.out _ _ (⟨SJ.O.setCell d.O (.inl (.inr rfl)) aR aR 15 _,by have D:=(d.O.bC 15 (ae A6 (R.cj.length+1) c6)).cell 9;simpa using D⟩) (λSL=>?_);clear l K;try simp only[aA,jY,jX,jW]
   refine gV cC ?_ _;go_wp2_with fail;have fX:Fr (λi=>B.rv.ownBlock=Z i\/i=B.g) f (w5.setCell ⟨B.g,15,I⟩ (ae A6 (R.cj.length+1) c6)):=((Fr.refl _ f).drew).trans SL.1;have T:=kJ P.O (ej P.O d.O aR) 15 (ae A6 (R.cj.length+1) c6);have D:=HR.O.vr (a:=⟨o,R.cJ,M.tU x⟩) (q:=qp++[(#[J V o.1,J V o.2,J V R.cJ,ae b.a b.n b.c]:Array Value).toList]) fX (by simpa using T) (Fit.snoc (HF.O.mono λx c k=>k.rows fX.r) ⟨b,wj x,rfl,G.O.rows (.inl rfl) fX.r,H4.O⟩) (d.O.bC 15 _) (λj hj=>(SK.O j hj).imp (λq=>by rw[L.O];exact q) (λq=>aP (by simp[World.drew]) q));have zs:=HS.O.trans D.2;first
    |refine dq (bT results84 _ _ _) rfl ?_
    |refine ax (v:=aB #[]) (by simp[results,results84,go_sem]) rfl ?_
   first|exact⟨_,rfl,D.1,zs⟩|exact⟨rfl,_,D.1,zs⟩
  ·refine bH rfl (λK l=>?_) cy;rw[if_pos jP];go_simp;refine l.out _ _ (⟨A.1.alloc _,ea A.2⟩) (λdf=>?_);clear l K;try simp only[aA,jY,jX,jW]
   refine cH (rs:=[4]) cC dt ?_;refine bH rfl (λK l=>?_) cy;rw[if_pos jP];go_simp;refine l.out _ _ (df) (λTf=>?_);clear l K;try simp only[aA,jY,jX,jW]
   refine cH (rs:=[13]) cC dt ?_;refine bH rfl (λK l=>?_) cy;refine lT _ jP (.tmp 31) (.tmp 39) 57 jP 0 94 i0 _ 4 48 underlying57 HI.O SX.O SY.O SZ.O rfl aR (ae C R.cj.length m14) R.cj.length qp.flatten jP E.O ⟨f.drew.heap.size,0,I⟩ 1 1 (#[J V o.1,J V o.2,J V R.cJ,ae b.a b.n b.c]:Array Value).toList jP rfl (fB f.drew 94 _) mK.O ui z dt ?_;intro v5 w5 m g5 p;obtain⟨A6,c6,rfl⟩:=bA m;have s:aK w5 B.g 61 (oS B R):=mQ E.O g5 aR _ _ ((HR.O.cw.drew).alloc _);have c5:=s.cell 15;have f5:=s.frozen 15;have d9:=s.cell 9;simp at c5 d9;have f9:Fr (λi=>B.rv.ownBlock=Z i\/i=B.g) f.drew w5:=((Fr.refl _ f.drew).alloc _).step (Fr.nY (eT g5) (ib E.O) aR aR) (λi q=>.inl (.inl (by rw[L.O];exact q)));obtain⟨SJ,d,P,SK⟩:=cA f9 s m p;clear s m g5 p;refine l.out _ _ ⟨f9,d9⟩ (λQ=>?_);clear l K f9;try simp only[aA,jY,jX,jW]
   refine fS 14 (aq (Z ⟨B.g,0,I⟩)) rfl Q ?_;try simp only[aA,jY,jX,jW]
   refine fS 15 (aq (Z ⟨B.g,15,I⟩)) rfl Q ?_;try simp only[aA,jY,jX,jW]
   refine cH (rs:=[16]) cC dt ?_;refine bH rfl (λK l=>?_) cy;rw[if_pos jP];go_simp;refine l.out _ _ (⟨SJ.O.setCell d.O (.inl (.inr rfl)) aR aR 15 _,by have D:=(d.O.bC 15 (ae A6 (R.cj.length+1) c6)).cell 9;simpa using D⟩) (λSL=>?_);clear l K;try simp only[aA,jY,jX,jW]
   refine gV cC ?_ _;go_wp2_with fail;have fX:Fr (λi=>B.rv.ownBlock=Z i\/i=B.g) f (w5.setCell ⟨B.g,15,I⟩ (ae A6 (R.cj.length+1) c6)):=((Fr.refl _ f).drew).trans SL.1;have T:=kJ P.O (ej P.O d.O aR) 15 (ae A6 (R.cj.length+1) c6);have D:=HR.O.vr (a:=⟨o,R.cJ,M.tU x⟩) (q:=qp++[(#[J V o.1,J V o.2,J V R.cJ,ae b.a b.n b.c]:Array Value).toList]) fX (by simpa using T) (Fit.snoc (HF.O.mono λx c k=>k.rows fX.r) ⟨b,wj x,rfl,G.O.rows (.inl rfl) fX.r,H4.O⟩) (d.O.bC 15 _) (λj hj=>(SK.O j hj).imp (λq=>by rw[L.O];exact q) (λq=>aP (by simp[World.drew]) q));have zs:=HS.O.trans D.2;first
    |refine dq (bT results84 _ _ _) rfl ?_
    |refine ax (v:=aB #[]) (by simp[results,results84,go_sem]) rfl ?_
   first|exact⟨_,rfl,D.1,zs⟩|exact⟨rfl,_,D.1,zs⟩
end
end
section
section
variable {B:RB} {R:M.Room} {N:Nat} {w:aw} (h:aL w B R N)
include h
theorem zk:aF af 28 #[aq (Z ⟨B.g,0,I⟩)] w λe w'=>e=av (ai R.ended)/\aC w w':=by
 have f:=h.cw.cell 7;have l:=h.cw.cell 8;simp at f l;have hm:gE KW w B.ret R.returned (λ_=>ai true):=h.part .ret;cases d:R.cN with
 |false =>
  have e:R.ended=false:=by unfold M.Room.ended;rw[d];rfl
  rw[e];rw[d]at f;clear h hm e;go_enter func28,ntmps28;go_wp2_with fail;go_ret;exact⟨rfl,ao _ _⟩
 |true =>
  have e:R.ended=decide (R.returned.length=R.dF.length):=by unfold M.Room.ended;rw[d];simp
  rw[e];rw[d]at f;have hlen:(Builtin.len_ #[51] 3 #[.map (Z B.ret)]).run af w=.ok (J V R.returned.length) w:=by
   obtain⟨D,h1,h2⟩:=hm;have j:=h1.len BZ 3;rw[h2.size]at j;exact j
  have n:=au (vY h);clear h hm e;go_enter func28,ntmps28;go_wp2_with (first|(go_at_call 74;refine n.O.mono ?_;rintro e w4 ⟨⟨A,m,c,rfl,o,p,a⟩,b4⟩;have b:=au b4;have q:=au a;clear b4 a));go_ret;have r:=q.O.1;by_cases k:R.returned.length=R.dF.length
  ·have i:((R.returned.length:Int)==(m:Int))=true:=dZ;exact⟨by rw[i,decide_eq_true k];rfl,b.O⟩
  ·have i:((R.returned.length:Int)==(m:Int))=false:=dZ;exact⟨by rw[i,decide_eq_false k];rfl,b.O⟩
end
end
def AT(R:M.Room)(o:M.bN)(h:R.az o=I):R.fg o=R:=by unfold M.Room.fg;rw[h]
def Ik(R:M.Room)(o:M.bN)(s:M.eu)(h:R.az o=Z s):R.fg o =
  if(M.iK R.dA.eA R.dA.ek s.dJ (R.wanted o) R.cJ).2 then { R with az:=M.set R.az o (Z { s with dJ:=(M.iK R.dA.eA R.dA.ek s.dJ (R.wanted o) R.cJ).1 }),cj:=R.cj++[⟨o,R.cJ,M.tU ((R.aQ o).getD 0)⟩] }
  else { R with az:=M.set R.az o (Z { s with dJ:=(M.iK R.dA.eA R.dA.ek s.dJ (R.wanted o) R.cJ).1 }) }:=by
 unfold M.Room.fg;rw[h]
def xb(R:M.Room)(o:M.bN):(R.fg o).bh=R.bh/\(R.fg o).aD=R.aD/\(R.fg o).aQ=R.aQ/\(R.fg o).dA=R.dA/\(R.fg o).cJ=R.cJ/\∀a,((R.fg o).az a).isSome=(R.az a).isSome:=by
 cases h:R.az o with
 |none=>rw[AT R o h];exact⟨rfl,rfl,rfl,rfl,rfl,λ_=>rfl⟩
 |some s =>
  rw[Ik R o s h];have k:∀(x:M.eu) a,(M.set R.az o (Z x) a).isSome=(R.az a).isSome:=λx a=>by
   unfold M.set;split
   ·rename_i e;subst e;rw[h];rfl
   ·rfl
  split
  ·exact⟨rfl,rfl,rfl,rfl,rfl,λa=>k _ a⟩
  ·exact⟨rfl,rfl,rfl,rfl,rfl,λa=>k _ a⟩
def IY{R:M.Room}(h:np R)(o:M.bN):np (R.fg o):=by
 obtain⟨c,d,f,g,j,e⟩:=xb R o;refine⟨λs=>by rw[c,d];exact h.iJ s,λs q=>h.range s (by rw[<-d];exact q),λs x q y=>?_⟩;rw[c]at q;obtain⟨a,b⟩:=h.sub s x q y;exact⟨a,λi i0 i1=>by rw[e];exact b i i0 i1⟩
def xP:∀(l:List M.bN) (R:M.Room) (p:M.bN->Bool),(∀o,p o=(R.az o).isSome)->l.foldl M.Room.fg R=(l.filter p).foldl M.Room.fg R
 |[],R,p,hp=>rfl
 |o::l,R,p,hp=>by
  rw[List.foldl_cons,List.filter_cons];have a:=xP l (R.fg o) p (λb=>by rw[hp,(xb R o).2.2.2.2.2]);rw[a,hp o];cases h:R.az o with
  |none=>rw[AT R o h];rfl
  |some s=>simp
def IX(R:M.Room):M.eX.foldl M.Room.fg R=(ei R 9).foldl M.Room.fg R:=by
 unfold ei;rw[dC (aR:M.eX.length<=9)];exact xP _ R _ λ_=>rfl
def Fx(l:List M.bN)(R:M.Room)(h:np R):np (l.foldl M.Room.fg R)/\(l.foldl M.Room.fg R).aQ=R.aQ/\(l.foldl M.Room.fg R).dA=R.dA/\(l.foldl M.Room.fg R).cJ=R.cJ/\∀o,((l.foldl M.Room.fg R).az o).isSome=(R.az o).isSome:=by
 induction l generalizing R with
 |nil=>exact⟨h,rfl,rfl,rfl,λ_=>rfl⟩
 |cons a l b =>
  obtain⟨g,i,c,d,e,f⟩:=xb R a;obtain⟨h1,h2,h3,h4,h5⟩:=b (R.fg a) (IY h a);exact⟨h1,h2.trans c,h3.trans d,h4.trans e,λo=>(h5 o).trans (f o)⟩
def Ln(w:aw):∀(x:M.Request) c,tm w x c->∀u∈c,u.oneCell'=true:=by
 rintro x c ⟨b,xs,rfl,_⟩ u hu;simp at hu;rcases hu with rfl|rfl|rfl|rfl<;>rfl
def CU(v:Value)(n:Nat)(l:List (M.Request))(q:List (List Value))(w:aw)(own:w.ownsRow 0 94 4 v n q.flatten)(fit:Fit (tm w) l q)(G:n<=1000000) :
  aF af 56 #[v] w λe w'=>∃s,e=av s/\w'.ownsRow w.heap.size 94 4 s n q.flatten/\aC w w':=by
 obtain⟨i0,t,f,h,i⟩:=cY Mv;obtain⟨B,k,m,o⟩:=cA t f h i;clear t f h i;have a:=fit.one (Ln w);have hlen:=own.1;rcases own.2 with⟨rfl,rfl⟩ | ⟨g,cap,dx,rfl,_⟩
 ·have he:∀W:aw,(binOp .eql 57 (ae I 0 0) (ae I 0 0)).run af W=.ok (ai true) W:=λ_=>rfl;have ky:w.ownsRow w.heap.size 94 4 (ae I 0 0) 0 q.flatten:=⟨hlen,.inl ⟨rfl,rfl⟩⟩;have p:=au ky;clear own ky a hlen fit;go_enter func56,ntmps56;go_wp2_with fail;go_ret;exact⟨_,rfl,p.O,ao _ _⟩
 ·have he:∀W:aw,(binOp .eql 57 (ae (Z ⟨g,0,I⟩) n cap) (ae I 0 0)).run af W=.ok (ai false) W:=λ_=>rfl;have b:=sZ (aK.new w 94 #[]) (base:=w.heap.size) (e:=94) (size:=4) (aj _);have x:=((ao w.heap.size w).alloc (aj _) (.cells #[] 94));have y:∀j u,q.flatten[j]? = Z u->(w.alloc (.cells #[] 94)).cell? ((⟨g,0,I⟩:Addr).add j)=Z u:=λj u hu=>by
   have r:j<n*4:=by rw[<-hlen];exact(aS.1 hu).1
   have e:=own.cellAt j r;rw[hu]at e;rw[add_lit,cO];exact ea e
  obtain⟨C,D,E,H1⟩:=cA y hlen x a;clear y hlen x own a fit;go_enter func56,ntmps56;go_wp2_with (at_builtin;go_loud (refine wpList_append_own _ rfl _ _ 57 rfl w.heap.size 94 i0 _ 4 48 underlying57 B.O k.O m.O o.O rfl aR _ _ _ rfl b ⟨g,0,I⟩ n cap q.flatten rfl D.O C.O H1.O ?c3 ?c4 ?c5 ?_));case c3=>unfold maxLen;omega
  case c4=>omega
  case c5=>simp
  intro v5 w5 c g5 _;have d:w5.ownsRow w.heap.size 94 4 v5 n q.flatten:=by simpa using c
  have A:aC w w5:=E.O.grown g5 dt (λj r=>by have:=(b.lt j r).1;omega);obtain⟨p,F⟩:=bu d A;clear b c d g5 A;go_wp2_with fail;go_ret;exact⟨_,rfl,p.O,F.O⟩
def Bc(w:aw):∀(x:M.Request) c,tm w x c->c.length=4:=by
 rintro x c ⟨b,xs,rfl,_⟩;rfl
def vp(B:RB)(R:M.Room)(N:Nat)(w:aw)(h:aL w B R N)(hN:N<=1000000) :
  aF af 19 #[aq (Z ⟨B.g,0,I⟩)] w λe w'=>∃(v:Value) (q:List (List Value)),e=av v/\w'.ownsRow w.heap.size 94 4 v R.cj.length q.flatten/\Fit (tm w') R.cj q/\aC w w':=by
 obtain⟨q0,u,f⟩:=(h.part .cj:∃q,w.ownsRow 0 94 4 B.rv R.cj.length q.flatten/\Fit (tm w) R.cj q);have E:=h.cw.cell 15;simp at E;have SG:=h.et.cj;obtain⟨F,G⟩:=bu (CU B.rv R.cj.length R.cj q0 w u f z) f;clear h u f;go_enter func19,ntmps19;go_wp2_with (go_at_call 56;refine F.O.mono ?_;rintro e w1 ⟨v,rfl,own,b1⟩;obtain⟨A,c,rfl⟩:=bA own;have HW:=au own;have D:=au b1;clear own b1);go_loopw [4,12] (λ_ i wr=>∃(k:Nat) (q:List (List Value)),i=J V k/\k<=R.cj.length/\wr.ownsRow w.heap.size 94 4 (ae A R.cj.length c) R.cj.length q.flatten/\Fit (tm wr) R.cj q/\aC w wr) (λ_ i _=>R.cj.length-(bS i).toNat);case atStart=>exact⟨0,q0,rfl,z,HW.O,G.O.mono (λx c k=>k.rows (.bn D.O)),D.O⟩
 case round =>
  clear HW D G F E;obtain⟨k,q,rfl,hk,own,fit,H⟩:=hrel;by_cases U:k<R.cj.length
  ·obtain⟨x,d,hx,W,b,xs,rfl,X,Y⟩:=fit.MD U;obtain⟨r,cap,e1,SH,l⟩:=jZ own (fit.len (Bc wr)) z;injection e1 with e1 e2 e3
   subst e1 e3;have k1:=l k _ W 3 z;simp at k1;have fz:=λj=>own.frozenAt j;have SI:=H.size;obtain⟨K,HX,aI,m,o,t,SJ⟩:=lV (mC b.a b.n b.c xs wr X.tl z X.zero) hx W own fit H fz;clear hx W own fit H l fz X;go_wp2_with fail;refine K.O.mono ?_;rintro e w4 ⟨⟨S,T,rfl,hT,hle,df,hz⟩,b4⟩;have s:=qI m.O b4;have SK:=s.frozenAt (k*4+3);have d1:=aM b4 k1;obtain⟨L,P,eI⟩:=bU s b4 (⟨hT,hle,df,hz⟩:Sl.B w4 ⟨S,b.n,T⟩ xs);clear s b4 hT;go_wp2_with fail;go_roundw;case rel =>
    have C:Fit (tm w4) R.cj q:=o.O.mono λy d gX=>gX.rows (.bn P.O);obtain⟨dx,hB,mK⟩:=Iu L.O;have Q:Rows w4 (w4.setCell ⟨r,k*4+3,I⟩ (ae S b.n T)):=(Rows.refl w4).setCell hB aR aR _ _;have st:=(L.O.stored (k*4+3) (ae S b.n T)).1;rw[zP (C.len (Bc w4)) k 3 _ _ z aI.O]at st;refine⟨k+1,_,by go_num,z,st,?_,((t.O.trans (P.O.mono t.O.size)).setCell (p:=⟨r,k*4+3,I⟩) mK _)⟩;exact(C.mono λy d gX=>gX.rows Q).set HX.O ⟨⟨S,b.n,T⟩,xs,rfl,eI.O.rows (.inl rfl) Q,Y⟩
   case measure=>simp[bS];omega
  ·obtain⟨m,o,t⟩:=bU own fit H;clear own fit H;go_wp2_with fail;go_ret;exact⟨_,q,rfl,m.O,o.O,t.O⟩
section
section
variable {B:RB} {R:M.Room} {N:Nat} {w:aw} (h:aL w B R N)
include h
theorem Cl(a:R.cN=true):aF af 37 #[aq (Z ⟨B.g,0,I⟩)] w λe w'=>e=av (J V R.tick.2)/\R.tick.1=R/\w'=w:=by
 have b:=h.cw.cell 7;simp at b;rw[a]at b;have e:R.tick=(R,7):=by unfold M.Room.tick;rw[a];rfl
 rw[e];clear h e a;go_enter func37,ntmps37;go_wp2_with fail;go_ret;exact⟨rfl,trivial,rfl⟩
theorem aL.GV:aL (w.setCell ⟨B.g,9,I⟩ (J V (R.cJ+1))) B { R with cJ:=R.cJ+1 } (N+1)/\fK w (w.setCell ⟨B.g,9,I⟩ (J V (R.cJ+1))) B B:=by
 have n:=h.et.mono (cZ N);have a:=h.et.cJ;exact(h.mono (cZ N)).rq (cJ:=R.cJ+1) (cN:=R.cN) (bp:=R.bp) ((Fr.refl (One B.g) _).setCell h.cw (.inl rfl) aR aR 9 _) (by simpa using h.cw.bC 9 (J V (R.cJ+1))) { n with cJ:=by show 0<=R.cJ+1/\R.cJ+1<=((N+1:Nat):Int);omega }
end
end
section
theorem Ch:(af.info? 170).map (·.size)=Z 4:=cC
theorem Oi(S R:Int)(s:M.Ask)(wt:Bool)(now:Int)(N:Nat)(h1:0<=s.fH/\s.fH<=N)(h2:0<=s.gB/\s.gB<=N)(h3:0<=now/\now<=N) :
  (0<=(M.iK S R s wt now).1.fH/\(M.iK S R s wt now).1.fH<=((N+1:Nat):Int))/\(0<=(M.iK S R s wt now).1.gB/\(M.iK S R s wt now).1.gB<=((N+1:Nat):Int)):=by
 obtain⟨tr,a⟩:=dH (if(!wt || !s.wanted)=true then 0 else s.gB);have b:0<=tr/\tr<=N:=by rw[a];split<;>omega
 have e:M.iK S R s wt now=if(!wt||(s.any&&decide (now-s.fH<M.QT S R tr)))=true then(⟨wt,s.any,s.fH,tr⟩,false) else(⟨wt,true,now,tr+1⟩,true):=by rw[a];rfl
 rw[e];split<;>dsimp only<;>omega
section
variable {B:RB} {R:M.Room} {N:Nat} {w:aw} (h:aL w B R N)
include h
theorem Jc(hc:R.cN=false)(hk:np R)(SV:∀o,0<=(R.aQ o).getD 0/\(R.aQ o).getD 0<=4294967295)(hN:N<800000) :
  aF af 37 #[aq (Z ⟨B.g,0,I⟩)] w (kk B w (J V 0) R.tick.1 (N+20)):=by
 obtain⟨C,aI⟩:=dH ({ R with cJ:=R.cJ+1 }:M.Room);have e:R.tick.1=(ei C 9).foldl M.Room.fg C:=by rw[<-IX,aI];unfold M.Room.tick;rw[hc];rfl
 rw[e];have Tt:np C:=by rw[aI];exact⟨hk.iJ,hk.range,hk.sub⟩
 have Tu:∀o,0<=(C.aQ o).getD 0/\(C.aQ o).getD 0<=4294967295:=by rw[aI];exact SV
 have c7:=h.cw.cell 7;have c9:=h.cw.cell 9;have f9:=h.cw.frozen 9;simp at c7 c9;rw[hc]at c7;have SQ:=h.et.cJ;have P:=h.GV;rw[<-aI]at P;have Tv:V.wrap (R.cJ+1)=R.cJ+1:=IntWalk.i64_in _ ⟨z,z⟩;obtain⟨HZ,HK,TV⟩:=bU P Tt Tu;have Tw:=h.lt;have TW:=au Tw;clear h e Tt Tu P hc hk SV Tw aI;go_enter func37,ntmps37;go_upto_region 4 with fail;refine aW (λX=>aL X B C (N+1)/\fK w X B B) HZ.O ?_;clear HZ c7 c9 f9 SQ Tv;rintro X ⟨h,s⟩;obtain⟨p,df⟩:=dH (ei C 9);have Te:=qw h;rw[<-df]at Te;have Uh:p.length<=9:=by rw[df];exact re C 9
 have eI:∀o∈p,(0<=o.1/\o.1<3)/\(0<=o.2/\o.2<3)/\(C.az o).isSome=true:=by rw[df];exactλo ho=>rb C ho
 obtain⟨TX,Tx,TY,H,HS⟩:=gY df Te eI h s;clear Te eI df h s;go_wp2_with (go_at_call 71;refine Tx.O.mono ?_;rintro e w2 ⟨v,rfl,own,b2⟩;obtain⟨A5,c5,rfl⟩:=bA own;have D:=au own;have Tf:=au b2;clear own b2);have HX:=au (show aL w2 B C (N+1)/\fK w w2 B B from⟨H.O.below Tf.O,HS.O.trans (fK.fN B Tf.O)⟩);have Ui:=HS.O.fr.size;clear H HS Tx Tf;go_loopw [22] (λi wr=>∃(k:Nat) (Bk:RB),i=J V k/\k<=p.length/\aL wr Bk ((p.take k).foldl M.Room.fg C) (N+1+2*k)/\fK w wr B Bk/\(∀i,(ae A5 p.length c5).ownBlock=Z i->¬Bk.all i)/\wr.ownsRow X.heap.size 91 2 (ae A5 p.length c5) p.length (p.flatMap zw)) (λi _=>p.length-(bS i).toNat);case atStart=>exact⟨0,B,rfl,z,HX.O.1,HX.O.2,(λi hi q=>by have:=TW.O i q;have:=(D.O.lt i hi).1;omega),D.O⟩
 case round =>
  clear HX D;obtain⟨k,Bk,rfl,hk,hR,s,m,own⟩:=hrel;by_cases Ty:k<p.length;rotate_left
  ·have T8:k=p.length:=z;subst T8;rw[cT]at hR;obtain⟨H,HS⟩:=bu hR s;clear hR s own m;go_wp2_with fail;go_ret;exact⟨Bk,rfl,by rw[<-TX.O];exact H.O.mono z,HS.O⟩
  have Tv:((k:Int)<(p.length:Int)):=z;have SU:p[k]? = Z p[k]:=ay Ty;have x:=M.lL M.Room.fg p k p[k] C SU;obtain⟨Tz,TA,gX⟩:=TY.O p[k] (dy Ty);obtain⟨Tg,Th,Ti,Tj,mK⟩:=Fx (p.take k) C HK.O;rw[<-mK]at gX;generalize p[k]=o at SU x Tz TA gX;generalize (p.take k).foldl M.Room.fg C=f at hR x Tg Th Ti Tj mK gX;clear mK;obtain⟨r5,rfl,Uj,_,SG⟩:=wm own z;obtain⟨y0,y1⟩:=SG k o SU;obtain⟨st,Tk⟩:=Option.isSome_iff_exists.1 gX;have TC:=x.trans (Ik f o st Tk);obtain⟨H,HS,D,HV,HF,SH,T9,Ua⟩:=qh hR s own m TC Tk Tg Th;clear hR s own m TC Tk Tg Th x gX SG SU;go_upto_region 7 with fail;obtain⟨r7,e7⟩:=dH wr.heap.size;rw[<-e7];have al:aC wr (wr.alloc (.cells #[J V o.1,J V o.2] 91)):=(ao _ _).alloc (aj _) _;refine aW (λY=>aK Y r7 91 #[J V o.1,J V o.2]/\aC wr Y) ⟨by simpa using aK.newAt _ _ _ _ e7,al⟩ ?_;clear al y0 y1;rintro Y ⟨b7,bY⟩;have hR:=H.O.below bY;have s:=HS.O.trans (fK.fN Bk bY);have own:=gI D.O bY;have h7:∀i,Bk.all i->i≠r7:=λi hi=>by have:=H.O.lt i hi;omega
  clear e7 bY H HS D;obtain⟨S,Tl,d⟩:=hR.iB SH.O;have Tm:=s.g;have Tn:=hR.cw.cell 13;have y0:=b7.cell 0;have y1:=b7.cell 1;simp at Tn y0 y1;rw[Tm]at Tn;have eI:Gi o:=ir ⟨z,z⟩ ⟨z,z⟩;have TD:(Instr.lookup 55 (.map (Z Bk.sm)) (cg #[J V o.1,J V o.2]) false).run af Y.drew=.ok (aq (Z ⟨S.g,0,I⟩)) Y.drew:=by
   have P:=(hR.below (eW (ao Y.drew.heap.size Y.drew))).jU o eI;rw[Tl]at P;exact P
  obtain⟨H,HS,D,SI,SJ,To⟩:=lH hR s own b7 Tl d;clear hR s own b7 Tl d;go_cut [5] (λv wc=>v=aq (Z ⟨S.g,0,I⟩)/\aC Y wc);case first =>
   go_region;all_goals
    go_wp2_with fail;go_meet;exact⟨rfl,eW (ao _ _)⟩
  case rest =>
   obtain⟨rfl,bc⟩:=hcut;have hR:=H.O.below bc;have s:=HS.O.trans (fK.fN Bk bc);have own:=gI D.O bc;have b7:=SI.O.kept bc;have d:gh wc S f.dA.eJ f.dA.cX st (N+1+2*k):=by
    obtain⟨S',SK,Tp⟩:=hR.iB SH.O;rw[SJ.O]at SK;cases SK;exact Tp
   clear bc Tn y0 y1 TD H HS D SI To;have hC:∀(i:Nat) v,(oS Bk f)[i]? = Z v->∀W,aC wc W->W.cell? ⟨B.g,i,I⟩=Z v:=λi v e W b=>by
    have P:=hR.cw.cell i;rw[e,Tm]at P;exact aM b P
   have d4:=hC 4 _ rfl;have d5:=hC 5 _ rfl;have d9:=hC 9 _ rfl;have y0:∀W,aC wc W->W.cell? ⟨r7,0,I⟩=Z (J V o.1):=λW b=>aM b (b7.cell 0);have y1:∀W,aC wc W->W.cell? ⟨r7,1,I⟩=Z (J V o.2):=λW b=>aM b (b7.cell 1);have s3:∀W,aC wc W->W.cell? ⟨S.g,3,I⟩=Z (ai st.dJ.wanted):=λW b=>aM b (d.cw.cell 3);have s4:∀W,aC wc W->W.cell? ⟨S.g,4,I⟩=Z (ai st.dJ.any):=λW b=>aM b (d.cw.cell 4);have s5:∀W,aC wc W->W.cell? ⟨S.g,5,I⟩=Z (J V st.dJ.fH):=λW b=>aM b (d.cw.cell 5);have s6:∀W,aC wc W->W.cell? ⟨S.g,6,I⟩=Z (J V st.dJ.gB):=λW b=>aM b (d.cw.cell 6);clear hC;have Q:=λW (b:aC wc W)=>Dx (hR.below b) o st SH.O T9.O ⟨Tz,TA⟩ z;have SW:=hR.et.cJ;have TE:=d.fH;have TF:=d.gB;have F:Ask.Fit f.dA.eA f.dA.ek st.dJ.fH st.dJ.gB f.cJ:=by
    have q:=hR.et.dA;simp[M.jr]at q;exact⟨z,z,z,z,z,z,z,z,z⟩
   obtain⟨wt,TG⟩:=dH (f.wanted o);have hf:=HF.O;rw[<-TG]at Q hf;rw[Tm]at Q;obtain⟨Uk,Ul⟩:=bu Ti Tj;clear Ti Tj;have SL:=λW=>Kv f.dA.eA f.dA.ek st.dJ wt f.cJ W F;have SM:=Oi f.dA.eA f.dA.ek st.dJ wt f.cJ (N+1+2*k) TE TF SW;obtain⟨c,Tq⟩:=dH ((M.iK f.dA.eA f.dA.ek st.dJ wt f.cJ).1);obtain⟨nw,TH⟩:=dH ((M.iK f.dA.eA f.dA.ek st.dJ wt f.cJ).2);rw[<-Tq,<-TH]at SL hf;rw[<-Tq]at SM;obtain⟨SN,T,Ub,SX,H,HS,D,SI,To⟩:=By Q SL hf SM hR s own b7 d;clear Q SL hf SM Tq TH TG F SW TE TF hR s own b7 d HF;go_upto_region 8 with fail;go_cut [6,7] (λa b wd=>∃r6,a=aq (Z ⟨r6,0,I⟩)/\b=ai nw/\aK wd r6 170 #[ai c.wanted,ai c.any,J V c.fH,J V c.gB]/\aC wc wd);case first =>
    have SY:∀W,aC wc W->∀(j:Nat) v,(#[J V f.dA.eA,J V f.dA.ek]:Array Value).toList[j]? = Z v->W.cell? ⟨B.g,4+j,I⟩=Z v:=λW A j v m=>by
     rcases j with _|_|j
     ·simp at m;rw[<-m];exact d4 W A
     ·simp at m;rw[<-m];exact d5 W A
     ·simp at m
    have SZ:∀W,aC wc W->∀(j:Nat) v,(#[ai st.dJ.wanted,ai st.dJ.any,J V st.dJ.fH,J V st.dJ.gB]:Array Value).toList[j]? = Z v->W.cell? ⟨S.g,3+j,I⟩=Z v:=λW A j v m=>by
     rcases j with _|_|_|_|j
     ·simp at m;rw[<-m];exact s3 W A
     ·simp at m;rw[<-m];exact s4 W A
     ·simp at m;rw[<-m];exact s5 W A
     ·simp at m;rw[<-m];exact s6 W A
     ·simp at m
    have Ta:∀W,aC wc W->∀(j:Nat) v,(#[J V o.1,J V o.2]:Array Value).toList[j]? = Z v->W.cell? ⟨r7,0+j,I⟩=Z v:=λW A j v m=>by
     rcases j with _|_|j
     ·simp at m;rw[<-m];exact y0 W A
     ·simp at m;rw[<-m];exact y1 W A
     ·simp at m
    obtain⟨TI,TJ,TM⟩:=bU SY SZ Ta;clear SY SZ Ta d4 d5 s3 s4 s5 s6 y0 y1;refine fC (S:=λW=>aC wc W) cC (eW (ao _ _)) (λt=>?_);refine fS 0 (aq (Z ⟨B.g,0,I⟩)) rfl t ?_;try simp only[aA,pqq]
    refine fS 1 (aq (Z ⟨B.g,0,I⟩)) rfl t ?_;simp only[aA,pqq]
    refine fS 2 (aq (Z ⟨B.g,1,I⟩)) rfl t ?_;simp only[aA,pqq]
    refine fS 3 (aq (Z ⟨B.g,4,I⟩)) rfl t ?_;simp only[aA,pqq]
    refine Fj 4 (cg #[J V f.dA.eA,J V f.dA.ek]) rfl (eS jP 23 (.tmp 36) rfl B.g 4 rfl (#[J V f.dA.eA,J V f.dA.ek]:Array Value).toList _ (λW A j v m=>TI.O W A j v m) underlying23 rfl cC) t ?_;simp only[aA,pqq]
    refine fS 5 (aq (Z ⟨S.g,0,I⟩)) rfl t ?_;simp only[aA,pqq]
    refine fS 6 (aq (Z ⟨S.g,0,I⟩)) rfl t ?_;simp only[aA,pqq]
    refine fS 7 (aq (Z ⟨S.g,3,I⟩)) rfl t ?_;simp only[aA,pqq]
    refine Fj 8 (cg #[ai st.dJ.wanted,ai st.dJ.any,J V st.dJ.fH,J V st.dJ.gB]) rfl (eS jP 170 (.tmp 40) rfl S.g 3 rfl (#[ai st.dJ.wanted,ai st.dJ.any,J V st.dJ.fH,J V st.dJ.gB]:Array Value).toList _ (λW A j v m=>TJ.O W A j v m) underlying170 rfl cC) t ?_;simp only[aA,pqq]
    refine fS 9 (aq (Z ⟨B.g,0,I⟩)) rfl t ?_;simp only[aA,pqq]
    refine Fj 10 (cg #[J V o.1,J V o.2]) rfl (eS jP 91 (.tmp 4) rfl r7 0 rfl (#[J V o.1,J V o.2]:Array Value).toList _ (λW A j v m=>TM.O W A j v m) underlying91 rfl cC) t ?_;simp only[aA,pqq]
    refine fS 12 (aq (Z ⟨B.g,0,I⟩)) rfl t ?_;simp only[aA,pqq]
    refine fS 13 (aq (Z ⟨B.g,0,I⟩)) rfl t ?_;simp only[aA,pqq]
    refine fS 14 (aq (Z ⟨B.g,9,I⟩)) rfl t ?_;simp only[aA,pqq]
    refine fS 15 (J V f.cJ) rfl t ?_ (hy:=λW A=>by have q:=d9 W A;go_simp);simp only[aA,pqq]
    have Tb:∀v∈(#[ai c.wanted,ai c.any,J V c.fH,J V c.gB]:Array Value).toList,v.oneCell'=true:=tk;have SO:=au Tb;clear Tb d9;refine cH (rs:=[11,20]) cC dt ?_;refine bH rfl (λK l=>?_) ?_
    ·skip;rw[if_pos jP];go_simp;go_at_call 83;refine(SN.O _ t).mono ?_;rintro e w4 ⟨rfl,b4⟩;dsimp only;refine l.out _ _ (t.trans (b4.mono t.size)) (λy=>?_);clear l K;try simp only[aA,pqq]
     refine cH (rs:=[16,20]) cC dt ?_;refine bH rfl (λK l=>?_) ?_
     ·skip;rw[if_pos jP];go_simp;go_at_call 82;refine(T.O _).mono ?_;rintro e w5 ⟨rfl,b5⟩;dsimp only;refine l.out _ _ (y.trans (b5.mono y.size)) (λr=>?_);clear l K;try simp only[aA,pqq]
      refine fS 17 (aB #[cg #[ai c.wanted,ai c.any,J V c.fH,J V c.gB],ai nw]) rfl r ?_;simp only[aA,pqq]
      refine fS 18 (cg #[ai c.wanted,ai c.any,J V c.fH,J V c.gB]) rfl r ?_;simp only[aA,pqq]
      refine fS 19 (ai nw) rfl r ?_;simp only[aA,pqq]
      refine cH (rs:=[20]) cC dt ?_;refine bH rfl (λK l=>?_) cy;rw[if_pos jP];go_simp;refine l.out _ _ (r.alloc r.size _) (λn=>?_);clear l K;try simp only[aA,pqq]
      refine cH (rs:=[21]) cC dt ?_;refine bH rfl (λK l=>?_) cy;refine lj jP (.tmp 6) (.tmp 50) 170 jP w5.heap.size 0 170 #[ai false,ai false,J V 0,J V 0] rfl #[ai c.wanted,ai c.any,J V c.fH,J V c.gB] rfl Ch (aK.new w5 170 #[ai false,ai false,J V 0,J V 0]) (aj _) SO.O ?_;intro w' E u';refine l.out _ _ (n.trans (u'.below n.size (λi q=>by cases q;exact r.size))) (λG=>?_);clear l K;try simp only[aA,pqq]
      refine fS 22 (ai nw) rfl G ?_;simp only[aA,pqq]
      refine gV cC ?_ _;go_wp2_with fail;go_meet;exact⟨w5.heap.size,rfl,rfl,by first|exact E|simpa[de]using E,G⟩
     ·refine bH rfl (λK l=>?_) cy;rw[if_pos jP];go_simp;refine l.out _ _ (y.alloc y.size _) (λr=>?_);clear l K;try simp only[aA,pqq]
      refine cH (rs:=[16]) cC dt ?_;refine bH rfl (λK l=>?_) cy;rw[if_pos jP];go_simp;go_at_call 82;refine(T.O _).mono ?_;rintro e w5 ⟨rfl,b5⟩;dsimp only;refine l.out _ _ (r.trans (b5.mono r.size)) (λn=>?_);clear l K;try simp only[aA,pqq]
      refine fS 17 (aB #[cg #[ai c.wanted,ai c.any,J V c.fH,J V c.gB],ai nw]) rfl n ?_;simp only[aA,pqq]
      refine fS 18 (cg #[ai c.wanted,ai c.any,J V c.fH,J V c.gB]) rfl n ?_;simp only[aA,pqq]
      refine fS 19 (ai nw) rfl n ?_;simp only[aA,pqq]
      refine cH (rs:=[21]) cC dt ?_;refine bH rfl (λK l=>?_) cy;refine lj jP (.tmp 6) (.tmp 50) 170 jP w4.heap.size 0 170 #[ai false,ai false,J V 0,J V 0] rfl #[ai c.wanted,ai c.any,J V c.fH,J V c.gB] rfl Ch (aK.born b5) (aj _) SO.O ?_;intro w' E u';refine l.out _ _ (n.trans (u'.below n.size (λi q=>by cases q;exact y.size))) (λG=>?_);clear l K;try simp only[aA,pqq]
      refine fS 22 (ai nw) rfl G ?_;simp only[aA,pqq]
      refine gV cC ?_ _;go_wp2_with fail;go_meet;exact⟨w4.heap.size,rfl,rfl,by first|exact E|simpa[de]using E,G⟩
    ·refine bH rfl (λK l=>?_) cy;rw[if_pos jP];go_simp;refine l.out _ _ (t.alloc t.size _) (λy=>?_);clear l K;try simp only[aA,pqq]
     refine cH (rs:=[11]) cC dt ?_;refine bH rfl (λK l=>?_) cy;rw[if_pos jP];go_simp;go_at_call 83;refine(SN.O _ y).mono ?_;rintro e w4 ⟨rfl,b4⟩;dsimp only;refine l.out _ _ (y.trans (b4.mono y.size)) (λr=>?_);clear l K;try simp only[aA,pqq]
     refine cH (rs:=[16]) cC dt ?_;refine bH rfl (λK l=>?_) cy;rw[if_pos jP];go_simp;go_at_call 82;refine(T.O _).mono ?_;rintro e w5 ⟨rfl,b5⟩;dsimp only;refine l.out _ _ (r.trans (b5.mono r.size)) (λn=>?_);clear l K;try simp only[aA,pqq]
     refine fS 17 (aB #[cg #[ai c.wanted,ai c.any,J V c.fH,J V c.gB],ai nw]) rfl n ?_;simp only[aA,pqq]
     refine fS 18 (cg #[ai c.wanted,ai c.any,J V c.fH,J V c.gB]) rfl n ?_;simp only[aA,pqq]
     refine fS 19 (ai nw) rfl n ?_;simp only[aA,pqq]
     refine cH (rs:=[21]) cC dt ?_;refine bH rfl (λK l=>?_) cy;refine lj jP (.tmp 6) (.tmp 50) 170 jP wc.heap.size 0 170 #[ai false,ai false,J V 0,J V 0] rfl #[ai c.wanted,ai c.any,J V c.fH,J V c.gB] rfl Ch ((OO b4).kept b5) (aj _) SO.O ?_;intro w' E u';refine l.out _ _ (n.trans (u'.below n.size (λi q=>by cases q;exact aj _))) (λG=>?_);clear l K;try simp only[aA,pqq]
     refine fS 22 (ai nw) rfl G ?_;simp only[aA,pqq]
     refine gV cC ?_ _;go_wp2_with fail;go_meet;exact⟨wc.heap.size,rfl,rfl,by first|exact E|simpa[de]using E,G⟩
   case rest =>
    obtain⟨r6,rfl,rfl,b6,bd⟩:=hcut;have hR:=H.O.below bd;have s:=HS.O.trans (fK.fN Bk bd);have own:=gI D.O bd;have b7:=SI.O.kept bd;have d:gh wc S f.dA.eJ f.dA.cX st (N+1+2*k):=by
     obtain⟨S',SK,Tp⟩:=hR.iB SH.O;rw[SJ.O]at SK;cases SK;exact Tp
    have q0:=b6.cell 0;have q1:=b6.cell 1;have q2:=b6.cell 2;have q3:=b6.cell 3;have t3:=d.cw.cell 3;have t4:=d.cw.cell 4;have t5:=d.cw.cell 5;have t6:=d.cw.cell 6;have f3:=d.cw.frozen 3;have f4:=d.cw.frozen 4;have f5:=d.cw.frozen 5;have f6:=d.cw.frozen 6;simp at q0 q1 q2 q3 t3 t4 t5 t6;have S4:=Fr.im (F:=One S.g) aR aR [ai c.wanted,ai c.any,J V c.fH,J V c.gB] 3 d.cw (.inl rfl) (Fr.refl (One S.g) wc);have Z4:=(((d.cw.bC 3 (ai c.wanted)).bC 4 (ai c.any)).bC 5 (J V c.fH)).bC 6 (J V c.gB);simp only[im,Nat.reduceAdd]at S4;have hA4:=(d.mono (z:N+1+2*k<=N+1+2*k+1)).cells (s':={ st with dJ:=c }) S4 (by simpa[kI]using Z4) rfl (by have:=d.uE;show -100000*((N+1+2*k+1:Nat):Int)<=st.dv/\st.dv<=100000*((N+1+2*k+1:Nat):Int)+200000;omega) SX.O.1 SX.O.2;have P:=(hR.mono (z:N+1+2*k<=N+1+2*k+1)).nL SH.O SJ.O hA4.2 hA4.1 rfl (λi q=>.inl q);rw[qR _ _ _ SJ.O]at P;have Uc:∀i,Bk.all i->i<wc.heap.size:=hR.lt;have SP:∀i,S.own i->Bk.all i:=λi q=>⟨.fO o,S,SJ.O,q⟩;have Tc:=du own (F:=S.own) hA4.2.u (λi hi q=>HV.O i hi (SP i q));have TN:aK _ r7 91 #[J V o.1,J V o.2]:=b7.dW hA4.2.u (λq=>h7 r7 (SP r7 q) rfl);obtain⟨HZ,TO,TP,Td⟩:=cA P (s.trans P.2) Tc TN;clear hA4 S4 Z4 P hR s own b7 d b6 bd Tc TN H HS D SI To T SN SP Uc;go_upto_region 10 with fail;obtain⟨Rn,L⟩:=dH ({ f with az:=M.set f.az o (Z { st with dJ:=c }) }:M.Room);have hz:=HZ.O.1;rw[<-L]at hz;refine aW (λY2=>aL Y2 Bk Rn (N+1+2*k+1)/\fK w Y2 B Bk/\Y2.ownsRow X.heap.size 91 2 (ae (Z ⟨r5,0,I⟩) p.length c5) p.length (p.flatMap zw)/\aK Y2 r7 91 #[J V o.1,J V o.2]) ⟨hz,TO.O,TP.O,Td.O⟩ ?_;clear hz HZ TO TP Td q0 q1 q2 q3 t3 t4 t5 t6 f3 f4 f5 f6;rintro Y2 ⟨hR,s,own,b7⟩;have Tr:∀o,Rn.aQ o=C.aQ o:=λo=>by rw[L];exact congrFun Ua.O o
    have SQ:Rn.cJ=f.cJ:=by rw[L]
    have y0:=b7.cell 0;have y1:=b7.cell 1;simp at y0 y1;have hf:=Ub.O;cases nw with
    |false =>
     simp only[Bool.false_eq_true,if_false]at hf;rw[<-L]at hf;obtain⟨H,HS,D,HF⟩:=cA hR s own hf;clear hR s own hf Tr SQ L b7;go_wp2_with fail;go_roundw;case rel=>exact⟨k+1,Bk,by go_num,z,by rw[HF.O];exact H.O.mono z,HS.O,HV.O,D.O⟩
     case measure=>simp[bS];omega
    |true =>
     simp only[if_true]at hf;have U:=Co hR o eI (by rw[Tr];exact TV.O o) z;rw[s.g]at U;have e1:({ Rn with cj:=Rn.cj++[⟨o,Rn.cJ,M.tU ((Rn.aQ o).getD 0)⟩] }:M.Room)=(p.take (k+1)).foldl M.Room.fg C:=by rw[hf,L]
     rw[e1]at U;have Ug:=hR.lt;obtain⟨TQ,HS,D⟩:=bU U s own;clear U hf e1 hR s own Tr SQ L b7;have TR:∀w3 B3,fK Y2 w3 Bk B3->(∀i,(ae (Z ⟨r5,0,I⟩) p.length c5).ownBlock=Z i->¬B3.all i)/\w3.ownsRow X.heap.size 91 2 (ae (Z ⟨r5,0,I⟩) p.length c5) p.length (p.flatMap zw):=λw3 B3 s3 =>
      ⟨λi hi q=>by
       rcases s3.own i q with q|q
       ·exact HV.O i hi q
       ·have:=(D.O.lt i hi).2;omega,du D.O s3.fr.u (λi hi q=>HV.O i hi q)⟩
     have Ud:=au TR;clear TR;go_wp2_with (go_at_call 84;refine TQ.O.mono ?_;rintro e w3 ⟨B3,rfl,TS,Ts⟩;have Ue:=au TS;have Uf:=au (HS.O.trans Ts);have TT:=au (Ud.O w3 B3 Ts);clear TS Ts);go_roundw;case rel=>exact⟨k+1,B3,by go_num,z,Ue.O.mono z,Uf.O,TT.O.1,TT.O.2⟩
     case measure=>simp[bS];omega
end
end
abbrev jQ(x:M.Act)(b:Sl):Array Value:=#[J V x.nv,J V x.sub,J V x.jo,J V x.aY,ae b.a b.n b.c,J V x.w.1,J V x.w.2,ai x.fq,J ar x.own,J ar x.aU,J aN x.dQ,J ar x.s0,J ar x.s1,J ar x.s2]
structure Nf(x:M.Act):Prop where
 ok:x.Ok
 sub:(Lit.int V x.sub).wf=true
 src:(0<=x.s0/\x.s0<=4294967295)/\(0<=x.s1/\x.s1<=4294967295)/\0<=x.s2/\x.s2<=4294967295
def wY(B:RB)(w:aw)(R:M.Room)(N:Nat)(x:M.Act)(e:Ending)(w':aw):Prop:=
 ∃B',e=av (aB #[J V (R.act x).2.1,ai (R.act x).2.2])/\aL w' B' (R.act x).1 (N+20)/\fK w w' B B'
def Fq{x:Int}(h:0<=x/\x<=4294967295):Ng x:=by unfold Ng Lit.wf;rw[cM,decide_eq_true_iff,decide_eq_true_iff];exact⟨h.1,h.2⟩
def K9{B:RB}{R:M.Room}{N:Nat}{w:aw}(h:aL w B R N){G:Int->M.ij}{n:Nat}(b:M.lG R G n)(i:N<600000) :
  aF af 37 #[aq (Z ⟨B.g,0,I⟩)] w (kk B w (J V R.tick.2) R.tick.1 (N+20)):=by
 cases a:R.cN with
 |true =>
  refine(Cl h a).mono ?_;rintro e w' ⟨c,d,rfl⟩;exact⟨B,c,by rw[d];exact h.mono z,fK.refl _ _⟩
 |false =>
  have f:R.tick.2=0:=by unfold M.Room.tick;rw[a];rfl
  rw[f];exact Jc h a (Bs b) (Ml b) z
def xF{B:RB}{R:M.Room}{N:Nat}{w:aw}(h:aL w B R N){G:Int->M.ij}{n:Nat}(hk:M.lG R G n)(hn:n<=1000)(hN:N<600000)(x:M.Act)(hx:Nf x)(s:Sl)(p:pL w s.a s.n s.c x.b)(hl:s.n<=400) :
  aF af 14 #[aq (Z ⟨B.g,0,I⟩),cg (jQ x s)] w (wY B w R N x):=by
 obtain⟨H,v,u,HB⟩:=cA h hk hx p;have A:=h.lt;clear h hk hx p;go_enter func14,ntmps14;go_upto_region 1 with fail;obtain⟨r3,C⟩:=dH w.heap.size;rw[<-C];have al:aC w (w.alloc (.cells (jQ x s) 45)):=(ao _ w).alloc (aj _) _;refine aW (λX=>aK X r3 45 (jQ x s)/\aC w X) ⟨aK.newAt _ _ _ _ C,al⟩ ?_;clear al C;rintro X ⟨b3,y⟩;have h:=H.O.below y;have p:=HB.O.below y;have hS:=fK.fN B y;have r:=b3.cell 0;have k1:=b3.cell 1;have k2:=b3.cell 2;have k3:=b3.cell 3;have k4:=b3.cell 4;have k5:=b3.cell 5;have k6:=b3.cell 6;have k7:=b3.cell 7;have k8:=b3.cell 8;have k9:=b3.cell 9;have D:=b3.cell 10;have E:=b3.cell 11;have F:=b3.cell 12;have K:=b3.cell 13;simp at r k1 k2 k3 k4 k5 k6 k7 k8 k9 D E F K;have HS:=au hS;clear y b3 H HB hS A;by_cases k:0<=x.nv/\x.nv<=8
 ·have L:x.nv=0\/x.nv=1\/x.nv=2\/x.nv=3\/x.nv=4\/x.nv=5\/x.nv=6\/x.nv=7\/x.nv=8:=z;clear k;rcases L with k|k|k|k|k|k|k|k|k
  ·have d:R.act x=((R.fT x.b).1,(R.fT x.b).2,false):=by unfold M.Room.act;simp only[k];rfl
   rw[k]at r;obtain⟨o,f⟩:=bu (tO h s x.b p hl z) d;clear d k h p;go_wp2_with (go_at_call 26;refine o.O.mono ?_;rintro e t ⟨B',rfl,i,j⟩;have l:=au i;have m:=au j;clear i j);refine ax (ew rfl _ _ _) rfl ?_;exact⟨B',by rw[f.O];rfl,by rw[f.O];exact l.O.mono z,HS.O.trans m.O⟩
  ·have d:R.act x=((R.pick x.w x.fq).1,0,(R.pick x.w x.fq).2):=by unfold M.Room.act;simp only[k];rfl
   rw[k]at r;obtain⟨o,f⟩:=bu (sY h x.w.1 x.w.2 x.fq (ta v.O hn) z) d;clear d k h p;go_wp2_with (go_at_call 25;refine o.O.mono ?_;rintro e t ⟨B',rfl,i,j⟩;have l:=au i;have m:=au j;clear i j);refine ax (ew rfl _ _ _) rfl ?_;exact⟨B',by rw[f.O];rfl,by rw[f.O];exact l.O.mono z,HS.O.trans m.O⟩
  ·have d:R.act x=(R.tick.1,R.tick.2,false):=by unfold M.Room.act;simp only[k];rfl
   rw[k]at r;obtain⟨o,f⟩:=bu (K9 h v.O hN) d;clear d k h p;go_wp2_with (go_at_call 37;refine o.O.mono ?_;rintro e t ⟨B',rfl,i,j⟩;have l:=au i;have m:=au j;clear i j);refine ax (ew rfl _ _ _) rfl ?_;exact⟨B',by rw[f.O];rfl,by rw[f.O];exact l.O.mono z,HS.O.trans m.O⟩
  ·have d:R.act x=((R.gg x.jo x.s0 x.s1 x.s2).1,(R.gg x.jo x.s0 x.s1 x.s2).2,false):=by unfold M.Room.act;simp only[k];rfl
   rw[k]at r;obtain⟨o,f⟩:=bu (vZ h x.jo x.s0 x.s1 x.s2 z (Fq u.O.src.1) (Fq u.O.src.2.1) (Fq u.O.src.2.2)) d;clear d k h p;go_wp2_with (go_at_call 38;refine o.O.mono ?_;rintro e t ⟨B',rfl,i,j⟩;have l:=au i;have m:=au j;clear i j);refine ax (ew rfl _ _ _) rfl ?_;exact⟨B',by rw[f.O];rfl,by rw[f.O];exact l.O.mono z,HS.O.trans m.O⟩
  ·have d:R.act x=((R.iJ x.sub x.own x.dQ x.aU).1,(R.iJ x.sub x.own x.dQ x.aU).2,false):=by unfold M.Room.act;simp only[k];rfl
   rw[k]at r;obtain⟨o,f⟩:=bu (Ba h x.sub x.own x.dQ x.aU z (lE u.O.ok.own) (lE u.O.ok.dQ) (lE u.O.ok.aU)) d;clear d k h p;go_wp2_with (go_at_call 39;refine o.O.mono ?_;rintro e t ⟨B',rfl,i,j⟩;have l:=au i;have m:=au j;clear i j);refine ax (ew rfl _ _ _) rfl ?_;exact⟨B',by rw[f.O];rfl,by rw[f.O];exact l.O.mono z,HS.O.trans m.O⟩
  ·have d:R.act x=((R.dN x.sub x.jo x.aY).1,(R.dN x.sub x.jo x.aY).2,false):=by unfold M.Room.act;simp only[k];rfl
   rw[k]at r;obtain⟨o,f⟩:=bu (uw h x.sub x.jo x.aY u.O.sub z (λq=>by rw[<-v.O.inv.lu];exact q)) d;clear d k h p;go_wp2_with (go_at_call 40;refine o.O.mono ?_;rintro e t ⟨B',rfl,i,j⟩;have l:=au i;have m:=au j;clear i j);refine ax (ew rfl _ _ _) rfl ?_;exact⟨B',by rw[f.O];rfl,by rw[f.O];exact l.O.mono z,HS.O.trans m.O⟩
  ·have d:R.act x=((R.iy x.sub x.aY).1,(R.iy x.sub x.aY).2,false):=by unfold M.Room.act;simp only[k];rfl
   rw[k]at r;obtain⟨o,f⟩:=bu (Jb h x.sub x.aY (λq=>by rw[<-v.O.inv.lu];exact q)) d;clear d k h p;go_wp2_with (go_at_call 41;refine o.O.mono ?_;rintro e t ⟨B',rfl,i,j⟩;have l:=au i;have m:=au j;clear i j);refine ax (ew rfl _ _ _) rfl ?_;exact⟨B',by rw[f.O];rfl,by rw[f.O];exact l.O.mono z,HS.O.trans m.O⟩
  ·have d:R.act x=((R.jE x.sub).1,(R.jE x.sub).2,false):=by unfold M.Room.act;simp only[k];rfl
   rw[k]at r;obtain⟨o,f⟩:=bu (FP h x.sub z) d;clear d k h p;go_wp2_with (go_at_call 42;refine o.O.mono ?_;rintro e t ⟨B',rfl,i,j⟩;have l:=au i;have m:=au j;clear i j);refine ax (ew rfl _ _ _) rfl ?_;exact⟨B',by rw[f.O];rfl,by rw[f.O];exact l.O.mono z,HS.O.trans m.O⟩
  ·have d:R.act x=(R.fU.1,R.fU.2,false):=by unfold M.Room.act;simp only[k];rfl
   rw[k]at r;obtain⟨o,f⟩:=bu (An h) d;clear d k h p;go_wp2_with (go_at_call 43;refine o.O.mono ?_;rintro e t ⟨rfl,i,j⟩;have l:=au i;have m:=au j;clear i j);refine ax (ew rfl _ _ _) rfl ?_;exact⟨B,by rw[f.O];rfl,by rw[f.O];exact l.O.mono z,HS.O.trans m.O⟩
 ·have P:¬x.nv=0:=z;have Q:¬x.nv=1:=z;have S:¬x.nv=2:=z;have T:¬x.nv=3:=z;have U:¬x.nv=4:=z;have W:¬x.nv=5:=z;have Y:¬x.nv=6:=z;have aI:¬x.nv=7:=z;have df:¬x.nv=8:=z;have d:R.act x=(R,0,false):=by
   unfold M.Room.act;rw[if_neg P,if_neg Q,if_neg S,if_neg T,if_neg U,if_neg W,if_neg Y,if_neg aI,if_neg df]
  obtain⟨f,HR⟩:=bu d h;clear d h p k;go_wp2_with fail;refine ax (ew rfl _ _ _) rfl ?_;exact⟨B,by rw[f.O];rfl,by rw[f.O];exact HR.O.mono z,HS.O⟩
section
def Fi(w:aw)(b o:Nat)(x:M.Act):Prop:=∃d:Sl,w.rangeAt b o (jQ x d).toList/\pL w d.a d.n d.c x.b
def pZ(w:aw)(A:Option Addr)(n:Nat)(l:List M.Act):Prop:=
 l.length=n/\(∀x∈l,Nf x)/\(0<n->∃b off,A=Z ⟨b,off,I⟩/\∀(i:Nat) x,l[i]? = Z x->Fi w b (off+i*14) x)
def Fi.tc{w w':aw}{b o:Nat}{x:M.Act}(h:Fi w b o x)(a:∀g i v,w.cell? ⟨g,i,I⟩=Z v->w'.cell? ⟨g,i,I⟩=Z v):Fi w' b o x:=by
 obtain⟨c,h1,h2⟩:=h;exact⟨c,λj v d=>a _ _ _ (h1 j v d),⟨h2.len,h2.wf,λh0=>by
  obtain⟨g,off,e,k⟩:=h2.cells h0
  exact⟨g,off,e,λi f=>a _ _ _ (k i f)⟩,h2.zero⟩⟩
def pZ.tc{w w':aw}{A:Option Addr}{n:Nat}{l:List M.Act}(h:pZ w A n l)(a:∀g i v,w.cell? ⟨g,i,I⟩=Z v->w'.cell? ⟨g,i,I⟩=Z v):pZ w' A n l:=by
 obtain⟨h1,h2,h3⟩:=h;refine⟨h1,h2,λh0=>?_⟩;obtain⟨b,off,e,k⟩:=h3 h0;exact⟨b,off,e,λi x c=>(k i x c).tc a⟩
def pZ.below{w w':aw}{A:Option Addr}{n:Nat}{l:List M.Act}(h:pZ w A n l)(b:aC w w'):pZ w' A n l:=h.tc λ_ _ _ q=>aM b q
def pV:(af.info? 45).map (·.size)=Z 14:=cC
def qV(l:List M.Act):Bool:=decide (120<l.length)||l.any λx=>decide (400<x.b.length)
def xt(A:Option Addr)(n c:Nat)(l:List M.Act)(w:aw)(h:pZ w A n l):aF af 10 #[ae A n c] w λe w'=>e=av (ai (qV l))/\aC w w':=by
 obtain⟨h1,h2,h3⟩:=h;by_cases E:120<n
 ·have e:qV l=true:=by unfold qV;rw[h1,decide_eq_true E];rfl
  rw[e];clear h2 h3 e h1;go_enter func10,ntmps10;have hw:(120:Int)<(n:Int):=z;go_wp2_with fail;go_ret;exact⟨rfl,ao _ _⟩
 ·have e:qV l=l.any λx=>decide (400<x.b.length):=by unfold qV;rw[h1,decide_eq_false E];rfl
  obtain⟨res,a⟩:=dH (qV l);rw[<-a];rw[e]at a;obtain⟨F,L⟩:=bu a h3;have hw:¬(120:Int)<(n:Int):=z;clear h2 h3 e a;go_enter func10,ntmps10;go_wp2_with fail;go_loopw [10] (λi wr=>∃k:Nat,i=J V k/\k<=n/\(∀x∈l.take k,decide (400<x.b.length)=false)/\aC w wr) (λi _=>n-(bS i).toNat);case atStart=>exact⟨0,rfl,z,λx B=>by simp at B,ao _ _⟩
  case round =>
   obtain⟨k,rfl,U,u,s⟩:=hrel;by_cases N:k<n
   ·have P:((k:Int)<(n:Int)):=z;obtain⟨b,off,rfl,G⟩:=L.O z;have g:k<l.length:=z;obtain⟨p,t,H⟩:=G k l[k] (ay g);have t:wr.rangeAt b (off+k*14) (jQ l[k] p).toList:=λj v Q=>aM s (t j v Q);have hlen:=H.len;have m:l.take (k+1)=l.take k++[l[k]]:=dK g;have d:l[k]∈l:=dy g;generalize l[k]=x at t hlen m d;obtain⟨K,R,S,r,T⟩:=gY t m u s d;clear G t H m u s d;by_cases f:400<p.n
    ·have C:(400:Int)<(p.n:Int):=z;have hr:res=true:=by rw[F.O,tw];exact⟨x,T.O,decide_eq_true (by rw[hlen];exact f)⟩
     have o:=au hr;clear hr;go_wp2_with (refine gQ rfl 45 (.tmp 12) rfl b (off+k*14) rfl (jQ x p).toList _ K.O underlying45 rfl pV ?_);go_ret;exact⟨by rw[o.O];rfl,r.O.alloc r.O.size _⟩
    ·have C:¬(400:Int)<(p.n:Int):=z;go_wp2_with (refine gQ rfl 45 (.tmp 12) rfl b (off+k*14) rfl (jQ x p).toList _ K.O underlying45 rfl pV ?_);go_roundw;case rel =>
      refine⟨k+1,by go_num,z,λy hy=>?_,r.O.alloc r.O.size _⟩;rw[R.O]at hy;rcases List.mem_append.1 hy with q|q
      ·exact S.O y q
      ·simp at q;subst q;rw[hlen];exact decide_eq_false f
     case measure=>simp[bS];omega
   ·have D:k=n:=z;subst D;have hr:res=false:=by
     rw[F.O,List.any_eq_false];intro x B;have q:=u x (by rw[dC z];exact B);simpa using q
    obtain⟨r,o⟩:=bu s hr;clear s u hr;go_wp2_with fail;go_ret;exact⟨by rw[o.O];rfl,r.O⟩
structure rz(base:Nat)(w:aw)(B C:RB)(R S:M.Room)(N:Nat):Prop where
 a:aL w B R N
 b:aL w C S N
 vd:∀i,B.all i->¬C.all i
 Gr:∀i,B.all i->base<=i
 JH:∀i,C.all i->base<=i
def sM(w:aw)(B C:RB)(g:Nat):Prop:=¬B.all g/\¬C.all g/\g<w.heap.size
section
variable {base:Nat} {w w':aw} {B C B' C':RB} {R S R' S':M.Room} {N N':Nat}
def rz.lo(h:rz base w B C R S N):base<=w.heap.size:=by
 have h1:=h.Gr B.g ⟨.aG,rfl⟩;have h2:=h.a.lt B.g ⟨.aG,rfl⟩;omega
def rz.below(h:rz base w B C R S N)(b:aC w w'):rz base w' B C R S N:=⟨h.a.below b,h.b.below b,h.vd,h.Gr,h.JH⟩
def rz.mono(h:rz base w B C R S N)(k:N<=N'):rz base w B C R S N':=⟨h.a.mono k,h.b.mono k,h.vd,h.Gr,h.JH⟩
def rz.swap(h:rz base w B C R S N):rz base w C B S R N:=⟨h.b,h.a,λi q k=>h.vd i k q,h.JH,h.Gr⟩
def rz.left(h:rz base w B C R S N)(hR:aL w' B' R' N')(c:fK w w' B B')(d:N<=N'):rz base w' B' C R' S N':=
 ⟨hR,(h.b.fr c.fr λi a q=>h.vd i q a).mono d,λi a k=>by
  rcases c.own i a with q|q
  ·exact h.vd i q k
  ·have:=h.b.lt i k;omega,λi a=>by
  rcases c.own i a with q|q
  ·exact h.Gr i q
  ·have:=h.lo;omega,h.JH⟩
def rz.right(h:rz base w B C R S N)(hR:aL w' C' S' N')(a:fK w w' C C')(b:N<=N'):rz base w' B C' R S' N':=(h.swap.left hR a b).swap
def rz.fN(h:rz base w B C R S N)(a:fK w w' B B'):Below base w w':=a.fr.below h.lo h.Gr
def rz.RX(h:rz base w B C R S N)(a:fK w w' C C'):Below base w w':=a.fr.below h.lo h.JH
def sM.below{g:Nat}(h:sM w B C g)(b:aC w w'):sM w' B C g:=⟨h.1,h.2.1,iU h.2.2 b.size⟩
def sM.left{g:Nat}(h:sM w B C g)(a:fK w w' B B'):sM w' B' C g:=⟨λq=>by
 rcases a.own g q with q|q
 ·exact h.1 q
 ·have:=h.2.2;omega,h.2.1,iU h.2.2 a.fr.size⟩
def sM.swap{g:Nat}(h:sM w B C g):sM w C B g:=⟨h.2.1,h.1,h.2.2⟩
def sM.right{g:Nat}(h:sM w B C g)(a:fK w w' C C'):sM w' B C' g:=(h.swap.left a).swap
def sM.new(h:rz base w B C R S N)(b:aC w w'){g:Nat}(hg:g=w.heap.size)(c:g<w'.heap.size):sM w' B C g:=
 ⟨λq=>by have:=h.a.lt g q;omega,λq=>by have:=h.b.lt g q;omega,c⟩
def aK.Qu{g:Nat}{t:TypeId}{cs:Array Value}(a:aK w g t cs)(h:sM w B C g)(b:fK w w' B B'):aK w' g t cs:=a.OB b λi c e=>h.1 (e ▸ c)
def aK.Pm{g:Nat}{t:TypeId}{cs:Array Value}(a:aK w g t cs)(h:sM w B C g)(b:fK w w' C C'):aK w' g t cs:=a.OB b λi c e=>h.2.1 (e ▸ c)
end
structure kB(w wr:aw)(B C:RB)(R S:M.Room)(N:Nat)(bl:List (Nat×TypeId×Array Value)):Prop where
 two:rz w.heap.size wr B C R S N
 bw:aC w wr
 vN:∀x∈bl,aK wr x.1 x.2.1 x.2.2/\sM wr B C x.1
section
variable {w wr w':aw} {B C B' C':RB} {R S R' S':M.Room} {N N':Nat} {bl:List (Nat×TypeId×Array Value)}
def kB.below(h:kB w wr B C R S N bl)(b:aC wr w'):kB w w' B C R S N bl:=⟨h.two.below b,h.bw.trans (b.mono h.bw.size),λx a=>⟨(h.vN x a).1.kept b,(h.vN x a).2.below b⟩⟩
def kB.mono(h:kB w wr B C R S N bl)(k:N<=N'):kB w wr B C R S N' bl:=⟨h.two.mono k,h.bw,h.vN⟩
def kB.left(h:kB w wr B C R S N bl)(hR:aL w' B' R' N')(a:fK wr w' B B')(c:N<=N'):kB w w' B' C R' S N' bl:=
 ⟨h.two.left hR a c,h.bw.trans (h.two.fN a),λx b=>⟨(h.vN x b).1.Qu (h.vN x b).2 a,(h.vN x b).2.left a⟩⟩
def kB.right(h:kB w wr B C R S N bl)(hR:aL w' C' S' N')(a:fK wr w' C C')(c:N<=N'):kB w w' B C' R S' N' bl:=
 ⟨h.two.right hR a c,h.bw.trans (h.two.RX a),λx b=>⟨(h.vN x b).1.Pm (h.vN x b).2 a,(h.vN x b).2.right a⟩⟩
def kB.alloc(h:kB w wr B C R S N bl)(t:TypeId)(cs:Array Value){g:Nat}(hg:g=wr.heap.size):kB w (wr.alloc (.cells cs t)) B C R S N ((g,t,cs)::bl):=by
 have a:aC wr (wr.alloc (.cells cs t)):=(ao _ _).alloc (aj _) _;have k:=h.below a;refine⟨k.two,k.bw,λx b=>?_⟩;rcases fw.1 b with e|q
 ·subst e;exact⟨aK.newAt _ _ _ _ hg,.new h.two a hg (by subst hg;simp)⟩
 ·exact k.vN x q
def kB.set(h:kB w wr B C R S N bl){g:Nat}{t:TypeId}{cs:Array Value}(hm:(g,t,cs)∈bl)(h5:t≠5)(l:t≠41)(hg:w.heap.size<=g)(c:List (Nat×TypeId×Array Value))(p:∀x∈c,x∈bl/\x.1≠g)(i:Nat)(v:Value) :
  kB w (wr.setCell ⟨g,i,I⟩ v) B C R S N ((g,t,cs.setIfInBounds i v)::c):=by
 obtain⟨o,d⟩:=h.vN _ hm;have f:Fr (One g) wr (wr.setCell ⟨g,i,I⟩ v):=(Fr.refl (One g) _).setCell o (.inl rfl) h5 l i v;have k:(wr.setCell ⟨g,i,I⟩ v).heap.size=wr.heap.size:=by simp[World.setCell]
 refine⟨⟨h.two.a.fr f λj m q=>d.1 (q ▸ m),h.two.b.fr f λj m q=>d.2.1 (q ▸ m),h.two.vd,h.two.Gr,h.two.JH⟩,h.bw.trans (f.below h.bw.size λj q=>by cases q;exact hg),λx r=>?_⟩;rcases fw.1 r with e|q
 ·subst e;exact⟨o.bC i v,d.1,d.2.1,by rw[k];exact d.2.2⟩
 ·obtain⟨s,y⟩:=p x q;obtain⟨A,n⟩:=h.vN x s;exact⟨A.dW f.u λe=>y e,n.1,n.2.1,by rw[k];exact n.2.2⟩
def kB.lt(h:kB w wr B C R S N bl):∀x∈bl,x.1<wr.heap.size:=λx a=>(h.vN x a).2.2.2
def kB.get(h:kB w wr B C R S N bl){g:Nat}{t:TypeId}{cs:Array Value}(hm:(g,t,cs)∈bl):aK wr g t cs:=(h.vN _ hm).1
def kB.drop(h:kB w wr B C R S N bl){a:List (Nat×TypeId×Array Value)}(b:∀x∈a,x∈bl):kB w wr B C R S N a:=⟨h.two,h.bw,λx c=>h.vN x (b x c)⟩
end
end
section
theorem GM(R:M.Room):ei R 9=M.eX.filter λo=>(R.az o).isSome:=by
 unfold ei;rw[dC (aR:M.eX.length<=9)]
section
variable {B:RB} {R:M.Room} {N:Nat} {w:aw} (h:aL w B R N)
include h
theorem aL.MC(o:M.bN):M.pW R o<=8:=by
 unfold M.pW;split
 ·rename_i s a;obtain⟨S,_,b⟩:=h.iB a;exact b.buf.small
 ·omega
theorem zi(hN:N<1000000):aF af 27 #[aq (Z ⟨B.g,0,I⟩)] w λe w'=>e=av (aB #[J V R.waits.1,J V R.waits.2])/\aC w w':=by
 obtain⟨rs,j⟩:=dH R.waits;rw[<-j];rw[M.Dm,<-GM]at j;obtain⟨U,H,X,aI,df,HO⟩:=lH j h (re R 9) (λo ho=>rb R (o:=o) ho) (λo=>h.MC o) (qw h);clear j h;go_enter func27,ntmps27;go_wp2_with (go_at_call 71;refine HO.O.mono ?_;rintro e w1 ⟨v,rfl,own,b1⟩;obtain⟨A,c,rfl⟩:=bA own;have r:=au own;have D:=au b1;clear own b1);go_loopw [4,10] (λa i wr=>∃k m:Nat,i=J V k/\k<=(ei R 9).length/\a=J V m/\m=(((ei R 9).take k).map (M.pW R)).sum/\m<=8*k/\wr.ownsRow w.heap.size 91 2 (ae A (ei R 9).length c) (ei R 9).length ((ei R 9).flatMap zw)/\aC w wr) (λ_ i _=>(ei R 9).length-(bS i).toNat);case atStart=>exact⟨0,0,rfl,z,rfl,dt,z,r.O,D.O⟩
 case round =>
  clear r D HO;obtain⟨k,m,rfl,hk,rfl,hm,SM,own,l⟩:=hrel;have SN:=X.O;have HM:=au hm;clear hm;by_cases E:k<(ei R 9).length
  ·have SO:((k:Int)<((ei R 9).length:Int)):=z;obtain⟨r7,rfl,SP,hlen,d⟩:=wm own z;have f:(ei R 9)[k]? = Z (ei R 9)[k]:=ay E;obtain⟨k0,k1⟩:=d k _ f;obtain⟨eI,gX,t⟩:=aI.O _ (dy E);have F:(((ei R 9).take (k+1)).map (M.pW R)).sum=(((ei R 9).take k).map (M.pW R)).sum+M.pW R (ei R 9)[k]:=by rw[List.take_add_one,f];simp only[Option.toList_some,List.map_append,List.sum_append,eV,jk,List.sum_cons,List.sum_nil,Nat.add_zero]
   have u:=au F;have n:=df.O (ei R 9)[k];clear F;generalize (ei R 9)[k]=o at k0 k1 eI gX t u n;obtain⟨s,hs⟩:=Option.isSome_iff_exists.1 t;have G:M.pW R o=s.bQ.bD.length:=by unfold M.pW;rw[hs]
   rw[G]at n u;obtain⟨HS,r,p⟩:=bU hs own l;clear own l d f t hs G;go_upto_region 5 with fail;obtain⟨r6,e6⟩:=dH wr.heap.size;rw[<-e6];have al:aC wr (wr.alloc (.cells #[J V o.1,J V o.2] 91)):=(ao _ wr).alloc (aj _) _;refine aW (λY=>aK Y r6 91 #[J V o.1,J V o.2]/\Y.ownsRow w.heap.size 91 2 (ae (Z ⟨r7,0,I⟩) (ei R 9).length c) (ei R 9).length ((ei R 9).flatMap zw)/\aC w Y) ⟨aK.newAt _ _ _ _ e6,qI r.O al,p.O.trans (al.mono p.O.size)⟩ ?_;clear r p al e6 k0 k1;rintro Y ⟨b6,own,l⟩;have hR:=H.O.below l;obtain⟨S,hS,x⟩:=hR.iB HS.O;have K:=au (λW (hW:gC W S.b R.dA.eJ R.dA.cX s.bQ)=>Ho S.b R.dA.eJ R.dA.cX s.bQ W hW);have y:=hR.cw.cell 13;have y0:=b6.cell 0;have y1:=b6.cell 1;have q0:=x.cw.cell 0;simp at y y0 y1 q0;have SQ:∀W,aC Y W->W.cell? ⟨B.g,13,I⟩=Z (.map (Z B.sm)):=λW b=>aM b y;have SU:∀W,aC Y W->W.cell? ⟨r6,0,I⟩=Z (J V o.1):=λW b=>aM b y0;have SV:∀W,aC Y W->W.cell? ⟨r6,1,I⟩=Z (J V o.2):=λW b=>aM b y1;have SW:∀W,aC Y W->W.cell? ⟨S.g,0,I⟩=Z (aq (Z ⟨S.b.g,0,I⟩)):=λW b=>aM b q0;have SX:∀W,aC Y W->(Instr.lookup 55 (.map (Z B.sm)) (cg #[J V o.1,J V o.2]) false).run af W=.ok (aq (Z ⟨S.g,0,I⟩)) W:=λW b=>by
    have SK:=(hR.below b).jU o (ir ⟨z,z⟩ ⟨z,z⟩);rw[hS]at SK;exact SK
   obtain⟨mK,r,p⟩:=bU x own l;have SL:V.wrap ((m:Int)+(s.bQ.bD.length:Int))=(m:Int)+(s.bQ.bD.length:Int):=by rw[IntKind.wrap_i64];omega
   clear hR x hS own l b6 y y0 y1 q0;go_region_held3 (λW=>aC Y W) (first|(with_reducible exact eW (ao _ _))|(with_reducible exact bx)) ((go_at_call 72;refine(K.O _ (mK.O.buf.below (by assumption))).mono ?_;rintro e w9 ⟨rfl,C⟩;have C:=C.symm;subst C;have bx:=eW (ao Y.drew.heap.size Y.drew)));all_goals
    have bY:=eW (ao Y.drew.heap.size Y.drew);go_wp2_with fail;go_roundw;case rel=>exact⟨k+1,m+s.bQ.bD.length,by go_num,z,by go_num,by rw[u.O,<-HM.O],z,qI r.O bY,p.O.trans (bY.mono p.O.size)⟩
    case measure=>simp[bS];omega
  ·have SG:k=(ei R 9).length:=z;subst SG;have L:rs=(R.dm.length,m):=by rw[U.O,HM.O,cT]
   have hR:=H.O.below l;have SH:=hR.cw.cell 10;simp at SH;obtain⟨q,P,Q⟩:=hR.Qb;have T:=Q.length;obtain⟨HQ,SI,p,SJ⟩:=cA (BI B.qg B.qp R.dA.aG q wr P) T l L;clear own l hR P Q T L;go_wp2_with (go_at_call 73;refine HQ.O.mono ?_;rw[SI.O];rintro e w9 ⟨rfl,C⟩;have C:=C.symm;subst C);refine ax (ew rfl _ _ _) rfl ?_;exact⟨by rw[SJ.O];rfl,p.O⟩
end
end
namespace M
def oT:List eK->Room->Room
 |[],r=>r
 |w::l,r=>oT l (r.pick w true).1
def done:List eK->Room->Nat
 |[],r=>0
 |w::l,r=>(r.pick w true).2.toNat+done l (r.pick w true).1
def zt:∀(l:List eK) (w:eK) (r:Room),oT (l++[w]) r=((oT l r).pick w true).1
 |[],w,r=>rfl
 |a::l,w,r=>zt l w _
def BE:∀(l:List eK) (w:eK) (r:Room),done (l++[w]) r=done l r+((oT l r).pick w true).2.toNat
 |[],w,r=>by show _+0=0+_;simp[oT]
 |a::l,w,r=>by
  show _+done (l++[w]) _=_+done l _+_;rw[BE l w,<-Nat.add_assoc];rfl
def IH:∀(l:List eK) (r:Room),done l r<=l.length
 |[],r=>aj _
 |a::l,r=>by
  have:=IH l (r.pick a true).1;have h1:(r.pick a true).2.toNat<=1:=by cases(r.pick a true).2<;>decide
  show _+done l _<=l.length+1;omega
def lG.oT:∀(l:List eK) {R:Room} {G:Int->ij} {n:Nat},lG R G n->∃a,lG (oT l R) a (n+l.length)
 |[],R,G,n,h=>⟨G,h⟩
 |w::l,R,G,n,h=>by
  obtain⟨a,k⟩:=lG.oT l (h.pick w true);exact⟨a,k.more dZ⟩
end M
def Dj(R:M.Room):2<=R.dF.length:=by unfold M.Room.dF;simp
def K6{B:RB}{R:M.Room}{N:Nat}{w:aw}(h:aL w B R N)(p:Nat)(hp:aK w p 180 #[aq (Z ⟨B.g,0,I⟩)])(aI:¬B.all p){G:Int->M.ij}{n:Nat}(hk:M.lG R G n)(hn:n<=900)(hN:N<=600000)(hw:R.dF.length<=20) :
  aF af 253 #[aq (Z ⟨p,0,I⟩),J V 1] w λe w'=>∃B',e=av (J V (M.done R.dF R:Nat))/\aL w' B' (M.oT R.dF R) (N+9*R.dF.length)/\fK w w' B B':=by
 obtain⟨H,HK,SX,U⟩:=cA h hk aI hp;have Tf:=hp.lt;clear h hk aI hp;go_enter func253,ntmps253;go_wp2_with fail;go_loopw [5,9] (λd i wr=>(i=J V 0/\d=J V 0/\wr=w)\/(i=J V 1/\∃B',d=J V (M.done R.dF R:Nat)/\aL wr B' (M.oT R.dF R) (N+9*R.dF.length)/\fK w wr B B')) (λd i _=>1-(bS i).toNat);case atStart=>exact .inl ⟨rfl,rfl,rfl⟩
 case round =>
  rcases hrel with⟨rfl,rfl,he⟩ | ⟨rfl,B',rfl,hR,E⟩
  ·have he:=he.symm;subst he;have c0:=U.O.cell 0;simp at c0;have df:=au (vo H.O);go_wp2_with (go_at_call 74;refine df.O.mono ?_;rintro e w2 ⟨⟨A,m,c,rfl,Th,Ti,hW,j⟩,b2⟩;obtain⟨hlen,eI,y⟩:=hW;have h0:0<m:=(by rw[<-hlen];exact iU z (Dj R));obtain⟨b,off,rfl,gX,o⟩:=y h0;have mK:=j _ rfl;have D:=au b2;have C:=au o;have Tg:=au eI;clear y j o b2 eI);have mK:w.heap.size<=b:=mK;have SG:=H.O.lt;have HX:=au (show aL w2 B R N/\fK w w2 B B/\aK w2 p 180 #[aq (Z ⟨B.g,0,I⟩)]/\¬B.all b from⟨H.O.below D.O,fK.fN B D.O,U.O.kept D.O,λq=>by have:=SG b q;omega⟩);clear c0 df H U SG D;go_loopw [5,17] (λd i wr=>∃(k:Nat) (Bk:RB),i=J V k/\k<=m/\d=J V (M.done (R.dF.take k) R:Nat)/\aL wr Bk (M.oT (R.dF.take k) R) (N+9*k)/\fK w wr B Bk/\aK wr p 180 #[aq (Z ⟨B.g,0,I⟩)]/\¬Bk.all b/\¬Bk.all p/\b<wr.heap.size /\
    ∀i,i<m->wr.cell? ⟨b,off+i*2,I⟩=Z (J V (R.dF.getD i (0,0)).1)/\wr.cell? ⟨b,off+i*2+1,I⟩=Z (J V (R.dF.getD i (0,0)).2)) (λd i _=>m-(bS i).toNat)
   case atStart=>exact⟨0,B,rfl,z,rfl,HX.O.1,HX.O.2.1,HX.O.2.2.1,HX.O.2.2.2,SX.O,gX,C.O⟩
   case round =>
    clear HX C gX;obtain⟨k,Bk,rfl,Tj,rfl,hR,E,L,SH,SI,SY,o⟩:=hrel;by_cases SZ:k<m
    ·have Tk:((k:Int)<(m:Int)):=z;have SJ:k<R.dF.length:=z;have SK:R.dF.take (k+1)=R.dF.take k++[R.dF[k]]:=dK SJ;have l:=M.zt (R.dF.take k) R.dF[k] R;have f:=M.BE (R.dF.take k) R.dF[k] R;rw[<-SK]at l f;have Ta:=M.IH (R.dF.take k) R;have Tl:(R.dF.take k).length<=20:=by rw[List.length_take];omega
     obtain⟨G',SL⟩:=M.lG.oT (R.dF.take k) HK.O;have P:=ta SL z;obtain⟨q1,q2⟩:=o k SZ;have SM:R.dF.getD k (0,0)=R.dF[k]:=by rw[List.getD_eq_getElem?_getD,ay SJ];rfl
     rw[SM]at q1 q2;generalize M.done (R.dF.take k) R=dn at f Ta;generalize M.oT (R.dF.take k) R=Rk at hR l f P;generalize R.dF[k]=x at q1 q2 l f;obtain⟨st,s⟩:=x;simp only at q1 q2;have Tm:=hR.lt;have Tn:=E.fr.size;obtain⟨W,HS,U,C,SN,SO,SP⟩:=lV hR E L o l f P;clear hR E L o l f P SL SM SK;go_upto_region 7 with fail;obtain⟨r7,e7⟩:=dH wr.heap.size;rw[<-e7];have al:aC wr (wr.alloc (.cells #[J V st,J V s] 40)):=(ao _ _).alloc (aj _) _;refine aW (λY=>aK Y r7 40 #[J V st,J V s]/\aC wr Y) ⟨by simpa using aK.newAt _ _ _ _ e7,al⟩ ?_;clear al e7 q1 q2;rintro Y ⟨b7,X⟩;have k0:=b7.cell 0;have k1:=b7.cell 1;simp at k0 k1;have L:=U.O.kept X;have c0:=L.cell 0;simp at c0;have SQ:=W.O.below X;have Q:=HS.O.trans (fK.fN Bk X);have hg:=Q.g;have Tb:=au (SQ.below (eW (ao Y.drew.heap.size Y.drew)));have r:=au (sY Tb.O st s true SP.O z);have To:=X.size;obtain⟨Tc,SU,Td⟩:=bU Q L X;clear X b7 L SQ Q U W HS;obtain⟨bd,S⟩:=dH ((Rk.pick (st,s) true).2);rw[<-S]at r;have f:=SO.O;rw[<-S]at f;have l:=SN.O;have F:∀u B',aL u B' (Rk.pick (st,s) true).1 (N+9*k+9)->fK Y.drew u Bk B'->aL u B' (M.oT (R.dF.take (k+1)) R) (N+9*(k+1))/\fK w u B B'/\aK u p 180 #[aq (Z ⟨B.g,0,I⟩)]/\¬B'.all b/\¬B'.all p/\b<u.heap.size /\
       ∀i,i<m->u.cell? ⟨b,off+i*2,I⟩=Z (J V (R.dF.getD i (0,0)).1)/\u.cell? ⟨b,off+i*2+1,I⟩=Z (J V (R.dF.getD i (0,0)).2):=by
      intro u B' t a;have j:∀i,i<wr.heap.size->¬Bk.all i->¬B'.all i:=λi hi hn q=>by
       rcases a.own i q with q|q
       ·exact hn q
       ·have:Y.heap.size<=i:=q;omega
      have SV:∀i v,wr.cell? ⟨b,i,I⟩=Z v->u.cell? ⟨b,i,I⟩=Z v:=λi v q=>dD a.fr SH (cE (aM Td.O q));have Tp:=SU.O.lt;refine⟨by rw[l];exact t,(Tc.O.trans (fK.fN Bk (eW (ao Y.drew.heap.size Y.drew)))).trans a,SU.O.drew.OB a (λi q e=>SI (e ▸ q)),j b SY SH,j p z SI,by have:=a.fr.size;have:Y.drew.heap.size=Y.heap.size:=rfl;omega,λi hi=>⟨SV _ _ (C.O i hi).1,SV _ _ (C.O i hi).2⟩⟩
     obtain⟨K,SW⟩:=bu F f;rw[<-hg]at c0;clear f l S F SN SO SP hg;have Tq:V.wrap ((dn:Int)+1)=((dn+1:Nat):Int):=by rw[IntWalk.i64_in _ ⟨z,z⟩];omega
     cases bd with
     |true =>
      go_region_with (go_at_call 25;refine r.O.mono ?_;rintro e u ⟨B',rfl,t,a⟩;have T:=au (K.O u B' t a);clear t a);all_goals
       go_wp2_with fail;go_roundw;case rel=>exact⟨k+1,B',by go_num,z,by rw[SW.O];simp,T.O⟩
       case measure=>simp[bS];omega
     |false =>
      go_region_with (go_at_call 25;refine r.O.mono ?_;rintro e u ⟨B',rfl,t,a⟩;have T:=au (K.O u B' t a);clear t a);all_goals
       go_wp2_with fail;go_roundw;case rel=>exact⟨k+1,B',by go_num,z,by rw[SW.O];simp,T.O⟩
       case measure=>simp[bS];omega
    ·have Te:k=R.dF.length:=z;subst Te;rw[cT]at hR;obtain⟨W,HS⟩:=bu hR E;clear hR E L o;go_wp2_with fail;go_roundw;case rel=>exact .inr ⟨by go_num,Bk,by rw[cT],W.O,HS.O⟩
     case measure=>simp[bS]
  ·obtain⟨W,HS⟩:=bu hR E;clear hR E;go_wp2_with fail;go_ret;exact⟨B',rfl,W.O,HS.O⟩
def Pc(xs:M.cQ):Bool:=xs.isEmpty||xs.any λx=>decide (x=16)
def Lc(p:M.cR):Bool:=Pc p.fp&&Pc p.cF
def LZ(l:M.dP):Bool:=(l.cK.all λx=>Lc x.bW)&&((l.bF.all λx=>Lc x.1.bW)&&((l.ready.all λx=>Pc x.2)&&l.fF.all λx=>Pc x.2))
def Qg(R:M.Room):Bool:=R.dm.all Pc&&((R.aO.all λa=>Lc a.bW)&&(R.cj.isEmpty&&M.gF.all λs=>match R.aD s with | none=>true | some l=>LZ l))
def Dq{xs:M.cQ}(h:Pc xs=true):Sx xs:=by
 unfold Pc at h;rw[Bool.or_eq_true]at h;rcases h with h|h
 ·left;simpa using h
 ·right;rw[tw]at h;obtain⟨x,a,e⟩:=h;rw[decide_eq_true_iff]at e;exact e ▸ a
def FC{p:M.cR}(h:Lc p=true):KH p:=by
 unfold Lc at h;rw[cM]at h;exact⟨Dq h.1,Dq h.2⟩
def xd{R:M.Room}(h:Qg R=true)(hr:∀s,(R.aD s).isSome=true->0<=s/\s<6):Nl R:=by
 unfold Qg at h;rw[cM,cM,cM]at h;obtain⟨h1,h2,h3,h4⟩:=h;rw[iZ]at h1 h2 h4;have key:∀s l,R.aD s=Z l->LZ l=true:=λs l e=>by
  have:=hr s (by rw[e];rfl);have hm:s∈M.gF:=by
   unfold M.gF;have:s=0\/s=1\/s=2\/s=3\/s=4\/s=5:=z;rcases this with rfl|rfl|rfl|rfl|rfl|rfl<;>simp
  have c:=h4 s hm;rw[e]at c;exact c
 have key:∀s l,R.aD s=Z l->(∀x∈l.cK,KH x.bW)/\(∀x∈l.bF,KH x.1.bW)/\(∀x∈l.ready,Sx x.2)/\∀x∈l.fF,Sx x.2:=λs l e=>by
  have c:=key s l e;unfold LZ at c;rw[cM,cM,cM,iZ,iZ,iZ,iZ]at c;obtain⟨d,z2,z3,z4⟩:=c;exact⟨λx b=>FC (d x b),λx b=>FC (z2 x b),λx b=>Dq (z3 x b),λx b=>Dq (z4 x b)⟩
 exact⟨λx b=>Dq (h1 x b),λa f=>FC (h2 a f),by simpa using h3,λs l e=>(key s l e).1,λs l e=>(key s l e).2.1,λs l e=>(key s l e).2.2.1,λs l e=>(key s l e).2.2.2⟩
namespace M
def s0:Room:=.new ⟨2,2,1,1,2,1⟩
def s1:Room:=(s0.gg 0 7 8 9).1
def s2:Room:=(s1.iJ 0 50 5 100).1
def s3:Room:=(s2.dN 0 0 0).1
def dg:cQ:=(ic ⟨false,96,1,9,7,[],false,0,[],[16,0]⟩).1
def s4:Room:=(s3.fT dg).1
def s5:Room:=oT s4.dF s4
def Rh:(s0.gg 0 7 8 9).2=0:=cC
def Re:(s1.iJ 0 50 5 100).2=0:=cC
def Rb:(s2.dN 0 0 0).2=0:=cC
def Q9:(s3.fT dg).2=0:=cC
def QG:dg=[128,96,0,1,0,0,0,9,0,0,0,7,16,0]:=cC
def NC:s4.dF=[(0,0),(1,0),(2,0),(3,0),(4,0)]:=cC
def QZ:done s4.dF s4=5:=cC
def Ja:kA s5 0=[(0,[128,96,0,5,0,0,0,100,0,0,0,50,16,0])]:=cC
def Qj:(eP [128,96,0,5,0,0,0,100,0,0,0,50,16,0]).1.dQ=5/\(eP [128,96,0,5,0,0,0,100,0,0,0,50,16,0]).1.aU=100:=⟨cC,cC⟩
def Sy:Int->ij:=λ_=>⟨0,0,0,0,[],[],[]⟩
def Qm:lG s0 Sy 0:=lG.start _ aR _
def Ql:∃G,lG s1 G 1:=⟨_,Qm.act ⟨3,0,0,0,[],(0,0),false,0,0,0,7,8,9⟩ ⟨λ_ h=>(by cases h),dt,dt,dt⟩ dt⟩
def Pk:∃G,lG s2 G 2:=by
 obtain⟨G,h⟩:=Ql;exact⟨_,h.act ⟨4,0,0,0,[],(0,0),false,50,100,5,0,0,0⟩ ⟨λ_ h=>(by cases h),dt,dt,dt⟩ dt⟩
def Qk:∃G,lG s3 G 3:=by
 obtain⟨G,h⟩:=Pk;exact⟨_,h.act ⟨5,0,0,0,[],(0,0),false,0,0,0,0,0,0⟩ ⟨λ_ h=>(by cases h),dt,dt,dt⟩ dt⟩
def Pj:∃G,lG s4 G 4:=by
 obtain⟨G,h⟩:=Qk;exact⟨_,h.act ⟨0,0,0,0,dg,(0,0),false,0,0,0,0,0,0⟩ ⟨λx h=>(by rw[QG]at h;simp at h;omega),dt,dt,dt⟩ dt⟩
def QY:∃G,lG s5 G 9:=by
 obtain⟨G,h⟩:=Pj;obtain⟨a,k⟩:=lG.oT s4.dF h;rw[NC]at k;refine⟨a,?_⟩;unfold s5;rw[NC];exact k
end M
def Ri:Nl M.s0:=xd cC M.Qm.wf.uf
def Rf:Nl M.s1:=by obtain⟨G,h⟩:=M.Ql;exact xd cC h.wf.uf
def Rc:Nl M.s2:=by obtain⟨G,h⟩:=M.Pk;exact xd cC h.wf.uf
def Ra:Nl M.s3:=by obtain⟨G,h⟩:=M.Qk;exact xd cC h.wf.uf
def Q8:Nl M.s4:=by obtain⟨G,h⟩:=M.Pj;exact xd cC h.wf.uf
def QX:Nl M.s5:=by obtain⟨G,h⟩:=M.QY;exact xd cC h.wf.uf
structure Env(w:aw):Prop where
 max:∃m,w.cell? ⟨0,0,I⟩=Z (J V m)
 Qa:qM af w "internal/strconv.uint64pow10" .u64 Lib.pow10Tab
def I1{w w':aw}{B:Nat}{name:String}{k:IntKind}{zs:List Int}(h:qM af w name k zs)(b:Below B w w')(hg:∀g,af.globalNamed name=Z g->g<B):qM af w' name k zs:=by
 unfold qM World.var? at *;cases a:af.globalNamed name with
 |none=>simp[a]at h
 |some g =>
  simp only[a,Option.bind_some]at h ⊢;rw[b.block g (hg g a)];exact h
def Pb{w:aw}{name:String}{k:IntKind}{zs:List Int}(h:qM af w name k zs):∀g,af.globalNamed name=Z g->g<w.heap.size:=by
 intro g b;unfold qM World.var? at h;simp only[b,Option.bind_some]at h;rcases Nat.lt_or_ge g w.heap.size with a|a
 ·exact a
 ·rw[Array.getElem?_eq_none a]at h;simp at h
def Env.below{w w':aw}(h:Env w)(b:aC w w'):Env w':=by
 obtain⟨m,hm⟩:=h.max;exact⟨⟨m,aM b hm⟩,I1 h.Qa b (Pb h.Qa)⟩
def Nk(n:Int):ByteArray:=⟨(Lib.itoa n).toArray⟩
def Mn{w:aw}(h:Env w)(n:Int)(b:0<=n/\n<=1000):aF af 136 #[J V n] w λe w'=>e=av (.string (Nk n))/\aC w w':=by
 refine(Tryz.strconv_Itoa n z z w h.Qa).mono ?_;rintro e w' ⟨rfl,k,os,rfl⟩;refine⟨rfl,⟨rfl,rfl,rfl,?_,λi a=>?_⟩⟩
 ·simp[Go.Sort.grow]
 ·unfold Go.Sort.grow;simp only[World.drewN];rw[Array.getElem?_append_left a]
def QH:iI 5=[53]:=by unfold iI;rfl
def RW:iI 0=[48]:=by unfold iI;rfl
def PI:iI 100=[49,48,48]:=by
 unfold iI;rw[dif_neg aR];unfold iI;rw[dif_neg aR];unfold iI;rw[dif_pos aR];rfl
def Sh:Nk 5=⟨#[53]⟩:=by unfold Nk;rw[show Lib.itoa 5=iI 5 from rfl,QH]
def Si:Nk 0=⟨#[48]⟩:=by unfold Nk;rw[show Lib.itoa 0=iI 0 from rfl,RW]
def OJ:Nk 100=⟨#[49,48,48]⟩:=by unfold Nk;rw[show Lib.itoa 100=iI 100 from rfl,PI]
abbrev answer:ByteArray:=⟨#[48,58,53,58,49,48,48]⟩
def CC:Gh (0,[128,96,0,5,0,0,0,100,0,0,0,50,16,0])=[0,5,100]:=by
 unfold Gh;rw[M.Qj.1,M.Qj.2];rfl
def Iw:s8 Nk (0,[128,96,0,5,0,0,0,100,0,0,0,50,16,0])=answer:=by
 unfold s8;rw[CC];simp only[eV,jk,Si,Sh,OJ];rfl
def NZ:(⟨(Lib.join (((M.kA M.s5 0).map (s8 Nk)).map (·.data.toList)) vD.data.toList).toArray⟩:ByteArray)=answer:=by
 rw[M.Ja];simp only[eV,jk,Iw];rfl
def IZ{B:RB}{N:Nat}{w:aw}(h:aL w B M.s4 N)(p:Nat)(hp:aK w p 180 #[aq (Z ⟨B.g,0,I⟩)])(a:¬B.all p)(l:N<=500000)(bk o c:Nat)(m:w.cell? ⟨bk,o,I⟩=Z (J V 1)) :
  aF af 205 #[aq (Z ⟨p,0,I⟩),.string ⟨#[116,117,114,110]⟩,ae (Z ⟨bk,o,I⟩) 1 c] w λe w'=>∃B',e=av (.string ⟨#[53]⟩)/\aL w' B' M.s5 (N+45)/\fK w w' B B':=by
 obtain⟨G,b⟩:=M.Pj;have ht:=K6 h p hp a b z z (by rw[M.NC];decide);rw[M.QZ]at ht;have he:N+9*M.s4.dF.length=N+45:=by rw[M.NC];rfl
 rw[he]at ht;have f:=hp.cell 0;simp at f;have i:=au ht;clear ht b h hp a he;go_enter func205,ntmps205;go_upto_region 16 with fail;have h5:=λW:aw=>Tryz.strconv_Itoa_small 5 aR W;rw[QH]at h5;have j:=au h5;clear h5;go_wp2_with (first
  |(go_at_call 253;refine i.O.mono ?_;rintro e w2 ⟨B',rfl,hR,d⟩;have k:=au hR;have HS:=au d;clear hR d)
  |(go_at_call 136;refine(j.O _).mono ?_;rintro e w3 ⟨rfl,rfl⟩))
 go_ret;exact⟨B',rfl,k.O,HS.O⟩
def FA{B:RB}{N:Nat}{w:aw}(h:aL w B M.s5 N)(p:Nat)(hp:aK w p 180 #[aq (Z ⟨B.g,0,I⟩)])(k:N<=500000)(he:Env w)(bk o c:Nat)(l:w.cell? ⟨bk,o,I⟩=Z (J V 0)) :
  aF af 205 #[aq (Z ⟨p,0,I⟩),.string ⟨#[119,114,111,116,101]⟩,ae (Z ⟨bk,o,I⟩) 1 c] w λe w'=>e=av (.string answer)/\aC w w':=by
 have hw:=IN h p (aq I) hp 0 aR z Nk (λx a n d W b=>by
  rw[M.Ja]at a
  simp only[fw,tt,or_false]at a
  subst a
  rw[CC]at d
  simp only[fw,tt,or_false]at d
  exact Mn (he.below b) n z) (by rw[M.Ja];decide) (by rw[M.Ja];decide) (λx a=>by
  rw[M.Ja]at a
  simp only[fw,tt,or_false]at a
  subst a
  rw[CC]
  simp only[eV,jk,Si,Sh,OJ]
  decide) (by
  rw[M.Ja]
  simp only[eV,jk,Iw]
  decide)
 rw[NZ]at hw;have f:=hp.cell 0;simp at f;have i:=au hw;clear hw h hp he;go_enter func205,ntmps205;go_upto_region 24 with fail;go_wp2_with (go_at_call 255;refine i.O.mono ?_;rintro e w2 ⟨rfl,b2⟩;have j:=au b2;clear b2);go_ret;exact⟨rfl,j.O⟩
end Go.Proofs.YtkfblammcilfhaaGreatDoor
