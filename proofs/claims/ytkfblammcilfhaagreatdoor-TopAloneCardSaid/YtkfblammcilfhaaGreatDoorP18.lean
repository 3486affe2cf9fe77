import Derived.Test.YtkfblammcilfhaaGreatDoorP3
import Derived.Test.YtkfblammcilfhaaGreatDoorP14
import Derived.Test.YtkfblammcilfhaaGreatDoorP15
set_option linter.all false
set_option maxRecDepth 100000
set_option maxHeartbeats 100000000
open Go.ChangeShapes Go.WideShapes Go.ChangeAt Go.RowKit Go.Proofs.Tryz
open Go renaming World->aw,Calls->aF,bodyPost_ret->ax,results_none->bT,bodyPost_end->dq,info_parts->cY,wpList_append_own->dM,yieldsIf_load_mid->eS,wpAnyH_ready->cH
open Go.Proofs.Tryz renaming prog->af
open Go.RowKit.Below renaming refl->ao,setCell->gT
open Nat renaming le_refl->aj,le_succ->cZ,zero_add->cO,le_trans->aP
open List renaming getElem?_eq_some_iff->aS,take_length->cT,getElem?_eq_getElem->ay,getElem_mem->dy
open Go.RowKit renaming intOf->bS
open Go.Value renaming int->J,slice->ae,bool->ai,pointer->aq,tuple->aB,agg->cg
open Go.Act renaming put->aA
open Go.AllReadyH renaming cons->bH,nil->cy
open Go.IntKind renaming i64->V,u32->ar,u8->bI
open Go.Ending renaming returned->av
open Option renaming none->I,some->Z
namespace Go.Proofs.YtkfblammcilfhaaGreatDoor
section
theorem NF(R:M.Room)(b:M.cQ)(q:List M.cQ)(a:R.dm=b::q):R.read =
  if M.control b then Il { R with dm:=q } b else if(M.eP b).2≠0 then M.Room.count { R with dm:=q } (λc=>{ c with cI:=c.cI+1 })
  else match R.cW (M.eP b).1.bJ with | none=>M.Room.count { R with dm:=q } (λc=>{ c with gR:=c.gR+1 }) | some o=>M.Room.je { R with dm:=q } o (M.eP b).1:=by
 unfold M.Room.read;rw[a];rfl
section
variable {B:RB} {R:M.Room} {N:Nat} {w:aw} (h:aL w B R N)
include h
theorem Je(st s0:Int)(a:Bool)(b:M.cQ)(q:List M.cQ)(hq:R.dm=b::q)(hk:np R)(SK:∀s,R.di s R.aO.length=I)(SV:∀x o,R.cW x=Z o->(R.az o).isSome=true)
  (SW:∀o,(R.az o).isSome=true->(0<=o.1/\o.1<3)/\0<=o.2/\o.2<3) (hN:N<800000) :
  aF af 66 #[aq (Z ⟨B.g,0,I⟩),cg #[J V st,J V s0],ai a] w (kk B w (aB #[]) R.read (N+9)):=by
 obtain⟨res,k⟩:=dH R.read;rw[<-k];rw[NF R b q hq]at k;have u:=h.Qb;rw[hq]at u;obtain⟨SX,SH,HK,Tj,Tk,Tl,H0⟩:=lV u k hk SK SV SW h;clear h k hq u hk SK SV SW;go_enter func66,ntmps66;go_upto_region 1 with fail;have C:aC w (w.alloc (.cells #[J V st,J V s0] 40)):=(ao _ w).alloc (aj _) _;refine aW (λX=>aL X B R N/\wT X B.qg B.qp R.dA.aG (b::q)/\aC w X) ⟨H0.O.below C,SX.O.below C,C⟩ ?_;clear C H0 SX;rintro X ⟨h,u,C⟩;have SY:=h.cw.cell 10;simp at SY;obtain⟨HP,H,HA⟩:=bU (Of u) h C;clear h u C;go_upto_region 2 with(go_big_may;go_at_call 120;refine HP.O.mono ?_;rintro e w1 ⟨sl,rfl,hb,D,hD,f⟩;have HB:=au (And.intro hb D);have HD:=au (And.intro hD f);clear hb D hD f SY)
 obtain⟨d,E⟩:=dH ({ R with dm:=q }:M.Room);have A:=H.O.vF HD.O.2 HD.O.1;rw[<-E]at A;have SZ:np d:=by rw[E];exact⟨HK.O.iJ,HK.O.range,HK.O.sub⟩
 have k:=SH.O;rw[<-E]at k;have SL:d.cW=R.cW/\d.az=R.az/\d.di=R.di/\d.aO=R.aO/\d.bp=R.bp:=by rw[E];exact⟨rfl,rfl,rfl,rfl,rfl⟩
 rw[<-SL.1]at k;obtain⟨F,Bj,Ta⟩:=bU SL k SZ;have Tb:=(fK.fN B HA.O).trans A.2;obtain⟨H1,SM⟩:=bu A.1 Tb;obtain⟨hb,D⟩:=HB.O;have Bm:=au (EE sl.a sl.n sl.c b w1 hb.tl);clear A E SZ k SL Tb SH HK H HA HD HP hb;obtain⟨ct,Tc⟩:=dH (M.control b);rw[<-Tc]at Bm Bj;clear Tc;cases ct with
 |true =>
  have hr:res=Il d b:=Bj.O;have Cj:=au hr;clear hr;go_upto_region 3 with(go_big_may;go_at_call 121;refine Bm.O.mono ?_;rintro e w2 ⟨rfl,j,hj⟩;have bj:aC w1 w2:=(by rw[hj];exact cd (ao _ _) j);have m:=au bj;clear hj bj)
  have HT:=au (Jd (H1.O.below m.O) sl b (HB.O.1.below m.O) D Ta.O z);go_wp2_with (go_at_call 122;refine HT.O.mono ?_;rintro e w3 ⟨B',rfl,G,K⟩;have SN:=au G;have SO:=au K;clear G K);first
   |refine ax (bT results66 _ _ _) rfl ?_
   |refine dq (bT results66 _ _ _) rfl ?_
  exact⟨B',rfl,by rw[Cj.O];exact SN.O.mono z,(SM.O.trans (fK.fN B m.O)).trans SO.O⟩
 |false =>
  have hr:res=if(M.eP b).2≠0 then M.Room.count d (λc=>{ c with cI:=c.cI+1 })
   else match d.cW (M.eP b).1.bJ with | none=>M.Room.count d (λc=>{ c with gR:=c.gR+1 }) | some o=>M.Room.je d o (M.eP b).1:=Bj.O
  have SP:=λW (hW:TB W sl.a sl.n b)=>wF sl.a sl.n sl.c b W hW HB.O.1.zero z;generalize M.eP b=hd at hr SP;obtain⟨p,er⟩:=hd;obtain⟨Td,Cj⟩:=bu SP hr;clear hr SP Bj;go_upto_region 4 with(go_big_may;go_at_call 121;refine Bm.O.mono ?_;rintro e w2 ⟨rfl,j,hj⟩;have bj:aC w1 w2:=(by rw[hj];exact cd (ao _ _) j);have m:=au bj;clear hj bj)
  go_upto_region 5 with(go_big_may;go_at_call 16;refine(Td.O _ (HB.O.1.below m.O).tl).mono ?_;rintro e w3 ⟨⟨sp,ep,yp,rfl,l⟩,b3⟩;have L:=au l;have Te:=au b3;clear l b3)
  obtain⟨r8,e8⟩:=dH w3.heap.size;rw[<-e8];have bl:=m.O.trans (Te.O.mono m.O.size);have C:aC w1 (w3.alloc (.cells (uA p sp ep yp) 76)):=bl.alloc bl.size _;have n8:∀i,B.all i->i≠r8:=λi hi=>by have:=H1.O.lt i hi;have:=bl.size;omega
  have Ts:=au n8;refine aW (λY=>aK Y r8 76 (uA p sp ep yp)/\aL Y B d N/\iT Y p sp ep yp/\fK w Y B B) ⟨aK.newAt _ _ _ _ e8,H1.O.below C,L.O.below ((ao _ _).alloc (aj _) _),SM.O.trans (fK.fN B C)⟩ ?_;clear e8 bl C n8 H1 SM L Te m Bm Td HB D;rintro Y ⟨b8,h,l,hS⟩;obtain⟨H,HS,v,L⟩:=cA h hS b8 l;have n1:=h.et.cI;have n2:=h.et.gR;by_cases h0:er=0;rotate_left
  ·have SK:(er==0)=false:=by simpa using h0
   have hr:=Cj.O;rw[if_pos h0]at hr;have P:=au hr;have Tm:=h.cw.cell 17;have f17:=h.cw.frozen 17;simp at Tm;clear hr h0 b8 h l hS;go_wp2_with fail;have A:=H.O.ri 17 (λc=>{ c with cI:=c.cI+1 }) (J V (d.bp.cI+1)) rfl { H.O.et.mono (cZ N) with cI:=by show 0<=d.bp.cI+1/\d.bp.cI+1<=((N+1:Nat):Int);omega };first
    |refine ax (bT results66 _ _ _) rfl ?_
    |refine dq (bT results66 _ _ _) rfl ?_
   exact⟨B,rfl,by rw[P.O];exact A.1.mono z,HS.O.trans A.2⟩
  subst h0;have hr:res=match d.cW p.bJ with | none=>M.Room.count d (λc=>{ c with gR:=c.gR+1 }) | some o=>M.Room.je d o p:=Cj.O
  have Tn:=l.bJ;have To:(Lit.int ar p.bJ).wf=true:=Ca Tn;have hD:=h.below (eW (ao Y.drew.heap.size Y.drew));have Tf:=λW (hW:aL W B d N)=>MH B.t d.cW d.aQ d.bh N W (hW.part .table) p.bJ To;have Cm:=h.cw.cell 11;have k4:=b8.cell 4;simp at Cm k4;obtain⟨y,P⟩:=bu Tf hr;clear hr Tf hD b8 h l hS;generalize Q:d.cW p.bJ=of at y P;obtain⟨⟨T,U⟩,ho⟩:∃A:Int×Int,A=of.getD (0,0):=⟨_,rfl⟩;obtain⟨is,r⟩:=dH (of.isSome:Bool);rw[<-ho,<-r]at y;have y:Hd (∀W,aL W B d N->aF af 123 #[aq (Z ⟨B.t.g,0,I⟩),J ar p.bJ] W λe w'=>e=av (aB #[cg #[J V T,J V U],ai is])/\aC W w'):=y;have Tg:=au (And.intro Q (And.intro ho r));clear Q ho r;go_upto_region 7 with fail;go_cut [10,11] (λa b wc=>∃S,a=aq (Z ⟨S,0,I⟩)/\b=ai is/\aK wc S 91 #[J V T,J V U]/\aK wc r8 76 (uA p sp ep yp)/\aC Y wc);case first =>
   have hC:∀W,aC Y W->W.cell? ⟨B.g,11,I⟩=Z (aq (Z ⟨B.t.g,0,I⟩)):=λW b=>aM b Cm;have Tt:∀W,aC Y W->W.cell? ⟨r8,4,I⟩=Z (J ar p.bJ):=λW b=>aM b k4;clear Cm k4;go_region_held3 (λW=>aC Y W) (first
    |(with_reducible exact eW (ao _ _))
    |(with_reducible exact bx)
    |(exact Below.alloc (by assumption) (Below.size (by assumption)) _)
    |(exact(gT (gT (by assumption) (p:=⟨_,_,I⟩) (by first|exact aj _|exact bx.size) _) (p:=⟨_,_,I⟩) (by first|exact aj _|exact bx.size) _)))
    ((go_at_call 123;refine(y.O _ (H.O.below (by assumption))).mono ?_;rintro e w9 ⟨rfl,b9⟩;have bx:aC Y w9:=Below.trans (by assumption) (b9.mono (Below.size (by assumption)));first|(have z9:aK w9 Y.heap.size 91 #[J V 0,J V 0]:=(by with_reducible exact MK b9);have Tp:=au z9;have j0:=z9.cell 0;have j1:=z9.cell 1;have g0:=z9.frozen 0;have g1:=z9.frozen 1;simp at j0 j1;clear z9 b9)|clear b9))
   all_goals
    go_wp2_with fail;go_meet;have Th:r8≠Y.heap.size:=by have:=v.O.lt;omega
    first
     |exact⟨_,rfl,rfl,aK.new _ _ _,(v.O.kept bx).alloc _,bx.alloc bx.size _⟩
     |exact⟨_,rfl,rfl,by simpa using(Tp.O.bC 0 (J V T)).bC 1 (J V U),((v.O.kept bx).dS (p:=⟨Y.heap.size,0,I⟩) Th _).dS (p:=⟨Y.heap.size,1,I⟩) Th _,(bx.setCell (p:=⟨Y.heap.size,0,I⟩) (aj _) _).setCell (p:=⟨Y.heap.size,1,I⟩) (aj _) _⟩
  case rest =>
  obtain⟨S,rfl,rfl,Gj,b8,bY⟩:=hcut;have h:=H.O.below bY;have l:=L.O.below bY;have SG:=HS.O.trans (fK.fN B bY);clear H HS v L y Cm k4;have n2:=h.et.gR;cases of with
  |none =>
   obtain⟨_,ho,r⟩:=Tg.O;subst r;have hr:res=M.Room.count d (λc=>{ c with gR:=c.gR+1 }):=P.O;obtain⟨SQ,H,HS⟩:=bU hr h SG;have Tq:=h.cw.cell 18;have f18:=h.cw.frozen 18;simp at Tq;clear hr h SG Gj b8 l bY ho;go_wp2_with fail;have A:=H.O.ri 18 (λc=>{ c with gR:=c.gR+1 }) (J V (d.bp.gR+1)) rfl { H.O.et.mono (cZ N) with gR:=by show 0<=d.bp.gR+1/\d.bp.gR+1<=((N+1:Nat):Int);omega };first
    |refine ax (bT results66 _ _ _) rfl ?_
    |refine dq (bT results66 _ _ _) rfl ?_
   exact⟨B,rfl,by rw[SQ.O];exact A.1.mono z,HS.O.trans A.2⟩
  |some o =>
   obtain⟨Q,ho,r⟩:=Tg.O;subst r;replace ho:(T,U)=o:=ho;subst ho;have hr:res=M.Room.je d (T,U) p:=P.O;have SU:(d.az (T,U)).isSome=true:=by rw[F.O.2.1];exact Tk.O p.bJ (T,U) (by rw[<-F.O.1];exact Q)
   obtain⟨s1,Ti⟩:=Option.isSome_iff_exists.1 SU;have SI:=Tl.O (T,U) (by rw[<-F.O.2.1];exact SU);have SJ:=Dz h (T,U) p sp ep yp s1 Ti l Ta.O (by rw[F.O.2.2.1,F.O.2.2.2.1];exact Tj.O) SI z;have k0:wc.cell? ⟨S,0,I⟩=Z (J V T):=Gj.cell 0;have k1:wc.cell? ⟨S,1,I⟩=Z (J V U):=Gj.cell 1;obtain⟨v,SQ,HS,Tr⟩:=cA b8 hr SG SJ;clear hr h SG Gj b8 l bY Q SU Ti SI SJ;go_wp2_with (first|(refine lI _ rfl (.tmp 8) 76 rfl r8 0 76 _ rfl (uA p sp ep yp) _ underlying76 Tryz.zf v.O (λj _=>by rw[cO]) ?_)|(go_at_call 124;refine Tr.O.mono ?_;rintro e w9 ⟨B',rfl,G,K⟩;have SN:=au G;have SO:=au K;clear G K));first
    |refine ax (bT results66 _ _ _) rfl ?_
    |refine dq (bT results66 _ _ _) rfl ?_
   exact⟨B',rfl,by rw[SQ.O];exact SN.O,HS.O.trans SO.O⟩
end
end
section
theorem LF(w:aw):∀(x:Nat×M.cQ) c,mG w x c->∀u∈c,u.oneCell'=true:=by
 rintro x c ⟨b,rfl,_⟩ u hu;simp at hu;rcases hu with rfl|rfl<;>rfl
theorem DP(w:aw):∀(x:Nat×M.cQ) c,mG w x c->c.length=2:=by
 rintro x c ⟨b,rfl,_⟩;rfl
theorem CV(v:Value)(n:Nat)(l:List (Nat×M.cQ))(q:List (List Value))(w:aw)(own:w.ownsRow 0 80 2 v n q.flatten)(fit:Fit (mG w) l q)(G:n<=1000000) :
  aF af 81 #[v] w λe w'=>∃s,e=av s/\w'.ownsRow w.heap.size 80 2 s n q.flatten/\aC w w':=by
 obtain⟨i0,t,f,h,i⟩:=cY wu;obtain⟨B,k,m,o⟩:=cA t f h i;clear t f h i;have a:=fit.one (LF w);have hlen:=own.1;rcases own.2 with⟨rfl,rfl⟩ | ⟨g,cap,dx,rfl,_⟩
 ·have he:∀W:aw,(binOp .eql 63 (ae I 0 0) (ae I 0 0)).run af W=.ok (ai true) W:=λ_=>rfl;have ky:w.ownsRow w.heap.size 80 2 (ae I 0 0) 0 q.flatten:=⟨hlen,.inl ⟨rfl,rfl⟩⟩;have p:=au ky;clear own ky a hlen fit;go_enter func81,ntmps81;go_wp2_with fail;go_ret;exact⟨_,rfl,p.O,ao _ _⟩
 ·have he:∀W:aw,(binOp .eql 63 (ae (Z ⟨g,0,I⟩) n cap) (ae I 0 0)).run af W=.ok (ai false) W:=λ_=>rfl;have b:=sZ (aK.new w 80 #[]) (base:=w.heap.size) (e:=80) (size:=2) (aj _);have x:=((ao w.heap.size w).alloc (aj _) (.cells #[] 80));have y:∀j u,q.flatten[j]? = Z u->(w.alloc (.cells #[] 80)).cell? ((⟨g,0,I⟩:Addr).add j)=Z u:=λj u hu=>by
   have r:j<n*2:=by rw[<-hlen];exact(aS.1 hu).1
   have e:=own.cellAt j r;rw[hu]at e;rw[add_lit,cO];exact ea e
  obtain⟨C,D,E,H1⟩:=cA y hlen x a;clear y hlen x own a fit;go_enter func81,ntmps81;go_wp2_with (at_builtin;go_loud (refine dM _ rfl _ _ 63 rfl w.heap.size 80 i0 vh 2 32 underlying63 B.O k.O m.O o.O rfl aR _ _ _ rfl b ⟨g,0,I⟩ n cap q.flatten rfl D.O C.O H1.O ?c3 ?c4 ?c5 ?_));case c3=>unfold maxLen;omega
  case c4=>omega
  case c5=>simp
  intro v5 w5 c g5 _;have d:w5.ownsRow w.heap.size 80 2 v5 n q.flatten:=by simpa using c
  have A:aC w w5:=E.O.grown g5 dt (λj r=>by have:=(b.lt j r).1;omega);obtain⟨p,F⟩:=bu d A;clear b c d g5 A;go_wp2_with fail;go_ret;exact⟨_,rfl,p.O,F.O⟩
theorem Di(B:LB)(aG:Nat)(aT:Int)(l:M.dP)(N:Nat)(w:aw)(h:ca w B aG aT l N)(hN:N<=1000000) :
  aF af 36 #[aq (Z ⟨B.g,0,I⟩)] w λe w'=>∃(v:Value) (q:List (List Value)),e=av v/\w'.ownsRow w.heap.size 80 2 v l.fF.length q.flatten/\Fit (mG w') l.fF q/\aC w w':=by
 obtain⟨q0,C,f⟩:=h.fF;have c0:=h.cw.cell 0;simp at c0;have SG:=h.small;obtain⟨F,G⟩:=bu (CV B.ov l.fF.length l.fF q0 w C f z) f;clear h C f;go_enter func36,ntmps36;go_wp2_with (go_at_call 81;refine F.O.mono ?_;rintro e w1 ⟨v,rfl,own,b1⟩;obtain⟨A,c,rfl⟩:=bA own;have HW:=au own;have E:=au b1;clear own b1);go_loopw [4,12] (λ_ i wr=>∃(k:Nat) (q:List (List Value)),i=J V k/\k<=l.fF.length/\wr.ownsRow w.heap.size 80 2 (ae A l.fF.length c) l.fF.length q.flatten/\Fit (mG wr) l.fF q/\aC w wr) (λ_ i _=>l.fF.length-(bS i).toNat);case atStart=>exact⟨0,q0,rfl,z,HW.O,G.O.mono (λx c k=>k.rows (.bn E.O)),E.O⟩
 case round =>
  clear HW E G F c0;obtain⟨k,q,rfl,hk,own,fit,H⟩:=hrel;by_cases T:k<l.fF.length
  ·obtain⟨x,d,hx,U,b,rfl,W,X,hi⟩:=fit.MD T;obtain⟨r,cap,Y,SH,m⟩:=jZ own (fit.len (DP wr)) z;injection Y with Y e2 e3
   subst Y e3;have k1:=m k _ U 1 z;simp at k1;have fz:=λj=>own.frozenAt j;have SI:=H.size;obtain⟨K,HX,Bj,o,s,u,SJ⟩:=lV (mC b.a b.n b.c x.2 wr W.tl z W.zero) hx U own fit H fz;clear hx U own fit H m fz W;go_wp2_with fail;refine K.O.mono ?_;rintro e w4 ⟨⟨R,S,rfl,hT,hle,Bm,hz⟩,b4⟩;have t:=qI o.O b4;have SK:=t.frozenAt (k*2+1);have d1:=aM b4 k1;obtain⟨L,P,Cj⟩:=bU t b4 (⟨hT,hle,Bm,hz⟩:Sl.B w4 ⟨R,b.n,S⟩ x.2);clear t b4 hT;go_wp2_with fail;go_roundw;case rel =>
    have D:Fit (mG w4) l.fF q:=s.O.mono λy d Cm=>Cm.rows (.bn P.O);obtain⟨dx,hB,Gj⟩:=Iu L.O;have Q:Rows w4 (w4.setCell ⟨r,k*2+1,I⟩ (ae R b.n S)):=(Rows.refl w4).setCell hB aR aR _ _;have st:=(L.O.stored (k*2+1) (ae R b.n S)).1;rw[zP (D.len (DP w4)) k 1 _ _ z Bj.O]at st;refine⟨k+1,_,by go_num,z,st,?_,((u.O.trans (P.O.mono u.O.size)).setCell (p:=⟨r,k*2+1,I⟩) Gj _)⟩;exact(D.mono λy d Cm=>Cm.rows Q).set HX.O ⟨⟨R,b.n,S⟩,rfl,Cj.O.rows (.inl rfl) Q,X,hi⟩
   case measure=>simp[bS];omega
  ·obtain⟨o,s,u⟩:=bU own fit H;clear own fit H;go_wp2_with fail;go_ret;exact⟨_,q,rfl,o.O,s.O,u.O⟩
section
variable {B:RB} {R:M.Room} {N:Nat} {w:aw} (h:aL w B R N)
include h
theorem tL(s:Int)(k:(Lit.int V s).wf=true)(m:N<=1000000):aF af 13 #[aq (Z ⟨B.g,0,I⟩),J V s] w λe w'=>∃(v:Value) (q:List (List Value)),e=av v/\w'.ownsRow w.heap.size 80 2 v (M.kA R s).length q.flatten/\Fit (mG w') (M.kA R s) q/\aC w w':=by
 have d:=h.cw.cell 12;simp at d;have a:=h.uS s k;cases b:R.aD s with
 |none =>
  have c:M.kA R s=[]:=by unfold M.kA;rw[b]
  rw[b,h.CG b]at a;simp only[Option.map_none,Option.getD_none,Option.isSome_none]at a;rw[c];clear h b c;go_enter func13,ntmps13;go_wp2_with fail;go_ret;exact⟨ae I 0 0,[],rfl,⟨rfl,.inl ⟨rfl,rfl⟩⟩,trivial,ao _ _⟩
 |some l =>
  obtain⟨L,f,i⟩:=h.jq b;rw[b,f]at a;have j:(Instr.lookup 54 (.map (Z B.lm)) (J V s) true).run af w=.ok (aB #[aq (Z ⟨L.g,0,I⟩),ai true]) w:=a;have c:M.kA R s=l.fF:=by unfold M.kA;rw[b]
  rw[c];have n:=au (Di L R.dA.aG R.dA.aT l N w i m);clear h i b f a c;go_enter func13,ntmps13;go_wp2_with (go_at_call 36;refine n.O.mono ?_;rintro e w1 ⟨v,q,rfl,own,fit,b1⟩;have o:=au own;have p:=au fit;have r:=au b1;clear own fit b1);go_ret;exact⟨v,q,rfl,o.O,p.O,r.O⟩
end
end
section
def rS(R:M.Room)(a s:Int):Bool:=match R.aD s with | some l=>l.wanted&&(!l.eG&&(l.pending&&decide (l.fh=a))) | none=>false
theorem IU(R:M.Room)(o:M.bN)(st:M.eu)(a:R.az o=Z st):R.wanted o=(st.jc||(R.ik o.1).any (rS R o.2)):=by
 unfold M.Room.wanted;rw[a];rfl
section
variable {B:RB} {R:M.Room} {N:Nat} {w:aw} (h:aL w B R N)
include h
theorem Dx(o:M.bN)(st:M.eu)(hs:R.az o=Z st)(hk:np R)(ho:(0<=o.1/\o.1<3)/\0<=o.2/\o.2<3)(hN:N<1000000) :
  aF af 83 #[aq (Z ⟨B.g,0,I⟩),cg #[J V o.1,J V o.2]] w λe w'=>e=av (ai (R.wanted o))/\aC w w':=by
 obtain⟨res,d⟩:=dH (R.wanted o);rw[<-d];rw[IU R o st hs]at d;obtain⟨n,HS,HK,H0⟩:=cA d hs hk h;clear h d hs hk;go_enter func83,ntmps83;go_upto_region 1 with fail;obtain⟨r3,e3⟩:=dH w.heap.size;rw[<-e3];have E:aC w (w.alloc (.cells #[J V o.1,J V o.2] 91)):=(ao _ w).alloc (aj _) _;refine aW (λX=>aK X r3 91 #[J V o.1,J V o.2]/\aL X B R N/\aC w X) ⟨aK.newAt _ _ _ _ e3,H0.O.below E,E⟩ ?_;clear e3 E H0;rintro X ⟨b3,h,E⟩;have SJ:=h.cw.cell 13;have p:=h.cw.cell 11;have y0:=b3.cell 0;have y1:=b3.cell 1;have hD:=h.below (eW (ao X.drew.heap.size X.drew));obtain⟨S,hS,SK⟩:=hD.iB HS.O;have q7:X.cell? ⟨S.g,7,I⟩=_:=SK.cw.cell 7;simp at SJ p y0 y1 q7;have T:(Instr.lookup 55 (.map (Z B.sm)) (cg #[J V o.1,J V o.2]) false).run af X.drew=.ok (aq (Z ⟨S.g,0,I⟩)) X.drew:=by
  have SL:=hD.jU o (ir ⟨z,z⟩ ⟨z,z⟩);rw[hS]at SL;exact SL
 obtain⟨SM,HR,HA⟩:=bU b3 h E;clear b3 h E hD SK hS;go_cut [18] (λv wc=>v=ai st.jc/\aC X wc);case first =>
  go_region;all_goals
   go_wp2_with fail;go_meet;exact⟨rfl,eW (ao _ _)⟩
 case rest =>
 obtain⟨rfl,bX⟩:=hcut;clear T SJ y0 y1 q7;have hA2:=HA.O.trans (bX.mono HA.O.size);cases F:st.jc with
 |true =>
  have hr:res=true:=by rw[n.O,F];rfl
  obtain⟨SX,j⟩:=bu hr hA2;clear hr hA2 F bX;go_wp2_with fail;go_ret;exact⟨by rw[SX.O];rfl,j.O⟩
 |false =>
  have hr:res=(R.ik o.1).any (rS R o.2):=by rw[n.O,F];rfl
  obtain⟨bh,a⟩:=dH (R.ik o.1);have r:tJ R.bh (λs=>s.cL&&decide (s.jo=o.1))=bh:=by rw[a,y9]
  rw[<-a]at hr;have h:=HR.O.below bX;have b3:=SM.O.kept bX;have p:=h.cw.cell 11;have y0:=b3.cell 0;simp at p y0;have U:=xQ B.t R.cW R.aQ R.bh N wc.drew ((h.below (eW (ao wc.drew.heap.size wc.drew))).part .table) z HK.O.may o.1;rw[r]at U;have hm:∀s∈bh,∃l,R.aD s=Z l/\0<=s/\s<6:=λs q=>by
   rw[<-r]at q;unfold tJ oR at q;rw[List.mem_filter]at q;have hq:=q.2;have:(R.aD s).isSome=true:=by
    rw[<-HK.O.iJ];cases e:R.bh s with
    |none=>rw[e]at hq;simp at hq
    |some y=>rfl
   obtain⟨l,hl⟩:=Option.isSome_iff_exists.1 this;exact⟨l,hl,HK.O.range s this⟩
  have Ti:bh.length<=6:=by rw[a];unfold M.Room.ik;exact aP (List.length_filter_le _ _) (aj 6)
  have yk:∀W,aC wc W->W.cell? ⟨B.g,11,I⟩=Z (aq (Z ⟨B.t.g,0,I⟩)):=λW b=>aM b p;have SY:∀W,aC wc W->W.cell? ⟨r3,0,I⟩=Z (J V o.1):=λW b=>aM b y0;obtain⟨SN,SZ,HM,j,Ta,SO⟩:=lH hr U hm hA2 h b3;clear hr a r h b3 p y0 U hm hA2 HR SM HA F bX n;go_wp2_with fail;go_region_held3 (λW=>aC wc W) (first|(with_reducible exact eW (ao _ _))|(with_reducible exact bx)|assumption) ((go_at_call 141;refine SZ.O.mono ?_;rintro e w9 ⟨v,rfl,own,b9⟩;obtain⟨A9,m9,rfl⟩:=bA own;have bx:=eW b9;have HO:=au own;have SP:=au bx;clear own b9));clear yk SY;go_wp2_with fail;go_loopw [27] (λi wr=>∃k:Nat,i=J V k/\k<=bh.length/\(∀s∈bh.take k,rS R o.2 s=false)/\wr.ownsRow wc.heap.size 3 1 (ae A9 bh.length m9) bh.length (bh.map (J V))/\aC wc wr) (λi _=>bh.length-(bS i).toNat);case atStart=>exact⟨0,rfl,z,dt,CA HO.O (aj _),SP.O⟩
  case round =>
   clear HO SP;obtain⟨k,rfl,hk,P,own,br⟩:=hrel;have Q:=au P;clear P;by_cases Bj:k<bh.length;rotate_left
   ·have Tb:k=bh.length:=z;subst Tb;have e:res=false:=by
     rw[SN.O,List.any_eq_false];intro s q;have:=Q.O s (by rw[cT];exact q);simp[this]
    obtain⟨u,HB⟩:=bu e br;clear e br own;go_wp2_with fail;go_ret;exact⟨by rw[u.O];rfl,j.O.trans (HB.O.mono j.O.size)⟩
   have Tj:((k:Int)<(bh.length:Int)):=z;have hx:bh[k]? = Z bh[k]:=ay Bj;obtain⟨r9,rfl,q1,Tk⟩:=uN own hx;obtain⟨l,hl,Tc,Td⟩:=HM.O bh[k] (dy Bj);have x:bh[k]∈bh:=dy Bj;have c:∀f:Bool,rS R o.2 bh[k]=f->f=false->∀s∈bh.take (k+1),rS R o.2 s=false:=by
    intro f e1 e2 s q;rw[List.take_add_one,hx]at q;rcases List.mem_append.1 q with q|q
    ·exact Q.O s q
    ·simp at q;subst q;rw[e1,e2]
   have A:rS R o.2 bh[k]=true->res=true:=λe=>by rw[SN.O,List.any_eq_true];exact⟨_,x,e⟩
   have Bm:rS R o.2 bh[k]=(l.wanted&&(!l.eG&&(l.pending&&decide (l.fh=o.2)))):=by unfold rS;rw[hl]
   generalize bh[k]=s at hx q1 hl Tc Td c A Bm x;have Te:(Lit.int V s).wf=true:=Ig z z;have hR:=Ta.O.below br;obtain⟨L,hL,hA⟩:=hR.jq hl;have SQ:=hR.cw.cell 12;simp at SQ;have T:(Instr.lookup 54 (.map (Z B.lm)) (J V s) false).run af wr=.ok (aq (Z ⟨L.g,0,I⟩)) wr:=by
    have SL:=hR.kW s Te;rw[hL]at SL;exact SL
   obtain⟨SU,Cj,SV,Cm,Tf,HO,HB⟩:=lV (vH L R.dA.aG R.dA.aT l N wr hA) c A Bm hA own br;clear own br hx hl x c A Bm hR hA hL;go_upto_region 8 with(go_big_may;go_at_call 44;refine SU.O.mono ?_;rintro e w5 ⟨rfl,b5⟩;have Gj:=au b5;clear b5)
   obtain⟨r8,e8⟩:=dH w5.heap.size;rw[<-e8];have E:aC wr (w5.alloc (.cells #[J V l.dx,J V l.fh] 68)):=Gj.O.alloc Gj.O.size _;refine aW (λY=>aK Y r8 68 #[J V l.dx,J V l.fh]/\aC wr Y) ⟨aK.newAt _ _ _ _ e8,E⟩ ?_;clear e8 E Gj SU T SQ q1 w5;rintro Y ⟨b8,bY⟩;have z0:=b8.cell 0;have z1:=b8.cell 1;have b3:=(SO.O.kept HB.O).kept bY;have y1:=b3.cell 1;simp at z0 z1 y1;obtain⟨m,G,Tl,Th⟩:=cA (qK L R.dA.aG R.dA.aT l N Y (Tf.O.below bY)) bY b8 b3;have hp:om.NI l.dx l.fh=l.pending:=rfl;have C:=au (λW=>om.rV l.dx l.fh W);clear b8 bY b3;obtain⟨wa,SG⟩:=dH (l.wanted:Bool);rw[<-SG];obtain⟨wt,SH⟩:=dH ((wa&&(!l.eG&&(l.pending&&decide (l.fh=o.2)))):Bool);rw[<-SG,<-SH]at Cm;have H:=au SH;clear SH SG;go_cut [58] (λv wd=>v=ai wt/\aC Y wd);case first =>
    cases wa with
    |false =>
     have e:wt=false:=by rw[H.O];rfl
     have u:=au e;clear e;go_wp2_with fail;go_meet;exact⟨by rw[u.O],ao _ _⟩
    |true =>
     cases hg:l.eG with
     |true =>
      have e:wt=false:=by rw[H.O,hg];rfl
      have u:=au e;clear e;rw[hg]at m;go_wp2_with (go_at_call 46;refine m.O.mono ?_;rintro e w6 ⟨rfl,D⟩;have D:=D.symm;subst D);go_meet;exact⟨by rw[u.O],ao _ _⟩
     |false =>
      rw[hg]at m;cases K:l.pending with
      |false =>
       have e:wt=false:=by rw[H.O,hg,K];rfl
       have u:=au e;clear e;rw[show om.NI l.dx l.fh=false from hp.trans K]at C;clear hp;go_wp2_with (first|(go_at_call 46;refine m.O.mono ?_;rintro e w6 ⟨rfl,D⟩;have D:=D.symm;subst D)|(go_at_call 18;refine(C.O _).mono ?_;rintro e w6 ⟨rfl,b6⟩;have SI:=au b6;clear b6));go_meet;exact⟨by rw[u.O],SI.O⟩
      |true =>
       have e:wt=decide (l.fh=o.2):=by rw[H.O,hg,K];rfl
       rw[show om.NI l.dx l.fh=true from hp.trans K]at C;have u:=au e;clear hp e;go_wp2_with (first|(go_at_call 46;refine m.O.mono ?_;rintro e w6 ⟨rfl,D⟩;have D:=D.symm;subst D)|(go_at_call 18;refine(C.O _).mono ?_;rintro e w6 ⟨rfl,b6⟩;have Tm:=aM b6 z1;have Tn:=aM b6 y1;have SI:=au b6;clear b6));go_meet;exact⟨by rw[u.O];first|rfl|(congr 1;rw[Bool.eq_iff_iff];simp),SI.O⟩
   case rest =>
    obtain⟨rfl,bd⟩:=hcut;have bw:=HB.O.trans ((G.O.trans (bd.mono G.O.size)).mono HB.O.size);have bo:=G.O.trans (bd.mono G.O.size);obtain⟨SW,Tg⟩:=bu bw bo;clear bd bw bo z0 z1 y1 m C hp;cases wt with
    |false =>
     go_wp2_with fail;go_roundw;case rel=>exact⟨k+1,by go_num,z,Cj.O _ Cm.O rfl,gI HO.O Tg.O,SW.O⟩
     case measure=>simp[bS];omega
    |true =>
     have e:=SV.O Cm.O;have u:=au e;clear e;go_wp2_with fail;go_ret;exact⟨by rw[u.O];rfl,j.O.trans (SW.O.mono j.O.size)⟩
end
end
def wU(k:IntKind)(w:aw)(A:Option Addr)(n:Nat)(xs:List Int):Prop:=
 0<n->∃b off,A=Z ⟨b,off,I⟩/\∀i,i<n->w.cell? ⟨b,off+i,I⟩=Z (J k (xs.getD i 0))
def wU.OF{t:TypeId}{k:IntKind}{w:aw}{A:Option Addr}{n:Nat}{xs:List Int}(h:TL t k w A n xs):wU k w A n xs:=λh0=>by
 obtain⟨b,off,cs,e,a,q⟩:=h.2.2 h0;exact⟨b,off,e,λi c=>(a.cell _).trans (q i c)⟩
def I9(A m:Option Addr)(n c r:Nat)(xs:List Int)(w:aw)(h:wU bI w A n xs)(o:wU bI w m n xs)(hm:n<=100000) :
  aF af 101 #[ae A n c,ae m n r] w λe w'=>e=av (ai true)/\∃j,w'=w.drewN j:=by
 obtain⟨s,g⟩:=bu h o;clear h o;go_enter func101,ntmps101;go_wp2_with fail;go_loopw [5] (λi wr=>∃k:Nat,i=J V k/\k<=n/\∃q,wr=w.drewN q) (λi _=>n-(bS i).toNat);case atStart=>exact⟨0,rfl,z,0,rfl⟩
 case round =>
  obtain⟨k,rfl,v,q,rfl⟩:=hrel;by_cases f:k<n
  ·obtain⟨b,off,rfl,d⟩:=s.O z;obtain⟨y,p,rfl,a⟩:=g.O z;have t:=d k f;have u:=a k f;generalize xs.getD k 0=x at t u;clear d a;go_wp2_with fail;go_region;go_wp2_with fail;go_roundw;case rel=>exact⟨k+1,by go_num,z,_,rfl⟩
   case measure=>simp[bS];omega
  ·have l:k=n:=z;subst l;go_wp2_with fail;go_ret;exact⟨rfl,_,rfl⟩
def I8(A m:Option Addr)(n c r:Nat)(xs:List Int)(w:aw)(h:wU V w A n xs)(o:wU V w m n xs)(hm:n<=1000000) :
  aF af 59 #[ae A n c,ae m n r] w λe w'=>e=av (ai true)/\∃j,w'=w.drewN j:=by
 obtain⟨s,g⟩:=bu h o;clear h o;go_enter func59,ntmps59;go_wp2_with fail;go_loopw [5] (λi wr=>∃k:Nat,i=J V k/\k<=n/\∃q,wr=w.drewN q) (λi _=>n-(bS i).toNat);case atStart=>exact⟨0,rfl,z,0,rfl⟩
 case round =>
  obtain⟨k,rfl,v,q,rfl⟩:=hrel;by_cases f:k<n
  ·obtain⟨b,off,rfl,d⟩:=s.O z;obtain⟨y,p,rfl,a⟩:=g.O z;have t:=d k f;have u:=a k f;generalize xs.getD k 0=x at t u;clear d a;go_wp2_with fail;go_region;go_wp2_with fail;go_roundw;case rel=>exact⟨k+1,by go_num,z,_,rfl⟩
   case measure=>simp[bS];omega
  ·have l:k=n:=z;subst l;go_wp2_with fail;go_ret;exact⟨rfl,_,rfl⟩
def LC(b1 b2:Nat)(v1 v2:Value)(l:List (Nat×M.cQ))(j m:List (List Value))(w:aw)(o:w.ownsRow b1 80 2 v1 l.length j.flatten)(p:w.ownsRow b2 80 2 v2 l.length m.flatten)(f1:Fit (mG w) l j)(f2:Fit (mG w) l m)(hm:l.length<=1000000) :
  aF af 58 #[v1,v2] w λe w'=>e=av (ai true)/\aC w w':=by
 obtain⟨L,c1,rfl⟩:=bA o;obtain⟨N,c2,rfl⟩:=bA p;have E:0<l.length->∃g1 g2,L=Z ⟨g1,0,I⟩/\N=Z ⟨g2,0,I⟩/\l.length<=c1/\l.length<=c2/\∀k x,l[k]? = Z x->∃(s1 s2:Sl),s1.B w x.2/\s2.B w x.2/\s1.n<=400/\x.1<=1000000 /\
   w.cell? ⟨g1,k*2,I⟩=Z (J V x.1)/\w.cell? ⟨g1,k*2+1,I⟩=Z (ae s1.a s1.n s1.c)/\w.cell? ⟨g2,k*2,I⟩=Z (J V x.1)/\w.cell? ⟨g2,k*2+1,I⟩=Z (ae s2.a s2.n s2.c):=λh0=>by
  have P:∀c∈j,c.length=2:=Fit.len (R:=mG w) (λx c k=>by obtain⟨b,rfl,_⟩:=k;rfl) f1;have Q:∀c∈m,c.length=2:=Fit.len (R:=mG w) (λx c k=>by obtain⟨b,rfl,_⟩:=k;rfl) f2;obtain⟨g1,m1,r,S,F⟩:=jZ o P h0;obtain⟨g2,m2,s,z2,G⟩:=jZ p Q h0;injection r with r _ t
  injection s with s _ u
  subst r;subst s;subst t;subst u;refine⟨g1,g2,rfl,rfl,S,z2,λk x H=>?_⟩;obtain⟨d1,p1,s1,rfl,r1,n1,i1⟩:=Fit.get f1 H;obtain⟨d2,p2,s2,rfl,r2,n2,i2⟩:=Fit.get f2 H;exact⟨s1,s2,r1,r2,n1,i1,F k _ p1 0 z,F k _ p1 1 z,G k _ p2 0 z,G k _ p2 1 z⟩
 have T:=au E;clear E o p f1 f2;go_enter func58,ntmps58;go_wp2_with fail;go_loopw [13] (λi wr=>∃k:Nat,i=J V k/\k<=l.length/\aC w wr) (λi _=>l.length-(bS i).toNat);case atStart=>exact⟨0,rfl,z,ao _ _⟩
 case round =>
  obtain⟨k,rfl,hk,d⟩:=hrel;by_cases v:k<l.length
  ·obtain⟨g1,g2,rfl,rfl,U,X,f⟩:=T.O z;obtain⟨s1,s2,r1,r2,n1,i1,y,p1,p2,p3⟩:=f k l[k] (ay v);generalize l[k]=x at r1 r2 i1 y p2;have Y:((k:Int)<(l.length:Int)):=z;have y:=aM d y;have p1:=aM d p1;have p2:=aM d p2;have p3:=aM d p3;have A:s2.n=s1.n:=by rw[<-r2.tl.1,<-r1.tl.1]
   rw[A]at p3;have g:=λW (b:aC w W)=>I9 s1.a s2.a s1.n s1.c s2.c x.2 W (wU.OF (r1.map λq=>q.rows (.inl rfl) (.bn b)).tl) (by
    have K:=wU.OF (r2.map λq=>q.rows (.inl rfl) (.bn b)).tl
    rw[A]at K;exact K) z
   obtain⟨C,h⟩:=bu g d;clear f r1 r2 g d A;go_upto_region 6 with fail;go_quiet ((go_at_call 101;exact Calls.quiet_of (C.O _ (cd h.O _))));all_goals
    go_wp2_with fail;go_roundw;case rel=>exact⟨k+1,by go_num,z,cd h.O _⟩
    case measure=>simp[bS];omega
  ·have D:k=l.length:=z;subst D;have h:=au d;clear d;go_wp2_with fail;go_ret;exact⟨rfl,h.O⟩
def xL(bk:Nat->Option Int)(zs:List Int):Prop:=zs.Pairwise (· < ·)/\∀x:Int,x∈zs↔∃id:Nat,x=id/\bk id=Z 0
def xL.same{bk:Nat->Option Int}:∀{l m:List Int},xL bk l->xL bk m->l=m:=by
 intro l m h k;refine List.Perm.eq_of_pairwise (le:=(· < ·)) (λa b _ _ h1 h2=>z) h.1 k.1 ?_;refine(List.perm_ext_iff_of_nodup (h.1.imp (λh=>Int.ne_of_lt h)) (k.1.imp (λh=>Int.ne_of_lt h))).2 λx=>?_;rw[h.2,k.2]
def ya(g m N:Nat)(bk:Bk)(sub:Int)(w:aw)(h:eD w g m bk N)(f:N<=1000000) :
  aF af 60 #[cg #[aq (Z ⟨g,0,I⟩)],J V sub] w λe w'=>∃(v:Value) (zs:List Int),e=av v/\w'.ownsRow w.heap.size 3 1 v zs.length (zs.map (J V))/\xL (bk sub) zs/\aC w w':=by
 have a:aC w (w.alloc (.cells #[aq (Z ⟨g,0,I⟩)] 50)):=(ao _ w).alloc (aj _) _;obtain⟨i,b⟩:=bu (rV g m N bk sub _ (h.below a) f) a;clear h a;go_enter func60,ntmps60;go_wp2_with (go_at_call 102;refine i.O.mono ?_;rintro e w2 ⟨v,zs,rfl,own,b2,p1,p2⟩;have j:=au own;have c:=au b2;have d:=au (⟨p1,p2⟩:xL (bk sub) zs);clear own b2 p1 p2);go_ret;exact⟨v,zs,rfl,qS j.O b.O.size,d.O,b.O.trans (c.O.mono b.O.size)⟩
structure De(R S:M.Room)(s:Int):Prop where
 fo:qW (R.aD s)=qW (S.aD s)
 fF:M.kA R s=M.kA S s
 di:R.di s=S.di s
 aO:R.aO.length=S.aO.length
def Gu(o:Option M.dP):∃(a b c d e:Int) (f g:Bool),qW o=aB #[cg #[J V a,J V b],cg #[J V c,J V d,J V e],ai f,ai g]:=by
 cases o with
 |none=>exact⟨0,0,0,0,0,false,false,rfl⟩
 |some l=>exact⟨_,_,_,_,_,_,_,rfl⟩
def BF{w:aw}{base n c:Nat}{A:Option Addr}{zs:List Int}(h:w.ownsRow base 3 1 (ae A n c) n (zs.map (J V))):wU V w A n zs:=λh0=>by
 obtain⟨_,k⟩:=DM h;obtain⟨b,off,e,_,q⟩:=k h0;exact⟨b,off,e,q⟩
def Lz{R:M.Room}{N:Nat}{s:Int}{zs:List Int}(h:(∀s id,R.aO.length<=id->R.di s id=I)/\N<=1000000/\R.aO.length<=N)(p:xL (R.di s) zs):zs.length<=1000000:=by
 have b:zs.Nodup:=p.1.imp (λh=>Int.ne_of_lt h);have a:∀x∈zs,x∈(List.range R.aO.length).map (λi:Nat=>(i:Int)):=λx c=>by
  obtain⟨id,rfl,q⟩:=(p.2 x).1 c;refine List.mem_map.2 ⟨id,List.mem_range.2 ?_,rfl⟩;rcases Nat.lt_or_ge id R.aO.length with k|k
  ·exact k
  ·rw[h.1 s id k]at q;cases q
 have:=List.Nodup.length_le_of_subset b a;simp at this;omega
def Ao{B:RB}{R:M.Room}{N:Nat}{w:aw}(h:aL w B R N)(s:Int):(M.kA R s).length<=N:=by
 unfold M.kA;cases a:R.aD s with
 |none=>simp
 |some l =>
  obtain⟨L,_,b⟩:=h.jq a;exact b.small
def Dv{B C:RB}{R S:M.Room}{N M':Nat}{w:aw}(h:aL w B R N)(h2:aL w C S M')(s:Int)(hs:(Lit.int V s).wf=true)(al:De R S s)(hN:N<=1000000)(hM:M'<=1000000)(Gj:∀s id,R.aO.length<=id->R.di s id=I)(SG:∀s id,S.aO.length<=id->S.di s id=I) :
  aF af 21 #[aq (Z ⟨B.g,0,I⟩),aq (Z ⟨C.g,0,I⟩),J V s] w λe w'=>e=av (ai true)/\aC w w':=by
 obtain⟨E,F,l0,l1,l2,gn,th,he⟩:=Gu (R.aD s);have G:=λW (b:aC w W)=>AZ (h.below b) s hs;have p:=λW (b:aC w W)=>AZ (h2.below b) s hs;rw[<-al.fo]at p;rw[he]at G p;obtain⟨SH,SI,H,H2,r,L,SJ⟩:=lV G p h h2 al Gj SG;clear G p h h2 al Gj SG he;go_enter func21,ntmps21;go_upto_region 2 with(go_at_call 15;refine(SH.O _ (ao _ _)).mono ?_;rintro e w2 ⟨rfl,b2⟩;have u:=au b2;clear b2)
 obtain⟨r7,e7⟩:=dH w2.heap.size;obtain⟨r8,e8⟩:=dH (w2.heap.size+1);rw[<-e8,<-e7];refine aW (λX=>aK X r7 68 #[J V E,J V F]/\aK X r8 69 #[J V l0,J V l1,J V l2]/\aC w X) ⟨(aK.newAt _ _ _ _ e7).alloc _,aK.newAt _ _ _ _ (by rw[e8];simp),(u.O.alloc u.O.size _).alloc (by have:=u.O.size;simp;omega) _⟩ ?_;clear e7 e8 u;rintro X ⟨b7,b8,bX⟩;obtain⟨SK,SL,y⟩:=bU b7 b8 bX;clear b7 b8 bX;go_upto_region 3 with(go_at_call 15;refine(SI.O _ y.O).mono ?_;rintro e w3 ⟨rfl,b3⟩;have A:=au b3;clear b3)
 obtain⟨P,Q⟩:=dH w3.heap.size;obtain⟨T,U⟩:=dH (w3.heap.size+1);rw[<-U,<-Q];have b3:=y.O.trans (A.O.mono y.O.size);refine aW (λY=>aK Y r7 68 #[J V E,J V F]/\aK Y r8 69 #[J V l0,J V l1,J V l2]/\aK Y P 68 #[J V E,J V F]/\aK Y T 69 #[J V l0,J V l1,J V l2]/\aC w Y) ⟨((SK.O.kept A.O).alloc _).alloc _,((SL.O.kept A.O).alloc _).alloc _,(aK.newAt _ _ _ _ Q).alloc _,aK.newAt _ _ _ _ (by rw[U];simp),(b3.alloc b3.size _).alloc (by have:=b3.size;simp;omega) _⟩ ?_;clear Q U b3 SK SL A y SH SI;rintro Y ⟨b7,b8,SM,SN,bY⟩;have hR:=H.O.below bY;have hS:=H2.O.below bY;have rows:∀(g:Nat) (t:TypeId) (cs:Array Value),aK Y g t cs->∀W,aC Y W->∀(j:Nat) v,cs.toList[j]? = Z v->W.cell? ⟨g,0+j,I⟩=Z v:=λg t cs hB W i j v l=>aM i (by rw[cO];exact(hB.cell j).trans (by simpa using l));obtain⟨D7,D8,SW,SX⟩:=cA (rows r7 68 _ b7) (rows r8 69 _ b8) (rows P 68 _ SM) (rows T 69 _ SN);have m:∀(g:Nat) (t:TypeId) (cs:Array Value) (x:Value),aK Y g t cs->cs[0]? = Z x->∀W,aC Y W->∀(j:Nat) v,(#[x]:Array Value).toList[j]? = Z v->W.cell? ⟨g,0+j,I⟩=Z v:=λg t cs x hB hx W i j v l=>by
  rcases j with _|j
  ·simp at l;rw[<-l];exact aM i ((hB.cell 0).trans hx)
  ·simp at l
 obtain⟨DB,DC,SY⟩:=bU (m B.g 61 _ (aq (Z ⟨B.bg,0,I⟩)) hR.cw rfl) (m C.g 61 _ (aq (Z ⟨C.bg,0,I⟩)) hS.cw rfl) (λW (b:aC Y W)=>tL (hR.below b) s hs hN);have Bj:=λW (b:aC Y W)=>tL (hS.below b) s hs hM;rw[<-r.O.fF]at Bj;have SZ:=au Bj;clear Bj;have Ta:=au (λW (b:aC Y W)=>ya B.bg B.bm N R.di s W ((hR.below b).part .di) hN);have Bm:=λW (b:aC Y W)=>ya C.bg C.bm M' S.di s W ((hS.below b).part .di) hM;rw[<-r.O.di]at Bm;have Tb:=au Bm;clear Bm;obtain⟨Tc,SO⟩:=bu (⟨L.O,hN,hR.et.aO⟩:(∀s id,R.aO.length<=id->R.di s id=I)/\N<=1000000/\R.aO.length<=N) (λW (b:aC Y W)=>wB B.bg B.bm N R.aO.length R.di s W ((hR.below b).part .di) hN L.O);have Cj:=λW (b:aC Y W)=>wB C.bg C.bm M' S.aO.length S.di s W ((hS.below b).part .di) hM SJ.O;have ef:pX S.di S.aO.length s=pX R.di R.aO.length s:=by
  have e0:∀f,mq S.di S.aO.length s f=mq R.di R.aO.length s f:=λf=>by unfold mq;rw[r.O.di,r.O.aO]
  unfold pX;simp only[e0]
 rw[ef]at Cj;have SP:=au Cj;obtain⟨cv,Cm⟩:=dH (pX R.di R.aO.length s);rw[<-Cm]at SO SP;have D:∀W:aw,(Op.equalIn 10000 46 (cg cv) (cg cv)).run af W=.ok true W:=λW=>by rw[Cm];exact QE [_,_,_,_,_,_,_,_,_] rfl W
 have SQ:=au D;clear D Cm;have SU:=Ao hR s;obtain⟨Td,SV⟩:=bu SU bY;clear rows m hR hS b7 b8 SM SN Cj ef SU bY H H2 L SJ;refine wp_region_held_drew (S:=λW=>aC Y W) cC (eW (ao _ _)) (λa=>?_);refine Fj 0 (cg #[J V E,J V F]) rfl (eS jP 68 (.tmp 7) rfl r7 0 rfl (#[J V E,J V F]:Array Value).toList _ (λW i j v l=>D7.O W i j v l) underlying68 rfl cC) a ?_;try simp only[aA,pqq]
 refine Fj 1 (cg #[J V E,J V F]) rfl (eS jP 68 (.tmp 11) rfl P 0 rfl (#[J V E,J V F]:Array Value).toList _ (λW i j v l=>SW.O W i j v l) underlying68 rfl cC) a ?_;simp only[aA,pqq]
 refine fS 2 (ai true) rfl a ?_;simp only[aA,pqq]
 refine fS 3 (ai true) rfl a ?_;simp only[aA,pqq]
 refine Fj 4 (cg #[J V l0,J V l1,J V l2]) rfl (eS jP 69 (.tmp 8) rfl r8 0 rfl (#[J V l0,J V l1,J V l2]:Array Value).toList _ (λW i j v l=>D8.O W i j v l) underlying69 rfl cC) a ?_;simp only[aA,pqq]
 refine Fj 5 (cg #[J V l0,J V l1,J V l2]) rfl (eS jP 69 (.tmp 12) rfl T 0 rfl (#[J V l0,J V l1,J V l2]:Array Value).toList _ (λW i j v l=>SX.O W i j v l) underlying69 rfl cC) a ?_;simp only[aA,pqq]
 refine fS 6 (ai true) rfl a ?_ (hy:=λW i=>by have q:=QD l0 l1 l2 W;go_simp);simp only[aA,pqq]
 refine fS 7 (ai true) rfl a ?_;simp only[aA,pqq]
 refine fS 8 (ai true) rfl a ?_;simp only[aA,pqq]
 refine fS 9 (ai gn) rfl a ?_;simp only[aA,pqq]
 refine fS 10 (ai gn) rfl a ?_;simp only[aA,pqq]
 refine fS 11 (ai true) rfl a ?_;simp only[aA,pqq]
 refine fS 12 (ai true) rfl a ?_;simp only[aA,pqq]
 refine fS 13 (ai true) rfl a ?_;simp only[aA,pqq]
 refine fS 14 (ai th) rfl a ?_;simp only[aA,pqq]
 refine fS 15 (ai th) rfl a ?_;simp only[aA,pqq]
 refine fS 16 (ai true) rfl a ?_;simp only[aA,pqq]
 refine fS 17 (ai true) rfl a ?_;simp only[aA,pqq]
 refine fS 18 (ai true) rfl a ?_;simp only[aA,pqq]
 refine fS 19 (aq (Z ⟨B.g,0,I⟩)) rfl a ?_;simp only[aA,pqq]
 refine fS 20 (J V s) rfl a ?_;simp only[aA,pqq]
 refine fS 22 (aq (Z ⟨C.g,0,I⟩)) rfl a ?_;simp only[aA,pqq]
 refine fS 23 (J V s) rfl a ?_;simp only[aA,pqq]
 refine cH (rs:=[21]) cC dt ?_;refine bH rfl (λK d=>?_) cy;rw[if_pos jP];go_simp;go_at_call 13;refine(SY.O _ a).mono ?_;rintro e w4 ⟨v1,q1,rfl,o1,f1,n⟩;dsimp only;have h4:aC Y w4:=a.trans (n.mono a.size);refine d.out _ _ h4 (λo=>?_);clear o d K;try simp only[aA,pqq]
 refine cH (rs:=[24]) cC dt ?_;refine bH rfl (λK d=>?_) cy;rw[if_pos jP];go_simp;go_at_call 13;refine(SZ.O _ h4).mono ?_;rintro e w5 ⟨v2,q2,rfl,o2,f2,n⟩;dsimp only;have h5:aC Y w5:=h4.trans (n.mono h4.size);have o1:=gI o1 n;have f1:=f1.mono λx c k=>k.rows (.bn n);have Te:=au (LC _ _ v1 v2 _ q1 q2 w5 o1 o2 f1 f2 (aP Td.O hN));clear o1 o2 f1 f2;refine d.out _ _ h5 (λo=>?_);clear o d K;try simp only[aA,pqq]
 refine cH (rs:=[25]) cC dt ?_;refine bH rfl (λK d=>?_) cy;rw[if_pos jP];go_simp;go_at_call 58;refine(Te.O).mono ?_;rintro e w6 ⟨rfl,n⟩;dsimp only;have h6:aC Y w6:=h5.trans (n.mono h5.size);refine d.out _ _ h6 (λo=>?_);clear o d K;try simp only[aA,pqq]
 refine fS 26 (ai true) rfl h6 ?_;simp only[aA,pqq]
 refine fS 27 (ai true) rfl h6 ?_;simp only[aA,pqq]
 refine fS 28 (aq (Z ⟨B.g,0,I⟩)) rfl h6 ?_;simp only[aA,pqq]
 refine fS 29 (aq (Z ⟨B.g,0,I⟩)) rfl h6 ?_;simp only[aA,pqq]
 refine fS 30 (aq (Z ⟨B.g,0,I⟩)) rfl h6 ?_;simp only[aA,pqq]
 refine Fj 31 (cg #[aq (Z ⟨B.bg,0,I⟩)]) rfl (eS jP 50 (.tmp 61) rfl B.g 0 rfl (#[aq (Z ⟨B.bg,0,I⟩)]:Array Value).toList _ (λW i j v l=>DB.O W i j v l) underlying50 rfl cC) h6 ?_;simp only[aA,pqq]
 refine fS 32 (J V s) rfl h6 ?_;simp only[aA,pqq]
 refine fS 34 (aq (Z ⟨C.g,0,I⟩)) rfl h6 ?_;simp only[aA,pqq]
 refine fS 35 (aq (Z ⟨C.g,0,I⟩)) rfl h6 ?_;simp only[aA,pqq]
 refine fS 36 (aq (Z ⟨C.g,0,I⟩)) rfl h6 ?_;simp only[aA,pqq]
 refine Fj 37 (cg #[aq (Z ⟨C.bg,0,I⟩)]) rfl (eS jP 50 (.tmp 67) rfl C.g 0 rfl (#[aq (Z ⟨C.bg,0,I⟩)]:Array Value).toList _ (λW i j v l=>DC.O W i j v l) underlying50 rfl cC) h6 ?_;simp only[aA,pqq]
 refine fS 38 (J V s) rfl h6 ?_;simp only[aA,pqq]
 refine cH (rs:=[33]) cC dt ?_;refine bH rfl (λK d=>?_) cy;rw[if_pos jP];go_simp;go_at_call 60;refine(Ta.O _ h6).mono ?_;rintro e w7 ⟨v3,z3,rfl,o3,p3,n⟩;dsimp only;have h7:aC Y w7:=h6.trans (n.mono h6.size);refine d.out _ _ h7 (λo=>?_);clear o d K;try simp only[aA,pqq]
 refine cH (rs:=[39]) cC dt ?_;refine bH rfl (λK d=>?_) cy;rw[if_pos jP];go_simp;go_at_call 60;refine(Tb.O _ h7).mono ?_;rintro e w8 ⟨v4,z4,rfl,o4,p4,n⟩;dsimp only;have h8:aC Y w8:=h7.trans (n.mono h7.size);have o3:=gI o3 n;have ez:=p3.same p4;subst ez;obtain⟨A3,c3,rfl⟩:=bA o3;obtain⟨A4,c4,rfl⟩:=bA o4;have Tf:=au (I8 A3 A4 z3.length c3 c4 z3 w8 (BF o3) (BF o4) (Lz Tc.O p3));clear o3 o4 p3 p4;refine d.out _ _ h8 (λo=>?_);clear o d K;try simp only[aA,pqq]
 refine cH (rs:=[40]) cC dt ?_;refine bH rfl (λK d=>?_) cy;rw[if_pos jP];go_simp;go_at_call 59;refine(Tf.O).mono ?_;rintro e w9 ⟨rfl,j9,rfl⟩;dsimp only;have h9:aC Y (w8.drewN j9):=cd h8 j9;refine d.out _ _ h9 (λo=>?_);clear o d K;try simp only[aA,pqq]
 refine fS 41 (ai true) rfl h9 ?_;simp only[aA,pqq]
 refine fS 42 (ai true) rfl h9 ?_;simp only[aA,pqq]
 refine fS 43 (aq (Z ⟨B.g,0,I⟩)) rfl h9 ?_;simp only[aA,pqq]
 refine fS 44 (aq (Z ⟨B.g,0,I⟩)) rfl h9 ?_;simp only[aA,pqq]
 refine fS 45 (aq (Z ⟨B.g,0,I⟩)) rfl h9 ?_;simp only[aA,pqq]
 refine Fj 46 (cg #[aq (Z ⟨B.bg,0,I⟩)]) rfl (eS jP 50 (.tmp 76) rfl B.g 0 rfl (#[aq (Z ⟨B.bg,0,I⟩)]:Array Value).toList _ (λW i j v l=>DB.O W i j v l) underlying50 rfl cC) h9 ?_;simp only[aA,pqq]
 refine fS 47 (J V s) rfl h9 ?_;simp only[aA,pqq]
 refine fS 49 (aq (Z ⟨C.g,0,I⟩)) rfl h9 ?_;simp only[aA,pqq]
 refine fS 50 (aq (Z ⟨C.g,0,I⟩)) rfl h9 ?_;simp only[aA,pqq]
 refine fS 51 (aq (Z ⟨C.g,0,I⟩)) rfl h9 ?_;simp only[aA,pqq]
 refine Fj 52 (cg #[aq (Z ⟨C.bg,0,I⟩)]) rfl (eS jP 50 (.tmp 82) rfl C.g 0 rfl (#[aq (Z ⟨C.bg,0,I⟩)]:Array Value).toList _ (λW i j v l=>DC.O W i j v l) underlying50 rfl cC) h9 ?_;simp only[aA,pqq]
 refine fS 53 (J V s) rfl h9 ?_;simp only[aA,pqq]
 refine cH (rs:=[48]) cC dt ?_;refine bH rfl (λK d=>?_) cy;rw[if_pos jP];go_simp;go_at_call 12;refine(SO.O _ h9).mono ?_;rintro e Tg ⟨rfl,n⟩;dsimp only;have xx:aC Y Tg:=h9.trans (n.mono h9.size);refine d.out _ _ xx (λo=>?_);clear o d K;try simp only[aA,pqq]
 refine cH (rs:=[54]) cC dt ?_;refine bH rfl (λK d=>?_) cy;rw[if_pos jP];go_simp;go_at_call 12;refine(SP.O _ xx).mono ?_;rintro e Th ⟨rfl,n⟩;dsimp only;have yk:aC Y Th:=xx.trans (n.mono xx.size);refine d.out _ _ yk (λo=>?_);clear o d K;try simp only[aA,pqq]
 refine fS 55 (ai true) rfl yk ?_ (hy:=λW i=>by have q:=SQ.O W;go_simp);simp only[aA,pqq]
 refine fS 56 (ai true) rfl yk ?_;simp only[aA,pqq]
 refine fS 57 (ai true) rfl yk ?_;simp only[aA,pqq]
 refine wpAnyH_done cC ?_ _;go_wp2_with fail;go_ret;exact⟨rfl,SV.O.trans (yk.mono SV.O.size)⟩
def Gh(x:Nat×M.cQ):List Int:=[(x.1:Int),(M.eP x.2).1.dQ,(M.eP x.2).1.aU]
def s8(it:Int->ByteArray)(x:Nat×M.cQ):ByteArray:=⟨(Lib.join (((Gh x).map it).map (·.data.toList)) [58]).toArray⟩
def IN{B:RB}{R:M.Room}{N:Nat}{w:aw}(h:aL w B R N)(p:Nat)(v0:Value)(hp:aK w p 180 #[aq (Z ⟨B.g,0,I⟩)])(s:Int)(hs:(Lit.int V s).wf=true)(hN:N<=1000000)(it:Int->ByteArray)
  (H:∀x∈M.kA R s,∀n∈Gh x,∀W,aC w W->aF af 136 #[J V n] W λe W'=>e=av (.string (it n))/\aC W W') (h1:1<=(M.kA R s).length) (h2:(M.kA R s).length<=100)
  (C:∀x∈M.kA R s,(Lib.join (((Gh x).map it).map (·.data.toList)) [58]).length<=100000) (Q:(Lib.join (((M.kA R s).map (s8 it)).map (·.data.toList)) vD.data.toList).length<=100000) :
  aF af 255 #[aq (Z ⟨p,0,I⟩),J V s] w λe w'=>e=av (.string ⟨(Lib.join (((M.kA R s).map (s8 it)).map (·.data.toList)) vD.data.toList).toArray⟩)/\aC w w':=by
 obtain⟨i0,hi,SM,SN,SO⟩:=cY Mw;obtain⟨HI,Ti,Tj,Tk,HW⟩:=gY hi SM SN SO (tL h s hs hN);have c0:=hp.cell 0;simp at c0;obtain⟨L,hL⟩:=dH (M.kA R s);rw[<-hL]at HW H h1 h2 C Q;obtain⟨HL,HH,HJ,Tl⟩:=cA hL H C Q;clear hi SM SN SO h hp hL H C Q;go_enter func255,ntmps255;go_wp2_with (go_at_call 13;refine HW.O.mono ?_;rintro e w2 ⟨v,q,rfl,own,fit,b2⟩;obtain⟨A1,c1,rfl⟩:=bA own;have HO:=au own;have HF:=au fit;have f:=au b2;clear own fit b2);go_loopw [5,17] (λv i wr=>∃k:Nat,k<=L.length/\i=J V k/\wr.ownsRow w2.heap.size 9 1 v ((L.take k).map (s8 it)).length (((L.take k).map (s8 it)).map Value.string)/\aC w2 wr) (λ_ i _=>L.length-(bS i).toNat);case atStart=>exact⟨0,Nat.zero_le _,rfl,⟨rfl,.inl ⟨rfl,rfl⟩⟩,ao _ _⟩
 case round =>
  obtain⟨k,hk,rfl,own,D⟩:=hrel;by_cases S:k<L.length
  ·have TA:((k:Int)<(L.length:Int)):=z;obtain⟨g1,m1,e1,z1,d⟩:=jZ HO.O (Fit.len (R:=mG w2) (λx c k=>by obtain⟨b,rfl,_⟩:=k;rfl) HF.O) z;injection e1 with Tm _ Tn
   subst Tm;subst Tn;have T:L[k]? = Z L[k]:=ay S;obtain⟨cx,l,m,rfl,U,TC,hid⟩:=Fit.get HF.O T;have k0:=aM D (d k _ l 0 z);have k1:=aM D (d k _ l 1 z);simp at k0 k1;have Bj:L[k]∈L:=dy S;have o:(L.take (k+1)).map (s8 it)=(L.take k).map (s8 it)++[s8 it L[k]]:=by rw[List.take_succ_eq_append_getElem S,List.map_append];rfl
   have r:((L.take k).map (s8 it)).length=k:=dZ;have Bm:=HH.O L[k] Bj;have Cj:=HJ.O L[k] Bj;generalize L[k]=x at T l U hid k0 k1 o Bm Cj;rw[r]at own;generalize ((L.take k).map (s8 it))=vs at own o r;obtain⟨A5,c5,rfl⟩:=bA own;have SP:=f.O.trans (D.mono f.O.size);obtain⟨To,Tp,SQ,SU,SV,Tq,Tr,SW⟩:=qh r o own D SP Bm Cj (U.rows (.inl rfl) (.bn D));clear r o own D SP Bm Cj U T l Bj d;go_upto_region 5 with fail;obtain⟨r7,e7⟩:=dH wr.heap.size;rw[<-e7];refine aW (λX=>aK X r7 80 #[J V x.1,ae m.a m.n m.c]/\aC wr X) ⟨by simpa using aK.newAt _ _ _ _ e7,(ao _ wr).alloc (aj _) _⟩ ?_;clear e7 k0 k1;rintro X ⟨b7,bX⟩;have j0:=b7.cell 0;have j1:=b7.cell 1;simp at j0 j1;obtain⟨Ts,Cm,SX⟩:=bU (wF m.a m.n m.c x.2 X (SW.O.rows (.inl rfl) (.bn bX)).tl SW.O.zero z) bX b7;clear bX b7;go_upto_region 6 with(go_at_call 16;refine Ts.O.mono ?_;rintro e w4 ⟨⟨sp,ep,yp,rfl,SY⟩,b4⟩;have Gj:=au SY;have SG:=au b4;clear SY b4)
   obtain⟨r8,e8⟩:=dH w4.heap.size;rw[<-e8];have b4:=Cm.O.trans (SG.O.mono Cm.O.size);have SZ:=Gj.O.dQ;have Ta:=Gj.O.aU;obtain⟨P,hP⟩:=dH ((M.eP x.2).1);rw[<-hP]at SZ Ta ⊢;refine aW (λY=>aK Y r8 76 (uA P sp ep yp)/\aK Y r7 80 #[J V x.1,ae m.a m.n m.c]/\aC wr Y) ⟨aK.newAt _ _ _ _ e8,(SX.O.kept SG.O).alloc _,b4.alloc b4.size _⟩ ?_;clear e8 b4 j0 j1 SX SG Cm Gj;rintro Y ⟨b8,b7,bY⟩;have j0:=b7.cell 0;have p2:=b8.cell 2;have p3:=b8.cell 3;simp at j0 p2 p3;have x1:V.wrap P.dQ=P.dQ:=IntWalk.i64_in _ ⟨z,z⟩;have x2:V.wrap P.aU=P.aU:=IntWalk.i64_in _ ⟨z,z⟩;have SH:Gh x=[(x.1:Int),P.dQ,P.aU]:=by unfold Gh;rw[hP]
   have t:=SV.O.trans (bY.mono SV.O.size);have al:=(ao Y.heap.size Y).alloc (aj _) (.cells #[J V x.1,J V P.dQ,J V P.aU] 3);have hit:=Tq.O;have SI:=Tr.O;rw[SH]at hit SI;have y:=Gf ⟨#[58]⟩ Y.heap.size 0 3 [(x.1:Int),P.dQ,P.aU] it (Y.alloc (.cells #[J V x.1,J V P.dQ,J V P.aU] 3)) (λj u hu=>by
    rw[cO,cell_of_row _ _ j _ _ _ (heap_alloc_new Y _)]
    rcases j with _|_|_|j
    ·simp at hu;rw[<-hu];rfl
    ·simp at hu;rw[<-hu];rfl
    ·simp at hu;rw[<-hu];rfl
    ·simp at hu) dt dt dt (λn hn W b=>hit n hn W ((t.trans (al.mono t.size)).trans (b.mono (aP t.size al.size)))) SI
   have Tb:(⟨(Lib.join (([(x.1:Int),P.dQ,P.aU].map it).map (·.data.toList)) [58]).toArray⟩:ByteArray)=s8 it x:=by unfold s8;rw[SH]
   have y:aF af 254 #[.string ⟨#[58]⟩,ae (Z ⟨Y.heap.size,0,I⟩) 3 3] (Y.alloc (.cells #[J V x.1,J V P.dQ,J V P.aU] 3)) λe w'=>e=av (.string (s8 it x))/\Below (Y.alloc (.cells #[J V x.1,J V P.dQ,J V P.aU] 3)).heap.size (Y.alloc (.cells #[J V x.1,J V P.dQ,J V P.aU] 3)) w':=by rw[<-Tb];exact y
   obtain⟨Tc,SJ,SK⟩:=bU y bY al;clear y Tb hit SI al t bY b7 b8 SH hP SZ Ta;go_wp2_with fail;refine Tc.O.mono ?_;rintro e w5 ⟨rfl,b5⟩;have b5:=SJ.O.trans ((SK.O.trans (b5.mono SK.O.size)).mono SJ.O.size);have E:=Bg SQ.O b5;have b6:=SU.O.trans (b5.mono SU.O.size);have TD:=b6.size;obtain⟨SL,Td,F⟩:=bU E (fB w5 9 #[.string (s8 it x)]) (b6.alloc b6.size (.cells #[.string (s8 it x)] 9));clear b5 E b6 Tc SJ SK SQ;go_wp2_with (at_builtin;go_loud (refine dM _ rfl _ _ 181 rfl w2.heap.size 9 i0 _ 1 16 underlying181 HI.O Ti.O Tj.O Tk.O rfl aR _ _ _ rfl (SL.O.alloc _) ⟨w5.heap.size,0,I⟩ 1 1 [.string (s8 it x)] rfl rfl Td.O tk ?_ ?_ ?_ ?_))
   ·unfold maxLen;omega
   ·omega
   ·first|omega|(simp;omega)
   intro v5 w6 G g5 _;have b6:=F.O.grown g5 dZ (λj C=>((SL.O.alloc (.cells #[.string (s8 it x)] 9)).lt j C).1);obtain⟨Tt,Tu⟩:=bu G b6;clear G g5 b6 F Td SL;go_wp2_with fail;go_roundw;case rel=>exact⟨k+1,z,by go_num,by rw[Tp.O];simpa[To.O]using Tt.O,Tu.O⟩
   case measure=>simp[bS];omega
  ·have Tv:k=L.length:=z;subst Tv;rw[cT]at own;obtain⟨vs,A⟩:=dH (L.map (s8 it));have Tw:vs.length=L.length:=by rw[A];simp
   have Q:=Tl.O;rw[<-A]at own Q;have Te:0<vs.length:=z;obtain⟨g5,c5,rfl⟩:=Joins.ownsRow_form own Te;have Tf:g5<wr.heap.size:=(own.lt g5 rfl).2;have Tg:∀(j:Nat) x,vs[j]? = Z x->wr.cell? ⟨g5,0+j,I⟩=Z (.string x):=λj x C=>by
    have Tx:=(aS.1 C).1;rw[cO,own.cellAt j (by simpa using Tx),List.getElem?_map,C];rfl
   have K:vs.length<=c5:=by
    rcases own.2 with⟨q,_⟩ | ⟨g,cap,dx,q,_,_,q3,_⟩
    ·cases q
    ·injection q with _ _ q5
     subst q5;omega
   have Th:=LU g5 0 c5 vs wr Tg Tf z z K Q;obtain⟨Ty,HB,HV⟩:=bU Th (f.O.trans (D.mono f.O.size)) (A.trans (by rw[HL.O]));clear Th own D Tg Tf K Q A Tw;go_wp2_with (go_at_call 289;refine Ty.O.mono ?_;rintro e w3 ⟨rfl,b3⟩;have Tz:=au b3;clear b3);go_ret;exact⟨by rw[<-HV.O];rfl,HB.O.trans (Tz.O.mono HB.O.size)⟩
end Go.Proofs.YtkfblammcilfhaaGreatDoor
