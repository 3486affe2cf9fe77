import Derived.Test.YtkfblammcilfhaaGreatDoorP14
import Derived.Test.YtkfblammcilfhaaGreatDoorP15
set_option linter.all false
set_option maxRecDepth 100000
set_option maxHeartbeats 100000000
open Go.ChangeShapes Go.WideShapes Go.ChangeAt Go.RowKit Go.Proofs.Tryz
open Go renaming World->aw,Calls->aF,bodyPost_ret->ax,results_none->bT,bodyPost_end->dq,info_parts->cY,wpList_append_own->dM
open Go.Proofs.Tryz renaming prog->af
open Go.RowKit.Below renaming refl->ao,setCell->gT
open Nat renaming le_refl->aj,le_succ->cZ,zero_add->cO,le_trans->aP
open List renaming getElem?_eq_some_iff->aS,take_length->cT,getElem?_eq_getElem->ay,getElem_mem->dy
open Go.Value renaming int->J,slice->ae,bool->ai,pointer->aq,tuple->aB,agg->cg
open Go.IntKind renaming i64->V,u32->ar
open Go.Ending renaming returned->av
open Option renaming none->I,some->Z
namespace Go.Proofs.YtkfblammcilfhaaGreatDoor
section
theorem NF(R:M.Room)(b:M.cQ)(q:List M.cQ)(a:R.dm=b::q):R.read =
  if M.control b then Il { R with dm:=q } b else if(M.eP b).2≠0 then M.Room.count { R with dm:=q } (λc=>{ c with cI:=c.cI+1 })
  else match R.cW (M.eP b).1.bJ with | none=>M.Room.count { R with dm:=q } (λc=>{ c with gR:=c.gR+1 }) | some o=>M.Room.je { R with dm:=q } o (M.eP b).1:=by
 unfold M.Room.read;rw[a];rfl
section
variable {B:RB} {R:M.Room} {N:Nat} {w:aw} (h:aL w B R N)
include h
theorem Je(st s0:Int)(a:Bool)(b:M.cQ)(q:List M.cQ)(hq:R.dm=b::q)(hk:np R)(Tp:∀s,R.di s R.aO.length=I)(Ty:∀x o,R.cW x=Z o->(R.az o).isSome=true)
  (Tz:∀o,(R.az o).isSome=true->(0<=o.1/\o.1<3)/\0<=o.2/\o.2<3) (hN:N<800000) :
  aF af 66 #[aq (Z ⟨B.g,0,I⟩),cg #[J V st,J V s0],ai a] w (kk B w (aB #[]) R.read (N+9)):=by
 obtain⟨res,k⟩:=dH R.read;rw[<-k];rw[NF R b q hq]at k;have u:=h.Qb;rw[hq]at u;obtain⟨TA,Tm,HK,TP,TQ,TR,H0⟩:=lV u k hk Tp Ty Tz h;clear h k hq u hk Tp Ty Tz;go_enter func66,ntmps66;go_upto_region 1 with fail;have C:aC w (w.alloc (.cells #[J V st,J V s0] 40)):=(ao _ w).alloc (aj _) _;refine aW (λX=>aL X B R N/\wT X B.qg B.qp R.dA.aG (b::q)/\aC w X) ⟨H0.O.below C,TA.O.below C,C⟩ ?_;clear C H0 TA;rintro X ⟨h,u,C⟩;have TC:=h.cw.cell 10;simp at TC;obtain⟨HP,H,HA⟩:=bU (Of u) h C;clear h u C;go_upto_region 2 with(go_big_may;go_at_call 120;refine HP.O.mono ?_;rintro e w1 ⟨sl,rfl,hb,D,hD,f⟩;have HB:=au (And.intro hb D);have HD:=au (And.intro hD f);clear hb D hD f TC)
 obtain⟨d,E⟩:=dH ({ R with dm:=q }:M.Room);have A:=H.O.vF HD.O.2 HD.O.1;rw[<-E]at A;have TD:np d:=by rw[E];exact⟨HK.O.iJ,HK.O.range,HK.O.sub⟩
 have k:=Tm.O;rw[<-E]at k;have Tq:d.cW=R.cW/\d.az=R.az/\d.di=R.di/\d.aO=R.aO/\d.bp=R.bp:=by rw[E];exact⟨rfl,rfl,rfl,rfl,rfl⟩
 rw[<-Tq.1]at k;obtain⟨F,Tf,TE⟩:=bU Tq k TD;have TF:=(fK.fN B HA.O).trans A.2;obtain⟨H1,Ts⟩:=bu A.1 TF;obtain⟨hb,D⟩:=HB.O;have Tg:=au (EE sl.a sl.n sl.c b w1 hb.tl);clear A E TD k Tq TF Tm HK H HA HD HP hb;obtain⟨ct,TG⟩:=dH (M.control b);rw[<-TG]at Tg Tf;clear TG;cases ct with
 |true =>
  have hr:res=Il d b:=Tf.O;have Ti:=au hr;clear hr;go_upto_region 3 with(go_big_may;go_at_call 121;refine Tg.O.mono ?_;rintro e w2 ⟨rfl,j,hj⟩;have bj:aC w1 w2:=(by rw[hj];exact cd (ao _ _) j);have m:=au bj;clear hj bj)
  have HT:=au (Jd (H1.O.below m.O) sl b (HB.O.1.below m.O) D TE.O z);go_wp2_with (go_at_call 122;refine HT.O.mono ?_;rintro e w3 ⟨B',rfl,G,K⟩;have Tt:=au G;have Tu:=au K;clear G K);first
   |refine ax (bT results66 _ _ _) rfl ?_
   |refine dq (bT results66 _ _ _) rfl ?_
  exact⟨B',rfl,by rw[Ti.O];exact Tt.O.mono z,(Ts.O.trans (fK.fN B m.O)).trans Tu.O⟩
 |false =>
  have hr:res=if(M.eP b).2≠0 then M.Room.count d (λc=>{ c with cI:=c.cI+1 })
   else match d.cW (M.eP b).1.bJ with | none=>M.Room.count d (λc=>{ c with gR:=c.gR+1 }) | some o=>M.Room.je d o (M.eP b).1:=Tf.O
  have Tv:=λW (hW:TB W sl.a sl.n b)=>wF sl.a sl.n sl.c b W hW HB.O.1.zero z;generalize M.eP b=hd at hr Tv;obtain⟨p,er⟩:=hd;obtain⟨TH,Ti⟩:=bu Tv hr;clear hr Tv Tf;go_upto_region 4 with(go_big_may;go_at_call 121;refine Tg.O.mono ?_;rintro e w2 ⟨rfl,j,hj⟩;have bj:aC w1 w2:=(by rw[hj];exact cd (ao _ _) j);have m:=au bj;clear hj bj)
  go_upto_region 5 with(go_big_may;go_at_call 16;refine(TH.O _ (HB.O.1.below m.O).tl).mono ?_;rintro e w3 ⟨⟨sp,ep,yp,rfl,l⟩,b3⟩;have L:=au l;have TI:=au b3;clear l b3)
  obtain⟨r8,e8⟩:=dH w3.heap.size;rw[<-e8];have bl:=m.O.trans (TI.O.mono m.O.size);have C:aC w1 (w3.alloc (.cells (uA p sp ep yp) 76)):=bl.alloc bl.size _;have n8:∀i,B.all i->i≠r8:=λi hi=>by have:=H1.O.lt i hi;have:=bl.size;omega
  have T8:=au n8;refine aW (λY=>aK Y r8 76 (uA p sp ep yp)/\aL Y B d N/\iT Y p sp ep yp/\fK w Y B B) ⟨aK.newAt _ _ _ _ e8,H1.O.below C,L.O.below ((ao _ _).alloc (aj _) _),Ts.O.trans (fK.fN B C)⟩ ?_;clear e8 bl C n8 H1 Ts L TI m Tg TH HB D;rintro Y ⟨b8,h,l,hS⟩;obtain⟨H,HS,v,L⟩:=cA h hS b8 l;have n1:=h.et.cI;have n2:=h.et.gR;by_cases h0:er=0;rotate_left
  ·have Tp:(er==0)=false:=by simpa using h0
   have hr:=Ti.O;rw[if_pos h0]at hr;have P:=au hr;have TS:=h.cw.cell 17;have f17:=h.cw.frozen 17;simp at TS;clear hr h0 b8 h l hS;go_wp2_with fail;have A:=H.O.ri 17 (λc=>{ c with cI:=c.cI+1 }) (J V (d.bp.cI+1)) rfl { H.O.et.mono (cZ N) with cI:=by show 0<=d.bp.cI+1/\d.bp.cI+1<=((N+1:Nat):Int);omega };first
    |refine ax (bT results66 _ _ _) rfl ?_
    |refine dq (bT results66 _ _ _) rfl ?_
   exact⟨B,rfl,by rw[P.O];exact A.1.mono z,HS.O.trans A.2⟩
  subst h0;have hr:res=match d.cW p.bJ with | none=>M.Room.count d (λc=>{ c with gR:=c.gR+1 }) | some o=>M.Room.je d o p:=Ti.O
  have TT:=l.bJ;have TV:(Lit.int ar p.bJ).wf=true:=Ca TT;have hD:=h.below (eW (ao Y.drew.heap.size Y.drew));have TJ:=λW (hW:aL W B d N)=>MH B.t d.cW d.aQ d.bh N W (hW.part .table) p.bJ TV;have Tj:=h.cw.cell 11;have k4:=b8.cell 4;simp at Tj k4;obtain⟨y,P⟩:=bu TJ hr;clear hr TJ hD b8 h l hS;generalize Q:d.cW p.bJ=of at y P;obtain⟨⟨T,U⟩,ho⟩:∃A:Int×Int,A=of.getD (0,0):=⟨_,rfl⟩;obtain⟨is,r⟩:=dH (of.isSome:Bool);rw[<-ho,<-r]at y;have y:Hd (∀W,aL W B d N->aF af 123 #[aq (Z ⟨B.t.g,0,I⟩),J ar p.bJ] W λe w'=>e=av (aB #[cg #[J V T,J V U],ai is])/\aC W w'):=y;have TM:=au (And.intro Q (And.intro ho r));clear Q ho r;go_upto_region 7 with fail;go_cut [10,11] (λa b wc=>∃S,a=aq (Z ⟨S,0,I⟩)/\b=ai is/\aK wc S 91 #[J V T,J V U]/\aK wc r8 76 (uA p sp ep yp)/\aC Y wc);case first =>
   have hC:∀W,aC Y W->W.cell? ⟨B.g,11,I⟩=Z (aq (Z ⟨B.t.g,0,I⟩)):=λW b=>aM b Tj;have T9:∀W,aC Y W->W.cell? ⟨r8,4,I⟩=Z (J ar p.bJ):=λW b=>aM b k4;clear Tj k4;go_region_held3 (λW=>aC Y W) (first
    |(with_reducible exact eW (ao _ _))
    |(with_reducible exact bx)
    |(exact Below.alloc (by assumption) (Below.size (by assumption)) _)
    |(exact(gT (gT (by assumption) (p:=⟨_,_,I⟩) (by first|exact aj _|exact bx.size) _) (p:=⟨_,_,I⟩) (by first|exact aj _|exact bx.size) _)))
    ((go_at_call 123;refine(y.O _ (H.O.below (by assumption))).mono ?_;rintro e w9 ⟨rfl,b9⟩;have bx:aC Y w9:=Below.trans (by assumption) (b9.mono (Below.size (by assumption)));first|(have z9:aK w9 Y.heap.size 91 #[J V 0,J V 0]:=(by with_reducible exact MK b9);have TW:=au z9;have j0:=z9.cell 0;have j1:=z9.cell 1;have g0:=z9.frozen 0;have g1:=z9.frozen 1;simp at j0 j1;clear z9 b9)|clear b9))
   all_goals
    go_wp2_with fail;go_meet;have TN:r8≠Y.heap.size:=by have:=v.O.lt;omega
    first
     |exact⟨_,rfl,rfl,aK.new _ _ _,(v.O.kept bx).alloc _,bx.alloc bx.size _⟩
     |exact⟨_,rfl,rfl,by simpa using(TW.O.bC 0 (J V T)).bC 1 (J V U),((v.O.kept bx).dS (p:=⟨Y.heap.size,0,I⟩) TN _).dS (p:=⟨Y.heap.size,1,I⟩) TN _,(bx.setCell (p:=⟨Y.heap.size,0,I⟩) (aj _) _).setCell (p:=⟨Y.heap.size,1,I⟩) (aj _) _⟩
  case rest =>
  obtain⟨S,rfl,rfl,Tk,b8,bY⟩:=hcut;have h:=H.O.below bY;have l:=L.O.below bY;have Tl:=HS.O.trans (fK.fN B bY);clear H HS v L y Tj k4;have n2:=h.et.gR;cases of with
  |none =>
   obtain⟨_,ho,r⟩:=TM.O;subst r;have hr:res=M.Room.count d (λc=>{ c with gR:=c.gR+1 }):=P.O;obtain⟨Tw,H,HS⟩:=bU hr h Tl;have TX:=h.cw.cell 18;have f18:=h.cw.frozen 18;simp at TX;clear hr h Tl Tk b8 l bY ho;go_wp2_with fail;have A:=H.O.ri 18 (λc=>{ c with gR:=c.gR+1 }) (J V (d.bp.gR+1)) rfl { H.O.et.mono (cZ N) with gR:=by show 0<=d.bp.gR+1/\d.bp.gR+1<=((N+1:Nat):Int);omega };first
    |refine ax (bT results66 _ _ _) rfl ?_
    |refine dq (bT results66 _ _ _) rfl ?_
   exact⟨B,rfl,by rw[Tw.O];exact A.1.mono z,HS.O.trans A.2⟩
  |some o =>
   obtain⟨Q,ho,r⟩:=TM.O;subst r;replace ho:(T,U)=o:=ho;subst ho;have hr:res=M.Room.je d (T,U) p:=P.O;have Tx:(d.az (T,U)).isSome=true:=by rw[F.O.2.1];exact TQ.O p.bJ (T,U) (by rw[<-F.O.1];exact Q)
   obtain⟨s1,TO⟩:=Option.isSome_iff_exists.1 Tx;have Tn:=TR.O (T,U) (by rw[<-F.O.2.1];exact Tx);have To:=Dz h (T,U) p sp ep yp s1 TO l TE.O (by rw[F.O.2.2.1,F.O.2.2.2.1];exact TP.O) Tn z;have k0:wc.cell? ⟨S,0,I⟩=Z (J V T):=Tk.cell 0;have k1:wc.cell? ⟨S,1,I⟩=Z (J V U):=Tk.cell 1;obtain⟨v,Tw,HS,TY⟩:=cA b8 hr Tl To;clear hr h Tl Tk b8 l bY Q Tx TO Tn To;go_wp2_with (first|(refine lI _ rfl (.tmp 8) 76 rfl r8 0 76 _ rfl (uA p sp ep yp) _ underlying76 Tryz.zf v.O (λj _=>by rw[cO]) ?_)|(go_at_call 124;refine TY.O.mono ?_;rintro e w9 ⟨B',rfl,G,K⟩;have Tt:=au G;have Tu:=au K;clear G K));first
    |refine ax (bT results66 _ _ _) rfl ?_
    |refine dq (bT results66 _ _ _) rfl ?_
   exact⟨B',rfl,by rw[Tw.O];exact Tt.O,HS.O.trans Tu.O⟩
end
end
section
theorem LF(w:aw):∀(x:Nat×M.cQ) c,mG w x c->∀u∈c,u.oneCell'=true:=by
 rintro x c ⟨b,rfl,_⟩ u hu;simp at hu;rcases hu with rfl|rfl<;>rfl
theorem DP(w:aw):∀(x:Nat×M.cQ) c,mG w x c->c.length=2:=by
 rintro x c ⟨b,rfl,_⟩;rfl
theorem CV(v:Value)(n:Nat)(l:List (Nat×M.cQ))(q:List (List Value))(w:aw)(own:w.ownsRow 0 80 2 v n q.flatten)(fit:Fit (mG w) l q)(F:n<=1000000) :
  aF af 81 #[v] w λe w'=>∃s,e=av s/\w'.ownsRow w.heap.size 80 2 s n q.flatten/\aC w w':=by
 obtain⟨i0,hi,f,h,i⟩:=cY wu;obtain⟨A,k,m,o⟩:=cA hi f h i;clear hi f h i;have a:=fit.one (LF w);have hlen:=own.1;rcases own.2 with⟨rfl,rfl⟩ | ⟨g,cap,dx,rfl,_⟩
 ·have he:∀W:aw,(binOp .eql 63 (ae I 0 0) (ae I 0 0)).run af W=.ok (ai true) W:=λ_=>rfl;have ky:w.ownsRow w.heap.size 80 2 (ae I 0 0) 0 q.flatten:=⟨hlen,.inl ⟨rfl,rfl⟩⟩;have p:=au ky;clear own ky a hlen fit;go_enter func81,ntmps81;go_wp2_with fail;go_ret;exact⟨_,rfl,p.O,ao _ _⟩
 ·have he:∀W:aw,(binOp .eql 63 (ae (Z ⟨g,0,I⟩) n cap) (ae I 0 0)).run af W=.ok (ai false) W:=λ_=>rfl;have b:=sZ (aK.new w 80 #[]) (base:=w.heap.size) (e:=80) (size:=2) (aj _);have t:=((ao w.heap.size w).alloc (aj _) (.cells #[] 80));have x:∀j u,q.flatten[j]? = Z u->(w.alloc (.cells #[] 80)).cell? ((⟨g,0,I⟩:Addr).add j)=Z u:=λj u hu=>by
   have r:j<n*2:=by rw[<-hlen];exact(aS.1 hu).1
   have e:=own.cellAt j r;rw[hu]at e;rw[add_lit,cO];exact ea e
  obtain⟨B,C,D,H1⟩:=cA x hlen t a;clear x hlen t own a fit;go_enter func81,ntmps81;go_wp2_with (at_builtin;go_loud (refine dM _ rfl _ _ 63 rfl w.heap.size 80 i0 vh 2 32 underlying63 A.O k.O m.O o.O rfl aR _ _ _ rfl b ⟨g,0,I⟩ n cap q.flatten rfl C.O B.O H1.O ?c3 ?c4 ?c5 ?_));case c3=>unfold maxLen;omega
  case c4=>omega
  case c5=>simp
  intro v5 w5 c g5 _;have d:w5.ownsRow w.heap.size 80 2 v5 n q.flatten:=by simpa using c
  have y:aC w w5:=D.O.grown g5 dt (λj r=>by have:=(b.lt j r).1;omega);obtain⟨p,E⟩:=bu d y;clear b c d g5 y;go_wp2_with fail;go_ret;exact⟨_,rfl,p.O,E.O⟩
theorem Di(B:LB)(aG:Nat)(aT:Int)(l:M.dP)(N:Nat)(w:aw)(h:ca w B aG aT l N)(hN:N<=1000000) :
  aF af 36 #[aq (Z ⟨B.g,0,I⟩)] w λe w'=>∃(v:Value) (q:List (List Value)),e=av v/\w'.ownsRow w.heap.size 80 2 v l.fF.length q.flatten/\Fit (mG w') l.fF q/\aC w w':=by
 obtain⟨q0,C,f⟩:=h.fF;have c0:=h.cw.cell 0;simp at c0;have Tl:=h.small;obtain⟨F,G⟩:=bu (CV B.ov l.fF.length l.fF q0 w C f z) f;clear h C f;go_enter func36,ntmps36;go_wp2_with (go_at_call 81;refine F.O.mono ?_;rintro e w1 ⟨v,rfl,own,b1⟩;obtain⟨A,c,rfl⟩:=bA own;have HW:=au own;have E:=au b1;clear own b1);go_loopw [4,12] (λ_ i wr=>∃(k:Nat) (q:List (List Value)),i=J V k/\k<=l.fF.length/\wr.ownsRow w.heap.size 80 2 (ae A l.fF.length c) l.fF.length q.flatten/\Fit (mG wr) l.fF q/\aC w wr) (λ_ i _=>l.fF.length-(intOf i).toNat);case atStart=>exact⟨0,q0,rfl,z,HW.O,G.O.mono (λx c k=>k.rows (.bn E.O)),E.O⟩
 case round =>
  clear HW E G F c0;obtain⟨k,q,rfl,hk,own,fit,H⟩:=hrel;by_cases T:k<l.fF.length
  ·obtain⟨x,d,hx,U,b,rfl,W,X,hi⟩:=fit.MD T;obtain⟨r,cap,Y,Tm,m⟩:=jZ own (fit.len (DP wr)) z;injection Y with Y e2 e3
   subst Y e3;have k1:=m k _ U 1 z;simp at k1;have fz:=λj=>own.frozenAt j;have Tn:=H.size;obtain⟨K,HX,Tf,o,s,u,To⟩:=lV (mC b.a b.n b.c x.2 wr W.tl z W.zero) hx U own fit H fz;clear hx U own fit H m fz W;go_wp2_with fail;refine K.O.mono ?_;rintro e w4 ⟨⟨R,S,rfl,hT,hle,Tg,hz⟩,b4⟩;have t:=qI o.O b4;have Tp:=t.frozenAt (k*2+1);have d1:=aM b4 k1;obtain⟨L,P,Ti⟩:=bU t b4 (⟨hT,hle,Tg,hz⟩:Sl.B w4 ⟨R,b.n,S⟩ x.2);clear t b4 hT;go_wp2_with fail;go_roundw;case rel =>
    have D:Fit (mG w4) l.fF q:=s.O.mono λy d Tj=>Tj.rows (.bn P.O);obtain⟨dx,hB,Tk⟩:=Iu L.O;have Q:Rows w4 (w4.setCell ⟨r,k*2+1,I⟩ (ae R b.n S)):=(Rows.refl w4).setCell hB aR aR _ _;have st:=(L.O.stored (k*2+1) (ae R b.n S)).1;rw[zP (D.len (DP w4)) k 1 _ _ z Tf.O]at st;refine⟨k+1,_,by go_num,z,st,?_,((u.O.trans (P.O.mono u.O.size)).setCell (p:=⟨r,k*2+1,I⟩) Tk _)⟩;exact(D.mono λy d Tj=>Tj.rows Q).set HX.O ⟨⟨R,b.n,S⟩,rfl,Ti.O.rows (.inl rfl) Q,X,hi⟩
   case measure=>simp[intOf];omega
  ·obtain⟨o,s,u⟩:=bU own fit H;clear own fit H;go_wp2_with fail;go_ret;exact⟨_,q,rfl,o.O,s.O,u.O⟩
section
variable {B:RB} {R:M.Room} {N:Nat} {w:aw} (h:aL w B R N)
include h
theorem tL(s:Int)(k:(Lit.int V s).wf=true)(m:N<=1000000):aF af 13 #[aq (Z ⟨B.g,0,I⟩),J V s] w λe w'=>∃(v:Value) (q:List (List Value)),e=av v/\w'.ownsRow w.heap.size 80 2 v (M.kA R s).length q.flatten/\Fit (mG w') (M.kA R s) q/\aC w w':=by
 have d:=h.cw.cell 12;simp at d;have a:=h.uS s k;cases b:R.aD s with
 |none =>
  have c:M.kA R s=[]:=by unfold M.kA;rw[b]
  rw[b,h.CG b]at a;simp only[Option.map_none,Option.getD_none,Option.isSome_none]at a;rw[c];clear h b c;go_enter func13,ntmps13;go_wp2_with fail;go_ret;exact⟨ae I 0 0,[],rfl,⟨rfl,.inl ⟨rfl,rfl⟩⟩,trivial,ao _ _⟩
 |some l =>
  obtain⟨L,f,i⟩:=h.jq b;rw[b,f]at a;have j:(Instr.lookup 54 (.map (Z B.lm)) (J V s) true).run af w=.ok (aB #[aq (Z ⟨L.g,0,I⟩),ai true]) w:=a;have c:M.kA R s=l.fF:=by unfold M.kA;rw[b]
  rw[c];have n:=au (Di L R.dA.aG R.dA.aT l N w i m);clear h i b f a c;go_enter func13,ntmps13;go_wp2_with (go_at_call 36;refine n.O.mono ?_;rintro e w1 ⟨v,q,rfl,own,fit,b1⟩;have o:=au own;have p:=au fit;have r:=au b1;clear own fit b1);go_ret;exact⟨v,q,rfl,o.O,p.O,r.O⟩
end
end
section
def rS(R:M.Room)(a s:Int):Bool:=match R.aD s with | some l=>l.wanted&&(!l.eG&&(l.pending&&decide (l.fh=a))) | none=>false
theorem IU(R:M.Room)(o:M.bN)(st:M.eu)(a:R.az o=Z st):R.wanted o=(st.jc||(R.ik o.1).any (rS R o.2)):=by
 unfold M.Room.wanted;rw[a];rfl
section
variable {B:RB} {R:M.Room} {N:Nat} {w:aw} (h:aL w B R N)
include h
theorem Dx(o:M.bN)(st:M.eu)(hs:R.az o=Z st)(hk:np R)(ho:(0<=o.1/\o.1<3)/\0<=o.2/\o.2<3)(hN:N<1000000) :
  aF af 83 #[aq (Z ⟨B.g,0,I⟩),cg #[J V o.1,J V o.2]] w λe w'=>e=av (ai (R.wanted o))/\aC w w':=by
 obtain⟨res,d⟩:=dH (R.wanted o);rw[<-d];rw[IU R o st hs]at d;obtain⟨n,HS,HK,H0⟩:=cA d hs hk h;clear h d hs hk;go_enter func83,ntmps83;go_upto_region 1 with fail;obtain⟨r3,e3⟩:=dH w.heap.size;rw[<-e3];have E:aC w (w.alloc (.cells #[J V o.1,J V o.2] 91)):=(ao _ w).alloc (aj _) _;refine aW (λX=>aK X r3 91 #[J V o.1,J V o.2]/\aL X B R N/\aC w X) ⟨aK.newAt _ _ _ _ e3,H0.O.below E,E⟩ ?_;clear e3 E H0;rintro X ⟨b3,h,E⟩;have To:=h.cw.cell 13;have p:=h.cw.cell 11;have y0:=b3.cell 0;have y1:=b3.cell 1;have hD:=h.below (eW (ao X.drew.heap.size X.drew));obtain⟨S,hS,Tp⟩:=hD.iB HS.O;have q7:X.cell? ⟨S.g,7,I⟩=_:=Tp.cw.cell 7;simp at To p y0 y1 q7;have T:(Instr.lookup 55 (.map (Z B.sm)) (cg #[J V o.1,J V o.2]) false).run af X.drew=.ok (aq (Z ⟨S.g,0,I⟩)) X.drew:=by
  have Tq:=hD.jU o (ir ⟨z,z⟩ ⟨z,z⟩);rw[hS]at Tq;exact Tq
 obtain⟨Ts,HR,HA⟩:=bU b3 h E;clear b3 h E hD Tp hS;go_cut [18] (λv wc=>v=ai st.jc/\aC X wc);case first =>
  go_region;all_goals
   go_wp2_with fail;go_meet;exact⟨rfl,eW (ao _ _)⟩
 case rest =>
 obtain⟨rfl,bX⟩:=hcut;clear T To y0 y1 q7;have hA2:=HA.O.trans (bX.mono HA.O.size);cases F:st.jc with
 |true =>
  have hr:res=true:=by rw[n.O,F];rfl
  obtain⟨TA,j⟩:=bu hr hA2;clear hr hA2 F bX;go_wp2_with fail;go_ret;exact⟨by rw[TA.O];rfl,j.O⟩
 |false =>
  have hr:res=(R.ik o.1).any (rS R o.2):=by rw[n.O,F];rfl
  obtain⟨bh,a⟩:=dH (R.ik o.1);have r:tJ R.bh (λs=>s.cL&&decide (s.jo=o.1))=bh:=by rw[a,y9]
  rw[<-a]at hr;have h:=HR.O.below bX;have b3:=Ts.O.kept bX;have p:=h.cw.cell 11;have y0:=b3.cell 0;simp at p y0;have U:=xQ B.t R.cW R.aQ R.bh N wc.drew ((h.below (eW (ao wc.drew.heap.size wc.drew))).part .table) z HK.O.may o.1;rw[r]at U;have hm:∀s∈bh,∃l,R.aD s=Z l/\0<=s/\s<6:=λs q=>by
   rw[<-r]at q;unfold tJ oR at q;rw[List.mem_filter]at q;have hq:=q.2;have:(R.aD s).isSome=true:=by
    rw[<-HK.O.iJ];cases e:R.bh s with
    |none=>rw[e]at hq;simp at hq
    |some y=>rfl
   obtain⟨l,hl⟩:=Option.isSome_iff_exists.1 this;exact⟨l,hl,HK.O.range s this⟩
  have TO:bh.length<=6:=by rw[a];unfold M.Room.ik;exact aP (List.length_filter_le _ _) (aj 6)
  have yk:∀W,aC wc W->W.cell? ⟨B.g,11,I⟩=Z (aq (Z ⟨B.t.g,0,I⟩)):=λW b=>aM b p;have TC:∀W,aC wc W->W.cell? ⟨r3,0,I⟩=Z (J V o.1):=λW b=>aM b y0;obtain⟨Tt,TD,HM,j,TE,Tu⟩:=lH hr U hm hA2 h b3;clear hr a r h b3 p y0 U hm hA2 HR Ts HA F bX n;go_wp2_with fail;go_region_held3 (λW=>aC wc W) (first|(with_reducible exact eW (ao _ _))|(with_reducible exact bx)|assumption) ((go_at_call 141;refine TD.O.mono ?_;rintro e w9 ⟨v,rfl,own,b9⟩;obtain⟨A9,m9,rfl⟩:=bA own;have bx:=eW b9;have HO:=au own;have Tv:=au bx;clear own b9));clear yk TC;go_wp2_with fail;go_loopw [27] (λi wr=>∃k:Nat,i=J V k/\k<=bh.length/\(∀s∈bh.take k,rS R o.2 s=false)/\wr.ownsRow wc.heap.size 3 1 (ae A9 bh.length m9) bh.length (bh.map (J V))/\aC wc wr) (λi _=>bh.length-(intOf i).toNat);case atStart=>exact⟨0,rfl,z,dt,CA HO.O (aj _),Tv.O⟩
  case round =>
   clear HO Tv;obtain⟨k,rfl,hk,P,own,br⟩:=hrel;have Q:=au P;clear P;by_cases Tf:k<bh.length;rotate_left
   ·have TF:k=bh.length:=z;subst TF;have e:res=false:=by
     rw[Tt.O,List.any_eq_false];intro s q;have:=Q.O s (by rw[cT];exact q);simp[this]
    obtain⟨u,HB⟩:=bu e br;clear e br own;go_wp2_with fail;go_ret;exact⟨by rw[u.O];rfl,j.O.trans (HB.O.mono j.O.size)⟩
   have TP:((k:Int)<(bh.length:Int)):=z;have hx:bh[k]? = Z bh[k]:=ay Tf;obtain⟨r9,rfl,q1,TQ⟩:=uN own hx;obtain⟨l,hl,TG,TH⟩:=HM.O bh[k] (dy Tf);have x:bh[k]∈bh:=dy Tf;have c:∀f:Bool,rS R o.2 bh[k]=f->f=false->∀s∈bh.take (k+1),rS R o.2 s=false:=by
    intro f e1 e2 s q;rw[List.take_add_one,hx]at q;rcases List.mem_append.1 q with q|q
    ·exact Q.O s q
    ·simp at q;subst q;rw[e1,e2]
   have A:rS R o.2 bh[k]=true->res=true:=λe=>by rw[Tt.O,List.any_eq_true];exact⟨_,x,e⟩
   have Tg:rS R o.2 bh[k]=(l.wanted&&(!l.eG&&(l.pending&&decide (l.fh=o.2)))):=by unfold rS;rw[hl]
   generalize bh[k]=s at hx q1 hl TG TH c A Tg x;have TI:(Lit.int V s).wf=true:=Ig z z;have hR:=TE.O.below br;obtain⟨L,hL,hA⟩:=hR.jq hl;have Tw:=hR.cw.cell 12;simp at Tw;have T:(Instr.lookup 54 (.map (Z B.lm)) (J V s) false).run af wr=.ok (aq (Z ⟨L.g,0,I⟩)) wr:=by
    have Tq:=hR.kW s TI;rw[hL]at Tq;exact Tq
   obtain⟨Tx,Ti,Ty,Tj,TJ,HO,HB⟩:=lV (vH L R.dA.aG R.dA.aT l N wr hA) c A Tg hA own br;clear own br hx hl x c A Tg hR hA hL;go_upto_region 8 with(go_big_may;go_at_call 44;refine Tx.O.mono ?_;rintro e w5 ⟨rfl,b5⟩;have Tk:=au b5;clear b5)
   obtain⟨r8,e8⟩:=dH w5.heap.size;rw[<-e8];have E:aC wr (w5.alloc (.cells #[J V l.dx,J V l.fh] 68)):=Tk.O.alloc Tk.O.size _;refine aW (λY=>aK Y r8 68 #[J V l.dx,J V l.fh]/\aC wr Y) ⟨aK.newAt _ _ _ _ e8,E⟩ ?_;clear e8 E Tk Tx T Tw q1 w5;rintro Y ⟨b8,bY⟩;have z0:=b8.cell 0;have z1:=b8.cell 1;have b3:=(Tu.O.kept HB.O).kept bY;have y1:=b3.cell 1;simp at z0 z1 y1;obtain⟨m,G,TR,TN⟩:=cA (qK L R.dA.aG R.dA.aT l N Y (TJ.O.below bY)) bY b8 b3;have hp:om.NI l.dx l.fh=l.pending:=rfl;have C:=au (λW=>om.rV l.dx l.fh W);clear b8 bY b3;obtain⟨wa,Tl⟩:=dH (l.wanted:Bool);rw[<-Tl];obtain⟨wt,Tm⟩:=dH ((wa&&(!l.eG&&(l.pending&&decide (l.fh=o.2)))):Bool);rw[<-Tl,<-Tm]at Tj;have H:=au Tm;clear Tm Tl;go_cut [58] (λv wd=>v=ai wt/\aC Y wd);case first =>
    cases wa with
    |false =>
     have e:wt=false:=by rw[H.O];rfl
     have u:=au e;clear e;go_wp2_with fail;go_meet;exact⟨by rw[u.O],ao _ _⟩
    |true =>
     cases hg:l.eG with
     |true =>
      have e:wt=false:=by rw[H.O,hg];rfl
      have u:=au e;clear e;rw[hg]at m;go_wp2_with (go_at_call 46;refine m.O.mono ?_;rintro e w6 ⟨rfl,D⟩;have D:=D.symm;subst D);go_meet;exact⟨by rw[u.O],ao _ _⟩
     |false =>
      rw[hg]at m;cases K:l.pending with
      |false =>
       have e:wt=false:=by rw[H.O,hg,K];rfl
       have u:=au e;clear e;rw[show om.NI l.dx l.fh=false from hp.trans K]at C;clear hp;go_wp2_with (first|(go_at_call 46;refine m.O.mono ?_;rintro e w6 ⟨rfl,D⟩;have D:=D.symm;subst D)|(go_at_call 18;refine(C.O _).mono ?_;rintro e w6 ⟨rfl,b6⟩;have Tn:=au b6;clear b6));go_meet;exact⟨by rw[u.O],Tn.O⟩
      |true =>
       have e:wt=decide (l.fh=o.2):=by rw[H.O,hg,K];rfl
       rw[show om.NI l.dx l.fh=true from hp.trans K]at C;have u:=au e;clear hp e;go_wp2_with (first|(go_at_call 46;refine m.O.mono ?_;rintro e w6 ⟨rfl,D⟩;have D:=D.symm;subst D)|(go_at_call 18;refine(C.O _).mono ?_;rintro e w6 ⟨rfl,b6⟩;have TS:=aM b6 z1;have TT:=aM b6 y1;have Tn:=au b6;clear b6));go_meet;exact⟨by rw[u.O];first|rfl|(congr 1;rw[Bool.eq_iff_iff];simp),Tn.O⟩
   case rest =>
    obtain⟨rfl,bd⟩:=hcut;have bw:=HB.O.trans ((G.O.trans (bd.mono G.O.size)).mono HB.O.size);have bo:=G.O.trans (bd.mono G.O.size);obtain⟨Tz,TM⟩:=bu bw bo;clear bd bw bo z0 z1 y1 m C hp;cases wt with
    |false =>
     go_wp2_with fail;go_roundw;case rel=>exact⟨k+1,by go_num,z,Ti.O _ Tj.O rfl,gI HO.O TM.O,Tz.O⟩
     case measure=>simp[intOf];omega
    |true =>
     have e:=Ty.O Tj.O;have u:=au e;clear e;go_wp2_with fail;go_ret;exact⟨by rw[u.O];rfl,j.O.trans (Tz.O.mono j.O.size)⟩
end
end
def Gh(x:Nat×M.cQ):List Int:=[(x.1:Int),(M.eP x.2).1.dQ,(M.eP x.2).1.aU]
def s8(it:Int->ByteArray)(x:Nat×M.cQ):ByteArray:=⟨(Lib.join (((Gh x).map it).map (·.data.toList)) [58]).toArray⟩
def IN{B:RB}{R:M.Room}{N:Nat}{w:aw}(h:aL w B R N)(p:Nat)(v0:Value)(hp:aK w p 180 #[aq (Z ⟨B.g,0,I⟩)])(s:Int)(hs:(Lit.int V s).wf=true)(hN:N<=1000000)(it:Int->ByteArray)
  (H:∀x∈M.kA R s,∀n∈Gh x,∀W,aC w W->aF af 136 #[J V n] W λe W'=>e=av (.string (it n))/\aC W W') (h1:1<=(M.kA R s).length) (h2:(M.kA R s).length<=100)
  (C:∀x∈M.kA R s,(Lib.join (((Gh x).map it).map (·.data.toList)) [58]).length<=100000) (Q:(Lib.join (((M.kA R s).map (s8 it)).map (·.data.toList)) vD.data.toList).length<=100000) :
  aF af 255 #[aq (Z ⟨p,0,I⟩),J V s] w λe w'=>e=av (.string ⟨(Lib.join (((M.kA R s).map (s8 it)).map (·.data.toList)) vD.data.toList).toArray⟩)/\aC w w':=by
 obtain⟨i0,hi,Ts,Tt,Tu⟩:=cY Mw;obtain⟨HI,TO,TP,TQ,HW⟩:=gY hi Ts Tt Tu (tL h s hs hN);have c0:=hp.cell 0;simp at c0;obtain⟨L,hL⟩:=dH (M.kA R s);rw[<-hL]at HW H h1 h2 C Q;obtain⟨HL,HH,HJ,TR⟩:=cA hL H C Q;clear hi Ts Tt Tu h hp hL H C Q;go_enter func255,ntmps255;go_wp2_with (go_at_call 13;refine HW.O.mono ?_;rintro e w2 ⟨v,q,rfl,own,fit,b2⟩;obtain⟨A1,c1,rfl⟩:=bA own;have HO:=au own;have HF:=au fit;have f:=au b2;clear own fit b2);go_loopw [5,17] (λv i wr=>∃k:Nat,k<=L.length/\i=J V k/\wr.ownsRow w2.heap.size 9 1 v ((L.take k).map (s8 it)).length (((L.take k).map (s8 it)).map Value.string)/\aC w2 wr) (λ_ i _=>L.length-(intOf i).toNat);case atStart=>exact⟨0,Nat.zero_le _,rfl,⟨rfl,.inl ⟨rfl,rfl⟩⟩,ao _ _⟩
 case round =>
  obtain⟨k,hk,rfl,own,D⟩:=hrel;by_cases S:k<L.length
  ·have Ug:((k:Int)<(L.length:Int)):=z;obtain⟨g1,m1,e1,z1,d⟩:=jZ HO.O (Fit.len (R:=mG w2) (λx c k=>by obtain⟨b,rfl,_⟩:=k;rfl) HF.O) z;injection e1 with TS _ TT
   subst TS;subst TT;have T:L[k]? = Z L[k]:=ay S;obtain⟨cx,l,m,rfl,U,Uh,hid⟩:=Fit.get HF.O T;have k0:=aM D (d k _ l 0 z);have k1:=aM D (d k _ l 1 z);simp at k0 k1;have Tf:L[k]∈L:=dy S;have o:(L.take (k+1)).map (s8 it)=(L.take k).map (s8 it)++[s8 it L[k]]:=by rw[List.take_succ_eq_append_getElem S,List.map_append];rfl
   have r:((L.take k).map (s8 it)).length=k:=dZ;have Tg:=HH.O L[k] Tf;have Ti:=HJ.O L[k] Tf;generalize L[k]=x at T l U hid k0 k1 o Tg Ti;rw[r]at own;generalize ((L.take k).map (s8 it))=vs at own o r;obtain⟨A5,c5,rfl⟩:=bA own;have Tv:=f.O.trans (D.mono f.O.size);obtain⟨TV,TW,Tw,Tx,Ty,TX,TY,Tz⟩:=qh r o own D Tv Tg Ti (U.rows (.inl rfl) (.bn D));clear r o own D Tv Tg Ti U T l Tf d;go_upto_region 5 with fail;obtain⟨r7,e7⟩:=dH wr.heap.size;rw[<-e7];refine aW (λX=>aK X r7 80 #[J V x.1,ae m.a m.n m.c]/\aC wr X) ⟨by simpa using aK.newAt _ _ _ _ e7,(ao _ wr).alloc (aj _) _⟩ ?_;clear e7 k0 k1;rintro X ⟨b7,bX⟩;have j0:=b7.cell 0;have j1:=b7.cell 1;simp at j0 j1;obtain⟨T8,Tj,TA⟩:=bU (wF m.a m.n m.c x.2 X (Tz.O.rows (.inl rfl) (.bn bX)).tl Tz.O.zero z) bX b7;clear bX b7;go_upto_region 6 with(go_at_call 16;refine T8.O.mono ?_;rintro e w4 ⟨⟨sp,ep,yp,rfl,TC⟩,b4⟩;have Tk:=au TC;have Tl:=au b4;clear TC b4)
   obtain⟨r8,e8⟩:=dH w4.heap.size;rw[<-e8];have b4:=Tj.O.trans (Tl.O.mono Tj.O.size);have TD:=Tk.O.dQ;have TE:=Tk.O.aU;obtain⟨P,hP⟩:=dH ((M.eP x.2).1);rw[<-hP]at TD TE ⊢;refine aW (λY=>aK Y r8 76 (uA P sp ep yp)/\aK Y r7 80 #[J V x.1,ae m.a m.n m.c]/\aC wr Y) ⟨aK.newAt _ _ _ _ e8,(TA.O.kept Tl.O).alloc _,b4.alloc b4.size _⟩ ?_;clear e8 b4 j0 j1 TA Tl Tj Tk;rintro Y ⟨b8,b7,bY⟩;have j0:=b7.cell 0;have p2:=b8.cell 2;have p3:=b8.cell 3;simp at j0 p2 p3;have x1:V.wrap P.dQ=P.dQ:=IntWalk.i64_in _ ⟨z,z⟩;have x2:V.wrap P.aU=P.aU:=IntWalk.i64_in _ ⟨z,z⟩;have Tm:Gh x=[(x.1:Int),P.dQ,P.aU]:=by unfold Gh;rw[hP]
   have t:=Ty.O.trans (bY.mono Ty.O.size);have al:=(ao Y.heap.size Y).alloc (aj _) (.cells #[J V x.1,J V P.dQ,J V P.aU] 3);have hit:=TX.O;have Tn:=TY.O;rw[Tm]at hit Tn;have y:=Gf ⟨#[58]⟩ Y.heap.size 0 3 [(x.1:Int),P.dQ,P.aU] it (Y.alloc (.cells #[J V x.1,J V P.dQ,J V P.aU] 3)) (λj u hu=>by
    rw[cO,cell_of_row _ _ j _ _ _ (heap_alloc_new Y _)]
    rcases j with _|_|_|j
    ·simp at hu;rw[<-hu];rfl
    ·simp at hu;rw[<-hu];rfl
    ·simp at hu;rw[<-hu];rfl
    ·simp at hu) dt dt dt (λn hn W b=>hit n hn W ((t.trans (al.mono t.size)).trans (b.mono (aP t.size al.size)))) Tn
   have TF:(⟨(Lib.join (([(x.1:Int),P.dQ,P.aU].map it).map (·.data.toList)) [58]).toArray⟩:ByteArray)=s8 it x:=by unfold s8;rw[Tm]
   have y:aF af 254 #[.string ⟨#[58]⟩,ae (Z ⟨Y.heap.size,0,I⟩) 3 3] (Y.alloc (.cells #[J V x.1,J V P.dQ,J V P.aU] 3)) λe w'=>e=av (.string (s8 it x))/\Below (Y.alloc (.cells #[J V x.1,J V P.dQ,J V P.aU] 3)).heap.size (Y.alloc (.cells #[J V x.1,J V P.dQ,J V P.aU] 3)) w':=by rw[<-TF];exact y
   obtain⟨TG,To,Tp⟩:=bU y bY al;clear y TF hit Tn al t bY b7 b8 Tm hP TD TE;go_wp2_with fail;refine TG.O.mono ?_;rintro e w5 ⟨rfl,b5⟩;have b5:=To.O.trans ((Tp.O.trans (b5.mono Tp.O.size)).mono To.O.size);have E:=Bg Tw.O b5;have b6:=Tx.O.trans (b5.mono Tx.O.size);have Ui:=b6.size;obtain⟨Tq,TH,F⟩:=bU E (fB w5 9 #[.string (s8 it x)]) (b6.alloc b6.size (.cells #[.string (s8 it x)] 9));clear b5 E b6 TG To Tp Tw;go_wp2_with (at_builtin;go_loud (refine dM _ rfl _ _ 181 rfl w2.heap.size 9 i0 _ 1 16 underlying181 HI.O TO.O TP.O TQ.O rfl aR _ _ _ rfl (Tq.O.alloc _) ⟨w5.heap.size,0,I⟩ 1 1 [.string (s8 it x)] rfl rfl TH.O tk ?_ ?_ ?_ ?_))
   ·unfold maxLen;omega
   ·omega
   ·first|omega|(simp;omega)
   intro v5 w6 G g5 _;have b6:=F.O.grown g5 dZ (λj C=>((Tq.O.alloc (.cells #[.string (s8 it x)] 9)).lt j C).1);obtain⟨T9,Ua⟩:=bu G b6;clear G g5 b6 F TH Tq;go_wp2_with fail;go_roundw;case rel=>exact⟨k+1,z,by go_num,by rw[TW.O];simpa[TV.O]using T9.O,Ua.O⟩
   case measure=>simp[intOf];omega
  ·have Ub:k=L.length:=z;subst Ub;rw[cT]at own;obtain⟨vs,A⟩:=dH (L.map (s8 it));have Uc:vs.length=L.length:=by rw[A];simp
   have Q:=TR.O;rw[<-A]at own Q;have TI:0<vs.length:=z;obtain⟨g5,c5,rfl⟩:=Joins.ownsRow_form own TI;have TJ:g5<wr.heap.size:=(own.lt g5 rfl).2;have TM:∀(j:Nat) x,vs[j]? = Z x->wr.cell? ⟨g5,0+j,I⟩=Z (.string x):=λj x C=>by
    have Ud:=(aS.1 C).1;rw[cO,own.cellAt j (by simpa using Ud),List.getElem?_map,C];rfl
   have K:vs.length<=c5:=by
    rcases own.2 with⟨q,_⟩ | ⟨g,cap,dx,q,_,_,q3,_⟩
    ·cases q
    ·injection q with _ _ q5
     subst q5;omega
   have TN:=LU g5 0 c5 vs wr TM TJ z z K Q;obtain⟨Ue,HB,HV⟩:=bU TN (f.O.trans (D.mono f.O.size)) (A.trans (by rw[HL.O]));clear TN own D TM TJ K Q A Uc;go_wp2_with (go_at_call 289;refine Ue.O.mono ?_;rintro e w3 ⟨rfl,b3⟩;have Uf:=au b3;clear b3);go_ret;exact⟨by rw[<-HV.O];rfl,HB.O.trans (Uf.O.mono HB.O.size)⟩
end Go.Proofs.YtkfblammcilfhaaGreatDoor
