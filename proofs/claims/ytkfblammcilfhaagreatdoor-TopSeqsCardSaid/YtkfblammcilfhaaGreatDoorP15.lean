import Derived.Lib.AppendStr
import Derived.Test.YtkfblammcilfhaaGreatDoorP12
import Derived.Test.YtkfblammcilfhaaGreatDoorP13
set_option linter.all false
set_option maxRecDepth 100000
set_option maxHeartbeats 100000000
open Go.ChangeShapes Go.WideShapes Go.ChangeAt Go.RowKit Go.Proofs.Tryz
open Go renaming World->aw,Calls->aF,bodyPost_ret->ax,results->aV,info_parts->cY,wpOp_step->lC,results_tmp2->ew,TypeInfo->pO,grownCap->tA,setRow_heap->kQ,growslice_fits->rG,Oper->mJ,wpList->oD,wpList_plain->oB
open Go.Proofs.Tryz renaming prog->af
open Go.RowKit.Below renaming refl->ao
open Nat renaming le_refl->aj,le_trans->aP,lt_or_ge->iL,le_succ->cZ
open Bool renaming not_false->rN,not_true->jV,false_or->sR,false_eq_true->cB,true_eq_false->rL,and_eq_true->cM
open Ne renaming symm->jx
open Go.Value renaming int->J,ownBlock->eR,slice->ae,bool->ai,pointer->aq,tuple->aB,agg->cg
open Option.some renaming injEq->bf
open List renaming getElem?_eq_getElem->ay,getD_eq_getElem?_getD->bE,length_eq_zero_iff->cU,mem_append->bt,mem_of_mem_take->eZ,mem_of_mem_drop->ga,map_toArray->tu,map_cons->eV,map_nil->jk
open Go.IntKind renaming i64->V,u32->ar,u16->aN,u8->bI
open Array renaming size_setIfInBounds->dh
open And renaming intro->dj
open Go.Act renaming put->aA
open Go.Builtin renaming zeroCells->fM,append_->qe
open Go.Lib renaming strCells->iP,byteCells->gD
open Go.Obj.cells renaming injEq->kG
open Go.Ending renaming returned->av
open Option renaming none->I,some->Z
namespace Go.Proofs.YtkfblammcilfhaaGreatDoor
def og(o:Option Nat)(a:Int)(b:Bool):Prop:=match o with | some x=>b=true/\a=(x:Int) | none=>b=false
def tn(B:LB)(aG:Nat)(aT:Int)(N:Nat)(w:aw)(res:M.dP×Option Nat)(r:Ending)(w':aw):Prop:=
 ∃(a:Int) (b:Bool) (c:Int),r=av (aB #[J V a,ai b,J V c])/\og res.2 a b/\ca w' B aG aT res.1 N/\Fr B.own w w'
abbrev Qz:Array Value:=#[J V 0,J V 0,ai false,ai false,J bI 0,J aN 0,J ar 0,J ar 0,ae I 0 0,ai false,J aN 0,ae I 0 0,ae I 0 0]
def zI(B:LB)(aG:Nat)(aT:Int)(l:M.dP)(N:Nat)(w:aw)(h:ca w B aG aT l N)(id:Nat)(aY:Int)(key:Bool)(p:M.cR)(s e y:Sl)(hp:iT w p s e y)(hi:id<=1000000) :
  aF af 127 #[aq (Z ⟨B.g,0,I⟩),QR id aY key p s e y] w (tn B aG aT N w (l.put aG ⟨id,aY,key,p⟩)):=by
 have Tp:=h.lt;obtain⟨H,HP⟩:=bu h hp;have Tf:=λW (hW:ca W B aG aT l N)=>qK B aG aT l N W hW;have HG:=au Tf;obtain⟨sn,en,yn⟩:=Pp hp;clear h hp Tf;obtain⟨res,j⟩:=dH (l.put aG ⟨id,aY,key,p⟩);rw[<-j];have Tl:l.eG=false->l.wanted=true->M.there aY=true->p.right=true->l.put aG ⟨id,aY,key,p⟩=({ l with cK:=M.push aG l.cK ⟨id,aY,key,p⟩ },if l.cK.length=aG then l.cK.head?.map (·.id) else I):=by
  intro a b c d;unfold M.dP.put;simp[a,b,c,d]
 obtain⟨Tu,Tq⟩:=bu j Tl;clear Tl;unfold M.dP.put at j;simp only at j;go_enter func127,ntmps127;go_upto_region 1 with fail;obtain⟨m,h3⟩:=dH w.heap.size;rw[<-h3];have Tg:Hd (∀i,B.own i->i≠m):=au (λi hi=>by have:=Tp i hi;omega);refine aW (λW=>aK W m 227 (Mt id aY key p s e y)/\ca W B aG aT l N/\iT W p s e y/\aC w W) ⟨aK.newAt _ _ _ _ h3,H.O.below ((ao _ w).alloc (aj _) _),HP.O.below ((ao _ w).alloc (aj _) _),(ao _ w).alloc (aj _) _⟩ ?_;rintro W ⟨b3,R,U,Y⟩;have To:w.heap.size<=m:=z;clear h3 H HP Tp;have k1:=b3.cell 1;have k3:=b3.cell 3;have k4:=b3.cell 4;have k5:=b3.cell 5;have k6:=b3.cell 6;have k7:=b3.cell 7;have k8:=b3.cell 8;have k9:=b3.cell 9;have S:=b3.cell 10;have K:=b3.cell 11;have L:=b3.cell 12;simp at k1 k3 k4 k5 k6 k7 k8 k9 S K L;obtain⟨u,k,D,E⟩:=cA R U Y b3;clear Y b3 R U;cases ht:M.there aY
 ·rw[ht]at j;simp only[Bool.false_and,rN,Bool.true_or,if_true]at j;subst j;go_wp2_with (refine(nD aY W).mono ?_;rintro e w1 ⟨rfl,hw⟩;have P:=hw.symm;subst P;rw[ht]);refine ax (v:=aB #[J V 0,ai false,J V 1]) (by simp[aV,results127,go_sem]) rfl ?_;unfold tn;exact⟨_,_,_,rfl,rfl,u.O,.bn D.O⟩
 cases hr:p.right
 ·rw[ht,hr]at j;simp only[Bool.and_false,rN,Bool.true_or,if_true]at j;subst j;go_wp2_with (first
   |(refine(nD aY W).mono ?_;rintro e w1 ⟨rfl,hw⟩;have P:=hw.symm;subst P;rw[ht])
   |(refine(xj p s e y W k.O).mono ?_;rintro r w2 ⟨rfl,b2⟩;rw[hr]))
  refine ax (v:=aB #[J V 0,ai false,J V 1]) (by simp[aV,results127,go_sem]) rfl ?_;unfold tn;exact⟨_,_,_,rfl,rfl,u.O.below b2,.bn (D.O.trans (b2.mono D.O.size))⟩
 rw[ht,hr]at j;simp only[Bool.and_true,jV,sR]at j;go_upto_region 3 with(go_big_may;first
  |(refine(nD aY W).mono ?_;rintro e w1 ⟨rfl,hw⟩;have P:=hw.symm;subst P;rw[ht])
  |(refine(xj p s e y W k.O).mono ?_;rintro r w2 ⟨rfl,b2⟩;rw[hr]))
 refine aW (λX=>aK X m 227 (Mt id aY key p s e y)/\ca X B aG aT l N/\iT X p s e y/\aC w X) ⟨E.O.kept b2,u.O.below b2,k.O.below b2,D.O.trans (b2.mono D.O.size)⟩ ?_;clear E u k D k1 k3 k4 k5 k6 k7 k8 k9 S K L b2;rintro X ⟨b3,R,U,Y⟩;have c4:=R.cw.cell 4;have k8:=b3.cell 8;simp at c4 k8;obtain⟨u,k,D,E⟩:=cA R U Y b3;clear Y b3 R U;cases hg:l.eG
 ·rw[hg]at j;cases hw:l.wanted
  ·rw[hw]at j c4;simp only[sR,rN,if_true]at j;subst j;go_wp2_with (refine(HG.O X u.O).mono ?_;rintro e w1 ⟨rfl,hw⟩;have P:=hw.symm;subst P;rw[hg]);refine ax (v:=aB #[J V 0,ai false,J V 5]) (by simp[aV,results127,go_sem]) rfl ?_;unfold tn;exact⟨_,_,_,rfl,rfl,u.O,.bn D.O⟩
  rw[hw]at j c4;simp only[sR,jV,cB,if_false]at j;clear j;have j:=Tu.O.trans (Tq.O hg hw ht hr);have Tm:=au j;clear j;go_upto_region 8 with(go_big_may;first
   |(refine(HG.O X u.O).mono ?_;rintro e w1 ⟨rfl,hw⟩;have P:=hw.symm;subst P;rw[hg])
   |(refine(GU s.a s.n s.c p.aQ X k.O.s.tl z k.O.s.zero).mono ?_;rintro e w4 ⟨⟨A1,c1,rfl,hT,hle,Ti,hz⟩,b4⟩;have B4:=E.O.kept b4;have f8:=B4.frozen 8;have T:=B4.cell 8;simp at T;have Q:=au B4;have o:=au b4;have HT:=au hT;clear B4 b4 hT))
  have F:Fr (One m) w4 (w4.setCell ⟨m,8,I⟩ (ae A1 s.n c1)):=(Fr.refl (One m) w4).setCell Q.O (.inl rfl) aR aR 8 _;have A:=k.O.below o.O;refine aW (λX=>aK X m 227 (Mt id aY key p ⟨A1,s.n,c1⟩ e y)/\ca X B aG aT l N/\iT X p ⟨A1,s.n,c1⟩ e y/\aC w X) ⟨by simpa using Q.O.bC 8 (ae A1 s.n c1),(u.O.below o.O).fr F (λi hi q=>Tg.O i hi q),iT.rows ⟨⟨HT.O,hle,Ti,hz⟩,A.e,A.y,A.type,A.dQ,A.aU,A.bJ,A.bV,A.small⟩ F.r,(D.O.trans (o.O.mono D.O.size)).trans (F.below (aP D.O.size o.O.size) (λi q=>by rw[show i=m from q];exact To))⟩ ?_;clear F A Q o HT E u k D k8 f8 T c4 X;rintro X ⟨b3,R,U,Y⟩;have K:=b3.cell 11;simp at K;obtain⟨u,k,D,E⟩:=cA R U Y b3;clear Y b3 R U;go_upto_region 9 with(go_big_may;(refine(mC e.a e.n e.c p.fp X k.O.e.tl z k.O.e.zero).mono ?_;rintro e' w4 ⟨⟨A2,c2,rfl,hT,hle,Ti,hz⟩,b4⟩;have B4:=E.O.kept b4;have f8:=B4.frozen 11;have T:=B4.cell 11;simp at T;have Q:=au B4;have o:=au b4;have HT:=au hT;clear B4 b4 hT))
  have F:Fr (One m) w4 (w4.setCell ⟨m,11,I⟩ (ae A2 e.n c2)):=(Fr.refl (One m) w4).setCell Q.O (.inl rfl) aR aR 11 _;have A:=k.O.below o.O;refine aW (λX=>aK X m 227 (Mt id aY key p ⟨A1,s.n,c1⟩ ⟨A2,e.n,c2⟩ y)/\ca X B aG aT l N/\iT X p ⟨A1,s.n,c1⟩ ⟨A2,e.n,c2⟩ y/\aC w X) ⟨by simpa using Q.O.bC 11 (ae A2 e.n c2),(u.O.below o.O).fr F (λi hi q=>Tg.O i hi q),iT.rows ⟨A.s,⟨HT.O,hle,Ti,hz⟩,A.y,A.type,A.dQ,A.aU,A.bJ,A.bV,A.small⟩ F.r,(D.O.trans (o.O.mono D.O.size)).trans (F.below (aP D.O.size o.O.size) (λi q=>by rw[show i=m from q];exact To))⟩ ?_;clear F A Q o HT E u k D K f8 T X;rintro X ⟨b3,R,U,Y⟩;have L:=b3.cell 12;simp at L;obtain⟨u,k,D,E⟩:=cA R U Y b3;clear Y b3 R U;go_upto_region 10 with(go_big_may;(refine(mC y.a y.n y.c p.cF X k.O.y.tl z k.O.y.zero).mono ?_;rintro e' w4 ⟨⟨A3,c3,rfl,hT,hle,Ti,hz⟩,b4⟩;have B4:=E.O.kept b4;have f8:=B4.frozen 12;have T:=B4.cell 12;simp at T;have Q:=au B4;have o:=au b4;have HT:=au hT;clear B4 b4 hT))
  have F:Fr (One m) w4 (w4.setCell ⟨m,12,I⟩ (ae A3 y.n c3)):=(Fr.refl (One m) w4).setCell Q.O (.inl rfl) aR aR 12 _;have A:=k.O.below o.O;refine aW (λX=>aK X m 227 (Mt id aY key p ⟨A1,s.n,c1⟩ ⟨A2,e.n,c2⟩ ⟨A3,y.n,c3⟩)/\ca X B aG aT l N/\iT X p ⟨A1,s.n,c1⟩ ⟨A2,e.n,c2⟩ ⟨A3,y.n,c3⟩/\aC w X) ⟨by simpa using Q.O.bC 12 (ae A3 y.n c3),(u.O.below o.O).fr F (λi hi q=>Tg.O i hi q),iT.rows ⟨A.s,A.e,⟨HT.O,hle,Ti,hz⟩,A.type,A.dQ,A.aU,A.bJ,A.bV,A.small⟩ F.r,(D.O.trans (o.O.mono D.O.size)).trans (F.below (aP D.O.size o.O.size) (λi q=>by rw[show i=m from q];exact To))⟩ ?_;clear F A Q o HT E u k D L f8 T X;rintro X ⟨b3,R,U,Y⟩;have k0:=b3.cell 0;have k1:=b3.cell 1;have k2:=b3.cell 2;have k3:=b3.cell 3;have k4:=b3.cell 4;have k5:=b3.cell 5;have k6:=b3.cell 6;have k7:=b3.cell 7;have k8:=b3.cell 8;have k9:=b3.cell 9;have S:=b3.cell 10;have K:=b3.cell 11;have L:=b3.cell 12;have Tj:=R.cw.cell 1;simp at k0 k1 k2 k3 k4 k5 k6 k7 k8 k9 S K L Tj;have lay:0<=aY/\aY<3:=by simpa[M.there]using ht
  have Tv:=au (λW (hW:sj W B.g1 B.p1 aG l.cK) (U:iT W p ⟨A1,s.n,c1⟩ ⟨A2,e.n,c2⟩ ⟨A3,y.n,c3⟩)=>Gx hW id aY key p ⟨A1,s.n,c1⟩ ⟨A2,e.n,c2⟩ ⟨A3,y.n,c3⟩ U hi lay);have u:=au R;have k:=au U;have D:=au Y;have E:=au b3;clear Y b3 R U;have TI:m<X.heap.size:=E.O.lt;have TJ:B.g<X.heap.size:=u.O.lt _ (.inl rfl);have N3:Hd (¬jK B.g1 B.p1 m):=au (by
   rintro(q|q)
   ·exact Tg.O _ (.inr (.inl (.inl rfl))) q.symm
   ·exact Tg.O _ (.inr (.inl (.inr rfl))) q.symm)
  have NG:Hd (¬jK B.g1 B.p1 B.g):=au ((u.O.MJ u.O.cw).1 aR aR);have G:Hd (¬One X.heap.size m):=au (λq=>by have:m=X.heap.size:=q;omega);have Tw:Hd (¬One X.heap.size B.g):=au (λq=>by have:B.g=X.heap.size:=q;omega);have Tx:Hd (¬jK B.g1 B.p1 X.heap.size):=au (by
   rintro(q|q)
   ·have:=u.O.lt _ (.inr (.inl (.inl rfl)));omega
   ·have:=u.O.lt _ (.inr (.inl (.inr rfl)));omega)
  have Tn:∀i,B.own i->i≠X.heap.size:=λi hi=>by have:=u.O.lt i hi;omega
  have Ts:=au Tn;clear Tn;go_cut [7,8,9] (λa b c wc=>∃(r7:Nat) (oi:Int),a=aq (Z ⟨r7,0,I⟩)/\b=ai (decide (l.cK.length=aG))/\c=J V 0/\wc.cell? ⟨r7,0,I⟩=Z (J V oi)/\(l.cK.length=aG->∃x,l.cK.head? = Z x/\oi=(x.id:Int))/\ca wc B aG aT { l with cK:=M.push aG l.cK ⟨id,aY,key,p⟩ } N/\Fr B.own w wc);case first =>
   go_region_held3 (λW=>W.cell? ⟨B.g,1,I⟩=Z (aq (Z ⟨B.g1,0,I⟩))/\W.cell? ⟨m,0,I⟩=Z (J V id)/\W.cell? ⟨m,1,I⟩=Z (J V aY)/\W.cell? ⟨m,2,I⟩=Z (ai key)/\W.cell? ⟨m,3,I⟩=Z (ai p.dR)/\W.cell? ⟨m,4,I⟩=Z (J bI p.type)/\W.cell? ⟨m,5,I⟩=Z (J aN p.dQ)/\W.cell? ⟨m,6,I⟩=Z (J ar p.aU)/\W.cell? ⟨m,7,I⟩=Z (J ar p.bJ)/\W.cell? ⟨m,8,I⟩=Z (ae A1 s.n c1)/\W.cell? ⟨m,9,I⟩=Z (ai p.has)/\W.cell? ⟨m,10,I⟩=Z (J aN p.bV)/\W.cell? ⟨m,11,I⟩=Z (ae A2 e.n c2)/\W.cell? ⟨m,12,I⟩=Z (ae A3 y.n c3)) (first|(with_reducible exact⟨cE Tj,cE k0,cE k1,cE k2,cE k3,cE k4,cE k5,cE k6,cE k7,cE k8,cE k9,cE S,cE K,cE L⟩)|(with_reducible exact⟨cE (ea Tj),cE (ea k0),cE (ea k1),cE (ea k2),cE (ea k3),cE (ea k4),cE (ea k5),cE (ea k6),cE (ea k7),cE (ea k8),cE (ea k9),cE (ea S),cE (ea K),cE (ea L)⟩)|(with_reducible exact⟨hc,h0,h1,h2,h3,h4,h5,h6,h7,h8,h9,xx,yk,KG⟩)|(with_reducible exact⟨ea hc,ea h0,ea h1,ea h2,ea h3,ea h4,ea h5,ea h6,ea h7,ea h8,ea h9,ea xx,ea yk,ea KG⟩)|(with_reducible exact⟨dD t.O Tw.O hc,dD t.O G.O h0,dD t.O G.O h1,dD t.O G.O h2,dD t.O G.O h3,dD t.O G.O h4,dD t.O G.O h5,dD t.O G.O h6,dD t.O G.O h7,dD t.O G.O h8,dD t.O G.O h9,dD t.O G.O xx,dD t.O G.O yk,dD t.O G.O KG⟩)) (first|(go_at_call 187;refine Calls.mono (Tv.O _ ?_ ?_) ?_;(first|(with_reducible exact(u.O.below (eW (ao _ _))).items)|(with_reducible exact(u.O.below (ML (ao _ _))).items));(first|(with_reducible exact k.O.below (eW (ao _ _)))|(with_reducible exact k.O.below (ML (ao _ _))));rintro rr w9 ⟨oi,ol,ok,op,os,oe,oy,rfl,hd,hI,f⟩;have f1:Fr (jK B.g1 B.p1) X w9:=(by first|(with_reducible exact Eu f)|(with_reducible exact ON f));have hc:=dD f1 NG.O Tj;have h0:=dD f1 N3.O k0;have h1:=dD f1 N3.O k1;have h2:=dD f1 N3.O k2;have h3:=dD f1 N3.O k3;have h4:=dD f1 N3.O k4;have h5:=dD f1 N3.O k5;have h6:=dD f1 N3.O k6;have h7:=dD f1 N3.O k7;have h8:=dD f1 N3.O k8;have h9:=dD f1 N3.O k9;have xx:=dD f1 N3.O S;have yk:=dD f1 N3.O K;have KG:=dD f1 N3.O L;have Tk:=au f1;have HI:=au hI;have Tt:=au hd;have TM:=au f1.size;first|(have C:aK w9 X.heap.size 227 Qz:=(by with_reducible exact OM f Tx.O);have q0:=C.cell 0;have p0:=C.frozen 0;have q1:=C.cell 1;have p1:=C.frozen 1;have q2:=C.cell 2;have p2:=C.frozen 2;have q3:=C.cell 3;have p3:=C.frozen 3;have q4:=C.cell 4;have p4:=C.frozen 4;have q5:=C.cell 5;have p5:=C.frozen 5;have q6:=C.cell 6;have p6:=C.frozen 6;have q7:=C.cell 7;have p7:=C.frozen 7;have q8:=C.cell 8;have p8:=C.frozen 8;have q9:=C.cell 9;have p9:=C.frozen 9;have Ty:=C.cell 10;have TN:=C.frozen 10;have Tz:=C.cell 11;have TO:=C.frozen 11;have TA:=C.cell 12;have TP:=C.frozen 12;simp at q0 q1 q2 q3 q4 q5 q6 q7 q8 q9 Ty Tz TA;have S7:=Fr.im (F:=One X.heap.size) aR aR (RM oi ol ok op os oe oy) 0 C (.inl rfl) (Fr.refl (One X.heap.size) w9);have Z7:=aK.im (RM oi ol ok op os oe oy) 0 C;simp only[im,Nat.reduceAdd,Nat.zero_add]at S7 Z7;have t:=au S7;have TC:=au Z7;clear S7 Z7 C f f1 hI hd)|(clear f f1 hI hd)));all_goals
    go_wp2_with fail;go_meet;first
     | (with_reducible refine⟨w9.heap.size,oi,rfl,rfl,rfl,?_,Tt.O,?_,?_⟩
        ·rw[(aK.new w9 227 _).cell 0];rfl
        ·exact(u.O.ub Tk.O HI.O).below ((ao _ _).alloc (aj _) _)
        ·exact((Fr.bn (F:=B.own) D.O).step Tk.O (λi hi=>.inl (ca.rO B i hi))).alloc _)
     | (with_reducible refine⟨X.heap.size,oi,rfl,rfl,rfl,?_,Tt.O,?_,?_⟩
        ·rw[TC.O.cell 0,uv _ _ _ _ (aj 13)];rfl
        ·exact(u.O.ub Tk.O HI.O).fr t.O (λi hi q=>Ts.O i hi q)
        ·exact((Fr.bn (F:=B.own) D.O).step Tk.O (λi hi=>.inl (ca.rO B i hi))).step t.O (λi q=>.inr (by have h1:=D.O.size;have h2:i=X.heap.size:=q;omega)))
  case rest =>
   obtain⟨r7,oi,rfl,rfl,rfl,k7,hd,R,hF⟩:=hcut;have hD:og res.2 oi (decide (l.cK.length=aG)):=by
    rw[Tm.O];unfold og;by_cases hc:l.cK.length=aG
    ·obtain⟨x,TD,TE⟩:=hd hc;simp[hc,TD,TE]
    ·simp[hc]
   obtain⟨TF,TG,TH⟩:=bU hD R hF;clear hD hd R hF k0 k1 k2 k3 k4 k5 k6 k8 k9 S K L Tj;go_wp2_with fail;refine ax (v:=aB #[J V oi,ai (decide (l.cK.length=aG)),J V 0]) (by simp[aV,results127,go_sem]) rfl ?_;unfold tn;refine⟨oi,_,0,rfl,TF.O,?_,TH.O⟩;rw[Tm.O];exact TG.O
 ·rw[hg]at j;simp only[Bool.true_or,if_true]at j;subst j;go_wp2_with (refine(HG.O X u.O).mono ?_;rintro e w1 ⟨rfl,hw⟩;have P:=hw.symm;subst P;rw[hg]);refine ax (v:=aB #[J V 0,ai false,J V 7]) (by simp[aV,results127,go_sem]) rfl ?_;unfold tn;exact⟨_,_,_,rfl,rfl,u.O,.bn D.O⟩
section
def wT(w:aw)(g pl cap:Nat)(l:List M.cQ):Prop:=∃q,ko w g pl cap q/\Fit (Dd w) l q
section
variable {w w':aw} {g pl cap:Nat}
theorem wJ{tr te:TypeId}{k:Nat}{w w':aw}{g pl cap:Nat}{q:List (List Value)}(h:RingM tr te k w g pl cap q)(u:cS (jK g pl) w w')(h1:tr≠5)(h2:tr≠41)(h3:te≠5)(h4:te≠41):Fr (jK g pl) w w':=
 .nY u h.typed (by simp;exact⟨jx h1,jx h3⟩) (by simp;exact⟨jx h2,jx h4⟩)
theorem wT.below{l:List M.cQ}(h:wT w g pl cap l)(b:aC w w'):wT w' g pl cap l:=by
 obtain⟨q,h1,h2⟩:=h;exact⟨q,h1.below b,h2.mono λx c k=>k.rows (.bn b)⟩
theorem MQ{l:List M.cQ}(h:wT w g pl cap l)(b:Sl)(xs:M.cQ)(o:b.B w xs)(j:b.n<=400) :
  aF af 70 #[aq (Z ⟨g,0,I⟩),ae b.a b.n b.c] w λr w'=>∃v:Value,r=av (aB #[v,ai (decide (l.length=cap)),J V 0])/\wT w' g pl cap (M.push cap l xs)/\Fr (jK g pl) w w':=by
 obtain⟨q,hR,hF⟩:=h;have A:=hF.length;by_cases i:l.length=cap
 ·cases l with
  |nil=>have:=hR.one;simp at i;omega
  |cons x p =>
   obtain⟨c,s,rfl,t,m⟩:=hF.cons_inv;obtain⟨C,rfl,D,_⟩:=t;refine(yJ g pl cap _ _ _ _ s w hR (by have:=m.length;simp at i;omega)).mono ?_;rintro r w' ⟨rfl,e,u⟩;have f:=wJ hR u aR aR aR aR;refine⟨_,by rw[decide_eq_true i],⟨_,e,?_⟩,f⟩;unfold M.push;rw[if_pos i];exact(m.mono λy d k=>k.rows f.r).snoc ⟨b,rfl,o.rows (.inl rfl) f.r,j⟩
 ·have hle:=hR.le;refine(yI g pl cap _ _ _ q w hR z).mono ?_;rintro r w' ⟨rfl,e,u⟩;have f:=wJ hR u aR aR aR aR;refine⟨_,by rw[decide_eq_false i],⟨_,e,?_⟩,f⟩;unfold M.push;rw[if_neg i];exact(hF.mono λy d k=>k.rows f.r).snoc ⟨b,rfl,o.rows (.inl rfl) f.r,j⟩
theorem Of{x:M.cQ}{l:List M.cQ}(h:wT w g pl cap (x::l)) :
  aF af 120 #[aq (Z ⟨g,0,I⟩)] w λr w'=>∃b:Sl,r=av (aB #[ae b.a b.n b.c,ai true])/\b.B w' x/\b.n<=400/\wT w' g pl cap l/\Fr (jK g pl) w w':=by
 obtain⟨q,hR,hF⟩:=h;obtain⟨c,j,rfl,m,e⟩:=hF.cons_inv;obtain⟨b,rfl,o,h4⟩:=m;refine(Kg g pl cap _ j w hR).mono ?_;rintro r w' ⟨rfl,i,u⟩;have f:=wJ hR u aR aR aR aR;exact⟨b,rfl,o.rows (.inl rfl) f.r,h4,⟨_,i,e.mono λp d k=>k.rows f.r⟩,f⟩
end
section
variable {B:RB} {R:M.Room} {N:Nat} {w:aw} (h:aL w B R N)
include h
theorem aL.Qb:wT w B.qg B.qp R.dA.aG R.dm:=h.part .dm
theorem aL.Qo:¬jK B.qg B.qp B.g:=by
 intro q;have:=h.vd .aG .dm B.g rfl q;cases this
end
end
section
section
variable (B:LB) (aG:Nat) (aT:Int) (l:M.dP) (N:Nat) (w:aw) (h:ca w B aG aT l N)
include h
theorem JN:aF af 45 #[aq (Z ⟨B.g,0,I⟩)] w λe w'=>e=av (cg #[J V l.cK.length,J V l.bF.length,J V l.ready.length])/\aC w w':=by
 obtain⟨d,r1,f1⟩:=h.cK;obtain⟨f,r2,f2⟩:=h.bF;obtain⟨i,j,f3⟩:=h.ready;rw[<-f1.length,<-f2.length,<-f3.length];have m:=h.cw;clear f1 f2 f3 h;go_enter func45,ntmps45;go_upto_region 1 with fail;obtain⟨b,h0⟩:=dH w.heap.size;rw[<-h0];refine aW (λW=>aK W b 69 #[J V 0,J V 0,J V 0]/\aK W B.g 133 (nP B aT l)/\km W B.g1 B.p1 aG d/\iA W B.g2 B.p2 aG f/\nU W B.g3 B.p3 aG i/\aC w W) ⟨aK.newAt _ _ _ _ h0,m.alloc _,r1.alloc _,r2.alloc _,j.alloc _,(ao _ w).alloc (aj _) _⟩ ?_;rintro W ⟨c,k,r1,r2,j,n⟩;have hr:w.heap.size<=b:=z;clear h0 m;have c1:=k.cell 1;have c2:=k.cell 2;have c3:=k.cell 3;have f0:=c.frozen 0;have f1:=c.frozen 1;have f2:=c.frozen 2;have s:=c.cell 0;have t:=c.cell 1;have u:=c.cell 2;simp at c1 c2 c3 s t u;have R:=((c.bC 0 (J V d.length)).bC 1 (J V f.length)).bC 2 (J V i.length);have s0:=R.cell 0;have s1:=R.cell 1;have s2:=R.cell 2;simp at s0 s1 s2;have o:=au n;have H1:=au r1;have q:=au r2;have r:=au j;clear c k n R r1 r2 j;go_region_with (first
  |(refine(Eh B.g1 B.p1 aG d _ (by first|exact H1.O|exact H1.O.drew)).mono ?_;rintro e w1 ⟨rfl,hw⟩;have a:=hw.symm;subst a)
  |(refine(zV B.g2 B.p2 aG f _ (by first|exact q.O|exact q.O.drew)).mono ?_;rintro e w1 ⟨rfl,hw⟩;have a:=hw.symm;subst a)
  |(refine(Iv B.g3 B.p3 aG i _ (by first|exact r.O|exact r.O.drew)).mono ?_;rintro e w1 ⟨rfl,hw⟩;have a:=hw.symm;subst a))
 all_goals
  go_wp2_with fail;refine ax (v:=cg #[J V d.length,J V f.length,J V i.length]) (by simp[aV,results45,go_sem,s0,s1,s2]) rfl ⟨rfl,?_⟩;first|exact cd (((o.O.setCell (p:=⟨b,0,I⟩) hr _).setCell (p:=⟨b,1,I⟩) hr _).setCell (p:=⟨b,2,I⟩) hr _) 1|exact((o.O.setCell (p:=⟨b,0,I⟩) hr _).setCell (p:=⟨b,1,I⟩) hr _).setCell (p:=⟨b,2,I⟩) hr _
end
end
section
def qW(o:Option M.dP):Value:=match o with
 |none=>aB #[cg #[J V 0,J V 0],cg #[J V 0,J V 0,J V 0],ai false,ai false]
 |some l=>aB #[cg #[J V l.dx,J V l.fh],cg #[J V l.cK.length,J V l.bF.length,J V l.ready.length],ai l.eG,ai true]
section
variable {B:RB} {R:M.Room} {N:Nat} {w:aw} (h:aL w B R N)
include h
theorem AZ(s:Int)(T:(Lit.int V s).wf=true):aF af 15 #[aq (Z ⟨B.g,0,I⟩),J V s] w λe w'=>e=av (qW (R.aD s))/\aC w w':=by
 have H0:=au h;obtain⟨res,d⟩:=dH (qW (R.aD s));rw[<-d];have k:=au d;clear h d;go_enter func15,ntmps15;go_upto_region 1 with fail;obtain⟨r4,U⟩:=dH w.heap.size;obtain⟨r5,e5⟩:=dH (w.heap.size+1);rw[<-e5,<-U];have c:aC w ((w.alloc (.cells #[J V 0,J V 0] 68)).alloc (.cells #[J V 0,J V 0,J V 0] 69)):=((ao _ w).alloc (aj _) _).alloc dt _;refine aW (λX=>aK X r4 68 #[J V 0,J V 0]/\aK X r5 69 #[J V 0,J V 0,J V 0]/\aL X B R N/\aC w X) ⟨(aK.newAt _ _ _ _ U).alloc _,aK.newAt _ _ _ _ (by simp[e5]),H0.O.below c,c⟩ ?_;have g4:w.heap.size<=r4:=z;have g5:w.heap.size<=r5:=z;have n45:r4≠r5:=z;clear U e5 c H0;rintro X ⟨b4,b5,h,c⟩;have C:=h.cw.cell 12;simp at C;have f:=h.uS s T;cases m:R.aD s with
 |none =>
  rw[m,h.CG m]at f;simp only[Option.map_none,Option.getD_none,Option.isSome_none]at f;have j0:=b4.cell 0;have j1:=b4.cell 1;have i0:=b5.cell 0;have i1:=b5.cell 1;have i2:=b5.cell 2;have f0:=b4.frozen 0;have f1:=b4.frozen 1;have y0:=b5.frozen 0;have y1:=b5.frozen 1;have y2:=b5.frozen 2;simp at j0 j1 i0 i1 i2;obtain⟨n,q⟩:=bu c m;have Tf:=((((b4.bC 0 (J V 0)).bC 1 (J V 0)).dS (p:=⟨r5,0,I⟩) n45 (J V 0)).dS (p:=⟨r5,1,I⟩) n45 (J V 0)).dS (p:=⟨r5,2,I⟩) n45 (J V 0);have Y:=((((b5.dS (p:=⟨r4,0,I⟩) (jx n45) (J V 0)).dS (p:=⟨r4,1,I⟩) (jx n45) (J V 0)).bC 0 (J V 0)).bC 1 (J V 0)).bC 2 (J V 0);have z0:=Tf.cell 0;have D:=Tf.cell 1;have E:=Y.cell 0;have F:=Y.cell 1;have G:=Y.cell 2;simp at z0 D E F G;clear h c b4 b5 m T Tf Y;go_wp2_with fail;refine ax (v:=aB #[cg #[J V 0,J V 0],cg #[J V 0,J V 0,J V 0],ai false,ai false]) (by simp[aV,results15,go_sem,z0,D,E,F,G]) rfl ⟨by rw[k.O,q.O];rfl,?_⟩;exact((((n.O.setCell (p:=⟨r4,0,I⟩) g4 _).setCell (p:=⟨r4,1,I⟩) g4 _).setCell (p:=⟨r5,0,I⟩) g5 _).setCell (p:=⟨r5,1,I⟩) g5 _).setCell (p:=⟨r5,2,I⟩) g5 _
 |some l =>
  obtain⟨L,hL,r⟩:=h.jq m;rw[m,hL]at f;have H:(Instr.lookup 54 (.map (Z B.lm)) (J V s) true).run af X=.ok (aB #[aq (Z ⟨L.g,0,I⟩),ai true]) X:=f;have q:=au m;clear f;obtain⟨K,M,i,j,n⟩:=gY (vH L R.dA.aG R.dA.aT l N X r) r b4 b5 c;clear h r b4 b5 c m hL T;go_upto_region 5 with(go_big_may;go_at_call 44;refine K.O.mono ?_;rintro e w1 ⟨rfl,b1⟩)
  obtain⟨t,u⟩:=dH w1.heap.size;rw[<-u];have b2:aC X (w1.alloc (.cells #[J V l.dx,J V l.fh] 68)):=b1.alloc b1.size _;have Tl:t≠r4/\t≠r5:=⟨by have:=i.O.lt;have:=b1.size;omega,by have:=j.O.lt;have:=b1.size;omega⟩;refine aW (λY=>aK Y t 68 #[J V l.dx,J V l.fh]/\aK Y r4 68 #[J V 0,J V 0]/\aK Y r5 69 #[J V 0,J V 0,J V 0]/\ca Y L R.dA.aG R.dA.aT l N/\aC w Y) ⟨aK.newAt _ _ _ _ u,i.O.kept b2,j.O.kept b2,M.O.below b2,n.O.trans (b2.mono n.O.size)⟩ ?_;clear u b1 b2 i j M n H C K X;rintro X ⟨x,b4,b5,r,c⟩;have k0:=x.cell 0;have k1:=x.cell 1;simp at k0 k1;obtain⟨HL,i,j,n,Tg,Ti⟩:=lH r b4 b5 c (JN L R.dA.aG R.dA.aT l N X.drew (r.below (eW (ao _ _)))) (λW hW=>qK L R.dA.aG R.dA.aT l N W hW);clear x b4 b5 r c;go_cut [6,7] (λa b wc=>a=ai l.eG/\b=ai true/\aK wc r4 68 #[J V l.dx,J V l.fh]/\aK wc r5 69 #[J V l.cK.length,J V l.bF.length,J V l.ready.length]/\aC w wc);case first =>
   go_region_with (first
    |(go_at_call 45;refine Tg.O.mono ?_;rintro e w9 ⟨rfl,b9⟩;have y:aC X w9:=(by with_reducible exact eW b9);have q0:=aM y k0;have q1:=aM y k1;have A:=i.O.kept y;have o:=j.O.kept y;have j0:=A.cell 0;have j1:=A.cell 1;have i0:=o.cell 0;have i1:=o.cell 1;have i2:=o.cell 2;have f0:=A.frozen 0;have f1:=A.frozen 1;have y0:=o.frozen 0;have y1:=o.frozen 1;have y2:=o.frozen 2;simp at j0 j1 i0 i1 i2;have P:=au y;have Q:=au A;have S:=au o;clear y b9 A o)
    |(go_at_call 46;refine(Ti.O w9 (HL.O.below P.O)).mono ?_;rintro e Tm ⟨rfl,hw⟩;have Tj:=hw.symm;subst Tj))
   all_goals
    go_wp2_with fail;go_meet;have bb:=n.O.trans (P.O.mono n.O.size);first
     | exact⟨rfl,rfl,by simpa using((((Q.O.bC 0 (J V l.dx)).bC 1 (J V l.fh)).dS (p:=⟨r5,0,I⟩) n45 (J V l.cK.length)).dS (p:=⟨r5,1,I⟩) n45 (J V l.bF.length)).dS (p:=⟨r5,2,I⟩) n45 (J V l.ready.length),
       by simpa using((((S.O.dS (p:=⟨r4,0,I⟩) (jx n45) (J V l.dx)).dS (p:=⟨r4,1,I⟩) (jx n45) (J V l.fh)).bC 0 (J V l.cK.length)).bC 1 (J V l.bF.length)).bC 2 (J V l.ready.length),
       ((((bb.setCell (p:=⟨r4,0,I⟩) g4 _).setCell (p:=⟨r4,1,I⟩) g4 _).setCell (p:=⟨r5,0,I⟩) g5 _).setCell (p:=⟨r5,1,I⟩) g5 _).setCell (p:=⟨r5,2,I⟩) g5 _⟩
     | exact⟨rfl,rfl,by simpa using((((Q.O.dS (p:=⟨r5,0,I⟩) n45 (J V l.cK.length)).dS (p:=⟨r5,1,I⟩) n45 (J V l.bF.length)).dS (p:=⟨r5,2,I⟩) n45 (J V l.ready.length)).bC 0 (J V l.dx)).bC 1 (J V l.fh),
       by simpa using((((S.O.bC 0 (J V l.cK.length)).bC 1 (J V l.bF.length)).bC 2 (J V l.ready.length)).dS (p:=⟨r4,0,I⟩) (jx n45) (J V l.dx)).dS (p:=⟨r4,1,I⟩) (jx n45) (J V l.fh),
       ((((bb.setCell (p:=⟨r5,0,I⟩) g5 _).setCell (p:=⟨r5,1,I⟩) g5 _).setCell (p:=⟨r5,2,I⟩) g5 _).setCell (p:=⟨r4,0,I⟩) g4 _).setCell (p:=⟨r4,1,I⟩) g4 _⟩
  case rest =>
   obtain⟨rfl,rfl,b4,b5,c⟩:=hcut;have z0:=b4.cell 0;have D:=b4.cell 1;have E:=b5.cell 0;have F:=b5.cell 1;have G:=b5.cell 2;simp at z0 D E F G;have Tk:=au c;clear b4 b5 c k0 k1;go_wp2_with fail;refine ax (v:=qW (Z l)) (by simp[aV,results15,go_sem,z0,D,E,F,G,qW]) rfl ⟨by rw[k.O,q.O],Tk.O⟩
end
end
section
structure pL(w:aw)(A:Option Addr)(n c:Nat)(xs:List Int):Prop where
 len:xs.length=n
 wf:∀x∈xs,(Lit.int bI x).wf=true
 cells:0<n->∃b off,A=Z ⟨b,off,I⟩/\∀i,i<n->w.cell? ⟨b,off+i,I⟩=Z (J bI (xs.getD i 0))
 zero:A=I->c=0
theorem pL.below{w w':aw}{A:Option Addr}{n c:Nat}{xs:List Int}(h:pL w A n c xs)(b:aC w w'):pL w' A n c xs:=
 ⟨h.len,h.wf,λh0=>by
  obtain⟨g,off,e,k⟩:=h.cells h0
  exact⟨g,off,e,λi hi=>aM b (k i hi)⟩,h.zero⟩
theorem pL.of{w:aw}{d:Sl}{xs:List Int}(h:d.B w xs):pL w d.a d.n d.c xs:=
 ⟨h.tl.1,h.tl.2.1,λh0=>by
  obtain⟨b,off,cs,e,f,k⟩:=h.tl.2.2 h0
  exact⟨b,off,e,λi hi=>(f.cell _).trans (k i hi)⟩,h.zero⟩
theorem pL.iX{w:aw}{a:Addr}{n c:Nat}{xs:List Int}(h:pL w (Z a) n c xs):∀j u,(xs.map (J bI))[j]? = Z u->w.cell? (a.add j)=Z u:=by
 intro j u hu;rw[List.getElem?_map]at hu;have b:j<xs.length:=by
  rcases iL j xs.length with h|h
  ·exact h
  ·rw[List.getElem?_eq_none h]at hu;simp at hu
 have f:=h.len;obtain⟨g,d,he,e⟩:=h.cells z;simp only[bf]at he;subst he;rw[ay b]at hu;rw[add_lit,e j z,bE,ay b];simpa using hu
theorem CW(a:Addr)(n c:Nat)(xs:List Int)(w:aw)(hw:∀x∈xs,(Lit.int bI x).wf=true)(s:xs.length=n)(f:∀j u,(xs.map (J bI))[j]? = Z u->w.cell? (a.add j)=Z u)(hm:n<=100000) :
  aF af 57 #[ae (Z a) n c] w λe w'=>(∃m k,e=av (ae m n k)/\TL 5 bI w' m n xs/\n<=k/\k<=maxLen/\(m=I->k=0))/\aC w w':=by
 obtain⟨i0,hi,g,h,i⟩:=cY Tryz.zL;obtain⟨E,o,p,r⟩:=cA hi g h i;clear hi g h i;have own:=sZ (aK.new w 5 #[]) (base:=w.heap.size) (e:=5) (size:=1) (aj _);have t:=((ao w.heap.size w).alloc (aj _) (.cells #[] 5));have v:∀j u,(xs.map (J bI))[j]? = Z u->(w.alloc (.cells #[] 5)).cell? (a.add j)=Z u:=λj u hu=>by
  have l:=f j u hu;rw[World.cell?_alloc_lt _ _ _ (by
   rcases iL (a.add j).block w.heap.size with q|q
   ·exact q
   ·unfold World.cell? at l;rw[Array.getElem?_eq_none q]at l;cases l)]
  exact l
 have he:∀W:aw,(binOp .eql 38 (ae (Z a) n c) (ae I 0 0)).run af W=.ok (ai false) W:=λ_=>rfl;obtain⟨F,G,H⟩:=bU v hw s;clear v hw s f;go_enter func57,ntmps57;go_wp2_with (at_builtin;go_loud (refine wpList_append_own _ rfl _ _ 38 rfl w.heap.size 5 i0 (J bI 0) 1 1 underlying38 E.O o.O p.O r.O rfl aR _ _ _ rfl own a n c (xs.map (J bI)) rfl (by simp[H.O]) F.O uQ ?c3 ?c4 ?c5 ?_));case c3=>unfold maxLen;omega
 case c4=>omega
 case c5=>simp
 intro v5 w5 d g5 _;have b:w5.ownsRow w.heap.size 5 1 v5 n (xs.map (J bI)):=by simpa using d
 obtain⟨y,c5,rfl,A,B,C⟩:=TL.own b G.O;have D:y=I->c5=0:=wo b;obtain⟨K,L,M,N⟩:=cA A B C D;have P:aC w w5:=t.grown g5 dt (λj Q=>by have:=(own.lt j Q).1;omega);clear own d b g5 A B C t D;go_wp2_with fail;go_ret;exact⟨⟨y,c5,rfl,M.O,K.O,L.O,N.O⟩,P⟩
theorem yq(A:Option Addr)(n c:Nat)(xs:List Int)(w:aw)(h:pL w A n c xs)(hm:n<=100000) :
  aF af 57 #[ae A n c] w λe w'=>(∃f d,e=av (ae f n d)/\TL 5 bI w' f n xs/\n<=d/\d<=maxLen/\(f=I->d=0))/\aC w w':=by
 cases A with
 |some a=>exact CW a n c xs w h.wf h.len h.iX hm
 |none =>
  have g:n=0:=by
   rcases Nat.eq_zero_or_pos n with q|q
   ·exact q
   ·obtain⟨b,off,e,_⟩:=h.cells q;cases e
  have i:xs=[]:=by have:=h.len;rw[g]at this;exact cU.1 this
  subst i;refine(mC I n c [] w ⟨h.len,h.wf,λq=>z⟩ hm h.zero).mono λe w' k=>k
section
variable {B:RB} {R:M.Room} {N:Nat} {w:aw} (h:aL w B R N)
include h
theorem tO(j:Sl)(b:M.cQ)(y:pL w j.a j.n j.c b)(Y:j.n<=400)(hN:N<=900000) :
  aF af 26 #[aq (Z ⟨B.g,0,I⟩),ae j.a j.n j.c] w (kk B w (J V (R.fT b).2) (R.fT b).1 (N+1)):=by
 have x:=h.cw.cell 7;have k:=h.cw.cell 10;simp at x k;obtain⟨res,d⟩:=dH (R.fT b);rw[<-d];have H:=au h;cases o:R.cN
 ·rw[o]at x;have r:R.fT b=({ R with dm:=M.push R.dA.aG R.dm b,bp:=if R.dm.length=R.dA.aG then { R.bp with jw:=R.bp.jw+1 } else R.bp },0):=by
   unfold M.Room.fT;rw[if_neg (by rw[o];simp)]
  rw[r]at d;obtain⟨l,A,Tf,s⟩:=cA d h.Qo (yq j.a j.n j.c b w y z) (yq j.a j.n j.c b w.drew (y.below (cd (ao _ _) 1)) z);clear d r o h;go_enter func26,ntmps26;go_wp2_with fail;go_cut [5,6,7] (λa bb c wc=>∃v:Value,a=v/\bb=ai (decide (R.dm.length=R.dA.aG))/\c=J V 0/\aL wc B { R with dm:=M.push R.dA.aG R.dm b } N/\fK w wc B B);case first =>
   go_region_held3 (λW=>W.cell? ⟨B.g,10,I⟩=Z (aq (Z ⟨B.qg,0,I⟩))) (first|(with_reducible exact cE k)|(with_reducible exact d10)|(with_reducible exact i10)) (first|(go_at_call 57;refine s.O.mono ?_;rintro e w4 ⟨⟨K,L,rfl,P,hle,C,hz⟩,b4⟩;have D:aC w w4:=(by with_reducible exact eW b4);have d10:=aM D k;have m:=au D;have E:=au (⟨P,hle,C,hz⟩:Sl.B w4 ⟨K,j.n,L⟩ b);clear b4 D P)|(go_at_call 70;refine(MQ (H.O.below m.O).Qb ⟨K,j.n,L⟩ b E.O Y).mono ?_;rintro e w5 ⟨v,rfl,Q,f⟩;have i10:=dD f A.O d10;have T:=(H.O.below m.O).vF f Q;have S:=au T;clear Q f T));all_goals
    go_wp2_with fail;go_meet;exact⟨v,rfl,rfl,rfl,S.O.1,(⟨rfl,.bn m.O,λi q=>.inl q⟩:fK w w4 B B).trans S.O.2⟩
  case rest =>
   obtain⟨v,rfl,rfl,rfl,hR,U⟩:=hcut;have F:=hR.cw.cell 16;have f16:=hR.cw.frozen 16;simp at F;have G:=hR.et.jw;have Tg:V.wrap (R.bp.jw+1)=R.bp.jw+1:=IntWalk.i64_in _ ⟨by have h1:=G.1;have:0<=R.bp.jw:=h1;omega,by have h1:=G.2;have:R.bp.jw<=N:=h1;omega⟩;obtain⟨t,HS⟩:=bu hR U;clear hR U G k x;by_cases p:R.dm.length=R.dA.aG
   ·have u:decide (R.dm.length=R.dA.aG)=true:=decide_eq_true p;rw[u];have d:=l.O;rw[if_pos p]at d;subst d;clear u p;go_wp2_with fail;go_ret;have X:=(t.O.mono (cZ N)).rq (cJ:=R.cJ) (cN:=R.cN) (bp:={ R.bp with jw:=R.bp.jw+1 }) ((Fr.refl (One B.g) _).setCell t.O.cw (.inl rfl) aR aR 16 (J V (R.bp.jw+1))) (by simpa using t.O.cw.bC 16 (J V (R.bp.jw+1))) (by
     have n:=t.O.et
     exact⟨n.dA,(n.mono (cZ N)).cJ,(n.mono (cZ N)).aO,(n.mono (cZ N)).cj,by have:=n.jw;show 0<=R.bp.jw+1/\R.bp.jw+1<=((N+1:Nat):Int);have h1:0<=R.bp.jw/\R.bp.jw<=N:=n.jw;omega,(n.mono (cZ N)).cI,(n.mono (cZ N)).gR,(n.mono (cZ N)).ff,(n.mono (cZ N)).fP⟩)
    exact⟨B,rfl,X.1,HS.O.trans X.2⟩
   ·have u:decide (R.dm.length=R.dA.aG)=false:=decide_eq_false p;rw[u];have d:=l.O;rw[if_neg p]at d;subst d;clear u p;go_wp2_with fail;go_ret;exact⟨B,rfl,t.O.mono (cZ N),HS.O⟩
 ·have r:R.fT b=(R,7):=by unfold M.Room.fT;simp[o]
  rw[r]at d;subst d;rw[o]at x;clear r o h k y;go_enter func26,ntmps26;go_wp2_with fail;go_ret;exact⟨B,rfl,H.O.mono (cZ N),fK.refl _ _⟩
end
end
section
def Ir(st:M.bN->Option M.eu)(p:Int):Nat->M.bN->Option M.eu
 |0=>st
 |k+1=>M.set (Ir st p k) (p,(k:Int)) (Z .new)
theorem F4(R:M.Room)(p s0 s1 s2:Int)(a:R.cN=false):R.gg p s0 s1 s2=if xm R.cW R.aQ p s0 s1 s2=0 then({ R with cW:=uz R.cW p s0 s1 s2 3,aQ:=uy R.aQ p s0 s1 s2 3,az:=Ir R.az p 3 },0) else(R,xm R.cW R.aQ p s0 s1 s2):=by
 unfold M.Room.gg xm;rw[if_neg (by rw[a];simp)];cases h1:M.mB p
 ·simp
 ·by_cases h2:s1=s0\/s2=s0\/s2=s1
  ·simp[h2]
  ·by_cases h3:(R.aQ (p,0)).isSome=true
   ·simp[h2,h3]
   ·by_cases h4:(R.cW s0).isSome=true\/(R.cW s1).isSome=true\/(R.cW s2).isSome=true
    ·simp only[jV,cB,if_false,if_neg h2,if_neg h3,if_pos h4,rL];rfl
    ·simp only[jV,cB,if_false,if_neg h2,if_neg h3,if_neg h4,rL,if_true];rfl
section
variable {B:RB} {R:M.Room} {N:Nat} {w:aw} (h:aL w B R N)
include h
theorem aL.FD{w1 w2:aw}{o:M.bN}{S:SB}{s:M.eu}(b1:aC w w1)(f:gh w1 S R.dA.eJ R.dA.cX s N)(a:∀i,S.own i->w.heap.size<=i)(u:cS (One B.sm) w1 w2)
  (g:gA KO w2 B.sm (M.set (λs=>(B.sb s).map tS) o (Z (tS S))) N) :
  aL w2 { B with sb:=M.set B.sb o (Z S) } { R with az:=M.set R.az o (Z s) } N/\fK w w2 B { B with sb:=M.set B.sb o (Z S) }:=by
 have b:gA KO w B.sm (λs=>(B.sb s).map tS) N:=h.part .az;have j:=b.lt;have c:Fr (One B.sm) w1 w2:=.jT u (λi hi=>by cases hi;exact(b.below b1).mut);refine h.IW (λY=>Y=.az\/Y=.fO o) (.fO o) ?_ ?_ rfl ?_ ?_ { h.et with }
 ·exact(Fr.bn b1).step c (λi hi=>.inl ⟨.az,.inl rfl,hi⟩)
 ·rintro Y (rfl|rfl)
  ·refine gA.congr g λt=>?_;show M.set (λs=>(B.sb s).map tS) o (Z (tS S)) t=(M.set B.sb o (Z S) t).map tS;unfold M.set;split<;>rfl
  ·show lX _ (M.set R.az o (Z s) o) (M.set B.sb o (Z S) o);simp only[M.set,if_true];exact f.fr c (λi hi q=>by have:=a i hi;rw[show i=B.sm from q]at this;omega)
 ·intro Y d k;cases Y with
  |fO t =>
   have e:t≠o:=λe=>d (.inr (e ▸ rfl));show lX _ (M.set R.az o (Z s) t) (M.set B.sb o (Z S) t);simp only[M.set,if_neg e];exact k
  |az=>exact absurd (.inl rfl) d
  |_=>exact k
 ·intro Y i hi;cases Y with
  |fO t =>
   obtain⟨K,q,hi⟩:=hi;simp only[M.set]at q;split at q
   ·rename_i e;simp only[bf]at q;subst q e;exact .inr ⟨rfl,a i hi⟩
   ·exact .inl ⟨K,q,hi⟩
  |_=>exact .inl hi
theorem vZ(p s0 s1 s2:Int)(hN:N<800000)(w0:Ng s0)(w1:Ng s1)(w2:Ng s2) :
  aF af 38 #[aq (Z ⟨B.g,0,I⟩),J V p,cg #[J ar s0,J ar s1,J ar s2]] w (kk B w (J V (R.gg p s0 s1 s2).2) (R.gg p s0 s1 s2).1 (N+9)):=by
 obtain⟨res,a⟩:=dH (R.gg p s0 s1 s2);rw[<-a];have H0:=au h;have y:=h.lt;have Tk:w.cell? ⟨B.g,7,I⟩=Z (ai R.cN):=by have Tj:=h.cw.cell 7;simpa using Tj
 have Tl:=h.cw.lt;clear h;go_enter func38,ntmps38;go_upto_region 1 with fail;obtain⟨r5,h5⟩:=dH w.heap.size;rw[<-h5];have S:=(ao _ w).alloc (aj _) (.cells #[J ar s0,J ar s1,J ar s2] 43);refine aW (λX=>aK X r5 43 #[J ar s0,J ar s1,J ar s2]/\aL X B R N/\aC w X) ⟨aK.newAt _ _ _ _ h5,H0.O.below S,S⟩ ?_;have Tm:Hd (∀i,B.all i->i≠r5):=au (λi hi=>by have:=y i hi;omega);clear h5 S y Tl Tk;rintro X ⟨b5,h,S⟩;have c7:=h.cw.cell 7;have c:=h.cw.cell 11;have A:=b5.cell 0;have C:=b5.cell 1;have D:=b5.cell 2;simp at c7 c A C D;have S0:Hd (fK w X B B):=au ⟨rfl,.bn S,λi q=>.inl q⟩;have H:=au h;clear b5 S H0;cases G:R.cN
 ·rw[G]at c7;have U:=F4 R p s0 s1 s2 G;have d:fA X B.t R.cW R.aQ R.bh N:=h.part .table;have hP:=xW B.t R.cW R.aQ R.bh N X d p s0 s1 s2 z w0 w1 w2;have b:=xW B.t R.cW R.aQ R.bh N X.drew (d.dW (F:=cr) (cS.refl cr X).drew (λ_ _ q=>q)) p s0 s1 s2 z w0 w1 w2;have HM:=au d.ni;have NG:Hd (¬B.t.own B.g):=au (λq=>by have:=h.vd .aG .table B.g rfl q;cases this);have Y:Hd (¬B.t.own r5):=au (λq=>Tm.O r5 ⟨.table,q⟩ rfl);have n:(1<=R.dA.eJ/\R.dA.eJ<=8)/\0<=R.dA.cX/\R.dA.cX<=1000:=by
   have:=h.et.dA;simp[M.jr]at this;omega
  have K:xm R.cW R.aQ p s0 s1 s2=0->0<=p/\p<3:=λq=>by
   unfold xm at q;cases hm:M.mB p
   ·rw[hm]at q;simp at q
   ·simpa[M.mB]using hm
  clear hP d h;by_cases r:xm R.cW R.aQ p s0 s1 s2=0
  ·obtain⟨p0,p3⟩:=K r;rw[if_pos r]at U;rw[r]at b;simp only[if_true]at b;have L:=au b;rw[U]at a;have j:=au a;clear U b a r K G;go_wp2_with fail;go_region_held3 (λW=>W.cell? ⟨B.g,11,I⟩=Z (aq (Z ⟨B.t.g,0,I⟩))/\W.cell? ⟨r5,0,I⟩=Z (J ar s0)/\W.cell? ⟨r5,1,I⟩=Z (J ar s1)/\W.cell? ⟨r5,2,I⟩=Z (J ar s2)) (first|(with_reducible exact⟨cE c,cE A,cE C,cE D⟩)|(with_reducible exact⟨d11,d0,d1,d2⟩)) (first|(go_at_call 85;refine L.O.mono ?_;rintro e w3 ⟨rfl,hT,u⟩;have f:Fr B.t.own X w3:=Eu (.jT u (λi hi=>HM.O i hi));have d11:=dD f NG.O c;have d0:=dD f Y.O A;have d1:=dD f Y.O C;have d2:=dD f Y.O D;have T:=(H.O.mono (z:N<=N+6)).kS f hT;have HT:=au T;clear hT u f T));all_goals
    have st:∃k:Nat,(J V 0)=J V k/\k<=3/\∃B',aL w3 B' { R with cW:=uz R.cW p s0 s1 s2 3,aQ:=uy R.aQ p s0 s1 s2 3,az:=Ir R.az p k } (N+6+k)/\fK w w3 B B':=⟨0,rfl,z,B,HT.O.1,S0.O.trans HT.O.2⟩;have Tf:=au st;clear st c7 c A C D d11 d0 d1 d2 HT H;go_wp2_with fail;go_loopw [25] (λv wr=>∃k:Nat,v=J V k/\k<=3/\∃B',aL wr B' { R with cW:=uz R.cW p s0 s1 s2 3,aQ:=uy R.aQ p s0 s1 s2 3,az:=Ir R.az p k } (N+6+k)/\fK w wr B B') (λv _=>3-(intOf v).toNat);case atStart=>exact Tf.O
    case round =>
     clear Tf;obtain⟨k,rfl,hk,B',hR,hS⟩:=hrel;by_cases y:k<3
     ·have Tv:((k:Int)<3):=z;have P:=hR.cw;rw[hS.g]at P;have c2:=P.cell 2;have c3:=P.cell 3;have Tg:=P.cell 13;simp at c2 c3 Tg;have lb:=P.lt;have Q:gA KO wr B'.sm (λs=>(B'.sb s).map tS) (N+6+k):=hR.part .az;have Tw:B'.sm≠B.g:=Q.ki P;obtain⟨Tn,HR,HS⟩:=bU Q hR hS;clear P Q hR hS;go_wp2_with fail;go_region_held3 (λW=>W.cell? ⟨B.g,2,I⟩=Z (J V R.dA.eJ)/\W.cell? ⟨B.g,3,I⟩=Z (J V R.dA.cX)) (first|(with_reducible exact⟨cE c2,cE c3⟩)|(with_reducible exact⟨d2,d3⟩)) (first|(go_at_call 31;refine(vM R.dA.eJ R.dA.cX _ n.1 n.2).mono ?_;rintro e l ⟨g,rfl,Ti,b9,hg⟩;have bx:aC wr l:=(by with_reducible exact eW b9);have d2:=aM bx c2;have d3:=aM bx c3;have m:=au bx;have To:=au Ti;have Tp:=au (show wr.heap.size<=g from hg);clear bx b9 Ti hg));all_goals
       have b5:aC wr (l.alloc (.cells (kI ⟨l.heap.size,⟨g,ae I 0 0⟩⟩ .new) 172)):=m.O.alloc m.O.size _;obtain⟨Tq,x,hM,u2⟩:=(Tn.O.below b5).nX xM BY z (p,(k:Int)) (tS ⟨l.heap.size,⟨g,ae I 0 0⟩⟩) (ir ⟨by show(-1000000000000:Int)<=p;omega,by show p<=1000000000000;omega⟩ ⟨by show(-1000000000000:Int)<=k;omega,by show(k:Int)<=1000000000000;omega⟩);have x:(Instr.mapUpdate 55 (.map (Z B'.sm)) (cg #[J V p,J V k]) (aq (Z ⟨l.heap.size,0,I⟩))).run af (l.alloc (.cells #[aq (Z ⟨g,0,I⟩),ai false,J V 0,ai false,ai false,J V 0,J V 0,ai false] 172))=.ok () Tq:=x;have d13:=aM m.O Tg;have hA:gh (l.alloc (.cells (kI ⟨l.heap.size,⟨g,ae I 0 0⟩⟩ .new) 172)) ⟨l.heap.size,⟨g,ae I 0 0⟩⟩ R.dA.eJ R.dA.cX .new (N+6+k+1):=
        ⟨aK.new l 172 _,To.O.below ((ao _ _).alloc (aj _) _),by simp[M.eu.new];omega,by simp[M.eu.new];omega,by simp[M.eu.new];omega⟩
       have Ts:=m.O.size;have Tj:=(HR.O.mono (cZ (N+6+k))).FD (o:=(p,(k:Int))) b5 hA (by
        rintro i (rfl|rfl|q)
        ·show wr.heap.size<=l.heap.size;exact Ts
        ·exact Tp.O
        ·cases q) u2 hM
       have HZ:=au Tj;clear b5 hM u2 hA Tj;go_wp2_with fail;go_roundw;case rel=>exact⟨k+1,by go_num,z,_,HZ.O.1,HS.O.trans HZ.O.2⟩
       case measure=>simp[intOf];omega
     ·have Tt:k=3:=z;subst Tt;obtain⟨HR,HS⟩:=bu hR hS;clear hR hS;go_wp2_with fail;go_ret;rw[j.O];exact⟨B',rfl,HR.O,HS.O⟩
  ·rw[if_neg r]at U;have Tu:(xm R.cW R.aQ p s0 s1 s2 !=0)=true:=by simpa using r
   simp only[if_neg r]at b;rw[U]at a;clear U K G;generalize xm R.cW R.aQ p s0 s1 s2=E at b Tu r a;have j:=au a;clear a;have L:=au b;clear b;go_wp2_with fail;go_region_held3 (λW=>W.cell? ⟨B.g,11,I⟩=Z (aq (Z ⟨B.t.g,0,I⟩))/\W.cell? ⟨r5,0,I⟩=Z (J ar s0)/\W.cell? ⟨r5,1,I⟩=Z (J ar s1)/\W.cell? ⟨r5,2,I⟩=Z (J ar s2)) (first|(with_reducible exact⟨cE c,cE A,cE C,cE D⟩)|(with_reducible exact⟨d11,d0,d1,d2⟩)) (first|(go_at_call 85;refine L.O.mono ?_;rintro e w3 ⟨rfl,hT,u⟩;have f:Fr B.t.own X w3:=Eu (.jT u (λi hi=>HM.O i hi));have d11:=dD f NG.O c;have d0:=dD f Y.O A;have d1:=dD f Y.O C;have d2:=dD f Y.O D;have T:=(H.O.mono (z:N<=N+6)).kS f hT;have HT:=au T;clear hT u f T));all_goals
    go_wp2_with fail;go_ret;rw[j.O];exact⟨B,rfl,HT.O.1.mono z,S0.O.trans HT.O.2⟩
 ·have e1:R.gg p s0 s1 s2=(R,7):=by unfold M.Room.gg;simp[G]
  rw[e1]at a;subst a;rw[G]at c7;clear e1 G h c A C D;go_wp2_with fail;go_ret;exact⟨B,rfl,H.O.mono z,S0.O⟩
end
end
abbrev Kf(aG:Nat)(eJ cX eA ek aT:Int):Array Value:=#[J V aG,J V eJ,J V cX,J V eA,J V ek,J V aT]
structure Hy(w:aw)(own:Nat->Nat->Prop)(qg qp:Nat)(B:RB):Prop where
 di:eD w B.bg B.bm (λ_ _=>I) 0
 OQ:∀b,jK B.bg B.bm b->own 0 b
 ret:gE KW w B.ret [] (λ_=>ai true)
 Qn:own 3 B.ret
 q:B.qg=qg/\B.qp=qp
 Qa:fA w B.t (λ_=>I) (λ_=>I) (λ_=>I) 0
 Qf:∀b,B.t.own b->own 5 b
 lm:gA KI w B.lm (λ_=>I) 0
 Sg:own 6 B.lm
 sm:gA KO w B.sm (λ_=>I) 0
 Sd:own 7 B.sm
 no:B.lb=(λ_=>I)/\B.sb=(λ_=>I)/\B.pv=ae I 0 0/\B.rv=ae I 0 0
def Hy.below{w w':aw}{own a:Nat->Nat->Prop}{qg qp:Nat}{B:RB}(h:Hy w own qg qp B)(b:aC w w')(c:∀i x,own i x->a i x):Hy w' a qg qp B:=
 ⟨h.di.below b,λx q=>c _ _ (h.OQ x q),h.ret.below b,c _ _ h.Qn,h.q,h.Qa.below b,λx q=>c _ _ (h.Qf x q),h.lm.below b,c _ _ h.Sg,h.sm.below b,c _ _ h.Sd,h.no⟩
structure lF(low:Nat)(w0:aw)(cf:Array Value)(R0:M.Room)(qg qp:Nat)(listed:Array Bool)(w:aw)(v2 v3 pf pd pc pa v46 o8 o7 v49 o6 v51:Value)(own:Nat->Nat->Prop):Prop where
 size:listed.size=12
 fN:aC w0 w
 wb:∀i b,own i b->w0.heap.size<=b/\b<w.heap.size
 vd:∀i j b,own i b->own j b->i=j
 f0:listed.getD 0 false=true->∃g m,pf=aq (Z ⟨g,0,I⟩)/\eD w g m (λ_ _=>I) 0/\∀b,jK g m b->own 0 b
 f1:listed.getD 1 false=true->∃g m,pd=cg #[aq (Z ⟨g,0,I⟩)]/\eD w g m (λ_ _=>I) 0/\∀b,jK g m b->own 0 b
 f2:listed.getD 2 false=true->pc=cg cf
 f3:listed.getD 3 false=true->∃m,pa=.map (Z m)/\gE KW w m [] (λ_=>ai true)/\own 3 m
 f4:listed.getD 4 false=true->v46=aq (Z ⟨qg,0,I⟩)
 f5:listed.getD 5 false=true->∃T:sL,o8=aq (Z ⟨T.g,0,I⟩)/\fA w T (λ_=>I) (λ_=>I) (λ_=>I) 0/\∀b,T.own b->own 5 b
 f6:listed.getD 6 false=true->∃m,o7=.map (Z m)/\gA KI w m (λ_=>I) 0/\own 6 m
 f7:listed.getD 7 false=true->∃m,v49=.map (Z m)/\gA KO w m (λ_=>I) 0/\own 7 m
 f8:listed.getD 8 false=true->∃B:RB,o6=cg (oS B R0)/\Hy w own qg qp B
 f9:listed.getD 9 false=true->∃B:RB,v51=aq (Z ⟨B.g,0,I⟩)/\aL w B R0 0/\∀i,B.all i->low<=i
 f10:listed.getD 10 false=true->∃B:RB,v2=aq (Z ⟨B.g,0,I⟩)/\aL w B R0 0/\∀i,B.all i->low<=i
 f11:listed.getD 11 false=true->v3=J V 0
def owns(own:Nat->Nat->Prop)(k n m:Nat):Nat->Nat->Prop:=λi b=>own i b\/i=k/\n<=b/\b<m
def lF.below{low:Nat}{w0:aw}{cf:Array Value}{R0:M.Room}{qg qp:Nat}{listed:Array Bool}{w:aw}{v2 v3 pf pd pc pa v46 o8 o7 v49 o6 v51:Value}{own:Nat->Nat->Prop}(h:lF low w0 cf R0 qg qp listed w v2 v3 pf pd pc pa v46 o8 o7 v49 o6 v51 own){w':aw}(b:aC w w')(k:Nat):lF low w0 cf R0 qg qp listed w' v2 v3 pf pd pc pa v46 o8 o7 v49 o6 v51 (owns own k w.heap.size w'.heap.size) where
 size:=h.size
 fN:=h.fN.trans (b.mono h.fN.size)
 wb i x q:=by
  have s:=b.size;have t:=h.fN.size;rcases q with q | ⟨_,q⟩
  ·have:=h.wb i x q;omega
  ·omega
 vd i j x q r:=by
  rcases q with q | ⟨d,q⟩<;>rcases r with r | ⟨f,r⟩
  ·exact h.vd i j x q r
  ·have:=h.wb i x q;omega
  ·have:=h.wb j x r;omega
  ·rw[d,f]
 f0 q:=by obtain⟨g,m,e,a,c⟩:=h.f0 q;exact⟨g,m,e,a.below b,λx y=>.inl (c x y)⟩
 f1 q:=by obtain⟨g,m,e,a,c⟩:=h.f1 q;exact⟨g,m,e,a.below b,λx y=>.inl (c x y)⟩
 f2:=h.f2
 f3 q:=by obtain⟨m,e,a,c⟩:=h.f3 q;exact⟨m,e,a.below b,.inl c⟩
 f4:=h.f4
 f5 q:=by obtain⟨T,e,a,c⟩:=h.f5 q;exact⟨T,e,a.below b,λx y=>.inl (c x y)⟩
 f6 q:=by obtain⟨m,e,a,c⟩:=h.f6 q;exact⟨m,e,a.below b,.inl c⟩
 f7 q:=by obtain⟨m,e,a,c⟩:=h.f7 q;exact⟨m,e,a.below b,.inl c⟩
 f8 q:=by obtain⟨B,e,a⟩:=h.f8 q;exact⟨B,e,a.below b (λi x y=>.inl y)⟩
 f9 q:=by obtain⟨B,e,a,c⟩:=h.f9 q;exact⟨B,e,a.below b,c⟩
 f10 q:=by obtain⟨B,e,a,c⟩:=h.f10 q;exact⟨B,e,a.below b,c⟩
 f11:=h.f11
def aH{listed:Array Bool}{i j:Nat}(h:(listed.setIfInBounds i true).getD j false=true)(a:i≠j):listed.getD j false=true:=by
 have e:(listed.setIfInBounds i true).getD j false=listed.getD j false:=by simp only[Array.getD_eq_getD_getElem?];rw[Array.getElem?_setIfInBounds_ne a]
 rw[<-e];exact h
def lF.Sw{low:Nat}{w0:aw}{cf:Array Value}{R0:M.Room}{qg qp:Nat}{listed:Array Bool}{w:aw}{v2 v3 pf pd pc pa v46 o8 o7 v49 o6 v51:Value}{own:Nat->Nat->Prop}(h:lF low w0 cf R0 qg qp listed w v2 v3 pf pd pc pa v46 o8 o7 v49 o6 v51 own)(a:Value)(d:∃g m,a=aq (Z ⟨g,0,I⟩)/\eD w g m (λ_ _=>I) 0/\∀b,jK g m b->own 0 b):lF low w0 cf R0 qg qp (listed.setIfInBounds 0 true) w v2 v3 a pd pc pa v46 o8 o7 v49 o6 v51 own:=
 ⟨by rw[dh];exact h.size,h.fN,h.wb,h.vd,λ_=>d,λq=>h.f1 (aH q aR),λq=>h.f2 (aH q aR),λq=>h.f3 (aH q aR),λq=>h.f4 (aH q aR),λq=>h.f5 (aH q aR),λq=>h.f6 (aH q aR),λq=>h.f7 (aH q aR),λq=>h.f8 (aH q aR),λq=>h.f9 (aH q aR),λq=>h.f10 (aH q aR),λq=>h.f11 (aH q aR)⟩
def lF.Sv{low:Nat}{w0:aw}{cf:Array Value}{R0:M.Room}{qg qp:Nat}{listed:Array Bool}{w:aw}{v2 v3 pf pd pc pa v46 o8 o7 v49 o6 v51:Value}{own:Nat->Nat->Prop}(h:lF low w0 cf R0 qg qp listed w v2 v3 pf pd pc pa v46 o8 o7 v49 o6 v51 own)(a:Value)(d:∃g m,a=cg #[aq (Z ⟨g,0,I⟩)]/\eD w g m (λ_ _=>I) 0/\∀b,jK g m b->own 0 b):lF low w0 cf R0 qg qp (listed.setIfInBounds 1 true) w v2 v3 pf a pc pa v46 o8 o7 v49 o6 v51 own:=
 ⟨by rw[dh];exact h.size,h.fN,h.wb,h.vd,λq=>h.f0 (aH q aR),λ_=>d,λq=>h.f2 (aH q aR),λq=>h.f3 (aH q aR),λq=>h.f4 (aH q aR),λq=>h.f5 (aH q aR),λq=>h.f6 (aH q aR),λq=>h.f7 (aH q aR),λq=>h.f8 (aH q aR),λq=>h.f9 (aH q aR),λq=>h.f10 (aH q aR),λq=>h.f11 (aH q aR)⟩
def lF.Su{low:Nat}{w0:aw}{cf:Array Value}{R0:M.Room}{qg qp:Nat}{listed:Array Bool}{w:aw}{v2 v3 pf pd pc pa v46 o8 o7 v49 o6 v51:Value}{own:Nat->Nat->Prop}(h:lF low w0 cf R0 qg qp listed w v2 v3 pf pd pc pa v46 o8 o7 v49 o6 v51 own)(a:Value)(d:a=cg cf):lF low w0 cf R0 qg qp (listed.setIfInBounds 2 true) w v2 v3 pf pd a pa v46 o8 o7 v49 o6 v51 own:=
 ⟨by rw[dh];exact h.size,h.fN,h.wb,h.vd,λq=>h.f0 (aH q aR),λq=>h.f1 (aH q aR),λ_=>d,λq=>h.f3 (aH q aR),λq=>h.f4 (aH q aR),λq=>h.f5 (aH q aR),λq=>h.f6 (aH q aR),λq=>h.f7 (aH q aR),λq=>h.f8 (aH q aR),λq=>h.f9 (aH q aR),λq=>h.f10 (aH q aR),λq=>h.f11 (aH q aR)⟩
def lF.St{low:Nat}{w0:aw}{cf:Array Value}{R0:M.Room}{qg qp:Nat}{listed:Array Bool}{w:aw}{v2 v3 pf pd pc pa v46 o8 o7 v49 o6 v51:Value}{own:Nat->Nat->Prop}(h:lF low w0 cf R0 qg qp listed w v2 v3 pf pd pc pa v46 o8 o7 v49 o6 v51 own)(a:Value)(d:∃m,a=.map (Z m)/\gE KW w m [] (λ_=>ai true)/\own 3 m):lF low w0 cf R0 qg qp (listed.setIfInBounds 3 true) w v2 v3 pf pd pc a v46 o8 o7 v49 o6 v51 own:=
 ⟨by rw[dh];exact h.size,h.fN,h.wb,h.vd,λq=>h.f0 (aH q aR),λq=>h.f1 (aH q aR),λq=>h.f2 (aH q aR),λ_=>d,λq=>h.f4 (aH q aR),λq=>h.f5 (aH q aR),λq=>h.f6 (aH q aR),λq=>h.f7 (aH q aR),λq=>h.f8 (aH q aR),λq=>h.f9 (aH q aR),λq=>h.f10 (aH q aR),λq=>h.f11 (aH q aR)⟩
def lF.Ss{low:Nat}{w0:aw}{cf:Array Value}{R0:M.Room}{qg qp:Nat}{listed:Array Bool}{w:aw}{v2 v3 pf pd pc pa v46 o8 o7 v49 o6 v51:Value}{own:Nat->Nat->Prop}(h:lF low w0 cf R0 qg qp listed w v2 v3 pf pd pc pa v46 o8 o7 v49 o6 v51 own)(a:Value)(d:a=aq (Z ⟨qg,0,I⟩)):lF low w0 cf R0 qg qp (listed.setIfInBounds 4 true) w v2 v3 pf pd pc pa a o8 o7 v49 o6 v51 own:=
 ⟨by rw[dh];exact h.size,h.fN,h.wb,h.vd,λq=>h.f0 (aH q aR),λq=>h.f1 (aH q aR),λq=>h.f2 (aH q aR),λq=>h.f3 (aH q aR),λ_=>d,λq=>h.f5 (aH q aR),λq=>h.f6 (aH q aR),λq=>h.f7 (aH q aR),λq=>h.f8 (aH q aR),λq=>h.f9 (aH q aR),λq=>h.f10 (aH q aR),λq=>h.f11 (aH q aR)⟩
def lF.Sr{low:Nat}{w0:aw}{cf:Array Value}{R0:M.Room}{qg qp:Nat}{listed:Array Bool}{w:aw}{v2 v3 pf pd pc pa v46 o8 o7 v49 o6 v51:Value}{own:Nat->Nat->Prop}(h:lF low w0 cf R0 qg qp listed w v2 v3 pf pd pc pa v46 o8 o7 v49 o6 v51 own)(a:Value)(d:∃T:sL,a=aq (Z ⟨T.g,0,I⟩)/\fA w T (λ_=>I) (λ_=>I) (λ_=>I) 0/\∀b,T.own b->own 5 b):lF low w0 cf R0 qg qp (listed.setIfInBounds 5 true) w v2 v3 pf pd pc pa v46 a o7 v49 o6 v51 own:=
 ⟨by rw[dh];exact h.size,h.fN,h.wb,h.vd,λq=>h.f0 (aH q aR),λq=>h.f1 (aH q aR),λq=>h.f2 (aH q aR),λq=>h.f3 (aH q aR),λq=>h.f4 (aH q aR),λ_=>d,λq=>h.f6 (aH q aR),λq=>h.f7 (aH q aR),λq=>h.f8 (aH q aR),λq=>h.f9 (aH q aR),λq=>h.f10 (aH q aR),λq=>h.f11 (aH q aR)⟩
def lF.Sq{low:Nat}{w0:aw}{cf:Array Value}{R0:M.Room}{qg qp:Nat}{listed:Array Bool}{w:aw}{v2 v3 pf pd pc pa v46 o8 o7 v49 o6 v51:Value}{own:Nat->Nat->Prop}(h:lF low w0 cf R0 qg qp listed w v2 v3 pf pd pc pa v46 o8 o7 v49 o6 v51 own)(a:Value)(d:∃m,a=.map (Z m)/\gA KI w m (λ_=>I) 0/\own 6 m):lF low w0 cf R0 qg qp (listed.setIfInBounds 6 true) w v2 v3 pf pd pc pa v46 o8 a v49 o6 v51 own:=
 ⟨by rw[dh];exact h.size,h.fN,h.wb,h.vd,λq=>h.f0 (aH q aR),λq=>h.f1 (aH q aR),λq=>h.f2 (aH q aR),λq=>h.f3 (aH q aR),λq=>h.f4 (aH q aR),λq=>h.f5 (aH q aR),λ_=>d,λq=>h.f7 (aH q aR),λq=>h.f8 (aH q aR),λq=>h.f9 (aH q aR),λq=>h.f10 (aH q aR),λq=>h.f11 (aH q aR)⟩
def lF.Sp{low:Nat}{w0:aw}{cf:Array Value}{R0:M.Room}{qg qp:Nat}{listed:Array Bool}{w:aw}{v2 v3 pf pd pc pa v46 o8 o7 v49 o6 v51:Value}{own:Nat->Nat->Prop}(h:lF low w0 cf R0 qg qp listed w v2 v3 pf pd pc pa v46 o8 o7 v49 o6 v51 own)(a:Value)(d:∃m,a=.map (Z m)/\gA KO w m (λ_=>I) 0/\own 7 m):lF low w0 cf R0 qg qp (listed.setIfInBounds 7 true) w v2 v3 pf pd pc pa v46 o8 o7 a o6 v51 own:=
 ⟨by rw[dh];exact h.size,h.fN,h.wb,h.vd,λq=>h.f0 (aH q aR),λq=>h.f1 (aH q aR),λq=>h.f2 (aH q aR),λq=>h.f3 (aH q aR),λq=>h.f4 (aH q aR),λq=>h.f5 (aH q aR),λq=>h.f6 (aH q aR),λ_=>d,λq=>h.f8 (aH q aR),λq=>h.f9 (aH q aR),λq=>h.f10 (aH q aR),λq=>h.f11 (aH q aR)⟩
def lF.Sn{low:Nat}{w0:aw}{cf:Array Value}{R0:M.Room}{qg qp:Nat}{listed:Array Bool}{w:aw}{v2 v3 pf pd pc pa v46 o8 o7 v49 o6 v51:Value}{own:Nat->Nat->Prop}(h:lF low w0 cf R0 qg qp listed w v2 v3 pf pd pc pa v46 o8 o7 v49 o6 v51 own)(a:Value)(d:∃B:RB,a=cg (oS B R0)/\Hy w own qg qp B):lF low w0 cf R0 qg qp (listed.setIfInBounds 8 true) w v2 v3 pf pd pc pa v46 o8 o7 v49 a v51 own:=
 ⟨by rw[dh];exact h.size,h.fN,h.wb,h.vd,λq=>h.f0 (aH q aR),λq=>h.f1 (aH q aR),λq=>h.f2 (aH q aR),λq=>h.f3 (aH q aR),λq=>h.f4 (aH q aR),λq=>h.f5 (aH q aR),λq=>h.f6 (aH q aR),λq=>h.f7 (aH q aR),λ_=>d,λq=>h.f9 (aH q aR),λq=>h.f10 (aH q aR),λq=>h.f11 (aH q aR)⟩
def lF.Sm{low:Nat}{w0:aw}{cf:Array Value}{R0:M.Room}{qg qp:Nat}{listed:Array Bool}{w:aw}{v2 v3 pf pd pc pa v46 o8 o7 v49 o6 v51:Value}{own:Nat->Nat->Prop}(h:lF low w0 cf R0 qg qp listed w v2 v3 pf pd pc pa v46 o8 o7 v49 o6 v51 own)(a:Value)(d:∃B:RB,a=aq (Z ⟨B.g,0,I⟩)/\aL w B R0 0/\∀i,B.all i->low<=i):lF low w0 cf R0 qg qp (listed.setIfInBounds 9 true) w v2 v3 pf pd pc pa v46 o8 o7 v49 o6 a own:=
 ⟨by rw[dh];exact h.size,h.fN,h.wb,h.vd,λq=>h.f0 (aH q aR),λq=>h.f1 (aH q aR),λq=>h.f2 (aH q aR),λq=>h.f3 (aH q aR),λq=>h.f4 (aH q aR),λq=>h.f5 (aH q aR),λq=>h.f6 (aH q aR),λq=>h.f7 (aH q aR),λq=>h.f8 (aH q aR),λ_=>d,λq=>h.f10 (aH q aR),λq=>h.f11 (aH q aR)⟩
def lF.Ro{low:Nat}{w0:aw}{cf:Array Value}{R0:M.Room}{qg qp:Nat}{listed:Array Bool}{w:aw}{v2 v3 pf pd pc pa v46 o8 o7 v49 o6 v51:Value}{own:Nat->Nat->Prop}(h:lF low w0 cf R0 qg qp listed w v2 v3 pf pd pc pa v46 o8 o7 v49 o6 v51 own)(a:Value)(d:∃B:RB,a=aq (Z ⟨B.g,0,I⟩)/\aL w B R0 0/\∀i,B.all i->low<=i):lF low w0 cf R0 qg qp (listed.setIfInBounds 10 true) w a v3 pf pd pc pa v46 o8 o7 v49 o6 v51 own:=
 ⟨by rw[dh];exact h.size,h.fN,h.wb,h.vd,λq=>h.f0 (aH q aR),λq=>h.f1 (aH q aR),λq=>h.f2 (aH q aR),λq=>h.f3 (aH q aR),λq=>h.f4 (aH q aR),λq=>h.f5 (aH q aR),λq=>h.f6 (aH q aR),λq=>h.f7 (aH q aR),λq=>h.f8 (aH q aR),λq=>h.f9 (aH q aR),λ_=>d,λq=>h.f11 (aH q aR)⟩
def lF.Rm{low:Nat}{w0:aw}{cf:Array Value}{R0:M.Room}{qg qp:Nat}{listed:Array Bool}{w:aw}{v2 v3 pf pd pc pa v46 o8 o7 v49 o6 v51:Value}{own:Nat->Nat->Prop}(h:lF low w0 cf R0 qg qp listed w v2 v3 pf pd pc pa v46 o8 o7 v49 o6 v51 own)(a:Value)(d:a=J V 0):lF low w0 cf R0 qg qp (listed.setIfInBounds 11 true) w v2 a pf pd pc pa v46 o8 o7 v49 o6 v51 own:=
 ⟨by rw[dh];exact h.size,h.fN,h.wb,h.vd,λq=>h.f0 (aH q aR),λq=>h.f1 (aH q aR),λq=>h.f2 (aH q aR),λq=>h.f3 (aH q aR),λq=>h.f4 (aH q aR),λq=>h.f5 (aH q aR),λq=>h.f6 (aH q aR),λq=>h.f7 (aH q aR),λq=>h.f8 (aH q aR),λq=>h.f9 (aH q aR),λq=>h.f10 (aH q aR),λ_=>d⟩
def PJ(k:Nat):xN:=if k=0 then .di else if k=3 then .ret else if k=5 then .table else if k=6 then .aD else .az
def Hy.aG{w0 w:aw}{own:Nat->Nat->Prop}{qg qp:Nat}{B:RB}{c:M.Ou}(h:Hy w own qg qp B)(fN:aC w0 w)(wb:∀i b,own i b->w0.heap.size<=b/\b<w.heap.size)(vd:∀i j b,own i b->own j b->i=j)
  (n:ko w0 qg qp c.aG []) (v:M.jr c.aG c.eJ c.cX c.eA c.ek c.aT=true) {low:Nat} (p:low<=w0.heap.size) (x:low<=qg/\low<=qp) :
  aL (w.alloc (.cells (oS B (.new c)) 61)) { B with g:=w.heap.size } (.new c) 0/\∀i,({ B with g:=w.heap.size }:RB).all i->low<=i:=by
 have d:aC w (w.alloc (.cells (oS B (.new c)) 61)):=(ao _ _).alloc (aj _) _;have f:=n.below fN;obtain⟨r,t⟩:=h.q;obtain⟨n1,l,u,n4⟩:=h.no;have y:=fN.size;have key:∀X i,({ B with g:=w.heap.size }:RB).own X i->(X=.aG/\i=w.heap.size)\/(X=.dm/\low<=i/\i<w0.heap.size)\/∃k,own k i/\X=PJ k:=by
  intro X i hi;cases X with
  |aG=>exact .inl ⟨rfl,hi⟩
  |di=>exact .inr (.inr ⟨0,h.OQ i hi,rfl⟩)
  |ret=>have hi:i=B.ret:=hi;subst hi;exact .inr (.inr ⟨3,h.Qn,rfl⟩)
  |dm =>
   have hi:jK B.qg B.qp i:=hi;rw[r,t]at hi;refine .inr (.inl ⟨rfl,?_⟩);have:=n.lt;rcases hi with hi|hi<;>omega
  |table=>exact .inr (.inr ⟨5,h.Qf i hi,rfl⟩)
  |aD=>have hi:i=B.lm:=hi;subst hi;exact .inr (.inr ⟨6,h.Sg,rfl⟩)
  |az=>have hi:i=B.sm:=hi;subst hi;exact .inr (.inr ⟨7,h.Sd,rfl⟩)
  |fo s=>obtain⟨L,e,_⟩:=hi;rw[show({ B with g:=w.heap.size }:RB).lb=B.lb from rfl,n1]at e;cases e
  |fO o=>obtain⟨L,e,_⟩:=hi;rw[show({ B with g:=w.heap.size }:RB).sb=B.sb from rfl,l]at e;cases e
  |aO=>have hi:B.pv.ownBlock=Z i:=hi;rw[u]at hi;cases hi
  |cj=>have hi:B.rv.ownBlock=Z i:=hi;rw[n4]at hi;cases hi
 refine⟨⟨λX=>?_,λX Y i h1 h2=>?_,?_⟩,λi ⟨X,hi⟩=>?_⟩
 ·cases X with
  |aG=>exact aK.new _ _ _
  |di=>exact h.di.below d
  |ret=>exact h.ret.below d
  |dm=>refine⟨[],?_,trivial⟩;rw[show({ B with g:=w.heap.size }:RB).qg=qg from r,show({ B with g:=w.heap.size }:RB).qp=qp from t];exact f.below d
  |table=>exact h.Qa.below d
  |aD=>refine gA.congr (h.lm.below d) (λs=>?_);rw[show({ B with g:=w.heap.size }:RB).lb=B.lb from rfl,n1];rfl
  |az=>refine gA.congr (h.sm.below d) (λs=>?_);rw[show({ B with g:=w.heap.size }:RB).sb=B.sb from rfl,l];rfl
  |fo s=>show lX _ I (B.lb s);rw[n1];trivial
  |fO o=>show lX _ I (B.sb o);rw[l];trivial
  |aO=>refine⟨[],?_,trivial⟩;rw[show({ B with g:=w.heap.size }:RB).pv=ae I 0 0 from u];exact⟨rfl,.inl ⟨rfl,rfl⟩⟩
  |cj=>refine⟨[],?_,trivial⟩;rw[show({ B with g:=w.heap.size }:RB).rv=ae I 0 0 from n4];exact⟨rfl,.inl ⟨rfl,rfl⟩⟩
 ·rcases key X i h1 with⟨a1,a2⟩ | ⟨a1,a2⟩ | ⟨k,a1,a2⟩<;>rcases key Y i h2 with⟨b1,b2⟩ | ⟨b1,b2⟩ | ⟨m,b1,b2⟩
  ·rw[a1,b1]
  ·omega
  ·have:=wb m i b1;omega
  ·omega
  ·rw[a1,b1]
  ·have:=wb m i b1;omega
  ·have:=wb k i a1;omega
  ·have:=wb k i a1;omega
  ·rw[a2,b2,vd k m i a1 b1]
 ·exact⟨v,by simp[M.Room.new],by simp[M.Room.new],by simp[M.Room.new],by simp[M.Room.new],by simp[M.Room.new],by simp[M.Room.new],by simp[M.Room.new],by simp[M.Room.new]⟩
 ·rcases key X i hi with⟨_,a⟩ | ⟨_,a⟩ | ⟨k,a,_⟩
  ·omega
  ·exact a.1
  ·have:=wb k i a;omega
def tM(aG:Nat)(eJ cX eA ek aT:Int)(w:aw)(hc:M.jr aG eJ cX eA ek aT=true) :
  aF af 9 #[cg (Kf aG eJ cX eA ek aT)] w λe w'=>(∃B:RB,e=av (aB #[aq (Z ⟨B.g,0,I⟩),J V 0])/\aL w' B (.new ⟨aG,eJ,cX,eA,ek,aT⟩) 0/\∀i,B.all i->w.heap.size<=i)/\aC w w':=by
 have E:=hc;simp only[M.jr,cM,decide_eq_true_eq]at hc;obtain⟨⟨⟨a1,a2⟩,⟨a3,a4⟩,a5,a6⟩,⟨a7,a8,a9⟩,Ty,Tz⟩:=hc;have r:(decide (1<=eA)&&(decide (eA<=ek)&&decide (ek<=1000)))=true:=dZ;obtain⟨HC,F⟩:=bu E r;clear E r;go_enter func9,ntmps9;go_upto_region 1 with fail;obtain⟨r1,e1⟩:=dH w.heap.size;rw[<-e1];refine aW (λX=>aK X r1 25 (Kf aG eJ cX eA ek aT)/\aC w X) ⟨aK.newAt _ _ _ _ e1,(ao _ w).alloc (aj _) _⟩ ?_;clear e1;rintro X ⟨b1,bX⟩;have k0:=b1.cell 0;simp at k0;obtain⟨t,n,HQ⟩:=bU b1 bX (BH aG X z z);clear b1 bX;go_upto_region 2 with(go_big_may;go_at_call 30;refine HQ.O.mono ?_;rintro e w1 ⟨qg,qp,rfl,G,uq,l1,l2⟩;have u:=au (dj G (dj uq.nothing (dj l1 l2)));clear G uq l1 l2)
 have b2:=t.O.kept u.O.2.1;have k1:=b2.cell 1;have k2:=b2.cell 2;simp at k1 k2;have HN:=au (vM eJ cX w1 ⟨a3,a4⟩ ⟨a5,a6⟩);clear b2 k0;go_upto_region 5 with(go_big_may;go_at_call 31;refine HN.O.mono ?_;rintro e w2 ⟨jg,rfl,_,b2,_⟩;have o:=au b2;clear b2)
 have b3:=(t.O.kept u.O.2.1).kept o.O;have k3:=b3.cell 3;have k4:=b3.cell 4;have H:=b3.cell 5;simp at k3 k4 H;have A:=λW=>Lh eA ek W;rw[F.O]at A;have L:=au A;clear b3 k1 k2 A;go_upto_region 9 with(go_big_may;go_at_call 32;refine(L.O _).mono ?_;rintro e w3 ⟨rfl,b3⟩;have Tl:=aM b3 H;have v:=au b3;clear b3)
 obtain⟨G,bq,l1,l2⟩:=u.O;have N:aK w3 r1 25 (Kf aG eJ cX eA ek aT):=((t.O.kept bq).kept o.O).kept v.O;have P:aC w w3:=(n.O.trans (bq.mono n.O.size)).trans ((o.O.trans (v.O.mono o.O.size)).mono (n.O.trans (bq.mono n.O.size)).size);have Q:ko w3 qg qp aG []:=(G.below o.O).below v.O;obtain⟨R,C,Tm⟩:=bU N P Q;have hl:=n.O.size;obtain⟨R0,S⟩:=dH (M.Room.new ⟨aG,eJ,cX,eA,ek,aT⟩);have D:=au S;clear N P Q t n u o v HN L F HQ k3 k4 H Tl G bq S;refine wp_region_any cC ?_;refine AR (λlisted a W=>∃(u0 u5 u6 u7 u8 u9 u10 u11 u12 u13 u14 u15 u16 u17 u18 u19 u20 u21 u22 u23 u24 u25 u26 u27 u28 u29 u30 u31 u32 u33 u34 u35 u36 u37 u38 u39 u40 u41 v2 v3 pf pd pc pa v46 o8 o7 v49 o6 v51:Value) (own:Nat->Nat->Prop),a={ tmps:=#[u0,aq (Z ⟨r1,0,I⟩),v2,v3,aq (Z ⟨qg,0,I⟩),u5,u6,u7,u8,u9,u10,u11,u12,u13,u14,u15,u16,u17,u18,u19,u20,u21,u22,u23,u24,u25,u26,u27,u28,u29,u30,u31,u32,u33,u34,u35,u36,u37,u38,u39,u40,u41,pf,pd,pc,pa,v46,o8,o7,v49,o6,v51],defers:=[] }/\lF w.heap.size w3 (Kf aG eJ cX eA ek aT) R0 qg qp listed W v2 v3 pf pd pc pa v46 o8 o7 v49 o6 v51 own) ?_ (Hp cC) ?_ ?_ _ _ _ _ aR ?_
 ·rintro listed a W ⟨u0,u5,u6,u7,u8,u9,u10,u11,u12,u13,u14,u15,u16,u17,u18,u19,u20,u21,u22,u23,u24,u25,u26,u27,u28,u29,u30,u31,u32,u33,u34,u35,u36,u37,u38,u39,u40,u41,v2,v3,pf,pd,pc,pa,v46,o8,o7,v49,o6,v51,own,rfl,h⟩;exact h.size
 ·rintro listed a W i O ⟨u0,u5,u6,u7,u8,u9,u10,u11,u12,u13,u14,u15,u16,u17,u18,u19,u20,u21,u22,u23,u24,u25,u26,u27,u28,u29,u30,u31,u32,u33,u34,u35,u36,u37,u38,u39,u40,u41,v2,v3,pf,pd,pc,pa,v46,o8,o7,v49,o6,v51,own,rfl,h⟩ p d;have TA:i<12:=(Array.getElem?_eq_some_iff.1 p).1;rcases(z:i=0\/i=1\/i=2\/i=3\/i=4\/i=5\/i=6\/i=7\/i=8\/i=9\/i=10\/i=11) with rfl|rfl|rfl|rfl|rfl|rfl|rfl|rfl|rfl|rfl|rfl|rfl
  ·cases p;refine lC rfl (λK f=>?_);rw[if_pos jP];go_simp;go_at_call 33;refine(Fb W).mono ?_;rintro e w' ⟨g,m,rfl,k,bb,y1,y2⟩;dsimp only;refine f _ _ ⟨u0,u5,u6,u7,u8,u9,u10,u11,u12,u13,u14,u15,u16,u17,u18,u19,u20,u21,u22,u23,u24,u25,u26,u27,u28,u29,u30,u31,u32,u33,u34,u35,u36,u37,u38,u39,u40,u41,v2,v3,aq (Z ⟨g,0,I⟩),pd,pc,pa,v46,o8,o7,v49,o6,v51,_,rfl,(h.below bb 0).Sw _ ⟨g,m,rfl,k,λb q=>.inr ⟨rfl,by rcases q with rfl|rfl<;>assumption,by rcases q with rfl|rfl;exact k.lt.1;exact k.lt.2⟩⟩⟩
  ·cases p;obtain⟨g,m,rfl,k,hw⟩:=h.f0 (d ⟨0,.data⟩ dt rfl);refine lC rfl (λK f=>?_);clear d;rw[if_pos jP];go_simp;refine f _ _ ⟨u0,u5,u6,u7,u8,u9,u10,u11,u12,u13,u14,u15,u16,u17,u18,u19,u20,u21,u22,u23,u24,u25,u26,u27,u28,u29,u30,u31,u32,u33,u34,u35,u36,u37,u38,u39,u40,u41,v2,v3,aq (Z ⟨g,0,I⟩),cg #[aq (Z ⟨g,0,I⟩)],pc,pa,v46,o8,o7,v49,o6,v51,own,rfl,(h).Sv _ ⟨g,m,rfl,k,hw⟩⟩
  ·cases p;have b:=R.O.kept h.fN;have k0:=b.cell 0;have k1:=b.cell 1;have k2:=b.cell 2;have k3:=b.cell 3;have k4:=b.cell 4;have H:=b.cell 5;simp at k0 k1 k2 k3 k4 H;refine lC rfl (λK f=>?_);rw[if_pos jP];go_simp;refine f _ _ ⟨u0,u5,u6,u7,u8,u9,u10,u11,u12,u13,u14,u15,u16,u17,u18,u19,u20,u21,u22,u23,u24,u25,u26,u27,u28,u29,u30,u31,u32,u33,u34,u35,u36,u37,u38,u39,u40,u41,v2,v3,pf,pd,cg (Kf aG eJ cX eA ek aT),pa,v46,o8,o7,v49,o6,v51,own,rfl,(h).Su _ rfl⟩
  ·cases p;refine lC rfl (λK f=>?_);rw[if_pos jP];go_simp;refine f _ _ ⟨u0,u5,u6,u7,u8,u9,u10,u11,u12,u13,u14,u15,u16,u17,u18,u19,u20,u21,u22,u23,u24,u25,u26,u27,u28,u29,u30,u31,u32,u33,u34,u35,u36,u37,u38,u39,u40,u41,v2,v3,pf,pd,pc,.map (Z W.heap.size),v46,o8,o7,v49,o6,v51,_,rfl,(h.below ((ao _ _).alloc (aj _) (.map #[] 0)) 3).St _ ⟨_,rfl,gE.made W _,.inr ⟨rfl,aj _,dt⟩⟩⟩
  ·cases p;refine lC rfl (λK f=>?_);rw[if_pos jP];go_simp;refine f _ _ ⟨u0,u5,u6,u7,u8,u9,u10,u11,u12,u13,u14,u15,u16,u17,u18,u19,u20,u21,u22,u23,u24,u25,u26,u27,u28,u29,u30,u31,u32,u33,u34,u35,u36,u37,u38,u39,u40,u41,v2,v3,pf,pd,pc,pa,aq (Z ⟨qg,0,I⟩),o8,o7,v49,o6,v51,own,rfl,(h).Ss _ rfl⟩
  ·cases p;refine lC rfl (λK f=>?_);rw[if_pos jP];go_simp;go_at_call 34;refine(FB W).mono ?_;rintro e w' ⟨T,rfl,k,bb,y1⟩;dsimp only;refine f _ _ ⟨u0,u5,u6,u7,u8,u9,u10,u11,u12,u13,u14,u15,u16,u17,u18,u19,u20,u21,u22,u23,u24,u25,u26,u27,u28,u29,u30,u31,u32,u33,u34,u35,u36,u37,u38,u39,u40,u41,v2,v3,pf,pd,pc,pa,v46,aq (Z ⟨T.g,0,I⟩),o7,v49,o6,v51,_,rfl,(h.below bb 5).Sr _ ⟨T,rfl,k,λb q=>.inr ⟨rfl,y1 b q,k.lt b q⟩⟩⟩
  ·cases p;refine lC rfl (λK f=>?_);rw[if_pos jP];go_simp;refine f _ _ ⟨u0,u5,u6,u7,u8,u9,u10,u11,u12,u13,u14,u15,u16,u17,u18,u19,u20,u21,u22,u23,u24,u25,u26,u27,u28,u29,u30,u31,u32,u33,u34,u35,u36,u37,u38,u39,u40,u41,v2,v3,pf,pd,pc,pa,v46,o8,.map (Z W.heap.size),v49,o6,v51,_,rfl,(h.below ((ao _ _).alloc (aj _) (.map #[] 0)) 6).Sq _ ⟨_,rfl,gA.made W KI,.inr ⟨rfl,aj _,dt⟩⟩⟩
  ·cases p;refine lC rfl (λK f=>?_);rw[if_pos jP];go_simp;refine f _ _ ⟨u0,u5,u6,u7,u8,u9,u10,u11,u12,u13,u14,u15,u16,u17,u18,u19,u20,u21,u22,u23,u24,u25,u26,u27,u28,u29,u30,u31,u32,u33,u34,u35,u36,u37,u38,u39,u40,u41,v2,v3,pf,pd,pc,pa,v46,o8,o7,.map (Z W.heap.size),o6,v51,_,rfl,(h.below ((ao _ _).alloc (aj _) (.map #[] 0)) 7).Sp _ ⟨_,rfl,gA.made W KO,.inr ⟨rfl,aj _,dt⟩⟩⟩
  ·cases p;obtain⟨bg,bm,Tn,k,U⟩:=h.f1 (d ⟨1,.data⟩ dt rfl);have To:=h.f2 (d ⟨2,.data⟩ dt rfl);obtain⟨ret,Tp,Y,Tf⟩:=h.f3 (d ⟨3,.data⟩ dt rfl);have Tq:=h.f4 (d ⟨4,.data⟩ dt rfl);obtain⟨T,Ts,hT,Tg⟩:=h.f5 (d ⟨5,.data⟩ dt rfl);obtain⟨lm,Tt,hL,Ti⟩:=h.f6 (d ⟨6,.data⟩ dt rfl);obtain⟨sm,Tu,hM,Tj⟩:=h.f7 (d ⟨7,.data⟩ dt rfl);subst Tn To Tp Tq Ts Tt Tu;obtain⟨l,x⟩:=bu (dj k (dj U (dj Y (dj Tf (dj hT (dj Tg (dj hL (dj Ti (dj hM Tj))))))))) h;clear d k U Y Tf hT Tg hL Ti hM Tj h;refine lC rfl (λK f=>?_);rw[if_pos jP];go_simp;refine f _ _ ⟨u0,u5,u6,u7,u8,u9,u10,u11,u12,u13,u14,u15,u16,u17,u18,u19,u20,u21,u22,u23,u24,u25,u26,u27,u28,u29,u30,u31,u32,u33,u34,u35,u36,u37,u38,u39,u40,u41,v2,v3,pf,cg #[aq (Z ⟨bg,0,I⟩)],cg (Kf aG eJ cX eA ek aT),.map (Z ret),aq (Z ⟨qg,0,I⟩),aq (Z ⟨T.g,0,I⟩),.map (Z lm),.map (Z sm),_,v51,own,rfl,(x.O).Sn _ ⟨⟨0,bg,bm,ret,qg,qp,T,lm,sm,λ_=>I,λ_=>I,ae I 0 0,ae I 0 0⟩,by rw[D.O];rfl,⟨l.O.1,l.O.2.1,l.O.2.2.1,l.O.2.2.2.1,⟨rfl,rfl⟩,l.O.2.2.2.2.1,l.O.2.2.2.2.2.1,l.O.2.2.2.2.2.2.1,l.O.2.2.2.2.2.2.2.1,l.O.2.2.2.2.2.2.2.2.1,l.O.2.2.2.2.2.2.2.2.2,⟨rfl,rfl,rfl,rfl⟩⟩⟩⟩
  ·cases p;obtain⟨B,Tv,k⟩:=h.f8 (d ⟨8,.data⟩ dt rfl);subst Tv;obtain⟨HB,x⟩:=bu k h;clear d k h;refine lC rfl (λK f=>?_);rw[if_pos jP];go_simp;have al:aC W (W.alloc (.cells (oS B R0) 61)):=(ao _ _).alloc (aj _) _;have Tw:=HB.O.aG (c:=⟨aG,eJ,cX,eA,ek,aT⟩) x.O.fN x.O.wb x.O.vd Tm.O HC.O (low:=w.heap.size) C.O.size ⟨z,z⟩;rw[<-D.O]at Tw;refine f _ _ ⟨u0,u5,u6,u7,u8,u9,u10,u11,u12,u13,u14,u15,u16,u17,u18,u19,u20,u21,u22,u23,u24,u25,u26,u27,u28,u29,u30,u31,u32,u33,u34,u35,u36,u37,u38,u39,u40,u41,v2,v3,pf,pd,pc,pa,v46,o8,o7,v49,cg (oS B R0),aq (Z ⟨W.heap.size,0,I⟩),_,rfl,(x.O.below al 9).Sm _ ⟨_,rfl,Tw.1,Tw.2⟩⟩
  ·cases p;obtain⟨B,Tx,k,Tk⟩:=h.f9 (d ⟨9,.data⟩ dt rfl);subst Tx;obtain⟨HB,x⟩:=bu (dj k Tk) h;clear d k Tk h;refine lC rfl (λK f=>?_);rw[if_pos jP];go_simp;refine f _ _ ⟨u0,u5,u6,u7,u8,u9,u10,u11,u12,u13,u14,u15,u16,u17,u18,u19,u20,u21,u22,u23,u24,u25,u26,u27,u28,u29,u30,u31,u32,u33,u34,u35,u36,u37,u38,u39,u40,u41,aq (Z ⟨B.g,0,I⟩),v3,pf,pd,pc,pa,v46,o8,o7,v49,o6,aq (Z ⟨B.g,0,I⟩),own,rfl,(x.O).Ro _ ⟨B,rfl,HB.O.1,HB.O.2⟩⟩
  ·cases p;refine lC rfl (λK f=>?_);rw[if_pos jP];go_simp;refine f _ _ ⟨u0,u5,u6,u7,u8,u9,u10,u11,u12,u13,u14,u15,u16,u17,u18,u19,u20,u21,u22,u23,u24,u25,u26,u27,u28,u29,u30,u31,u32,u33,u34,u35,u36,u37,u38,u39,u40,u41,v2,J V 0,pf,pd,pc,pa,v46,o8,o7,v49,o6,v51,own,rfl,(h).Rm _ rfl⟩
 ·rintro listed a W ⟨u0,u5,u6,u7,u8,u9,u10,u11,u12,u13,u14,u15,u16,u17,u18,u19,u20,u21,u22,u23,u24,u25,u26,u27,u28,u29,u30,u31,u32,u33,u34,u35,u36,u37,u38,u39,u40,u41,v2,v3,pf,pd,pc,pa,v46,o8,o7,v49,o6,v51,own,rfl,h⟩ s;obtain⟨B,rfl,hR,y⟩:=h.f10 (s 10 aR);have e3:=h.f11 (s 11 aR);subst e3;have hb:=C.O.trans (h.fN.mono C.O.size);have l:=au (dj hR (dj y hb));clear hR y hb h s;go_wp2_with fail;refine ax (ew rfl _ _ _) rfl ?_;exact⟨⟨B,rfl,by rw[<-D.O];exact l.O.1,l.O.2.1⟩,l.O.2.2⟩
 ·refine⟨_,_,_,_,_,_,_,_,_,_,_,_,_,_,_,_,_,_,_,_,_,_,_,_,_,_,_,_,_,_,_,_,_,_,_,_,_,_,_,_,_,_,_,_,_,_,_,_,_,_,λ_ _=>False,rfl,⟨rfl,eW (ao _ _),λi b q=>q.elim,λi j b q=>q.elim,λq=>(by cases q),λq=>(by cases q),λq=>(by cases q),λq=>(by cases q),λq=>(by cases q),λq=>(by cases q),λq=>(by cases q),λq=>(by cases q),λq=>(by cases q),λq=>(by cases q),λq=>(by cases q),λq=>(by cases q)⟩⟩
def xV(aG eJ cX eA ek aT:Int)(w:aw)(C:M.jr aG eJ cX eA ek aT=false) :
  aF af 9 #[cg #[J V aG,J V eJ,J V cX,J V eA,J V ek,J V aT]] w λe w'=>e=av (aB #[aq I,J V 1])/\aC w w':=by
 have G:=au C;clear C;go_enter func9,ntmps9;go_upto_region 1 with fail;obtain⟨r1,c⟩:=dH w.heap.size;rw[<-c];refine aW (λX=>aK X r1 25 #[J V aG,J V eJ,J V cX,J V eA,J V ek,J V aT]/\aC w X) ⟨aK.newAt _ _ _ _ c,(ao _ w).alloc (aj _) _⟩ ?_;clear c;rintro X ⟨b1,D⟩;have E:=b1.cell 0;have r:=b1.cell 1;have s:=b1.cell 2;have v:=b1.cell 3;have x:=b1.cell 4;have y:=b1.cell 5;simp at E r s v x y;have d:=au D;clear b1 D;by_cases hr:1<=aG/\aG<=8;rotate_left
 ·have k:=au (AF aG X z);clear hr;go_wp2_with (go_at_call 30;refine k.O.mono ?_;rintro e w1 ⟨rfl,c⟩;have c:=c.symm;subst c);refine ax (ew rfl _ _ _) rfl ?_;exact⟨rfl,d.O⟩
 obtain⟨t,rfl⟩:∃t:Nat,aG=t:=⟨aG.toNat,z⟩;have k:=au (BH t X z z);by_cases l:(1<=eJ/\eJ<=8)/\(0<=cX/\cX<=1000);rotate_left
 ·have u:=au (λW=>Hn eJ cX W l);clear l;go_wp2_with (first|(go_at_call 30;refine k.O.mono ?_;rintro e w1 ⟨qg,qp,rfl,A,m,l1,l2⟩;have b:=m.nothing;have j1:=aM b r;have j2:=aM b s;have g:=au b;clear A m l1 l2 b)|(go_at_call 31;refine(u.O _).mono ?_;rintro e w2 ⟨rfl,c⟩;have c:=c.symm;subst c));refine ax (ew rfl _ _ _) rfl ?_;exact⟨rfl,d.O.trans (g.O.mono d.O.size)⟩
 have u:=au (λW=>vM eJ cX W l.1 l.2);obtain⟨F,h⟩:=dH (decide (1<=eA)&&(decide (eA<=ek)&&decide (ek<=1000)));have n:F=true->aT<1\/10<aT:=by
  intro q;have h0:=G.O;rw[q]at h;have h1:=h.symm;simp only[cM,decide_eq_true_eq]at h1;by_cases H:aT<1\/10<aT
  ·exact H
  ·exfalso;have:M.jr t eJ cX eA ek aT=true:=by simp[M.jr];omega
   rw[this]at h0;cases h0
 have i:=λW=>Lh eA ek W;rw[<-h]at i;obtain⟨j,B⟩:=bu i n;clear i n h l hr;go_upto_region 7 with(first|(go_big_may;go_at_call 30;refine k.O.mono ?_;rintro e w1 ⟨qg,qp,rfl,A,m,l1,l2⟩;have b:=m.nothing;have j1:=aM b r;have j2:=aM b s;have j3:=aM b v;have j4:=aM b x;have j5:=aM b y;have g:=au b;clear A m l1 l2 b E r s v x y)|(go_big_may;go_at_call 31;refine(u.O _).mono ?_;rintro e w2 ⟨L,rfl,_,b2,_⟩;have i3:=aM b2 j3;have i4:=aM b2 j4;have i5:=aM b2 j5;have o:=au b2;clear b2 j1 j2 j3 j4 j5))
 have bw:=d.O.trans (g.O.mono d.O.size);have p:=bw.trans (o.O.mono bw.size);have a:=au p;clear bw p g o k u;cases F with
 |false =>
  go_wp2_with (go_at_call 32;refine(j.O _).mono ?_;rintro e w3 ⟨rfl,b3⟩;have f:=au b3;clear b3 i3 i4 i5);refine ax (ew rfl _ _ _) rfl ?_;exact⟨rfl,a.O.trans (f.O.mono a.O.size)⟩
 |true =>
  rcases B.O rfl with hm|hm
  ·go_wp2_with (go_at_call 32;refine(j.O _).mono ?_;rintro e w3 ⟨rfl,b3⟩;have h5:=aM b3 i5;have f:=au b3;clear b3 i3 i4 i5);refine ax (ew rfl _ _ _) rfl ?_;exact⟨rfl,a.O.trans (f.O.mono a.O.size)⟩
  ·have K:¬aT<1:=z;go_wp2_with (go_at_call 32;refine(j.O _).mono ?_;rintro e w3 ⟨rfl,b3⟩;have h5:=aM b3 i5;have f:=au b3;clear b3 i3 i4 i5);refine ax (ew rfl _ _ _) rfl ?_;exact⟨rfl,a.O.trans (f.O.mono a.O.size)⟩
section
def Sx(xs:M.cQ):Prop:=xs=[]\/(16:Int)∈xs
def KH(p:M.cR):Prop:=Sx p.fp/\Sx p.cF
structure Nl(R:M.Room):Prop where
 dm:∀x∈R.dm,Sx x
 aO:∀a∈R.aO,KH a.bW
 cj:R.cj=[]
 cK:∀s l,R.aD s=Z l->∀x∈l.cK,KH x.bW
 bF:∀s l,R.aD s=Z l->∀x∈l.bF,KH x.1.bW
 ready:∀s l,R.aD s=Z l->∀x∈l.ready,Sx x.2
 fF:∀s l,R.aD s=Z l->∀x∈l.fF,Sx x.2
def PW(cs:Array Value):Prop:=∀v∈cs.toList,v≠J bI 16
def mT(w:aw)(F:Nat->Prop):Prop:=∀i cs,F i->(aK w i 5 cs->PW cs)/\¬aK w i 41 cs
section
variable {w w':aw} {F:Nat->Prop}
def TL.jF{A:Option Addr}{n:Nat}{xs:List Int}(h:TL 5 bI w A n xs)(u:cS F w w')(hF:mT w F)(g:Sx xs):TL 5 bI w' A n xs:=by
 obtain⟨h1,h2,h3⟩:=h;refine⟨h1,h2,λh0=>?_⟩;obtain⟨b,off,cs,e,d,f⟩:=h3 h0;refine⟨b,off,cs,e,d.dW u (λq=>?_),f⟩;have k:=(hF b cs q).1 d;rcases g with rfl|j
 ·simp at h1;omega
 ·obtain⟨i,hi,a⟩:=List.getElem_of_mem j;have c:=f i z;rw[bE,ay hi,a]at c;rw[<-Array.getElem?_toList]at c;exact k _ (List.mem_of_getElem? c) rfl
def TL.Om{A:Option Addr}{n:Nat}{xs:List Int}(h:TL 41 ar w A n xs)(u:cS F w w')(hF:mT w F):TL 41 ar w' A n xs:=by
 obtain⟨h1,h2,h3⟩:=h;refine⟨h1,h2,λh0=>?_⟩;obtain⟨b,off,cs,e,a,c⟩:=h3 h0;exact⟨b,off,cs,e,a.dW u (λq=>(hF b cs q).2 a),c⟩
def Sl.At.jF{s:Sl}{xs:List Int}(h:s.B w xs)(u:cS F w w')(hF:mT w F)(a:Sx xs):s.B w' xs:=h.map λq=>q.jF u hF a
def iT.jF{p:M.cR}{s e y:Sl}(h:iT w p s e y)(u:cS F w w')(hF:mT w F)(a:KH p):iT w' p s e y:=
 ⟨h.s.map λq=>q.Om u hF,h.e.jF u hF a.1,h.y.jF u hF a.2,h.type,h.dQ,h.aU,h.bJ,h.bV,h.small⟩
def Fit.xZ{α:Type}{R S:α->List Value->Prop}:∀{xs:List α} {cs:List (List Value)},(∀x∈xs,∀c,R x c->S x c)->Fit R xs cs->Fit S xs cs
 |[],[],_,_=>trivial
 |x::xs,c::cs,k,h=>⟨k x dt c h.1,Fit.xZ (λy hy=>k y (by simp[hy])) h.2⟩
 |[],_::_,_,h=>h.elim
 |_::_,[],_,h=>h.elim
def uH.jF{x:M.Item}{c:List Value}(h:uH w x c)(u:cS F w w')(hF:mT w F)(a:KH x.bW):uH w' x c:=by
 obtain⟨s,e,y,h1,h2,h3⟩:=h;exact⟨s,e,y,h1,h2.jF u hF a,h3⟩
def pK.jF{x:M.Item×Bool}{c:List Value}(h:pK w x c)(u:cS F w w')(hF:mT w F)(a:KH x.1.bW):pK w' x c:=by
 obtain⟨s,e,y,h1,h2,h3⟩:=h;exact⟨s,e,y,h1,h2.jF u hF a,h3⟩
def mG.jF{x:Nat×M.cQ}{c:List Value}(h:mG w x c)(u:cS F w w')(hF:mT w F)(a:Sx x.2):mG w' x c:=by
 obtain⟨b,h1,h2,h3⟩:=h;exact⟨b,h1,h2.jF u hF a,h3⟩
def uJ.jF{x:M.kM}{c:List Value}(h:uJ w x c)(u:cS F w w')(hF:mT w F)(a:KH x.bW):uJ w' x c:=by
 obtain⟨s,e,y,h1,h2⟩:=h;exact⟨s,e,y,h1,h2.jF u hF a⟩
def Dd.jF{x:M.cQ}{c:List Value}(h:Dd w x c)(u:cS F w w')(hF:mT w F)(a:Sx x):Dd w' x c:=by
 obtain⟨b,h1,h2,h3⟩:=h;exact⟨b,h1,h2.jF u hF a,h3⟩
def ca.jF{B:LB}{aG N:Nat}{aT:Int}{l:M.dP}(h:ca w B aG aT l N)(u:cS F w w')(hF:mT w F)(a:∀i,B.own i->¬F i)
  (a1:∀x∈l.cK,KH x.bW) (a2:∀x∈l.bF,KH x.1.bW) (a3:∀x∈l.ready,Sx x.2) (a4:∀x∈l.fF,Sx x.2):ca w' B aG aT l N:=by
 obtain⟨d,r1,f1⟩:=h.cK;obtain⟨e,r2,f2⟩:=h.bF;obtain⟨f,g,f3⟩:=h.ready;obtain⟨j,r4,f4⟩:=h.fF;exact⟨h.cw.dW u (a _ (.inl rfl)),⟨d,r1.dW u (a _ (.inr (.inl (.inl rfl)))) (a _ (.inr (.inl (.inr rfl)))),f1.xZ λx b c q=>q.jF u hF (a1 x b)⟩,
  ⟨e,r2.dW u (a _ (.inr (.inr (.inl (.inl rfl))))) (a _ (.inr (.inr (.inl (.inr rfl))))),f2.xZ λx b c q=>q.jF u hF (a2 x b)⟩,
  ⟨f,g.dW u (a _ (.inr (.inr (.inr (.inl (.inl rfl)))))) (a _ (.inr (.inr (.inr (.inl (.inr rfl)))))),f3.xZ λx b c q=>q.jF u hF (a3 x b)⟩,
  ⟨j,du r4 u (λi hi=>a i (.inr (.inr (.inr (.inr hi))))),f4.xZ λx b c q=>q.jF u hF (a4 x b)⟩,h.ne,h.et,h.small⟩
def ly.jF{B:RB}{R:M.Room}{N:Nat}(u:cS F w w')(hF:mT w F)(e:Nl R):∀{X:xN},ly w B R N X->(∀i,B.own X i->¬F i)->ly w' B R N X
 | .aG,h,d=>aK.dW h u (d _ rfl)
 | .di,h,d=>eD.dW h u (d _ (.inl rfl)) (d _ (.inr rfl))
 | .ret,h,d=>gE.dW h u (d _ rfl)
 | .dm,h,d=>by obtain⟨q,h1,h2⟩:=h;exact⟨q,h1.dW u (d _ (.inl rfl)) (d _ (.inr rfl)),h2.xZ λx f c k=>k.jF u hF (e.dm x f)⟩
 | .table,h,d=>fA.dW h u d
 | .aD,h,d=>gA.dW h u (d _ rfl)
 | .az,h,d=>gA.dW h u (d _ rfl)
 | .fo s,h,d=>lX.mono h λa b h1 h2 k=>k.jF u hF (λi hi=>d i ⟨b,h2,hi⟩) (e.cK s a h1) (e.bF s a h1) (e.ready s a h1) (e.fF s a h1)
 | .fO o,h,d=>lX.mono h λa b h1 h2 k=>⟨k.cw.dW u (d _ ⟨b,h2,.inl rfl⟩),k.buf.dW u (λi hi=>d i ⟨b,h2,.inr hi⟩),k.uE,k.fH,k.gB⟩
 | .aO,h,d=>by obtain⟨q,h1,h2⟩:=h;exact⟨q,du h1 u d,h2.xZ λx f c k=>k.jF u hF (e.aO x f)⟩
 | .cj,h,d=>by
  obtain⟨q,h1,h2⟩:=h;refine⟨q,du h1 u d,?_⟩;rw[e.cj]at h2 ⊢;exact h2.xZ λx f c k=>absurd f dt
def aL.jF{B:RB}{R:M.Room}{N:Nat}(h:aL w B R N)(u:cS F w w')(hF:mT w F)(a:Nl R)(b:∀i,B.all i->¬F i):aL w' B R N:=
 ⟨λX=>(h.part X).jF u hF a λi hi=>b i ⟨X,hi⟩,h.vd,h.et⟩
end
end
def JY(p bk o c:Nat)(rm:Nat)(eJ cX eA ek aT:Int)(v0:Value)(w:aw)(hp:aK w p 180 #[v0])(L:bk≠p)
  (d:∀(j:Nat) x,[(rm:Int),eJ,cX,eA,ek,aT][j]? = Z x->w.cell? ⟨bk,o+j,I⟩=Z (J V x)) (E:M.jr rm eJ cX eA ek aT=true) :
  aF af 202 #[aq (Z ⟨p,0,I⟩),ae (Z ⟨bk,o,I⟩) 6 c] w λe w'=>∃B:RB,e=av (J V 0)/\aL w' B (.new ⟨rm,eJ,cX,eA,ek,aT⟩) 0/\(∀i,B.all i->w.heap.size<=i)/\aK w' p 180 #[aq (Z ⟨B.g,0,I⟩)]/\cS (One p) w w':=by
 have F:w.cell? ⟨bk,o,I⟩=Z (J V (rm:Int)):=d 0 _ rfl;have c1:=d 1 _ rfl;have c2:=d 2 _ rfl;have c3:=d 3 _ rfl;have c4:=d 4 _ rfl;have c5:=d 5 _ rfl;obtain⟨N,r,s,t,v,y,A,C⟩:=qh (tM rm eJ cX eA ek aT w.drew E) hp (λW (b:aC w W)=>aM b F) (λW (b:aC w W)=>aM b c1) (λW (b:aC w W)=>aM b c2) (λW (b:aC w W)=>aM b c3) (λW (b:aC w W)=>aM b c4) (λW (b:aC w W)=>aM b c5);clear hp E d F c1 c2 c3 c4 c5;go_enter func202,ntmps202;go_upto_region 1 with fail;go_cut [5,6] (λa b wc=>b=J V 0/\∃B:RB,a=aq (Z ⟨B.g,0,I⟩)/\aL wc B (.new ⟨rm,eJ,cX,eA,ek,aT⟩) 0/\(∀i,B.all i->w.heap.size<=i)/\aC w wc);case first =>
  refine wp_region_held_drew (S:=λW=>aC w W) cC (eW (ao _ _)) (λh=>?_);refine fS 0 (ae (Z ⟨bk,o,I⟩) 6 c) rfl h ?_;try simp only[aA,pqq]
  refine fS 1 (aq (Z ⟨bk,o,I⟩)) rfl h ?_;simp only[aA,pqq]
  refine fS 2 (J V (rm:Int)) rfl h ?_ (hy:=λW l=>by have q:=s.O W l;go_simp);simp only[aA,pqq]
  refine fS 3 (ae (Z ⟨bk,o,I⟩) 6 c) rfl h ?_;simp only[aA,pqq]
  refine fS 4 (aq (Z ⟨bk,o+1,I⟩)) rfl h ?_;simp only[aA,pqq]
  refine fS 5 (J V eJ) rfl h ?_ (hy:=λW l=>by have q:=t.O W l;go_simp);simp only[aA,pqq]
  refine fS 6 (ae (Z ⟨bk,o,I⟩) 6 c) rfl h ?_;simp only[aA,pqq]
  refine fS 7 (aq (Z ⟨bk,o+2,I⟩)) rfl h ?_;simp only[aA,pqq]
  refine fS 8 (J V cX) rfl h ?_ (hy:=λW l=>by have q:=v.O W l;go_simp);simp only[aA,pqq]
  refine fS 9 (ae (Z ⟨bk,o,I⟩) 6 c) rfl h ?_;simp only[aA,pqq]
  refine fS 10 (aq (Z ⟨bk,o+3,I⟩)) rfl h ?_;simp only[aA,pqq]
  refine fS 11 (J V eA) rfl h ?_ (hy:=λW l=>by have q:=y.O W l;go_simp);simp only[aA,pqq]
  refine fS 12 (ae (Z ⟨bk,o,I⟩) 6 c) rfl h ?_;simp only[aA,pqq]
  refine fS 13 (aq (Z ⟨bk,o+4,I⟩)) rfl h ?_;simp only[aA,pqq]
  refine fS 14 (J V ek) rfl h ?_ (hy:=λW l=>by have q:=A.O W l;go_simp);simp only[aA,pqq]
  refine fS 15 (cg #[J V eA,J V ek]) rfl h ?_;simp only[aA,pqq]
  refine fS 16 (ae (Z ⟨bk,o,I⟩) 6 c) rfl h ?_;simp only[aA,pqq]
  refine fS 17 (aq (Z ⟨bk,o+5,I⟩)) rfl h ?_;simp only[aA,pqq]
  refine fS 18 (J V aT) rfl h ?_ (hy:=λW l=>by have q:=C.O W l;go_simp);simp only[aA,pqq]
  refine fS 19 (cg #[J V (rm:Int),J V eJ,J V cX,J V eA,J V ek,J V aT]) rfl h ?_;simp only[aA,pqq]
  refine wpAnyH_ready (rs:=[20]) cC dt ?_;refine AllReadyH.cons rfl (λK G=>?_) AllReadyH.nil;rw[if_pos jP];go_simp;go_at_call 9;refine N.O.mono ?_;rintro e w2 ⟨⟨B,rfl,hR,k⟩,b2⟩;dsimp only;have h2:aC w w2:=h.trans (b2.mono h.size);refine G.out _ _ h2 (λP=>?_);clear P G K;try simp only[aA,pqq]
  refine fS 21 (aB #[aq (Z ⟨B.g,0,I⟩),J V 0]) rfl h2 ?_;simp only[aA,pqq]
  refine fS 22 (aq (Z ⟨B.g,0,I⟩)) rfl h2 ?_;simp only[aA,pqq]
  refine fS 23 (J V 0) rfl h2 ?_;simp only[aA,pqq]
  refine fS 24 (aq (Z ⟨B.g,0,I⟩)) rfl h2 ?_;simp only[aA,pqq]
  refine fS 25 (J V 0) rfl h2 ?_;simp only[aA,pqq]
  refine wpAnyH_done cC ?_ _;go_wp2_with fail;go_meet;exact⟨rfl,B,rfl,hR,k,h2⟩
 case rest =>
  obtain⟨rfl,B,rfl,hR,k,D⟩:=hcut;have n:=r.O.kept D;have Q:=n.cell 0;have f0:=n.frozen 0;simp at Q;have R:=r.O.lt;obtain⟨T,H,U,m⟩:=cA hR k D n;clear hR k D n r;go_wp2_with fail;go_ret;have f:Fr (One p) wc (wc.setCell ⟨p,0,I⟩ (aq (Z ⟨B.g,0,I⟩))):=(Fr.refl (One p) _).setCell m.O (.inl rfl) aR aR 0 _;exact⟨B,rfl,T.O.fr f (λi hi q=>by have:=H.O i hi;rw[show i=p from q]at this;omega),H.O,by simpa using m.O.bC 0 (aq (Z ⟨B.g,0,I⟩)),(cS.bn U.O).trans f.u⟩
section
structure nr(w:aw)(base:Nat)(v:Value)(n:Nat)(xs:List Value):Prop where
 own:w.ownsRow base 5 1 v n xs
 no:∀g cs,v.ownBlock=Z g->aK w g 5 cs->PW cs
def wy{xs b:List Value}{n:Nat}(c:∀v∈xs,v≠J bI 16)(hy:∀v∈b,v≠J bI 16):PW (xs.toArray++b.toArray++fM (J bI 0).cells n):=by
 intro v a;simp only[Array.toList_append,bt]at a;rcases a with(a|a)|a
 ·exact c v a
 ·exact hy v a
 ·have e:v=J bI 0:=by
   have:v∈(fM (J bI 0).cells n):=by simpa using a
   obtain⟨i,hi,rfl⟩:=Array.mem_iff_getElem.1 this;simp[fM,Value.cells,Nat.mod_one]
  rw[e];intro q;injection q with _ q;cases q
def nr.xs{w:aw}{base:Nat}{v:Value}{n:Nat}{xs:List Value}(h:nr w base v n xs):∀u∈xs,u≠J bI 16:=by
 rcases h.own.2 with⟨rfl,h0⟩ | ⟨g,cap,dx,rfl,b,hg,c,d,e,a⟩
 ·have:xs=[]:=by have:=h.own.1;exact cU.1 z
  rw[this];intro u hu;cases hu
 ·have f:aK w g 5 dx:=hg;have k:=h.no g dx rfl f;intro u hu;rw[<-a]at hu;exact k u (eZ hu)
section
variable (w:aw)
def xh(base:Nat)(t u ty:TypeId)(i:pO)(ht:af.underlying t=Z (.slice 5))(hu:af.underlying u=Z .string)(hi:af.info? 5=Z i)(A:i.zero=Z (J bI 0))
  (e:i.size=1) (l:i.bytes=1) (v:Value) (n:Nat) (xs:List Value) (c:nr w base v n xs) (s:ByteArray) (B:∀x∈iP s,x≠J bI 16) (N:n+s.size<=100000) (m:base<=w.heap.size) :
  ∃y w',(qe #[t,u] ty #[v,.string s]).run af w=.ok y w'/\nr w' base y (n+s.size) (xs++iP s)/\w.grownBy w' v.ownBlock:=by
 obtain⟨y,w',hr,h2,h3,h4⟩:=Lib.run_append_own_string (P:=af) w base t u ty 5 i ht hu hi A e l v n xs c.own s ui z m;refine⟨y,w',hr,⟨h2,?_⟩,h3⟩;have C:=c.xs;intro Q G f a;rcases c.own.2 with⟨rfl,h0⟩ | ⟨g,cap,dx,rfl,H,hg,K,L,D,E⟩
 ·by_cases hm:s.size=0
  ·have:=(h4.2 ⟨rfl,hm⟩);subst this;cases f
  ·have d:=run_append_nil_string (P:=af) w t u ty 5 i (J bI 0) ht hu hi A s z z (by rw[l];omega);rw[hr]at d;injection d with o r
   subst o;simp[eR]at f;subst f;have o:(s.data.map λb=>J bI b.toNat)=(iP s).toArray:=by
    apply Array.ext';simp[iP]
   rw[o]at r;have q:aK w' w.heap.size 5 ((iP s).toArray++fM (J bI 0).cells (tA w s.size 0 5-s.size)):=by rw[r];exact aK.newAt w.drew 5 _ _ rfl
   unfold aK at q a;rw[q]at a;simp only[bf,kG,and_true]at a;rw[<-a];have M:=wy (n:=tA w s.size 0 5-s.size) (xs:=[]) (λu hu=>by cases hu) B;simpa using M
 ·by_cases p:n+s.size<=cap
  ·have F:dx.size=cap:=by simpa using D
   have d:=Lib.run_append_room_string (P:=af) w t u ty 5 i ht hu hi e g n cap dx hg s p z;rw[hr]at d;injection d with o r
   subst o;simp[eR]at f;subst f;have q:aK w' g 5 (dx.toList.take n++iP s++dx.toList.drop (n+s.size)).toArray:=by rw[r];exact kQ w g dx _ 5 (0,0) hg
   unfold aK at q a;rw[q]at a;simp only[bf,kG,and_true]at a;rw[<-a];have k:=c.no g dx rfl hg;intro x h;simp only[bt]at h;rcases h with(h|h)|h
   ·exact k x (eZ h)
   ·exact B x h
   ·exact k x (ga h)
  ·have bD:∀j u,xs[j]? = Z u->w.cell? ((⟨g,0,I⟩:Addr).add j)=Z u:=c.own.cells (g:=g) rfl;have d:=Lib.run_append_grow_string (P:=af) w t u ty 5 i (J bI 0) ht hu hi A ⟨g,0,I⟩ n cap xs (by rw[e];simpa using c.own.1) bD s z z (by rw[l];exact rG z z);rw[hr]at d;injection d with o r
   subst o;simp[eR]at f;subst f;have q:aK w' w.heap.size 5 (xs.toArray++(iP s).toArray++fM (J bI 0).cells (tA w (n+s.size) cap 5-(n+s.size))):=by rw[r];exact aK.newAt w.drew 5 _ _ rfl
   unfold aK at q a;rw[q]at a;simp only[bf,kG,and_true]at a;rw[<-a];exact wy C B
def xi(base:Nat)(t ty:TypeId)(i:pO)(ht:af.underlying t=Z (.slice 5))(hi:af.info? 5=Z i)(D:i.zero=Z (J bI 0))
  (e:i.size=1) (p:i.bytes=1) (v:Value) (n:Nat) (xs:List Value) (d:nr w base v n xs) (a:Addr) (m c:Nat) (iX:List Value) (S:iX.length=m) (f:∀j u,iX[j]? = Z u->w.cell? (a.add j)=Z u)
  (h1:∀u∈iX,u.oneCell'=true) (E:∀x∈iX,x≠J bI 16) (hm:0<m) (T:n+m<=100000) (r:base<=w.heap.size) :
  ∃C w',(qe #[t,t] ty #[v,ae (Z a) m c]).run af w=.ok C w'/\nr w' base C (n+m) (xs++iX)/\w.grownBy w' v.ownBlock:=by
 have s:iX.length=m*i.size:=by rw[e];omega
 obtain⟨C,w',hr,h2,h3,h4⟩:=run_append_own (P:=af) w base t ty 5 i (J bI 0) 1 1 ht hi D e p rfl aR v n xs d.own a m c iX z f h1 ui z r;refine⟨C,w',hr,⟨h2,?_⟩,h3⟩;have F:=d.xs;intro U L l b;rcases d.own.2 with⟨rfl,h0⟩ | ⟨g,cap,dx,rfl,M,hg,N,Q,G,H⟩
 ·have h:=run_append_nil (P:=af) w t ty 5 i (J bI 0) ht hi D a m c iX s f hm z (by rw[p];omega);rw[hr]at h;injection h with A B
  subst A;simp[eR]at l;subst l;have q:aK w' w.heap.size 5 (iX.toArray++fM (J bI 0).cells (tA w m 0 5-m)):=by rw[B];exact aK.newAt w.drew 5 _ _ rfl
  unfold aK at q b;rw[q]at b;simp only[bf,kG,and_true]at b;rw[<-b];have R:=wy (n:=tA w m 0 5-m) (xs:=[]) (λu hu=>by cases hu) E;simpa using R
 ·by_cases y:n+m<=cap
  ·have K:dx.size=cap:=by simpa using G
   have h:=run_append_room (P:=af) w t ty 5 i ht hi g n cap dx hg a m c iX s f h1 y (by rw[e];omega);rw[hr]at h;injection h with A B
   subst A;simp[eR]at l;subst l;have q:aK w' g 5 (dx.toList.take (n*i.size)++iX++dx.toList.drop (n*i.size+iX.length)).toArray:=by rw[B];exact kQ w g dx _ 5 (0,0) hg
   unfold aK at q b;rw[q]at b;simp only[bf,kG,and_true]at b;rw[<-b];have k:=d.no g dx rfl hg;intro x o;simp only[bt]at o;rcases o with(o|o)|o
   ·exact k x (eZ o)
   ·exact E x o
   ·exact k x (ga o)
  ·have bD:∀j u,xs[j]? = Z u->w.cell? ((⟨g,0,I⟩:Addr).add j)=Z u:=d.own.cells (g:=g) rfl;have h:=run_append_grow (P:=af) w t ty 5 i (J bI 0) ht hi D ⟨g,0,I⟩ n cap xs (by rw[e];simpa using d.own.1) bD a m c iX s f z z (by rw[p];exact rG z z);rw[hr]at h;injection h with A B
   subst A;simp[eR]at l;subst l;have q:aK w' w.heap.size 5 (xs.toArray++iX.toArray++fM (J bI 0).cells (tA w (n+m) cap 5-(n+m))):=by rw[B];exact aK.newAt w.drew 5 _ _ rfl
   unfold aK at q b;rw[q]at b;simp only[bf,kG,and_true]at b;rw[<-b];exact wy F E
def vf{ops:Array mJ}{rest:List mJ}{o:mJ}{a:Act}{Q:Exit->Act->aw->Prop}(f:o.guard=I)(k x:Operand)(t u:TypeId)
  (l:o.op=.call { callee:=.builtin .append,args:=#[k,x],argTypes:=#[t,u] })
  (base:Nat) (i:pO) (ht:af.underlying t=Z (.slice 5)) (hu:af.underlying u=Z .string) (hi:af.info? 5=Z i) (m:i.zero=Z (J bI 0)) (b:i.size=1) (g:i.bytes=1)
  (v:Value) (n:Nat) (xs:List Value) (j:a.eval k=v) (d:nr w base v n xs) (s:ByteArray) (p:a.eval x=.string s) (q:∀x∈iP s,x≠J bI 16) (r:n+s.size<=100000) (c:base<=w.heap.size)
  (h:∀e w',nr w' base e (n+s.size) (xs++iP s)->w.grownBy w' v.ownBlock->oD af ops Q rest (a.put o.dst e) w'):oD af ops Q (o::rest) a w:=by
 refine oB f λK y=>?_;obtain⟨e,w',hr,h2,h3⟩:=xh w base t u o.type i ht hu hi m b g v n xs d s q r c;unfold Oper.wp execOp;simp only[l,resolve,invoke,builtin,Sem.run_bind,Sem.run_pure,Result.andThen_ok,tu,eV,jk,j,p,hr];exact y _ _ (h e w' h2 h3)
def vg{ops:Array mJ}{rest:List mJ}{o:mJ}{a:Act}{Q:Exit->Act->aw->Prop}(k:o.guard=I)(r x:Operand)(t:TypeId)
  (s:o.op=.call { callee:=.builtin .append,args:=#[r,x],argTypes:=#[t,t] })
  (base:Nat) (i:pO) (ht:af.underlying t=Z (.slice 5)) (hi:af.info? 5=Z i) (y:i.zero=Z (J bI 0)) (b:i.size=1) (l:i.bytes=1)
  (v:Value) (n:Nat) (xs:List Value) (p:a.eval r=v) (f:nr w base v n xs) (q:Addr) (m c:Nat) (iX:List Value) (A:a.eval x=ae (Z q) m c) (B:iX.length=m) (d:∀j u,iX[j]? = Z u->w.cell? (q.add j)=Z u)
  (h1:∀u∈iX,u.oneCell'=true) (C:∀x∈iX,x≠J bI 16) (hm:0<m) (D:n+m<=100000) (e:base<=w.heap.size)
  (h:∀g w',nr w' base g (n+m) (xs++iX)->w.grownBy w' v.ownBlock->oD af ops Q rest (a.put o.dst g) w'):oD af ops Q (o::rest) a w:=by
 refine oB k λK E=>?_;obtain⟨g,w',hr,h2,h3⟩:=xi w base t o.type i ht hi y b l v n xs f q m c iX B d h1 C hm D e;unfold Oper.wp execOp;simp only[s,resolve,invoke,builtin,Sem.run_bind,Sem.run_pure,Result.andThen_ok,tu,eV,jk,p,A,hr];exact E _ _ (h g w' h2 h3)
end
end
def nr.dW{F:Nat->Prop}{w w':aw}{base:Nat}{v:Value}{n:Nat}{xs:List Value}(h:nr w base v n xs)(u:cS F w w')(hF:∀i,v.ownBlock=Z i->¬F i):nr w' base v n xs:=
 ⟨du h.own u hF,λg cs hg b=>by
  have a:=(h.own.lt g hg).2
  have e:=u.block g a (hF g hg)
  refine h.no g cs hg ?_
  unfold aK at b ⊢
  rw[<-e];exact b⟩
def nr.ne{w:aw}{base:Nat}{v:Value}{n:Nat}{xs:List Value}(h:nr w base v n xs){b:Nat}{t:TypeId}{cs:Array Value}(a:aK w b t cs)(ht:t≠5):v.ownBlock≠Z b:=λe=>ej h.own a (jx ht) e.symm
def nr.PL{w:aw}{base:Nat}{v:Value}{n:Nat}{xs:List Value}(h:nr w base v n xs){g:Nat}(hg:v.ownBlock=Z g):∃cs,aK w g 5 cs:=by
 rcases h.own.2 with⟨rfl,_⟩ | ⟨b,cap,dx,rfl,_,a,_⟩
 ·cases hg
 ·simp[eR]at hg;subst hg;exact⟨dx,a⟩
def yA(w:aw)(base b:Nat)(t:List UInt8):Prop:=
 ∃(a:Option Addr) (v:Value),base<=b/\aK w b 178 #[aq a,v]/\(a=I\/a=Z ⟨b,0,I⟩)/\nr w base v t.length (gD t)
def QK(w:aw)(base b:Nat)(F:Nat->Prop):Prop:=mT w F/\∀i,F i->base<=i/\(i=b\/∃cs,aK w i 5 cs)
def Oh{w:aw}{base b:Nat}{d:Option Addr}{v:Value}{n:Nat}{xs:List Value}(e:base<=b)(c:aK w b 178 #[aq d,v])(a:nr w base v n xs):QK w base b (λi=>i=b\/v.ownBlock=Z i):=by
 refine⟨λi cs hi=>⟨λk=>?_,λk=>?_⟩,λi hi=>?_⟩
 ·rcases hi with rfl|hi
  ·exact absurd rfl (aK.jf k c aR)
  ·exact a.no i cs hi k
 ·rcases hi with rfl|hi
  ·exact absurd rfl (aK.jf k c aR)
  ·obtain⟨f,q⟩:=a.PL hi;exact absurd rfl (aK.jf k q aR)
 ·rcases hi with rfl|hi
  ·exact⟨e,.inl rfl⟩
  ·exact⟨(a.own.lt i hi).1,.inr (a.PL hi)⟩
def EC{w:aw}{b:Nat}{c:Option Addr}{v:Value}(a:aK w b 178 #[aq c,v])(d:c=I\/c=Z ⟨b,0,I⟩) :
  aF af 134 #[aq (Z ⟨b,0,I⟩)] w λe w'=>e=av (aB #[])/\aK w' b 178 #[aq (Z ⟨b,0,I⟩),v]/\cS (One b) w w':=by
 rcases d with rfl|rfl
 ·refine(GQ b v w a).mono ?_;rintro e w' ⟨rfl,rfl⟩;exact⟨rfl,by simpa using a.bC 0 (aq (Z ⟨b,0,I⟩)),(cS.refl (One b) _).setCell (p:=⟨b,0,I⟩) (.inl rfl) _⟩
 ·refine(Kc b w (by have f:=a.cell 0;simpa using f)).mono ?_;rintro e w' ⟨rfl,he⟩;rw[he];exact⟨rfl,a,cS.refl _ _⟩
def yT(w:aw)(base b:Nat)(a:List UInt8)(w':aw):Prop:=yA w' base b a/\∃F,QK w base b F/\cS F w w'
def IJ{w w1 w2:aw}{base b:Nat}{m:Option Addr}{v d:Value}{t s:List UInt8}{n:Nat}{xs:List Value}(h:base<=b)(hw:base<=w.heap.size)(k:aK w b 178 #[aq m,v])(l:nr w base v n xs)(f:aK w1 b 178 #[aq (Z ⟨b,0,I⟩),v])(u1:cS (One b) w w1)
  (a:nr w2 base d (t++s).length (gD (t++s))) (hg:w1.grownBy w2 v.ownBlock):yT w base b (t++s) (w2.setCell ⟨b,1,I⟩ d):=by
 have g:=l.ne k aR;have c:aK w2 b 178 #[aq (Z ⟨b,0,I⟩),v]:=f.grown hg (λe=>g e.symm);have u2:cS (λi=>i=b\/v.ownBlock=Z i) w w2:=(u1.mono λi _ q=>.inl q).grown hg (λj o=>.inl (.inr o));refine⟨⟨Z ⟨b,0,I⟩,d,h,by simpa using c.bC 1 d,.inr rfl,?_⟩,_,Oh h k l,u2.setCell (p:=⟨b,1,I⟩) (.inl (.inl rfl)) _⟩;exact a.dW (F:=One b) ((cS.refl (One b) _).setCell (p:=⟨b,1,I⟩) (.inl rfl) _) (λi hi q=>a.ne c aR (by rw[hi];exact congrArg Z q))
def uF(t s:List UInt8):gD (t++s)=gD t++gD s:=by unfold gD;rw[List.map_append]
def IP(base b:Nat)(t:List UInt8)(s:ByteArray)(w:aw)(h:yA w base b t)(B:∀x∈iP s,x≠J bI 16)(F:t.length+s.size<=100000)(hw:base<=w.heap.size) :
  aF af 77 #[aq (Z ⟨b,0,I⟩),.string s] w λe w'=>e=av (aB #[J V s.size,.nilIface])/\yT w base b (t++s.data.toList) w':=by
 obtain⟨i0,hi,d,f,g⟩:=cY Tryz.zL;obtain⟨P,v,G,n,C,o⟩:=h;have D:=EC n C;obtain⟨H,p,r,u,K,E,L,HS⟩:=qh hi d f g n o D B;have j:=o.ne n aR;have k:=au j;clear hi d f g n o D B C j;go_enter func77,ntmps77;go_upto_region 2 with(go_at_call 134;refine L.O.mono ?_;rintro e w1 ⟨rfl,b1,u1⟩;have c1:=b1.cell 1;have f1:=b1.frozen 1;simp at c1;have l:=au b1;have m:=au u1;have y:=au (E.O.dW u1 (λi hi q=>k.O (by rw[hi];exact congrArg Z q)));clear b1 u1)
 have M:=m.O.size;go_wp2_with (at_builtin;go_loud (refine vf _ rfl _ _ 38 9 rfl base i0 underlying38 underlying9 H.O p.O r.O u.O _ _ _ rfl y.O s rfl HS.O F z ?_));intro v2 w2 a g2;have c:aK w2 b 178 #[aq (Z ⟨b,0,I⟩),v]:=l.O.grown g2 (λe=>k.O e.symm);have c1:=c.cell 1;have f1:=c.frozen 1;simp at c1;obtain⟨A,N⟩:=bu a g2;obtain⟨Q,c2,rfl⟩:=bA a.own;clear a g2 c;go_wp2_with fail;refine ax (ew rfl _ _ _) rfl ?_;refine⟨rfl,IJ G hw K.O E.O l.O m.O ?_ N.O⟩;rw[uF];have e:(t++s.data.toList).length=t.length+s.size:=by rw[List.length_append];rfl
 rw[e];exact A.O
def Fl(base b:Nat)(t:List UInt8)(c:UInt8)(w:aw)(h:yA w base b t)(M:c≠16)(S:t.length+1<=100000)(hw:base<=w.heap.size) :
  aF af 79 #[aq (Z ⟨b,0,I⟩),J bI c.toNat] w λe w'=>e=av .nilIface/\yT w base b (t++[c]) w':=by
 obtain⟨i0,hi,l,m,n⟩:=cY Tryz.zL;obtain⟨ad,v,T,y,N,B⟩:=h;have P:=EC y N;have a:∀x∈[J bI c.toNat],x≠J bI 16:=by
  intro x Q;simp at Q;rw[Q];intro e;injection e with _ e
  exact M (UInt8.toNat_inj.1 (by simpa using Int.ofNat.inj e))
 obtain⟨U,C,D,E,W,R,X,HS⟩:=qh hi l m n y B P a;have o:=B.ne y aR;have p:=au o;obtain⟨A,G⟩:=dH (c.toNat:Int);rw[<-G]at HS ⊢;have Y:=au G;clear hi l m n y B P M N o a G;go_enter func79,ntmps79;go_upto_region 2 with(go_at_call 134;refine X.O.mono ?_;rintro e w1 ⟨rfl,b1,u1⟩;have c1:=b1.cell 1;have f1:=b1.frozen 1;simp at c1;have r:=au b1;have s:=au u1;have H:=au (R.O.dW u1 (λi hi q=>p.O (by rw[hi];exact congrArg Z q)));clear b1 u1)
 have Tf:=s.O.size;have d:=au (H.O.dW (F:=cr) ((cS.refl _ w1).alloc (.cells #[J bI A] 5)) (λ_ _ q=>q));have u:=au (fB w1 5 #[J bI A]);go_wp2_with (at_builtin;go_loud (refine vg _ rfl _ _ 38 rfl base i0 underlying38 U.O C.O D.O E.O _ _ _ rfl d.O ⟨w1.heap.size,0,I⟩ 1 1 [J bI A] rfl rfl u.O tk HS.O aR S dZ ?_));intro v2 w2 f g2;have g:w1.grownBy w2 v.ownBlock:=⟨g2.os,g2.tape,g2.output,by have:=g2.size;simp at this;omega,λk hk K=>by
  have:=g2.block k dZ K
  rw[this];exact Below.heap_alloc w1 _ k hk⟩
 have j:aK w2 b 178 #[aq (Z ⟨b,0,I⟩),v]:=r.O.grown g (λe=>p.O e.symm);have c1:=j.cell 1;have f1:=j.frozen 1;simp at c1;obtain⟨L,HG⟩:=bu f g;obtain⟨A2,c2,rfl⟩:=bA f.own;clear f g2 j g d u;go_wp2_with fail;go_ret;refine⟨rfl,IJ T hw W.O R.O r.O s.O ?_ HG.O⟩;rw[uF];have e:(t++[c]).length=t.length+1:=dt;rw[e];have e2:gD [c]=[J bI A]:=by rw[Y.O];rfl
 rw[e2];exact L.O
def Og(base b:Nat)(t:List UInt8)(w:aw)(h:yA w base b t)(hw:base<=w.heap.size) :
  aF af 80 #[aq (Z ⟨b,0,I⟩)] w λe w'=>e=av (.string ⟨t.toArray⟩)/\Below base w w':=by
 obtain⟨g,v,i,d,j,f⟩:=h;have k:(gD t).length=t.length:=by unfold gD;simp
 have a:w.ownsRow base 5 1 v (gD t).length (gD t):=by rw[k];exact f.own
 have c:Lib.BuilderAt 178 5 base b (aq g) (gD t) w:=⟨i,v,d,a,f.ne d aR⟩;have l:Lib.IsBuilder 178 5 base b (gD t) w:=by
  rcases j with rfl|rfl
  ·exact .inl c
  ·exact .inr c
 refine(Tryz.Builder_String_any_k base b t w (Lib.IsBuilderF.of l) hw).mono ?_;rintro e w' ⟨rfl,_,q,_⟩;exact⟨rfl,q⟩
end Go.Proofs.YtkfblammcilfhaaGreatDoor
