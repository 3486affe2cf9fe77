import Derived.Deep.CutBlock
import Derived.Test.YtkfblammcilfhaaGreatDoorP12
set_option linter.all false
set_option maxRecDepth 100000
set_option maxHeartbeats 100000000
open Go.ChangeShapes Go.WideShapes Go.ChangeAt Go.RowKit Go.Proofs.Tryz
open Go renaming World->aw,Calls->aF,bodyPost_ret->ax,results->aV,bodyPost_end->dq,results_none->bT,results_tmp2->ew,info_parts->cY,yieldsIf_load_mid->eS,wpAnyH_ready->cH,wpAnyH_done->gV
open List renaming getElem?_map->dE,mem_filter->eL,getElem?_eq_getElem->ay,getElem_mem->dy,take_add_one->ee,take_length->cT,map_append->fL,length_append->cG,length_take->ix,length_filter_le->eE,getElem_of_mem->ed,getElem_take->sx
open Go.Proofs.Tryz renaming prog->af
open Go.RowKit.Below renaming refl->ao
open Nat renaming le_refl->aj,zero_add->cO,le_trans->aP,le_succ->cZ
open Go.RowKit renaming intOf->bS
open Option renaming isSome_iff_exists->dw,none->I,some->Z
open Go.Instr renaming lookup->cD
open And renaming intro->dj
open Go.Value renaming int->J,slice->ae,bool->ai,pointer->aq,tuple->aB,agg->cg
open Go.Act renaming put->aA
open Go.AllReadyH renaming cons->bH,nil->cy
open Go.IntKind renaming i64->V,u32->ar,u16->aN,u8->bI
open Go.Ending renaming returned->av
namespace Go.Proofs.YtkfblammcilfhaaGreatDoor
section
theorem wm{w:aw}{base n c:Nat}{A:Option Addr}{l:List M.bN}(h:w.ownsRow base 91 2 (ae A n c) n (l.flatMap zw))(h0:0<n) :
  ∃r,A=Z ⟨r,0,I⟩/\n<=c/\l.length=n/\∀(k:Nat) (o:M.bN),l[k]? = Z o->w.cell? ⟨r,k*2,I⟩=Z (J V o.1)/\w.cell? ⟨r,k*2+1,I⟩=Z (J V o.2):=by
 have e:l.flatMap zw=(l.map zw).flatten:=List.flatMap_def ..;rw[e]at h;have b:∀c∈l.map zw,c.length=2:=by
  intro c f;obtain⟨o,_,rfl⟩:=List.mem_map.1 f;rfl
 have hlen:l.length=n:=by
  have g:=h.1;rw[wK b,List.length_map]at g;omega
 obtain⟨r,cap,a,h2,h3⟩:=jZ h b h0;injection a with a m i
 subst a i;refine⟨r,rfl,h2,hlen,λk o j=>?_⟩;have d:(l.map zw)[k]? = Z (zw o):=by rw[dE,j];rfl
 exact⟨(h3 k _ d 0 z).trans rfl,(h3 k _ d 1 z).trans rfl⟩
theorem rb(R:M.Room){o:M.bN}(h:o∈ei R 9):(0<=o.1/\o.1<3)/\(0<=o.2/\o.2<3)/\(R.az o).isSome=true:=by
 unfold ei at h;rw[eL]at h;have hm:=List.mem_of_mem_take h.1;refine⟨?_,?_,h.2⟩<;>(simp[M.eX]at hm;rcases hm with rfl|rfl|rfl|rfl|rfl|rfl|rfl|rfl|rfl<;>simp)
theorem qI{w w':aw}{base:Nat}{e:TypeId}{size n:Nat}{v:Value}{xs:List Value}(h:w.ownsRow base e size v n xs)(b:aC w w'):w'.ownsRow base e size v n xs:=
 du h (.bn (F:=cr) b) (λi _ q=>q.elim)
def Ni(R:M.Room)(o:M.bN):Bool:=match R.az o with | some s=>s.bQ.ready R.dA.eJ R.dA.cX R.cJ | none=>false
theorem wg(R:M.Room):R.ready=(ei R 9).find? (Ni R):=by
 unfold M.Room.ready ei;rw[List.take_of_length_le (aR:M.eX.length<=9)];show M.eX.find? (Ni R)=_;induction M.eX with
 |nil=>rfl
 |cons o l a =>
  rw[List.find?_cons,List.filter_cons];cases b:R.az o with
  |none =>
   have:Ni R o=false:=by unfold Ni;rw[b]
   simp[this,a]
  |some s =>
   simp only[Option.isSome_some,if_true,List.find?_cons];rw[a]
theorem J6{α:Type}(p:α->Bool)(l:List α)(k:Nat)(x:α)(h:∀y∈l.take k,p y=false)(a:l[k]? = Z x)(hp:p x=true):l.find? p=Z x:=by
 induction l generalizing k with
 |nil=>simp at a
 |cons y l b =>
  cases k with
  |zero=>simp at a;subst a;simp[hp]
  |succ k =>
   have h1:=h y dt;rw[List.find?_cons,h1];exact b k (λc d=>h c (by simp[d])) (by simpa using a)
section
variable {B:RB} {R:M.Room} {N:Nat} {w:aw} (h:aL w B R N)
include h
theorem zj(hN:N<1000000):aF af 110 #[aq (Z ⟨B.g,0,I⟩)] w λe w'=>e=av (aB #[pv (R.ready.getD (0,0)),ai R.ready.isSome])/\aC w w':=by
 obtain⟨res,f⟩:=dH R.ready;rw[<-f];rw[wg]at f;obtain⟨j,H,Tf,Tg⟩:=cA f h (re R 9) (λo ho=>rb R (o:=o) ho);have To:=h.et.cJ;clear f h;go_enter func110,ntmps110;go_upto_region 1 with fail;obtain⟨r2,e2⟩:=dH w.heap.size;rw[<-e2];refine aW (λX=>aK X r2 91 #[J V 0,J V 0]/\aC w X) ⟨aK.newAt _ _ _ _ e2,(ao _ w).alloc (aj _) _⟩ ?_;have g2:w.heap.size<=r2:=z;clear e2;rintro X ⟨b2,u⟩;have HO:=au (qw (H.O.below u));have hX:=u.size;obtain⟨a,HA⟩:=bu b2 u;clear b2 u;go_wp2_with (go_at_call 71;refine HO.O.mono ?_;rintro e w1 ⟨v,rfl,own,b1⟩;obtain⟨A,c,rfl⟩:=bA own;have E:=au own;have F:=au b1;clear own b1);go_loopw [9] (λi wr=>∃k:Nat,i=J V k/\k<=(ei R 9).length/\(∀o∈(ei R 9).take k,Ni R o=false)/\aK wr r2 91 #[J V 0,J V 0]/\wr.ownsRow X.heap.size 91 2 (ae A (ei R 9).length c) (ei R 9).length ((ei R 9).flatMap zw)/\aC w wr) (λi _=>(ei R 9).length-(bS i).toNat);case atStart=>exact⟨0,rfl,z,dt,a.O.kept F.O,E.O,HA.O.trans (F.O.mono hX)⟩
 case round =>
  clear E F a HA HO;obtain⟨k,rfl,hk,C,b2,own,r⟩:=hrel;have l:=au C;clear C;by_cases P:k<(ei R 9).length
  ·have Tp:((k:Int)<((ei R 9).length:Int)):=z;obtain⟨r7,rfl,Tq,hlen,m⟩:=wm own z;have Ts:=Tf.O;have n:(ei R 9)[k]? = Z (ei R 9)[k]:=ay P;obtain⟨k0,k1⟩:=m k _ n;have D:(ei R 9)[k]∈ei R 9:=dy P;obtain⟨Ti,Tj,G⟩:=Tg.O _ D;have q:=au n;generalize (ei R 9)[k]=o at k0 k1 Ti Tj G q;obtain⟨s,hs⟩:=dw.1 G;obtain⟨a,E,t⟩:=bU b2 own r;have Tk:=r.size;clear b2 own r m n D G;go_upto_region 4 with fail;obtain⟨r5,e5⟩:=dH wr.heap.size;rw[<-e5];have u:aC wr (wr.alloc (.cells #[J V o.1,J V o.2] 91)):=(ao _ wr).alloc (aj _) _;have n52:r5≠r2:=by have:=a.O.lt;omega
   refine aW (λY=>aK Y r5 91 #[J V o.1,J V o.2]/\aK Y r2 91 #[J V 0,J V 0]/\Y.ownsRow X.heap.size 91 2 (ae (Z ⟨r7,0,I⟩) (ei R 9).length c) (ei R 9).length ((ei R 9).flatMap zw)/\aC w Y) ⟨aK.newAt _ _ _ _ e5,a.O.kept u,qI E.O u,t.O.trans (u.mono t.O.size)⟩ ?_;clear a E t u e5 k0 k1;rintro Y ⟨b5,b2,own,r⟩;have hR:=H.O.below r;obtain⟨S,hS,K⟩:=(hR.below (eW (ao Y.drew.heap.size Y.drew))).iB hs;have Q:=hR.cw.cell 13;have c9:=hR.cw.cell 9;have y0:=b5.cell 0;have y1:=b5.cell 1;have q0:=K.cw.cell 0;simp at Q c9 y0 y1 q0;have Tl:(cD 55 (.map (Z B.sm)) (cg #[J V o.1,J V o.2]) false).run af Y.drew=.ok (aq (Z ⟨S.g,0,I⟩)) Y.drew:=by
    have x:=(hR.below (eW (ao Y.drew.heap.size Y.drew))).jU o (ir ⟨z,z⟩ ⟨z,z⟩);rw[hS]at x;exact x
   have L:=au (Bd S.b R.dA.eJ R.dA.cX R.cJ s.bQ Y.drew K.buf ⟨z,z⟩);have T:Ni R o=s.bQ.ready R.dA.eJ R.dA.cX R.cJ:=by unfold Ni;rw[hs]
   rw[<-T]at L;have Tk:=r.size;obtain⟨Tm,a,E,t⟩:=cA b5 b2 own r;clear hR K hS hs b5 b2 own r T;go_cut [26] (λv wc=>v=ai (Ni R o)/\aC Y wc);case first =>
    go_region_with (go_at_call 162;refine L.O.mono ?_;rintro e w9 ⟨rfl,b9⟩);all_goals
     go_wp2_with fail;go_meet;exact⟨rfl,eW b9⟩
   case rest =>
    obtain⟨rfl,U⟩:=hcut;clear Tl L Q c9 q0 y0 y1;have b5:=Tm.O.kept U;have b2:=a.O.kept U;cases hq:Ni R o with
    |false =>
     go_wp2_with fail;go_roundw;case rel =>
      refine⟨k+1,by go_num,z,?_,b2,qI E.O U,t.O.trans (U.mono t.O.size)⟩;intro y hy;rw[ee,q.O]at hy;rcases List.mem_append.1 hy with x|x
      ·exact l.O y x
      ·simp at x;subst x;exact hq
     case measure=>simp[bS];omega
    |true =>
     have y0:=b5.cell 0;have y1:=b5.cell 1;have j0:=b2.cell 0;have j1:=b2.cell 1;have f0:=b2.frozen 0;have f1:=b2.frozen 1;have M:=(b2.bC 0 (J V o.1)).bC 1 (J V o.2);have z0:=M.cell 0;have W:=M.cell 1;simp at y0 y1 j0 j1 z0 W;have d:res=Z o:=by
      rw[j.O];exact J6 _ _ k o l.O q.O hq
     clear j b5 b2 M;go_wp2_with fail;refine ax (v:=aB #[cg #[J V o.1,J V o.2],ai true]) (by simp[aV,results110,go_sem,z0,W]) rfl ⟨by first|rfl|(rw[d];rfl),?_⟩;exact((t.O.trans (U.mono t.O.size)).setCell (p:=⟨r2,0,I⟩) g2 _).setCell (p:=⟨r2,1,I⟩) g2 _
  ·have Tn:k=(ei R 9).length:=z;subst Tn;have d:res=I:=by
    rw[j.O,List.find?_eq_none];intro y hy;have x:=l.O y (by rw[cT];exact hy);simp[x]
   have j0:=b2.cell 0;have j1:=b2.cell 1;have f0:=b2.frozen 0;have f1:=b2.frozen 1;have M:=(b2.bC 0 (J V 0)).bC 1 (J V 0);have z0:=M.cell 0;have W:=M.cell 1;simp at j0 j1 z0 W;have t:=au r;clear j b2 own r M;go_wp2_with fail;refine ax (v:=aB #[cg #[J V 0,J V 0],ai false]) (by simp[aV,results110,go_sem,z0,W]) rfl ⟨by first|rfl|(rw[d];rfl),?_⟩;exact(t.O.setCell (p:=⟨r2,0,I⟩) g2 _).setCell (p:=⟨r2,1,I⟩) g2 _
end
end
def ca.uB{w w':aw}{B:LB}{aG N:Nat}{aT:Int}{l:M.dP}{xs:List (M.Item×Bool)}(h:ca w B aG aT l N)(f:Fr (jK B.g2 B.p2) w w')(hi:pw w' B.g2 B.p2 aG xs):ca w' B aG aT { l with bF:=xs } N:=by
 obtain⟨d,r1,f1⟩:=h.cK;obtain⟨m,r2,f2⟩:=h.bF;obtain⟨g,b,f3⟩:=h.ready;obtain⟨j,r4,f4⟩:=h.fF;obtain⟨_,_,b1,b2⟩:=r1.cw;obtain⟨_,_,a1,a2⟩:=r2.cw;obtain⟨_,_,c1,c2⟩:=b.cw;have a:=h.cw;refine⟨a.dW f.u ?_,⟨d,r1.dW f.u ?_ ?_,f1.mono λx c k=>k.rows f.r⟩,hi,⟨g,b.dW f.u ?_ ?_,f3.mono λx c k=>k.rows f.r⟩,⟨j,du r4 f.u ?_,f4.mono λx c k=>k.rows f.r⟩,h.ne,⟨h.et.src,h.et.dQ,h.et.aU,h.et.row,h.et.less,h.et.aT⟩,h.small⟩
 ·rintro(e|e)
  ·exact aK.jf a a1 aR e
  ·exact aK.jf a a2 aR e
 ·rintro(e|e)
  ·exact aK.jf b1 a1 aR e
  ·exact aK.jf b1 a2 aR e
 ·rintro(e|e)
  ·exact aK.jf b2 a1 aR e
  ·exact aK.jf b2 a2 aR e
 ·rintro(e|e)
  ·exact aK.jf c1 a1 aR e
  ·exact aK.jf c1 a2 aR e
 ·rintro(e|e)
  ·exact aK.jf c2 a1 aR e
  ·exact aK.jf c2 a2 aR e
 ·rintro i hi (e|e)
  ·exact Out.DX h a1 aR (by rw[hi,e])
  ·exact Out.DX h a2 aR (by rw[hi,e])
def ca.ky(B:LB):∀i,jK B.g2 B.p2 i->B.own i:=λi hi=>.inr (.inr (.inl hi))
abbrev wC(l:M.dP)(x:M.Item)(r:List M.Item)(a b:Int)(c:Bool):M.dP:={ l with cK:=r,dx:=a,bF:=if b=0 then l.bF++[(x,c)] else l.bF }
def Eg(B:LB)(aG:Nat)(aT:Int)(l:M.dP)(N:Nat)(w:aw)(h:ca w B aG aT l N)(x:M.Item)(r:List M.Item)(hc:l.cK=x::r)(hp:l.bF.length≠aG) :
  aF af 128 #[aq (Z ⟨B.g,0,I⟩)] w λrr w'=>rr=av (aB #[J V l.gJ.2.1,J V l.gJ.2.2,ai true])/\ca w' B aG aT l.gJ.1 N/\Fr B.own w w':=by
 have Tk:l.nO aG=true:=by unfold M.dP.nO;simp[hc,hp]
 have C:=Bp B aG aT l N w h;rw[Tk]at C;obtain⟨o,E,fi,hT⟩:∃o E fi,M.take l.dx l.fh x.aY x.key=(o,E,fi):=⟨_,_,_,rfl⟩;have Tl:l.gJ=(wC l x r o E fi,x.id,E):=by unfold M.dP.gJ wC;rw[hc];simp only[hT]
 rw[Tl];have G:=λW=>MS l.dx l.fh x.aY x.key W;rw[hT]at G;simp only at G;have TA:=h.lt;have H:=au h;have L:=au C;have Tm:=au G;have HC:=au hc;have Tw:=au hp;clear h C G hT Tl Tk hc hp;go_enter func128,ntmps128;go_upto_region 4 with(go_big_may;first
  |(refine L.O.mono ?_;rintro e w1 ⟨rfl,b1⟩;have L1:=H.O.below b1;have c1:=L1.cw.cell 1;simp at c1;have Tn:sj w1 B.g1 B.p1 aG (x::r):=(by have TC:=L1.items;rw[HC.O]at TC;exact TC);have To:=au Tn;have Tp:=au L1;have Tq:=au b1;clear L1 b1 Tn)
  |(refine(JP To.O).mono ?_;rintro e w2 ⟨s,ex,y,rfl,p,hi,hl,hI,f⟩;have L2:=Tp.O.ub f hI;have F2:Fr B.own w w2:=(Fr.bn Tq.O).step f (λi q=>.inl (ca.rO B i q));have Ts:=au L2;have T:=au F2;have Tt:=au p;have Tx:=au (dj hi hl);clear L2 F2 p hI f hi hl))
 obtain⟨r5,h5⟩:=dH w2.heap.size;rw[<-h5];refine aW (λX=>aK X r5 227 (Mt x.id x.aY x.key x.bW s ex y)/\ca X B aG aT { l with cK:=r } N/\iT X x.bW s ex y/\Fr B.own w X) ⟨aK.newAt _ _ _ _ h5,Ts.O.below ((ao _ _).alloc (aj _) _),Tt.O.below ((ao _ _).alloc (aj _) _),T.O.alloc _⟩ ?_;have TE:w.heap.size<=r5:=by have:=T.O.size;omega
 clear h5 Ts Tt T To Tp Tq c1;rintro X ⟨b5,k,p,hF⟩;have A:=b5.cell 1;have K:=b5.cell 2;have c5:=k.cw.cell 5;have P:=k.cw.cell 6;simp at A K c5 P;have l5:=b5.lt;have lB:=k.cw.lt;obtain⟨j,d,Q,D⟩:=cA b5 k p hF;clear b5 k p hF H L;go_cut [7,8,9] (λa b c wc=>∃r7:Nat,a=aq (Z ⟨r7,0,I⟩)/\b=J V E/\c=ai fi/\aK wc r7 68 #[J V o,J V l.fh]/\aK wc r5 227 (Mt x.id x.aY x.key x.bW s ex y)/\ca wc B aG aT { l with cK:=r } N/\iT wc x.bW s ex y/\Fr B.own w wc);case first =>
  have n1:X.heap.size≠B.g:=z;have U:X.heap.size≠r5:=z;go_region_held3 (λW=>W.cell? ⟨B.g,5,I⟩=Z (J V l.dx)/\W.cell? ⟨B.g,6,I⟩=Z (J V l.fh)/\W.cell? ⟨r5,1,I⟩=Z (J V x.aY)/\W.cell? ⟨r5,2,I⟩=Z (ai x.key)) (first|(with_reducible exact⟨cE c5,cE P,cE A,cE K⟩)|(with_reducible exact⟨cE (ea c5),cE (ea P),cE (ea A),cE (ea K)⟩)|(with_reducible exact⟨e5,e6,e1,e2⟩)|(with_reducible exact⟨ea e5,ea e6,ea e1,ea e2⟩)|(with_reducible exact⟨sf n1 (sf n1 e5),sf n1 (sf n1 e6),sf U (sf U e1),sf U (sf U e2)⟩)) (first|(go_at_call 189;refine(Tm.O _).mono ?_;rintro e w9 ⟨rfl,b9⟩;have S:aC X w9:=(by first|(with_reducible exact eW b9)|(with_reducible exact ML b9)|(with_reducible exact TD b9));have e5:=aM S c5;have e6:=aM S P;have e1:=aM S A;have e2:=aM S K;have TF:=S.size;have m:=au S;first|(have z7:aK w9 X.heap.size 68 #[J V 0,J V 0]:=(by first|(with_reducible exact MK b9)|(with_reducible exact OO b9));have q0:=z7.cell 0;have q1:=z7.cell 1;have p0:=z7.frozen 0;have p1:=z7.frozen 1;simp at q0 q1;have Tu:=au z7;clear z7 S b9)|(clear S b9)));all_goals
   go_wp2_with fail;go_meet;first
    | (refine⟨w9.heap.size,rfl,rfl,rfl,?_,?_,?_,?_,?_⟩
       ·with_reducible exact aK.new _ _ _
       ·exact(j.O.kept m.O).alloc _
       ·exact(d.O.below m.O).below ((ao _ _).alloc (aj _) _)
       ·exact(Q.O.below m.O).below ((ao _ _).alloc (aj _) _)
       ·exact(D.O.then m.O).alloc _)
    | (have S7:=Fr.im (F:=One X.heap.size) aR aR [J V o,J V l.fh] 0 Tu.O (.inl rfl) (Fr.refl (One X.heap.size) w9)
       simp only[im,Nat.reduceAdd,cO]at S7
       have TG:=(Tu.O.bC 0 (J V o)).bC 1 (J V l.fh)
       refine⟨X.heap.size,rfl,rfl,rfl,?_,?_,?_,?_,?_⟩
       ·simpa using TG
       ·exact(j.O.kept m.O).dW S7.u (λq=>U (show r5=X.heap.size from q).symm)
       ·exact(d.O.below m.O).fr S7 (λi hi q=>by have:=d.O.lt i hi;rw[show i=X.heap.size from q]at this;omega)
       ·exact(Q.O.below m.O).rows S7.r
       ·exact(D.O.then m.O).step S7 (λi q=>.inr (by have:=D.O.size;rw[show i=X.heap.size from q];exact this)))
 case rest =>
  obtain⟨r7,rfl,rfl,rfl,b7,b5,k,p,hF⟩:=hcut;clear c5 P A K j d Q D Tm l5 lB X;have Ty:=aK.jf b7 k.cw aR;have k0:=b7.cell 0;have A:=b7.cell 1;have c5:=k.cw.cell 5;have P:=k.cw.cell 6;have f5:=k.cw.frozen 5;have f6:=k.cw.frozen 6;simp at k0 A c5 P;obtain⟨j,d,Q,D⟩:=cA b5 k p hF;clear b5 k p hF b7;go_upto_region 6 with fail;have R:=(d.O.cw.bC 5 (J V o)).bC 6 (J V l.fh);have F:Fr (One B.g) wc ((wc.setCell ⟨B.g,5,I⟩ (J V o)).setCell ⟨B.g,6,I⟩ (J V l.fh)):=((Fr.refl (One B.g) wc).setCell d.O.cw (.inl rfl) aR aR 5 _).setCell (d.O.cw.bC 5 _) (.inl rfl) aR aR 6 _;have n5:=aK.jf j.O d.O.cw aR;have L':ca ((wc.setCell ⟨B.g,5,I⟩ (J V o)).setCell ⟨B.g,6,I⟩ (J V l.fh)) B aG aT { l with cK:=r,dx:=o } N:=
   d.O.cells F (by simpa using R) rfl rfl rfl rfl ⟨d.O.et.src,d.O.et.dQ,d.O.et.aU,d.O.et.row,d.O.et.less,d.O.et.aT⟩
  refine aW (λY=>aK Y r5 227 (Mt x.id x.aY x.key x.bW s ex y)/\ca Y B aG aT { l with cK:=r,dx:=o } N/\iT Y x.bW s ex y/\Fr B.own w Y) ⟨j.O.dW F.u n5,L',Q.O.rows F.r,D.O.step F (λi q=>.inl (.inl q))⟩ ?_;clear R F L' n5 j d Q D k0 A c5 P f5 f6 Ty wc;rintro Y ⟨b5,k,p,hF⟩;have k0:=b5.cell 0;have A:=b5.cell 1;have K:=b5.cell 2;have k3:=b5.cell 3;have k4:=b5.cell 4;have k5:=b5.cell 5;have k6:=b5.cell 6;have k7:=b5.cell 7;have k8:=b5.cell 8;have k9:=b5.cell 9;have Tf:=b5.cell 10;have Tg:=b5.cell 11;have Ti:=b5.cell 12;have c2:=k.cw.cell 2;simp at k0 A K k3 k4 k5 k6 k7 k8 k9 Tf Tg Ti c2;obtain⟨j,d,Q,D⟩:=cA b5 k p hF;clear b5 k p hF;by_cases Tj:E=0
  ·subst Tj;obtain⟨n1,U⟩:=Tx.O;go_wp2_with fail;have Tz:=au (λW (hW:pw W B.g2 B.p2 aG l.bF) (p:iT W x.bW s ex y)=>CX hW x.id x.aY x.key x.bW s ex y fi p n1 U Tw.O);have t:Hd (¬jK B.g2 B.p2 r5):=au ((d.O.MJ j.O).2.1 aR aR);have NG:Hd (¬jK B.g2 B.p2 B.g):=au ((d.O.MJ d.O.cw).2.1 aR aR);go_region_held3 (λW=>W.cell? ⟨B.g,2,I⟩=Z (aq (Z ⟨B.g2,0,I⟩))/\W.cell? ⟨r5,0,I⟩=Z (J V x.id)/\W.cell? ⟨r5,1,I⟩=Z (J V x.aY)/\W.cell? ⟨r5,2,I⟩=Z (ai x.key)/\W.cell? ⟨r5,3,I⟩=Z (ai x.bW.dR)/\W.cell? ⟨r5,4,I⟩=Z (J bI x.bW.type)/\W.cell? ⟨r5,5,I⟩=Z (J aN x.bW.dQ)/\W.cell? ⟨r5,6,I⟩=Z (J ar x.bW.aU)/\W.cell? ⟨r5,7,I⟩=Z (J ar x.bW.bJ)/\W.cell? ⟨r5,8,I⟩=Z (ae s.a s.n s.c)/\W.cell? ⟨r5,9,I⟩=Z (ai x.bW.has)/\W.cell? ⟨r5,10,I⟩=Z (J aN x.bW.bV)/\W.cell? ⟨r5,11,I⟩=Z (ae ex.a ex.n ex.c)/\W.cell? ⟨r5,12,I⟩=Z (ae y.a y.n y.c)) (first|(with_reducible exact⟨cE c2,cE k0,cE A,cE K,cE k3,cE k4,cE k5,cE k6,cE k7,cE k8,cE k9,cE Tf,cE Tg,cE Ti⟩)|(with_reducible exact⟨hc,h0,h1,h2,h3,h4,h5,h6,h7,h8,h9,xx,yk,KG⟩)) (first|(go_at_call 190;refine Calls.mono (Tz.O _ ?_ ?_) ?_;(exact(d.O.below (eW (ao _ _))).bF);(exact Q.O.below (eW (ao _ _)));rintro e w9 ⟨v,bb,rfl,hI,f⟩;have f1:=Eu f;have hc:=dD f1 NG.O c2;have h0:=dD f1 t.O k0;have h1:=dD f1 t.O A;have h2:=dD f1 t.O K;have h3:=dD f1 t.O k3;have h4:=dD f1 t.O k4;have h5:=dD f1 t.O k5;have h6:=dD f1 t.O k6;have h7:=dD f1 t.O k7;have h8:=dD f1 t.O k8;have h9:=dD f1 t.O k9;have xx:=dD f1 t.O Tf;have yk:=dD f1 t.O Tg;have KG:=dD f1 t.O Ti;have Tv:=au f1;have HI:=au hI;clear f f1 hI));all_goals
    go_wp2_with fail;refine ax (v:=aB #[J V x.id,J V 0,ai true]) (by simp[aV,results128,go_sem]) rfl ⟨rfl,?_,D.O.step Tv.O (λi q=>.inl (ca.ky B i q))⟩;exact d.O.uB Tv.O HI.O
  ·have TH:(E==0)=false:=by simpa using Tj
   go_wp2_with fail;refine ax (v:=aB #[J V x.id,J V E,ai true]) (by simp[aV,results128,go_sem]) rfl ⟨rfl,?_,D.O⟩;have e:wC l x r o E fi={ l with cK:=r,dx:=o }:=by unfold wC;rw[if_neg Tj]
   rw[e];exact d.O
section
theorem sV(R:M.Room)(s:Int)(id:Nat)(f:Int):R.bR s id f={ R with di:=wS R.di s id f }:=by
 unfold M.Room.bR wS;split<;>rfl
theorem I0(c t l:Int)(k:Bool):(M.take c t l k).2.1=0\/(M.take c t l k).2.1=4\/(M.take c t l k).2.1=5:=by
 unfold M.take;split
 ·exact .inl rfl
 ·split
  ·exact .inl rfl
  ·split
   ·exact .inr (.inr rfl)
   ·exact .inr (.inl rfl)
theorem ca.EF{w:aw}{B:LB}{aG N:Nat}{aT:Int}{l:M.dP}(h:ca w B aG aT l N){x:M.Item}{r:List M.Item}(a:l.cK=x::r):x.id<=1000000:=by
 obtain⟨q,hR,hF⟩:=h.cK;rw[a]at hF;obtain⟨c,d,rfl,b,_⟩:=hF.cons_inv;obtain⟨_,_,_,_,_,hi,_⟩:=b;exact hi
section
variable {B:RB} {R:M.Room} {N:Nat} {w:aw} (h:aL w B R N)
include h
theorem mz(s:Int)(id:Nat)(f:Int)(c:-1000000000000<=s/\s<=1000000000000)(hi:id<=1000000)(d:1<=f/\f<=8)(g:N<1000000) :
  aF af 114 #[Qv B.bg,J V s,J V id,J V f] w λe w'=>e=av (aB #[])/\aL w' B (R.bR s id f) N/\fK w w' B B:=by
 have a:eD w B.bg B.bm R.di N:=h.part .di;refine(FL B.bg B.bm N R.di s id f w a c hi d g).mono ?_;rintro e w' ⟨rfl,j,u⟩;have b:=h.ve (Fr.jT u (λi hi=>a.ni i (.inr hi))) j;rw[sV];exact⟨rfl,b.1,b.2⟩
theorem Dy(st s:Int)(a:Bool)(l:M.dP)(x:M.Item)(r:List M.Item)(P:R.aD s=Z l)(y:l.cK=x::r)(hp:l.bF.length≠R.dA.aG)(hs:0<=s/\s<6)(hN:N<1000000) :
  aF af 68 #[aq (Z ⟨B.g,0,I⟩),cg #[J V st,J V s],ai a] w λe w'=>∃B',e=av (aB #[])/\aL w' B' (R.gq s) N/\fK w w' B B':=by
 obtain⟨res,d⟩:=dH (R.gq s);rw[<-d];have A:R.gq s=if l.gJ.2.2≠0 then M.Room.bR { R with aD:=M.set R.aD s (Z l.gJ.1) } s l.gJ.2.1 l.gJ.2.2 else { R with aD:=M.set R.aD s (Z l.gJ.1) }:=by
  unfold M.Room.gq;rw[P]
 have hid:l.gJ.2.1=x.id:=by unfold M.dP.gJ;rw[y]
 have Y:l.gJ.2.2=0\/l.gJ.2.2=4\/l.gJ.2.2=5:=by
  unfold M.dP.gJ;rw[y];exact I0 _ _ _ _
 obtain⟨L,Q,C⟩:=h.jq P;have Tf:=C.EF y;have k:=au (λW hW=>Eg L R.dA.aG R.dA.aT l N W hW x r y hp);rw[hid]at A k;generalize l.gJ.2.2=S at A k Y;generalize l.gJ.1=l1 at A k;obtain⟨n,m,H0⟩:=bU (d.trans A) (dj P Q) h;have Tg:(Lit.int V s).wf=true:=Ig z z;have D:=h.lt;clear h C hid d A y hp P;go_enter func68,ntmps68;go_upto_region 1 with fail;obtain⟨r4,e4⟩:=dH w.heap.size;rw[<-e4];have t:aC w (w.alloc (.cells #[J V st,J V s] 40)):=(ao _ w).alloc (aj _) _;have o:∀i,B.all i->i≠r4:=λi hi=>by have:=D i hi;omega
 refine aW (λX=>aK X r4 40 #[J V st,J V s]/\aL X B R N/\aC w X) ⟨aK.newAt _ _ _ _ e4,H0.O.below t,t⟩ ?_;have Ti:=au o;clear e4 t H0 D o;rintro X ⟨b4,h,t⟩;have T:=h.below (eW (ao X.drew.heap.size X.drew));have Tj:(cD 54 (.map (Z B.lm)) (J V s) false).run af X.drew=.ok (aq (Z ⟨L.g,0,I⟩)) X.drew:=by
  have E:=T.kW s Tg;rw[Q]at E;exact E
 have F:=h.cw.cell 12;have k1:=b4.cell 1;simp at F k1;obtain⟨L',e',C⟩:=T.jq m.O.1;rw[Q]at e';cases e';obtain⟨Tk,HD,Tl,HA⟩:=cA C T b4 t;clear h t b4 C T Q;go_cut [6,7,8] (λa b c wc=>a=J V x.id/\b=J V S/\c=ai true/\∃B',aL wc B' { R with aD:=M.set R.aD s (Z l1) } N/\fK w wc B B'/\B'.bg=B.bg/\aK wc r4 40 #[J V st,J V s]);case first =>
  go_region_with (go_at_call 128;refine(k.O _ Tk.O).mono ?_;rintro e w9 ⟨rfl,Tm,f⟩);all_goals
   go_wp2_with fail;go_meet;have E:=HD.O.qJ m.O.1 m.O.2 f Tm rfl (λi q=>.inl q);exact⟨rfl,rfl,rfl,_,E.1,(⟨rfl,.bn (HA.O.trans (eW (ao X.drew.heap.size X.drew) |>.mono HA.O.size)),λi q=>.inl q⟩:fK w X.drew B B).trans E.2,rfl,Tl.O.drew.dW f.u (λq=>Ti.O r4 ⟨.fo s,L,m.O.2,q⟩ rfl)⟩
 case rest =>
  obtain⟨rfl,rfl,rfl,B',hR,hS,G,b4⟩:=hcut;have hb:=hR.cw;rw[hS.g]at hb;have c0:=hb.cell 0;have k1:=b4.cell 1;simp at c0 k1;rw[G]at c0;obtain⟨HR,HS⟩:=bu hR hS;clear hR hS b4 hb Tj F;by_cases U:S=0
  ·have d:=n.O;rw[if_neg (by simp[U])]at d;have j:=au d;clear d;subst U;go_wp2_with fail;first
    |refine dq (bT results68 _ _ _) rfl ?_
    |refine ax (v:=aB #[]) (by simp[aV,results68,go_sem]) rfl ?_
   first|exact⟨B',rfl,by rw[j.O];exact HR.O,HS.O⟩|exact⟨rfl,B',by rw[j.O];exact HR.O,HS.O⟩
  ·have d:=n.O;rw[if_pos U]at d;have j:=au d;have o:(S !=0)=true:=by simpa using U
   have p:=λW hW=>mz (w:=W) (B:=B') (R:={ R with aD:=M.set R.aD s (Z l1) }) (N:=N) hW s x.id S ⟨z,z⟩ Tf z hN;rw[G]at p;have Tn:=au p;clear d p;go_wp2_with fail;go_region_with (go_at_call 114;refine(Tn.O _ (HR.O.below (eW (ao _ _)))).mono ?_;rintro e w9 ⟨rfl,H,K⟩);all_goals
    go_wp2_with fail;first
     |refine dq (bT results68 _ _ _) rfl ?_
     |refine ax (v:=aB #[]) (by simp[aV,results68,go_sem]) rfl ?_
    first|exact⟨B',rfl,by rw[j.O];exact H,(HS.O.trans (⟨rfl,.bn (eW (ao _ _)),λi q=>.inl q⟩:fK _ _ B' B')).trans K⟩|exact⟨rfl,B',by rw[j.O];exact H,(HS.O.trans (⟨rfl,.bn (eW (ao _ _)),λi q=>.inl q⟩:fK _ _ B' B')).trans K⟩
end
end
abbrev Ms:Value:=cg (qY 0 false 0 0 0 0 0 0 .nil 0 0 0 (ae I 0 0) .nil 0 0 .nil).toArray
def N2:(af.info? 288).map (λi=>(i.zero,i.size,i.bytes))=Z (Z Ms,17,160):=cC
def My:(af.info? 29).map (λi=>(i.zero,i.size,i.bytes))=Z (Z (J V 0),1,8):=cC
def pn{w w':aw}{base a:Nat}{e f:TypeId}{size b n j:Nat}{v i:Value}{xs c:List Value}(h:w.ownsRow base e size v n xs)(k:w.ownsRow a f b i j c)(d:e≠f)(g:w.grownBy w' i.ownBlock):w'.ownsRow base e size v n xs:=
 Cy h (eT g) (ib k) (by simpa using d)
def eH{w:aw}{base:Nat}{e:TypeId}{size n:Nat}{v:Value}{xs:List Value}(h:w.ownsRow base e size v n xs)(o:Obj):(w.alloc o).ownsRow base e size v n xs:=du (F:=cr) h (.bn ((ao _ _).alloc (aj _) o)) (λ_ _ q=>q.elim)
def gI{w w':aw}{base:Nat}{e:TypeId}{size n:Nat}{v:Value}{xs:List Value}(h:w.ownsRow base e size v n xs)(b:aC w w'):w'.ownsRow base e size v n xs:=du (F:=cr) h (.bn b) (λ_ _ q=>q.elim)
def mQ{w w':aw}{base:Nat}{e:TypeId}{size n:Nat}{v:Value}{xs:List Value}(k:w.ownsRow base e size v n xs)(g:w.grownBy w' v.ownBlock){t:TypeId}(ht:t≠e):∀b cs,aK w b t cs->aK w' b t cs:=λb cs h=>h.typed (eT g) (ib k) (by simpa using ht)
def tf{w0 w w':aw}{base:Nat}{e:TypeId}{size n:Nat}{v:Value}{xs:List Value}(b:aC w0 w)(k:w.ownsRow base e size v n xs)(a:w0.heap.size<=base)(g:w.grownBy w' v.ownBlock):aC w0 w':=
 b.trans ((eT g).below b.size (λi hi=>aP a (k.lt i hi).1))
def uO{w:aw}{base:Nat}{e:TypeId}{size n m c:Nat}{A:Option Addr}{xs:List Value}(h:w.ownsRow base e size (ae A m c) n xs):n<=c/\c<=maxLen:=by
 rcases h.2 with⟨e,h0⟩ | ⟨g,cap,dx,e,_,_,h2,h3,_⟩
 ·simp at e;obtain⟨_,_,rfl⟩:=e;exact⟨z,Nat.zero_le _⟩
 ·simp at e;obtain⟨_,_,rfl⟩:=e;exact⟨h2,h3⟩
def KC(w:aw):Option (List Int)->Ending->aw->Prop
 |none,e,w'=>(∃(v:Value) (a:Int),e=av (aB #[v,J V a])/\a≠0)/\aC w w'
 |some l,e,w'=>(∃(v:Value) (nT:List (List Int)) (q:List (List Value)),e=av (aB #[v,J V 0])/\w'.ownsRow w.heap.size 288 17 v nT.length q.flatten/\Fit (mE w') nT q/\l=nT.flatten/\nT.length<=60)/\aC w w'
def I6(b:M.cQ):(M.splitB b).1=I->(M.splitB b).2≠0:=by
 unfold M.splitB;split
 ·intro _;simp
 ·rcases h:M.jN 60 ⟨b,0⟩ with⟨l,r⟩
  simp only;split
  ·rename_i h2;intro _;exact h2
  ·intro q;cases q
def FI(b:M.cQ){l:List M.Chunk}:(M.splitB b).1=Z l->(M.splitB b).2=0:=by
 unfold M.splitB;split
 ·intro q;cases q
 ·rcases h:M.jN 60 ⟨b,0⟩ with⟨l,r⟩
  simp only;split
  ·intro q;cases q
  ·intro q;rfl
def toldOf(sp:Option (List M.Chunk)×Int):Option (List Int):=match sp.1 with
 |none=>I
 |some l=>if M.nj (l.map λc=>(M.jO c).2)≠0 then I else Z (l.flatMap λc=>(M.jO c).1)
def Nw(b:M.cQ):M.ff b=toldOf (M.splitB b):=by
 unfold M.ff toldOf;rcases M.splitB b with⟨l,e⟩
 cases l<;>rfl
def Kb(A:Option Addr)(n c:Nat)(b:M.cQ)(w:aw)(h:TB w A n b)(Tt:n<=c)(hz:A=I->c=0)(hn:n<=100000):aF af 178 #[ae A n c] w (KC w (M.ff b)):=by
 obtain⟨o,ho⟩:=dH (M.ff b);rw[<-ho];have HS:=I7 A n c b w h Tt hz hn;have e1:=I6 b;have e2:∀l,(M.splitB b).1=Z l->_:=λl=>FI b (l:=l);obtain⟨sp,Tk⟩:=dH (M.splitB b);rw[<-Tk]at HS e1 e2;have Tl:o=toldOf sp:=by rw[ho,Nw,<-Tk]
 obtain⟨sl,er⟩:=sp;cases sl with
 |none =>
  have TY:o=I:=Tl;subst TY;have h1:er≠0:=e1 rfl;have Un:(er==0)=false:=by simpa using h1
  obtain⟨H1,Tm⟩:=bu h1 HS;clear HS e1 e2 ho Tl Tk h1 h Tt hz hn;go_enter func178,ntmps178;go_wp2_with (go_at_call 225;refine Tm.O.mono ?_;rintro e w1 ⟨⟨v,q,rfl,_⟩,b1⟩;have Tn:=au b1;clear b1);refine ax (ew rfl _ _ _) rfl ?_;exact⟨⟨ae I 0 0,er,rfl,H1.O⟩,Tn.O⟩
 |some L =>
  have h0:er=0:=e2 L rfl;subst h0;obtain⟨HO,Tm⟩:=bu Tl HS;obtain⟨i0,hi,Tz,TA,TC⟩:=cY N2;obtain⟨i1,hj,TD,TE,TF⟩:=cY My;obtain⟨HI,T8,T9,Ua,HJ,Ub,Uc,Ud⟩:=qh hi Tz TA TC hj TD TE TF;clear Tk HS e1 e2 ho Tl h Tt hz hn hi Tz TA TC hj TD TE TF;go_enter func178,ntmps178;go_upto_region 2 with(go_big_may;go_at_call 225;refine Tm.O.mono ?_;rintro e w1 ⟨⟨v,q,rfl,hq⟩,b1⟩;obtain⟨own,fit,Tu⟩:=hq L rfl;obtain⟨A4,c4,rfl⟩:=bA own;have HW:=au own;have HF:=au fit;have TG:=au Tu;have Tn:=au b1;clear b1 own fit hq Tu)
  go_wp2_with fail;go_loopw [6,7,23] (λv6 v7 i wr=>∃(k:Nat) (P:List (List Value)),i=J V k/\k<=L.length/\wr.ownsRow w.heap.size 288 17 v6 k P.flatten/\Fit (mE wr) ((L.take k).map λc=>(M.jO c).1) P/\wr.ownsRow w.heap.size 29 1 v7 k (((L.take k).map λc=>(M.jO c).2).map (J V)) /\
   (wr.ownsRow w.heap.size 286 3 (ae A4 L.length c4) L.length q.flatten/\Fit (lh wr) L q)/\aC w wr) (λ_ _ i _=>L.length-(bS i).toNat)
  case atStart=>exact⟨0,[],rfl,z,⟨rfl,.inl ⟨rfl,rfl⟩⟩,trivial,⟨rfl,.inl ⟨rfl,rfl⟩⟩,⟨HW.O,HF.O⟩,Tn.O⟩
  case round =>
   clear HW HF Tn Tm;obtain⟨k,P,rfl,hk,H,K,C,⟨oc,Q⟩,N⟩:=hrel;obtain⟨A6,c6,rfl⟩:=bA H;obtain⟨A7,c7,rfl⟩:=bA C;by_cases Ue:k<L.length
   ·have Uo:((k:Int)<(L.length:Int)):=z;obtain⟨x,cx,hx,To,Uf⟩:=Q.MD Ue;obtain⟨g4,Um,e4,Up,s⟩:=jZ oc (Q.len (EJ wr)) z;injection e4 with e4 e5 e6
    subst e4 e6;obtain⟨bs,rfl,TH,TI,Tq,Ug⟩:=Uf;have q0:=s k _ To 0 z;have q1:=s k _ To 1 z;have q2:=s k _ To 2 z;simp at q0 q1 q2;have R:=λW (hW:bs.B W x.body)=>Gz x.count x.type bs x.body W hW TI Tq;have S:L.take (k+1)=L.take k++[x]:=by rw[ee,hx];rfl
    obtain⟨D,T,TJ,f,m,j,t,u,G⟩:=By R S TH H K C oc Q N;have Tu:=TG.O;clear H K C oc Q N R S TH s hx To TI Tq Ug;go_upto_region 9 with fail;obtain⟨r9,e9⟩:=dH wr.heap.size;rw[<-e9];have al:aC wr (wr.alloc (.cells #[J bI x.count,J bI x.type,ae bs.a bs.n bs.c] 286)):=(ao _ _).alloc (aj _) _;refine aW (λY=>aK Y r9 286 #[J bI x.count,J bI x.type,ae bs.a bs.n bs.c]/\aC wr Y) ⟨aK.newAt _ _ _ _ e9,al⟩ ?_;clear e9 al q0 q1 q2;rintro Y ⟨b9,bY⟩;have y0:=b9.cell 0;have y1:=b9.cell 1;have y2:=b9.cell 2;simp at y0 y1 y2;have Tp:=au bY;clear b9 bY;obtain⟨it,hit⟩:=dH (M.jO ⟨x.count,x.type,x.body⟩);rw[<-hit]at D;have TM:=au hit;clear hit;go_upto_region 10 with(go_big_may;go_at_call 226;refine(D.O _ (TJ.O.below Tp.O)).mono ?_;rintro e w2 ⟨⟨cs,rfl,ht⟩,b2⟩;have HT:=au ht;obtain⟨kd,sd,x1,z1,z2,z3,z4,z5,rv,fk,fs,fm,fa,fl,p,ot,ob,dJ,rfl,⟨A8,n8,rfl,Uh⟩,_⟩:=ht;have TN:=au b2;clear b2 Uh)
    obtain⟨Ui,Tv⟩:=dH w2.heap.size;rw[<-Tv];have bl:aC wr w2:=Tp.O.trans (TN.O.mono Tp.O.size);have al:aC w2 (w2.alloc (.cells (qY kd sd x1 z1 z2 z3 z4 z5 rv fk fs fm (ae A8 dJ.length n8) fl p ot ob).toArray 288)):=(ao _ _).alloc (aj _) _;have bb:=bl.trans (al.mono bl.size);refine aW (λU=>aK U Ui 288 (qY kd sd x1 z1 z2 z3 z4 z5 rv fk fs fm (ae A8 dJ.length n8) fl p ot ob).toArray/\mE U it.1 (qY kd sd x1 z1 z2 z3 z4 z5 rv fk fs fm (ae A8 dJ.length n8) fl p ot ob)/\U.ownsRow w.heap.size 288 17 (ae A6 k c6) k P.flatten/\Fit (mE U) ((L.take k).map λc=>(M.jO c).1) P/\U.ownsRow w.heap.size 29 1 (ae A7 k c7) k (((L.take k).map λc=>(M.jO c).2).map (J V)) /\
     (U.ownsRow w.heap.size 286 3 (ae (Z ⟨g4,0,I⟩) L.length c4) L.length q.flatten/\Fit (lh U) L q)/\aC w U)
     ⟨aK.newAt _ _ _ _ Tv,HT.O.map (λg dx h=>h.alloc _),gI f.O bb,m.O.mono (λx c h=>h.map (λg dx h=>h.kept bb)),gI j.O bb,⟨gI t.O bb,u.O.mono (λx c h=>h.below bb)⟩,G.O.trans (bb.mono G.O.size)⟩ ?_
    clear Tv bl al bb HT f m j t u G Tp TN D TJ y0 y1 y2 Y;rintro U ⟨d,ht,H,K,C,⟨oc,Q⟩,N⟩;have t0:=d.cell 0;have t1:=d.cell 1;have t2:=d.cell 2;have t3:=d.cell 3;have t4:=d.cell 4;have t5:=d.cell 5;have t6:=d.cell 6;have t7:=d.cell 7;have t8:=d.cell 8;have t9:=d.cell 9;have t10:=d.cell 10;have t11:=d.cell 11;have t12:=d.cell 12;have t13:=d.cell 13;have t14:=d.cell 14;have t15:=d.cell 15;have t16:=d.cell 16;simp at t0 t1 t2 t3 t4 t5 t6 t7 t8 t9 t10 t11 t12 t13 t14 t15 t16;obtain⟨HT,f,m,j,t,u,G⟩:=lV ht H K C oc Q N;have hZ:=N.size;clear d ht H K C oc Q N;go_upto_region 11 with(at_builtin;go_loud (refine dV _ rfl _ _ 289 rfl w.heap.size 288 i0 Ms 17 160 underlying289 HI.O T8.O T9.O Ua.O rfl aR _ _ _ rfl (eH f.O _) ⟨U.heap.size,0,I⟩ 1 1 (qY kd sd x1 z1 z2 z3 z4 z5 rv fk fs fm (ae A8 dJ.length n8) fl p ot ob) rfl rfl (fB U 288 _) HT.O.one ui z dZ ?_;intro v5 w5 y g5 E))
    have Uj:=g5;have TO:mE w5 it.1 (qY kd sd x1 z1 z2 z3 z4 z5 rv fk fs fm (ae A8 dJ.length n8) fl p ot ob):=HT.O.map (λg dx h=>mQ (eH f.O _) g5 aR _ _ (h.alloc _));have X:Fit (mE w5) ((L.take (k+1)).map λc=>(M.jO c).1) (P++[qY kd sd x1 z1 z2 z3 z4 z5 rv fk fs fm (ae A8 dJ.length n8) fl p ot ob]):=by
     rw[T.O,fL];refine Fit.snoc (m.O.mono (λx c h=>h.map (λg dx h=>mQ (eH f.O _) g5 aR _ _ (h.alloc _)))) ?_;have e:=TM.O;subst e;exact TO
    have F:w5.ownsRow w.heap.size 288 17 v5 (k+1) (P++[qY kd sd x1 z1 z2 z3 z4 z5 rv fk fs fm (ae A8 dJ.length n8) fl p ot ob]).flatten:=by simpa using y
    have Tf:=pn (eH j.O _) (eH f.O _) aR g5;have Tg:=pn (eH t.O _) (eH f.O _) aR g5;have Ti:Fit (lh w5) L q:=u.O.mono (λx c h=>(h.below ((ao _ _).alloc (aj _) _)).typed (eT g5) (ib (eH f.O _)) aR);have Tj:=tf (G.O.alloc G.O.size _) (eH f.O _) (aj _) g5;obtain⟨A9,c9,rfl⟩:=bA F;refine aW (λW=>W.ownsRow w.heap.size 288 17 (ae A9 (k+1) c9) (k+1) (P++[qY kd sd x1 z1 z2 z3 z4 z5 rv fk fs fm (ae A8 dJ.length n8) fl p ot ob]).flatten/\Fit (mE W) ((L.take (k+1)).map λc=>(M.jO c).1) (P++[qY kd sd x1 z1 z2 z3 z4 z5 rv fk fs fm (ae A8 dJ.length n8) fl p ot ob])/\W.ownsRow w.heap.size 29 1 (ae A7 k c7) k (((L.take k).map λc=>(M.jO c).2).map (J V)) /\
     (W.ownsRow w.heap.size 286 3 (ae (Z ⟨g4,0,I⟩) L.length c4) L.length q.flatten/\Fit (lh W) L q)/\aC w W) ⟨F,X,Tf,⟨Tg,Ti⟩,Tj⟩ ?_
    clear F X Tf Tg Ti Tj TO y g5 Uj E HT f m j t u G hZ t0 t1 t2 t3 t4 t5 t6 t7 t8 t9 t10 t11 t12 t13 t14 t15 t16;rintro W ⟨H,K,C,⟨oc,Q⟩,N⟩;generalize P++[qY kd sd x1 z1 z2 z3 z4 z5 rv fk fs fm (ae A8 dJ.length n8) fl p ot ob]=qj at H K;obtain⟨f,m,j,t,u,G⟩:=lH H K C oc Q N;have hZ:=N.size;clear H K C oc Q N;go_upto_region 12 with(at_builtin;go_loud (refine dV _ rfl _ _ 391 rfl w.heap.size 29 i1 (J V 0) 1 8 underlying391 HJ.O Ub.O Uc.O Ud.O rfl aR _ _ _ rfl (eH j.O _) ⟨W.heap.size,0,I⟩ 1 1 [J V it.2] rfl rfl (fB W 29 _) tk ui z dZ ?_;intro v5 w5 y g5 E))
    have Tf:w5.ownsRow w.heap.size 29 1 v5 (k+1) (((L.take (k+1)).map λc=>(M.jO c).2).map (J V)):=by
     rw[T.O,fL,fL];have e:=TM.O;subst e;exact y
    have TP:=pn (eH f.O _) (eH j.O _) aR g5;have Tg:=pn (eH t.O _) (eH j.O _) aR g5;have X:Fit (mE w5) ((L.take (k+1)).map λc=>(M.jO c).1) qj:=m.O.mono (λx c h=>h.map (λg dx h=>mQ (eH j.O _) g5 aR _ _ (h.alloc _)));have Ti:Fit (lh w5) L q:=u.O.mono (λx c h=>(h.below ((ao _ _).alloc (aj _) _)).typed (eT g5) (ib (eH j.O _)) aR);have Tj:=tf (G.O.alloc G.O.size _) (eH j.O _) (aj _) g5;obtain⟨TQ,TR,TS,TT,TV,Uk⟩:=lH TP X Tf Tg Ti Tj;clear TP X Tf Tg Ti Tj y g5 E f m j t u G;go_wp2_with fail;go_roundw;case rel=>exact⟨k+1,qj,by go_num,z,TQ.O,TR.O,TS.O,⟨TT.O,TV.O⟩,Uk.O⟩
    case measure=>simp[bS];omega
   ·have Ul:k=L.length:=z;subst Ul;rw[cT]at K C;have f:=au H;have m:=au K;have G:=au N;have HH:=au TG.O;have Tw:=BC A7 L.length c7 (L.map λc=>(M.jO c).2) wr dt (by
     intro h0
     obtain⟨r,e,_⟩:=xn (k:=0) C (x:=J V ((L.map λc=>(M.jO c).2).getD 0 0)) (by cases L with|nil=>simp at h0|cons a l=>rfl)
     refine⟨r,e,λi hi=>?_⟩
     obtain⟨r',e',hc,_⟩:=xn (k:=i) C (x:=J V ((L.map λc=>(M.jO c).2).getD i 0)) (by rw[dE,List.getD_eq_getElem?_getD,ay (by simpa using hi)];rfl)
     rw[e]at e';cases e';exact hc) (uO C).1 (uO C).2
    have Tx:o=if M.nj (L.map λc=>(M.jO c).2)≠0 then I else Z (L.flatMap λc=>(M.jO c).1):=HO.O
    obtain⟨fe,Ts⟩:=dH (M.nj (L.map λc=>(M.jO c).2));rw[<-Ts]at Tw Tx;obtain⟨TW,TX⟩:=bu Tw Tx;clear H K C oc Q N Tw Tx Ts HO;by_cases h0:fe=0
    ·subst h0;have hr:=TX.O;rw[if_neg dt]at hr;have HR:=au hr;clear hr;go_wp2_with (go_at_call 227;refine TW.O.mono ?_;rintro e w2 ⟨rfl,hw⟩;have Ty:=hw.symm;subst Ty);refine ax (ew rfl _ _ _) rfl ?_;rw[HR.O];refine⟨⟨_,L.map λc=>(M.jO c).1,P,rfl,by simpa using f.O,m.O,by rw[List.flatMap_def],by simpa using HH.O⟩,G.O⟩
    ·have Uq:(fe==0)=false:=by simpa using h0
     have hr:=TX.O;rw[if_pos h0]at hr;obtain⟨HR,H0⟩:=bu hr h0;clear hr h0;go_wp2_with (go_at_call 227;refine TW.O.mono ?_;rintro e w2 ⟨rfl,hw⟩;have Ty:=hw.symm;subst Ty);refine ax (ew rfl _ _ _) rfl ?_;rw[HR.O];exact⟨⟨_,fe,rfl,H0.O⟩,G.O⟩
section
def CN:(af.info? 41).map (λi=>(i.zero,i.size,i.bytes))=Z (Z (J ar 0),1,4):=cC
structure wX(w W:aw)(base:Nat)(A:Option Addr)(c:Nat)(nT:List (List Int))(q:List (List Value)):Prop where
 own:W.ownsRow base 288 17 (ae A nT.length c) nT.length q.flatten
 fit:Fit (mE W) nT q
 fN:aC w W
section
variable {w W W':aw} {base:Nat} {A:Option Addr} {c:Nat} {nT:List (List Int)} {q:List (List Value)}
def wX.below(h:wX w W base A c nT q)(b:aC W W'):wX w W' base A c nT q:=
 ⟨gI h.own b,h.fit.mono (λx c k=>k.map (λg dx a=>a.kept b)),h.fN.trans (b.mono h.fN.size)⟩
def wX.alloc(h:wX w W base A c nT q)(o:Obj):wX w (W.alloc o) base A c nT q:=h.below ((ao _ _).alloc (aj _) o)
def wX.grown(h:wX w W base A c nT q){v:Value}{m:Nat}{xs:List Value}(k:W.ownsRow w.heap.size 41 1 v m xs)(g:W.grownBy W' v.ownBlock):wX w W' base A c nT q:=
 ⟨pn h.own k aR g,h.fit.mono (λx c a=>a.map (λb dx y=>mQ k g aR _ _ y)),tf h.fN k (aj _) g⟩
end
def zQ:∀{nT:List (List Int)} {W:aw} {q:List (List Value)},Fit (mE W) nT q->nT.flatten.length<=30*nT.length
 |[],_,[],_=>dt
 |x::nT,W,c::q,h=>by
  have:=zQ h.2;have:=h.1.SD;rw[List.flatten_cons,cG,List.length_cons];omega
 |[],_,_::_,h=>h.elim
 |_::_,_,[],h=>h.elim
def Ku(base:Nat)(A:Option Addr)(c:Nat)(nT:List (List Int))(q:List (List Value))(w:aw)(own:w.ownsRow base 288 17 (ae A nT.length c) nT.length q.flatten)(fit:Fit (mE w) nT q)(TD:nT.length<=60) :
  aF af 179 #[ae A nT.length c] w λe w'=>∃v,e=av v/\w'.ownsRow w.heap.size 41 1 v nT.flatten.length (nT.flatten.map (J ar))/\aC w w':=by
 have S0:wX w w base A c nT q:=⟨own,fit,ao _ _⟩;obtain⟨i0,hi,N,P,Q⟩:=cY CN;obtain⟨HI,R,T,U,HS⟩:=gY hi N P Q S0;clear own fit S0 hi N P Q;go_enter func179,ntmps179;go_wp2_with fail;go_loopw [3,10] (λv i wr=>∃(k:Nat),i=J V k/\k<=nT.length/\wr.ownsRow w.heap.size 41 1 v (nT.take k).flatten.length ((nT.take k).flatten.map (J ar))/\wX w wr base A c nT q) (λ_ i _=>nT.length-(bS i).toNat);case atStart=>exact⟨0,rfl,z,⟨rfl,.inl ⟨rfl,rfl⟩⟩,HS.O⟩
 case round =>
  clear HS;obtain⟨k,rfl,hk,own,S⟩:=hrel;obtain⟨A3,c3,rfl⟩:=bA own;by_cases Tu:k<nT.length
  ·have TE:((k:Int)<(nT.length:Int)):=z;obtain⟨l,cl,p,W,hit⟩:=S.fit.MD Tu;obtain⟨g,cap,dx,e,_,TF,_,X,_,s⟩:=Cz S.own (S.fit.len (λx c h=>h.len)) z;injection e with e1 e2 e3
   subst e1 e3;have D:(nT.take (k+1)).flatten=(nT.take k).flatten++l:=by rw[ee,p];simp
   have Tv:(nT.take k).flatten.length<=1800:=by
    have h1:=zQ S.fit;have h2:nT.flatten=(nT.take k).flatten++(nT.drop k).flatten:=by rw[<-List.flatten_append,List.take_append_drop]
    rw[h2,cG]at h1;omega
   obtain⟨kd,sd,x1,y1,y2,y3,y4,y5,rv,E,fs,M,fa,fl,oc,ot,ob,dJ,rfl,d,hle,TG⟩:=hit;have Tf:=λj (hj:j<17)=>s k _ W j hj;generalize (nT.take k).flatten=r at own D Tv ⊢;obtain⟨Tg,Ti⟩:=bu X Tf;obtain⟨F,n6,rfl,Tj,Tk,Tw,C⟩:=d;have b:Hd (mH wr (ae F dJ.length n6) dJ):=au ⟨F,n6,rfl,Tj,Tk,Tw,C⟩;obtain⟨u,G,f,HS⟩:=cA D hle own S;clear own S D hle Tf s p W C Tj Tk X;go_upto_region 5 with(go_big_may;refine lI _ rfl (.tmp 12) 288 rfl g (k*17) 288 dx rfl (qY kd sd x1 y1 y2 y3 y4 y5 rv E fs M (ae F dJ.length n6) fl oc ot ob).toArray _ underlying288 qv Tg.O (λj hj=>by simpa using Ti.O j hj) ?_)
   obtain⟨r5,e5⟩:=dH wr.heap.size;rw[<-e5];have B:aC wr (wr.alloc (.cells (qY kd sd x1 y1 y2 y3 y4 y5 rv E fs M (ae F dJ.length n6) fl oc ot ob).toArray 288)):=(ao _ _).alloc (aj _) _;refine aW (λY=>aK Y r5 288 (qY kd sd x1 y1 y2 y3 y4 y5 rv E fs M (ae F dJ.length n6) fl oc ot ob).toArray/\Y.ownsRow w.heap.size 41 1 (ae A3 r.length c3) r.length (r.map (J ar))/\wX w Y base (Z ⟨g,0,I⟩) c nT q/\mH Y (ae F dJ.length n6) dJ) ⟨aK.newAt _ _ _ _ e5,gI f.O B,HS.O.below B,b.O.map (λg dx h=>h.kept B)⟩ ?_;clear e5 B f HS b Tg Ti;rintro Y ⟨b5,own,S,d⟩;have k0:=b5.cell 0;have k9:=b5.cell 9;have Tl:=b5.cell 11;have Tm:=b5.cell 12;simp at k0 k9 Tl Tm;have hY:=S.fN.size;obtain⟨f,HS,b,Tn⟩:=cA own S d b5;clear own S d b5;by_cases h2:kd=2;rotate_left
   ·have TH:(kd==2)=false:=by simpa using h2
    have p:l=[]:=by rw[G.O,if_neg h2]
    have H:=au p;clear h2 p;go_wp2_with fail;go_roundw;case rel=>exact⟨k+1,by go_num,z,by rw[u.O,H.O];simpa using f.O,HS.O⟩
    case measure=>simp[bS];omega
   have hle:=G.O;rw[if_pos h2]at hle;have m:=au hle;subst h2;clear hle G;by_cases h1:E=1
   ·have p:l=[M]:=by rw[m.O,if_pos h1]
    have H:=au p;subst h1;clear p m;go_wp2_with (at_builtin;go_loud (refine dV _ rfl _ _ 74 rfl w.heap.size 41 i0 (J ar 0) 1 4 underlying74 HI.O R.O T.O U.O rfl aR _ _ _ rfl (eH f.O _) ⟨Y.heap.size,0,I⟩ 1 1 [J ar M] rfl rfl (fB Y 41 _) tk ui z dZ ?_;intro v5 w5 n g5 o));have a:w5.ownsRow w.heap.size 41 1 v5 (nT.take (k+1)).flatten.length ((nT.take (k+1)).flatten.map (J ar)):=by rw[u.O,H.O];simpa using n
    have S6:=(HS.O.alloc (.cells #[J ar M] 41)).grown (eH f.O _) g5;obtain⟨t,K⟩:=bu a S6;clear a S6 n g5 o f HS Tn;go_wp2_with fail;go_roundw;case rel=>exact⟨k+1,by go_num,z,t.O,K.O⟩
    case measure=>simp[bS];omega
   have Tx:(E==1)=false:=by simpa using h1
   have hle:=m.O;rw[if_neg h1]at hle;by_cases h3:E=2;rotate_left
   ·have TI:(E==2)=false:=by simpa using h3
    have p:l=[]:=by rw[hle,if_neg h3]
    have H:=au p;clear h3 h1 p hle m;go_wp2_with fail;go_roundw;case rel=>exact⟨k+1,by go_num,z,by rw[u.O,H.O];simpa using f.O,HS.O⟩
    case measure=>simp[bS];omega
   have p:l=dJ:=by rw[hle,if_pos h3]
   have H:=au p;subst h3;clear h1 p hle m Tx;go_wp2_with fail;go_loopw [3,34] (λv i wr=>∃(j:Nat),i=J V j/\j<=dJ.length/\wr.ownsRow w.heap.size 41 1 v (r++dJ.take j).length ((r++dJ.take j).map (J ar))/\wX w wr base (Z ⟨g,0,I⟩) c nT q/\mH wr (ae F dJ.length n6) dJ) (λ_ i _=>dJ.length-(bS i).toNat);case atStart=>exact⟨0,rfl,z,by simpa using f.O,HS.O,b.O⟩
   case round =>
    clear f HS b Tn k0 k9 Tl Tm hY;obtain⟨j,rfl,hj,own,S,d⟩:=hrel;obtain⟨A7,c7,rfl⟩:=bA own;by_cases Ty:j<dJ.length
    ·have TJ:((j:Int)<(dJ.length:Int)):=z;obtain⟨A8,c8,e8,_,_,_,hh⟩:=d;injection e8 with e8 e9 Tz
     subst e8 Tz;obtain⟨gx,dx,rfl,hB,To⟩:=hh z;have hx:dJ[j]? = Z dJ[j]:=ay Ty;obtain⟨h1,y,h2⟩:=To j _ hx;have m0:=hB.cell (j*2);have m1:=hB.cell (j*2+1);rw[h1]at m0;rw[h2]at m1;have Tp:dJ.take (j+1)=dJ.take j++[dJ[j]]:=by rw[ee,hx];rfl
     have Tq:=au Tp;generalize dJ[j]=x at m0 Tq hx h1;obtain⟨f,HS⟩:=bu own S;have b:Hd (mH wr (ae (Z ⟨gx,0,I⟩) dJ.length n6) dJ):=au ⟨_,_,rfl,z,z,z,hh⟩;have TM:(r++dJ.take j).length<=1830:=by rw[cG,ix];omega
     have hq:=S.fN.size;clear own S hh To hx h1 h2 Tp;go_upto_region 13 with fail;obtain⟨r7,e7⟩:=dH wr.heap.size;rw[<-e7];have B:aC wr (wr.alloc (.cells #[J ar x,J bI y] 396)):=(ao _ _).alloc (aj _) _;refine aW (λL=>aK L r7 396 #[J ar x,J bI y]/\L.ownsRow w.heap.size 41 1 (ae A7 (r++dJ.take j).length c7) (r++dJ.take j).length ((r++dJ.take j).map (J ar))/\wX w L base (Z ⟨g,0,I⟩) c nT q/\mH L (ae (Z ⟨gx,0,I⟩) dJ.length n6) dJ) ⟨aK.newAt _ _ _ _ e7,gI f.O B,HS.O.below B,b.O.map (λg dx h=>h.kept B)⟩ ?_;clear e7 B f HS b m0 m1 hB hq;rintro L ⟨b7,own,S,d⟩;have p0:=b7.cell 0;simp at p0;have hZ:=S.fN.size;obtain⟨f,HS,b⟩:=bU own S d;clear own S d b7;go_wp2_with (at_builtin;go_loud (refine dV _ rfl _ _ 74 rfl w.heap.size 41 i0 (J ar 0) 1 4 underlying74 HI.O R.O T.O U.O rfl aR _ _ _ rfl (eH f.O _) ⟨L.heap.size,0,I⟩ 1 1 [J ar x] rfl rfl (fB L 41 _) tk ui z dZ ?_;intro v5 w5 n g5 o));have a:w5.ownsRow w.heap.size 41 1 v5 (r++dJ.take (j+1)).length ((r++dJ.take (j+1)).map (J ar)):=by
      rw[Tq.O,<-List.append_assoc,cG,fL];exact n
     have S6:=(HS.O.alloc (.cells #[J ar x] 41)).grown (eH f.O _) g5;have Ts:=b.O.map (λg' dx h=>mQ (eH f.O (.cells #[J ar x] 41)) g5 aR _ _ (h.alloc _));obtain⟨t,K,Tt⟩:=bU a S6 Ts;clear a S6 Ts n g5 o f HS b p0;go_wp2_with fail;go_roundw;case rel=>exact⟨j+1,by go_num,z,t.O,K.O,Tt.O⟩
     case measure=>simp[bS];omega
    ·have TA:j=dJ.length:=z;subst TA;rw[cT]at own;have a:wr.ownsRow w.heap.size 41 1 (ae A7 (r++dJ.take dJ.length).length c7) (nT.take (k+1)).flatten.length ((nT.take (k+1)).flatten.map (J ar)):=by rw[u.O,H.O,cT];simpa using own
     obtain⟨t,HS⟩:=bu a S;clear own a S d;go_wp2_with fail;go_roundw;case rel=>exact⟨k+1,by go_num,z,t.O,HS.O⟩
     case measure=>simp[bS];omega
  ·have TC:k=nT.length:=z;subst TC;rw[cT]at own;have a:wr.ownsRow w.heap.size 41 1 (ae A3 (nT.take nT.length).flatten.length c3) nT.flatten.length (nT.flatten.map (J ar)):=by rw[cT];simpa using own
   obtain⟨f,HB⟩:=bu a S.fN;clear own a S;go_wp2_with fail;go_ret;exact⟨_,rfl,f.O,HB.O⟩
end
section
theorem gh.cells{w w':aw}{B:SB}{eJ cX:Int}{s s':M.eu}{N N':Nat}(h:gh w B eJ cX s N)(f:Fr (One B.g) w w')(a:aK w' B.g 172 (kI B s'))(e:s'.bQ=s.bQ)
  (hg:-100000*(N':Int)<=s'.dv/\s'.dv<=100000*(N':Int)+200000) (b:0<=s'.dJ.fH/\s'.dJ.fH<=N') (ht:0<=s'.dJ.gB/\s'.dJ.gB<=N'):gh w' B eJ cX s' N'/\Fr B.own w w':=
 ⟨⟨a,by
  rw[e]
  refine h.buf.dW f.u (λi hi q=>?_)
  have q:i=B.g:=q
  rcases hi with hi|hi
  ·exact aK.jf h.buf.cw h.cw aR (hi.symm.trans q)
  ·exact ej h.buf.row h.cw aR (q ▸ hi).symm,hg,b,ht⟩,f.mono λi _ q=>.inl q⟩
def Hq(s:M.eu):M.eu:={ s with jc:=true }
theorem gh.asked{w:aw}{B:SB}{eJ cX:Int}{s:M.eu}{N:Nat}(h:gh w B eJ cX s N):gh (w.setCell ⟨B.g,7,I⟩ (ai true)) B eJ cX (Hq s) N/\Fr B.own w (w.setCell ⟨B.g,7,I⟩ (ai true)):=
 h.cells ((Fr.refl (One B.g) _).setCell h.cw (.inl rfl) aR aR 7 _) (by simpa[kI,Hq]using h.cw.bC 7 (ai true)) rfl h.uE h.fH h.gB
def si(r:M.Room)(s:Int):M.Room:=
 match r.of s,r.aD s with
 |some jo,some l=>if l.wanted&&M.there l.dx then r.fG (jo,l.dx) (λx=>{ x with jc:=true }) else r
 |_,_=>r
theorem M1(r:M.Room)(x:Int):r.ask x=(r.pj x).foldl si r:=rfl
theorem Gg(r:M.Room)(x:Int):r.pj x=tJ r.bh (λs=>decide (s.own=x)):=by
 unfold M.Room.pj tJ;refine List.filter_congr λs _=>?_;unfold oR;cases r.bh s<;>rfl
structure pM(r r':M.Room):Prop where
 bh:r'.bh=r.bh
 aD:r'.aD=r.aD
 az:∀o,(r'.az o).isSome=(r.az o).isSome
theorem pM.refl(r:M.Room):pM r r:=⟨rfl,rfl,λ_=>rfl⟩
theorem pM.trans{a b c:M.Room}(h:pM a b)(k:pM b c):pM a c:=⟨k.bh.trans h.bh,k.aD.trans h.aD,λo=>(k.az o).trans (h.az o)⟩
theorem pM.fold{α:Type}(f:M.Room->α->M.Room)(b:∀r a,pM r (f r a)):∀(l:List α) (r:M.Room),pM r (l.foldl f r)
 |[],r=>pM.refl r
 |a::l,r=>(b r a).trans (pM.fold f b l (f r a))
theorem pM.to(r:M.Room)(s:Int):pM r (si r s):=by
 unfold si;split
 ·split
  ·unfold M.Room.fG;split
   ·rename_i h;exact⟨rfl,rfl,λo=>M.ur _ _ _ (by rw[h];rfl) o⟩
   ·exact pM.refl r
  ·exact pM.refl r
 ·exact pM.refl r
theorem pM.ask(r:M.Room)(x:Int):pM r (r.ask x):=pM.fold si pM.to _ r
structure np(r:M.Room):Prop where
 iJ:∀s,(r.bh s).isSome=(r.aD s).isSome
 range:∀s,(r.aD s).isSome=true->0<=s/\s<6
 sub:∀s x,r.bh s=Z x->x.cL=true->(0<=x.jo/\x.jo<3)/\∀k,0<=k->k<3->(r.az (x.jo,k)).isSome=true
theorem np.tc{r r':M.Room}(h:np r)(k:pM r r'):np r':=
 ⟨λs=>by rw[k.bh,k.aD];exact h.iJ s,λs q=>h.range s (by rw[<-k.aD];exact q),λs x q y=>by
  rw[k.bh]at q
  obtain⟨a,b⟩:=h.sub s x q y
  exact⟨a,λi i0 i1=>by rw[k.az];exact b i i0 i1⟩⟩
theorem np.may{r:M.Room}(h:np r):∀s,(r.bh s).isSome=true->M.fY s=true:=λs q=>by
 have:=h.range s (by rw[<-h.iJ];exact q);simp[M.fY];omega
def Il(r:M.Room)(b:M.cQ):M.Room:=match M.ff b with
 |none=>r.count λc=>{ c with cI:=c.cI+1 }
 |some l=>l.foldl M.Room.ask (r.count λc=>{ c with ff:=c.ff+1 })
theorem NK{w:aw}{base n c k:Nat}{A:Option Addr}{l:List Int}(h:w.ownsRow base 41 1 (ae A n c) n (l.map (J ar))){x:Int}(a:l[k]? = Z x):∃r,A=Z ⟨r,0,I⟩/\w.cell? ⟨r,k,I⟩=Z (J ar x)/\n<=c:=by
 obtain⟨r,e,h1,h2,h3⟩:=xn h (k:=k) (x:=J ar x) (by rw[dE,a];rfl);exact⟨r,e,h1,(uO h).1⟩
theorem uN{w:aw}{base n c k:Nat}{A:Option Addr}{l:List Int}(h:w.ownsRow base 3 1 (ae A n c) n (l.map (J V))){x:Int}(a:l[k]? = Z x):∃r,A=Z ⟨r,0,I⟩/\w.cell? ⟨r,k,I⟩=Z (J V x)/\n<=c:=by
 obtain⟨r,e,h1,h2,h3⟩:=xn h (k:=k) (x:=J V x) (by rw[dE,a];rfl);exact⟨r,e,h1,(uO h).1⟩
theorem nh{w w':aw}{base:Nat}{B:RB}{e:TypeId}{size n:Nat}{v:Value}{xs:List Value}(h:w.ownsRow base e size v n xs)(f:Fr B.all w w')(a:∀i,B.all i->i<base):w'.ownsRow base e size v n xs:=
 du h f.u (λi hi q=>by have:=(h.lt i hi).1;have:=a i q;omega)
theorem qR{α β:Type}[DecidableEq α](f:α->β)(k:α)(v:β)(h:f k=v):M.set f k v=f:=by
 funext x;unfold M.set;split
 ·rename_i e;rw[e,h]
 ·rfl
theorem fK.fN{w w':aw}(B:RB)(b:aC w w'):fK w w' B B:=⟨rfl,.bn b,λi q=>.inl q⟩
section
variable {B:RB} {R:M.Room} {N:Nat} {w:aw} (h:aL w B R N)
include h
theorem aL.M0{o:M.bN}{s:M.eu}{S:SB}(a:R.az o=Z s)(b:B.sb o=Z S) :
  aL (w.setCell ⟨S.g,7,I⟩ (ai true)) B (R.fG o (λx=>{ x with jc:=true })) N/\fK w (w.setCell ⟨S.g,7,I⟩ (ai true)) B B:=by
 obtain⟨S',e,c⟩:=h.iB a;rw[b]at e;cases e;have d:=h.nL a b c.asked.2 c.asked.1 rfl (λi q=>.inl q);have e:R.fG o (λx=>{ x with jc:=true })={ R with az:=M.set R.az o (Z (Hq s)) }:=by unfold M.Room.fG;rw[a];rfl
 rw[qR B.sb o (Z S) b]at d;rw[e];exact d
theorem aL.ri(i:Nat)(f:M.nH->M.nH)(v:Value)(a:oS B (R.count f)=(oS B R).setIfInBounds i v)(b:yz (R.count f) (N+1)):aL (w.setCell ⟨B.g,i,I⟩ v) B (R.count f) (N+1)/\fK w (w.setCell ⟨B.g,i,I⟩ v) B B:=
 (h.mono (cZ N)).rq (cJ:=R.cJ) (cN:=R.cN) (bp:=f R.bp) ((Fr.refl (One B.g) _).setCell h.cw (.inl rfl) aR aR i v) (by
  have e:=h.cw.bC i v
  rw[<-a]at e;exact e) b
theorem Jd(sl:Sl)(x:M.cQ)(F:sl.B w x)(h4:sl.n<=400)(hk:np R)(hN:N<900000):aF af 122 #[aq (Z ⟨B.g,0,I⟩),ae sl.a sl.n sl.c] w (kk B w (aB #[]) (Il R x) (N+1)):=by
 obtain⟨res,K⟩:=dH (Il R x);rw[<-K];have U:=Kb sl.a sl.n sl.c x w F.tl F.le F.zero z;have hr:res=match M.ff x with | none=>R.count λc=>{ c with cI:=c.cI+1 } | some l=>l.foldl M.Room.ask (R.count λc=>{ c with ff:=c.ff+1 }):=K
 generalize M.ff x=tl at U hr;have Tn:=h.cw.cell 17;have To:=h.cw.cell 19;have f17:=h.cw.frozen 17;have f19:=h.cw.frozen 19;have n1:=h.et.cI;have n3:=h.et.ff;simp at Tn To;have H:=au h;cases tl with
 |none =>
  have P:res=R.count λc=>{ c with cI:=c.cI+1 }:=hr;obtain⟨HR,Tp⟩:=bu P U;clear hr P U K F hk h;go_enter func122,ntmps122;go_upto_region 1 with(go_big_may;go_at_call 178;refine Tp.O.mono ?_;rintro e w1 ⟨⟨v,er,rfl,TN⟩,b1⟩;have hb:(er==0)=false:=(by simpa using TN);have d17:=aM b1 Tn;have Up:=(H.O.cw.kept b1).frozen 17;have D:=au b1;clear b1 TN Tn To f17 f19)
  go_wp2_with fail;have m:=(H.O.below D.O).ri 17 (λc=>{ c with cI:=c.cI+1 }) (J V (R.bp.cI+1)) rfl { H.O.et.mono (cZ N) with cI:=by have:=H.O.et.cI;show 0<=R.bp.cI+1/\R.bp.cI+1<=((N+1:Nat):Int);omega };first
   |refine dq (bT results122 _ _ _) rfl ?_
   |refine ax (v:=aB #[]) (by simp[aV,results122,go_sem]) rfl ?_
  first|exact⟨B,rfl,by rw[HR.O];exact m.1,(fK.fN B D.O).trans m.2⟩|exact⟨rfl,B,by rw[HR.O];exact m.1,(fK.fN B D.O).trans m.2⟩
 |some l =>
  have P:res=l.foldl M.Room.ask (R.count λc=>{ c with ff:=c.ff+1 }):=hr;obtain⟨R1,Tq⟩:=dH (R.count λc=>{ c with ff:=c.ff+1 });rw[<-Tq]at P;have TO:np R1:=by rw[Tq];exact⟨hk.iJ,hk.range,hk.sub⟩
  obtain⟨HR,Tp,TP,Ug⟩:=cA P U Tq TO;clear hr P U K F hk Tq TO h;go_enter func122,ntmps122;go_upto_region 1 with(go_big_may;go_at_call 178;refine Tp.O.mono ?_;rintro e w1 ⟨⟨v,nT,q,rfl,own,fit,hl,TQ⟩,b1⟩;have d19:=aM b1 To;have TR:=(H.O.cw.kept b1).frozen 19;obtain⟨A4,c4,rfl⟩:=bA own;have D:=au b1;have C:=au own;have HF:=au fit;have TS:=au TQ;have HL:=au hl;clear b1 own fit TQ hl Tn To f17 f19)
  go_upto_region 4 with fail;have m:=(H.O.below D.O).ri 19 (λc=>{ c with ff:=c.ff+1 }) (J V (R.bp.ff+1)) rfl { H.O.et.mono (cZ N) with ff:=by have:=H.O.et.ff;show 0<=R.bp.ff+1/\R.bp.ff+1<=((N+1:Nat):Int);omega };rw[<-TP.O]at m;have E:∀i,B.all i->i<w.heap.size:=H.O.lt;have oz:=nh C.O m.2.fr E;have fz:Fit (mE (w1.setCell ⟨B.g,19,I⟩ (J V (R.bp.ff+1)))) nT q:=HF.O.mono (λa c k=>k.map (λg dx y=>y.dS (p:=⟨B.g,19,I⟩) (aK.jf y (H.O.below D.O).cw aR) _));refine aW (λX=>aL X B R1 (N+1)/\fK w X B B/\X.ownsRow w.heap.size 288 17 (ae A4 nT.length c4) nT.length q.flatten/\Fit (mE X) nT q) ⟨m.1,(fK.fN B D.O).trans m.2,oz,fz⟩ ?_;have Uh:=au E;clear m oz fz D C HF d19 TR H TP E;rintro X ⟨h,A,own,fit⟩;have has:=Ku w.heap.size A4 c4 nT q X own fit TS.O;rw[<-HL.O]at has;have TT:=au has;have Us:l.length<=1800:=by have:=zQ fit;have:=TS.O;rw[HL.O];omega
  have Ut:=A.fr.size;obtain⟨H,HS⟩:=bu h A;clear h A own fit has;go_wp2_with (go_at_call 179;refine TT.O.mono ?_;rintro e w2 ⟨v,rfl,own,b2⟩;obtain⟨A5,c5,rfl⟩:=bA own;have C:=au own;have Ts:=au b2;clear own b2);have E:∀i,B.all i->i<X.heap.size:=H.O.lt;have TV:=au E;clear E TT Uh HL Tp;go_loopw [41] (λi wr=>∃k:Nat,i=J V k/\k<=l.length/\aL wr B ((l.take k).foldl M.Room.ask R1) (N+1)/\fK w wr B B/\wr.ownsRow X.heap.size 41 1 (ae A5 l.length c5) l.length (l.map (J ar))/\X.heap.size<=wr.heap.size) (λi _=>l.length-(bS i).toNat);case atStart=>exact⟨0,rfl,z,H.O.below Ts.O,HS.O.trans (fK.fN B Ts.O),C.O,Ts.O.size⟩
  case round =>
   clear C Ts H HS;obtain⟨k,rfl,hk,hR,A,own,d⟩:=hrel;by_cases E:k<l.length;rotate_left
   ·have Ui:k=l.length:=z;subst Ui;rw[cT,<-HR.O]at hR;obtain⟨H,HS⟩:=bu hR A;clear hR A own;go_wp2_with fail;first
     |refine dq (bT results122 _ _ _) rfl ?_
     |refine ax (v:=aB #[]) (by simp[aV,results122,go_sem]) rfl ?_
    first|exact⟨B,rfl,H.O,HS.O⟩|exact⟨rfl,B,H.O,HS.O⟩
   have Uu:((k:Int)<(l.length:Int)):=z;have F:l[k]? = Z l[k]:=ay E;obtain⟨r5,rfl,q0,Uv⟩:=NK own F;have b:=M.lL M.Room.ask l k l[k] R1 F;generalize l[k]=src at F q0 b;obtain⟨f,TD⟩:=dH ((l.take k).foldl M.Room.ask R1);rw[<-TD]at hR b;have Tf:np f:=by rw[TD];exact Ug.O.tc (pM.fold _ pM.ask _ _)
   have Tg:f.pj src=tJ f.bh (λs=>decide (s.own=src)):=Gg f src;have Ti:=λW (hW:aL W B f (N+1))=>Aj B.t f.cW f.aQ f.bh (N+1) W (hW.part .table) z Tf.may src;rw[<-Tg]at Ti;have TW:f.ask src=(f.pj src).foldl si f:=M1 f src;have Ty:∀s∈f.pj src,(0<=s/\s<6)/\(f.bh s).isSome=true:=by
    intro s hs;rw[Tg]at hs;unfold tJ oR at hs;rw[eL]at hs;cases q:f.bh s with
    |none=>rw[q]at hs;simp at hs
    |some y=>exact⟨Tf.range s (by rw[<-Tf.iJ,q];rfl),rfl⟩
   have hlen:(f.pj src).length<=6:=aP (eE _ _) (aj 6);have Tj:=hR.cw.cell 11;simp at Tj;obtain⟨Tz,Uj,TX,TA,Uk,H,HS,C⟩:=qh Ti b TW Ty Tf hR A own;clear Ti b TW Ty Tf hR A own Tg TD F;generalize f.pj src=o at Tz TX TA hlen;go_wp2_with (go_at_call 180;refine(Tz.O _ H.O).mono ?_;rintro e w3 ⟨v,rfl,ky,b3⟩;obtain⟨A7,c7,rfl⟩:=bA ky;have r:=au ky;have Tk:=au b3;clear ky b3);have TE:X.heap.size<=wr.heap.size:=d;go_loopw [52] (λi wr=>∃j:Nat,i=J V j/\j<=o.length/\aL wr B ((o.take j).foldl si f) (N+1)/\fK w wr B B/\wr.ownsRow X.heap.size 41 1 (ae (Z ⟨r5,0,I⟩) l.length c5) l.length (l.map (J ar))/\wr.ownsRow X.heap.size 3 1 (ae A7 o.length c7) o.length (o.map (J V))/\X.heap.size<=wr.heap.size) (λi _=>o.length-(bS i).toNat);case atStart=>exact⟨0,rfl,z,H.O.below Tk.O,HS.O.trans (fK.fN B Tk.O),gI C.O Tk.O,qS r.O TE,aP TE Tk.O.size⟩
   case round =>
    clear C r Tk H HS TE d Tj;obtain⟨j,rfl,hj,hR,A,own,ky,d⟩:=hrel;by_cases TY:j<o.length;rotate_left
    ·have Ul:j=o.length:=z;subst Ul;rw[cT,<-TX.O]at hR;obtain⟨H,HS,C⟩:=bU hR A own;clear hR A own ky;go_wp2_with fail;go_roundw;case rel=>exact⟨k+1,by go_num,z,by rw[Uj.O];exact H.O,HS.O,C.O,d⟩
     case measure=>simp[bS];omega
    have Uw:((j:Int)<(o.length:Int)):=z;have F:o[j]? = Z o[j]:=ay TY;obtain⟨r7,rfl,q1,Uq⟩:=uN ky F;obtain⟨Um,Tt⟩:=TA.O o[j] (dy TY);have b:=M.lL si o j o[j] f F;have Tu:pM f ((o.take j).foldl si f):=pM.fold _ pM.to _ _;generalize o[j]=s at F q1 Um Tt b;generalize (o.take j).foldl si f=Q at hR b Tu;have T8:=Uk.O.tc Tu;rw[<-Tu.bh]at Tt;obtain⟨y,hy⟩:=dw.1 Tt;have T9:(Lit.int V s).wf=true:=Ig z z;have TF:=λW (hW:aL W B Q (N+1))=>LO B.t Q.cW Q.aQ Q.bh (N+1) W (hW.part .table) s T9;rw[hy]at TF;obtain⟨Tv,TG,Ua,HY,H,HS,C,r⟩:=qh TF b T8 hy hR A own ky;have Tj:=hR.cw.cell 11;have Tl:=hR.cw.cell 12;simp at Tj Tl;clear TF b T8 hy hR A own ky Tu F Tt;cases G:y.cL with
    |false =>
     have e0:si Q s=Q:=by unfold si M.Room.of;rw[HY.O];simp[G]
     have HE:=au e0;rw[show(Z y).getD (⟨0,false,0⟩:M.Sub)=y from rfl,G]at Tv;clear e0 G Tl;go_wp2_with (go_at_call 91;refine(Tv.O _ H.O).mono ?_;rintro e w4 ⟨rfl,b4⟩;have u:=au b4;clear b4);go_roundw;case rel=>exact⟨j+1,by go_num,z,by rw[TG.O,HE.O];exact H.O.below u.O,HS.O.trans (fK.fN B u.O),gI C.O u.O,gI r.O u.O,aP d u.O.size⟩
     case measure=>simp[bS];omega
    |true =>
     rw[show(Z y).getD (⟨0,false,0⟩:M.Sub)=y from rfl,G]at Tv;obtain⟨lm,Tw⟩:=dw.1 (show(Q.aD s).isSome=true by rw[<-Ua.O.iJ,HY.O];rfl);obtain⟨hp,T⟩:=Ua.O.sub s y HY.O G;have e0:si Q s=if lm.wanted&&M.there lm.dx then Q.fG (y.jo,lm.dx) (λx=>{ x with jc:=true }) else Q:=by unfold si M.Room.of;rw[HY.O,Tw];simp[G]
     obtain⟨L,hL,hA⟩:=H.O.jq Tw;obtain⟨HE,Un,Ub⟩:=bU e0 T (dj Tw hL);clear e0 T Tw hA G;go_upto_region 12 with(go_big_may;go_at_call 91;refine(Tv.O _ H.O).mono ?_;rintro e w4 ⟨rfl,b4⟩;have u:=au b4;clear b4)
     have h4:=H.O.below u.O;have Tl:=h4.cw.cell 12;have Uc:(cD 54 (.map (Z B.lm)) (J V s) false).run af w4=.ok (aq (Z ⟨L.g,0,I⟩)) w4:=by
      have m:=h4.kW s T9;rw[Ub.O.2]at m;exact m
     obtain⟨L',e',hA⟩:=h4.jq Ub.O.1;rw[hL]at e';cases e';obtain⟨TC,H4⟩:=bu (vH L Q.dA.aG Q.dA.aT lm (N+1) w4 hA) h4;simp at Tl;clear h4 hA hL Tj;go_upto_region 13 with(go_big_may;go_at_call 44;refine TC.O.mono ?_;rintro e w5 ⟨rfl,b5⟩;have Ud:=au b5;clear b5)
     obtain⟨Ue,TH⟩:=dH w5.heap.size;rw[<-TH];have bl:aC wr w5:=u.O.trans (Ud.O.mono u.O.size);have al:aC wr (w5.alloc (.cells #[J V lm.dx,J V lm.fh] 68)):=bl.alloc bl.size _;have Ux:∀i,B.all i->i≠Ue:=λi hi=>by have:=H.O.lt i hi;have:=bl.size;omega
     refine aW (λY=>aK Y Ue 68 #[J V lm.dx,J V lm.fh]/\aL Y B Q (N+1)/\fK w Y B B/\Y.ownsRow X.heap.size 41 1 (ae (Z ⟨r5,0,I⟩) l.length c5) l.length (l.map (J ar))/\Y.ownsRow X.heap.size 3 1 (ae (Z ⟨r7,0,I⟩) o.length c7) o.length (o.map (J V))/\X.heap.size<=Y.heap.size) ⟨aK.newAt _ _ _ _ TH,H.O.below al,HS.O.trans (fK.fN B al),gI C.O al,gI r.O al,aP d al.size⟩ ?_;clear TH bl al H HS C r H4 u Ud TC Uc Tl q1 q0 d w5 w4;rintro Y ⟨TI,hR,A,own,ky,d⟩;have k0:=TI.cell 0;simp at k0;obtain⟨H,HS,C,r,Ur⟩:=gY hR A own ky TI;have Uo:=hR.cw.cell 13;simp at Uo;clear hR A own ky TI;have Uf:(lm.wanted&&M.there lm.dx)=false->aL Y B ((o.take (j+1)).foldl si f) (N+1):=λq=>by rw[TG.O,HE.O,if_neg (by simp[q])];exact H.O
     have TJ:=au Uf;clear Uf;cases hw:lm.wanted with
     |false =>
      go_wp2_with fail;go_roundw;case rel=>exact⟨j+1,by go_num,z,TJ.O (by simp[hw]),HS.O,C.O,r.O,d⟩
      case measure=>simp[bS];omega
     |true =>
      cases ht:M.there lm.dx with
      |false =>
       have HT:=au ht;clear ht;go_wp2_with (go_at_call 88;refine(kU _ _).mono ?_;rw[HT.O];rintro e w6 ⟨rfl,e6⟩;subst e6);go_roundw;case rel=>exact⟨j+1,by go_num,z,TJ.O (by simp[HT.O]),HS.O,C.O,r.O,d⟩
       case measure=>simp[bS];omega
      |true =>
       have HT:=au ht;have Tm:0<=lm.dx/\lm.dx<3:=by simpa[M.there]using ht
       obtain⟨st,T⟩:=dw.1 (Un.O lm.dx Tm.1 Tm.2);obtain⟨S,A,TM⟩:=(H.O.below (eW (ao Y.drew.heap.size Y.drew))).iB T;have Uc:(cD 55 (.map (Z B.sm)) (cg #[J V y.jo,J V lm.dx]) false).run af Y.drew=.ok (aq (Z ⟨S.g,0,I⟩)) Y.drew:=by
        have m:=(H.O.below (eW (ao Y.drew.heap.size Y.drew))).jU (y.jo,lm.dx) (ir ⟨by show _<=y.jo;omega,by show y.jo<=_;omega⟩ ⟨by show _<=lm.dx;omega,by show lm.dx<=_;omega⟩);rw[A]at m;exact m
       have s7:=TM.cw.cell 7;have f7:=TM.cw.frozen 7;have s7:Y.cell? ⟨S.g,7,I⟩=_:=s7;have f7:Y.frozen? ⟨S.g,7,I⟩=_:=f7;simp at s7;have m:=(H.O.below (eW (ao Y.drew.heap.size Y.drew))).M0 T A;have hE:=HE.O;rw[if_pos (by simp[hw,ht])]at hE;rw[<-hE,<-TG.O]at m;obtain⟨HZ,Tx⟩:=bu m.1 m.2;clear ht T A TM m hE TJ Tm;go_upto_region 14 with(go_big_may;go_at_call 88;refine(kU _ _).mono ?_;rw[HT.O];rintro e w6 ⟨rfl,e6⟩;subst e6)
       go_region;all_goals
        go_wp2_with fail;go_roundw;case rel=>exact⟨j+1,by go_num,z,HZ.O,(HS.O.trans (fK.fN B (eW (ao _ _)))).trans Tx.O,nh (gI C.O (eW (ao _ _))) Tx.O.fr TV.O,nh (gI r.O (eW (ao _ _))) Tx.O.fr TV.O,aP d Tx.O.fr.size⟩
        case measure=>simp[bS];omega
end
end
def xf(st s:Int)(w:aw):aF af 112 #[cg #[J V st,J V s]] w λe w'=>e=av (J V (if st=2 then 1 else if st=3 then 2 else 3))/\aC w w':=by
 by_cases h2:st=2
 ·subst h2;go_enter func112,ntmps112;go_wp2_with fail;go_ret;exact⟨dt,(ao _ w).alloc (aj _) _⟩
 ·have d2:(st==2)=false:=by simpa using h2
  by_cases h3:st=3
  ·subst h3;go_enter func112,ntmps112;go_wp2_with fail;go_ret;exact⟨dt,(ao _ w).alloc (aj _) _⟩
  ·have d3:(st==3)=false:=by simpa using h3
   go_enter func112,ntmps112;go_wp2_with fail;go_ret;exact⟨by simp[h2,h3],(ao _ w).alloc (aj _) _⟩
def Kx(st s:Int)(w:aw)(h:0<=st/\st<=4):aF af 119 #[cg #[J V st,J V s]] w λe w'=>e=av (aB #[pv ((M.ahead (st,s)).getD (0,0)),ai (M.ahead (st,s)).isSome])/\aC w w':=by
 have a:aC w ((w.alloc (.cells #[J V st,J V s] 40)).alloc (.cells #[J V 0,J V 0] 40)):=((ao _ w).alloc (aj _) _).alloc dt _;rcases(z:st=0\/st=1\/st=2\/st=3\/st=4) with rfl|rfl|rfl|rfl|rfl
 ·go_enter func119,ntmps119;go_wp2_with fail;refine ax (v:=aB #[cg #[J V 0,J V 0],ai false]) (by simp[aV,results119,go_sem]) rfl ⟨rfl,?_⟩;first
   |exact((ao _ w).alloc (aj _) _).alloc dt _
   |exact(a.setCell (p:=⟨w.heap.size+1,0,I⟩) dt _).setCell (p:=⟨w.heap.size+1,1,I⟩) dt _
 ·go_enter func119,ntmps119;go_wp2_with fail;refine ax (v:=aB #[cg #[J V 0,J V 0],ai true]) (by simp[aV,results119,go_sem]) rfl ⟨rfl,?_⟩;first
   |exact((ao _ w).alloc (aj _) _).alloc dt _
   |exact(a.setCell (p:=⟨w.heap.size+1,0,I⟩) dt _).setCell (p:=⟨w.heap.size+1,1,I⟩) dt _
 ·go_enter func119,ntmps119;go_wp2_with fail;refine ax (v:=aB #[cg #[J V 1,J V 0],ai true]) (by simp[aV,results119,go_sem]) rfl ⟨rfl,?_⟩;first
   |exact((ao _ w).alloc (aj _) _).alloc dt _
   |exact(a.setCell (p:=⟨w.heap.size+1,0,I⟩) dt _).setCell (p:=⟨w.heap.size+1,1,I⟩) dt _
 ·go_enter func119,ntmps119;go_wp2_with fail;refine ax (v:=aB #[cg #[J V 2,J V s],ai true]) (by simp[aV,results119,go_sem]) rfl ⟨rfl,?_⟩;first
   |exact((ao _ w).alloc (aj _) _).alloc dt _
   |exact(a.setCell (p:=⟨w.heap.size+1,0,I⟩) dt _).setCell (p:=⟨w.heap.size+1,1,I⟩) dt _
 ·go_enter func119,ntmps119;go_wp2_with fail;refine ax (v:=aB #[cg #[J V 3,J V s],ai true]) (by simp[aV,results119,go_sem]) rfl ⟨rfl,?_⟩;first
   |exact((ao _ w).alloc (aj _) _).alloc dt _
   |exact(a.setCell (p:=⟨w.heap.size+1,0,I⟩) dt _).setCell (p:=⟨w.heap.size+1,1,I⟩) dt _
section
theorem N4:(af.info? 101).map (λi=>(i.zero,i.size,i.bytes))=Z (Z (cg #[J V 0,J V 0,J V 0,ai false,J bI 0,J aN 0,J ar 0,J ar 0,ae I 0 0,ai false,J aN 0,ae I 0 0,ae I 0 0]),13,120):=cC
theorem Pg:(af.info? 91).map (·.size)=Z 2:=cC
theorem set_set{α β:Type}[DecidableEq α](f:α->β)(k:α)(a b:β):M.set (M.set f k a) k b=M.set f k b:=by
 funext x;unfold M.set;split<;>simp_all
theorem y9(r:M.Room)(x:Int):r.ik x=tJ r.bh (λs=>s.cL&&decide (s.jo=x)):=by
 unfold M.Room.ik tJ;refine List.filter_congr λs _=>?_;unfold oR;cases r.bh s<;>rfl
theorem Lp(b:M.mf)(aG n now:Int)(id:Nat):(b.push aG n now id).2=10\/(b.push aG n now id).2=9\/(b.push aG n now id).2=8\/(b.push aG n now id).2=0:=by
 unfold M.mf.push;split
 ·exact .inl rfl
 ·split
  ·exact .inr (.inl rfl)
  ·split
   ·exact .inr (.inr (.inl rfl))
   ·exact .inr (.inr (.inr rfl))
def xo(bk:Bk)(bh:List Int)(id k:Nat):Bk:=λs=>if s∈bh.take k then M.set (bk s) id (Z 0) else bk s
theorem Js{bk:Bk}{bh:List Int}{id k:Nat}{s:Int}(b:bh.Nodup)(a:bh[k]? = Z s):M.set (xo bk bh id k) s (M.set (xo bk bh id k s) id (Z 0))=xo bk bh id (k+1):=by
 have c:s∉bh.take k:=λq=>by
  obtain⟨j,d,e⟩:=ed q;have h1:=(List.getElem?_eq_some_iff.1 a).1;have f:j<k:=by rw[ix]at d;omega
  have g:bh[j]? = Z s:=by rw[sx]at e;rw[ay z,e]
  have h3:j=k:=(List.getElem?_inj (by omega:j<bh.length) b).1 (g.trans a.symm);omega
 funext x;unfold xo M.set;rw[ee,a];by_cases e:x=s
 ·subst e;simp[c]
 ·simp[e]
theorem LA(bk:Bk)(bh:List Int)(id:Nat):xo bk bh id bh.length=λs=>if s∈bh then M.set (bk s) id (Z 0) else bk s:=by
 unfold xo;rw[cT]
section
variable {B:RB} {R:M.Room} {N:Nat} {w w':aw} (h:aL w B R N)
include h
theorem aL.um{o:M.bN}{s s':M.eu}{S:SB}(c:R.az o=Z s)(a:B.sb o=Z S)(i:Nat)(v:Value)(j:kI S s'=(kI S s).setIfInBounds i v)(e:s'.bQ=s.bQ)
  (hg:-100000*(N:Int)<=s'.dv/\s'.dv<=100000*(N:Int)+200000) (k:0<=s'.dJ.fH/\s'.dJ.fH<=N) (ht:0<=s'.dJ.gB/\s'.dJ.gB<=N) :
  aL (w.setCell ⟨S.g,i,I⟩ v) B { R with az:=M.set R.az o (Z s') } N/\fK w (w.setCell ⟨S.g,i,I⟩ v) B B:=by
 obtain⟨S',d,b⟩:=h.iB c;rw[a]at d;cases d;have z0:=b.cells (s':=s') (N':=N) ((Fr.refl (One S.g) _).setCell b.cw (.inl rfl) aR aR i v) (by rw[j];exact b.cw.bC i v) e hg k ht;have f:=h.nL c a z0.2 z0.1 rfl (λi q=>.inl q);rw[qR B.sb o (Z S) a]at f;exact f
theorem aL.wk{b:Value}{a:M.kM}{q:List (List Value)}(f:Fr (λi=>B.pv.ownBlock=Z i\/i=B.g) w w')(own:w'.ownsRow 0 101 13 b (R.aO.length+1) q.flatten)(fit:Fit (uJ w') (R.aO++[a]) q)
  (e:aK w' B.g 61 ((oS B R).setIfInBounds 14 b)) (c:∀j,b.ownBlock=Z j->B.pv.ownBlock=Z j\/w.heap.size<=j) :
  aL w' { B with pv:=b } { R with aO:=R.aO++[a] } (N+1)/\fK w w' B { B with pv:=b }:=by
 have hm:=h.mono (cZ N);refine hm.IW (λY=>Y=.aG\/Y=.aO) .aO (f.mono λi _ q=>?_) ?_ rfl ?_ ?_ { hm.et with aO:=by have:=h.et.aO;simp;omega }
 ·rcases q with q|q
  ·exact⟨.aO,.inr rfl,q⟩
  ·exact⟨.aG,.inl rfl,q⟩
 ·rintro Y (rfl|rfl)
  ·exact e
  ·exact⟨q,by simpa using own,fit⟩
 ·intro Y d k;cases Y with
  |aG=>exact absurd (.inl rfl) d
  |aO=>exact absurd (.inr rfl) d
  |_=>exact k
 ·intro Y i hi;cases Y with
  |aO=>exact(c i hi).imp id (λq=>⟨rfl,q⟩)
  |_=>exact .inl hi
theorem Dz(o:M.bN)(p:M.cR)(sp C d:Sl)(st:M.eu)(hs:R.az o=Z st)(m:iT w p sp C d)(hk:np R)(UM:∀s,R.di s R.aO.length=I)(ho:(0<=o.1/\o.1<3)/\0<=o.2/\o.2<3)(hN:N<900000) :
  aF af 124 #[aq (Z ⟨B.g,0,I⟩),cg #[J V o.1,J V o.2],cg #[ai p.dR,J bI p.type,J aN p.dQ,J ar p.aU,J ar p.bJ,ae sp.a sp.n sp.c,ai p.has,J aN p.bV,ae C.a C.n C.c,ae d.a d.n d.c]] w (kk B w (aB #[]) (R.je o p) (N+9)):=by
 obtain⟨i0,hi,UN,UO,UP⟩:=cY N4;obtain⟨HI,UQ,UR,US⟩:=cA hi UN UO UP;clear hi UN UO UP;obtain⟨res,Ti⟩:=dH (R.je o p);rw[<-Ti];rw[M.mS,hs]at Ti;obtain⟨n,hn⟩:=dH (if st.any then M.jL st.dv p.dQ else M.nE p.dQ);replace Ti:res=M.fE (M.ka R o st p n (st.bQ.push R.dA.eJ n R.cJ R.aO.length).1 (R.ik o.1)) R.aO.length (R.ik o.1) (st.bQ.push R.dA.eJ n R.cJ R.aO.length).2:=by rw[Ti,hn]
 obtain⟨S,hS,D⟩:=h.iB hs;have VX:=D.uE;have UT:=m.dQ;have TI:-100000*((N+1:Nat):Int)<=n/\n<=100000*((N+1:Nat):Int)+200000:=by
  rw[hn];split
  ·have:=BD st.dv p.dQ;omega
  ·unfold M.nE;omega
 obtain⟨UU,HS,HN,Ur,HK,VD,H0,G⟩:=qh Ti (dj hs hS) hn TI hk UM h m;have Tl:=h.lt;have UW:=h.et.aO;clear h Ti hs m hk UM hn D TI;go_enter func124,ntmps124;go_upto_region 1 with fail;obtain⟨r4,e4⟩:=dH w.heap.size;obtain⟨r5,e5⟩:=dH (w.heap.size+1);rw[<-e5,<-e4];have al:aC w ((w.alloc (.cells #[J V o.1,J V o.2] 91)).alloc (.cells #[ai p.dR,J bI p.type,J aN p.dQ,J ar p.aU,J ar p.bJ,ae sp.a sp.n sp.c,ai p.has,J aN p.bV,ae C.a C.n C.c,ae d.a d.n d.c] 76)):=((ao _ w).alloc (aj _) _).alloc dt _;have UX:∀i,B.all i->i≠r4/\i≠r5:=λi hi=>by have:=Tl i hi;exact⟨z,z⟩
 have Tm:=au UX;refine aW (λX=>(aK X r4 91 #[J V o.1,J V o.2]/\aK X r5 76 #[ai p.dR,J bI p.type,J aN p.dQ,J ar p.aU,J ar p.bJ,ae sp.a sp.n sp.c,ai p.has,J aN p.bV,ae C.a C.n C.c,ae d.a d.n d.c])/\aL X B R N/\iT X p sp C d/\aC w X) ⟨⟨(aK.newAt _ _ _ _ e4).alloc _,aK.newAt _ _ _ _ (by simp[e5])⟩,H0.O.below al,G.O.below al,al⟩ ?_;clear e4 e5 al H0 G Tl UX;rintro X ⟨⟨b4,b5⟩,h,m,al⟩;have UY:=h.cw.cell 13;have y0:=b4.cell 0;have y1:=b4.cell 1;simp at UY y0 y1;have VE:(cD 55 (.map (Z B.sm)) (cg #[J V o.1,J V o.2]) false).run af X.drew=.ok (aq (Z ⟨S.g,0,I⟩)) X.drew:=by
  have L:=(h.below (eW (ao X.drew.heap.size X.drew))).jU o (ir ⟨z,z⟩ ⟨z,z⟩);rw[HS.O.2]at L;exact L
 obtain⟨E,F,U,G,HA⟩:=gY b4 b5 h m al;clear b4 b5 h m al;go_cut [6] (λv wc=>v=aq (Z ⟨S.g,0,I⟩)/\(aK wc r4 91 #[J V o.1,J V o.2]/\aK wc r5 76 #[ai p.dR,J bI p.type,J aN p.dQ,J ar p.aU,J ar p.bJ,ae sp.a sp.n sp.c,ai p.has,J aN p.bV,ae C.a C.n C.c,ae d.a d.n d.c])/\aL wc B R N/\iT wc p sp C d/\aC w wc);case first =>
  go_region;all_goals
   go_wp2_with fail;go_meet;have bd:=eW (ao X.drew.heap.size X.drew);exact⟨rfl,⟨E.O.drew,F.O.drew⟩,U.O.below bd,G.O.below bd,HA.O.trans (bd.mono HA.O.size)⟩
 case rest =>
 obtain⟨rfl,⟨b4,b5⟩,h,m,al⟩:=hcut;clear E F U G HA UY y0 y1 VE;have UZ:(Lit.int aN p.dQ).wf=true:=by have:=m.dQ;exact OV this
 have k2:=b5.cell 2;obtain⟨S',e',D⟩:=h.iB HS.O.1;rw[HS.O.2]at e';cases e';have q1:=D.cw.cell 1;have q2:=D.cw.cell 2;simp at k2 q1 q2;obtain⟨E,F,U,G,HA⟩:=gY b4 b5 h m al;clear b4 b5 h m al D;go_upto_if 28 with(go_at_call 181;refine(Oa _ _ UT).mono ?_;rintro e w9 ⟨rfl,e9⟩;have e9:=e9.symm;subst e9)
 go_cut [7] (λv wd=>v=J V n/\(aK wd r4 91 #[J V o.1,J V o.2]/\aK wd r5 76 #[ai p.dR,J bI p.type,J aN p.dQ,J ar p.aU,J ar p.bJ,ae sp.a sp.n sp.c,ai p.has,J aN p.bV,ae C.a C.n C.c,ae d.a d.n d.c])/\aL wd B R N/\iT wd p sp C d/\aC w wd);case first =>
  cases ha:st.any with
  |false =>
   have e:n=M.nE p.dQ:=by rw[HN.O,ha];rfl
   have HE:=au e;clear e ha;go_wp2_with fail;go_meet;exact⟨by rw[HE.O],⟨E.O,F.O⟩,U.O,G.O,HA.O⟩
  |true =>
   have e:n=M.jL st.dv p.dQ:=by rw[HN.O,ha];rfl
   have HE:=au e;clear e ha;go_wp2_with fail;go_region_with (go_at_call 182;refine(MM _ _ _ ⟨z,z⟩).mono ?_;rintro e w9 ⟨rfl,e9⟩;have e9:=e9.symm;subst e9);all_goals
    go_wp2_with fail;go_meet;have bd:=eW (ao wc.drew.heap.size wc.drew);exact⟨by rw[HE.O],⟨E.O.drew,F.O.drew⟩,U.O.below bd,G.O.below bd,HA.O.trans (bd.mono HA.O.size)⟩
 case rest =>
 obtain⟨rfl,⟨b4,b5⟩,h,m,al⟩:=hcut;clear E F U G HA k2 q1 q2 UZ HN;obtain⟨S',e',D⟩:=h.iB HS.O.1;rw[HS.O.2]at e';cases e';obtain⟨g,hg⟩:=dH (if !st.any||decide (st.dv<n) then n else st.dv);obtain⟨s1,U0⟩:=dH ({ st with any:=true,dv:=g }:M.eu);have q1:=D.cw.cell 1;have q2:=D.cw.cell 2;have f1:=D.cw.frozen 1;have f2:=D.cw.frozen 2;simp at q1 q2;obtain⟨HG,Tw⟩:=bu hg U0;have n4:r4≠S.g:=λq=>(Tm.O S.g ⟨.fO o,S,HS.O.2,.inl rfl⟩).1 q.symm;have n5:r5≠S.g:=λq=>(Tm.O S.g ⟨.fO o,S,HS.O.2,.inl rfl⟩).2 q.symm;have TJ:(M.set R.az o (Z { st with dv:=g })) o=Z { st with dv:=g }:=M.dY _ _ _;have Us:=D.fH;have T8:=D.gB;obtain⟨E,F,U,G,HA⟩:=gY b4 b5 h m al;have TI:=Ur.O;clear b4 b5 h m al hg U0 D;obtain⟨up,U1⟩:=dH (!st.any||decide (st.dv<n));have TM:=au U1;clear U1;go_upto_region 5 with fail;go_cut [49] (λv wd=>v=ai up/\wd=wc);case first =>
  cases ha:st.any with
  |false =>
   have e:up=true:=by rw[TM.O,ha];rfl
   rw[ha]at q1;have HE:=au e;clear e ha;go_wp2_with fail;go_meet;exact⟨by rw[HE.O],rfl⟩
  |true =>
   have e:up=decide (st.dv<n):=by rw[TM.O,ha];rfl
   rw[ha]at q1;have HE:=au e;clear e ha;go_wp2_with fail;go_meet;exact⟨by rw[HE.O],rfl⟩
 case rest =>
 obtain⟨rfl,rfl⟩:=hcut;go_upto_if 49 with fail;go_cut [] (λwd=>(aK wd r4 91 #[J V o.1,J V o.2]/\aK wd r5 76 #[ai p.dR,J bI p.type,J aN p.dQ,J ar p.aU,J ar p.bJ,ae sp.a sp.n sp.c,ai p.has,J aN p.bV,ae C.a C.n C.c,ae d.a d.n d.c])/\aL wd B { R with az:=M.set R.az o (Z { st with dv:=g }) } (N+1)/\iT wd p sp C d/\fK w wd B B);case first =>
  cases up with
  |true =>
   have e:g=n:=by rw[HG.O,<-TM.O];rfl
   have L:=(U.O.mono (cZ N)).um (s':={ st with dv:=n }) HS.O.1 HS.O.2 2 (J V n) rfl rfl ⟨TI.1,TI.2⟩ ⟨Us.1,by show st.dJ.fH<=((N+1:Nat):Int);omega⟩ ⟨T8.1,by show st.dJ.gB<=((N+1:Nat):Int);omega⟩;obtain⟨HZ,HE⟩:=bu L e;clear L e;go_wp2_with fail;go_meet;exact⟨⟨E.O.dS (p:=⟨S.g,2,I⟩) n4 _,F.O.dS (p:=⟨S.g,2,I⟩) n5 _⟩,by rw[HE.O];exact HZ.O.1,G.O.rows HZ.O.2.fr.r,(fK.fN B HA.O).trans HZ.O.2⟩
  |false =>
   have e:g=st.dv:=by rw[HG.O,<-TM.O];rfl
   have e2:({ R with az:=M.set R.az o (Z { st with dv:=g }) }:M.Room)=R:=by
    have e3:M.set R.az o (Z { st with dv:=g })=R.az:=qR _ _ _ (by rw[e];exact HS.O.1);rw[e3]
   have HE:=au e2;clear e e2;go_wp2_with fail;go_meet;exact⟨⟨E.O,F.O⟩,by rw[HE.O];exact U.O.mono (cZ N),G.O,fK.fN B HA.O⟩
 case rest =>
 obtain⟨⟨b4,b5⟩,h,m,TN⟩:=hcut;clear q1 q2 f1 f2 E F U G HA TM;obtain⟨S',e',D⟩:=h.iB TJ;rw[HS.O.2]at e';cases e';have q1:=D.cw.cell 1;have f1:=D.cw.frozen 1;have L:=h.um (s':=s1) TJ HS.O.2 1 (ai true) (by rw[Tw.O];rfl) (by rw[Tw.O]) (by rw[Tw.O];exact D.uE) (by rw[Tw.O];exact D.fH) (by rw[Tw.O];exact D.gB);rw[set_set]at L;obtain⟨R1,Ut⟩:=dH ({ R with az:=M.set R.az o (Z s1) }:M.Room);have z1:aL (wc.setCell ⟨S.g,1,I⟩ (ai true)) B R1 (N+1):=by rw[Ut];exact L.1
 have z2:=TN.trans L.2;have z3:=m.rows L.2.fr.r;obtain⟨HZ,E,F,Ts⟩:=cA (dj z1 (dj z2 z3)) b4 b5 Ut;simp at q1;clear L z1 z2 z3 h m TN b4 b5 Ut D TJ;go_upto_region 8 with fail;refine aW (λY=>(aK Y r4 91 #[J V o.1,J V o.2]/\aK Y r5 76 #[ai p.dR,J bI p.type,J aN p.dQ,J ar p.aU,J ar p.bJ,ae sp.a sp.n sp.c,ai p.has,J aN p.bV,ae C.a C.n C.c,ae d.a d.n d.c])/\aL Y B R1 (N+1)/\iT Y p sp C d/\fK w Y B B) ⟨⟨E.O.dS (p:=⟨S.g,1,I⟩) n4 _,F.O.dS (p:=⟨S.g,1,I⟩) n5 _⟩,HZ.O.1,HZ.O.2.2,HZ.O.2.1⟩ ?_;clear HZ E F q1 f1 n4 n5 wc;rintro X ⟨⟨b4,b5⟩,h,m,TN⟩;obtain⟨qp,own,fit⟩:=(h.part .aO:∃q,X.ownsRow 0 101 13 B.pv R1.aO.length q.flatten/\Fit (uJ X) R1.aO q);have To:R1.aO=R.aO:=by rw[Ts.O]
 rw[To]at own fit;obtain⟨TC,m14,Uu⟩:=bA own;have TO:=h.cw.cell 14;have f14:=h.cw.frozen 14;simp at TO;rw[Uu]at TO;have Uv:=h.et.aO;rw[To]at Uv;have T9:¬(B.pv.ownBlock=Z r4\/r4=B.g):=by
  rintro(q|q)
  ·exact(Tm.O r4 ⟨.aO,q⟩).1 rfl
  ·exact(Tm.O r4 ⟨.aG,q⟩).1 rfl
 have Ua:¬(B.pv.ownBlock=Z r5\/r5=B.g):=by
  rintro(q|q)
  ·exact(Tm.O r5 ⟨.aO,q⟩).2 rfl
  ·exact(Tm.O r5 ⟨.aG,q⟩).2 rfl
 obtain⟨E,F,U,G,TP,HO,HF,TD⟩:=qh b4 b5 h m TN own fit Uu;clear b4 b5 h m TN own fit To Uu;go_upto_region 9 with fail;go_cut [] (λwc=>∃v',(aK wc r4 91 #[J V o.1,J V o.2]/\aK wc r5 76 #[ai p.dR,J bI p.type,J aN p.dQ,J ar p.aU,J ar p.bJ,ae sp.a sp.n sp.c,ai p.has,J aN p.bV,ae C.a C.n C.c,ae d.a d.n d.c])/\aL wc { B with pv:=v' } { R1 with aO:=R.aO++[⟨o,n,p⟩] } (N+2)/\iT wc p sp C d/\fK w wc B { B with pv:=v' }/\∀i,({ B with pv:=v' }:RB).all i->i≠r4/\i≠r5);case first =>
  refine wp_region_held_drew (S:=λW=>Fr (λi=>B.pv.ownBlock=Z i\/i=B.g) X.drew W) cC (Fr.refl _ _) (λhH=>?_);refine fS 0 (aq (Z ⟨B.g,0,I⟩)) rfl hH ?_;try simp only[aA,jY,jX,jW]
  refine fS 1 (aq (Z ⟨B.g,0,I⟩)) rfl hH ?_;try simp only[aA,jY,jX,jW]
  refine fS 2 (aq (Z ⟨B.g,0,I⟩)) rfl hH ?_;try simp only[aA,jY,jX,jW]
  refine fS 3 (aq (Z ⟨B.g,14,I⟩)) rfl hH ?_;try simp only[aA,jY,jX,jW]
  refine Fj 5 _ rfl (eS jP 91 (.tmp 4) rfl r4 0 rfl (#[J V o.1,J V o.2]:Array Value).toList _ (λW hW j v hv=>by rw[cO,(E.O.drew.dW hW.u T9).cell];simpa using hv) underlying91 rfl Pg) hH ?_;try simp only[aA,jY,jX,jW]
  refine fS 6 (J V n) rfl hH ?_;try simp only[aA,jY,jX,jW]
  refine Fj 7 _ rfl (eS jP 76 (.tmp 5) rfl r5 0 rfl (#[ai p.dR,J bI p.type,J aN p.dQ,J ar p.aU,J ar p.bJ,ae sp.a sp.n sp.c,ai p.has,J aN p.bV,ae C.a C.n C.c,ae d.a d.n d.c]:Array Value).toList _ (λW hW j v hv=>by rw[cO,(F.O.drew.dW hW.u Ua).cell];simpa using hv) underlying76 rfl Tryz.zf) hH ?_;try simp only[aA,jY,jX,jW]
  refine fS 8 (cg #[J V o.1,J V o.2,J V n,ai p.dR,J bI p.type,J aN p.dQ,J ar p.aU,J ar p.bJ,ae sp.a sp.n sp.c,ai p.has,J aN p.bV,ae C.a C.n C.c,ae d.a d.n d.c]) rfl hH ?_;try simp only[aA,jY,jX,jW]
  have Uk:∀L∈(#[J V o.1,J V o.2,J V n,ai p.dR,J bI p.type,J aN p.dQ,J ar p.aU,J ar p.bJ,ae sp.a sp.n sp.c,ai p.has,J aN p.bV,ae C.a C.n C.c,ae d.a d.n d.c]:Array Value).toList,L.oneCell'=true:=by intro u hu;simp at hu;repeat (first|(subst hu;rfl)|(rcases hu with rfl|hu;rfl))
  have U2:X.drew.cell? ⟨B.g,14,I⟩=Z (ae TC R.aO.length m14):=TO;have VV:(X.drew.alloc (.cells #[J V o.1,J V o.2,J V n,ai p.dR,J bI p.type,J aN p.dQ,J ar p.aU,J ar p.bJ,ae sp.a sp.n sp.c,ai p.has,J aN p.bV,ae C.a C.n C.c,ae d.a d.n d.c] 101)).cell? ⟨B.g,14,I⟩=Z (ae TC R.aO.length m14):=ea U2;have VW:(X.alloc (.cells #[J V o.1,J V o.2,J V n,ai p.dR,J bI p.type,J aN p.dQ,J ar p.aU,J ar p.bJ,ae sp.a sp.n sp.c,ai p.has,J aN p.bV,ae C.a C.n C.c,ae d.a d.n d.c] 101)).drew.cell? ⟨B.g,14,I⟩=Z (ae TC R.aO.length m14):=cE (ea TO);have U3:(X.drew.alloc (.cells #[J V o.1,J V o.2,J V n,ai p.dR,J bI p.type,J aN p.dQ,J ar p.aU,J ar p.bJ,ae sp.a sp.n sp.c,ai p.has,J aN p.bV,ae C.a C.n C.c,ae d.a d.n d.c] 101)).ownsRow 0 101 13 (ae TC R.aO.length m14) R.aO.length qp.flatten:=eH (gI (by rw[<-TD.O];exact HO.O) (eW (ao _ _))) _;obtain⟨Ul,TE⟩:=bu Uk U3;clear Uk U3;refine cH (rs:=[4,9]) cC dt ?_;refine bH rfl (λK hK=>?_) ?_
  ·skip;rw[if_pos jP];go_simp;refine hK.out _ _ (hH) (λUw=>?_);clear hK K;try simp only[aA,jY,jX,jW]
   refine cH (rs:=[9]) cC dt ?_;refine bH rfl (λK hK=>?_) cy;rw[if_pos jP];go_simp;refine hK.out _ _ (Uw.alloc _) (λVF=>?_);clear hK K;try simp only[aA,jY,jX,jW]
   refine cH (rs:=[10]) cC dt ?_;refine bH rfl (λK hK=>?_) cy;refine lT _ jP (.tmp 66) (.tmp 71) 56 jP 0 101 i0 _ 13 120 underlying56 HI.O UQ.O UR.O US.O rfl aR (ae TC R.aO.length m14) R.aO.length qp.flatten jP TE.O ⟨X.drew.heap.size,0,I⟩ 1 1 (#[J V o.1,J V o.2,J V n,ai p.dR,J bI p.type,J aN p.dQ,J ar p.aU,J ar p.bJ,ae sp.a sp.n sp.c,ai p.has,J aN p.bV,ae C.a C.n C.c,ae d.a d.n d.c]:Array Value).toList jP rfl (fB X.drew 101 _) Ul.O ui z dt ?_;intro v5 w5 Tp g5 Tq;obtain⟨A6,c6,rfl⟩:=bA Tp;have Tu:aK w5 B.g 61 (oS B R1):=mQ TE.O g5 aR _ _ ((U.O.cw.drew).alloc _);have c5:=Tu.cell 14;have f5:=Tu.frozen 14;simp at c5;have f9:Fr (λi=>B.pv.ownBlock=Z i\/i=B.g) X.drew w5:=((Fr.refl _ X.drew).alloc _).step (Fr.nY (eT g5) (ib TE.O) aR aR) (λi q=>.inl (.inl (by rw[TD.O];exact q)));obtain⟨Ux,H,TQ,Uy⟩:=cA f9 Tu Tp Tq;clear Tu Tp g5 Tq;refine hK.out _ _ f9 (λTR=>?_);clear hK K f9;try simp only[aA,jY,jX,jW]
   refine fS 11 (aq (Z ⟨B.g,0,I⟩)) rfl TR ?_;try simp only[aA,jY,jX,jW]
   refine fS 12 (aq (Z ⟨B.g,14,I⟩)) rfl TR ?_;try simp only[aA,jY,jX,jW]
   refine cH (rs:=[13]) cC dt ?_;refine bH rfl (λK hK=>?_) cy;rw[if_pos jP];go_simp;refine hK.out _ _ (Ux.O.setCell H.O (.inl (.inr rfl)) aR aR 14 _) (λUz=>?_);clear hK K;try simp only[aA,jY,jX,jW]
   refine gV cC ?_ _;go_wp2_with fail;go_meet;have fX:Fr (λi=>B.pv.ownBlock=Z i\/i=B.g) X (w5.setCell ⟨B.g,14,I⟩ (ae A6 (R.aO.length+1) c6)):=((Fr.refl _ X).drew).trans Uz;have TS:=kJ TQ.O (ej TQ.O H.O aR) 14 (ae A6 (R.aO.length+1) c6);have To:R1.aO=R.aO:=by rw[Ts.O]
   have L:=U.O.wk (a:=⟨o,n,p⟩) (q:=qp++[(#[J V o.1,J V o.2,J V n,ai p.dR,J bI p.type,J aN p.dQ,J ar p.aU,J ar p.bJ,ae sp.a sp.n sp.c,ai p.has,J aN p.bV,ae C.a C.n C.c,ae d.a d.n d.c]:Array Value).toList]) fX (by rw[To];simpa using TS) (by rw[To];exact Fit.snoc (HF.O.mono λx c k=>k.rows fX.r) ⟨sp,C,d,rfl,G.O.rows fX.r⟩) (H.O.bC 14 _) (λj hj=>(Uy.O j hj).imp (λq=>by rw[TD.O];exact q) (λq=>aP (by simp[World.drew]) q));rw[To]at L;refine⟨_,⟨E.O.dW fX.u T9,F.O.dW fX.u Ua⟩,L.1,G.O.rows fX.r,TP.O.trans L.2,λi hi=>?_⟩;have l4:=E.O.lt;have l5:=F.O.lt;rcases L.2.own i hi with q|q
   ·exact Tm.O i q
   ·exact⟨z,z⟩
  ·refine bH rfl (λK hK=>?_) cy;rw[if_pos jP];go_simp;refine hK.out _ _ (hH.alloc _) (λUw=>?_);clear hK K;try simp only[aA,jY,jX,jW]
   refine cH (rs:=[4]) cC dt ?_;refine bH rfl (λK hK=>?_) cy;rw[if_pos jP];go_simp;refine hK.out _ _ (Uw) (λVF=>?_);clear hK K;try simp only[aA,jY,jX,jW]
   refine cH (rs:=[10]) cC dt ?_;refine bH rfl (λK hK=>?_) cy;refine lT _ jP (.tmp 66) (.tmp 71) 56 jP 0 101 i0 _ 13 120 underlying56 HI.O UQ.O UR.O US.O rfl aR (ae TC R.aO.length m14) R.aO.length qp.flatten jP TE.O ⟨X.drew.heap.size,0,I⟩ 1 1 (#[J V o.1,J V o.2,J V n,ai p.dR,J bI p.type,J aN p.dQ,J ar p.aU,J ar p.bJ,ae sp.a sp.n sp.c,ai p.has,J aN p.bV,ae C.a C.n C.c,ae d.a d.n d.c]:Array Value).toList jP rfl (fB X.drew 101 _) Ul.O ui z dt ?_;intro v5 w5 Tp g5 Tq;obtain⟨A6,c6,rfl⟩:=bA Tp;have Tu:aK w5 B.g 61 (oS B R1):=mQ TE.O g5 aR _ _ ((U.O.cw.drew).alloc _);have c5:=Tu.cell 14;have f5:=Tu.frozen 14;simp at c5;have f9:Fr (λi=>B.pv.ownBlock=Z i\/i=B.g) X.drew w5:=((Fr.refl _ X.drew).alloc _).step (Fr.nY (eT g5) (ib TE.O) aR aR) (λi q=>.inl (.inl (by rw[TD.O];exact q)));obtain⟨Ux,H,TQ,Uy⟩:=cA f9 Tu Tp Tq;clear Tu Tp g5 Tq;refine hK.out _ _ f9 (λTR=>?_);clear hK K f9;try simp only[aA,jY,jX,jW]
   refine fS 11 (aq (Z ⟨B.g,0,I⟩)) rfl TR ?_;try simp only[aA,jY,jX,jW]
   refine fS 12 (aq (Z ⟨B.g,14,I⟩)) rfl TR ?_;try simp only[aA,jY,jX,jW]
   refine cH (rs:=[13]) cC dt ?_;refine bH rfl (λK hK=>?_) cy;rw[if_pos jP];go_simp;refine hK.out _ _ (Ux.O.setCell H.O (.inl (.inr rfl)) aR aR 14 _) (λUz=>?_);clear hK K;try simp only[aA,jY,jX,jW]
   refine gV cC ?_ _;go_wp2_with fail;go_meet;have fX:Fr (λi=>B.pv.ownBlock=Z i\/i=B.g) X (w5.setCell ⟨B.g,14,I⟩ (ae A6 (R.aO.length+1) c6)):=((Fr.refl _ X).drew).trans Uz;have TS:=kJ TQ.O (ej TQ.O H.O aR) 14 (ae A6 (R.aO.length+1) c6);have To:R1.aO=R.aO:=by rw[Ts.O]
   have L:=U.O.wk (a:=⟨o,n,p⟩) (q:=qp++[(#[J V o.1,J V o.2,J V n,ai p.dR,J bI p.type,J aN p.dQ,J ar p.aU,J ar p.bJ,ae sp.a sp.n sp.c,ai p.has,J aN p.bV,ae C.a C.n C.c,ae d.a d.n d.c]:Array Value).toList]) fX (by rw[To];simpa using TS) (by rw[To];exact Fit.snoc (HF.O.mono λx c k=>k.rows fX.r) ⟨sp,C,d,rfl,G.O.rows fX.r⟩) (H.O.bC 14 _) (λj hj=>(Uy.O j hj).imp (λq=>by rw[TD.O];exact q) (λq=>aP (by simp[World.drew]) q));rw[To]at L;refine⟨_,⟨E.O.dW fX.u T9,F.O.dW fX.u Ua⟩,L.1,G.O.rows fX.r,TP.O.trans L.2,λi hi=>?_⟩;have l4:=E.O.lt;have l5:=F.O.lt;rcases L.2.own i hi with q|q
   ·exact Tm.O i q
   ·exact⟨z,z⟩
 case rest =>
 obtain⟨v',⟨b4,b5⟩,h,m,TF,Tv⟩:=hcut;clear E F U G TP HO HF TD TO f14 Tm T9 Ua Uv;have TG:({ B with pv:=v' }:RB).g=B.g/\({ B with pv:=v' }:RB).bg=B.bg/\({ B with pv:=v' }:RB).bm=B.bm/\({ B with pv:=v' }:RB).t=B.t/\({ B with pv:=v' }:RB).sb=B.sb:=⟨rfl,rfl,rfl,rfl,rfl⟩;generalize ({ B with pv:=v' }:RB)=T at h TF Tv TG;obtain⟨Tt,Va,Vb,Vc,Vd⟩:=TG;obtain⟨R2,Ub⟩:=dH ({ R1 with aO:=R.aO++[⟨o,n,p⟩] }:M.Room);rw[<-Ub]at h;have Uc:R2.bp=R.bp/\R2.dA=R.dA:=by rw[Ub,Ts.O];exact⟨rfl,rfl⟩
 have Ve:=h.et.fP;have Ud:=h.cw.cell 20;have f20:=h.cw.frozen 20;rw[Tt]at Ud f20;simp at Ud;rw[Uc.1]at Ve Ud;obtain⟨R3,UA⟩:=dH (R2.count (λc=>{ c with fP:=c.fP+1 }));have L:=h.ri 20 (λc=>{ c with fP:=c.fP+1 }) (J V (R.bp.fP+1)) (by unfold M.Room.count;rw[<-Uc.1];rfl) { h.et.mono (cZ _) with fP:=by show 0<=R2.bp.fP+1/\R2.bp.fP+1<=((N+2+1:Nat):Int);rw[Uc.1];omega };rw[<-UA,Tt]at L;have n4:r4≠B.g:=λq=>(Tv B.g ⟨.aG,by rw[<-Tt];rfl⟩).1 q.symm;have n5:r5≠B.g:=λq=>(Tv B.g ⟨.aG,by rw[<-Tt];rfl⟩).2 q.symm;have Um:R3={ R1 with aO:=R.aO++[⟨o,n,p⟩],bp:={ R1.bp with fP:=R1.bp.fP+1 } }:=by rw[UA,Ub];rfl
 obtain⟨TH,HZ,E,F,Tm,Tn⟩:=lH Um (dj L.1 (dj (TF.trans L.2) (m.rows L.2.fr.r))) b4 b5 Tv (dj Tt (dj Va (dj Vb (dj Vc Vd))));clear L b4 b5 h m TF Tv Uc Ub UA Um Tt Va Vb Vc Vd;go_upto_region 11 with fail;refine aW (λY=>(aK Y r4 91 #[J V o.1,J V o.2]/\aK Y r5 76 #[ai p.dR,J bI p.type,J aN p.dQ,J ar p.aU,J ar p.bJ,ae sp.a sp.n sp.c,ai p.has,J aN p.bV,ae C.a C.n C.c,ae d.a d.n d.c])/\aL Y T R3 (N+3)/\iT Y p sp C d/\fK w Y B T) ⟨⟨E.O.dS (p:=⟨B.g,20,I⟩) n4 _,F.O.dS (p:=⟨B.g,20,I⟩) n5 _⟩,HZ.O.1,HZ.O.2.2,HZ.O.2.1⟩ ?_;clear HZ E F Ud f20 n4 n5 Ve wc R2;rintro Y ⟨⟨b4,b5⟩,h,m,TF⟩;have Vf:np R3:=by
  have hk:=HK.O;rw[TH.O,Ts.O];exact⟨hk.iJ,hk.range,λs x q1 q2=>by
   obtain⟨a,b⟩:=hk.sub s x q1 q2
   exact⟨a,λi i0 i1=>by
    show(M.set R.az o (Z s1) (x.jo,i)).isSome=true
    rw[M.ur _ _ _ (by rw[HS.O.1];rfl)];exact b i i0 i1⟩⟩
 obtain⟨bh,Tj⟩:=dH (R.ik o.1);have Un:tJ R3.bh (λs=>s.cL&&decide (s.jo=o.1))=bh:=by
  rw[Tj,y9];have:R3.bh=R.bh:=by rw[TH.O,Ts.O]
  rw[this]
 have UB:=xQ T.t R3.cW R3.aQ R3.bh (N+3) Y.drew ((h.below (eW (ao Y.drew.heap.size Y.drew))).part .table) z Vf.may o.1;rw[Un,Tn.O.2.2.2.1]at UB;have Ue:=h.cw.cell 11;rw[Tn.O.1]at Ue;have k0:=b4.cell 0;simp at Ue k0;rw[Tn.O.2.2.2.1]at Ue;have Vg:bh.Nodup:=by rw[Tj];unfold M.Room.ik;exact List.Pairwise.filter _ (by unfold M.gF;decide)
 have Vh:∀s∈bh,0<=s/\s<6:=λs q=>by
  rw[Tj]at q;unfold M.Room.ik M.gF at q;rw[eL]at q;have:=q.1;simp at this;omega
 have VY:bh.length<=6:=by rw[Tj];unfold M.Room.ik;exact aP (eE _ _) (aj 6)
 obtain⟨Vi,Vj,Vk,Vl,E,F,U,G,Tx⟩:=By UB Vg Vh Tj b4 b5 h m TF;clear b4 b5 h m TF UB Vg Vh Tj Un Vf;go_cut [9] (λv wd=>∃A c,v=ae A bh.length c/\wd.ownsRow Y.heap.size 3 1 (ae A bh.length c) bh.length (bh.map (J V))/\aC Y wd);case first =>
  go_region_with (go_at_call 141;refine Vi.O.mono ?_;rintro e w9 ⟨v,rfl,own,b9⟩;obtain⟨A,c,rfl⟩:=bA own;have HO:=au own;have H:=au b9;clear own b9);all_goals
   go_wp2_with fail;go_meet;exact⟨A,c,rfl,HO.O,eW H.O⟩
 case rest =>
 obtain⟨A9,m9,rfl,own,bY⟩:=hcut;have h:=U.O.below bY;have b4:=E.O.kept bY;have b5:=F.O.kept bY;have m:=G.O.below bY;have P:=Tx.O.trans (fK.fN T bY);have Tl:∀i,T.all i->i<Y.heap.size:=U.O.lt;have Uf:=au Tl;clear E F U G Tx Vi Ue k0 Tl;obtain⟨E,F,U,G,Q,HO⟩:=lH b4 b5 h m P own;clear b4 b5 h m P own bY;have Uv:R.aO.length<=N:=UW;have Uo:R3.di=R.di:=by rw[TH.O,Ts.O]
 have Vm:=au Uo;clear Uo;go_wp2_with fail;go_loopw [93] (λi wr=>∃k:Nat,i=J V k/\k<=bh.length/\(aK wr r4 91 #[J V o.1,J V o.2]/\aK wr r5 76 #[ai p.dR,J bI p.type,J aN p.dQ,J ar p.aU,J ar p.bJ,ae sp.a sp.n sp.c,ai p.has,J aN p.bV,ae C.a C.n C.c,ae d.a d.n d.c])/\aL wr T { R3 with di:=xo R.di bh R.aO.length k } (N+3+k)/\iT wr p sp C d/\fK w wr B T/\wr.ownsRow Y.heap.size 3 1 (ae A9 bh.length m9) bh.length (bh.map (J V))) (λi _=>bh.length-(bS i).toNat);case atStart =>
  refine⟨0,rfl,z,⟨E.O,F.O⟩,?_,G.O,Q.O,HO.O⟩;have e:xo R.di bh R.aO.length 0=R3.di:=by rw[Vm.O];funext s;unfold xo;simp
  rw[e];exact U.O
 case round =>
 clear E F U G Q HO;obtain⟨k,rfl,hk,⟨b4,b5⟩,h,m,P,own⟩:=hrel;by_cases Tl:k<bh.length
 ·have VG:((k:Int)<(bh.length:Int)):=z;have hx:bh[k]? = Z bh[k]:=ay Tl;obtain⟨r9,rfl,q1,VH⟩:=uN own hx;have UC:=Vk.O bh[k] (dy Tl);have Tf:=Js (bk:=R.di) (id:=R.aO.length) Vj.O hx;have Ty:xo R.di bh R.aO.length k bh[k] R.aO.length=I:=by
   unfold xo;rw[if_neg]
   ·exact VD.O _
   ·intro q;obtain⟨j,hj,e⟩:=ed q;have VZ:j<k:=by rw[ix]at hj;omega
    rw[sx]at e;have:=(List.getElem?_inj (by omega:j<bh.length) Vj.O).1 (show bh[j]? = bh[k]? by rw[ay z,hx,e]);omega
  generalize bh[k]=s at hx q1 UC Tf Ty;have c0:=h.cw.cell 0;rw[Tn.O.1]at c0;simp at c0;rw[Tn.O.2.1]at c0;have TT:eD wr T.bg T.bm (xo R.di bh R.aO.length k) (N+3+k):=h.part .di;have Ug:=au (Fa T.bg T.bm (N+3+k) (xo R.di bh R.aO.length k) s R.aO.length wr TT ⟨z,z⟩ z Ty z);rw[Tf,Tn.O.2.1]at Ug;obtain⟨E,F,U,G,Q,HO,VI⟩:=lV b4 b5 h m P own TT;clear b4 b5 h m P own Tf Ty hx TT;go_wp2_with (go_at_call 183;refine Ug.O.mono ?_;rintro e w9 ⟨rfl,Tz,u9⟩;have H:=au Tz;have VJ:=au u9;clear Tz u9);have f9:Fr (One T.bm) wr w9:=Fr.jT VJ.O (λi hi=>VI.O.ni i (.inr hi));have L:=(U.O.mono (cZ _)).ve f9 (by rw[Tn.O.2.1];exact H.O);have HZ:=au L;have VK:¬One T.bm r4:=λq=>(Tm.O T.bm ⟨.di,.inr rfl⟩).1 q.symm;have VL:¬One T.bm r5:=λq=>(Tm.O T.bm ⟨.di,.inr rfl⟩).2 q.symm;clear L;go_roundw;case rel=>exact⟨k+1,by go_num,z,⟨E.O.dW f9.u VK,F.O.dW f9.u VL⟩,HZ.O.1,G.O.rows f9.r,Q.O.trans HZ.O.2,nh HO.O HZ.O.2.fr Uf.O⟩
  case measure=>simp[bS];omega
 have UD:k=bh.length:=z;subst UD;rw[LA]at h;obtain⟨R4,Uh⟩:=dH ({ R3 with di:=λs=>if s∈bh then M.set (R.di s) R.aO.length (Z 0) else R.di s }:M.Room);rw[<-Uh]at h;replace h:=h.mono (by omega:N+3+bh.length<=N+9);have TV:R4.az o=Z s1:=by rw[Uh,TH.O,Ts.O];exact M.dY _ _ _
 have UE:T.sb o=Z S:=by rw[Tn.O.2.2.2.2];exact HS.O.2
 obtain⟨ke,UF⟩:=dH (M.lx p.cF);obtain⟨s2,Vn⟩:=dH ({ s1 with jc:=s1.jc && !ke }:M.eu);obtain⟨S',e',D⟩:=h.iB TV;rw[UE]at e';cases e';have q7:=D.cw.cell 7;have f7:=D.cw.frozen 7;have k9:=b5.cell 9;simp at q7 k9;have Tt:=Ae d.a d.n d.c p.cF wr m.y.tl m.y.zero (by have:=m.small;have:=m.y.tl.len;omega);rw[<-UF]at Tt;obtain⟨Vo,VM,Tx,Vp,TA,U,Q,HO,Tg⟩:=By Tt UF Vn Uh (dj TV UE) h P own D;clear b4 b5 h m P own Tt UF Vn Uh TV UE D Tl;go_upto_if 109 with(go_at_call 24;refine Vo.O.mono ?_;rintro e w9 ⟨rfl,b9⟩;have H:=au b9;clear b9)
 have VN:=aM H.O q7;have VO:=(Tg.O.cw.kept H.O).frozen 7;clear q7 f7 k9;go_cut [] (λwd=>aL wd T { R4 with az:=M.set R4.az o (Z s2) } (N+9)/\fK w wd B T/\wd.ownsRow Y.heap.size 3 1 (ae A9 bh.length m9) bh.length (bh.map (J V)));case first =>
  cases ke with
  |true =>
   have e:s2={ s1 with jc:=false }:=by rw[Tx.O];simp
   have L:=(U.O.below H.O).um (s':=s2) TA.O.1 TA.O.2 7 (ai false) (by rw[e];rfl) (by rw[e]) (by rw[e];exact Tg.O.uE) (by rw[e];exact Tg.O.fH) (by rw[e];exact Tg.O.gB);have HZ:=au L;clear L e;go_wp2_with fail;go_meet;exact⟨HZ.O.1,(Q.O.trans (fK.fN T H.O)).trans HZ.O.2,nh (gI HO.O H.O) HZ.O.2.fr Uf.O⟩
  |false =>
   have e:s2=s1:=by rw[Tx.O];simp
   have e2:({ R4 with az:=M.set R4.az o (Z s2) }:M.Room)=R4:=by
    have e3:M.set R4.az o (Z s2)=R4.az:=qR _ _ _ (by rw[e];exact TA.O.1);rw[e3]
   have HE:=au e2;clear e e2;go_wp2_with fail;go_meet;exact⟨by rw[HE.O];exact U.O.below H.O,Q.O.trans (fK.fN T H.O),gI HO.O H.O⟩
 case rest =>
 obtain⟨h,P,own⟩:=hcut;clear VN VO H U Q HO Tg Vo;obtain⟨R5,TW⟩:=dH ({ R4 with az:=M.set R4.az o (Z s2) }:M.Room);rw[<-TW]at h;have TX:R5.az o=Z s2:=by rw[TW];exact M.dY _ _ _
 have Ui:R5.dA=R.dA/\R5.cJ=R.cJ:=by rw[TW,Vp.O,TH.O,Ts.O];exact⟨rfl,rfl⟩
 have Vq:s2.bQ=st.bQ:=by rw[Tx.O,Tw.O]
 have UG:T.sb o=Z S:=TA.O.2;have Vr:=h.et.cJ;rw[Ui.2]at Vr;have hD:=h.below (eW (ao wc.drew.heap.size wc.drew));obtain⟨S',e',D⟩:=hD.iB TX;rw[UG]at e';cases e';have UH:=E9 S.b R5.dA.eJ R5.dA.cX n R.cJ R.aO.length s2.bQ wc.drew D.buf ⟨by have:=Ur.O;omega,by have:=Ur.O;omega⟩ ⟨z,z⟩;obtain⟨pu,TY⟩:=dH (s2.bQ.push R5.dA.eJ n R.cJ R.aO.length);rw[<-TY]at UH;have c9:=h.cw.cell 9;rw[Tn.O.1]at c9;have q0:wc.cell? ⟨S.g,0,I⟩=_:=D.cw.cell 0;simp at c9 q0;rw[Ui.2]at c9;obtain⟨buf,er⟩:=pu;obtain⟨Vs,VP,VQ,Up,Vt,HD,Q,HO,Tg⟩:=By UH TY TW (dj TX UG) (dj Ui Vq) hD P own D;clear h P own hD D UH TY TW TX Ui Vq UG Vr;go_upto_region 20 with fail;go_cut [123] (λv wd=>v=J V er/\∃B',aL wd { T with sb:=M.set T.sb o (Z ⟨S.g,B'⟩) } { R5 with az:=M.set R5.az o (Z { s2 with bQ:=buf }) } (N+9)/\fK w wd B { T with sb:=M.set T.sb o (Z ⟨S.g,B'⟩) }/\wd.ownsRow Y.heap.size 3 1 (ae A9 bh.length m9) bh.length (bh.map (J V))/\∀i,({ T with sb:=M.set T.sb o (Z ⟨S.g,B'⟩) }:RB).all i->(Value.slice A9 bh.length m9).ownBlock≠Z i);case first =>
  go_region_with (go_at_call 184;refine Vs.O.mono ?_;rintro e w9 ⟨rfl,B',Tz,Uj,u9,Tk⟩;have HH:=au (dj Tz (dj Uj (dj u9 Tk)));clear Tz Uj u9 Tk);all_goals
   go_wp2_with fail;go_meet;obtain⟨Tz,Uj,u9,Tk⟩:=HH.O;have f9:Fr S.own wc.drew w9:=Fr.jT (u9.mono λi _ q=>.inr q) (λi hi=>Tg.O.ni i hi);have Vu:gh w9 ⟨S.g,B'⟩ R5.dA.eJ R5.dA.cX { s2 with bQ:=buf } (N+9):=by
    have hb:=Tg.O.cw.dW u9 (λq=>by
     have:=Tg.O.buf
     rcases q with q|q
     ·exact aK.jf Tg.O.cw this.cw aR q
     ·exact ej this.row Tg.O.cw aR q.symm)
    refine⟨?_,Tz,Tg.O.uE,Tg.O.fH,Tg.O.gB⟩;have e:kI ⟨S.g,B'⟩ { s2 with bQ:=buf }=kI S s2:=by simp[kI,Uj]
    rw[e];exact hb
   have L:=HD.O.nL Up.O.1 Up.O.2 f9 Vu rfl (λi q=>by
    rcases q with q|q
    ·exact .inl (.inl q)
    ·exact(Tk i q).imp (λy=>.inr y) id)
   exact⟨rfl,B',L.1,(Q.O.trans (fK.fN T (eW (ao _ _)))).trans L.2,nh (gI HO.O (eW (ao _ _))) L.2.fr Uf.O,λi hi e=>by
    have l:=HO.O.lt i e
    rcases L.2.own i hi with q|q
    ·have:=Uf.O i q;omega
    ·have q:wc.heap.size<=i:=q
     omega⟩
 case rest =>
 obtain⟨rfl,B',h,P,own,Tk⟩:=hcut;clear HD Q HO Tg Vs c9 q0;have TG:({ T with sb:=M.set T.sb o (Z ⟨S.g,B'⟩) }:RB).g=T.g/\({ T with sb:=M.set T.sb o (Z ⟨S.g,B'⟩) }:RB).bg=T.bg:=⟨rfl,rfl⟩;obtain⟨R6,UI⟩:=dH ({ R5 with az:=M.set R5.az o (Z { s2 with bQ:=buf }) }:M.Room);rw[<-UI]at h;have UJ:(buf,er)=st.bQ.push R.dA.eJ n R.cJ R.aO.length:=by rw[VP.O,Vt.O.1.1,Vt.O.2]
 have Uq:R6=M.ka R o st p n buf (R.ik o.1):=by
  rw[UI,VQ.O,Vp.O,TH.O,Ts.O,Tx.O,Tw.O,HG.O,VM.O,Vl.O];simp only[set_set];rfl
 have Ti:res=M.fE R6 R.aO.length bh er:=by rw[UU.O,<-UJ,<-Uq,<-Vl.O]
 have Vv:er=10\/er=9\/er=8\/er=0:=by
  have e:=Lp st.bQ R.dA.eJ n R.cJ R.aO.length;rw[<-UJ]at e;exact e
 generalize ({ T with sb:=M.set T.sb o (Z ⟨S.g,B'⟩) }:RB)=B3 at h P TG Tk;obtain⟨f,hf⟩:=dH (if er=10 then 3 else if er=9 then 2 else 6:Int);obtain⟨Vw,Vx,HF,U,Q,HO,Ug,UK⟩:=qh Ti Vv hf h P own Tk TG;clear Ti Vv hf h P own Uq UJ UI Tk TG;go_upto_block 2 with fail;go_cut [12] (λv wd=>v=J V f/\wd=wc/\er≠0);case first =>
  rcases Vx.O with he|he|he|he
  ·subst he;go_wp2_with fail;go_meet;exact⟨by rw[HF.O];rfl,rfl,aR⟩
  ·subst he;go_wp2_with fail;go_meet;exact⟨by rw[HF.O];rfl,rfl,aR⟩
  ·subst he;go_wp2_with fail;go_meet;exact⟨by rw[HF.O];rfl,rfl,aR⟩
  ·subst he;have e:res=R6:=Vw.O;have HE:=au e;clear e;go_wp2_with fail;refine ax (v:=aB #[]) (by simp[aV,results124,go_sem]) rfl ?_;exact⟨B3,rfl,by rw[HE.O];exact U.O,Q.O⟩
 case rest =>
 obtain⟨rfl,rfl,Vy⟩:=hcut;have hr:res=bh.foldl (λr s=>r.bR s R.aO.length f) R6:=by
  rw[Vw.O,HF.O];unfold M.fE;rcases Vx.O with he|he|he|he
  ·rw[he];rfl
  ·rw[he];rfl
  ·rw[he];rfl
  ·exact absurd he Vy
 have Vz:1<=f/\f<=8:=by rw[HF.O];split<;>(try split)<;>omega
 have VR:=au hr;clear hr Vy;go_wp2_with fail;go_loopw [132] (λi wr=>∃k:Nat,i=J V k/\k<=bh.length/\aL wr B3 ((bh.take k).foldl (λr s=>r.bR s R.aO.length f) R6) (N+9)/\fK w wr B B3/\wr.ownsRow Y.heap.size 3 1 (ae A9 bh.length m9) bh.length (bh.map (J V))) (λi _=>bh.length-(bS i).toNat);case atStart=>exact⟨0,rfl,z,U.O,Q.O,HO.O⟩
 case round =>
 clear U Q HO;obtain⟨k,rfl,hk,h,P,own⟩:=hrel;by_cases Tl:k<bh.length
 ·have VG:((k:Int)<(bh.length:Int)):=z;have hx:bh[k]? = Z bh[k]:=ay Tl;obtain⟨r9,rfl,q1,VH⟩:=uN own hx;have UC:=Vk.O bh[k] (dy Tl);have Tf:=M.lL (λr s=>M.Room.bR r s R.aO.length f) bh k bh[k] R6 hx;generalize bh[k]=s at hx q1 UC Tf;generalize (bh.take k).foldl (λr s=>M.Room.bR r s R.aO.length f) R6=Rk at h Tf;have c0:=h.cw.cell 0;rw[UK.O.1,Tn.O.1]at c0;simp at c0;rw[UK.O.2,Tn.O.2.1]at c0;have UL:=mz h s R.aO.length f ⟨z,z⟩ z Vz z;rw[UK.O.2,Tn.O.2.1]at UL;obtain⟨VS,VT,Q,HO⟩:=cA UL Tf P own;clear h P own UL Tf hx;go_wp2_with (go_at_call 114;refine VS.O.mono ?_;rintro e w9 ⟨rfl,VA,VB⟩;have VU:=au VA;have VC:=au VB;clear VA VB);go_roundw;case rel=>exact⟨k+1,by go_num,z,by rw[VT.O];exact VU.O,Q.O.trans VC.O,du HO.O VC.O.fr.u (λi hi q=>Ug.O i q hi)⟩
  case measure=>simp[bS];omega
 have UD:k=bh.length:=z;subst UD;rw[cT,<-VR.O]at h;obtain⟨U,Q⟩:=bu h P;clear h P own;go_wp2_with fail;first
  |refine dq (bT results124 _ _ _) rfl ?_
  |refine ax (v:=aB #[]) (by simp[aV,results124,go_sem]) rfl ?_
 exact⟨B3,rfl,U.O,Q.O⟩
end
end
end Go.Proofs.YtkfblammcilfhaaGreatDoor
