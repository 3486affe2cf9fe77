import Derived.Below
import Derived.Carry
import Derived.HandedShaped
import Derived.Handed
import Derived.LaidLaws
import Derived.Lay
import Derived.Stop.LaidErr
import Derived.MakeChecks
import Derived.Shelf.Vars
import Derived.Lib.LaidTab
import Derived.Test.YtkfblammcilfhaaGreatDoorP16
import Derived.Test.YtkfblammcilfhaaGreatDoorP19
set_option linter.all false
set_option maxRecDepth 100000
set_option maxHeartbeats 100000000
open Go.ChangeShapes Go.WideShapes Go.ChangeAt Go.RowKit Go.Proofs.Tryz
open List renaming range->kq,filter_append->ju,length_append->cG,length_map->gP,pairwise_map->sw,mem_filter->eL,mem_map->eU,length_cons->ft,append_assoc->dL,append_nil->kE,filter_cons->mV,getElem?_eq_some_iff->aS,getElem?_eq_getElem->ay,length_eq_zero_iff->cU,mem_cons->fw,getElem?_append_right->dG,getElem?_append_left->dk,getElem?_map->dE,mem_append->bt,any_eq_false->oA,take_of_length_le->dC,pairwise_cons->cv,pairwise_append->ef,drop_zero->mI,length_tail->AH
open List.Pairwise renaming imp_of_mem->nt,filter->kP
open Bool renaming and_eq_true->cM,false_eq_true->cB,not_false->rN
open Option.some renaming injEq->bf
open List.Nodup renaming length_le_of_subset->dX
open Go.Proofs.Tryz renaming prog->af
open Go renaming World->aw,Calls->aF,bodyPost_ret->ax,results_tmp2->ew,grownCap_ge->Bc,wpList_load_mid->gQ,Program->jB,MemPlace->tE
open Go.RowKit.Below renaming refl->ao
open Nat renaming le_refl->aj,sub_self->qB,add_assoc->Bj,zero_add->cO,zero_mul->qA,add_mul->jG,le_trans->aP
open Go.Lit renaming int->dU,wf->pD
open Go.Addr renaming add->mc,add_lit->Ac
open Go.Value renaming cells->gW,bool->ai,int->J,slice->ae,pointer->aq,tuple->aB,agg->cg
open Array renaming getElem?_setIfInBounds_ne->gi
open Go.IntKind renaming u16->aN,wrap->iN,signed->fR,bits->gM,min->jI,max->jJ,i64->V,u32->ar,u8->bI
open Go.Act renaming put->aA
open Go.DataW renaming trod->mL
open Go.Ending renaming returned->av
open Option renaming none->I,some->Z
namespace Go.Proofs.YtkfblammcilfhaaGreatDoor
namespace M
def Room.Aq(r:Room)(sub:Int)(f:Int):Nat:=((kq r.aO.length).filter λid=>decide (r.di sub id=Z f)).length
end M
def nk(v:Int×Int->Int)(s:Int)(done:List (Int×Int))(f:Nat):Nat:=(done.filter λx=>decide (x.1=s)&&decide (v x=(f:Int))).length
def zT(v:Int×Int->Int)(s:Int)(done:List (Int×Int))(x:Int×Int)(f:Nat):nk v s (done++[x]) f=nk v s done f+if x.1=s/\v x=(f:Int) then 1 else 0:=by
 unfold nk;rw[ju,cG];congr 1;by_cases h1:x.1=s<;>by_cases h2:v x=(f:Int)<;>simp[h1,h2]
def iF(v:Int×Int->Int)(s:Int)(done:List (Int×Int)):Array Value:=#[J V (nk v s done 0),J V (nk v s done 1),J V (nk v s done 2),J V (nk v s done 3),J V (nk v s done 4),J V (nk v s done 5),J V (nk v s done 6),J V (nk v s done 7),J V (nk v s done 8)]
def MR(v:Int×Int->Int)(s:Int)(done:List (Int×Int))(f:Nat):nk v s done f<=done.length:=List.length_filter_le _ _
def yo(v:Int×Int->Int)(s:Int)(done:List (Int×Int))(f:Nat)(a:f<9):(iF v s done)[f]? = Z (J V (nk v s done f)):=by
 unfold iF;have:f=0\/f=1\/f=2\/f=3\/f=4\/f=5\/f=6\/f=7\/f=8:=z;rcases this with h|h|h|h|h|h|h|h|h<;>subst h<;>rfl
def AB(v:Int×Int->Int)(s:Int)(done:List (Int×Int))(x:Int×Int)(f:Nat)(c:f<9)(a:v x=(f:Int))(b:x.1=s):(iF v s done).setIfInBounds f (J V ((nk v s done f:Int)+1))=iF v s (done++[x]):=by
 unfold iF;have:f=0\/f=1\/f=2\/f=3\/f=4\/f=5\/f=6\/f=7\/f=8:=z;rcases this with h|h|h|h|h|h|h|h|h<;>subst h<;>simp[zT,a,b]
def AD(v:Int×Int->Int)(s:Int)(done:List (Int×Int))(x:Int×Int)(a:x.1≠s):iF v s (done++[x])=iF v s done:=by
 unfold iF;simp[zT,a]
def mq(bk:Bk)(P:Nat)(s:Int)(f:Nat):Nat:=((kq P).filter λid=>decide (bk s id=Z (f:Int))).length
def Kd{ds done:List (Int×Int)}{v:Int×Int->Int}{bk:Bk}{N P:Nat}(h:PZ ds v bk N)(l:∀s id,P<=id->bk s id=I)(o:done.Nodup)(h1:∀x∈done,x∈ds)(h2:∀x∈ds,x∈done)(s:Int)(f:Nat):nk v s done f=mq bk P s f:=by
 unfold nk mq;have e:(done.filter λx=>decide (x.1=s)&&decide (v x=(f:Int))).length=((done.filter λx=>decide (x.1=s)&&decide (v x=(f:Int))).map (λx=>x.2)).length:=by rw[gP]
 have p:((kq P).filter λid=>decide (bk s id=Z (f:Int))).length=(((kq P).filter λid=>decide (bk s id=Z (f:Int))).map (λ(n:Nat)=>(n:Int))).length:=by rw[gP]
 rw[e,p];have n1:((done.filter λx=>decide (x.1=s)&&decide (v x=(f:Int))).map (λx=>x.2)).Nodup:=by
  unfold List.Nodup;rw[sw];refine nt ?_ (kP _ o);intro x y k hy d e;have h1:=(eL.1 k).2;have h2:=(eL.1 hy).2;simp only[cM,decide_eq_true_eq]at h1 h2;exact d (Prod.ext (h1.1.trans h2.1.symm) e)
 have r:(((kq P).filter λid=>decide (bk s id=Z (f:Int))).map (λ(n:Nat)=>(n:Int))).Nodup:=by
  unfold List.Nodup;rw[sw];refine nt ?_ (kP _ List.nodup_range);intro x y k hy d e;exact d z
 have m:∀g:Int,g∈((done.filter λx=>decide (x.1=s)&&decide (v x=(f:Int))).map (λx=>x.2))↔g∈(((kq P).filter λid=>decide (bk s id=Z (f:Int))).map (λ(n:Nat)=>(n:Int))):=by
  intro g;constructor
  ·intro i;obtain⟨⟨a,b⟩,hm,rfl⟩:=eU.1 i;rw[eL]at hm;simp only[cM,decide_eq_true_eq]at hm;have j:=h1 _ hm.1;have hr:=h.wb _ j;simp only at hr;have c:bk s b.toNat=Z (f:Int):=by
    rw[h.at_ s b.toNat,show ((b.toNat:Nat):Int)=b from z,<-hm.2.1,if_pos j,hm.2.2]
   refine eU.2 ⟨b.toNat,eL.2 ⟨List.mem_range.2 ?_,by simpa using c⟩,by show((b.toNat:Nat):Int)=b;omega⟩;rcases Nat.lt_or_ge b.toNat P with q|q
   ·exact q
   ·rw[l s _ q]at c;cases c
  ·intro i;obtain⟨id,hm,rfl⟩:=eU.1 i;rw[eL]at hm;have c:bk s id=Z (f:Int):=by simpa using hm.2
   have t:=c;rw[h.at_ s id]at c;split at c
   ·rename_i q;refine eU.2 ⟨(s,(id:Int)),eL.2 ⟨h2 _ q,?_⟩,rfl⟩;simp only[bf]at c;simp[c]
   ·cases c
 exact Nat.le_antisymm (dX n1 λg i=>(m g).1 i) (dX r λg i=>(m g).2 i)
def pX(bk:Bk)(P:Nat)(s:Int):Array Value:=#[J V (mq bk P s 0),J V (mq bk P s 1),J V (mq bk P s 2),J V (mq bk P s 3),J V (mq bk P s 4),J V (mq bk P s 5),J V (mq bk P s 6),J V (mq bk P s 7),J V (mq bk P s 8)]
def CT{ds done:List (Int×Int)}{v:Int×Int->Int}{bk:Bk}{N P:Nat}(h:PZ ds v bk N)(a:∀s id,P<=id->bk s id=I)(b:done.Nodup)(h1:∀x∈done,x∈ds)(h2:∀x∈ds,x∈done)(s:Int):iF v s done=pX bk P s:=by
 unfold iF pX;simp only[Kd h a b h1 h2]
def Le:(af.info? 46).map (·.size)=Z 9:=cC
def GP(g m N P:Nat)(bk:Bk)(sub:Int)(w:aw)(h:eD w g m bk N)(hN:N<=1000000)(hP:∀s id,P<=id->bk s id=I) :
  aF af 35 #[aq (Z ⟨g,0,I⟩),J V sub] w λe w'=>e=av (cg (pX bk P sub))/\aC w w':=by
 obtain⟨ds,v,H,hM,hR⟩:=h;have c0:=H.cell 0;simp at c0;have mg:=hM.ki H;have lm:=hM.lt;have lg:=H.lt;have Kw:=hR.small;obtain⟨HM,HG,HR⟩:=bU hM H hR;clear hM H hR;go_enter func35,ntmps35;go_upto_region 2 with fail;obtain⟨r4,h4⟩:=dH w.heap.size;obtain⟨r5,h5⟩:=dH (w.heap.size+1);rw[<-h5,<-h4];refine aW (λW=>aK W r4 46 (iF v sub [])/\aK W r5 46 (iF v sub [])/\aK W g 204 #[.map (Z m)]/\gE KB W m ds (λx=>J V (v x))/\aC w W) ⟨(aK.newAt _ _ _ _ h4).alloc _,aK.newAt _ _ _ _ (by simp[h5]),(HG.O.alloc _).alloc _,(HM.O.alloc _).alloc _,((ao _ w).alloc (aj _) _).alloc dt _⟩ ?_;rintro W ⟨b4,b5,bG,bM,al⟩;have Hs:r4≠r5:=z;have Hu:w.heap.size<=r4:=z;have Ia:w.heap.size<=r5:=z;have Ld:r4≠m:=z;have K:r5≠m:=z;clear h4 h5 HM HG c0;have c0:=bG.cell 0;simp at c0;obtain⟨H4,H5,AL,BM⟩:=cA b4 b5 al bM;have l4:=b4.lt;have l5:=b5.lt;clear b4 b5 bG al bM;go_wp2_with (at_range;go_loud (refine uK _ nV rfl _ rfl m ds _ rfl BM.O ?_));intro w1 r1 u1 s1;obtain⟨r,l⟩:=dH W.heap.size;rw[<-l]at r1 ⊢;have B1:=AL.O.trans (u1.below AL.O.size (λ_ q=>q.elim));have X4:=H4.O.dW u1 (λq=>q);have X5:=H5.O.dW u1 (λq=>q);have II:w.heap.size<=r:=by rw[l];exact AL.O.size
 have I8:r4≠r:=z;have C:r5≠r:=z;clear l;obtain⟨I9,Kk,k,n⟩:=cA r1 B1 X4 X5;clear X4 X5 r1 B1 u1 s1 H4 H5 AL BM l4 l5;go_wp2_with fail;go_loopw [13] (λ_ wr=>∃done,kY KB wr m r ds (λx=>J V (v x)) done/\aK wr r4 46 (iF v sub [])/\aK wr r5 46 (iF v sub done)/\aC w wr) (λ_ wr=>wr.rangeLeft m r);case atStart=>exact⟨[],I9.O,k.O,n.O,Kk.O⟩
 case round =>
  obtain⟨done,hr,b4,b5,bl⟩:=hrel;go_wp2_with (at_next;go_loud (refine vR _ ue rfl _ rfl m r ds _ done rfl hr ?d ?q));case d =>
   intro A;have o:=hr.sub;have he:=CT HR.O hP o.1 o.2 (λx hx=>A x.1 x.2 hx) sub;rw[he]at b5;have k0:=b5.cell 0;have k1:=b5.cell 1;have k2:=b5.cell 2;have k3:=b5.cell 3;have k4:=b5.cell 4;have k5:=b5.cell 5;have k6:=b5.cell 6;have k7:=b5.cell 7;have k8:=b5.cell 8;simp[pX]at k0 k1 k2 k3 k4 k5 k6 k7 k8;obtain⟨k,n,HB⟩:=bU b4 b5 bl;clear hr A o he b4 b5 bl;have L:∀u∈(pX bk P sub).toList,u.oneCell'=true:=by intro u hu;simp[pX]at hu;rcases hu with h|h|h|h|h|h|h|h|h<;>subst h<;>rfl
   go_wp2_with (refine jb _ rfl (.tmp 4) (.tmp 27) 46 rfl r4 0 46 (iF v sub []) rfl (pX bk P sub) rfl Le k.O (aj _) L ?_;intro w6 c v6);have e6:de (iF v sub []) 0 (pX bk P sub).toList=pX bk P sub:=rfl;rw[e6]at c;go_wp2_with fail;have q0:=c.cell 0;have q1:=c.cell 1;have q2:=c.cell 2;have q3:=c.cell 3;have q4:=c.cell 4;have q5:=c.cell 5;have q6:=c.cell 6;have q7:=c.cell 7;have q8:=c.cell 8;simp[pX]at q0 q1 q2 q3 q4 q5 q6 q7 q8;clear k0 k1 k2 k3 k4 k5 k6 k7 k8;refine ax (v:=cg (pX bk P sub)) (by simp[results,results35,go_sem,q0,q1,q2,q3,q4,q5,q6,q7,q8,pX]) rfl ⟨rfl,?_⟩;exact HB.O.trans (v6.below HB.O.size (λi q=>by rw[show i=r4 from q];exact Hu))
  case q =>
   intro a b w2 Kl Ln D M u2 Km B;have Q:(Instr.entry (aq (Z ⟨r,0,I⟩))).run af w2=.ok (aB #[cg #[J V a,J V b],J V (v (a,b))]) w2:=B;clear B;have x4:=b4.dW u2 I8;have x5:=b5.dW u2 C;have b2:=bl.trans (u2.below bl.size (λi q=>by rw[show i=r from q];exact II));have Kn:=HR.O.sJ _ Kl;have hle:=λf=>MR v sub done f;have Lz:done.length<=1000000:=by have q:=D.sub;have q2:=dX q.1 q.2;simp at q2;omega
   obtain⟨j,R,E⟩:∃j:Nat,v (a,b)=(j:Int)/\j<9:=⟨(v (a,b)).toNat,z,z⟩;rw[R]at Q;have S:=yo v sub done j E;have c5:=x5.cell j;rw[S]at c5;have hlen:=hle j;obtain⟨k,n,t,y⟩:=cA x4 x5 b2 D;have Ko:=x5.frozen j;clear x4 x5 b2 D b4 b5 bl hr Km hle S Kn;by_cases ha:a=sub
   ·subst ha;go_upto_region 6 with fail;have L6:=y.O.kj (F:=cr) ((cS.refl _ _).alloc (.cells #[J V a,J V b] 210)) id id;refine aW (λY=>kY KB Y m r ds (λx=>J V (v x)) (done++[(a,b)])/\aK Y r4 46 (iF v a [])/\aK Y r5 46 (iF v a done)/\aC w Y/\Y.rangeLeft m r<wr.rangeLeft m r) ⟨y.O.dW (F:=cr) ((cS.refl _ _).alloc _) id id,k.O.alloc _,n.O.alloc _,t.O.alloc t.O.size _,by rw[L6];exact M⟩ ?_;rintro Y ⟨rY,b4,b5,bY,T⟩;have Kq:=b5.cell j;rw[yo v a done j E]at Kq;have Kr:=b5.frozen j;have U:=b4.dS (p:=⟨r5,j,I⟩) Hs (J V ((nk v a done j:Int)+1));have G:=b5.bC j (J V ((nk v a done j:Int)+1));rw[AB v a done (a,b) j E R rfl]at G;have uY:cS (One r5) Y (Y.setCell ⟨r5,j,I⟩ (J V ((nk v a done j:Int)+1))):=(cS.refl (One r5) Y).setCell (p:=⟨r5,j,I⟩) (.inl rfl) _;have X:=rY.dW uY (λq=>K q.symm) (λq=>C q.symm);have Hl:=rY.kj uY (λq=>K q.symm) (λq=>C q.symm);have Ho:=bY.trans (uY.below bY.size (λi q=>by rw[show i=r5 from q];exact Ia));obtain⟨K1,K2,K3,K4,K5⟩:=gY U G X Ho (show(Y.setCell ⟨r5,j,I⟩ (J V ((nk v a done j:Int)+1))).rangeLeft m r<wr.rangeLeft m r by rw[Hl];exact T);clear b4 b5 rY uY bY T U G X Hl Ho L6 Ko c5 Q;go_wp2_with fail;go_roundw;case rel=>exact⟨done++[(a,b)],K3.O,K1.O,K2.O,K4.O⟩
    case measure=>exact K5.O
   ·have LC:(a==sub)=false:=by simpa using ha
    go_wp2_with fail;go_roundw;case rel=>exact⟨done++[(a,b)],y.O.dW (F:=cr) ((cS.refl _ _).alloc _) id id,k.O.alloc _,by rw[AD v sub done (a,b) ha];exact n.O.alloc _,t.O.alloc t.O.size _⟩
    case measure=>rw[y.O.kj (F:=cr) ((cS.refl _ _).alloc _) id id];exact M
def wB(g m N P:Nat)(bk:Bk)(sub:Int)(w:aw)(h:eD w g m bk N)(B:N<=1000000)(C:∀s id,P<=id->bk s id=I) :
  aF af 12 #[Qv g,J V sub] w λe w'=>e=av (cg (pX bk P sub))/\aC w w':=by
 go_enter func12,ntmps12;have H:Array Value:=#[];go_upto_region 1 with fail;obtain⟨r4,h4⟩:=dH (w.heap.size+1);obtain⟨r2,h2⟩:=dH w.heap.size;rw[<-h4,<-h2];refine aW (λW=>aK W r2 50 #[aq (Z ⟨g,0,I⟩)]/\aK W r4 46 (iF (λ_=>0) 0 [])/\eD W g m bk N/\aC w W) ⟨(aK.newAt _ _ _ _ h2).alloc _,aK.newAt _ _ _ _ (by simp[h4]),((h.below ((ao _ w).alloc (aj _) _))).below ((ao _ _).alloc (aj _) _),((ao _ w).alloc (aj _) _).alloc dt _⟩ ?_;rintro W ⟨b2,b4,d,f⟩;have c:w.heap.size<=r4:=z;clear h2 h4 h;have c2:=b2.cell 0;simp at c2;have b:∀u∈(pX bk P sub).toList,u.oneCell'=true:=by intro u hu;simp[pX]at hu;rcases hu with h|h|h|h|h|h|h|h|h<;>subst h<;>rfl
 have D:=au (GP g m N P bk sub W d B C);have E:=au b4;have j:=au f;clear b2 b4 d f;go_wp2_with (first
  |(refine D.O.mono ?_;rintro e w2 ⟨rfl,b3⟩;have F:=E.O.kept b3)
  |(refine jb _ rfl (.tmp 4) (.tmp 8) 46 rfl r4 0 46 (iF (λ_=>0) 0 []) rfl (pX bk P sub) rfl Le F (aj _) b ?_;intro w6 a v6))
 have G:de (iF (λ_=>0) 0 []) 0 (pX bk P sub).toList=pX bk P sub:=rfl;rw[G]at a;have k:=a.cell 0;have l:=a.cell 1;have n:=a.cell 2;have o:=a.cell 3;have p:=a.cell 4;have r:=a.cell 5;have t:=a.cell 6;have x:=a.cell 7;have y:=a.cell 8;simp[pX]at k l n o p r t x y;go_wp2_with fail;refine ax (v:=cg (pX bk P sub)) (by simp[results,results12,go_sem,k,l,n,o,p,r,t,x,y,pX]) rfl ⟨rfl,?_⟩;have A:=j.O.trans (b3.mono j.O.size);exact A.trans (v6.below A.size (λi q=>by rw[show i=r4 from q];exact c))
namespace M
def cc(l:cQ)(x:Int):bO (l++[x])=bO l*256+x:=by unfold bO;rw[List.foldl_append];rfl
def kc(n:Int)(h:0<=n/\n<256):bO (bK 1 n)=n:=by
 simp only[bK,cc];simp[bO];omega
def eI(n:Int)(h:0<=n/\n<65536):bO (bK 2 n)=n:=by
 simp only[bK,cc];simp[bO];omega
def df(n:Int)(h:0<=n/\n<4294967296):bO (bK 4 n)=n:=by
 simp only[bK,cc];simp[bO];omega
def cq(a rest:cQ)(w:Int)(n:Int)(b:(a.length:Int)=n):Rd.take ⟨a++rest,w⟩ n=(a,⟨rest,w⟩):=by
 subst b;unfold Rd.take;by_cases h:a=[]
 ·subst h;simp
 ·have:0<a.length:=List.length_pos_iff.2 h;rw[if_neg z,if_neg dZ];simp
def aI(k:Nat)(n:Int)(rest:cQ)(w:Int)(h:bO (bK k n)=n):Rd.num ⟨bK k n++rest,w⟩ k=(n,⟨rest,w⟩):=by
 unfold Rd.num;rw[cq (bK k n) rest w k (by rw[pH]),h]
def gX:∀(l:List Int) (rest:cQ) (w:Int),(∀x∈l,0<=x/\x<4294967296)->jD l.length ⟨l.flatMap (bK 4)++rest,w⟩=(l,⟨rest,w⟩)
 |[],rest,w,_=>rfl
 |x::l,rest,w,h=>by
  rw[ft,jD,List.flatMap_cons,dL,aI 4 x _ w (df x (h x dt))];simp only;rw[gX l rest w λy hy=>h y (by simp[hy])]
def mK(p:cR)(hr:p.right=true)(A:p.Ok):eP p.bytes=(p,0):=by
 obtain⟨r1,r2,i,r4,r5⟩:=DA hr;have hlen:=C1 p;obtain⟨dR,type,dQ,aU,bJ,aQ,has,bV,fp,cF⟩:=p;obtain⟨B,n,o,q,r,s⟩:=A;simp only at r1 r2 i r4 r5 B n o q r s;have K:fp.length<=200:=by
  unfold cR.size at r5;simp only at r5;cases has
  ·rw[(i rfl).2];simp
  ·simp at r5;omega
 generalize c:(if has then bK 2 bV++bK 2 ((fp.length / 4:Nat):Int)++fp else[])=E;generalize d:(128+aQ.length+if has then 16 else 0:Int)=a;have e:a=128+aQ.length+if has then 16 else 0:=d.symm
 have j:0<=a/\a<256:=by cases has<;>simp at e<;>omega
 have C:(⟨dR,type,dQ,aU,bJ,aQ,has,bV,fp,cF⟩:cR).bytes=bK 1 a++(bK 1 (type+if dR then 128 else 0)++(bK 2 dQ++(bK 4 aU++(bK 4 bJ++(aQ.flatMap (bK 4)++(E++cF)))))):=by
  unfold cR.bytes;simp only;rw[c,d];simp only[dL]
 rw[C]at hlen ⊢;generalize hw:bK 1 a++(bK 1 (type+if dR then 128 else 0)++(bK 2 dQ++(bK 4 aU++(bK 4 bJ++(aQ.flatMap (bK 4)++(E++cF))))))=whole at hlen ⊢;have f:h1 whole=(a,⟨bK 1 (type+if dR then 128 else 0)++(bK 2 dQ++(bK 4 aU++(bK 4 bJ++(aQ.flatMap (bK 4)++(E++cF))))),0⟩):=by
  rw[<-hw];exact aI 1 a _ 0 (kc a j)
 have t:h2 whole=(type+(if dR then 128 else 0),⟨bK 2 dQ++(bK 4 aU++(bK 4 bJ++(aQ.flatMap (bK 4)++(E++cF)))),0⟩):=by
  unfold h2;rw[f];exact aI 1 _ _ 0 (kc _ (by cases dR<;>simp<;>omega))
 have u:h3 whole=(dQ,⟨bK 4 aU++(bK 4 bJ++(aQ.flatMap (bK 4)++(E++cF))),0⟩):=by
  unfold h3;rw[t];exact aI 2 _ _ 0 (eI _ n)
 have v:h4 whole=(aU,⟨bK 4 bJ++(aQ.flatMap (bK 4)++(E++cF)),0⟩):=by
  unfold h4;rw[u];exact aI 4 _ _ 0 (df _ o)
 have w:h5 whole=(bJ,⟨aQ.flatMap (bK 4)++(E++cF),0⟩):=by
  unfold h5;rw[v];exact aI 4 _ _ 0 (df _ q)
 have D:h6 whole=⟨aQ.flatMap (bK 4)++(E++cF),0⟩:=by
  unfold h6;rw[f,w,if_neg (by cases has<;>simp at e<;>omega)]
 have k:h7 whole=(aQ,⟨E++cF,0⟩):=by
  unfold h7;rw[f,D];have:(a % 16).toNat=aQ.length:=by cases has<;>simp at e<;>omega
  simp only;rw[this];exact gX _ _ 0 r
 have b:JX whole=has:=by
  unfold JX;rw[f];cases has<;>simp at e ⊢ <;> omega
 have x:N9 whole=false:=by
  unfold N9;rw[f];cases has<;>simp at e ⊢ <;> omega
 have l:hR whole=⟨cF,0⟩/\GJ whole=fp/\td whole=bV:=by
  cases has with
  |false =>
   obtain⟨rfl,rfl⟩:=i rfl;simp at c;subst c;refine⟨?_,?_,?_⟩
   ·unfold hR;rw[b,k];rfl
   ·unfold GJ;rw[b];rfl
   ·unfold td;rw[b];rfl
  |true =>
   simp at c;subst c;have y:h8 whole=(bV,⟨bK 2 ((fp.length / 4:Nat):Int)++(fp++cF),0⟩):=by
    unfold h8;rw[k];simp only[dL];exact aI 2 _ _ 0 (eI _ s)
   have F:h9 whole=(((fp.length / 4:Nat):Int),⟨fp++cF,0⟩):=by
    unfold h9;rw[y];exact aI 2 _ _ 0 (eI _ z)
   have g:xx whole=(fp,⟨cF,0⟩):=by
    unfold xx;rw[F];exact cq _ _ _ _ z
   refine⟨?_,?_,?_⟩
   ·unfold hR;rw[b,g];rfl
   ·unfold GJ;rw[b,g];rfl
   ·unfold td;rw[b,y];rfl
 have h:yk whole=(cF,⟨[],0⟩):=by
  unfold yk;rw[l.1];have:=cq cF [] 0 cF.length rfl;rw[kE]at this;exact this
 have m:KG whole=⟨[],0⟩:=by unfold KG;rw[x,h];rfl
 have G:zN whole=cF:=by unfold zN;rw[x,h];rfl
 unfold eP;rw[if_neg (by rw[hlen];omega),m];have H:(⟨[],0⟩:Rd).end_=0:=by simp[Rd.end_]
 rw[if_neg (by rw[H];simp)];unfold wH;rw[t,u,v,w,k,b,l.2.1,l.2.2,G];simp only;congr 2
 ·cases dR<;>simp<;>omega
 ·cases dR<;>simp<;>omega
end M
namespace M
def C6(R:Room)(o:bN):Bool:=match R.az o with | none=>false | some s=>(iK R.dA.eA R.dA.ek s.dJ (R.wanted o) R.cJ).2
def GR(R:Room)(o:bN):Request:=⟨o,R.cJ,tU ((R.aQ o).getD 0)⟩
def asked(l:List bN)(R:Room):Room:={ R with az:=λo=>if o∈l then(R.az o).map λs=>{ s with dJ:=(iK R.dA.eA R.dA.ek s.dJ (R.wanted o) R.cJ).1 } else R.az o,cj:=R.cj++(l.filter (C6 R)).map (GR R) }
def ET(l:List bN)(R:Room)(o:bN):(asked l R).wanted o=R.wanted o:=by
 unfold Room.wanted;congr 1;unfold asked;simp only;by_cases h:o∈l
 ·rw[if_pos h];cases R.az o<;>rfl
 ·rw[if_neg h]
def Dm(l:List bN)(R:Room)(o:bN)(h:o∉l):(asked l R).fg o=asked (l++[o]) R:=by
 have j:(asked l R).az o=R.az o:=by unfold asked;simp only;rw[if_neg h]
 unfold Room.fg;rw[j,ET];cases f:R.az o with
 |none =>
  have k:C6 R o=false:=by unfold C6;rw[f]
  unfold asked;simp only[ju,mV,k,List.filter_nil,kE,cB,if_false];congr 1;funext t;by_cases ht:t∈l
  ·simp[ht]
  ·by_cases b:t=o
   ·subst b;simp[ht,f]
   ·simp[ht,b]
 |some s =>
  have a:C6 R o=(iK R.dA.eA R.dA.ek s.dJ (R.wanted o) R.cJ).2:=by unfold C6;rw[f]
  simp only;have g:∀(v:eu),v={ s with dJ:=(iK R.dA.eA R.dA.ek s.dJ (R.wanted o) R.cJ).1 }->(set (asked l R).az o (Z v))=(asked (l++[o]) R).az:=λv m=>by
   funext t;unfold asked set;simp only;by_cases b:t=o
   ·subst b;simp[h,f,m]
   ·by_cases ht:t∈l<;>simp[ht,b]
  have c:(asked l R).dA=R.dA:=rfl;have d:(asked l R).cJ=R.cJ:=rfl;have e:(asked l R).aQ=R.aQ:=rfl;rw[c,d,e,g _ rfl];cases i:(iK R.dA.eA R.dA.ek s.dJ (R.wanted o) R.cJ).2
  ·rw[i]at a;simp only[cB,if_false];show({ asked l R with az:=(asked (l++[o]) R).az }:Room)=asked (l++[o]) R;unfold asked;simp[ju,a]
  ·rw[i]at a;simp only[if_true];show({ asked l R with az:=(asked (l++[o]) R).az,cj:=(asked l R).cj++[GR R o] }:Room)=asked (l++[o]) R;unfold asked;simp[ju,a]
def Cm:∀(m l:List bN) (R:Room),(l++m).Nodup->m.foldl Room.fg (asked l R)=asked (l++m) R
 |[],l,R,_=>dt
 |o::m,l,R,h=>by
  have h1:o∉l:=λq=>by
   have:=(List.nodup_append.1 h).2.2 o q o dt;exact this rfl
  rw[List.foldl_cons,Dm l R o h1,Cm m (l++[o]) R (by simpa using h)];simp
def Ff(R:Room):asked [] R=R:=by unfold asked;simp
def Hg(R:Room)(h:R.cN=false):R.tick.1=asked eX { R with cJ:=R.cJ+1 }:=by
 unfold Room.tick;rw[if_neg (by rw[h];simp)];have:=Cm eX [] { R with cJ:=R.cJ+1 } aR;rw[Ff]at this;exact this
end M
section
namespace M
variable {ps:Nn} {bk:Nat->Option Int} {l:dP} {g:ij}
def pz(h:iv ps bk l g){i:Nat}{o:Nat×cQ}(a:l.fF[i]? = Z o):∃(k:Nat) (x:Rec),g.W[i]? = Z k/\g.H[k]? = Z x/\o=(x.id,x.p.bytes)/\eP o.2=(x.p,0)/\Fh ps g k x:=by
 have d:i<g.W.length:=by rw[h.fF];exact(aS.1 a).1
 obtain⟨k,b⟩:∃k,g.W[i]? = Z k:=⟨_,ay d⟩;obtain⟨x,c,e⟩:=h.qT i k o b a;have hr:=h.zM k x c;exact⟨k,x,b,c,e,by rw[e];exact mK x.p hr.right hr.ok,hr⟩
end M
end
namespace M
def vy(R':Room)(x:Act)(e:Int)(jo:Int->Int)(s:Int):Int:=
 if R'.eG s=true then -1 else if e=0/\x.nv=5/\s=x.sub then x.jo else if e=0/\x.nv=7/\s=x.sub then -1 else jo s
end M
namespace M
def pe(R:Room)(s:Int):Nat:=match R.aD s with | some l=>l.ready.length | none=>0
def Ao(R':Room)(x:Act)(a:Bool)(b:Bool):Bool:=b&&(decide (x.nv=1)&&fY x.w.2)&&(a&&(decide (x.w.1=3)&&decide (0<pe R' x.w.2)))
def ya(R R':Room)(x:Act)(a:Bool):Bool:=a&&(decide (x.nv=1)&&fY x.w.2)&&decide ((kA R x.w.2).length<(kA R' x.w.2).length)
structure Qs where
 rw:Int->Nat
 qs:Int->List Nat
def Qs.ab(R R':Room)(x:Act)(a b:Bool)(q:Qs):Qs:=
 if Ao R' x a b=true then⟨set q.rw x.w.2 (q.rw x.w.2+1),set q.qs x.w.2 (if R.Aq x.w.2 6<R'.Aq x.w.2 6 then(q.qs x.w.2++[q.rw x.w.2]).tail else q.qs x.w.2++[q.rw x.w.2])⟩ else q
def Qs.wrote(R R':Room)(x:Act)(a:Bool)(q:Qs):Qs:=if ya R R' x a=true then⟨q.rw,set q.qs x.w.2 (q.qs x.w.2).tail⟩ else q
def Qs.lu(x:Act)(e:Int)(q:Qs):Qs:=if x.nv=4/\e=0 then⟨set q.rw x.sub 0,set q.qs x.sub []⟩ else q
def Qs.Cj(R':Room)(q:Qs):Qs:=⟨q.rw,λs=>if pe R' s=0 then[] else q.qs s⟩
structure QJ(R:Room)(G:Int->ij)(q:Qs):Prop where
 bare:∀s,R.aD s=I->q.qs s=[]
 len:∀s l,R.aD s=Z l->(q.qs s).length=l.ready.length
 open_:R.cN=false->∀s l,R.aD s=Z l->q.rw s=(G s).H.length/\q.qs s=(G s).Q
def QJ.start(c:Ou)(G:Int->ij):QJ (.new c) G ⟨λ_=>0,λ_=>[]⟩:=⟨λs _=>rfl,λs l h=>(by cases h),λ_ s l h=>(by cases h)⟩
def QJ.lens{R:Room}{G:Int->ij}{q:Qs}(h:QJ R G q)(s:Int):(q.qs s).length=pe R s:=by
 unfold pe;cases a:R.aD s with
 |none=>rw[h.bare s a];rfl
 |some l=>exact h.len s l a
def AJ{R:Room}{G:Int->ij}{n:Nat}(d:Inv R G n){q:Qs}(g:R.cN=true->∀s l,R.aD s=Z l->l.ready=[]\/(q.qs s).length=l.ready.length)
  (f:R.cN=false->∀s l,R.aD s=Z l->q.rw s=(G s).H.length/\(q.qs s=(G s).Q\/(G s).Q=[])):QJ R G (q.Cj R):=by
 have hlen:∀s l,R.aD s=Z l->pe R s=l.ready.length:=λs l a=>by unfold pe;rw[a]
 refine⟨λs a=>?_,λs l a=>?_,λh0 s l a=>?_⟩
 ·show(if pe R s=0 then[] else q.qs s)=[];unfold pe;rw[a];rfl
 ·show(if pe R s=0 then[] else q.qs s).length=l.ready.length;rw[hlen s l a];by_cases b:l.ready.length=0
  ·rw[if_pos b,b];rfl
  ·rw[if_neg b];cases c:R.cN with
   |true =>
    rcases g c s l a with e|e
    ·rw[e]at b;exact absurd rfl b
    ·exact e
   |false =>
    have hr:=(d.fo s l a).1.ready;rcases(f c s l a).2 with e|e
    ·rw[e];exact hr
    ·rw[e]at hr;simp at hr;omega
 ·obtain⟨h,i⟩:=f h0 s l a;refine⟨h,?_⟩;show(if pe R s=0 then[] else q.qs s)=(G s).Q;have hr:=(d.fo s l a).1.ready;rw[hlen s l a];by_cases b:l.ready.length=0
  ·rw[if_pos b];rw[b]at hr;exact(cU.1 hr).symm
  ·rw[if_neg b];rcases i with e|e
   ·exact e
   ·rw[e]at hr;simp at hr;omega
def filter_lt{α:Type}{p q:α->Bool}:∀{l:List α},(∀x∈l,p x=true->q x=true)->(∃x∈l,q x=true/\p x=false)->(l.filter p).length<(l.filter q).length
 |[],_,h=>by obtain⟨x,c,_⟩:=h;simp at c
 |a::l,h1,h2=>by
  have d:(∃x∈l,q x=true/\p x=false)->(l.filter p).length<(l.filter q).length:=filter_lt (λx c=>h1 x (by simp[c]));have le:(l.filter p).length<=(l.filter q).length:=by
   clear d h2;induction l with
   |nil=>simp
   |cons b l d =>
    have f:=d (λx c=>h1 x (by simp at c ⊢;rcases c with q|q;exact .inl q;exact .inr (.inr q)));simp only[mV];cases hp:p b with
    |false=>cases q b<;>simp<;>omega
    |true=>rw[h1 b dt hp];simp;exact f
  simp only[mV];obtain⟨x,c,i,hp⟩:=h2;rcases fw.1 c with e|e
  ·subst e;rw[i,hp];simp;omega
  ·have:=d ⟨x,e,i,hp⟩;cases g:p a with
   |false=>cases q a<;>simp<;>omega
   |true=>rw[h1 a dt g];simp;exact this
def D8(R:Room)(s:Int)(id:Nat)(h:R.di s id=Z 0)(hid:id<R.aO.length):R.Aq s 6<(R.bR s id 6).Aq s 6:=by
 unfold Room.bR;rw[if_pos h];unfold Room.Aq;refine filter_lt (λx _ a=>?_) ⟨id,by simpa using hid,?_,?_⟩
 ·simp only[decide_eq_true_eq]at a ⊢;show set R.di s (set (R.di s) id (Z 6)) s x=Z 6;rw[dY];unfold set;split
  ·rfl
  ·exact a
 ·simp only[decide_eq_true_eq];show set R.di s (set (R.di s) id (Z 6)) s id=Z 6;rw[dY,dY]
 ·simp[h]
def C7{R:Room}{G:Int->ij}{n:Nat}(c:Inv R G n)(s:Int){l:dP}(b:R.aD s=Z l)(hp:l.bF≠[]):R.Aq s 6<(R.fD s).Aq s 6↔l.ready.length=R.dA.aG:=by
 have g:=(c.fo s l b).1;have e:(l.eO R.dA.aG).2=if l.ready.length=R.dA.aG then l.ready.head?.map (·.1) else I:=by
  unfold dP.eO;cases d:l.bF with
  |nil=>exact absurd d hp
  |cons y r=>rfl
 by_cases a:l.ready.length=R.dA.aG
 ·cases hr:l.ready with
  |nil=>have:=c.aG;rw[hr]at a;simp at a;omega
  |cons y t =>
   have h:(l.eO R.dA.aG).2=Z y.1:=by rw[e,if_pos a,hr];rfl
   have f:R.fD s=Room.bR { R with aD:=set R.aD s (Z (l.eO R.dA.aG).1) } s y.1 6:=by
    unfold Room.fD;rw[b];simp only[h]
   have hid:y.1∈ids l:=by unfold ids;rw[hr];simp
   have i:=g.kz y.1 hid;have:=D8 { R with aD:=set R.aD s (Z (l.eO R.dA.aG).1) } s y.1 i (c.RN b hid);rw[f,<-hr];exact⟨λ_=>a,λ_=>this⟩
 ·have f:R.fD s={ R with aD:=set R.aD s (Z (l.eO R.dA.aG).1) }:=by
   unfold Room.fD;rw[b];simp only[e,if_neg a]
  rw[f];exact⟨λq=>absurd q (Nat.lt_irrefl _),λq=>absurd q a⟩
def GI{R:Room}{G:Int->ij}{n:Nat}{q:Qs}(hi:Inv R G n)(hw:Wf R)(h:QJ R G q)(x:Act)(hx:x.Ok) :
  QJ (R.act x).1 (Ag R G x) (Qs.Cj (R.act x).1 (Qs.lu x (R.act x).2.1 (Qs.wrote R (R.act x).1 x (!R.cN) (Qs.ab R (R.act x).1 x (R.act x).2.2 (!R.cN) q)))) /\
  (ya R (R.act x).1 x (!R.cN)=true->∃k r o,(Qs.ab R (R.act x).1 x (R.act x).2.2 (!R.cN) q).qs x.w.2=k::r/\(kA (R.act x).1 x.w.2).length=(kA R x.w.2).length+1 /\
    (kA (R.act x).1 x.w.2)[(kA R x.w.2).length]? = Z o/\(eP o.2).2=0/\(eP o.2).1.dQ=((G x.w.2).dQ+k) % 65536/\(eP o.2).1.bJ=(G x.w.2).own):=by
 have hI:=hi.act x hx;obtain⟨R',A⟩:=dH ((R.act x).1);obtain⟨u,Hs⟩:=dH (Ag R G x);rw[<-A,<-Hs]at hI;rw[<-A,<-Hs];have still:x.nv≠1->(∀s m,R'.aD s=Z m->(x.nv=4/\(R.act x).2.1=0/\s=x.sub)\/∃l,R.aD s=Z l/\m.ready.length=l.ready.length) ->
   (R'.cN=false->R.cN=false)->(∀s,(x.nv=4/\(R.act x).2.1=0/\s=x.sub/\(u s).H=[]/\(u s).Q=[])\/((u s).H=(G s).H/\(u s).Q=(G s).Q/\¬(x.nv=4/\(R.act x).2.1=0/\s=x.sub))) ->
   QJ R' u (Qs.Cj R' (Qs.lu x (R.act x).2.1 q)):=by
  intro h1 k1 k2 k3;refine AJ hI (λM s m B=>?_) (λM s m B=>?_)
  ·rcases k3 s with⟨a,b,c,d,e⟩ | ⟨a,b,c⟩
   ·have:=(hI.fo s m B).1.ready;rw[e]at this;exact .inl (cU.1 this.symm)
   ·rcases k1 s m B with i | ⟨l,E,e⟩
    ·exact absurd i c
    ·right;rw[e,<-h.len s l E];unfold Qs.lu;split
     ·rename_i i;show(set q.qs x.sub [] s).length=_;rw[da _ _ (λe=>c ⟨i.1,i.2,e⟩)]
     ·rfl
  ·rcases k3 s with⟨a,b,c,d,e⟩ | ⟨a,b,c⟩
   ·unfold Qs.lu;rw[if_pos ⟨a,b⟩];show set q.rw x.sub 0 s=_/\(set q.qs x.sub [] s=_\/_);rw[c,dY,dY,<-c,d,e];exact⟨rfl,.inl rfl⟩
   ·rcases k1 s m B with i | ⟨l,E,e⟩
    ·exact absurd i c
    ·obtain⟨o1,o2⟩:=h.open_ (k2 M) s l E;rw[a,b];unfold Qs.lu;split
     ·rename_i i;show set q.rw x.sub 0 s=_/\(set q.qs x.sub [] s=_\/_);rw[da _ _ (λe=>c ⟨i.1,i.2,e⟩),da _ _ (λe=>c ⟨i.1,i.2,e⟩)];exact⟨o1,.inl o2⟩
     ·exact⟨o1,.inl o2⟩
 by_cases h1:x.nv=1;rotate_left
 ·have U:ya R R' x (!R.cN)=false:=by unfold ya;simp[h1]
  have X:Qs.ab R R' x (R.act x).2.2 (!R.cN) q=q:=by
   unfold Qs.ab;have:Ao R' x (R.act x).2.2 (!R.cN)=false:=by unfold Ao;simp[h1]
   rw[this];rfl
  have e3:Qs.wrote R R' x (!R.cN) q=q:=by unfold Qs.wrote;rw[U];rfl
  rw[X,e3];refine⟨?_,λi=>by rw[U]at i;cases i⟩;have II:x.nv≠4->x.nv≠5->u=G:=λa b=>by rw[Hs];unfold Ag;rw[if_neg h1,if_neg a,if_neg b]
  have plain:x.nv≠4->x.nv≠5->(∀s m,R'.aD s=Z m->∃l,R.aD s=Z l/\m.ready.length=l.ready.length)->(R'.cN=false->R.cN=false)->QJ R' u (Qs.Cj R' (Qs.lu x (R.act x).2.1 q)):=λa b c d =>
   still h1 (λs m i=>.inr (c s m i)) d (λs=>.inr ⟨by rw[II a b],by rw[II a b],λi=>a i.1⟩)
  have S:∀(l:dP) (k:Int),(l.iy k).1.ready=l.ready:=λl k=>by
   unfold dP.iy;split
   ·rfl
   split
   ·rfl
   ·rfl
  have K:∀(r:Room) (s k:Int) (t:Int) (m:dP),(r.fj s k).1.aD t=Z m->∃l,r.aD t=Z l/\m.ready.length=l.ready.length:=λr s k t m i=>by
   unfold Room.fj at i;cases E:r.aD s with
   |none=>rw[E]at i;exact⟨m,i,rfl⟩
   |some l =>
    rw[E]at i;replace i:set r.aD s (Z (l.iy k).1) t=Z m:=i;by_cases e:t=s
    ·rw[e,dY]at i;simp only[bf]at i;exact⟨l,by rw[e];exact E,by rw[<-i,S]⟩
    ·rw[da _ _ e]at i;exact⟨m,i,rfl⟩
  have LC:∀(r:Room) (s k:Int),(r.fj s k).1.cN=r.cN:=λr s k=>by unfold Room.fj;split<;>rfl
  by_cases h4:x.nv=4
  ·have e:R.act x=((R.iJ x.sub x.own x.dQ x.aU).1,(R.iJ x.sub x.own x.dQ x.aU).2,false):=by simp[Room.act,h4]
   have hg:u=(if(R.iJ x.sub x.own x.dQ x.aU).2=0 then set G x.sub ⟨x.own,x.dQ,x.aU,0,[],[],[]⟩ else G):=by rw[Hs];unfold Ag;rw[if_neg h1,if_pos h4]
   have hj:R.iJ x.sub x.own x.dQ x.aU=(R,7)\/R.iJ x.sub x.own x.dQ x.aU=(R,1)\/R.iJ x.sub x.own x.dQ x.aU=(R,6)\/R.iJ x.sub x.own x.dQ x.aU=({ R with bh:=set R.bh x.sub (Z ⟨x.own,false,0⟩),aD:=set R.aD x.sub (Z (.new x.own x.dQ x.aU)) },0):=by
    unfold Room.iJ;split
    ·exact .inl rfl
    split
    ·exact .inr (.inl rfl)
    split
    ·exact .inr (.inr (.inl rfl))
    ·exact .inr (.inr (.inr rfl))
   have same:∀v,R.iJ x.sub x.own x.dQ x.aU=(R,v)->v≠0->QJ R' u (Qs.Cj R' (Qs.lu x (R.act x).2.1 q)):=λv ev hv=>by
    have er:R'=R:=by rw[A,e,ev]
    have eg:u=G:=by rw[hg,ev,if_neg hv]
    have ee:(R.act x).2.1=v:=by rw[e,ev]
    refine still h1 (λs m i=>.inr ⟨m,by rw[<-er];exact i,rfl⟩) (λi=>by rw[<-er];exact i) (λs=>.inr ⟨by rw[eg],by rw[eg],λi=>hv ?_⟩);rw[<-ee];exact i.2.1
   rcases hj with j|j|j|j
   ·exact same 7 j aR
   ·exact same 1 j aR
   ·exact same 6 j aR
   ·have er:R'={ R with bh:=set R.bh x.sub (Z ⟨x.own,false,0⟩),aD:=set R.aD x.sub (Z (.new x.own x.dQ x.aU)) }:=by rw[A,e,j]
    have eg:u=set G x.sub ⟨x.own,x.dQ,x.aU,0,[],[],[]⟩:=by rw[hg,j,if_pos rfl]
    have ee:(R.act x).2.1=0:=by rw[e,j]
    refine still h1 (λs m i=>?_) (λi=>by rw[er]at i;exact i) (λs=>?_)
    ·by_cases C:s=x.sub
     ·exact .inl ⟨h4,ee,C⟩
     ·rw[er]at i;replace i:set R.aD x.sub (Z (.new x.own x.dQ x.aU)) s=Z m:=i;rw[da _ _ C]at i;exact .inr ⟨m,i,rfl⟩
    ·by_cases C:s=x.sub
     ·exact .inl ⟨h4,ee,C,by rw[eg,C,dY],by rw[eg,C,dY]⟩
     ·exact .inr ⟨by rw[eg,da _ _ C],by rw[eg,da _ _ C],λi=>C i.2.2⟩
  by_cases h5:x.nv=5
  ·have e:R.act x=((R.dN x.sub x.jo x.aY).1,(R.dN x.sub x.jo x.aY).2,false):=by simp[Room.act,h5]
   have hg:∀s,(u s).H=(G s).H/\(u s).Q=(G s).Q:=λs=>by
    rw[Hs];unfold Ag;rw[if_neg h1,if_neg h4,if_pos h5];split
    ·by_cases C:s=x.sub
     ·subst C;rw[dY];exact⟨rfl,rfl⟩
     ·rw[da _ _ C];exact⟨rfl,rfl⟩
    ·exact⟨rfl,rfl⟩
   refine still h1 (λs m i=>.inr ?_) (λi=>?_) (λs=>.inr ⟨(hg s).1,(hg s).2,λi=>h4 i.1⟩)
   ·rw[A,e]at i;replace i:(R.dN x.sub x.jo x.aY).1.aD s=Z m:=i;unfold Room.dN at i;iterate 7 (split at i;exact⟨m,i,rfl⟩)
    have q:=K _ _ _ _ _ i;exact q
   ·rw[A,e]at i;replace i:(R.dN x.sub x.jo x.aY).1.cN=false:=i;unfold Room.dN at i;iterate 7 (split at i;exact i)
    rw[LC]at i;exact i
  by_cases h0:x.nv=0
  ·have e:R'=(R.fT x.b).1:=by rw[A];simp[Room.act,h0]
   refine plain h4 h5 (λs m i=>?_) (λi=>?_)
   ·rw[e]at i;unfold Room.fT at i;split at i
    ·exact⟨m,i,rfl⟩
    ·exact⟨m,i,rfl⟩
   ·rw[e]at i;unfold Room.fT at i;split at i
    ·exact i
    ·exact i
  by_cases h2:x.nv=2
  ·have e:R'=R.tick.1:=by rw[A];simp[Room.act,h2]
   cases M:R.cN with
   |true =>
    have X:R'=R:=by rw[e];unfold Room.tick;rw[if_pos M]
    exact plain h4 h5 (λs m i=>⟨m,by rw[<-X];exact i,rfl⟩) (λi=>by rw[X]at i;exact i)
   |false =>
    have X:R'=asked eX { R with cJ:=R.cJ+1 }:=by rw[e];exact Hg R M
    exact plain h4 h5 (λs m i=>⟨m,by rw[X]at i;exact i,rfl⟩) (λi=>M)
  by_cases h3:x.nv=3
  ·have e:R'=(R.gg x.jo x.s0 x.s1 x.s2).1:=by rw[A];simp[Room.act,h3]
   refine plain h4 h5 (λs m i=>?_) (λi=>?_)
   ·rw[e]at i;unfold Room.gg at i;repeat' split at i
    all_goals exact⟨m,i,rfl⟩
   ·rw[e]at i;unfold Room.gg at i;repeat' split at i
    all_goals exact i
  by_cases h6:x.nv=6
  ·have e:R'=(R.iy x.sub x.aY).1:=by rw[A];simp[Room.act,h6]
   refine plain h4 h5 (λs m i=>?_) (λi=>?_)
   ·rw[e]at i;unfold Room.iy at i;iterate 3 (split at i;exact⟨m,i,rfl⟩)
    have q:=K _ _ _ _ _ i;exact q
   ·rw[e]at i;unfold Room.iy at i;iterate 3 (split at i;exact i)
    rw[LC]at i;exact i
  by_cases h7:x.nv=7
  ·have e:R'=(R.jE x.sub).1:=by rw[A];simp[Room.act,h7]
   refine plain h4 h5 (λs m i=>?_) (λi=>?_)
   ·rw[e]at i;unfold Room.jE at i;iterate 3 (split at i;exact⟨m,i,rfl⟩)
    replace i:set R.aD x.sub I s=Z m:=i;by_cases e:s=x.sub
    ·rw[e,dY]at i;cases i
    ·rw[da _ _ e]at i;exact⟨m,i,rfl⟩
   ·rw[e]at i;unfold Room.jE at i;iterate 3 (split at i;exact i)
    exact i
  by_cases h8:x.nv=8
  ·have e:R'=R.fU.1:=by rw[A];simp[Room.act,h8]
   refine plain h4 h5 (λs m i=>?_) (λi=>?_)
   ·rw[e]at i;unfold Room.fU at i;split at i
    ·exact⟨m,i,rfl⟩
    ·exact⟨m,i,rfl⟩
   ·rw[e]at i;unfold Room.fU at i;split at i
    ·exact i
    ·cases i
  ·have e:R'=R:=by rw[A];simp[Room.act,h0,h1,h2,h3,h4,h5,h6,h7,h8]
   exact plain h4 h5 (λs m i=>⟨m,by rw[<-e];exact i,rfl⟩) (λi=>by rw[<-e];exact i)
 have e:R.act x=((R.pick x.w x.fq).1,0,(R.pick x.w x.fq).2):=by simp[Room.act,h1]
 have Ko:u=uM R G x.w x.fq:=by rw[Hs];unfold Ag;rw[if_pos h1]
 have Hu:R'=(R.pick x.w x.fq).1:=by rw[A,e]
 have LP:(R.act x).2.2=(R.pick x.w x.fq).2:=by rw[e]
 have ej:∀q:Qs,Qs.lu x (R.act x).2.1 q=q:=λq=>by unfold Qs.lu;rw[if_neg (λi=>z)]
 rw[ej,LP];have Km:=gk.pick R x.w x.fq;rw[<-Hu]at Km;have L:∀s m,R'.aD s=Z m->∃l,R.aD s=Z l:=λs m i=>Option.isSome_iff_exists.1 (Km.aD s (by rw[i];rfl));have I8:∀s m,R'.aD s=Z m->(u s).W.length=m.fF.length:=λs m i=>(hI.fo s m i).1.fF;have Y:∀s l,R.aD s=Z l->(G s).W.length=l.fF.length:=λs l i=>(hi.fo s l i).1.fF;have Hl:(u x.w.2).W=(G x.w.2).W->ya R R' x (!R.cN)=false:=λi=>by
  unfold ya;have:¬(kA R x.w.2).length<(kA R' x.w.2).length:=by
   unfold kA;cases B:R'.aD x.w.2 with
   |none=>simp
   |some m =>
    obtain⟨l,E⟩:=L _ _ B;rw[E];simp only;rw[<-I8 _ _ B,<-Y _ _ E,i];omega
  simp[this]
 by_cases hm:R.may x.w=true;rotate_left
 ·have MC:R.may x.w=false:=by simpa using hm
  have eg:u=G:=by rw[Ko];unfold uM;rw[if_pos MC]
  have ep:R.pick x.w x.fq=(R,false):=by unfold Room.pick;simp[MC]
  have U:=Hl (by rw[eg]);have X:Qs.ab R R' x (R.pick x.w x.fq).2 (!R.cN) q=q:=by
   unfold Qs.ab;have:Ao R' x (R.pick x.w x.fq).2 (!R.cN)=false:=by unfold Ao;rw[ep];simp
   rw[this];rfl
  have e3:Qs.wrote R R' x (!R.cN) q=q:=by unfold Qs.wrote;rw[U];rfl
  rw[X,e3];have er:R'=R:=by rw[Hu,ep]
  refine⟨?_,λi=>by rw[U]at i;cases i⟩;refine AJ hI (λ_ s l i=>.inr (h.len s l (by rw[<-er];exact i))) (λM s l i=>?_);rw[er]at M i;rw[eg];obtain⟨a,b⟩:=h.open_ M s l i;exact⟨a,.inl b⟩
 cases M:R.cN with
 |true =>
  have X:∀d,Qs.ab R R' x d false q=q:=λd=>by unfold Qs.ab Ao;simp
  have e3:ya R R' x false=false:=by unfold ya;simp
  have e4:Qs.wrote R R' x false q=q:=by unfold Qs.wrote;rw[e3];rfl
  rw[Bool.not_true,X,e4];refine⟨?_,λi=>by rw[e3]at i;cases i⟩;have Ia:R'.cN=true:=by rw[Hu,(Op.pick R x.w x.fq).cN,M]
  refine AJ hI (λ_ s m i=>?_) (λi=>by rw[Ia]at i;cases i);obtain⟨l,E⟩:=L s m i;have I9:=(hI.fo s m i).1.ready;have hr:=(hi.fo s l E).1.ready;have Oj:(u s).Q=[]\/(u s).Q=(G s).Q:=by
   have e9:u=match R.aD x.w.2 with | none=>G | some l=>if x.w.1=0\/x.w.1=1 then G else set G x.w.2 (pJ x.w (G x.w.2)):=by
    rw[Ko];unfold uM;rw[if_neg (by rw[hm];simp)];simp only[M,if_true];rfl
   rw[e9];cases R.aD x.w.2 with
   |none=>exact .inr rfl
   |some l9 =>
    simp only;by_cases N:x.w.1=0\/x.w.1=1
    ·rw[if_pos N];exact .inr rfl
    ·rw[if_neg N];by_cases C:s=x.w.2
     ·subst C;rw[dY];unfold pJ;split
      ·exact .inr rfl
      ·exact .inl rfl
     ·rw[da _ _ C];exact .inr rfl
  rcases Oj with g|g
  ·rw[g]at I9;exact .inl (cU.1 I9.symm)
  ·right;rw[h.len s l E,<-I9,g,hr]
 |false =>
  have Ia:R'.cN=false:=by rw[Hu,(Op.pick R x.w x.fq).cN,M]
  rw[rN];have F:=h.open_ M;have D:=Hl;rw[M,rN]at D;have p:u=match R.aD x.w.2 with
    |none=>G
    |some l=>if x.w.1=0\/x.w.1=1 then G else if x.w.1=2 then G else if x.w.1=3 then set G x.w.2 (lU l R.dA.aG (G x.w.2)) else set G x.w.2 (iR l R.dA.aT x.fq (G x.w.2)):=by
   rw[Ko];unfold uM;rw[if_neg (by rw[hm];simp)];simp only[M,cB,if_false];rfl
  by_cases N:(x.w.1=0\/x.w.1=1)\/x.w.1=2
  ·have eg:u=G:=by
    rw[p];split
    ·rfl
    ·rcases N with k|k
     ·rw[if_pos k]
     ·rw[if_neg z,if_pos k]
   have h3:x.w.1≠3:=z;have U:=D (by rw[eg]);have X:Qs.ab R R' x (R.pick x.w x.fq).2 true q=q:=by
    unfold Qs.ab;have:Ao R' x (R.pick x.w x.fq).2 true=false:=by unfold Ao;simp[h3]
    rw[this];rfl
   have e3:Qs.wrote R R' x true q=q:=by unfold Qs.wrote;rw[U];rfl
   rw[X,e3];refine⟨?_,λi=>by rw[U]at i;cases i⟩;refine AJ hI (λi=>by rw[Ia]at i;cases i) (λ_ s m i=>?_);obtain⟨l,E⟩:=L s m i;obtain⟨a,b⟩:=F s l E;rw[eg];exact⟨a,.inl b⟩
  have h2:x.w.1≠2:=λk=>N (.inr k);replace N:¬(x.w.1=0\/x.w.1=1):=λk=>N (.inl k);obtain⟨l,E,m2,m3,m4⟩:=LQ hm M N;rw[E]at p;simp only at p;rw[if_neg N]at p;have Kn:fY x.w.2=true:=by
   have:=hw.uf x.w.2 (by rw[E];rfl);unfold fY;simp[this]
  rw[if_neg h2]at p;have Kq:(R.pick x.w x.fq).2=true:=by unfold Room.pick;simp[hm]
  by_cases h3:x.w.1=3
  ·rw[if_pos h3]at p;have hp:=m3 h3;have er:R'=R.fD x.w.2:=by
    rw[Hu];unfold Room.pick;rw[if_neg (by rw[hm];simp)];simp only[M,cB,if_false];rw[if_neg z,if_neg z,if_neg h2,if_pos h3]
   have Kr:(u x.w.2).W=(G x.w.2).W:=by
    rw[p,dY];unfold lU;split<;>rfl
   have U:=D Kr;have hQ:(u x.w.2).Q=(if l.ready.length=R.dA.aG then(G x.w.2).Q.tail else(G x.w.2).Q)++[(G x.w.2).H.length]/\(u x.w.2).H.length=(G x.w.2).H.length+1:=by
    rw[p,dY];unfold lU;cases OF:l.bF with
    |nil=>exact absurd OF hp
    |cons y r=>obtain⟨y1,y2⟩:=y;exact⟨rfl,dt⟩
   obtain⟨m,B⟩:∃m,R'.aD x.w.2=Z m:=by
    rw[er];unfold Room.fD;rw[E];simp only;split
    ·rw[(nW _ _ _ _).1];exact⟨_,dY _ _ _⟩
    ·exact⟨_,dY _ _ _⟩
   have I9:=(hI.fo _ _ B).1.ready;have Kw:0<pe R' x.w.2:=by
    unfold pe;rw[B];simp only;rw[<-I9,hQ.1];simp
   have PC:Ao R' x (R.pick x.w x.fq).2 true=true:=by unfold Ao;rw[Kq,Kn];simp[h1,h3,Kw]
   obtain⟨o1,o2⟩:=F _ _ E;have Ld:=C7 hi x.w.2 E hp;rw[<-er]at Ld;have MP:Qs.ab R R' x (R.pick x.w x.fq).2 true q=⟨set q.rw x.w.2 ((G x.w.2).H.length+1),set q.qs x.w.2 ((u x.w.2).Q)⟩:=by
    unfold Qs.ab;rw[if_pos PC,o1,o2];congr 2;rw[hQ.1];by_cases hq:l.ready.length=R.dA.aG
    ·rw[if_pos hq];rw[if_pos (Ld.2 hq)];have Ln:(G x.w.2).Q≠[]:=by
      intro i;have:=(hi.fo _ _ E).1.ready;rw[i,hq]at this;have:=hi.aG;simp at *;omega
     cases hz:(G x.w.2).Q with
     |nil=>exact absurd hz Ln
     |cons a r=>rfl
    ·rw[if_neg hq];rw[if_neg (λi=>hq (Ld.1 i))]
   rw[MP];have e3:∀q',Qs.wrote R R' x true q'=q':=λq'=>by unfold Qs.wrote;rw[U];rfl
   rw[e3];refine⟨?_,λi=>by rw[U]at i;cases i⟩;refine AJ hI (λi=>by rw[Ia]at i;cases i) (λ_ s m i=>?_);by_cases C:s=x.w.2
   ·subst C;show set q.rw x.w.2 ((G x.w.2).H.length+1) x.w.2=_/\(set q.qs x.w.2 _ x.w.2=_\/_);rw[dY,dY,hQ.2];exact⟨rfl,.inl rfl⟩
   ·show set q.rw x.w.2 ((G x.w.2).H.length+1) s=_/\(set q.qs x.w.2 _ s=_\/_);rw[da _ _ C,da _ _ C];obtain⟨l0,Kk⟩:=L s m i;obtain⟨a,b⟩:=F s l0 Kk;have:u s=G s:=by rw[p,da _ _ C]
    rw[this];exact⟨a,.inl b⟩
  ·rw[if_neg h3]at p;have hr:=m4 h2 h3;obtain⟨o1,o2⟩:=F _ _ E;have X:Qs.ab R R' x (R.pick x.w x.fq).2 true q=q:=by
    unfold Qs.ab;have:Ao R' x (R.pick x.w x.fq).2 true=false:=by unfold Ao;simp[h3]
    rw[this];rfl
   rw[X];have Ho:∀s,s≠x.w.2->u s=G s:=λs C=>by rw[p,da _ _ C]
   have T:u x.w.2=iR l R.dA.aT x.fq (G x.w.2):=by rw[p,dY]
   have P:iR l R.dA.aT x.fq (G x.w.2)=if x.fq then { G x.w.2 with W:=(G x.w.2).W++(G x.w.2).Q.take 1,Q:=(G x.w.2).Q.drop 1 } else if(l.write R.dA.aT x.fq).1.eG then { G x.w.2 with Q:=[] } else G x.w.2:=by
    unfold iR;rw[if_neg hr]
   have Ln:(G x.w.2).Q≠[]:=by
    intro i;have:=(hi.fo _ _ E).1.ready;rw[i]at this;exact hr (cU.1 this.symm)
   obtain⟨k,qr,Kl⟩:∃k qr,(G x.w.2).Q=k::qr:=by
    cases hz:(G x.w.2).Q with
    |nil=>exact absurd hz Ln
    |cons a r=>exact⟨a,r,rfl⟩
   have hH:(u x.w.2).H=(G x.w.2).H:=by rw[T];exact(yU _ _ _ _).2
   cases ha:x.fq with
   |false =>
    rw[ha]at P T;simp only[cB,if_false]at P;have Kr:(u x.w.2).W=(G x.w.2).W:=by rw[T,P];split<;>rfl
    have U:=D Kr;have e3:Qs.wrote R R' x true q=q:=by unfold Qs.wrote;rw[U];rfl
    rw[e3];refine⟨?_,λi=>by rw[U]at i;cases i⟩;refine AJ hI (λi=>by rw[Ia]at i;cases i) (λ_ s m i=>?_);obtain⟨l0,Kk⟩:=L s m i;obtain⟨a,b⟩:=F s l0 Kk;by_cases C:s=x.w.2
    ·subst C;rw[hH];refine⟨a,?_⟩;rw[T,P];split
     ·exact .inr rfl
     ·exact .inl b
    ·rw[Ho s C];exact⟨a,.inl b⟩
   |true =>
    rw[ha]at P T;simp only[if_true]at P;have MT:(u x.w.2).W=(G x.w.2).W++[k]:=by rw[T,P,Kl];rfl
    have PN:(u x.w.2).Q=qr:=by rw[T,P,Kl];rfl
    obtain⟨m,B⟩:∃m,R'.aD x.w.2=Z m:=by
     have k2:∀(m:dP) (id:Nat) (f:Int),(kg R x.w.2 m id f).aD=set R.aD x.w.2 (Z m):=λm id f=>by
      unfold kg;split
      ·exact(nW _ _ _ _).1
      ·rfl
     have er:R'=R.jS x.w.2 x.fq:=by
      rw[Hu];unfold Room.pick;rw[if_neg (by rw[hm];simp)];simp only[M,cB,if_false];rw[if_neg z,if_neg z,if_neg h2,if_neg h3]
     rw[er,kh,E];simp only;refine⟨(l.write R.dA.aT x.fq).1,?_⟩;unfold nA;split
     ·show(kg R x.w.2 _ _ _).aD x.w.2=_;rw[k2,dY]
     ·rw[k2,dY]
    have MU:=I8 _ _ B;have MV:=Y _ _ E;rw[MT]at MU;simp only[cG,ft,List.length_nil]at MU;have eo:kA R x.w.2=l.fF:=by unfold kA;rw[E]
    have M7:kA R' x.w.2=m.fF:=by unfold kA;rw[B]
    have Lz:ya R R' x true=true:=by
     unfold ya;rw[Kn,eo,M7];simp[h1];omega
    have M9:Qs.wrote R R' x true q=⟨q.rw,set q.qs x.w.2 qr⟩:=by
     unfold Qs.wrote;rw[if_pos Lz,o2,Kl];rfl
    rw[M9];refine⟨?_,λ_=>?_⟩
    ·refine AJ hI (λi=>by rw[Ia]at i;cases i) (λ_ s l2 i=>?_);obtain⟨l0,Kk⟩:=L s l2 i;obtain⟨a,b⟩:=F s l0 Kk;by_cases C:s=x.w.2
     ·subst C;rw[hH];refine⟨a,.inl ?_⟩;show set q.qs x.w.2 qr x.w.2=_;rw[dY,PN]
     ·rw[Ho s C];refine⟨a,.inl ?_⟩;show set q.qs x.w.2 qr s=_;rw[da _ _ C];exact b
    ·rw[eo,M7];have PO:l.fF.length<m.fF.length:=z;obtain⟨o,ho⟩:∃o,m.fF[l.fF.length]? = Z o:=⟨_,ay PO⟩;obtain⟨k',y,q1,q2,q3,q4,q5⟩:=pz (hI.fo _ _ B).1 ho;have RU:k'=k:=by
      rw[MT,<-MV,dG (aj _),qB]at q1;simpa using q1.symm
     subst RU;have NR:(u x.w.2).dQ=(G x.w.2).dQ/\(u x.w.2).own=(G x.w.2).own:=by rw[T,P];exact⟨rfl,rfl⟩
     refine⟨k',qr,o,by rw[o2,Kl],z,ho,by rw[q4],?_,?_⟩
     ·rw[q4,<-NR.1];exact q5.dQ
     ·rw[q4,<-NR.2];exact q5.bJ
end M
abbrev jQ(x:M.Act)(b:Sl):Array Value:=#[J V x.nv,J V x.sub,J V x.jo,J V x.aY,ae b.a b.n b.c,J V x.w.1,J V x.w.2,ai x.fq,J ar x.own,J ar x.aU,J aN x.dQ,J ar x.s0,J ar x.s1,J ar x.s2]
structure Nf(x:M.Act):Prop where
 ok:x.Ok
 sub:(dU V x.sub).wf=true
 src:(0<=x.s0/\x.s0<=4294967295)/\(0<=x.s1/\x.s1<=4294967295)/\0<=x.s2/\x.s2<=4294967295
 wk:(dU V x.w.2).wf=true
def wY(B:RB)(w:aw)(R:M.Room)(N:Nat)(x:M.Act)(e:Ending)(w':aw):Prop:=
 ∃B',e=av (aB #[J V (R.act x).2.1,ai (R.act x).2.2])/\aL w' B' (R.act x).1 (N+20)/\fK w w' B B'
def Fq{x:Int}(h:0<=x/\x<=4294967295):Ng x:=by unfold Ng pD;rw[cM,decide_eq_true_iff,decide_eq_true_iff];exact⟨h.1,h.2⟩
def K9{B:RB}{R:M.Room}{N:Nat}{w:aw}(h:aL w B R N){G:Int->M.ij}{n:Nat}(b:M.lG R G n)(i:N<600000) :
  aF af 37 #[aq (Z ⟨B.g,0,I⟩)] w (kk B w (J V R.tick.2) R.tick.1 (N+20)):=by
 cases a:R.cN with
 |true =>
  refine(Cl h a).mono ?_;rintro e w' ⟨c,d,rfl⟩;exact⟨B,c,by rw[d];exact h.mono z,fK.refl _ _⟩
 |false =>
  have f:R.tick.2=0:=by unfold M.Room.tick;rw[a];rfl
  rw[f];exact Jc h a (Bs b) (Ml b) z
def xF{B:RB}{R:M.Room}{N:Nat}{w:aw}(h:aL w B R N){G:Int->M.ij}{n:Nat}(hk:M.lG R G n)(hn:n<=1000)(hN:N<600000)(x:M.Act)(hx:Nf x)(s:Sl)(p:pL w s.a s.n s.c x.b)(hl:s.n<=400) :
  aF af 14 #[aq (Z ⟨B.g,0,I⟩),cg (jQ x s)] w (wY B w R N x):=by
 obtain⟨H,v,u,HB⟩:=cA h hk hx p;have A:=h.lt;clear h hk hx p;go_enter func14,ntmps14;go_upto_region 1 with fail;obtain⟨r3,C⟩:=dH w.heap.size;rw[<-C];have al:aC w (w.alloc (.cells (jQ x s) 45)):=(ao _ w).alloc (aj _) _;refine aW (λX=>aK X r3 45 (jQ x s)/\aC w X) ⟨aK.newAt _ _ _ _ C,al⟩ ?_;clear al C;rintro X ⟨b3,y⟩;have h:=H.O.below y;have p:=HB.O.below y;have hS:=fK.fN B y;have r:=b3.cell 0;have k1:=b3.cell 1;have k2:=b3.cell 2;have k3:=b3.cell 3;have k4:=b3.cell 4;have k5:=b3.cell 5;have k6:=b3.cell 6;have k7:=b3.cell 7;have k8:=b3.cell 8;have k9:=b3.cell 9;have D:=b3.cell 10;have E:=b3.cell 11;have F:=b3.cell 12;have K:=b3.cell 13;simp at r k1 k2 k3 k4 k5 k6 k7 k8 k9 D E F K;have HS:=au hS;clear y b3 H HB hS A;by_cases k:0<=x.nv/\x.nv<=8
 ·have L:x.nv=0\/x.nv=1\/x.nv=2\/x.nv=3\/x.nv=4\/x.nv=5\/x.nv=6\/x.nv=7\/x.nv=8:=z;clear k;rcases L with k|k|k|k|k|k|k|k|k
  ·have d:R.act x=((R.fT x.b).1,(R.fT x.b).2,false):=by unfold M.Room.act;simp only[k];rfl
   rw[k]at r;obtain⟨o,f⟩:=bu (tO h s x.b p hl z) d;clear d k h p;go_wp2_with (go_at_call 26;refine o.O.mono ?_;rintro e t ⟨B',rfl,i,j⟩;have l:=au i;have m:=au j;clear i j);refine ax (ew rfl _ _ _) rfl ?_;exact⟨B',by rw[f.O];rfl,by rw[f.O];exact l.O.mono z,HS.O.trans m.O⟩
  ·have d:R.act x=((R.pick x.w x.fq).1,0,(R.pick x.w x.fq).2):=by unfold M.Room.act;simp only[k];rfl
   rw[k]at r;obtain⟨o,f⟩:=bu (sY h x.w.1 x.w.2 x.fq (ta v.O hn) z) d;clear d k h p;go_wp2_with (go_at_call 25;refine o.O.mono ?_;rintro e t ⟨B',rfl,i,j⟩;have l:=au i;have m:=au j;clear i j);refine ax (ew rfl _ _ _) rfl ?_;exact⟨B',by rw[f.O];rfl,by rw[f.O];exact l.O.mono z,HS.O.trans m.O⟩
  ·have d:R.act x=(R.tick.1,R.tick.2,false):=by unfold M.Room.act;simp only[k];rfl
   rw[k]at r;obtain⟨o,f⟩:=bu (K9 h v.O hN) d;clear d k h p;go_wp2_with (go_at_call 37;refine o.O.mono ?_;rintro e t ⟨B',rfl,i,j⟩;have l:=au i;have m:=au j;clear i j);refine ax (ew rfl _ _ _) rfl ?_;exact⟨B',by rw[f.O];rfl,by rw[f.O];exact l.O.mono z,HS.O.trans m.O⟩
  ·have d:R.act x=((R.gg x.jo x.s0 x.s1 x.s2).1,(R.gg x.jo x.s0 x.s1 x.s2).2,false):=by unfold M.Room.act;simp only[k];rfl
   rw[k]at r;obtain⟨o,f⟩:=bu (vZ h x.jo x.s0 x.s1 x.s2 z (Fq u.O.src.1) (Fq u.O.src.2.1) (Fq u.O.src.2.2)) d;clear d k h p;go_wp2_with (go_at_call 38;refine o.O.mono ?_;rintro e t ⟨B',rfl,i,j⟩;have l:=au i;have m:=au j;clear i j);refine ax (ew rfl _ _ _) rfl ?_;exact⟨B',by rw[f.O];rfl,by rw[f.O];exact l.O.mono z,HS.O.trans m.O⟩
  ·have d:R.act x=((R.iJ x.sub x.own x.dQ x.aU).1,(R.iJ x.sub x.own x.dQ x.aU).2,false):=by unfold M.Room.act;simp only[k];rfl
   rw[k]at r;obtain⟨o,f⟩:=bu (Ba h x.sub x.own x.dQ x.aU z (lE u.O.ok.own) (lE u.O.ok.dQ) (lE u.O.ok.aU)) d;clear d k h p;go_wp2_with (go_at_call 39;refine o.O.mono ?_;rintro e t ⟨B',rfl,i,j⟩;have l:=au i;have m:=au j;clear i j);refine ax (ew rfl _ _ _) rfl ?_;exact⟨B',by rw[f.O];rfl,by rw[f.O];exact l.O.mono z,HS.O.trans m.O⟩
  ·have d:R.act x=((R.dN x.sub x.jo x.aY).1,(R.dN x.sub x.jo x.aY).2,false):=by unfold M.Room.act;simp only[k];rfl
   rw[k]at r;obtain⟨o,f⟩:=bu (uw h x.sub x.jo x.aY u.O.sub z (λq=>by rw[<-v.O.inv.lu];exact q)) d;clear d k h p;go_wp2_with (go_at_call 40;refine o.O.mono ?_;rintro e t ⟨B',rfl,i,j⟩;have l:=au i;have m:=au j;clear i j);refine ax (ew rfl _ _ _) rfl ?_;exact⟨B',by rw[f.O];rfl,by rw[f.O];exact l.O.mono z,HS.O.trans m.O⟩
  ·have d:R.act x=((R.iy x.sub x.aY).1,(R.iy x.sub x.aY).2,false):=by unfold M.Room.act;simp only[k];rfl
   rw[k]at r;obtain⟨o,f⟩:=bu (Jb h x.sub x.aY (λq=>by rw[<-v.O.inv.lu];exact q)) d;clear d k h p;go_wp2_with (go_at_call 41;refine o.O.mono ?_;rintro e t ⟨B',rfl,i,j⟩;have l:=au i;have m:=au j;clear i j);refine ax (ew rfl _ _ _) rfl ?_;exact⟨B',by rw[f.O];rfl,by rw[f.O];exact l.O.mono z,HS.O.trans m.O⟩
  ·have d:R.act x=((R.jE x.sub).1,(R.jE x.sub).2,false):=by unfold M.Room.act;simp only[k];rfl
   rw[k]at r;obtain⟨o,f⟩:=bu (FP h x.sub z) d;clear d k h p;go_wp2_with (go_at_call 42;refine o.O.mono ?_;rintro e t ⟨B',rfl,i,j⟩;have l:=au i;have m:=au j;clear i j);refine ax (ew rfl _ _ _) rfl ?_;exact⟨B',by rw[f.O];rfl,by rw[f.O];exact l.O.mono z,HS.O.trans m.O⟩
  ·have d:R.act x=(R.fU.1,R.fU.2,false):=by unfold M.Room.act;simp only[k];rfl
   rw[k]at r;obtain⟨o,f⟩:=bu (An h) d;clear d k h p;go_wp2_with (go_at_call 43;refine o.O.mono ?_;rintro e t ⟨rfl,i,j⟩;have l:=au i;have m:=au j;clear i j);refine ax (ew rfl _ _ _) rfl ?_;exact⟨B,by rw[f.O];rfl,by rw[f.O];exact l.O.mono z,HS.O.trans m.O⟩
 ·have P:¬x.nv=0:=z;have Q:¬x.nv=1:=z;have S:¬x.nv=2:=z;have T:¬x.nv=3:=z;have U:¬x.nv=4:=z;have W:¬x.nv=5:=z;have Y:¬x.nv=6:=z;have Hl:¬x.nv=7:=z;have Ho:¬x.nv=8:=z;have d:R.act x=(R,0,false):=by
   unfold M.Room.act;rw[if_neg P,if_neg Q,if_neg S,if_neg T,if_neg U,if_neg W,if_neg Y,if_neg Hl,if_neg Ho]
  obtain⟨f,HR⟩:=bu d h;clear d h p k;go_wp2_with fail;refine ax (ew rfl _ _ _) rfl ?_;exact⟨B,by rw[f.O];rfl,by rw[f.O];exact HR.O.mono z,HS.O⟩
section
abbrev ag(n:Nat):Value:=J V n
def Sl.own(s:Sl)(i:Nat):Prop:=∃o,s.a=Z ⟨i,o,I⟩
structure AO(w:aw)(s:Sl)(xs:List Nat):Prop where
 len:s.n=xs.length
 le:s.n<=s.c
 ex:s=⟨I,0,0⟩\/∃g o cs,s.a=Z ⟨g,o,I⟩/\aK w g 3 cs/\o+s.c<=cs.size/\∀i x,xs[i]? = Z x->cs[o+i]? = Z (ag x)
section
variable {w w':aw} {s:Sl} {xs:List Nat}
def AO.nil(w:aw):AO w ⟨I,0,0⟩ []:=⟨rfl,aj _,.inl rfl⟩
def AO.dW{F:Nat->Prop}(h:AO w s xs)(u:cS F w w')(hF:∀i,s.own i->¬F i):AO w' s xs:=by
 refine⟨h.len,h.le,?_⟩;rcases h.ex with e | ⟨g,o,cs,e,a,k⟩
 ·exact .inl e
 ·exact .inr ⟨g,o,cs,e,a.dW u (hF g ⟨o,e⟩),k⟩
def AO.lt(h:AO w s xs):∀i,s.own i->i<w.heap.size:=by
 rintro i ⟨c,a⟩;rcases h.ex with e | ⟨g,o,cs,e,b,_⟩
 ·rw[e]at a;cases a
 ·rw[e]at a;simp only[bf,Addr.mk.injEq]at a;rw[<-a.1];exact b.lt
def AO.cw(h:AO w s xs):∀i,s.own i->∃cs,aK w i 3 cs:=by
 rintro i ⟨c,a⟩;rcases h.ex with e | ⟨g,o,cs,e,b,_⟩
 ·rw[e]at a;cases a
 ·rw[e]at a;simp only[bf,Addr.mk.injEq]at a;rw[<-a.1];exact⟨cs,b⟩
def AO.cut{x:Nat}(h:AO w s (x::xs)):∃g o,s.a=Z ⟨g,o,I⟩/\s.n=xs.length+1/\w.cell? ⟨g,o,I⟩=Z (ag x)/\∀b,(b=o+1\/b=o/\s.c=1)->AO w ⟨Z ⟨g,b,I⟩,s.n-1,s.c-1⟩ xs:=by
 have d:=h.len;have hle:=h.le;simp only[ft]at d;rcases h.ex with e | ⟨g,o,cs,e,f,k,j⟩
 ·rw[e]at d;simp at d
 ·refine⟨g,o,e,d,by rw[f.cell];simpa using j 0 x rfl,λb l=>⟨dZ,dZ,.inr ⟨g,b,cs,rfl,f,dZ,λi y hy=>?_⟩⟩⟩;rcases l with rfl | ⟨rfl,h1⟩
  ·rw[Bj,Nat.add_comm 1 i];exact j (i+1) y (by simpa using hy)
  ·have:=(aS.1 hy).1;omega
end
def Hj:∃i,af.info? 3=Z i/\i.zero=Z (J V 0)/\i.size=1/\i.bytes=8:=by
 have h:(af.info? 3).map (λi=>(i.zero,i.size,i.bytes))=Z (Z (J V 0),1,8):=cC;cases q:af.info? 3 with
 |none=>rw[q]at h;cases h
 |some i=>rw[q]at h;simp at h;exact⟨i,rfl,h⟩
def AO.append{w:aw}{s:Sl}{xs:List Nat}(h:AO w s xs)(Q:xs.length<1000)(x:Nat)(ty:TypeId){r:Nat}(hr:w.cell? ⟨r,0,I⟩=Z (ag x)) :
  ∃s' w',(Builtin.append_ #[36,36] ty #[ae s.a s.n s.c,ae (Z ⟨r,0,I⟩) 1 1]).run af w=.ok (ae s'.a s'.n s'.c) w'/\AO w' s' (xs++[x])/\cS s.own w w'/\∀i,s'.own i->s.own i\/w.heap.size<=i:=by
 obtain⟨i3,f,K,h1,h8⟩:=Hj;have ht:af.underlying 36=Z (.slice 3):=underlying36;have B:=h.len;have b:∀j u,[ag x][j]? = Z u->w.cell? ((⟨r,0,I⟩:Addr).add j)=Z u:=λj u C=>by
  match j,C with
  |0,C=>simp at C;subst C;simpa[mc]using hr
 rcases h.ex with e | ⟨g,o,cs,e,D,l,L⟩
 ·subst e;have M:xs=[]:=List.eq_nil_of_length_eq_zero (by simpa using B.symm);subst M;have E:=run_append_nil (P:=af) w 36 ty 3 i3 _ ht f K ⟨r,0,I⟩ 1 1 [ag x] (by rw[h1];rfl) b z z z;refine⟨⟨Z ⟨w.heap.size,0,I⟩,1,grownCap w 1 0 3⟩,_,E,⟨rfl,Bc w 1 0 3,.inr ⟨_,0,_,rfl,aK.new w.drew _ _,?_,λi y hy=>?_⟩⟩,(cS.refl _ w).drew.alloc _,λi f=>?_⟩
  ·have:=Bc w 1 0 3;simp[size_zeroCells,gW];omega
  ·match i,hy with
   |0,hy=>simp at hy;subst hy;rw[cO,Array.getElem?_append_left dt];rfl
  ·obtain⟨o,q⟩:=f;simp at q;omega
 ·obtain⟨A,n,c⟩:=s;simp only at e B l;subst e;by_cases d:n+1<=c
  ·have N:=run_firstCells_some (P:=af) w 1 1 ⟨r,0,I⟩ 1 1 [ag x] rfl b;have m:=run_storeCells_at af g (o+n) 3 [ag x] 0 cs w D dZ (by simp[Value.oneCell']);simp only[Nat.add_zero]at m;refine⟨⟨Z ⟨g,o,I⟩,n+1,c⟩,w.setRow g (de cs (o+n) [ag x]),?_,⟨dZ,d,.inr ⟨g,o,_,rfl,setRow_heap w g cs _ 3 _ D,?_,λi y hy=>?_⟩⟩,(fW w g _).mono λi _ q=>⟨o,by rw[show i=g from q]⟩,λi f=>.inl f⟩
   ·have p:(storeCells (mc ⟨g,o,I⟩ n) [ag x]).run af w=.ok () (w.setRow g (de cs (o+n) [ag x])):=by rw[Ac];exact m
    simp[Builtin.append_,run_underlying ht,sizeOf,typeInfo,f,h1,Builtin.lenOf,d,N,p]
   ·rw[gU dZ];exact l
   ·by_cases q:i<n
    ·rw[kT dZ (.inl z)];exact L i y (by rw[dk z]at hy;exact hy)
    ·have F:i=n:=by
      have:=(aS.1 hy).1;simp at this;omega
     subst F;rw[B,dG (aj _),qB]at hy;simp at hy;subst hy;have:=qG (dx:=cs) (off:=o+i) (vs:=[ag x]) dZ (j:=0) dt;simpa using this
  ·have G:c=n:=by have:=h.le;simp only at this;omega
   subst G;have E:=run_append_grow (P:=af) w 36 ty 3 i3 _ ht f K ⟨g,o,I⟩ c c (xs.map ag) (by rw[h1];simp[B]) (λj v k=>by
    rw[dE]at k
    cases q:xs[j]? with
    |none=>rw[q]at k;cases k
    |some y =>
     rw[q]at k;simp at k;subst k
     rw[Ac,D.cell];exact L j y q) ⟨r,0,I⟩ 1 1 [ag x] (by rw[h1];rfl) b z z (by rw[h8];exact growslice_fits z z)
   refine⟨⟨Z ⟨w.heap.size,0,I⟩,c+1,grownCap w (c+1) c 3⟩,_,E,⟨dZ,Bc w (c+1) c 3,.inr ⟨_,0,_,rfl,aK.new w.drew _ _,?_,λi y hy=>?_⟩⟩,(cS.refl _ w).drew.alloc _,λi f=>?_⟩
   ·have:=Bc w (c+1) c 3;simp[size_zeroCells,gW];omega
   ·rw[cO];have t:(xs.map ag++[ag x])[i]? = Z (ag y):=by
     rw[show xs.map ag++[ag x]=(xs++[x]).map ag from dt,dE,hy];rfl
    have H:=(aS.1 t).1;rw[<-Array.getElem?_toList];simp only[Array.toList_append];rw[dk (by simpa using H)];exact t
   ·obtain⟨R,q⟩:=f;simp at q;omega
def Bt{ops:Array Oper}{o:Oper}{a:Act}{w:aw}{K:Act->aw->Prop}{Q:Exit->Act->aw->Prop}{E:Prop}
  (hg:o.guard=I) (s x:Operand) (b:o.op=.call { callee:=.builtin .append,args:=#[s,x],argTypes:=#[36,36] }) (S:Sl) (xs:List Nat) (d:a.eval s=ae S.a S.n S.c) (hR:AO w S xs) (e:xs.length<1000)
  (n r:Nat) (f:a.eval x=ae (Z ⟨r,0,I⟩) 1 1) (hr:w.cell? ⟨r,0,I⟩=Z (ag n))
  (h:∀s' w',AO w' s' (xs++[n])->cS S.own w w'->(∀i,s'.own i->S.own i\/w.heap.size<=i)->K (a.put o.dst (ae s'.a s'.n s'.c)) w') :
  if Region.wanted o (yielded ops a.tmps)=true then Oper.wp af o a w K Q else E:=by
 have hw:Region.wanted o (yielded ops a.tmps)=true:=by simp[Region.wanted,hg]
 rw[if_pos hw];obtain⟨s',w',h1,h2,h3,h4⟩:=hR.append e n o.type hr;unfold Oper.wp execOp;simp only[b,resolve,invoke,builtin,Sem.run_bind,Sem.run_pure,Result.andThen_ok,List.map_toArray,List.map_cons,List.map_nil,d,f,h1];exact h s' w' h2 h3 h4
end
def Fi(w:aw)(b o:Nat)(x:M.Act):Prop:=∃d:Sl,w.rangeAt b o (jQ x d).toList/\pL w d.a d.n d.c x.b
def pZ(w:aw)(A:Option Addr)(n:Nat)(l:List M.Act):Prop:=
 l.length=n/\(∀x∈l,Nf x)/\(0<n->∃b off,A=Z ⟨b,off,I⟩/\∀(i:Nat) x,l[i]? = Z x->Fi w b (off+i*14) x)
def Fi.tc{w w':aw}{b o:Nat}{x:M.Act}(h:Fi w b o x)(a:∀g i v,w.cell? ⟨g,i,I⟩=Z v->w'.cell? ⟨g,i,I⟩=Z v):Fi w' b o x:=by
 obtain⟨c,h1,h2⟩:=h;exact⟨c,λj v d=>a _ _ _ (h1 j v d),⟨h2.len,h2.wf,λh0=>by
  obtain⟨g,off,e,k⟩:=h2.cells h0
  exact⟨g,off,e,λi f=>a _ _ _ (k i f)⟩,h2.zero⟩⟩
def pZ.tc{w w':aw}{A:Option Addr}{n:Nat}{l:List M.Act}(h:pZ w A n l)(a:∀g i v,w.cell? ⟨g,i,I⟩=Z v->w'.cell? ⟨g,i,I⟩=Z v):pZ w' A n l:=by
 obtain⟨h1,h2,h3⟩:=h;refine⟨h1,h2,λh0=>?_⟩;obtain⟨b,off,e,k⟩:=h3 h0;exact⟨b,off,e,λi x c=>(k i x c).tc a⟩
def pZ.below{w w':aw}{A:Option Addr}{n:Nat}{l:List M.Act}(h:pZ w A n l)(b:aC w w'):pZ w' A n l:=h.tc λ_ _ _ q=>aM b q
def pV:(af.info? 45).map (·.size)=Z 14:=cC
def qV(l:List M.Act):Bool:=decide (120<l.length)||l.any λx=>decide (400<x.b.length)
def xt(A:Option Addr)(n c:Nat)(l:List M.Act)(w:aw)(h:pZ w A n l):aF af 10 #[ae A n c] w λe w'=>e=av (ai (qV l))/\aC w w':=by
 obtain⟨h1,h2,h3⟩:=h;by_cases E:120<n
 ·have e:qV l=true:=by unfold qV;rw[h1,decide_eq_true E];rfl
  rw[e];clear h2 h3 e h1;go_enter func10,ntmps10;have hw:(120:Int)<(n:Int):=z;go_wp2_with fail;go_ret;exact⟨rfl,ao _ _⟩
 ·have e:qV l=l.any λx=>decide (400<x.b.length):=by unfold qV;rw[h1,decide_eq_false E];rfl
  obtain⟨res,a⟩:=dH (qV l);rw[<-a];rw[e]at a;obtain⟨F,L⟩:=bu a h3;have hw:¬(120:Int)<(n:Int):=z;clear h2 h3 e a;go_enter func10,ntmps10;go_wp2_with fail;go_loopw [10] (λi wr=>∃k:Nat,i=J V k/\k<=n/\(∀x∈l.take k,decide (400<x.b.length)=false)/\aC w wr) (λi _=>n-(intOf i).toNat);case atStart=>exact⟨0,rfl,z,λx B=>by simp at B,ao _ _⟩
  case round =>
   obtain⟨k,rfl,U,u,s⟩:=hrel;by_cases N:k<n
   ·have P:((k:Int)<(n:Int)):=z;obtain⟨b,off,rfl,G⟩:=L.O z;have g:k<l.length:=z;obtain⟨p,t,H⟩:=G k l[k] (ay g);have t:wr.rangeAt b (off+k*14) (jQ l[k] p).toList:=λj v Q=>aM s (t j v Q);have hlen:=H.len;have m:l.take (k+1)=l.take k++[l[k]]:=List.take_succ_eq_append_getElem g;have d:l[k]∈l:=List.getElem_mem g;generalize l[k]=x at t hlen m d;obtain⟨K,R,S,r,T⟩:=gY t m u s d;clear G t H m u s d;by_cases f:400<p.n
    ·have C:(400:Int)<(p.n:Int):=z;have hr:res=true:=by rw[F.O,List.any_eq_true];exact⟨x,T.O,decide_eq_true (by rw[hlen];exact f)⟩
     have o:=au hr;clear hr;go_wp2_with (refine gQ rfl 45 (.tmp 12) rfl b (off+k*14) rfl (jQ x p).toList _ K.O underlying45 rfl pV ?_);go_ret;exact⟨by rw[o.O];rfl,r.O.alloc r.O.size _⟩
    ·have C:¬(400:Int)<(p.n:Int):=z;go_wp2_with (refine gQ rfl 45 (.tmp 12) rfl b (off+k*14) rfl (jQ x p).toList _ K.O underlying45 rfl pV ?_);go_roundw;case rel =>
      refine⟨k+1,by go_num,z,λy hy=>?_,r.O.alloc r.O.size _⟩;rw[R.O]at hy;rcases bt.1 hy with q|q
      ·exact S.O y q
      ·simp at q;subst q;rw[hlen];exact decide_eq_false f
     case measure=>simp[intOf];omega
   ·have D:k=n:=z;subst D;have hr:res=false:=by
     rw[F.O,oA];intro x B;have q:=u x (by rw[dC z];exact B);simpa using q
    obtain⟨r,o⟩:=bu s hr;clear s u hr;go_wp2_with fail;go_ret;exact⟨by rw[o.O];rfl,r.O⟩
namespace M
structure Jn where
 own:Int
 dQ:Int
 aU:Int
def kF(x:Act)(e:Int)(Jo:Int->Jn)(s:Int):Jn:=if x.nv=4/\e=0/\s=x.sub then⟨x.own,x.dQ,x.aU⟩ else Jo s
structure rC(R:Room)(G:Int->ij)(Jo:Int->Jn):Prop where
 eq:∀s l,R.aD s=Z l->Jo s=⟨(G s).own,(G s).dQ,(G s).aU⟩
 dQ:∀s l,R.aD s=Z l->0<=(G s).dQ/\(G s).dQ<65536
def rC.start(c:Ou)(G:Int->ij)(Jo:Int->Jn):rC (.new c) G Jo:=⟨λs l h=>(by cases h),λs l h=>(by cases h)⟩
def oM(R:Room)(G:Int->ij)(w:eK)(a:Bool)(s:Int):(uM R G w a s).own=(G s).own/\(uM R G w a s).dQ=(G s).dQ/\(uM R G w a s).aU=(G s).aU:=by
 have b:∀(g:ij),(g.own=(G w.2).own/\g.dQ=(G w.2).dQ/\g.aU=(G w.2).aU)->(set G w.2 g s).own=(G s).own/\(set G w.2 g s).dQ=(G s).dQ/\(set G w.2 g s).aU=(G s).aU:=λg hg=>by
  unfold set;split
  ·rename_i e;rw[e];exact hg
  ·exact⟨rfl,rfl,rfl⟩
 unfold uM;by_cases hm:R.may w=false
 ·rw[if_pos hm];exact⟨rfl,rfl,rfl⟩
 rw[if_neg hm];cases R.aD w.2 with
 |none=>exact⟨rfl,rfl,rfl⟩
 |some l =>
  simp only;by_cases h0:w.1=0\/w.1=1
  ·rw[if_pos h0];exact⟨rfl,rfl,rfl⟩
  rw[if_neg h0];by_cases c:R.cN=true
  ·rw[if_pos c];refine b _ ?_;unfold pJ;split<;>exact⟨rfl,rfl,rfl⟩
  rw[if_neg c];by_cases h2:w.1=2
  ·rw[if_pos h2];exact⟨rfl,rfl,rfl⟩
  rw[if_neg h2];by_cases h3:w.1=3
  ·rw[if_pos h3];refine b _ ?_;unfold lU;split<;>exact⟨rfl,rfl,rfl⟩
  rw[if_neg h3];refine b _ ?_;unfold iR;split
  ·exact⟨rfl,rfl,rfl⟩
  split
  ·exact⟨rfl,rfl,rfl⟩
  split<;>exact⟨rfl,rfl,rfl⟩
def ry(R:Room)(x:Act)(s:Int)(h:((R.act x).1.aD s).isSome=true):(x.nv=4/\(R.act x).2.1=0/\s=x.sub)\/(R.aD s).isSome=true:=by
 have lw:∀(r:Room) (t k:Int),((r.fj t k).1.aD s).isSome=true->(r.aD s).isSome=true:=λr t k a=>by
  unfold Room.fj at a;split at a
  ·rename_i l d;have a:(set r.aD t (Z (l.iy k).1) s).isSome=true:=a;unfold set at a;split at a
   ·rename_i e;rw[e,d];rfl
   ·exact a
  ·exact a
 by_cases h4:x.nv=4
 ·have e:R.act x=((R.iJ x.sub x.own x.dQ x.aU).1,(R.iJ x.sub x.own x.dQ x.aU).2,false):=by simp[Room.act,h4]
  rw[e]at h ⊢;simp only at h ⊢;unfold Room.iJ at h ⊢;split at h
  ·exact .inr h
  rename_i h1;split at h
  ·exact .inr h
  rename_i h2;split at h
  ·exact .inr h
  rename_i h3;rw[if_neg h1,if_neg h2,if_neg h3];have h:(set R.aD x.sub (Z (.new x.own x.dQ x.aU)) s).isSome=true:=h;by_cases c:s=x.sub
  ·exact .inl ⟨h4,rfl,c⟩
  ·rw[da _ _ c]at h;exact .inr h
 right;unfold Room.act at h;by_cases h0:x.nv=0
 ·rw[if_pos h0]at h;exact(gk.fT R x.b).aD s h
 rw[if_neg h0]at h;by_cases h1:x.nv=1
 ·rw[if_pos h1]at h;exact(gk.pick R x.w x.fq).aD s h
 rw[if_neg h1]at h;by_cases h2:x.nv=2
 ·rw[if_pos h2]at h;exact(gk.tick R).aD s h
 rw[if_neg h2]at h;by_cases h3:x.nv=3
 ·rw[if_pos h3]at h;have h:((R.gg x.jo x.s0 x.s1 x.s2).1.aD s).isSome=true:=h;unfold Room.gg at h;repeat' split at h
  all_goals exact h
 rw[if_neg h3,if_neg h4]at h;by_cases h5:x.nv=5
 ·rw[if_pos h5]at h;have a:((R.dN x.sub x.jo x.aY).1.aD s).isSome=true:=h;unfold Room.dN at a;split at a
  ·exact a
  split at a
  ·exact a
  split at a
  ·exact a
  split at a
  ·exact a
  split at a
  ·exact a
  split at a
  ·exact a
  split at a
  ·exact a
  ·have q:=lw _ _ _ a;exact q
 rw[if_neg h5]at h;by_cases h6:x.nv=6
 ·rw[if_pos h6]at h;exact(gk.iy R x.sub x.aY).aD s h
 rw[if_neg h6]at h;by_cases h7:x.nv=7
 ·rw[if_pos h7]at h;exact(gk.jE R x.sub).aD s h
 rw[if_neg h7]at h;by_cases h8:x.nv=8
 ·rw[if_pos h8]at h;exact(gk.fU R).aD s h
 rw[if_neg h8]at h;exact h
def rC.act{R:Room}{G:Int->ij}{Jo:Int->Jn}(h:rC R G Jo)(x:Act)(j:x.Ok):rC (R.act x).1 (Ag R G x) (kF x (R.act x).2.1 Jo):=by
 have key:∀s l,(R.act x).1.aD s=Z l->kF x (R.act x).2.1 Jo s=⟨(Ag R G x s).own,(Ag R G x s).dQ,(Ag R G x s).aU⟩/\0<=(Ag R G x s).dQ/\(Ag R G x s).dQ<65536:=by
  intro s l d;unfold kF;rcases ry R x s (by rw[d];rfl) with⟨a,b,c⟩|k
  ·rw[if_pos ⟨a,b,c⟩];have e:(R.act x).2.1=(R.iJ x.sub x.own x.dQ x.aU).2:=by simp[Room.act,a]
   rw[e]at b;unfold Ag;rw[if_neg z,if_pos a,if_pos b,c,dY];exact⟨rfl,j.dQ⟩
  ·obtain⟨l0,f⟩:=Option.isSome_iff_exists.1 k;have m:=h.eq s l0 f;have n:=h.dQ s l0 f;by_cases g:x.nv=4/\(R.act x).2.1=0/\s=x.sub
   ·rw[if_pos g];obtain⟨a,b,c⟩:=g;have e:(R.act x).2.1=(R.iJ x.sub x.own x.dQ x.aU).2:=by simp[Room.act,a]
    rw[e]at b;unfold Ag;rw[if_neg z,if_pos a,if_pos b,c,dY];exact⟨rfl,j.dQ⟩
   ·rw[if_neg g,m];have hg:(Ag R G x s).own=(G s).own/\(Ag R G x s).dQ=(G s).dQ/\(Ag R G x s).aU=(G s).aU:=by
     unfold Ag;split
     ·exact oM R G x.w x.fq s
     split
     ·rename_i h4;split
      ·rename_i h0;have e:(R.act x).2.1=(R.iJ x.sub x.own x.dQ x.aU).2:=by simp[Room.act,h4]
       have i:s≠x.sub:=λq=>g ⟨h4,by rw[e];exact h0,q⟩;rw[da _ _ i];exact⟨rfl,rfl,rfl⟩
      ·exact⟨rfl,rfl,rfl⟩
     split
     ·split
      ·unfold set;split
       ·rename_i q;rw[q];exact⟨rfl,rfl,rfl⟩
       ·exact⟨rfl,rfl,rfl⟩
      ·exact⟨rfl,rfl,rfl⟩
     ·exact⟨rfl,rfl,rfl⟩
    rw[hg.1,hg.2.1,hg.2.2];exact⟨rfl,n⟩
 exact⟨λs l d=>(key s l d).1,λs l d=>(key s l d).2⟩
end M
section
structure nF(cs:Array Value)(Jo:Int->M.Jn)(jo:Int->Int):Prop where
 size:cs.size=91
 own:∀s:Nat,s<6->cs[s*14+8]? = Z (J ar (Jo s).own)
 aU:∀s:Nat,s<6->cs[s*14+9]? = Z (J ar (Jo s).aU)
 dQ:∀s:Nat,s<6->cs[s*14+10]? = Z (J aN (Jo s).dQ)
 jo:∀s:Nat,s<6->cs[84+s]? = Z (J V (jo s))
structure ck(w:aw)(g mb:Nat)(Jo:Int->M.Jn)(jo:Int->Int)(N:Nat):Prop where
 ex:∃cs:Array Value,aK w g 84 cs/\nF cs Jo jo/\cs[90]? = Z (.map (Z mb))
 map:∃F,gA KO w mb F N
section
variable {w w':aw} {g mb:Nat} {Jo:Int->M.Jn} {jo:Int->Int} {N:Nat}
def CU{b c:Bool}{w:aw}(h:Hd (b=c)):ai b=ai c/\w=w:=⟨congrArg ai h.O,rfl⟩
def ck.dW{G:Nat->Prop}(h:ck w g mb Jo jo N)(u:cS G w w')(hg:¬G g)(hm:¬G mb):ck w' g mb Jo jo N:=by
 obtain⟨cs,h1,h2⟩:=h.ex;obtain⟨F,hF⟩:=h.map;exact⟨⟨cs,h1.dW u hg,h2⟩,F,hF.dW u hm⟩
def ck.below(h:ck w g mb Jo jo N)(u:aC w w'):ck w' g mb Jo jo N:=h.dW (G:=cr) (.bn u) id id
def ck.mono{N':Nat}(h:ck w g mb Jo jo N)(k:N<=N'):ck w g mb Jo jo N':=⟨h.ex,h.map.imp λF q=>q.mono k⟩
def ck.lt(h:ck w g mb Jo jo N):g<w.heap.size/\mb<w.heap.size:=by
 obtain⟨cs,h1,_⟩:=h.ex;obtain⟨F,hF⟩:=h.map;exact⟨h1.lt,hF.lt⟩
def ck.ne(h:ck w g mb Jo jo N):mb≠g:=by
 obtain⟨cs,h1,_⟩:=h.ex;obtain⟨F,hF⟩:=h.map;exact hF.ki h1
def ck.ni(h:ck w g mb Jo jo N):vP w (jK g mb):=λi a=>by
 obtain⟨cs,h1,_⟩:=h.ex;obtain⟨F,hF⟩:=h.map;rcases a with rfl|rfl
 ·exact PY.cw h1 aR aR
 ·exact hF.mut
def ck.cell(h:ck w g mb Jo jo N){s:Nat}(a:s<6):w.cell? ⟨g,84+s,I⟩=Z (J V (jo s))/\w.frozen? ⟨g,84+s,I⟩=false:=by
 obtain⟨cs,h1,h2,_⟩:=h.ex;exact⟨(h1.cell _).trans (h2.jo s a),h1.frozen _⟩
def ck.Aa(h:ck w g mb Jo jo N):w.cell? ⟨g,90,I⟩=Z (.map (Z mb)):=by
 obtain⟨cs,h1,_,h2⟩:=h.ex;exact(h1.cell _).trans h2
def ck.congr{c:Int->M.Jn}{a:Int->Int}(h:ck w g mb Jo jo N)(b:∀s:Nat,s<6->c s=Jo s)(hp:∀s:Nat,s<6->a s=jo s):ck w g mb c a N:=by
 obtain⟨cs,h1,h2,h3⟩:=h.ex;exact⟨⟨cs,h1,⟨h2.size,λs q=>by rw[b s q];exact h2.own s q,λs q=>by rw[b s q];exact h2.aU s q,λs q=>by rw[b s q];exact h2.dQ s q,λs q=>by rw[hp s q];exact h2.jo s q⟩,h3⟩,h.map⟩
end
def nF.iJ{cs:Array Value}{Jo:Int->M.Jn}{jo:Int->Int}(h:nF cs Jo jo)(s:Nat)(d:s<6)(x:M.Act)(b:Sl):nF (de cs (s*14) (jQ x b).toList) (M.set Jo (s:Int) ⟨x.own,x.dQ,x.aU⟩) jo:=by
 have c:=h.size;have f:(jQ x b).toList.length=14:=rfl;have hle:s*14+(jQ x b).toList.length<=cs.size:=z;have key:∀(k j:Nat) (v v0:Value),k<6->j<14->cs[k*14+j]? = Z v0->(jQ x b).toList[j]? = Z v->(de cs (s*14) (jQ x b).toList)[k*14+j]? = Z (if k=s then v else v0):=λk j v v0 a g h0 h1=>by
  by_cases e:k=s
  ·subst e;rw[if_pos rfl,qG hle z];exact h1
  ·rw[if_neg e,kT hle (by rcases Nat.lt_or_gt_of_ne e with q|q;left;omega;right;omega)];exact h0
 refine⟨by rw[gU hle];exact c,λk a=>?_,λk a=>?_,λk a=>?_,λk a=>?_⟩
 ·rw[key k 8 _ _ a z (h.own k a) rfl];unfold M.set;by_cases e:k=s
  ·rw[if_pos e,if_pos z]
  ·rw[if_neg e,if_neg z]
 ·rw[key k 9 _ _ a z (h.aU k a) rfl];unfold M.set;by_cases e:k=s
  ·rw[if_pos e,if_pos z]
  ·rw[if_neg e,if_neg z]
 ·rw[key k 10 _ _ a z (h.dQ k a) rfl];unfold M.set;by_cases e:k=s
  ·rw[if_pos e,if_pos z]
  ·rw[if_neg e,if_neg z]
 ·rw[kT hle (by right;omega)];exact h.jo k a
def nF.zY{cs:Array Value}{v:Value}(b:cs.size=91)(h:cs[90]? = Z v)(s:Nat)(c:s<6)(x:M.Act)(a:Sl):(de cs (s*14) (jQ x a).toList)[90]? = Z v:=by
 have d:(jQ x a).toList.length=14:=rfl;rw[kT z (by right;omega)];exact h
def nF.put{cs:Array Value}{Jo:Int->M.Jn}{jo:Int->Int}(h:nF cs Jo jo)(s:Nat)(c:s<6)(v:Int):nF (cs.setIfInBounds (84+s) (J V v)) Jo (M.set jo (s:Int) v):=by
 have b:=h.size;refine⟨by rw[Array.size_setIfInBounds];exact b,λk a=>?_,λk a=>?_,λk a=>?_,λk a=>?_⟩
 ·rw[gi z];exact h.own k a
 ·rw[gi z];exact h.aU k a
 ·rw[gi z];exact h.dQ k a
 ·unfold M.set;by_cases e:k=s
  ·subst e;rw[Array.getElem?_setIfInBounds_self_of_lt z,if_pos rfl]
  ·rw[gi z,if_neg z];exact h.jo k a
def nF.zZ{cs:Array Value}{v:Value}(h:cs[90]? = Z v)(s:Nat)(a:s<6)(u:Value):(cs.setIfInBounds (84+s) u)[90]? = Z v:=by
 rw[gi z];exact h
def ck.put{w:aw}{g mb:Nat}{Jo:Int->M.Jn}{jo:Int->Int}{N:Nat}(h:ck w g mb Jo jo N){s:Nat}(a:s<6)(v:Int):ck (w.setCell ⟨g,84+s,I⟩ (J V v)) g mb Jo (M.set jo (s:Int) v) N/\Fr (jK g mb) w (w.setCell ⟨g,84+s,I⟩ (J V v)):=by
 have b:=h.ne;obtain⟨cs,h1,h2,h3⟩:=h.ex;obtain⟨F,hF⟩:=h.map;exact⟨⟨⟨_,h1.bC _ _,h2.put s a v,nF.zZ h3 s a _⟩,F,hF.dW (G:=One g) ((cS.refl (One g) w).setCell (p:=⟨g,84+s,I⟩) (.inl rfl) _) b⟩,(Fr.refl _ _).setCell h1 (.inl (.inl rfl)) aR aR _ _⟩
def ck.iJ{w w':aw}{g mb:Nat}{Jo:Int->M.Jn}{jo:Int->Int}{N:Nat}(h:ck w g mb Jo jo N){s:Nat}(c:s<6)(x:M.Act)(a:Sl){cs:Array Value}(h1:aK w g 84 cs)(d:aK w' g 84 (de cs (s*14) (jQ x a).toList))(u:cS (One g) w w') :
  ck w' g mb (M.set Jo (s:Int) ⟨x.own,x.dQ,x.aU⟩) jo N/\Fr (jK g mb) w w':=by
 have e:=h.ne;obtain⟨b,f,h2,h3⟩:=h.ex;obtain rfl:b=cs:=by
  have:=f.symm.trans h1;simpa using this
 obtain⟨F,hF⟩:=h.map;exact⟨⟨⟨_,d,h2.iJ s c x a,nF.zY h2.size h3 s c x a⟩,F,hF.dW u e⟩,.jT (u.mono λi _ q=>.inl q) h.ni⟩
def ck.src{w:aw}{g mb:Nat}{Jo:Int->M.Jn}{jo:Int->Int}{N:Nat}(h:ck w g mb Jo jo N)(a:N<1000000)(y:Int×Int)(b:Gi y)(c:Value):∃w',(Instr.mapUpdate 82 (.map (Z mb)) (pv y) c).run af w=.ok () w'/\ck w' g mb Jo jo (N+1)/\Fr (jK g mb) w w':=by
 have d:=h.ne;obtain⟨cs,h1,h2⟩:=h.ex;obtain⟨F,hF⟩:=h.map;obtain⟨w',hr,e,u⟩:=hF.nX xM underlying82 a y c b;exact⟨w',hr,⟨⟨cs,h1.dW u (λq=>d q.symm),h2⟩,_,e⟩,.jT (u.mono λi _ q=>.inr q) h.ni⟩
def qU(w:aw):aF af 11 #[] w λe w'=>∃g mb:Nat,e=av (aq (Z ⟨g,0,I⟩))/\ck w' g mb (λ_=>⟨0,0,0⟩) (λ_=>-1) 0/\aC w w'/\w.heap.size<=g/\w.heap.size<=mb:=by
 have n:=@run_makeMap af;go_enter func11,ntmps11;go_upto_region 2 with fail;obtain⟨g,hg⟩:=dH (w.heap.size+1);rw[<-hg];refine aW (λX=>ck X g w.heap.size (λ_=>⟨0,0,0⟩) (λ_=>0) 0/\aC w X) ⟨?_,?_⟩ ?_
 ·have b:aK ((w.alloc (.map #[] 0)).alloc (.cells (Tryz.zeroCells84.setIfInBounds 90 (.map (Z w.heap.size))) 84)) g 84 (Tryz.zeroCells84.setIfInBounds 90 (.map (Z w.heap.size))):=aK.newAt _ _ _ _ (by rw[hg];simp);refine⟨⟨_,b,⟨rfl,λs c=>?_,λs c=>?_,λs c=>?_,λs c=>?_⟩,rfl⟩,_,(gA.made w KO).dW (G:=cr) (.bn ((ao _ _).alloc (aj _) _)) id⟩;all_goals rcases(z:s=0\/s=1\/s=2\/s=3\/s=4\/s=5) with rfl|rfl|rfl|rfl|rfl|rfl<;>rfl
 ·exact((ao _ w).alloc (aj _) _).alloc dt _
 rintro X ⟨a,t⟩;have d:w.heap.size<=g:=z;obtain⟨l,m⟩:=bu a t;clear a t hg n;go_wp2_with fail;go_loopw [6] (λv wr=>∃k:Nat,v=J V k/\k<=6/\∃jo:Int->Int,ck wr g w.heap.size (λ_=>⟨0,0,0⟩) jo 0/\(∀s:Nat,s<k->jo s = -1)/\aC w wr) (λi _=>6-(intOf i).toNat);case atStart=>exact⟨0,rfl,z,λ_=>0,l.O,λs h=>z,m.O⟩
 case round =>
  clear l m;obtain⟨k,rfl,A,jo,a,hp,b⟩:=hrel;by_cases f:k<6
  ·have x:((k:Int)<6):=z;obtain⟨c1,c2⟩:=a.cell f;have u:=(a.put f (-1)).1;have j:=b.setCell (p:=⟨g,84+k,I⟩) d (J V (-1));obtain⟨y,o,q⟩:=bU u j hp;clear a b u j hp;go_wp2_with fail;go_roundw;case rel =>
    refine⟨k+1,by go_num,z,_,y.O,λs c=>?_,o.O⟩;unfold M.set;by_cases e:s=k
    ·rw[if_pos z]
    ·rw[if_neg z];exact q.O s z
   case measure=>simp[intOf];omega
  ·have r:k=6:=z;subst r;obtain⟨l,m,q⟩:=bU a b hp;clear a b hp;go_wp2_with fail;go_ret;exact⟨g,_,rfl,l.O.congr (λ_ _=>rfl) (λs c=>(q.O s c).symm),m.O,d,aj _⟩
end
def ck.Ab{w:aw}{g mb:Nat}{a:Int->M.Jn}{jo:Int->Int}{N:Nat}(h:ck w g mb a jo N){s:Nat}(b:s<6):w.cell? ⟨g,s*14+8,I⟩=Z (J ar (a s).own)/\w.cell? ⟨g,s*14+9,I⟩=Z (J ar (a s).aU)/\w.cell? ⟨g,s*14+10,I⟩=Z (J aN (a s).dQ):=by
 obtain⟨cs,h1,h2,_⟩:=h.ex;exact⟨(h1.cell _).trans (h2.own s b),(h1.cell _).trans (h2.aU s b),(h1.cell _).trans (h2.dQ s b)⟩
def wrap_u16(x:Int):aN.wrap x=x % 65536:=by simp[iN,fR,gM]
section
structure Th where
 own:Nat->Prop
 At:aw->Prop
 dW:∀{w w':aw} {G:Nat->Prop},At w->cS G w w'->(∀i,own i->¬G i)->At w'
 ni:∀{w:aw},At w->vP w own
def PY.lt{w:aw}{i:Nat}(h:PY w i):i<w.heap.size:=by
 rcases h with⟨es,k,h⟩ | ⟨t,cs,h,_⟩
 ·exact(Array.getElem?_eq_some_iff.1 h).1
 ·exact h.lt
def Th.lt(x:Th){w:aw}(h:x.At w):∀i,x.own i->i<w.heap.size:=λi a=>(x.ni h i a).lt
def Th.cw(g:Nat)(t:TypeId)(cs:Array Value):Th:=⟨One g,λw=>aK w g t cs/\t≠5/\t≠41,λh u k=>⟨h.1.dW u (k g rfl),h.2⟩,λh i a=>by cases a;exact .cw h.1 h.2.1 h.2.2⟩
def Th.map(b:Nat)(F:M.bN->Option Value)(N:Nat):Th:=⟨One b,λw=>gA KO w b F N,λh u k=>gA.dW (F:=F) h u (k b rfl),λh i a=>by cases a;exact gA.mut (F:=F) h⟩
def Th.xX(g mb:Nat)(a:Int->M.Jn)(jo:Int->Int)(N:Nat):Th:=⟨jK g mb,λw=>ck w g mb a jo N,λh u k=>h.dW u (k g (.inl rfl)) (k mb (.inr rfl)),λh=>h.ni⟩
structure mD(w wr:aw)(B:RB)(R:M.Room)(N:Nat)(X:List Th):Prop where
 aG:aL wr B R N
 low:∀i,B.all i->w.heap.size<=i
 bw:aC w wr
 th:∀x∈X,x.At wr/\∀i,x.own i->¬B.all i/\w.heap.size<=i
 vd:X.Pairwise λx y=>∀i,x.own i->¬y.own i
section
variable {w wr w':aw} {B B':RB} {R R':M.Room} {N N':Nat} {X Y l1 l2:List Th} {x y:Th}
def mD.below(h:mD w wr B R N X)(b:aC wr w'):mD w w' B R N X:=
 ⟨h.aG.below b,h.low,h.bw.trans (b.mono h.bw.size),λx a=>⟨x.dW (h.th x a).1 (G:=cr) (.bn b) (λ_ _ q=>q),(h.th x a).2⟩,h.vd⟩
def mD.mono(h:mD w wr B R N X)(k:N<=N'):mD w wr B R N' X:=⟨h.aG.mono k,h.low,h.bw,h.th,h.vd⟩
def mD.act(h:mD w wr B R N X)(hR:aL w' B' R' N')(c:fK wr w' B B'):mD w w' B' R' N' X:=by
 have d:=h.bw.size;refine⟨hR,λi a=>?_,h.bw.trans (c.fr.below d h.low),λx b=>⟨x.dW (h.th x b).1 c.fr.u (λi a q=>((h.th x b).2 i a).1 q),λi a=>⟨λq=>?_,((h.th x b).2 i a).2⟩⟩,h.vd⟩
 ·rcases c.own i a with q|q
  ·exact h.low i q
  ·omega
 ·rcases c.own i q with q|q
  ·exact((h.th x b).2 i a).1 q
  ·have:=x.lt (h.th x b).1 i a;omega
def mD.get(h:mD w wr B R N X)(a:x∈X):x.At wr:=(h.th x a).1
def mD.sub(h:mD w wr B R N X)(s:Y.Sublist X):mD w wr B R N Y:=⟨h.aG,h.low,h.bw,λx a=>h.th x (s.subset a),h.vd.sublist s⟩
def mD.new(h:mD w wr B R N X)(b:aC wr w')(hy:y.At w')(c:∀i,y.own i->wr.heap.size<=i):mD w w' B R N (y::X):=by
 have k:=h.below b;have f:=h.bw.size;refine⟨k.aG,k.low,k.bw,λx d=>?_,cv.2 ⟨λx d i a q=>?_,h.vd⟩⟩
 ·rcases fw.1 d with e|q
  ·subst e;refine⟨hy,λi a=>⟨λq=>?_,?_⟩⟩
   ·have:=h.aG.lt i q;have:=c i a;omega
   ·have:=c i a;omega
  ·exact k.th x q
 ·have:=x.lt (h.th x d).1 i q;have:=c i a;omega
def mD.IW(h:mD w wr B R N (l1++x::l2))(f:Fr x.own wr w')(hy:y.At w')(l:∀i,y.own i->x.own i\/wr.heap.size<=i):mD w w' B R N (l1++y::l2):=by
 have j:=h.th x dt;have n:=h.bw.size;obtain⟨d1,d2,d3⟩:=ef.1 h.vd;obtain⟨d4,d5⟩:=cv.1 d2;have other:∀c∈l1++l2,(∀i,c.own i->¬x.own i)/\c.At wr/\∀i,c.own i->¬B.all i/\w.heap.size<=i:=λc d=>by
  rcases bt.1 d with q|q
  ·exact⟨d3 c q x dt,h.th c (by simp[q])⟩
  ·exact⟨λi a b=>d4 c q i b a,h.th c (by simp[q])⟩
 have m:∀c∈l1++l2,∀i,c.own i->¬y.own i:=λc d i a b=>by
  rcases l i b with q|q
  ·exact(other c d).1 i a q
  ·have:=c.lt (other c d).2.1 i a;omega
 refine⟨h.aG.fr f λi g q=>(j.2 i q).1 g,h.low,h.bw.trans (f.below n λi q=>(j.2 i q).2),λc d=>?_,?_⟩
 ·have d:c=y\/c∈l1++l2:=by
   simp at d ⊢;rcases d with q|q|q
   ·exact .inr (.inl q)
   ·exact .inl q
   ·exact .inr (.inr q)
  rcases d with e|q
  ·subst e;refine⟨hy,λi g=>?_⟩;rcases l i g with q|q
   ·exact j.2 i q
   ·exact⟨λk=>by have:=h.aG.lt i k;omega,z⟩
  ·exact⟨c.dW (other c q).2.1 f.u λi g=>(other c q).1 i g,(other c q).2.2⟩
 ·refine ef.2 ⟨d1,cv.2 ⟨λc d i a b=>m c (by simp[d]) i b a,d5⟩,λc d u hu=>?_⟩;rcases fw.1 hu with e|q
  ·subst e;exact m c (by simp[d])
  ·exact d3 c d u (by simp[q])
def mD.set{g:Nat}{t:TypeId}{cs:Array Value}(h:mD w wr B R N (l1++.cw g t cs::l2))(i:Nat)(v:Value):mD w (wr.setCell ⟨g,i,I⟩ v) B R N (l1++.cw g t (cs.setIfInBounds i v)::l2):=by
 have k:=h.get (x:=.cw g t cs) dt;exact h.IW ((Fr.refl (One g) _).setCell k.1 (.inl rfl) k.2.1 k.2.2 i v) ⟨k.1.bC i v,k.2⟩ λi a=>.inl a
end
end
def Oo(x:M.Act)(b:Sl):∀v∈(jQ x b).toList,v.oneCell'=true:=by
 intro v a;simp at a;repeat (first|(subst a;rfl)|(rcases a with rfl|a;rfl))
def mY(x:M.Act)(e:Int)(jo:Int->Int)(s:Int):Int:=if e=0/\x.nv=5/\s=x.sub then x.jo else if e=0/\x.nv=7/\s=x.sub then -1 else jo s
def vp(R:M.Room)(x:M.Act)(e:Int)(jo:Int->Int)(s:Int):M.vy R x e jo s=if R.eG s=true then -1 else mY x e jo s:=rfl
def zk(R:M.Room)(s:Int):Nat:=match R.aD s with | some l=>l.ready.length | none=>0
def ud(R:M.Room)(s:Int):Int×Int:=match R.aD s with | some l=>(l.dx,l.fh) | none=>(0,0)
def tv(R:M.Room)(s:Int):∃(a b:Int) (th:Bool),qW (R.aD s)=aB #[cg #[J V (ud R s).1,J V (ud R s).2],cg #[J V a,J V b,J V (zk R s)],ai (R.eG s),ai th]:=by
 unfold zk ud M.Room.eG;cases R.aD s with
 |none=>exact⟨0,0,false,rfl⟩
 |some l=>exact⟨l.cK.length,l.bF.length,true,rfl⟩
def ez(R:M.Room)(p:Int->Int)(k:Nat)(s:Int):Int:=if s<(k:Int)/\R.eG s=true then -1 else p s
def pE(R:M.Room)(p:Int->Int)(k:Nat)(h:R.eG k=true)(s:Int):ez R p (k+1) s=M.set (ez R p k) k (-1) s:=by
 unfold ez M.set;by_cases e:s=k
 ·subst e;rw[if_pos rfl,if_pos ⟨z,h⟩]
 ·rw[if_neg e];show _=if s<(k:Int)/\R.eG s=true then -1 else p s
  by_cases q:s<(k:Int)/\R.eG s=true
  ·rw[if_pos q,if_pos ⟨z,q.2⟩]
  ·rw[if_neg q,if_neg (λa=>q ⟨z,a.2⟩)]
def oC(R:M.Room)(p:Int->Int)(k:Nat)(h:R.eG k=false)(s:Int):ez R p (k+1) s=ez R p k s:=by
 unfold ez;by_cases q:s<(k:Int)/\R.eG s=true
 ·rw[if_pos q,if_pos ⟨z,q.2⟩]
 ·rw[if_neg q,if_neg (λa=>by
   by_cases e:s=k
   ·subst e;rw[h]at a;cases a.2
   ·exact q ⟨z,a.2⟩)]
def vA{B:RB}{R:M.Room}{N M' g mb:Nat}{w:aw}{MT:Int->M.Jn}{jo:Int->Int}(x:M.Act)(sl:Sl)(e:Int)(h:aL w B R N)(o:ck w g mb MT jo M')(hg:¬B.all g)(hm:¬B.all mb)
  (Kn:e=0->4<=x.nv->x.nv<=7->0<=x.sub/\x.sub<6) (Ko:e=0->x.nv=3->0<=x.jo/\x.jo<3) (hM:M'<900000) :
  aF af 17 #[aq (Z ⟨g,0,I⟩),aq (Z ⟨B.g,0,I⟩),cg (jQ x sl),J V e] w λr w'=>r=av (aB #[])/\ck w' g mb (M.kF x e MT) (M.vy R x e jo) (M'+3)/\Fr (jK g mb) w w':=by
 have Hl:∀W,Fr (jK g mb) w W->aL W B R N:=λW f=>h.fr f λi hi q=>by
  rcases q with rfl|rfl
  ·exact hg hi
  ·exact hm hi
 obtain⟨J1,Kw⟩:=dH (M.kF x e MT);obtain⟨p1,Ld⟩:=dH (mY x e jo);obtain⟨p2,Ln⟩:=dH (M.vy R x e jo);have Kq:∀W Ho,ck W g mb J1 Ho (M'+3)->(∀s:Nat,s<6->Ho s=ez R p1 6 s)->ck W g mb J1 p2 (M'+3):=λW Ho q k=>q.congr (λ_ _=>rfl) λs hs=>by
  rw[k s hs,Ln,vp,<-Ld];unfold ez;by_cases hq:R.eG s=true
  ·rw[if_pos hq,if_pos ⟨z,hq⟩]
  ·rw[if_neg hq,if_neg (λm=>hq m.2)]
 rw[<-Kw,<-Ln];obtain⟨Hs,l,L,Kk,Hu,P,C⟩:=lV Hl o Kq Kw Ld Kn Ko;clear Hl h o hg hm Kw Ld Ln Kq Kn Ko;go_enter func17,ntmps17;go_upto_region 1 with fail;obtain⟨r6,e6⟩:=dH w.heap.size;rw[<-e6];have hl:=l.O.lt;have MU:¬One g r6:=λq=>by have q:r6=g:=q;omega
 have Kr:¬jK g mb r6:=λq=>by rcases q with q|q<;>omega
 have al:aC w (w.alloc (.cells (jQ x sl) 45)):=(ao _ w).alloc (aj _) _;refine aW (λX=>aK X r6 45 (jQ x sl)/\ck X g mb MT jo M'/\Fr (jK g mb) w X) ⟨aK.newAt _ _ _ _ e6,l.O.below al,.bn al⟩ ?_;clear al e6 l hl;obtain⟨N6,MV⟩:=bu MU Kr;clear MU Kr;rintro X ⟨A,o,f⟩;obtain⟨t,l,y⟩:=bU A o f;have k0:=A.cell 0;have k1:=A.cell 1;have Y:=A.cell 2;have D:=A.cell 11;have E:=A.cell 12;have F:=A.cell 13;simp at k0 k1 Y D E F;clear A o f;obtain⟨b1,M7⟩:=dH (decide (e=0/\4<=x.nv/\x.nv<=7));have p:=au M7;clear M7;go_cut [26] (λv wc=>v=ai b1/\X=wc);case first =>
  clear k1 Y D E F C Hs L l y t Kk Hu P;by_cases he:e=0
  ·subst he;by_cases h4:4<=x.nv
   ·by_cases h7:x.nv<=7
    ·have E2:Hd (true=b1):=au (by simp[p.O,h4,h7]);clear p;go_wp2_with fail;go_meet;exact CU E2
    ·have E2:Hd (false=b1):=au (by simp[p.O,h7]);clear p;go_wp2_with fail;go_meet;exact CU E2
   ·have E2:Hd (false=b1):=au (by simp[p.O,h4]);clear p;go_wp2_with fail;go_meet;exact CU E2
  ·have hw:(e==0)=false:=by simpa using he
   have E2:Hd (false=b1):=au (by simp[p.O,he]);clear p he;go_wp2_with fail;go_meet;exact CU E2
 case rest =>
 obtain⟨rfl,rfl⟩:=hcut;go_upto_if 26 with fail;go_cut [] (λwc=>ck wc g mb J1 p1 M'/\aK wc r6 45 (jQ x sl)/\Fr (jK g mb) w wc);case first =>
  clear Y D E F C Hs L;have fin:∀W J' p',ck W g mb J' p' M'->(∀s:Nat,s<6->J1 s=J' s)->(∀s:Nat,s<6->p1 s=p' s)->Fr (jK g mb) X W->ck W g mb J1 p1 M'/\aK W r6 45 (jQ x sl)/\Fr (jK g mb) w W:=λW J' p' a b c d =>
   ⟨a.congr b c,t.O.dW d.u MV.O,y.O.trans d⟩
  have same:(¬(e=0/\x.nv=4))->∀s:Nat,s<6->J1 s=MT s:=λq s _=>by rw[Kk.O];unfold M.kF;rw[if_neg (λm=>q ⟨m.2.1,m.1⟩)]
  have Ia:(¬(e=0/\x.nv=5))->(¬(e=0/\x.nv=7))->∀s:Nat,s<6->p1 s=jo s:=λq q' s _=>by rw[Hu.O];unfold mY;rw[if_neg (λm=>q ⟨m.1,m.2.1⟩),if_neg (λm=>q' ⟨m.1,m.2.1⟩)]
  obtain⟨II,U,T⟩:=bU fin same Ia;clear fin same Ia;cases b1;rotate_left
  ·have hd:=p.O;rw[eq_comm,decide_eq_true_iff]at hd;obtain⟨he,hd⟩:=hd;clear p
   ·obtain⟨s0,s6⟩:=P.O he hd.1 hd.2;obtain⟨k,hk⟩:∃k:Nat,x.sub=k:=⟨x.sub.toNat,z⟩;have Kl:k<6:=z;have HK:=au hk;rw[hk]at k1;obtain⟨c1,c2⟩:=l.O.cell Kl;have hb:(k:Int)<6:=z;clear s0 s6 P;rcases(z:x.nv=4\/x.nv=5\/x.nv=6\/x.nv=7) with h4|h4|h4|h4
    ·rw[h4]at k0;obtain⟨cs,q1,q2,q3⟩:=l.O.ex;obtain⟨M9,PN,n⟩:=bU q1 q2.size h4;subst he;clear q1 q2 q3 h4 hd c1 c2;go_upto_region 4 with fail;refine wp_region_held_drew (S:=λW=>cS (One g) X W) cC ((cS.refl _ _).drew) (λhH=>?_);refine fS 0 (aq (Z ⟨g,0,I⟩)) rfl hH ?_;try simp only[aA,pqq]
     refine fS 1 (aq (Z ⟨r6,1,I⟩)) rfl hH ?_;simp only[aA,pqq]
     refine fS 2 (J V k) rfl hH ?_ (hy:=λW hW=>by have q:=(t.O.dW hW N6.O).cell 1;simp[hk]at q;go_simp);simp only[aA,pqq]
     refine Fj 3 _ rfl (yieldsIf_load_mid jP 45 (.tmp 6) rfl r6 0 rfl (jQ x sl:Array Value).toList _ (λW hW j v hv=>by rw[cO,(t.O.dW hW N6.O).cell];simpa using hv) underlying45 rfl pV) hH ?_;simp only[aA,pqq]
     refine fS 4 (aq (Z ⟨g,0,I⟩)) rfl hH ?_;simp only[aA,pqq]
     refine fS 5 (aq (Z ⟨g,0,I⟩)) rfl hH ?_;simp only[aA,pqq]
     refine fS 6 (aq (Z ⟨g,k*14,I⟩)) rfl hH ?_;simp only[aA,pqq]
     refine wpAnyH_ready (rs:=[7]) cC dt ?_;refine AllReadyH.cons rfl (λK hK=>?_) AllReadyH.nil;refine lj jP (.tmp 37) (.tmp 34) _ jP g (k*14) _ _ rfl (jQ x sl) rfl pV M9.O.drew (by rw[PN.O];show k*14+14<=91;omega) (Oo x sl) ?_;intro w5 NR u5;refine hK.out _ _ (((cS.refl (One g) X).drew).trans u5) (λh3=>?_);clear hK K;try simp only[aA,pqq]
     refine wpAnyH_done cC ?_ _;have m:=l.O.iJ Kl x sl M9.O NR (((cS.refl (One g) X).drew).trans u5);have HZ:=au m;clear m NR u5 h3 hH;go_wp2_with fail;go_meet;exact II.O _ _ _ HZ.O.1 (λs hs=>by
      rw[Kk.O];unfold M.kF M.set
      by_cases q:(s:Int)=k
      ·rw[if_pos q,if_pos ⟨n.O,rfl,by rw[HK.O];exact q⟩]
      ·rw[if_neg q,if_neg (λm=>q (by rw[<-HK.O];exact m.2.2))]) (T.O (λq=>by have:=q.2;have:=n.O;omega) (λq=>by have:=q.2;have:=n.O;omega)) HZ.O.2
    ·rw[h4]at k0;have n:=au h4;have Y:=t.O.cell 2;simp at Y;subst he;clear h4 hd;go_upto_region 6 with fail;go_region;have m:=(l.O.dW (G:=cr) ((cS.refl cr X).drew) id id).put Kl x.jo;have HZ:=au (And.intro m.1 (((Fr.refl (jK g mb) X).drew).trans m.2));clear m c1 c2;go_wp2_with fail;go_meet;exact II.O _ _ _ HZ.O.1 (U.O (λq=>by have:=q.2;have:=n.O;omega)) (λs hs=>by
      rw[Hu.O];unfold mY M.set
      by_cases q:(s:Int)=k
      ·rw[if_pos q,if_pos ⟨rfl,n.O,by rw[HK.O];exact q⟩]
      ·rw[if_neg q,if_neg (λm=>q (by rw[<-HK.O];exact m.2.2)),if_neg (λm=>by have:=m.2.1;have:=n.O;omega)]) HZ.O.2
    ·rw[h4]at k0;have n:=au h4;subst he;clear h4 hd c1 c2;go_wp2_with fail;go_meet;exact II.O _ _ _ l.O (U.O (λq=>by have:=q.2;have:=n.O;omega)) (T.O (λq=>by have:=q.2;have:=n.O;omega) (λq=>by have:=q.2;have:=n.O;omega)) (Fr.refl _ _)
    ·rw[h4]at k0;have n:=au h4;subst he;clear h4 hd;go_upto_region 8 with fail;go_region;have m:=(l.O.dW (G:=cr) ((cS.refl cr X).drew) id id).put Kl (-1);have HZ:=au (And.intro m.1 (((Fr.refl (jK g mb) X).drew).trans m.2));clear m c1 c2;go_wp2_with fail;go_meet;exact II.O _ _ _ HZ.O.1 (U.O (λq=>by have:=q.2;have:=n.O;omega)) (λs hs=>by
      rw[Hu.O];unfold mY M.set
      rw[if_neg (λm=>by have:=m.2.1;have:=n.O;omega)]
      by_cases q:(s:Int)=k
      ·rw[if_pos q,if_pos ⟨rfl,n.O,by rw[HK.O];exact q⟩]
      ·rw[if_neg q,if_neg (λm=>q (by rw[<-HK.O];exact m.2.2))]) HZ.O.2
  ·have hn:=p.O;rw[eq_comm,decide_eq_false_iff_not]at hn;have HN:=au hn;clear hn p P;go_wp2_with fail;go_meet;exact II.O _ _ _ l.O (U.O (λq=>HN.O ⟨q.1,z,z⟩)) (T.O (λq=>HN.O ⟨q.1,z,z⟩) (λq=>HN.O ⟨q.1,z,z⟩)) (Fr.refl _ _)
 case rest =>
  obtain⟨o,A,f⟩:=hcut;clear l t y k0 k1 Y D E F Kk Hu P;obtain⟨t,l,y⟩:=bU A o f;have k0:=A.cell 0;have Y:=A.cell 2;have D:=A.cell 11;have E:=A.cell 12;have F:=A.cell 13;simp at k0 Y D E F;clear A o f;obtain⟨b2,Oj⟩:=dH (decide (e=0/\x.nv=3));have H:=au Oj;clear Oj;go_upto_region 9 with fail;go_cut [62] (λv wd=>v=ai b2/\wc=wd);case first =>
   clear Y D E F C Hs L l y t;by_cases he:e=0
   ·subst he;by_cases h3:x.nv=3
    ·have E2:Hd (true=b2):=au (by simp[H.O,h3]);clear H;go_wp2_with fail;go_meet;exact CU E2
    ·have E2:Hd (false=b2):=au (by simp[H.O,h3]);have SG:(x.nv==3)=false:=by simpa using h3
     clear H h3;go_wp2_with fail;go_meet;exact CU E2
   ·have hw:(e==0)=false:=by simpa using he
    have E2:Hd (false=b2):=au (by simp[H.O,he]);clear H he;go_wp2_with fail;go_meet;exact CU E2
  case rest =>
  obtain⟨rfl,rfl⟩:=hcut;go_upto_if 62 with fail;go_cut [] (λwd=>ck wd g mb J1 p1 (M'+3)/\Fr (jK g mb) w wd);case first =>
   clear L Hs;cases b2;rotate_left
   ·have hd:=H.O;rw[eq_comm,decide_eq_true_iff]at hd;obtain⟨he,h3⟩:=hd;have hp:=C.O he h3;rw[h3]at k0;clear H;have HP:=au hp;clear hp h3 C;have st:∃k:Nat,(J V 0)=J V k/\k<=3/\ck wc g mb J1 p1 (M'+k)/\aK wc r6 45 (jQ x sl)/\Fr (jK g mb) w wc:=⟨0,rfl,z,l.O,t.O,y.O⟩;have OF:=au st;clear st l t y;go_wp2_with fail;go_loopw [65] (λv wr=>∃k:Nat,v=J V k/\k<=3/\ck wr g mb J1 p1 (M'+k)/\aK wr r6 45 (jQ x sl)/\Fr (jK g mb) w wr) (λv _=>3-(intOf v).toNat);case atStart=>exact OF.O
    case round =>
     clear OF k0 Y D E F;obtain⟨k,rfl,hk,o,A,f⟩:=hrel;by_cases Km:k<3
     ·have Y:=A.cell 2;simp at Y;have mc:=o.Aa;obtain⟨w5,I8,hA5,f5⟩:=(o.dW (G:=cr) ((cS.refl cr wr).drew) id id).src z (x.jo,(k:Int)) (ir ⟨by show(-1000000000000:Int)<=x.jo;have:=HP.O;omega,by show x.jo<=1000000000000;have:=HP.O;omega⟩ ⟨by show(-1000000000000:Int)<=k;omega,by show(k:Int)<=1000000000000;omega⟩) (J ar (if k=0 then x.s0 else if k=1 then x.s1 else x.s2));have I8:(Instr.mapUpdate 82 (.map (Z mb)) (cg #[J V x.jo,J V k]) (J ar (if k=0 then x.s0 else if k=1 then x.s1 else x.s2))).run af wr.drew=.ok () w5:=I8;have Lz:Fr (jK g mb) wr w5:=((Fr.refl (jK g mb) wr).drew).trans f5;obtain⟨LC,Q,LP⟩:=bU hA5 (A.dW Lz.u MV.O) (f.trans Lz);clear o A f hA5 f5 Lz;have i0:=λW=>M5 x.s0 x.s1 x.s2 W;have i1:=λW=>M4 x.s0 x.s1 x.s2 W;have i2:=λW=>M3 x.s0 x.s1 x.s2 W;rcases(z:k=0\/k=1\/k=2) with rfl|rfl|rfl
      all_goals
       simp at I8;go_upto_region 13 with fail;go_region;go_wp2_with fail;go_roundw;case rel=>first|exact⟨1,rfl,z,LC.O,Q.O,LP.O⟩|exact⟨2,rfl,z,LC.O,Q.O,LP.O⟩|exact⟨3,rfl,z,LC.O,Q.O,LP.O⟩
       case measure=>simp[intOf]
     ·have MC:k=3:=z;subst MC;obtain⟨l,y⟩:=bu o f;clear o A f;go_wp2_with fail;go_meet;exact⟨l.O,y.O⟩
   ·clear C H;go_wp2_with fail;go_meet;exact⟨l.O.mono z,y.O⟩
  case rest =>
   obtain⟨o,f⟩:=hcut;clear l y k0 Y D E F t;obtain⟨l,y⟩:=bu o f;clear o f;go_wp2_with fail;go_loopw [79] (λv wr=>∃k:Nat,v=J V k/\k<=6/\ck wr g mb J1 (ez R p1 k) (M'+3)/\Fr (jK g mb) w wr) (λv _=>6-(intOf v).toNat);case atStart=>exact⟨0,rfl,z,l.O.congr (λ_ _=>rfl) (λs hs=>by unfold ez;rw[if_neg (λq=>by have:=q.1;omega)]),y.O⟩
   case round =>
    clear l y;obtain⟨k,rfl,hk,o,f⟩:=hrel;by_cases Km:k<6
    ·have SH:((k:Int)<6):=z;have hR:=Hs.O _ f;have hL:=AZ hR (k:Int) (Ig z z);obtain⟨c1,c2⟩:=o.cell Km;obtain⟨la,lb,th,I9⟩:=tv R k;rw[I9]at hL;obtain⟨ln,PC⟩:=dH (zk R k);obtain⟨c0,t0⟩:=dH (ud R k);obtain⟨gn,MP⟩:=dH (R.eG k);rw[<-PC,<-MP]at hL;generalize (ud R k).1=PO at hL;generalize (ud R k).2=RU at hL;obtain⟨HC,HL,l,y⟩:=cA MP hL o f;clear hL MP PC I9 o f hR t0;go_upto_region 19 with(go_at_call 15;refine HL.O.mono ?_;rintro e w5 ⟨rfl,b5⟩;have Q:=au b5;clear b5)
     have bb:aC wr ((w5.alloc (.cells #[J V PO,J V RU] 68)).alloc (.cells #[J V la,J V lb,J V ln] 69)):=(Q.O.alloc Q.O.size _).alloc (by have:=Q.O.size;simp;omega) _;refine aW (λSA=>ck SA g mb J1 (ez R p1 k) (M'+3)/\Fr (jK g mb) w SA) ⟨l.O.below bb,y.O.trans (.bn bb)⟩ ?_;clear l y Q HL bb c1 c2;rintro SA ⟨o,f⟩;obtain⟨c1,c2⟩:=o.cell Km;obtain⟨l,y⟩:=bu o f;clear o f;cases gn
     ·clear c1 c2;go_wp2_with fail;go_roundw;case rel=>exact⟨k+1,by go_num,z,l.O.congr (λ_ _=>rfl) (λs _=>oC R p1 k HC.O.symm s),y.O⟩
      case measure=>simp[intOf];omega
     ·have HZ:=au (l.O.put Km (-1));go_wp2_with fail;go_roundw;case rel=>exact⟨k+1,by go_num,z,HZ.O.1.congr (λ_ _=>rfl) (λs _=>pE R p1 k HC.O.symm s),y.O.trans HZ.O.2⟩
      case measure=>simp[intOf];omega
    ·have MC:k=6:=z;subst MC;obtain⟨l,y⟩:=bu o f;clear o f;go_wp2_with fail;refine bodyPost_end (results_none results17 _ _ _) rfl ?_;refine⟨rfl,?_,?_⟩
     ·exact L.O _ _ l.O (λ_ _=>rfl)
     ·exact y.O
def zF{l:List M.Act}(h:qV l=false):l.length<=120/\∀x∈l,x.b.length<=400:=by
 unfold qV at h;rw[Bool.or_eq_false_iff,decide_eq_false_iff_not,oA]at h;refine⟨z,λx a=>?_⟩;have:=h.2 x a;simp at this;exact this
def qL{w:aw}{g:Nat}{t:TypeId}{cs:Array Value}(h:aK w g t cs):w.rangeAt g 0 cs.toList:=λj v a=>by rw[cO];exact(h.cell j).trans (by simpa using a)
def IM(w:aw):Prop:=∀W,aC w W->aF af 8 #[] W λe W'=>e=av (ai true)/\aC W W'
section
open Go.ChangeShapes Go.WideShapes Go.ChangeAt Go.RowKit Go.Deep
inductive Lf where
 |b
 |i (k:IntKind)
 |y
def Lf.ok(w:aw):Lf->Value->Prop
 | .b,v=>∃x,v=ai x
 | .i k,v=>∃n,v=J k n/\(dU k n).wf=true
 | .y,v=>∃a n c xs,v=ae a n c/\pL w a n c xs
def Dh(w:aw):List Lf->List Value->Prop
 |[],cs=>cs=[]
 |l::ls,cs=>∃c a,cs=c::a/\l.ok w c/\Dh w ls a
def Dh.append{w:aw}:∀{ls ms:List Lf} {cs ds:List Value},Dh w ls cs->Dh w ms ds->Dh w (ls++ms) (cs++ds)
 |[],_,_,_,h,a=>by cases h;exact a
 |l::ls,_,_,_,h,a=>by obtain⟨c,b,rfl,d,hr⟩:=h;exact⟨c,_,rfl,d,Dh.append hr a⟩
def MG(P:jB)(a:TypeId->Option (List Lf)):List Field->Nat->Option (List Lf)
 |[],_=>Z []
 |f::r,off=>if f.offset=off then
   match a f.type with
   |some ls=>if ls.length=P.cellsOf f.type then
     match MG P a r (off+P.cellsOf f.type) with
     |some rs=>Z (ls++rs)
     |none=>I
    else I
   |none=>I
  else I
def rep(ls:List Lf):Nat->List Lf
 |0=>[]
 |n+1=>ls++rep ls n
def QC(P:jB):Nat->TypeId->Option (List Lf)
 |0,_=>I
 |n+1,t =>
  match P.underlying t with
  |some .bool=>Z [.b]
  |some (.int k)=>Z [.i k]
  |some (.slice e) =>
   match P.underlying e with
   |some (.int bI)=>if P.cellsOf e=1 then Z [.y] else I
   |_=>I
  |some (.array m e) =>
   match QC P n e with
   |some ls=>if ls.length=P.cellsOf e/\P.cellsOf t=m*ls.length then Z (rep ls m) else I
   |none=>I
  |some (.struct a) =>
   match MG P (QC P n) a.toList 0 with
   |some ls=>if ls.length=P.cellsOf t then Z ls else I
   |none=>I
  |_=>I
section
variable {H:Type} {enc:TypeId×Value->H} {P:jB} {w:aw} {base:Nat} {spare:Nat->Bool} {held:Bool}
def uD{t e:TypeId}{fuel:Nat}{cs:List Value}{x:DataW H×List tE}(ht:P.underlying t=Z (.slice e))(he:P.underlying e=Z (.int bI))(m:P.cellsOf e=1)
  (h:mL enc P w base spare held fuel t cs=Z x):∃a n c xs,cs=[ae a n c]/\pL w a n c xs:=by
 rcases open_slice ht h with⟨j,_⟩ | ⟨a',d,l,A,n,D,L,j,_,M,hm,o,_,B⟩
 ·exact⟨I,0,0,[],j,rfl,λx C=>by simp at C,λh0=>absurd h0 z,λ_=>rfl⟩
 ·have hle:d<=A:=by rw[o];split<;>omega
  have key:∀i,i<d->∃y:Int,(dU bI y).wf=true/\w.cell? (a'.add i)=Z (J bI y):=λi k=>by
   obtain⟨E,g,p⟩:=B i z;rw[m,Nat.mul_one]at g;obtain⟨y,rfl,_,hy⟩:=DataW.trod_int he p;obtain⟨_,_,r⟩:=World.cells?_some g;exact⟨y,hy,by simpa[mc]using r 0 z⟩
  obtain⟨f,s⟩:=choose_lt key;refine⟨Z a',d,l,(kq d).map f,j,dt,?_,λh0=>?_,λq=>by cases q⟩
  ·intro y hy;obtain⟨i,u,rfl⟩:=eU.1 hy;exact(s i (by simpa using u)).1
  ·obtain⟨b,off,spot⟩:=a';have F:spot=I:=by
    have:=(s 0 h0).2;simpa[mc]using World.cell?_spot this
   subst F;refine⟨b,off,rfl,λi k=>?_⟩;have v:=(s i k).2;have G:(⟨b,off,I⟩:Addr).add i=⟨b,off+i,I⟩:=by
    unfold mc;split
    ·rename_i K;rw[K];rfl
    ·rfl
   rw[G]at v;rw[v,List.getD_eq_getElem?_getD,dE,List.getElem?_range k];rfl
def IE(c:TypeId->Option (List Lf))(n:Nat)(a:∀t ls,c t=Z ls->∀cs x,mL enc P w base spare held n t cs=Z x->Dh w ls cs)(cs:List Value) :
  ∀(j:List Field) (off:Nat) (ls:List Lf),MG P c j off=Z ls->(∀f∈j,∃x,mL enc P w base spare held n f.type ((cs.drop f.offset).take (P.cellsOf f.type))=Z x) ->
   Dh w ls ((cs.drop off).take ls.length)
 |[],off,ls,h,_=>by simp only[MG,bf]at h;subst h;simp[Dh]
 |f::r,off,ls,h,k=>by
  unfold MG at h;split at h
  ·rename_i b;split at h
   ·rename_i l1 h1;split at h
    ·rename_i l;split at h
     ·rename_i rs d;simp only[bf]at h;subst h;obtain⟨x,i⟩:=k f dt;have a1:=a _ _ h1 _ _ i;rw[b,<-l]at a1;have a2:=IE c n a cs r (off+P.cellsOf f.type) rs d (λg hg=>k g (by simp[hg]));have e:(cs.drop off).take (l1++rs).length=(cs.drop off).take l1.length++(cs.drop (off+P.cellsOf f.type)).take rs.length:=by
       rw[cG,List.take_add,List.drop_drop,l]
      rw[e];exact Dh.append a1 a2
     ·cases h
    ·cases h
   ·cases h
  ·cases h
def Lo(ls:List Lf):∀(m:Nat) (cs:List Value),cs.length=m*ls.length->(∀i,i<m->Dh w ls ((cs.drop (i*ls.length)).take ls.length))->Dh w (rep ls m) cs
 |0,cs,a,_=>by
  rw[qA]at a;exact cU.1 a
 |m+1,cs,a,h=>by
  have h0:=h 0 z;rw[qA,mI]at h0;have e:cs=cs.take ls.length++cs.drop ls.length:=(List.take_append_drop _ _).symm;rw[e];refine Dh.append h0 (Lo ls m _ ?_ λi c=>?_)
  ·rw[List.length_drop,a,jG];omega
  ·have b:=h (i+1) z;rw[List.drop_drop];rw[show ls.length+i*ls.length=(i+1)*ls.length by rw[jG];omega];exact b
def GL:∀(m:Nat) (t:TypeId) (ls:List Lf),QC P m t=Z ls->∀(n:Nat) (cs:List Value) (x:DataW H×List tE),mL enc P w base spare held n t cs=Z x->Dh w ls cs
 |0,_,_,h=>by cases h
 |m+1,t,ls,h=>by
  intro n cs x j;unfold QC at h;split at h
  ·rename_i hu;cases h;obtain⟨b,rfl,_⟩:=DataW.trod_bool hu j;exact⟨_,_,rfl,⟨b,rfl⟩,rfl⟩
  ·rename_i hu;cases h;obtain⟨k,rfl,_,hw⟩:=DataW.trod_int hu j;exact⟨_,_,rfl,⟨k,rfl,hw⟩,rfl⟩
  ·rename_i e hu;split at h
   ·rename_i he;split at h
    ·rename_i l;cases h;obtain⟨a,g,c,xs,rfl,E⟩:=uD hu he l j;exact⟨_,_,rfl,⟨a,g,c,xs,rfl,E⟩,rfl⟩
    ·cases h
   ·cases h
  ·rename_i k e hu;split at h
   ·rename_i l1 h1;split at h
    ·rename_i o;cases h;obtain⟨xs,g,rfl,_,hlen,p,q⟩:=DataW.trod_array hu j;refine Lo l1 k cs (by rw[hlen];exact o.2) λi s=>?_;have C:=q i s;rw[o.1];have d:i<xs.length:=z;rw[ay d]at C;exact GL m e l1 h1 g _ _ C
    ·cases h
   ·cases h
  ·rename_i D hu;split at h
   ·rename_i l1 h1;split at h
    ·rename_i o;cases h;obtain⟨xs,g,rfl,_,hlen,p,q⟩:=DataW.trod_struct hu j;have r:=IE (enc:=enc) (w:=w) (base:=base) (spare:=spare) (held:=held) (QC P m) g (λF u G v K y=>GL m F u G g v K y) cs D.toList 0 ls h1 (λf A=>by
      obtain⟨i,s,B⟩:=List.getElem_of_mem A
      have d:i<D.size:=by simpa using s
      have:=q i f (by rw[Array.getElem?_eq_getElem d];exact congrArg Z B)
      rw[this]
      exact⟨_,ay z⟩)
     rw[mI,dC z]at r;exact r
    ·cases h
   ·cases h
  ·cases h
end
instance:Inhabited M.Act:=⟨⟨0,0,0,0,[],(0,0),false,0,0,0,0,0,0⟩⟩
def wf_u32{x:Int}(h:(dU ar x).wf=true):0<=x/\x<=4294967295:=by simpa[pD,jI,jJ,fR,gM]using h
def wf_u16{x:Int}(h:(dU aN x).wf=true):0<=x/\x<=65535:=by simpa[pD,jI,jJ,fR,gM]using h
def wf_u8{x:Int}(h:(dU bI x).wf=true):0<=x/\x<=255:=by simpa[pD,jI,jJ,fR,gM]using h
def PT{w:aw}{cs:List Value}(h:Dh w [.i V,.i V,.i V,.i V,.y,.i V,.i V,.b,.i ar,.i ar,.i aN,.i ar,.i ar,.i ar] cs):∃(x:M.Act) (d:Sl),cs=(jQ x d).toList/\pL w d.a d.n d.c x.b/\Nf x:=by
 obtain⟨_,_,rfl,⟨t,rfl,w0⟩,_,_,rfl,⟨u,rfl,w1⟩,_,_,rfl,⟨v,rfl,w2⟩,_,_,rfl,⟨A,rfl,w3⟩,_,_,rfl,⟨a,n,c,xs,rfl,s⟩,_,_,rfl,⟨B,rfl,w5⟩,_,_,rfl,⟨C,rfl,w6⟩,_,_,rfl,⟨D,rfl⟩,_,_,rfl,⟨E,rfl,F⟩,_,_,rfl,⟨G,rfl,H⟩,_,_,rfl,⟨e,rfl,f⟩,_,_,rfl,⟨g,rfl,j⟩,_,_,rfl,⟨k,rfl,l⟩,_,_,rfl,⟨m,rfl,o⟩,rfl⟩:=h;have L:=wf_u32 F;have N:=wf_u32 H;have K:=wf_u16 f;have p:=wf_u32 j;have q:=wf_u32 l;have r:=wf_u32 o;refine⟨⟨t,u,v,A,xs,(B,C),D,E,G,e,g,k,m⟩,⟨a,n,c⟩,rfl,s,⟨⟨λy hy=>?_,by simp only;omega,by simp only;omega,by simp only;omega⟩,w1,⟨p,q,r⟩,w6⟩⟩;have:=wf_u8 (s.wf y hy);omega
section
variable {H:Type} {enc:TypeId×Value->H} {w:aw} {base:Nat} {spare:Nat->Bool} {held:Bool}
def xp{fuel:Nat}{a:Option Addr}{len cap:Nat}{x:DataW H×List tE}(h:mL enc af w base spare held fuel 26 [ae a len cap]=Z x):(∃l,pZ w a len l)/\(a=I->cap=0):=by
 rcases open_slice underlying26 h with⟨d,_⟩ | ⟨a',B,C,F,n,D,T,d,_,U,hm,p,_,G⟩
 ·simp at d;obtain⟨rfl,rfl,rfl⟩:=d;exact⟨⟨[],rfl,λx K=>by simp at K,λh0=>absurd h0 z⟩,λ_=>rfl⟩
 ·simp at d;obtain⟨rfl,rfl,rfl⟩:=d;refine⟨?_,λq=>by cases q⟩;have hle:len<=F:=by rw[p];split<;>omega
  have key:∀i,i<len->∃y:M.Act,Nf y/\∃k:Sl,(∀j,j<14->w.cell? (a'.add (i*14+j))=(jQ y k).toList[j]?)/\pL w k.a k.n k.c y.b:=λi m=>by
   obtain⟨L,g,r⟩:=G i z;rw[show af.cellsOf 45=14 from by kernel_rfl]at g;have N:=GL 6 45 [.i V,.i V,.i V,.i V,.y,.i V,.i V,.b,.i ar,.i ar,.i aN,.i ar,.i ar,.i ar] cC _ _ _ r;obtain⟨y,k,rfl,P,hr⟩:=PT N;obtain⟨_,_,s⟩:=World.cells?_some g;refine⟨y,hr,k,λj t=>?_,P⟩;have:=s j t;rw[Go.Deep.add_add]at this;exact this
  obtain⟨f,u⟩:=choose_lt key;refine⟨(kq len).map f,dt,?_,λh0=>?_⟩
  ·intro y hy;obtain⟨i,A,rfl⟩:=eU.1 hy;exact(u i (by simpa using A)).1
  ·obtain⟨b,off,spot⟩:=a';have Q:spot=I:=by
    obtain⟨_,k,h1,_⟩:=u 0 h0;have o:=h1 0 z;have e:(jQ (f 0) k).toList[0]? = Z (J V (f 0).nv):=rfl;rw[e]at o;simpa[mc]using World.cell?_spot o
   subst Q;have R:∀j,(⟨b,off,I⟩:Addr).add j=⟨b,off+j,I⟩:=λj=>by
    unfold mc;split
    ·rename_i S;rw[S];rfl
    ·rfl
   refine⟨b,off,rfl,λi y hy=>?_⟩;have m:i<len:=by
    have:=(aS.1 hy).1;simpa using this
   rw[dE,List.getElem?_range m]at hy;simp only[Option.map_some,bf]at hy;subst hy;obtain⟨_,k,h1,h2⟩:=u i m;refine⟨k,λj v E=>?_,h2⟩;have t:j<14:=(aS.1 E).1;have o:=h1 j t;rw[R,E]at o;rw[Bj];exact o
end
end
namespace M
def E8(R:Room)(x:Act):(!(R.act x).1.cN)=(!R.cN && !decide (x.nv=8)):=by
 by_cases h:x.nv=8
 ·have e:R.act x=(R.fU.1,R.fU.2,false):=by simp[Room.act,h]
  rw[e,decide_eq_true h];unfold Room.fU;cases a:R.cN<;>simp[a]
 ·rw[(Op.act R x h).cN,decide_eq_false h];simp
def Qs.Le(q:Qs)(k:Nat):Prop:=∀s,q.rw s<=k/\(q.qs s).length<=k
def Qs.Le.mono{q:Qs}{k m:Nat}(h:q.Le k)(a:k<=m):q.Le m:=λs=>⟨aP (h s).1 a,aP (h s).2 a⟩
def Qs.Le.ab{q:Qs}{k:Nat}(h:q.Le k)(R R':Room)(x:Act)(a b:Bool):(Qs.ab R R' x a b q).Le (k+1):=by
 unfold Qs.ab;split
 ·intro s;refine⟨?_,?_⟩
  ·show set q.rw x.w.2 (q.rw x.w.2+1) s<=k+1;unfold set;split
   ·have:=(h x.w.2).1;omega
   ·have:=(h s).1;omega
  ·show(set q.qs x.w.2 _ s).length<=k+1;unfold set;split
   ·have:=(h x.w.2).2;split
    ·rw[AH,cG];simp;omega
    ·rw[cG];simp;omega
   ·have:=(h s).2;omega
 ·exact h.mono z
def Qs.Le.wrote{q:Qs}{k:Nat}(h:q.Le k)(R R':Room)(x:Act)(a:Bool):(Qs.wrote R R' x a q).Le k:=by
 unfold Qs.wrote;split
 ·intro s;refine⟨(h s).1,?_⟩;show(set q.qs x.w.2 _ s).length<=k;unfold set;split
  ·have:=(h x.w.2).2;rw[AH];omega
  ·exact(h s).2
 ·exact h
def Qs.Le.lu{q:Qs}{k:Nat}(h:q.Le k)(x:Act)(e:Int):(Qs.lu x e q).Le k:=by
 unfold Qs.lu;split
 ·intro s;refine⟨?_,?_⟩
  ·show set q.rw x.sub 0 s<=k;unfold set;split
   ·omega
   ·exact(h s).1
  ·show(set q.qs x.sub [] s).length<=k;unfold set;split
   ·simp
   ·exact(h s).2
 ·exact h
def Qs.Le.Cj{q:Qs}{k:Nat}(h:q.Le k)(R:Room):(Qs.Cj R q).Le k:=λs=>⟨(h s).1,by
 show(if pe R s=0 then[] else q.qs s).length<=k
 split
 ·simp
 ·exact(h s).2⟩
def Gj{R:Room}{G:Int->ij}{f:Int->Jn}{x:Act}{e:Int}{s:Int}{i:Nat}{o:Nat×cQ}(h:rC (R.act x).1 (Ag R G x) (kF x e f))(h1:x.nv=1)(d:(kA (R.act x).1 s)[i]? = Z o):f s=⟨(G s).own,(G s).dQ,(G s).aU⟩:=by
 cases g:(R.act x).1.aD s with
 |none=>unfold kA at d;rw[g]at d;simp at d
 |some l =>
  have q:=h.eq s l g;unfold kF at q;rw[if_neg (λj=>z)]at q;unfold Ag at q;rw[if_pos h1]at q;obtain⟨a,b,c⟩:=oM R G x.w x.fq s;rw[q,a,b,c]
end M
namespace M
def rR{s:Int}(h:fY s=true):0<=s/\s<6:=by simpa[fY]using h
def tg{s:Int}(h:mB s=true):0<=s/\s<3:=by simpa[mB]using h
def xJ(R:Room)(x:Act)(h:(R.act x).2.1=0)(h4:4<=x.nv)(h7:x.nv<=7):0<=x.sub/\x.sub<6:=by
 refine rR ?_;unfold Room.act at h;rcases(z:x.nv=4\/x.nv=5\/x.nv=6\/x.nv=7) with e|e|e|e<;>simp[e]at h
 ·unfold Room.iJ at h;cases q:fY x.sub
  ·rw[q]at h;split at h<;>simp at h
  ·rfl
 ·unfold Room.dN at h;cases q:fY x.sub
  ·rw[q]at h;simp only[rN,Bool.true_or,if_true]at h;repeat' split at h
   all_goals simp at h
  ·rfl
 ·unfold Room.iy at h;cases q:fY x.sub
  ·rw[q]at h;split at h<;>simp at h
  ·rfl
 ·unfold Room.jE at h;cases q:fY x.sub
  ·rw[q]at h;split at h<;>simp at h
  ·rfl
def xK(R:Room)(x:Act)(h:(R.act x).2.1=0)(h3:x.nv=3):0<=x.jo/\x.jo<3:=by
 refine tg ?_;unfold Room.act at h;simp[h3]at h;unfold Room.gg at h;cases q:mB x.jo
 ·rw[q]at h;split at h<;>simp at h
 ·rfl
end M
section
abbrev EU(s:Sl):Value:=ae s.a s.n s.c
def C2(f:Int->Nat):Array Value:=#[ag (f 0),ag (f 1),ag (f 2),ag (f 3),ag (f 4),ag (f 5)]
def Hk(f:Nat->Sl):Array Value:=#[EU (f 0),EU (f 1),EU (f 2),EU (f 3),EU (f 4),EU (f 5)]
def AN{α:Type}(f:Nat->α)(s:Nat)(v:α)(t:Nat):α:=if t=s then v else f t
def EZ{α:Type}(f:Int->α)(s:Int)(a b:α):M.set (M.set f s a) s b=M.set f s b:=by
 funext t;unfold M.set;split<;>rfl
def DB(f:Int->Nat){s:Nat}(h:s<6):(C2 f)[s]? = Z (ag (f s)):=by
 rcases(z:s=0\/s=1\/s=2\/s=3\/s=4\/s=5) with rfl|rfl|rfl|rfl|rfl|rfl<;>rfl
def DC(f:Nat->Sl){s:Nat}(h:s<6):(Hk f)[s]? = Z (EU (f s)):=by
 rcases(z:s=0\/s=1\/s=2\/s=3\/s=4\/s=5) with rfl|rfl|rfl|rfl|rfl|rfl<;>rfl
def Dv(f:Int->Nat){s:Nat}(h:s<6)(n:Nat):(C2 f).setIfInBounds s (ag n)=C2 (M.set f (s:Int) n):=by
 rcases(z:s=0\/s=1\/s=2\/s=3\/s=4\/s=5) with rfl|rfl|rfl|rfl|rfl|rfl<;>rfl
def Hh(f:Nat->Sl){s:Nat}(h:s<6)(x:Sl):(Hk f).setIfInBounds s (EU x)=Hk (AN f s x):=by
 rcases(z:s=0\/s=1\/s=2\/s=3\/s=4\/s=5) with rfl|rfl|rfl|rfl|rfl|rfl<;>rfl
def Ck(g:Nat)(f:Nat->Sl)(i:Nat):Prop:=i=g\/∃s,s<6/\(f s).own i
structure AI(w:aw)(g:Nat)(f:Nat->Sl)(q:Int->List Nat):Prop where
 cw:aK w g 37 (Hk f)
 row:∀s:Nat,s<6->AO w (f s) (q s)
 vd:∀s t,s<6->t<6->s≠t->∀i,(f s).own i->¬(f t).own i
def Th.qs(g:Nat)(f:Nat->Sl)(q:Int->List Nat):Th:=⟨Ck g f,λw=>AI w g f q,λh u k=>⟨h.cw.dW u (k g (.inl rfl)),λs b=>(h.row s b).dW u λi a=>k i (.inr ⟨s,b,a⟩),h.vd⟩,λh i a=>by
 rcases a with rfl | ⟨s,b,a⟩
 ·exact .cw h.cw aR aR
 ·obtain⟨cs,c⟩:=(h.row s b).cw i a
  exact .cw c aR aR⟩
section
variable {w w':aw} {g:Nat} {f:Nat->Sl} {q:Int->List Nat}
def AI.ne(h:AI w g f q){s:Nat}(a:s<6):¬(f s).own g:=λk=>by
 obtain⟨cs,b⟩:=(h.row s a).cw g k;exact aK.jf b h.cw aR rfl
def AI.cell(h:AI w g f q){s:Nat}(a:s<6):w.cell? ⟨g,s,I⟩=Z (EU (f s))/\w.frozen? ⟨g,s,I⟩=false:=⟨(h.cw.cell s).trans (DC f a),h.cw.frozen s⟩
def AI.Hi(h:AI w g f q){r:Nat}{t:TypeId}{cs:Array Value}(c:aK w r t cs)(a:t≠37)(h3:t≠3):¬Ck g f r:=λk=>by
 rcases k with e | ⟨s,d,k⟩
 ·exact aK.jf c h.cw a e
 ·obtain⟨i,b⟩:=(h.row s d).cw r k;exact aK.jf c b h3 rfl
def AI.put(h:AI w g f q){s:Nat}(c:s<6){x:Sl}{l:List Nat}(u:cS (f s).own w w')(v:AO w' x l)(o:∀i,x.own i->(f s).own i\/w.heap.size<=i) :
  AI (w'.setCell ⟨g,s,I⟩ (EU x)) g (AN f s x) (M.set q (s:Int) l)/\Fr (Ck g f) w (w'.setCell ⟨g,s,I⟩ (EU x))/\∀i,Ck g (AN f s x) i->Ck g f i\/w.heap.size<=i:=by
 have y:=h.cw.dW u (h.ne c);have m:∀t,t<6->∀i,(f t).own i->i<w.heap.size:=λt ht i a=>(h.row t ht).lt i a;have A:=h.cw.lt;have B:¬x.own g:=λk=>by
  rcases o g k with k|k
  ·exact h.ne c k
  ·omega
 have u2:cS (One g) w' (w'.setCell ⟨g,s,I⟩ (EU x)):=(cS.refl (One g) w').setCell (p:=⟨g,s,I⟩) (.inl rfl) _;refine⟨⟨?_,λt ht=>?_,λt n ht d j i a b=>?_⟩,?_,λi a=>?_⟩
 ·rw[<-Hh f c];exact y.bC s _
 ·unfold AN M.set;by_cases e:t=s
  ·subst e;rw[if_pos rfl,if_pos rfl];exact v.dW u2 λi a e=>B (by rw[show g=i from(show i=g from e).symm];exact a)
  ·rw[if_neg e,if_neg z];refine((h.row t ht).dW u λi a=>h.vd t s ht c e i a).dW u2 λi a r=>h.ne ht (by rw[show g=i from(show i=g from r).symm];exact a)
 ·unfold AN at a b;by_cases e:t=s
  ·subst e;rw[if_pos rfl]at a;rw[if_neg (λk=>j k.symm)]at b;rcases o i a with k|k
   ·exact h.vd t n c d j i k b
   ·have:=m n d i b;omega
  ·rw[if_neg e]at a;by_cases r:n=s
   ·subst r;rw[if_pos rfl]at b;rcases o i b with k|k
    ·exact h.vd t n ht c e i a k
    ·have:=m t ht i a;omega
   ·rw[if_neg r]at b;exact h.vd t n ht d j i a b
 ·have u3:cS (Ck g f) w (w'.setCell ⟨g,s,I⟩ (EU x)):=(u.mono λi _ k=>.inr ⟨s,c,k⟩).step u2 λi k=>.inl (.inl k);exact .jT u3 ((Th.qs g f q).ni h)
 ·rcases a with k | ⟨t,ht,k⟩
  ·exact .inl (.inl k)
  ·unfold AN at k;by_cases e:t=s
   ·rw[if_pos e]at k;rcases o i k with k|k
    ·exact .inl (.inr ⟨s,c,k⟩)
    ·exact .inr k
   ·rw[if_neg e]at k;exact .inl (.inr ⟨t,ht,k⟩)
end
def AI.congr{w:aw}{g:Nat}{f:Nat->Sl}{q a:Int->List Nat}(h:AI w g f q)(e:∀s:Nat,s<6->a s=q s):AI w g f a:=⟨h.cw,λs b=>by rw[e s b];exact h.row s b,h.vd⟩
def AI.cutAt{w:aw}{g:Nat}{f:Nat->Sl}{q:Int->List Nat}(h:AI w g f q){s:Nat}(j:s<6){y:Nat}{ys:List Nat}(hy:q (s:Int)=y::ys):∃g1 b c1,f s=⟨Z ⟨g1,b,I⟩,ys.length+1,c1⟩/\ys.length+1<=c1/\w.cell? ⟨g1,b,I⟩=Z (ag y)/\∀a,(a=b+1\/a=b/\c1=1) ->
  AI (w.setCell ⟨g,s,I⟩ (ae (Z ⟨g1,a,I⟩) ys.length (c1-1:Nat))) g (AN f s ⟨Z ⟨g1,a,I⟩,ys.length,c1-1⟩) (M.set q (s:Int) ys) /\
  Fr (Ck g f) w (w.setCell ⟨g,s,I⟩ (ae (Z ⟨g1,a,I⟩) ys.length (c1-1:Nat)))/\∀i,Ck g (AN f s ⟨Z ⟨g1,a,I⟩,ys.length,c1-1⟩) i->Ck g f i\/w.heap.size<=i:=by
 have hr:=h.row s j;rw[hy]at hr;obtain⟨g1,b,l,d,n,k⟩:=hr.cut;have hle:=hr.le;rw[d]at hle;refine⟨g1,b,(f s).c,by rw[<-l,<-d],hle,n,λa p=>?_⟩;have m:=k a p;rw[d,Nat.add_sub_cancel]at m;exact h.put j (x:=⟨Z ⟨g1,a,I⟩,ys.length,(f s).c-1⟩) (cS.refl _ _) m (λi ⟨o,e⟩=>.inl ⟨b,by rw[l];simp only[bf,Addr.mk.injEq]at e;rw[e.1]⟩)
def mD.alt{w wr:aw}{B:RB}{R:M.Room}{N:Nat}{l1 l2:List Th}{x y:Th}(h:mD w wr B R N (l1++x::l2))(hy:y.At wr)(a:∀i,y.own i->x.own i):mD w wr B R N (l1++y::l2):=h.IW (Fr.refl _ _) hy (λi b=>.inl (a i b))
def nB(R:M.Room)(q:Int->List Nat)(j:Nat)(s:Int):List Nat:=if s<(j:Int)/\M.pe R s=0 then[] else q s
def EV(R:M.Room)(q:Int->List Nat)(s:Nat):nB R q 0 s=q s:=by unfold nB;rw[if_neg (λa=>z)]
def E0(R:M.Room)(q:Int->List Nat)(j:Nat)(h:M.pe R j=0)(s:Int):nB R q (j+1) s=M.set (nB R q j) (j:Int) [] s:=by
 show(if s<((j+1:Nat):Int)/\M.pe R s=0 then[] else q s)=if s=(j:Int) then[] else if s<(j:Int)/\M.pe R s=0 then[] else q s
 by_cases e:s=j
 ·subst e;rw[if_pos ⟨z,h⟩,if_pos rfl]
 ·rw[if_neg e];by_cases a:s<(j:Int)/\M.pe R s=0
  ·rw[if_pos a,if_pos ⟨z,a.2⟩]
  ·rw[if_neg a,if_neg (λk=>a ⟨z,k.2⟩)]
def EW(R:M.Room)(q:Int->List Nat)(j:Nat)(h:M.pe R j≠0)(s:Int):nB R q (j+1) s=nB R q j s:=by
 unfold nB;by_cases a:s<(j:Int)/\M.pe R s=0
 ·rw[if_pos a,if_pos ⟨z,a.2⟩]
 ·rw[if_neg a,if_neg (λk=>by
   by_cases e:s=j
   ·subst e;exact h k.2
   ·exact a ⟨z,k.2⟩)]
def GS(a0 a1 a2 a3 a4 a5 a b c:Int)(w:aw):(Instr.index 46 (cg #[J V a0,J V a1,J V a2,J V a3,J V a4,J V a5,J V a,J V b,J V c]) (J V 6)).run af w=.ok (J V a) w:=cC
def Fw(w:aw)(n:Nat)(e:Ending)(w':aw):Prop:=(∃a0 a1 a2 a3 a4 a5 a b:Int,e=av (cg #[J V a0,J V a1,J V a2,J V a3,J V a4,J V a5,ag n,J V a,J V b]))/\aC w w'
def C8{w:aw}{B:RB}{R:M.Room}{N:Nat}(h:aL w B R N)(s:Int)(a:N<=1000000)(c:∀s id,R.aO.length<=id->R.di s id=I):aF af 12 #[Qv B.bg,J V s] w (Fw w (R.Aq s 6)):=by
 refine(wB B.bg B.bm N R.aO.length R.di s w (h.part .di) a c).mono ?_;rintro e w' ⟨rfl,b⟩;exact⟨⟨_,_,_,_,_,_,_,_,rfl⟩,b⟩
def GM{B:RB}{R:M.Room}{N:Nat}{w:aw}(h:aL w B R N)(s:Int):(M.kA R s).length<=N:=by
 unfold M.kA;cases a:R.aD s with
 |none=>simp
 |some l =>
  obtain⟨L,_,b⟩:=h.jq a;exact b.small
end
def Qr:ownKnob af.godebug=I:=cC
def qX:laidOutB af=true:=cC
def we{H:Type}{enc:TypeId×Value->H}{a:Assume}{C:Checked}{os:Os}{f:FuncId}{fn:Func}{s:ChangeSpec}{conds:List PathCond}{jF fresh handsOn again:Bool}{X:aw->Array Value->Prop}
  (q:∀(w w':aw) (args:Array Value),w.heap=w'.heap->X w args->X w' args)
  (own:ownKnob C.prog.godebug=I) (started:os.Started) (c:C.prog.inits.idxOf? f=I) (l:C.prog.funcs[f]? = Z fn)
  (witness:∃(w:aw) (tape:Tape) (i:Input),w.os=os/\(w.forCall tape i).Shaped C.prog/\i.vars=[]/\Input.okWide C.prog (w.forCall tape i) .any w.heap.size f i /\
    ((s.pre enc C.prog fn conds jF (w.forCall tape i).memory i.args/\X (w.forCall tape i).memory i.args)/\sizedMet enc C.prog fn (OpenSpec.ofChange s) jF (w.forCall tape i).memory i.args)/\a.holds C.prog (lone (Frame.enter C.prog f i.args .normal) [] (w.forCall tape i)))
  (b:∀(W:aw) (base:Nat) (args:Array Value) (ds gs:List (DataW H)) (before:List tE),
    (∀(j:Nat) t v,fn.params[j]? = Z t->args[j]? = Z v->Value.okWide C.prog W .any base t v) ->
    DataW.Whole enc C.prog fn.params.toList s.vars jF W args.toList ds gs before ->
    X W args->W.ShapedOpen C.prog ->
    aF C.prog f args W λe W'=>∃v,e=av v/\s.post enc C.prog fn jF fresh handsOn again W args v W') :
  ReturnsInHanded a C os f .any (λw args=>(s.pre enc C.prog fn conds jF w args/\X w args)/\sizedMet enc C.prog fn (OpenSpec.ofChange s) jF w args) (s.post enc C.prog fn jF fresh handsOn again):=by
 refine returnsInHanded_of_calls own started c witness ?_;intro w tape i _ m _ n d k;obtain⟨_,_,_,o,g,_,_,_,_,h⟩:=n;have e:o=fn:=Option.some.inj (g.symm.trans l);subst e;obtain⟨⟨⟨ds,gs,before,hw,u⟩,r⟩,x⟩:=d;have p:=DataW.Whole.of_heap (w':=w.forCall tape i) jP hw;refine(b (w.forCall tape i) w.heap.size i.args ds gs before h p (q _ _ _ jP r) m).mono λe W' ⟨v,he,hp⟩=>?_;subst he;exact ChangeSpec.post_blind hp
abbrev wD:List (String×DataW Unit):=[("math/bits.deBruijn32tab",Rows.laid_math_bits_deBruijn32tab),("math/bits.deBruijn64tab",Rows.laid_math_bits_deBruijn64tab),("internal/strconv.uint64pow10",Rows.laid_internal_strconv_uint64pow10),("unicode/utf8.acceptRanges",Rows.laid_unicode_utf8_acceptRanges),("unicode/utf8.first",Rows.laid_unicode_utf8_first)]
def Lr:(Rows.laid_internal_strconv_uint64pow10:DataW Unit)=Lib.tabData .u64 Lib.pow10Tab:=cC
def MN{W:aw}(a:laidMet af wD W)(b:W.ShapedOpen af):Env W:=by
 refine⟨?_,?_⟩
 ·exact cell_of_shapedOpen_int (g:=0) (t:=3) (zero:=#[J V 0]) (k:=V) b (of_decide_eq_true cC) cC cC cC cC cC
 ·have h3:=laidMet.tail (laidMet.tail a);rw[Lr]at h3;exact Lib.tabIs_of_head (g:=3) (t:=475) (e:=197) (n:=20) cC cC cC cC cC cC h3
end Go.Proofs.YtkfblammcilfhaaGreatDoor
