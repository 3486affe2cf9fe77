import Derived.Test.YtkfblammcilfhaaGreatDoorP3
import Derived.Test.YtkfblammcilfhaaGreatDoorP4
set_option linter.all false
set_option maxRecDepth 100000
set_option maxHeartbeats 100000000
open Go.ChangeShapes Go.WideShapes Go.ChangeAt Go.RowKit Go.Proofs.Tryz
open Go renaming World->aw,Calls->aF,bodyPost_ret->ax,results->aV,info_parts->cY,wpList_make_full->mW,wpList_append_own->dM
open Go.Proofs.Tryz renaming prog->af
open Go.Value renaming cells->gW,int->J,slice->ae,bool->ai,pointer->aq,tuple->aB,agg->cg
open List renaming length_cons->ft,getElem?_eq_getElem->ay,drop_eq_getElem_cons->iz,take_add_one->ee,mem_of_getElem?->fb,drop_length->kb,take_length->cT,mem_append->bt,mem_of_mem_drop->ga,mem_of_mem_take->eZ,getD_eq_getElem?_getD->bE,flatMap_cons->kO,nil_append->qd,foldl_cons->eN,Sublist->jz,mem_map->eU,getElem?_eq_some_iff->aS,map_append->fL,map_cons->eV,nodup_cons->iM,mem_cons->fw,sublist_cons_self->oq,nodup_append->jj,drop_zero->mI,map_nil->jk
open Nat renaming add_zero->iw,mod_eq_of_lt->fZ,mod_lt->kp,zero_add->cO,le_refl->aj
open Go.IntKind renaming i64->V
open Go.IntWalk renaming i64_in->cz
open Option.some renaming injEq->bf
open Go.RowKit renaming wrap64->dB,intOf->bS
open Array renaming getElem?_eq_getElem->aE
open List.Sublist renaming refl->gf
open Go.Ending renaming returned->av
open Or renaming inl->aJ,inr->aZ
open Option renaming none->I,some->Z
namespace Go.Proofs.YtkfblammcilfhaaGreatDoor
abbrev vh:Value:=(cg #[J V 0,ae I 0 0]:Value)
def LH(w:aw):(zeroValue 80).run af w=.ok vh w:=cC
abbrev nU:=RingM 314 80 2
def NM:∀v∈vh.cells.toList,v.oneCell'=true:=by
 intro u hu;simp[gW]at hu;repeat (first|(subst hu;rfl)|(rcases hu with rfl|hu;rfl))
def uC:(af.info? 80).map (·.size)=Z 2:=cC
def LI:vh.cells.size=2:=rfl
def Iv(g pl cap:Nat)(q:List (List Value))(w:aw)(h:nU w g pl cap q):aF af 96 #[aq (Z ⟨g,0,I⟩)] w λe w'=>e=av (J V q.length)/\w'=w:=by
 obtain⟨first,jt,n4,n5,n6,n7,b,a,c,d,hR⟩:=h.ex;have c2:=a.cell 2;simp at c2;clear hR h;go_enter func96,ntmps96;go_wp2_with fail;go_ret;exact⟨rfl,rfl⟩
def DR(g pl cap:Nat)(q:List (List Value))(w:aw)(h:nU w g pl cap q):aF af 245 #[aq (Z ⟨g,0,I⟩)] w λe w'=>e=av (ai (decide (q.length=cap)))/\w'=w.drew:=by
 obtain⟨first,jt,n4,n5,n6,n7,j,c,k,l,hR⟩:=h.ex;have c2:=c.cell 2;have f:=c.cell 0;simp at c2 f;clear hR h;by_cases d:q.length=cap
 ·have a:decide (q.length=cap)=true:=by simp[d]
  have b:=au a;clear a;have i:((q.length:Int)==(cap:Int))=true:=dZ;go_enter func245,ntmps245;go_wp2_with fail;go_region;go_wp2_with fail;go_ret;exact⟨by rw[b.O];try rfl,rfl⟩
 ·have a:decide (q.length=cap)=false:=by simp[d]
  have b:=au a;clear a;have i:((q.length:Int)==(cap:Int))=false:=dZ;go_enter func245,ntmps245;go_wp2_with fail;go_region;go_wp2_with fail;go_ret;exact⟨by rw[b.O];try rfl,rfl⟩
def zv(g pl cap:Nat)(a0:Int)(s:Option Addr)(c d:Nat)(q:List (List Value))(w:aw)(h:nU w g pl cap ([J V a0,ae s c d]::q)) :
  aF af 217 #[aq (Z ⟨g,0,I⟩)] w λe w'=>e=av (cg #[J V a0,ae s c d])/\nU w' g pl cap q/\cS (jK g pl) w w':=by
 obtain⟨first,jt,n4,n5,n6,n7,hf,o,t,hs,hR⟩:=h.ex;have le:=h.le;have one:=h.one;have aT:=h.aT;have mK:=au h.wf;simp only[ft]at le;have r:=hR 0 [J V a0,ae s c d] rfl;rw[iw,fZ hf]at r;have p0:w.cell? ⟨pl,first*2,I⟩=Z (J V a0):=by have:=(t.cell (first*2+0)).trans (r 0 z);simpa using this
 have p1:w.cell? ⟨pl,first*2+1,I⟩=Z (ae s c d):=by have:=(t.cell (first*2+1)).trans (r 1 z);simpa using this
 have C:=o.cell 0;have c1:=o.cell 1;have f0:=o.frozen 0;have f1:=o.frozen 1;simp at C c1;have l:=o.drew;have b:=t.drew;have w1:V.wrap ((first:Int)+1)=(first:Int)+1:=cz _ ⟨z,z⟩;have q1:(first:Int)+1<=cap:=z;have q2:0<=(first:Int)+1:=z;have q3:¬cap=first:=z
 have SG:=ll (k:=2) hf;have N:first*2+vh.cells.size<=jt.size:=by rw[LI];omega
 have E:=hR.take hf z hs (zs:=vh.cells.toList) rfl;have P:(de jt (first*2) vh.cells.toList).size=cap*2:=by rw[gU (by simpa using N),hs]
 obtain⟨a,u⟩:=dH ((first+1) % cap);have SK:((first:Int)+1) % (cap:Int)=(a:Int):=by rw[u];simp
 have Q:a<cap:=by rw[u];exact kp _ z
 rw[<-u]at E;obtain⟨HR,HS,SL,HV⟩:=cA E P h r;clear hR E hs P u h r SG;clear C c1 f0 f1 p0 p1 l b;go_enter func217,ntmps217;go_wp2_with fail;obtain⟨D,y⟩:=dH w.heap.size;refine aW (λW=>aK W D 80 #[J V 0,ae I 0 0]/\aK W g 314 _/\aK W pl 80 jt/\cS cr w W) ⟨by rw[y];exact aK.new w 80 #[J V 0,ae I 0 0],o.alloc _,t.alloc _,(cS.refl _ w).alloc _⟩ ?_;rintro W ⟨F,n,m,u1⟩;rw[<-y];have d0:D≠pl:=by rw[y];exact(Nat.ne_of_lt t.lt).symm
 have b0:w.heap.size<=D:=z;have SM:=m.lt;have SH:=au b0;clear y b0;have C:=n.cell 0;have c1:=n.cell 1;have R:=(n.alloc (.cells #[J V 0,ae I 0 0] 80)).cell 0;have S:=(n.alloc (.cells #[J V 0,ae I 0 0] 80)).cell 1;simp at C c1 R S;have p0:=(m.cell (first*2+0)).trans (HV.O 0 z);have T:=((m.alloc (.cells #[J V 0,ae I 0 0] 80)).cell (first*2+0)).trans (HV.O 0 z);have p1:=(m.cell (first*2+1)).trans (HV.O 1 z);have U:=((m.alloc (.cells #[J V 0,ae I 0 0] 80)).cell (first*2+1)).trans (HV.O 1 z);simp at p0 T p1 U;go_region;obtain⟨r1,G⟩:=dH W.heap.size;rw[<-G];refine gN (λX=>aK X D 80 #[J V 0,ae I 0 0]/\aK X r1 80 #[J V a0,ae s c d]/\aK X g 314 _/\aK X pl 80 jt/\cS cr w X) ⟨(F.alloc _).drew,by rw[G];exact(aK.new W 80 _).drew,(n.alloc _).drew,(m.alloc _).drew,(u1.alloc _).drew⟩ ?_;rintro X ⟨A,B,l,b,u2⟩;have n1:=F.lt;have d1:r1≠pl:=z;clear G;clear F n m u1 p0 T p1 U C c1 R S;have C:=l.cell 0;have c1:=l.cell 1;simp at C c1;go_wp2_with fail;have SJ:∀ty,(Builtin.clear_ #[63] ty #[ae (Z ⟨pl,(first*2),I⟩) 1 (cap-first)]).run af X.drew=.ok (aB #[]) (X.drew.setRow pl (de jt (first*2) vh.cells.toList)):=λty=>nf _ 63 80 ty vh underlying63 LH pl (first*2) (cap-first) 80 jt (by first|exact b.drew|exact b) N NM;go_region;refine gN (λw2=>aK w2 pl 80 (de jt (first*2) vh.cells.toList)/\aK w2 g 314 _/\aK w2 D 80 _/\aK w2 r1 80 _/\cS (jK g pl) w w2) ⟨by first|exact gm b.drew|exact gm b|exact(gm b).drew,by first|exact eB l.drew b.drew (aK.jf o t aR)|exact eB l b (aK.jf o t aR)|exact(eB l b (aK.jf o t aR)).drew,by first|exact eB A.drew b.drew d0|exact eB A b d0|exact(eB A b d0).drew,by first|exact eB B.drew b.drew d1|exact eB B b d1|exact(eB B b d1).drew,by first|exact((u2.mono λi _ q=>q.elim).drew).step (fW _ _ _) (λi H=>aJ (aZ H))|exact((u2.mono λi _ q=>q.elim)).step (fW _ _ _) (λi H=>aJ (aZ H))|exact(((u2.mono λi _ q=>q.elim)).step (fW _ _ _) (λi H=>aJ (aZ H))).drew⟩ ?_;rintro w2 ⟨Y,f,K,L,u3⟩;have e0:=f.cell 0;have e1:=f.cell 1;have e2:=f.cell 2;have f0:=f.frozen 0;have f1:=f.frozen 1;have f2:=f.frozen 2;simp at e0 e1 e2;all_goals
  have ng:D≠g:=aK.jf K f aR;have nq:r1≠g:=aK.jf L f aR;have h5:nU ((w2.setCell ⟨g,1,I⟩ (J V a)).setCell ⟨g,2,I⟩ (J V q.length)) g pl cap q:=by
   refine⟨⟨a,_,n4,n5,n6,n7,Q,?_,(Y.dS (p:=⟨g,1,I⟩) (λe=>aK.jf o t aR e.symm) _).dS (p:=⟨g,2,I⟩) (λe=>aK.jf o t aR e.symm) _,HS.O,HR.O⟩,z,one,aT,λx hx=>mK.O x (by simp[hx])⟩;have B5:=(f.bC 1 (J V a)).bC 2 (J V q.length);simpa using B5
  have u5:=(u3.setCell (p:=⟨g,1,I⟩) (aJ (aJ rfl)) (J V a)).setCell (p:=⟨g,2,I⟩) (aJ (aJ rfl)) (J V q.length);have aI:=(K.dS (p:=⟨g,1,I⟩) ng (J V a)).dS (p:=⟨g,2,I⟩) ng (J V q.length);have df:=(L.dS (p:=⟨g,1,I⟩) nq (J V a)).dS (p:=⟨g,2,I⟩) nq (J V q.length);have HY:=au h5;have HU:=au u5;have eI:=au aI;have gX:=au df;clear A B l b u2 C c1 K L u3 Y f h5 u5 aI df;go_wp2_with fail;go_region;go_wp2_with (first
   |(refine lI _ rfl (.tmp 3) 80 rfl r1 0 80 _ rfl #[J V a0,ae s c d] _ underlying80 uC (by first|exact gX.O.drew|exact gX.O) (λj _=>by rw[cO]) ?_)
   |(refine jb _ rfl (.tmp 2) (.tmp 49) 80 rfl D 0 80 _ rfl #[J V a0,ae s c d] rfl uC (by first|exact eI.O.drew|exact eI.O) (aj _) tk ?_;intro w6 M v6))
  have SI:de #[J V 0,ae I 0 0] 0 (#[J V a0,ae s c d]:Array Value).toList=#[J V a0,ae s c d]:=rfl;rw[SI]at M;have x0:=M.cell 0;have x1:=M.cell 1;simp at x0 x1;have h6:nU w6 g pl cap q:=(by first|exact HY.O.drew|exact HY.O:nU _ g pl cap q).dW v6 (λe=>ng e.symm) (λe=>d0 e.symm);have u6:cS (jK g pl) w w6:=(by first|exact HU.O.drew|exact HU.O:cS (jK g pl) w _).step v6 (λi H=>aZ (by rw[show i=D from H];exact SH.O));refine ax (v:=(cg #[J V a0,ae s c d])) (by simp[aV,results217,go_sem,x0,x1]) rfl ⟨rfl,h6,u6⟩
def wu:(af.info? 80).map (λi=>(i.zero,i.size,i.bytes))=Z (Z vh,2,32):=cC
def NN(cap:Nat)(w:aw)(h1:1<=cap)(h8:cap<=8):aF af 150 #[J V cap] w λe w'=>∃g pl,e=av (aB #[aq (Z ⟨g,0,I⟩),J V 0])/\nU w' g pl cap []/\cS cr w w'/\w.heap.size<=g/\w.heap.size<=pl:=by
 obtain⟨i0,q,b,c,d⟩:=cY wu;obtain⟨s,h,k,l⟩:=cA q b c d;clear q b c d;have C:¬(cap:Int)<1:=z;have D:¬(8:Int)<cap:=z;go_enter func150,ntmps150;go_wp2_with (at_make;go_loud (refine mW _ rfl _ _ 63 rfl w.heap.size 80 i0 vh 2 underlying63 s.O h.O k.O _ _ _ _ cap rfl rfl rfl rfl ?b2 ?b3 ?b4 ?_));case b2=>rw[l.O];omega
 case b3=>unfold maxLen;omega
 intro w1 rO g1;have t:∃cs,aK w1 w.heap.size 80 cs/\cs.size=cap*2:=by
  rcases rO.2 with⟨e,_⟩ | ⟨g,E,dx,e,_,hh,_,_,u,_⟩
  ·cases e
  ·simp only[Value.slice.injEq,bf,Addr.mk.injEq]at e;obtain⟨⟨rfl,_⟩,_,rfl⟩:=e;exact⟨dx,hh,z⟩
 have m:aC w w1:=(Below.refl _ w).grown g1 (aj _) (λj y=>by cases y);clear rO g1;obtain⟨n,a,f⟩:=t;have r:=m.size;have lt:=a.lt;obtain⟨F,HS,A,B,o⟩:=gY lt f a m r;clear lt f a m r;go_wp2_with fail;refine ax (v:=aB #[aq (Z ⟨w1.heap.size,0,I⟩),J V 0]) (by simp[aV,results150,go_sem]) rfl ?_;refine⟨_,w.heap.size,rfl,⟨⟨0,n,0,0,0,0,z,aK.new w1 314 _,A.O.alloc _,HS.O,λi x p=>by simp at p⟩,dt,h1,h8,λx p=>by simp at p⟩,(cS.bn B.O).alloc _,o.O,aj _⟩
def LK{w:aw}{g pl cap:Nat}{q:List (List Value)}(h:nU w g pl cap q):∃n5:Int,w.cell? ⟨g,5,I⟩=Z (J V n5)/\∀v,nU (w.setCell ⟨g,5,I⟩ (J V v)) g pl cap q:=by
 obtain⟨first,jt,n4,n5,n6,n7,c,a,b,d,hR⟩:=h.ex;refine⟨n5,by rw[a.cell];rfl,λv=>⟨⟨first,jt,n4,v,n6,n7,c,?_,b.dS (p:=⟨g,5,I⟩) (λe=>aK.jf a b aR e.symm) _,d,hR⟩,h.le,h.one,h.aT,h.wf⟩⟩;have B:=a.bC 5 (J V v);simpa using B
def NL(g pl cap:Nat)(c:Int)(d:Option Addr)(a b:Nat)(q:List (List Value))(w:aw)(h:nU w g pl cap ([J V c,ae d a b]::q)) :
  aF af 165 #[aq (Z ⟨g,0,I⟩)] w λe w'=>e=av (aB #[(cg #[J V c,ae d a b]),ai true])/\nU w' g pl cap q/\cS (jK g pl) w w':=by
 obtain⟨first,jt,m4,m5,m6,m7,B,m,t,C,hR⟩:=h.ex;have D:=m.lt;have E:=t.lt;clear B C hR;go_enter func165,ntmps165;go_upto_region 1 with fail;obtain⟨r2,f⟩:=dH w.heap.size;rw[<-f];refine aW (λW=>aK W r2 80 #[J V 0,ae I 0 0]/\nU W g pl cap ([J V c,ae d a b]::q)/\aK W g 314 _/\cS cr w W) ⟨aK.newAt _ _ _ _ f,h.alloc _,m.alloc _,(cS.refl _ w).alloc _⟩ ?_;rintro W ⟨b2,u,j,u1⟩;have d2:r2≠g:=z;have d3:r2≠pl:=z;have d4:w.heap.size<=r2:=z;clear f D E h m t;have c2:=j.cell 2;have f5:=j.frozen 5;simp at c2;have K:((q.length:Int)+1==0)=false:=dZ;have L:¬((q.length:Int)+1=0):=z;obtain⟨n5,c5,up⟩:=LK u;have x:=up (dB (n5+1));have l:=b2.dS (p:=⟨g,5,I⟩) d2 (J V (dB (n5+1)));have u2:=(u1.mono (G:=jK g pl) λi _ q=>q.elim).setCell (p:=⟨g,5,I⟩) (aJ (aJ rfl)) (J V (dB (n5+1)));have n:=au l;have o:=au u2;have r:=au x;clear up l u2 x u b2 u1 j;go_wp2_with (first
  |(refine(zv g pl cap c d a b q _ r.O).mono ?_;rintro e w3 ⟨rfl,F,u3⟩;have b3:=n.O.dW u3 (λq=>by rcases q with q|q;exact d2 q;exact d3 q))
  |(refine jb _ rfl (.tmp 2) (.tmp 21) 80 rfl r2 0 80 #[J V 0,ae I 0 0] rfl #[J V c,ae d a b] rfl uC b3 (aj _) tk ?_;intro w6 k v6))
 have s:de #[J V 0,ae I 0 0] 0 (#[J V c,ae d a b]:Array Value).toList=#[J V c,ae d a b]:=rfl;rw[s]at k;have y:=k.cell 0;have A:=k.cell 1;simp at y A;have h6:=F.dW v6 (λe=>d2 e.symm) (λe=>d3 e.symm);have u6:=(o.O.trans u3).step v6 (λi H=>aZ (by rw[show i=r2 from H];exact d4));refine ax (v:=aB #[(cg #[J V c,ae d a b]),ai true]) (by simp[aV,results165,go_sem,y,A]) rfl ⟨rfl,h6,u6⟩
def LJ(g pl cap:Nat)(c:Int)(d:Option Addr)(a b:Nat)(q:List (List Value))(w:aw)(h:nU w g pl cap ([J V c,ae d a b]::q)) :
  aF af 164 #[aq (Z ⟨g,0,I⟩)] w λe w'=>e=av (aB #[(cg #[J V c,ae d a b]),ai true])/\cS cr w w':=by
 obtain⟨first,jt,m4,m5,m6,m7,y,m,n,A,hR⟩:=h.ex;have B:=m.lt;have C:=n.lt;have j:=hR 0 [J V c,ae d a b] rfl;rw[iw,fZ y]at j;have s:=au j;have D:(first:Int)<cap:=z;clear A hR h j;go_enter func164,ntmps164;go_upto_region 1 with fail;obtain⟨r2,k⟩:=dH w.heap.size;rw[<-k];refine aW (λW=>aK W r2 80 #[J V 0,ae I 0 0]/\aK W g 314 _/\aK W pl 80 jt/\cS cr w W) ⟨aK.newAt _ _ _ _ k,m.alloc _,n.alloc _,(cS.refl _ w).alloc _⟩ ?_;rintro W ⟨b2,f,l,u1⟩;have d4:w.heap.size<=r2:=z;clear k B C m n;have c2:=f.cell 2;have E:=f.cell 0;have c1:=f.cell 1;have z0:=b2.cell 0;have G:=b2.cell 1;have f0:=b2.frozen 0;have f1:=b2.frozen 1;have H:=(l.cell (first*2+0)).trans (s.O 0 z);have p1:=(l.cell (first*2+1)).trans (s.O 1 z);simp at E c1 c2 z0 G H p1;have L:((q.length:Int)+1==0)=false:=dZ;have M:¬((q.length:Int)+1=0):=z;obtain⟨o,K⟩:=bu b2 u1;clear b2 u1 f l;go_wp2_with fail;go_region;all_goals
  have t:=((o.O.bC 0 (J V c)).bC 1 (ae d a b)).drew;have u:=t.cell 0;have x:=t.cell 1;simp at u x;have u6:=((K.O.step (cS.setCell (F:=One r2) (p:=⟨r2,0,I⟩) (cS.refl _ _) (aJ rfl) (J V c)) (λi r=>aZ (by rw[show i=r2 from r];exact d4))).step (cS.setCell (F:=One r2) (p:=⟨r2,1,I⟩) (cS.refl _ _) (aJ rfl) (ae d a b)) (λi r=>aZ (by rw[show i=r2 from r];exact d4))).drew;go_wp2_with fail;refine ax (v:=aB #[(cg #[J V c,ae d a b]),ai true]) (by simp[aV,results164,go_sem,u,x]) rfl ⟨rfl,u6⟩
def DS(x:List Value):Prop:=∃  (c:Int) (d:Option Addr) (a b:Nat),x=[J V c,ae d a b]
def Jv(g pl cap:Nat)(q:List (List Value))(w:aw)(h:nU w g pl cap q)(t:∀x∈q,DS x) :
  aF af 176 #[aq (Z ⟨g,0,I⟩)] w λe w'=>∃v,e=av v/\w'.ownsRow w.heap.size 80 2 v q.length q.flatten/\nU w' g pl cap []/\cS (jK g pl) w w':=by
 obtain⟨i0,r,y,B,C⟩:=cY wu;obtain⟨HI,H,K,L⟩:=cA r y B C;clear r y B C;obtain⟨first,jt,m4,m5,m6,m7,M,l,s,G,hR⟩:=h.ex;have lB:=l.lt;have lP:=s.lt;have le:=h.le;have aT:=h.aT;have c2:=l.cell 2;simp at c2;obtain⟨N,W⟩:=bu t h;clear M G hR l s t h;have u0:=cS.refl (jK g pl) w;have m:w.ownsRow w.heap.size 80 2 (ae I 0 0) 0 []:=⟨dt,aJ ⟨rfl,rfl⟩⟩;go_enter func176,ntmps176;go_wp2_with fail;clear c2;go_loopw [3,8] (λv i wr=>∃j:Nat,i=J V j/\j<=q.length/\wr.ownsRow w.heap.size 80 2 v j (q.take j).flatten/\nU wr g pl cap (q.drop j)/\cS (jK g pl) w wr) (λv i _=>q.length-(bS i).toNat);case atStart=>exact⟨0,rfl,z,m,W.O,u0⟩
 case round =>
  clear m u0;obtain⟨j,rfl,hj,own,R,u⟩:=hrel;have su:=u.size;by_cases o:j<q.length
  ·obtain⟨x,k⟩:∃x,q[j]? = Z x:=⟨_,ay o⟩;have X:q.drop j=x::q.drop (j+1):=by
    rw[iz o];rw[ay o]at k;simp only[bf]at k;rw[k]
   have ht:(q.take (j+1)).flatten=(q.take j).flatten++x:=by rw[ee,k];simp
   obtain⟨d,f,a,b,rfl⟩:=N.O x (fb k);rw[X]at R;obtain⟨A,c,rfl⟩:=bA own;have HT:=au ht;have D:=au own;have P:=au u;have HR:=au R;clear ht X k own u R;have aI:((j:Int)<(q.length:Int)):=z;go_wp2_with (first
    |(refine(zv g pl cap d f a b (q.drop (j+1)) wr HR.O).mono ?_;rintro e w3 ⟨rfl,Y,u3⟩;have E:=du D.O u3 (λi r q=>by have:=(D.O.lt i r).1;rcases q with q|q<;>omega))
    |(at_builtin;go_loud (refine dM _ rfl _ _ 63 rfl w.heap.size 80 i0 vh 2 32 underlying63 HI.O H.O K.O L.O rfl aR _ _ _ rfl (E.alloc _) ⟨w3.heap.size,0,I⟩ 1 1 [J V d,ae f a b] rfl rfl ?c1 ?c2 ?c3 ?c4 ?c5 ?_)))
   case c1=>exact fB w3 80 #[J V d,ae f a b]
   case c2=>exact by intro u hu;simp at hu;repeat (first|(subst hu;rfl)|(rcases hu with rfl|hu;rfl))
   case c3=>unfold maxLen;omega
   case c4=>omega
   case c5=>have:=u3.size;simp;omega
   intro v5 w5 n g5 _;have u5:=eT g5;have R5:=(Y.alloc (.cells #[J V d,ae f a b] 80)).dW u5 (λq=>by have:=((E.alloc (.cells #[J V d,ae f a b] 80)).lt g q).1;omega) (λq=>by have:=((E.alloc (.cells #[J V d,ae f a b] 80)).lt pl q).1;omega);have uu:=((P.O.trans u3).alloc (.cells #[J V d,ae f a b] 80)).step u5 (λi q=>aZ ((E.alloc (.cells #[J V d,ae f a b] 80)).lt i q).1);obtain⟨Q,S,T⟩:=bU R5 uu n;clear R5 uu n g5 u5 Y u3 E;go_wp2_with fail;go_roundw;case rel=>exact⟨j+1,by go_num,z,by rw[HT.O];exact T.O,Q.O,S.O⟩
   case measure=>simp[bS];omega
  ·have U:j=q.length:=z;subst U;rw[kb]at R;rw[cT]at own;obtain⟨A,c,rfl⟩:=bA own;obtain⟨first,jt,n4,n5,n6,n7,M,l,s,G,hR⟩:=R.ex;have d2:g≠pl:=aK.jf l s aR;have c7:=l.cell 7;have f7:=l.frozen 7;simp at c7;obtain⟨D,P,HB,HP,HS⟩:=gY own u l s G;clear own u l s G hR R;go_wp2_with fail;go_ret;have BB:=HB.O.bC 7 (J V (dB (n7+q.length)));refine⟨_,rfl,du D.O (cS.setCell (F:=One g) (p:=⟨g,7,I⟩) (cS.refl _ _) (aJ rfl) _) (λi r e=>by have:=(D.O.lt i r).1;rw[show i=g from e]at this;omega),⟨⟨first,jt,n4,n5,n6,dB (n7+q.length),M,by simpa using BB,HP.O.dS (p:=⟨g,7,I⟩) (λe=>d2 e.symm) _,HS.O,λi x k=>by simp at k⟩,dt,W.O.one,aT,λx k=>by simp at k⟩,P.O.setCell (p:=⟨g,7,I⟩) (aJ (aJ rfl)) _⟩
abbrev oh:Value:=(ae I 0 0:Value)
def Hb(w:aw):(zeroValue 38).run af w=.ok oh w:=cC
abbrev ko:=RingM 195 38 1
def Kh:∀v∈oh.cells.toList,v.oneCell'=true:=by
 intro u hu;simp[gW]at hu;subst hu;rfl
def Hc:oh.cells.size=1:=rfl
def BI(g pl cap:Nat)(q:List (List Value))(w:aw)(h:ko w g pl cap q):aF af 73 #[aq (Z ⟨g,0,I⟩)] w λe w'=>e=av (J V q.length)/\w'=w:=by
 obtain⟨first,jt,n4,n5,n6,n7,b,a,c,d,hR⟩:=h.ex;have c2:=a.cell 2;simp at c2;clear hR h;go_enter func73,ntmps73;go_wp2_with fail;go_ret;exact⟨rfl,rfl⟩
def zX(g pl cap:Nat)(q:List (List Value))(w:aw)(h:ko w g pl cap q):aF af 130 #[aq (Z ⟨g,0,I⟩)] w λe w'=>e=av (ai (decide (q.length=cap)))/\w'=w.drew:=by
 obtain⟨first,jt,n4,n5,n6,n7,j,c,k,l,hR⟩:=h.ex;have c2:=c.cell 2;have f:=c.cell 0;simp at c2 f;clear hR h;by_cases d:q.length=cap
 ·have a:decide (q.length=cap)=true:=by simp[d]
  have b:=au a;clear a;have i:((q.length:Int)==(cap:Int))=true:=dZ;go_enter func130,ntmps130;go_wp2_with fail;go_region;go_wp2_with fail;go_ret;exact⟨by rw[b.O];try rfl,rfl⟩
 ·have a:decide (q.length=cap)=false:=by simp[d]
  have b:=au a;clear a;have i:((q.length:Int)==(cap:Int))=false:=dZ;go_enter func130,ntmps130;go_wp2_with fail;go_region;go_wp2_with fail;go_ret;exact⟨by rw[b.O];try rfl,rfl⟩
def vK(g pl cap:Nat)(v:Value)(q:List (List Value))(w:aw)(h:ko w g pl cap ([v]::q)) :
  aF af 131 #[aq (Z ⟨g,0,I⟩)] w λe w'=>e=av v/\ko w' g pl cap q/\cS (jK g pl) w w':=by
 obtain⟨first,jt,n4,n5,n6,n7,y,d,l,A,hR⟩:=h.ex;have le:=h.le;have one:=h.one;have aT:=h.aT;have B:=au h.wf;simp only[ft]at le;have m:=hR 0 [v] rfl;rw[iw,fZ y]at m;have G:jt[first]? = Z v:=by have:=m 0 z;simpa using this
 have p1:=(l.cell first).trans G;have M:=d.cell 0;have c1:=d.cell 1;have f0:=d.frozen 0;have f1:=d.frozen 1;simp at M c1;have n:=d.drew;have b:=l.drew;have w1:V.wrap ((first:Int)+1)=(first:Int)+1:=cz _ ⟨z,z⟩;have W:(first:Int)+1<=cap:=z;have X:0<=(first:Int)+1:=z;have Y:¬cap=first:=z
 have C:=ll (k:=1) y;have o:first+oh.cells.size<=jt.size:=by rw[Hc];omega
 have f:=hR.take y z A (zs:=oh.cells.toList) rfl;have r:(de jt first oh.cells.toList).size=cap*1:=by rw[gU (by simpa using o),A]
 rw[Nat.mul_one]at f;obtain⟨a,j⟩:=dH ((first+1) % cap);have N:((first:Int)+1) % (cap:Int)=(a:Int):=by rw[j];simp
 have s:a<cap:=by rw[j];exact kp _ z
 rw[<-j]at f;obtain⟨P,HS,Q⟩:=bU f r h;clear hR f A r j h m G C;go_enter func131,ntmps131;go_wp2_with fail;go_region;go_wp2_with fail;have H:∀ty,(Builtin.clear_ #[191] ty #[ae (Z ⟨pl,first,I⟩) 1 (cap-first)]).run af w.drew.drew=.ok (aB #[]) (w.drew.drew.setRow pl (de jt first oh.cells.toList)):=λty=>nf _ 191 38 ty oh underlying191 Hb pl first (cap-first) 38 jt (by first|exact b.drew|exact b) o Kh
 go_region;refine gN (λw2=>aK w2 pl 38 (de jt first oh.cells.toList)/\aK w2 g 195 _/\cS (jK g pl) w w2) ⟨by first|exact gm b.drew|exact gm b|exact(gm b).drew,by first|exact eB n.drew b.drew (aK.jf d l aR)|exact eB n b (aK.jf d l aR)|exact(eB n b (aK.jf d l aR)).drew,by first|exact((cS.refl _ w).drewN 2).step (fW _ _ _) (λi t=>aJ (aZ t))|exact((cS.refl _ w).drewN 1).step (fW _ _ _) (λi t=>aJ (aZ t))|exact(((cS.refl _ w).drewN 1).step (fW _ _ _) (λi t=>aJ (aZ t))).drew⟩ ?_;rintro w2 ⟨u,c,u3⟩;have R:=c.cell 0;have S:=c.cell 1;have T:=c.cell 2;have f0:=c.frozen 0;have f1:=c.frozen 1;have f2:=c.frozen 2;simp at R S T;all_goals
  have K:=((c.bC 1 (J V a)).bC 2 (J V q.length)).drew;have L:=((u.dS (p:=⟨g,1,I⟩) (λe=>aK.jf d l aR e.symm) (J V a)).dS (p:=⟨g,2,I⟩) (λe=>aK.jf d l aR e.symm) (J V q.length)).drew;have u5:=((u3.setCell (p:=⟨g,1,I⟩) (aJ (aJ rfl)) (J V a)).setCell (p:=⟨g,2,I⟩) (aJ (aJ rfl)) (J V q.length)).drew;obtain⟨D,E,F⟩:=bU K L u5;clear K L u5 u u3 c;go_wp2_with fail;go_region;go_wp2_with fail;go_ret;refine⟨rfl,⟨⟨a,_,n4,n5,n6,n7,s,?_,E.O,HS.O,P.O⟩,z,one,aT,λx U=>B.O x (by simp[U])⟩,F.O⟩;simpa using D.O
def zW:(af.info? 38).map (λi=>(i.zero,i.size,i.bytes))=Z (Z oh,1,24):=cC
def BH(cap:Nat)(w:aw)(h1:1<=cap)(h8:cap<=8):aF af 30 #[J V cap] w λe w'=>∃g pl,e=av (aB #[aq (Z ⟨g,0,I⟩),J V 0])/\ko w' g pl cap []/\cS cr w w'/\w.heap.size<=g/\w.heap.size<=pl:=by
 obtain⟨i0,q,b,c,d⟩:=cY zW;obtain⟨s,h,k,l⟩:=cA q b c d;clear q b c d;have C:¬(cap:Int)<1:=z;have D:¬(8:Int)<cap:=z;go_enter func30,ntmps30;go_wp2_with (at_make;go_loud (refine mW _ rfl _ _ 191 rfl w.heap.size 38 i0 oh 1 underlying191 s.O h.O k.O _ _ _ _ cap rfl rfl rfl rfl ?b2 ?b3 ?b4 ?_));case b2=>rw[l.O];omega
 case b3=>unfold maxLen;omega
 intro w1 rO g1;have t:∃cs,aK w1 w.heap.size 38 cs/\cs.size=cap*1:=by
  rcases rO.2 with⟨e,_⟩ | ⟨g,E,dx,e,_,hh,_,_,u,_⟩
  ·cases e
  ·simp only[Value.slice.injEq,bf,Addr.mk.injEq]at e;obtain⟨⟨rfl,_⟩,_,rfl⟩:=e;exact⟨dx,hh,z⟩
 have m:aC w w1:=(Below.refl _ w).grown g1 (aj _) (λj y=>by cases y);clear rO g1;obtain⟨n,a,f⟩:=t;have r:=m.size;have lt:=a.lt;obtain⟨F,HS,A,B,o⟩:=gY lt f a m r;clear lt f a m r;go_wp2_with fail;refine ax (v:=aB #[aq (Z ⟨w1.heap.size,0,I⟩),J V 0]) (by simp[aV,results30,go_sem]) rfl ?_;refine⟨_,w.heap.size,rfl,⟨⟨0,n,0,0,0,0,z,aK.new w1 195 _,A.O.alloc _,HS.O,λi x p=>by simp at p⟩,dt,h1,h8,λx p=>by simp at p⟩,(cS.bn B.O).alloc _,o.O,aj _⟩
def AF(m:Int)(w:aw)(h:m<1\/8<m):aF af 30 #[J V m] w λe w'=>e=av (aB #[aq I,J V 1])/\w'=w:=by
 by_cases h1:m<1
 ·clear h;go_enter func30,ntmps30;go_wp2_with fail;refine ax (v:=aB #[aq I,J V 1]) (by simp[aV,results30,go_sem]) rfl ⟨rfl,rfl⟩
 ·have h2:8<m:=z;clear h;go_enter func30,ntmps30;go_wp2_with fail;refine ax (v:=aB #[aq I,J V 1]) (by simp[aV,results30,go_sem]) rfl ⟨rfl,rfl⟩
def He{w:aw}{g pl cap:Nat}{q:List (List Value)}(h:ko w g pl cap q):∃n5:Int,w.cell? ⟨g,5,I⟩=Z (J V n5)/\∀v,ko (w.setCell ⟨g,5,I⟩ (J V v)) g pl cap q:=by
 obtain⟨first,jt,n4,n5,n6,n7,c,a,b,d,hR⟩:=h.ex;refine⟨n5,by rw[a.cell];rfl,λv=>⟨⟨first,jt,n4,v,n6,n7,c,?_,b.dS (p:=⟨g,5,I⟩) (λe=>aK.jf a b aR e.symm) _,d,hR⟩,h.le,h.one,h.aT,h.wf⟩⟩;have B:=a.bC 5 (J V v);simpa using B
def Kg(g pl cap:Nat)(ov:Value)(q:List (List Value))(w:aw)(h:ko w g pl cap ([ov]::q)) :
  aF af 120 #[aq (Z ⟨g,0,I⟩)] w λe w'=>e=av (aB #[ov,ai true])/\ko w' g pl cap q/\cS (jK g pl) w w':=by
 obtain⟨first,jt,m4,m5,m6,m7,f,a,i,j,hR⟩:=h.ex;clear f j hR i;have c2:=a.cell 2;have f5:=a.frozen 5;simp at c2;have l:((q.length:Int)+1==0)=false:=dZ;have m:¬((q.length:Int)+1=0):=z;obtain⟨n5,c5,up⟩:=He h;have d:=up (dB (n5+1));have u2:=(cS.refl (jK g pl) w).setCell (p:=⟨g,5,I⟩) (aJ (aJ rfl)) (J V (dB (n5+1)));obtain⟨b,c⟩:=bu u2 d;clear up u2 d a;go_enter func120,ntmps120;go_wp2_with (refine(vK g pl cap ov q _ c.O).mono ?_;rintro e w3 ⟨rfl,k,u3⟩);refine ax (v:=aB #[ov,ai true]) (by simp[aV,results120,go_sem]) rfl ⟨rfl,k,b.O.trans u3⟩
def Hf(x:List Value):Prop:=∃  (c:Option Addr) (a b:Nat),x=[ae c a b]
def ES(g pl cap:Nat)(q:List (List Value))(w:aw)(h:ko w g pl cap q)(s:∀x∈q,Hf x) :
  aF af 116 #[aq (Z ⟨g,0,I⟩)] w λe w'=>∃v,e=av v/\w'.ownsRow w.heap.size 38 1 v q.length q.flatten/\ko w' g pl cap []/\cS (jK g pl) w w':=by
 obtain⟨i0,o,t,y,B⟩:=cY zW;obtain⟨HI,G,H,K⟩:=cA o t y B;clear o t y B;obtain⟨first,jt,m4,m5,m6,m7,L,k,r,E,hR⟩:=h.ex;have lB:=k.lt;have lP:=r.lt;have le:=h.le;have aT:=h.aT;have c2:=k.cell 2;simp at c2;obtain⟨M,U⟩:=bu s h;clear L E hR k r s h;have u0:=cS.refl (jK g pl) w;have l:w.ownsRow w.heap.size 38 1 (ae I 0 0) 0 []:=⟨dt,aJ ⟨rfl,rfl⟩⟩;go_enter func116,ntmps116;go_wp2_with fail;clear c2;go_loopw [3,8] (λv i wr=>∃j:Nat,i=J V j/\j<=q.length/\wr.ownsRow w.heap.size 38 1 v j (q.take j).flatten/\ko wr g pl cap (q.drop j)/\cS (jK g pl) w wr) (λv i _=>q.length-(bS i).toNat);case atStart=>exact⟨0,rfl,z,l,U.O,u0⟩
 case round =>
  clear l u0;obtain⟨j,rfl,hj,own,R,u⟩:=hrel;have su:=u.size;by_cases n:j<q.length
  ·obtain⟨x,f⟩:∃x,q[j]? = Z x:=⟨_,ay n⟩;have W:q.drop j=x::q.drop (j+1):=by
    rw[iz n];rw[ay n]at f;simp only[bf]at f;rw[f]
   have ht:(q.take (j+1)).flatten=(q.take j).flatten++x:=by rw[ee,f];simp
   obtain⟨d,a,b,rfl⟩:=M.O x (fb f);rw[W]at R;obtain⟨A,c,rfl⟩:=bA own;have HT:=au ht;have C:=au own;have N:=au u;have HR:=au R;clear ht W f own u R;have aI:((j:Int)<(q.length:Int)):=z;go_wp2_with (first
    |(refine(vK g pl cap (ae d a b) (q.drop (j+1)) wr HR.O).mono ?_;rintro e w3 ⟨rfl,X,u3⟩;have D:=du C.O u3 (λi o q=>by have:=(C.O.lt i o).1;rcases q with q|q<;>omega))
    |(at_builtin;go_loud (refine dM _ rfl _ _ 191 rfl w.heap.size 38 i0 oh 1 24 underlying191 HI.O G.O H.O K.O rfl aR _ _ _ rfl (D.alloc _) ⟨w3.heap.size,0,I⟩ 1 1 [ae d a b] rfl rfl ?c1 ?c2 ?c3 ?c4 ?c5 ?_)))
   case c1=>exact fB w3 38 #[ae d a b]
   case c2=>exact by intro u hu;simp at hu;repeat (first|(subst hu;rfl)|(rcases hu with rfl|hu;rfl))
   case c3=>unfold maxLen;omega
   case c4=>omega
   case c5=>have:=u3.size;simp;omega
   intro v5 w5 m g5 _;have u5:=eT g5;have Y:=(X.alloc (.cells #[ae d a b] 38)).dW u5 (λq=>by have:=((D.alloc (.cells #[ae d a b] 38)).lt g q).1;omega) (λq=>by have:=((D.alloc (.cells #[ae d a b] 38)).lt pl q).1;omega);have uu:=((N.O.trans u3).alloc (.cells #[ae d a b] 38)).step u5 (λi q=>aZ ((D.alloc (.cells #[ae d a b] 38)).lt i q).1);obtain⟨P,Q,S⟩:=bU Y uu m;clear Y uu m g5 u5 X u3 D;go_wp2_with fail;go_roundw;case rel=>exact⟨j+1,by go_num,z,by rw[HT.O];exact S.O,P.O,Q.O⟩
   case measure=>simp[bS];omega
  ·have T:j=q.length:=z;subst T;rw[kb]at R;rw[cT]at own;obtain⟨A,c,rfl⟩:=bA own;obtain⟨first,jt,n4,n5,n6,n7,L,k,r,E,hR⟩:=R.ex;have d2:g≠pl:=aK.jf k r aR;have c7:=k.cell 7;have f7:=k.frozen 7;simp at c7;obtain⟨C,N,HB,HP,HS⟩:=gY own u k r E;clear own u k r E hR R;go_wp2_with fail;go_ret;have BB:=HB.O.bC 7 (J V (dB (n7+q.length)));refine⟨_,rfl,du C.O (cS.setCell (F:=One g) (p:=⟨g,7,I⟩) (cS.refl _ _) (aJ rfl) _) (λi o e=>by have:=(C.O.lt i o).1;rw[show i=g from e]at this;omega),⟨⟨first,jt,n4,n5,n6,dB (n7+q.length),L,by simpa using BB,HP.O.dS (p:=⟨g,7,I⟩) (λe=>d2 e.symm) _,HS.O,λi x f=>by simp at f⟩,dt,U.O.one,aT,λx f=>by simp at f⟩,N.O.setCell (p:=⟨g,7,I⟩) (aJ (aJ rfl)) _⟩
def Av(g pl cap:Nat)(a0:Int)(o:Option Addr)(a b:Nat)(q:List (List Value))(w:aw)(h:nU w g pl cap q)(hq:q.length<cap) :
  aF af 194 #[aq (Z ⟨g,0,I⟩),(cg #[J V a0,ae o a b])] w λe w'=>e=av (aB #[vh,ai false,J V 0])/\nU w' g pl cap (q++[[J V a0,ae o a b]])/\cS (jK g pl) w w':=by
 obtain⟨first,jt,n4,n5,n6,n7,hf,P,Q,T,hR⟩:=h.ex;have le:=h.le;have one:=h.one;have aT:=h.aT;have E:=h.wf;have n:decide (q.length=cap)=false:=dZ;have F:=au n;clear n;have w1:V.wrap ((first:Int)+(q.length:Int))=(first:Int)+(q.length:Int):=cz _ ⟨z,z⟩;have w2:V.wrap ((q.length:Int)+1)=(q.length:Int)+1:=cz _ ⟨z,z⟩;obtain⟨p,hp⟩:=dH ((first+q.length) % cap);have mK:((first:Int)+(q.length:Int)) % (cap:Int)=(p:Int):=by rw[hp];simp
 have U:p<cap:=by rw[hp];exact kp _ z
 have gX:(p:Int)<(cap:Int):=z;have aI:=ll (k:=2) U;have r:=hR.push (x:=[J V a0,ae o a b]) hf hq T rfl;rw[<-hp]at r;have G:∀x∈q++[([J V a0,ae o a b]:List Value)],x.length=2/\∀u∈x,u.oneCell'=true:=by
  intro x D;rcases bt.1 D with D|D
  ·exact E x D
  ·simp at D;subst D;exact⟨rfl,by intro u hu;simp at hu;repeat (first|(subst hu;rfl)|(rcases hu with rfl|hu;rfl))⟩
 have H:p*2+2<=jt.size:=z;obtain⟨df,HS,HR,m⟩:=cA G T r H;clear G T hR r hp aI H E;have FF:∀i,cr i->jK g pl i:=λi q=>q.elim;go_enter func194,ntmps194;go_upto_region 2 with fail;obtain⟨r3,s⟩:=dH w.heap.size;obtain⟨r4,t⟩:=dH (w.heap.size+1);obtain⟨r7,y⟩:=dH (w.heap.size+1+1);rw[<-y,<-t,<-s];refine aW (λW=>aK W r3 80 #[J V a0,ae o a b]/\aK W r4 80 #[J V 0,ae I 0 0]/\aK W r7 80 #[J V 0,ae I 0 0]/\nU W g pl cap q/\aK W g 314 _/\aK W pl 80 jt/\cS cr w W)
  ⟨((aK.newAt _ _ _ _ s).alloc _).alloc _,(aK.newAt _ _ _ _ (by rw[t];simp)).alloc _,aK.newAt _ _ _ _ (by rw[y];simp),((h.alloc _).alloc _).alloc _,((P.alloc _).alloc _).alloc _,((Q.alloc _).alloc _).alloc _,(((cS.refl _ w).alloc _).alloc _).alloc _⟩ ?_
 rintro W ⟨b3,b4,b7,R1,A,K,u1⟩;have lB:=P.lt;have lP:=Q.lt;have d1:r3≠pl/\r4≠pl/\r7≠pl/\r3≠g/\r4≠g/\r7≠g/\w.heap.size<=r4:=z;have d2:g≠pl:=aK.jf P Q aR;have HD:=au d1;clear s t y d1 lB lP h P Q;have c3:=A.cell 3;simp at c3;go_upto_region 8 with(refine(DR g pl cap q W R1).mono ?_;rintro e w2 ⟨rfl,hv⟩;rw[F.O];subst hv)
 obtain⟨d,c,H3,R,S,HU⟩:=lH A.drew K.drew b3.drew b4.drew b7.drew u1.drew;clear R1 A K b3 b4 b7 u1 c3;generalize W.drew=X at d c H3 R S HU ⊢;have c0:=d.O.cell 0;have c1:=d.O.cell 1;have c2:=d.O.cell 2;have f0:=c.O.frozen (p*2);have f1:=c.O.frozen (p*2+1);obtain⟨v0,v1,e0,e1⟩:∃v0 v1,X.cell? ⟨pl,p*2,I⟩=Z v0/\X.cell? ⟨pl,p*2+1,I⟩=Z v1:=⟨_,_,(c.O.cell _).trans (aE (lE m.O)),(c.O.cell _).trans (aE (lE m.O))⟩;have t0:=H3.O.cell 0;have t1:=H3.O.cell 1;simp at c0 c1 c2 t0 t1;go_region;have f:=HD.O;refine gN (λY=>aK Y g 314 _/\aK Y pl 80 (de jt (p*2) [J V a0,ae o a b])/\aK Y r4 80 _/\aK Y r7 80 _/\cS (jK g pl) w Y)
  ⟨((d.O.dS d2 _).dS d2 _).drew,by rw[<-mx m.O];exact((c.O.bC _ _).bC _ _).drew,((R.O.dS f.2.1 _).dS f.2.1 _).drew,((S.O.dS f.2.2.1 _).dS f.2.2.1 _).drew,(((HU.O.mono λi _ q=>(FF i q)).setCell (aJ (aZ rfl)) _).setCell (aJ (aZ rfl)) _).drew⟩ ?_
 rintro Y ⟨l,L,M,N,uY⟩;have c2:=l.cell 2;have c4:=l.cell 4;have f2:=l.frozen 2;have f4:=l.frozen 4;simp at c2 c4;have hY:nU ((Y.setCell ⟨g,2,I⟩ (J V ((q.length:Int)+1))).setCell ⟨g,4,I⟩ (J V (dB (n4+1)))) g pl cap (q++[[J V a0,ae o a b]]):=by
  refine⟨⟨first,_,dB (n4+1),n5,n6,n7,hf,?_,(L.dS (p:=⟨g,2,I⟩) (λe=>d2 e.symm) _).dS (p:=⟨g,4,I⟩) (λe=>d2 e.symm) _,by rw[gU (by simpa using m.O)];exact HS.O,HR.O⟩,dZ,one,aT,df.O⟩;have B:=(l.bC 2 (J V ((q.length:Int)+1))).bC 4 (J V (dB (n4+1)));simpa using B
 have uZ:=(uY.setCell (p:=⟨g,2,I⟩) (aJ (aJ rfl)) (J V ((q.length:Int)+1))).setCell (p:=⟨g,4,I⟩) (aJ (aJ rfl)) (J V (dB (n4+1)));have z4:=(M.dS (p:=⟨g,2,I⟩) f.2.2.2.2.1 (J V ((q.length:Int)+1))).dS (p:=⟨g,4,I⟩) f.2.2.2.2.1 (J V (dB (n4+1)));have z7:=(N.dS (p:=⟨g,2,I⟩) f.2.2.2.2.2.1 (J V ((q.length:Int)+1))).dS (p:=⟨g,4,I⟩) f.2.2.2.2.2.1 (J V (dB (n4+1)));have HY:=au hY;have HZ:=au uZ;have R:=au z4;have S:=au z7;clear hY uZ z4 z7 l L M N uY f d c HU;go_wp2_with (first
  |(refine lI _ rfl (.tmp 7) 80 rfl r7 0 80 _ rfl #[J V 0,ae none 0 0] _ underlying80 uC S.O (λj _=>by rw[cO]) ?_)
  |(refine jb _ rfl (.tmp 4) (.tmp 65) 80 rfl r4 0 80 _ rfl #[J V 0,ae I 0 0] rfl uC R.O (aj _) tk ?_;intro w6 C v6))
 have f:=HD.O;have eI:de #[J V 0,ae I 0 0] 0 (#[J V 0,ae I 0 0]:Array Value).toList=#[J V 0,ae I 0 0]:=rfl;rw[eI]at C;have x0:=C.cell 0;have x1:=C.cell 1;simp at x0 x1;have h6:=HY.O.dW v6 (λe=>f.2.2.2.2.1 e.symm) (λe=>f.2.1 e.symm);have u6:=HZ.O.step v6 (λi hi=>aZ (by rw[show i=r4 from hi];exact f.2.2.2.2.2.2));refine ax (v:=aB #[vh,ai false,J V 0]) (by simp[aV,results194,go_sem,x0,x1]) rfl ⟨rfl,h6,u6⟩
def Aw(g pl cap:Nat)(a0:Int)(C:Option Addr)(l m:Nat)(c:Int)(d:Option Addr)(a b:Nat)(q:List (List Value))(w:aw)(h:nU w g pl cap ([J V c,ae d a b]::q))(hl:q.length+1=cap) :
  aF af 194 #[aq (Z ⟨g,0,I⟩),(cg #[J V a0,ae C l m])] w λe w'=>e=av (aB #[(cg #[J V c,ae d a b]),ai true,J V 0])/\nU w' g pl cap (q++[[J V a0,ae C l m]])/\cS (jK g pl) w w':=by
 obtain⟨mK,SN,m4,m5,m6,m7,SG,t,D,SH,SI⟩:=h.ex;have A:decide ((([J V c,ae d a b]:List Value)::q).length=cap)=true:=dZ;have Q:=au A;clear A SH SI SG;go_enter func194,ntmps194;go_upto_region 2 with fail;obtain⟨r3,E⟩:=dH w.heap.size;obtain⟨r4,F⟩:=dH (w.heap.size+1);obtain⟨r7,H⟩:=dH (w.heap.size+1+1);rw[<-H,<-F,<-E];refine aW (λW=>aK W r3 80 #[J V a0,ae C l m]/\aK W r4 80 #[J V 0,ae I 0 0]/\aK W r7 80 #[J V 0,ae I 0 0]/\nU W g pl cap ([J V c,ae d a b]::q)/\aK W g 314 _/\cS cr w W)
  ⟨((aK.newAt _ _ _ _ E).alloc _).alloc _,(aK.newAt _ _ _ _ (by rw[F];simp)).alloc _,aK.newAt _ _ _ _ (by rw[H];simp),((h.alloc _).alloc _).alloc _,((t.alloc _).alloc _).alloc _,(((cS.refl _ w).alloc _).alloc _).alloc _⟩ ?_
 rintro W ⟨b3,b4,b7,R1,R,u1⟩;have lB:=t.lt;have lP:=D.lt;have d1:r3≠pl/\r4≠pl/\r7≠pl/\r3≠g/\r4≠g/\r7≠g/\w.heap.size<=r4:=z;have d3:r3≠r7/\r4≠r7/\w.heap.size<=r7:=z;have d2:g≠pl:=aK.jf t D aR;have s:=au d1;have K:=au d3;clear E F H d1 d3 lB lP h t D;have c3:=R.cell 3;simp at c3;go_wp2_with (first
  |(refine(DR g pl cap _ W R1).mono ?_;rintro e w2 ⟨rfl,hv⟩;rw[Q.O];subst hv)
  |(refine(zv g pl cap c d a b q W.drew R1.drew).mono ?_;rintro e w3 ⟨rfl,R3,u3⟩;have S:=b7.drew.dW u3 (λq=>by rcases q with q|q;exact s.O.2.2.2.2.2.1 q;exact s.O.2.2.1 q))
  |(refine jb _ rfl (.tmp 7) (.tmp 18) 80 rfl r7 0 80 #[J V 0,ae none 0 0] rfl #[J V c,ae d a b] rfl uC S (aj _) tk ?_;intro w4 b8 v4;have N:=R3.dW v4 (λe=>s.O.2.2.2.2.2.1 e.symm) (λe=>s.O.2.2.1 e.symm);obtain⟨first,jt,n4,n5,n6,n7,hf,hB,hP,hs,hR⟩:=N.ex;have c6:=hB.cell 6;have f6:=hB.frozen 6;simp at c6))
 have k3:=(b3.drew.dW u3 (λq=>by rcases q with q|q;exact s.O.2.2.2.1 q;exact s.O.1 q)).dW v4 K.O.1;have k4:=(b4.drew.dW u3 (λq=>by rcases q with q|q;exact s.O.2.2.2.2.1 q;exact s.O.2.1 q)).dW v4 K.O.2.1;have k7:aK w4 r7 80 #[J V c,ae d a b]:=b8;have uu:=((u1.drew.mono (G:=jK g pl) λi _ q=>q.elim).trans u3).step v4 (λi hi=>aZ (by rw[show i=r7 from hi];exact K.O.2.2));clear b8 S b3 b4 b7 u1 R1 R3 u3 v4 R c3;have le:=N.le;have one:=N.one;have aT:=N.aT;have T:=N.wf;have hq:q.length<cap:=z;have w1:V.wrap ((first:Int)+(q.length:Int))=(first:Int)+(q.length:Int):=cz _ ⟨z,z⟩;have w2:V.wrap ((q.length:Int)+1)=(q.length:Int)+1:=cz _ ⟨z,z⟩;obtain⟨p,hp⟩:=dH ((first+q.length) % cap);have SP:((first:Int)+(q.length:Int)) % (cap:Int)=(p:Int):=by rw[hp];simp
 have SJ:p<cap:=by rw[hp];exact kp _ z
 have SO:(p:Int)<(cap:Int):=z;have SK:=ll (k:=2) SJ;have L:=hR.push (x:=[J V a0,ae C l m]) hf hq hs rfl;rw[<-hp]at L;have U:∀x∈q++[([J V a0,ae C l m]:List Value)],x.length=2/\∀u∈x,u.oneCell'=true:=by
  intro x P;rcases bt.1 P with P|P
  ·exact T x P
  ·simp at P;subst P;exact⟨rfl,by intro u hu;simp at hu;repeat (first|(subst hu;rfl)|(rcases hu with rfl|hu;rfl))⟩
 have aI:p*2+2<=jt.size:=z;obtain⟨SL,HS,HR,y⟩:=cA U hs L aI;clear U hs hR L hp SK aI T;have FF:∀i,jK g pl i->jK g pl i:=λi q=>q;have f:=s.O;obtain⟨o,n,H3,H4,H7,HU⟩:=lH (show aK (w4.setCell ⟨g,6,I⟩ (J V (dB (n6+1)))) g 314 #[ae (Z ⟨pl,0,I⟩) cap cap,J V first,J V q.length,ai false,J V n4,J V n5,J V (dB (n6+1)),J V n7] from by have B:=hB.bC 6 (J V (dB (n6+1)));simpa using B) (hP.dS (p:=⟨g,6,I⟩) (λe=>d2 e.symm) (J V (dB (n6+1)))) (k3.dS (p:=⟨g,6,I⟩) f.2.2.2.1 (J V (dB (n6+1)))) (k4.dS (p:=⟨g,6,I⟩) f.2.2.2.2.1 (J V (dB (n6+1)))) (k7.dS (p:=⟨g,6,I⟩) f.2.2.2.2.2.1 (J V (dB (n6+1)))) (uu.setCell (p:=⟨g,6,I⟩) (aJ (aJ rfl)) (J V (dB (n6+1))));clear hB hP k3 k4 k7 uu N f c6 f6;generalize w4.setCell ⟨g,6,I⟩ (J V (dB (n6+1)))=X at o n H3 H4 H7 HU ⊢;have c0:=o.O.cell 0;have c1:=o.O.cell 1;have c2:=o.O.cell 2;have f0:=n.O.frozen (p*2);have f1:=n.O.frozen (p*2+1);obtain⟨v0,v1,e0,e1⟩:∃v0 v1,X.cell? ⟨pl,p*2,I⟩=Z v0/\X.cell? ⟨pl,p*2+1,I⟩=Z v1:=⟨_,_,(n.O.cell _).trans (aE (lE y.O)),(n.O.cell _).trans (aE (lE y.O))⟩;have t0:=H3.O.cell 0;have t1:=H3.O.cell 1;simp at c0 c1 c2 t0 t1;go_region;have f:=s.O;refine gN (λY=>aK Y g 314 _/\aK Y pl 80 (de jt (p*2) [J V a0,ae C l m])/\aK Y r4 80 _/\aK Y r7 80 _/\cS (jK g pl) w Y)
  ⟨((o.O.dS d2 _).dS d2 _).drew,by rw[<-mx y.O];exact((n.O.bC _ _).bC _ _).drew,((H4.O.dS f.2.1 _).dS f.2.1 _).drew,((H7.O.dS f.2.2.1 _).dS f.2.2.1 _).drew,(((HU.O.mono λi _ q=>(FF i q)).setCell (aJ (aZ rfl)) _).setCell (aJ (aZ rfl)) _).drew⟩ ?_
 rintro Y ⟨r,df,eI,gX,uY⟩;have c2:=r.cell 2;have c4:=r.cell 4;have f2:=r.frozen 2;have f4:=r.frozen 4;simp at c2 c4;have hY:nU ((Y.setCell ⟨g,2,I⟩ (J V ((q.length:Int)+1))).setCell ⟨g,4,I⟩ (J V (dB (n4+1)))) g pl cap (q++[[J V a0,ae C l m]]):=by
  refine⟨⟨first,_,dB (n4+1),n5,(dB (n6+1)),n7,hf,?_,(df.dS (p:=⟨g,2,I⟩) (λe=>d2 e.symm) _).dS (p:=⟨g,4,I⟩) (λe=>d2 e.symm) _,by rw[gU (by simpa using y.O)];exact HS.O,HR.O⟩,dZ,one,aT,SL.O⟩;have B:=(r.bC 2 (J V ((q.length:Int)+1))).bC 4 (J V (dB (n4+1)));simpa using B
 have uZ:=(uY.setCell (p:=⟨g,2,I⟩) (aJ (aJ rfl)) (J V ((q.length:Int)+1))).setCell (p:=⟨g,4,I⟩) (aJ (aJ rfl)) (J V (dB (n4+1)));have z4:=(eI.dS (p:=⟨g,2,I⟩) f.2.2.2.2.1 (J V ((q.length:Int)+1))).dS (p:=⟨g,4,I⟩) f.2.2.2.2.1 (J V (dB (n4+1)));have z7:=(gX.dS (p:=⟨g,2,I⟩) f.2.2.2.2.2.1 (J V ((q.length:Int)+1))).dS (p:=⟨g,4,I⟩) f.2.2.2.2.2.1 (J V (dB (n4+1)));have HY:=au hY;have HZ:=au uZ;have H4:=au z4;have H7:=au z7;clear hY uZ z4 z7 r df eI gX uY f o n HU;go_wp2_with (first
  |(refine lI _ rfl (.tmp 7) 80 rfl r7 0 80 _ rfl #[J V c,ae d a b] _ underlying80 uC H7.O (λj _=>by rw[cO]) ?_)
  |(refine jb _ rfl (.tmp 4) (.tmp 65) 80 rfl r4 0 80 _ rfl #[J V c,ae d a b] rfl uC H4.O (aj _) tk ?_;intro w6 M v6))
 have f:=s.O;have SM:de #[J V 0,ae I 0 0] 0 (#[J V c,ae d a b]:Array Value).toList=#[J V c,ae d a b]:=rfl;rw[SM]at M;have x0:=M.cell 0;have x1:=M.cell 1;simp at x0 x1;have h6:=HY.O.dW v6 (λe=>f.2.2.2.2.1 e.symm) (λe=>f.2.1 e.symm);have u6:=HZ.O.step v6 (λi hi=>aZ (by rw[show i=r4 from hi];exact f.2.2.2.2.2.2));refine ax (v:=aB #[(cg #[J V c,ae d a b]),ai true,J V 0]) (by simp[aV,results194,go_sem,x0,x1]) rfl ⟨rfl,h6,u6⟩
end Go.Proofs.YtkfblammcilfhaaGreatDoor
open Go.Proofs.YtkfblammcilfhaaGreatDoor
namespace Go.Proofs.YtkfblammcilfhaaGreatDoor.Fair
open Go.ChangeShapes Go.WideShapes Go.ChangeAt Go.RowKit Go.Proofs.YtkfblammcilfhaaGreatDoor
abbrev Wk:=Int×Int
def QL(n:Int):Prop:=(Lit.int V n).wf=true
def okW(x:Wk):Prop:=QL x.1/\QL x.2
def rP(w:aw)(B:Nat)(A:Option Addr)(n:Nat)(l:List Wk):Prop:=
 l.length=n/\(∀x∈l,okW x)/\(0<n->∃b off,A=Z ⟨b,off,I⟩/\b<B/\∀i,i<n->w.cell? ⟨b,off+i*2,I⟩=Z (J V (l.getD i (0,0)).1)/\w.cell? ⟨b,off+i*2+1,I⟩=Z (J V (l.getD i (0,0)).2))
def rP.tc{w w':aw}{B B':Nat}{A:Option Addr}{n:Nat}{l:List Wk}(h:rP w B A n l)(c:∀b o,b<B->w'.cell? ⟨b,o,I⟩=w.cell? ⟨b,o,I⟩)(g:B<=B'):rP w' B' A n l:=by
 obtain⟨h1,h2,h3⟩:=h;refine⟨h1,h2,λh0=>?_⟩;obtain⟨b,off,e,d,f⟩:=h3 h0;exact⟨b,off,e,z,λi a=>⟨(c _ _ d).trans (f i a).1,(c _ _ d).trans (f i a).2⟩⟩
def rP.below{w w':aw}{B:Nat}{A:Option Addr}{n:Nat}{l:List Wk}(h:rP w B A n l)(a:Below B w w'):rP w' B A n l:=h.tc (λb o h=>a.cell (p:=⟨b,o,I⟩) h) (aj _)
def rP.mono{w:aw}{B B':Nat}{A:Option Addr}{n:Nat}{l:List Wk}(h:rP w B A n l)(a:B<=B'):rP w B' A n l:=h.tc (λ_ _ _=>rfl) a
def rP.part{w:aw}{B b off n:Nat}{l:List Wk}(h:rP w B (Z ⟨b,off,I⟩) n l)(k m:Nat)(hm:k+m<=n):rP w B (Z ⟨b,off+k*2,I⟩) m ((l.drop k).take m):=by
 obtain⟨h1,h2,h3⟩:=h;refine⟨dZ,λx c=>h2 x (ga (eZ c)),λd=>?_⟩;obtain⟨o,a,he,f,g⟩:=h3 z;simp only[bf,Addr.mk.injEq]at he;obtain⟨rfl,rfl,-⟩:=he;refine⟨b,off+k*2,rfl,f,λi j=>?_⟩;have e:=g (k+i) z;have hg:((l.drop k).take m).getD i (0,0)=l.getD (k+i) (0,0):=by
  rw[bE,bE,List.getElem?_take_of_lt j,List.getElem?_drop]
 rw[hg,show off+k*2+i*2=off+(k+i)*2 from by omega];exact e
def rP.empty{w:aw}{B:Nat}{A:Option Addr}:rP w B A 0 []:=⟨rfl,λx h=>absurd h dt,λh=>absurd h z⟩
def uP{n:Int}(h:-1000000<=n)(a:n<=1000000):QL n:=by
 unfold QL;exact WalkArith.wf_i64 ⟨z,z⟩
def Fp(x:Wk):List Value:=[J V x.1,J V x.2]
def yX:∀L:List Wk,(L.flatMap Fp).length=L.length*2
 |[]=>rfl
 |p::r=>by simp[kO,Fp,yX r];omega
def Ie:∀(L:List Wk) (i:Nat) (a:i<L.length),(L.flatMap Fp)[i*2]? = Z (J V (L[i]).1)/\(L.flatMap Fp)[i*2+1]? = Z (J V (L[i]).2)
 |[],i,a=>absurd a dt
 |p::r,0,_=>by simp[kO,Fp]
 |p::r,i+1,a=>by
  have:=Ie r i (by simpa using a);simp only[kO,Fp,List.cons_append,qd,List.getElem_cons_succ];rw[show (i+1)*2=i*2+1+1 from z,show i*2+1+1+1=i*2+1+1+1 from rfl];exact this
def OT{w:aw}{base:Nat}{e:TypeId}{v:Value}{n:Nat}{L:List Wk}(h:w.ownsRow base e 2 v n (L.flatMap Fp))(a:∀x∈L,okW x):∃A c,v=ae A n c/\n<=c/\c<=maxLen/\rP w w.heap.size A n L:=by
 have b:L.length=n:=by have:=h.1;rw[yX]at this;omega
 rcases h.2 with⟨rfl,rfl⟩ | ⟨g,cap,dx,rfl,h1,h2,h3,h4,h5,h6⟩
 ·exact⟨I,0,rfl,z,ui,b,a,λd=>absurd d z⟩
 ·refine⟨_,cap,rfl,h3,h4,b,a,λ_=>⟨g,0,rfl,(h.lt g rfl).2,λi f=>?_⟩⟩;have c1:=h.cellAt (i*2) z;have c2:=h.cellAt (i*2+1) z;have q:=Ie L i z;have hg:L.getD i (0,0)=L[i]:=by
   rw[bE,ay z];rfl
  rw[hg];exact⟨by rw[cO,c1,q.1],by rw[cO,c2,q.2]⟩
def Tryz.PE:(af.info? 40).map (λi=>(i.zero,i.size,i.bytes))=Z (Z (cg #[J V 0,J V 0]),2,16):=cC
def sk(w:aw)(B:Nat)(A:Option Addr)(n:Nat)(l:List Int):Prop:=
 l.length=n/\(0<n->∃b off,A=Z ⟨b,off,I⟩/\b<B/\∀i,i<n->w.cell? ⟨b,off+i,I⟩=Z (J V (l.getD i 0)))
def sk.tc{w w':aw}{B B':Nat}{A:Option Addr}{n:Nat}{l:List Int}(h:sk w B A n l)(c:∀b o,b<B->w'.cell? ⟨b,o,I⟩=w.cell? ⟨b,o,I⟩)(g:B<=B'):sk w' B' A n l:=by
 obtain⟨h1,h3⟩:=h;refine⟨h1,λh0=>?_⟩;obtain⟨b,off,e,d,f⟩:=h3 h0;exact⟨b,off,e,z,λi a=>(c _ _ d).trans (f i a)⟩
def sk.below{w w':aw}{B:Nat}{A:Option Addr}{n:Nat}{l:List Int}(h:sk w B A n l)(a:Below B w w'):sk w' B A n l:=h.tc (λb o h=>a.cell (p:=⟨b,o,I⟩) h) (aj _)
def sk.mono{w:aw}{B B':Nat}{A:Option Addr}{n:Nat}{l:List Int}(h:sk w B A n l)(a:B<=B'):sk w B' A n l:=h.tc (λ_ _ _=>rfl) a
def It{w:aw}{g base n size:Nat}{e:TypeId}{cs:Array Value}(h:aK w g e cs)(b:base<=g)(a:cs.size=n*size)(hm:n<=maxLen):w.ownsRow base e size (ae (Z ⟨g,0,I⟩) n n) n cs.toList:=
 ⟨by simpa using a,aZ ⟨g,n,cs,rfl,b,h,z,hm,a,by rw[<-a,List.take_of_length_le dt]⟩⟩
def JU(A:Option Addr)(n c:Nat)(l:List Int)(x:Int)(w:aw)(h:sk w w.heap.size A n l)(hm:n<=100000) :
  aF af 246 #[ae A n c,J V x] w λe w'=>(∃r,e=av (J V r)/\decide (0<=r)=decide (x∈l))/\w'=w:=by
 obtain⟨E,s⟩:=h;go_enter func246,ntmps246;go_wp2_with fail;go_loopw [8] (λi wr=>∃k:Nat,i=J V k/\k<=n/\(∀j,j<k->l.getD j 0≠x)/\wr=w) (λi _=>n-(bS i).toNat);case atStart=>exact⟨0,rfl,z,λj m=>absurd m z,rfl⟩
 case round =>
  obtain⟨k,rfl,F,o,rfl⟩:=hrel;by_cases p:k<n
  ·obtain⟨b,off,rfl,G,a⟩:=s z;have u:=a k p;have d:l.getD k 0∈l:=by rw[bE,ay z];exact List.getElem_mem _
   generalize hy:l.getD k 0=y at u d;obtain⟨HS,v,B⟩:=bU o d hy;clear o a s d hy;by_cases f:x=y
   ·subst f;go_wp2_with fail;go_ret;exact⟨⟨k,rfl,by rw[show decide (x∈l)=true from by simpa using v.O];simp⟩,rfl⟩
   ·go_wp2_with fail;go_roundw;case rel =>
     refine⟨k+1,by go_num,z,λj m=>?_,(by first|rfl|trivial)⟩;rcases Nat.lt_or_ge j k with g|g
     ·exact HS.O j g
     ·have:j=k:=z;subst this;rw[B.O];exactλe=>f e.symm
    case measure=>simp[bS];omega
  ·have q:k=n:=z;subst q;have t:decide (x∈l)=false:=by
    simp only[decide_eq_false_iff_not];intro C;obtain⟨j,m,e⟩:=List.getElem_of_mem C;refine o j z ?_;rw[bE,ay m];exact e
   have D:=au t;clear t o;go_wp2_with fail;go_ret;exact⟨⟨-1,rfl,by rw[D.O];rfl⟩,rfl⟩
def CS(A:Option Addr)(n c:Nat)(l:List Int)(x:Int)(w:aw)(h:sk w w.heap.size A n l)(hm:n<=100000) :
  aF af 195 #[ae A n c,J V x] w λe w'=>e=av (ai (decide (x∈l)))/\w'=w:=by
 go_enter func195,ntmps195;go_wp2_with fail;refine(JU _ _ _ l x _ h hm).mono ?_;rintro e w1 ⟨⟨r,rfl,hr⟩,rfl⟩;have a:=au hr;clear hr;go_wp2_with fail;go_ret;exact⟨by rw[<-a.O];rfl,rfl⟩
def three(s:Nat):List Wk:=[(2,(s:Int)),(3,(s:Int)),(4,(s:Int))]
def wl(p:Nat->Bool):Nat->List Wk
 |0=>[(0,0),(1,0)]
 |k+1=>wl p k++if p k then three k else[]
def KR(p:Nat->Bool):∀k,(wl p k).length<=2+3*k/\2<=(wl p k).length
 |0=>by simp[wl]
 |k+1=>by
  have:=KR p k;simp only[wl,List.length_append];split<;>simp[three]<;>omega
def Ov(p:Nat->Bool):∀k,k<=1000->∀x∈wl p k,okW x
 |0,_=>by
  intro x a;simp[wl]at a;rcases a with rfl|rfl<;>exact⟨uP dt dt,uP dt dt⟩
 |k+1,h=>by
  intro x a;simp only[wl,bt]at a;rcases a with a|a
  ·exact Ov p k z x a
  ·split at a
   ·simp[three]at a;rcases a with rfl|rfl|rfl<;>exact⟨uP dt dt,uP (by simp<;>omega) (by simp<;>omega)⟩
   ·simp at a
def yj(bh:List Int)(s:Nat):Bool:=decide ((s:Int)∈bh)
def Dk(A:Option Addr)(n c:Nat)(l:List Int)(w:aw)(h:sk w w.heap.size A n l)(hm:n<=100000) :
  aF af 132 #[ae A n c] w λe w'=>(∃g m y,e=av (ae g m y)/\m<=y/\y<=maxLen/\rP w' w'.heap.size g m (wl (yj l) 6)/\(∀a,g=Z a->w.heap.size<=a.block))/\aC w w':=by
 obtain⟨i0,L,o,p,r⟩:=cY Tryz.PE;obtain⟨U,D,E,F,W⟩:=gY L o p r h;clear L o p r h;go_enter func132,ntmps132;go_wp2_with fail;go_loopw [3,9] (λv i wr=>∃(k:Nat),i=J V k/\k<=6/\wr.ownsRow w.heap.size 40 2 v (wl (yj l) k).length ((wl (yj l) k).flatMap Fp)/\aC w wr) (λ_ i _=>6-(bS i).toNat);case atStart =>
  exact⟨0,rfl,z,It (n:=2) (aK.new w 40 #[J V 0,J V 0,J V 1,J V 0]) (aj _) rfl ui,(Below.refl _ w).alloc (aj _) _⟩
 case round =>
  rename_i wr;obtain⟨k,rfl,hk,own,f⟩:=hrel;have B:=f.size;by_cases X:k<6
  ·go_wp2_with fail;refine(CS _ _ _ l k _ ((W.O.below f).mono B) hm).mono ?_;rintro e w1 ⟨rfl,rfl⟩;have b:wl (yj l) (k+1)=wl (yj l) k++if yj l k then three k else[]:=rfl
   cases C:decide ((k:Int)∈l)
   ·have d:wl (yj l) (k+1)=wl (yj l) k:=by rw[b,show yj l k=false from C];simp
    have HS:=au d;clear d b C;go_wp2_with fail;go_roundw;case rel=>exact⟨k+1,by go_num,z,by rw[HS.O];exact own,f⟩
    case measure=>simp[bS];omega
   ·have d:wl (yj l) (k+1)=wl (yj l) k++three k:=by rw[b,show yj l k=true from C];simp
    have HS:=au d;clear d b C;have Y:=(KR (yj l) k).1;go_wp2_with fail;go_loopw [3,5] (λv i wr=>∃(q:Nat),i=J V (2+q)/\q<=3/\wr.ownsRow w.heap.size 40 2 v (wl (yj l) k++(three k).take q).length ((wl (yj l) k++(three k).take q).flatMap Fp)/\aC w wr) (λ_ i _=>5-(bS i).toNat);case atStart=>exact⟨0,rfl,z,by simpa using own,f⟩
    case round =>
     clear own f B;obtain⟨q,rfl,hq,own,f⟩:=hrel;have B:=f.size;by_cases aI:q<3
     ·have s:(three k).take (q+1)=(three k).take q++[((2+q:Int),(k:Int))]:=by
       rcases q with _|_|_|q<;>first|rfl|omega
      have hlen:(wl (yj l) k++(three k).take q).length<=50:=dZ;have HT:=au s;clear s;have df:(2+(q:Int))<=4:=z;generalize M:wl (yj l) k++(three k).take q=P at own hlen;have HP:=au M;clear M;go_wp2_with (at_builtin;go_loud (refine dM _ rfl _ _ 174 rfl w.heap.size 40 i0 (cg #[J V 0,J V 0]) 2 16 underlying174 U.O D.O E.O F.O rfl aR _ _ _ rfl (own.alloc _) ⟨wr.heap.size,0,I⟩ 1 1 (Fp ((2+q:Int),(k:Int))) rfl rfl ?c1 ?c2 ?c3 ?c4 ?c5 ?_));case c1 =>
       intro j u hu;rcases j with _|_|j
       ·simp[Fp]at hu;subst hu;simp[Addr.add,go_sem]
       ·simp[Fp]at hu;subst hu;simp[Addr.add,go_sem]
       ·simp[Fp]at hu
      case c2=>intro u hu;simp[Fp]at hu;rcases hu with rfl|rfl<;>rfl
      case c3=>unfold maxLen;omega
      case c4=>omega
      case c5=>simp;omega
      intro v5 w5 t g5 _;have G:aC w w5:=(f.alloc B _).grown g5 dZ (λj hj=>by have:=(own.lt j hj).1;omega);have x:w5.ownsRow w.heap.size 40 2 v5 (P++[((2+q:Int),(k:Int))]).length ((P++[((2+q:Int),(k:Int))]).flatMap Fp):=by rw[List.flatMap_append];simpa using t
      go_wp2_with fail;go_roundw;case rel=>exact⟨q+1,by go_num,z,by rw[HT.O,<-List.append_assoc,HP.O];exact x,G⟩
      case measure=>simp[bS];omega
     ·have H:q=3:=z;subst H;rw[show(three k).take 3=three k from rfl,<-HS.O]at own;go_wp2_with fail;go_roundw;case rel=>exact⟨k+1,by go_num,z,own,f⟩
      case measure=>simp[bS];omega
  ·have K:k=6:=z;subst K;obtain⟨g,y,rfl,N,R,S⟩:=OT own (Ov _ _ z);have T:∀a,g=Z a->w.heap.size<=a.block:=λa e=>(own.lt a.block (by subst e;rfl)).1;obtain⟨Q,Q4,Q1,Q2⟩:=cA S T N R;clear S own N R T;go_wp2_with fail;go_ret;exact⟨⟨_,_,_,rfl,Q1.O,Q2.O,Q.O,Q4.O⟩,f⟩
end Go.Proofs.YtkfblammcilfhaaGreatDoor.Fair
namespace Go.Proofs.YtkfblammcilfhaaGreatDoor
section
namespace M
variable {R:Room} {G:Int->ij} {n:Nat}
def dY{α β:Type}[DecidableEq α](f:α->β)(k:α)(v:β):set f k v k=v:=by simp[set]
def da{α β:Type}[DecidableEq α](f:α->β){k x:α}(v:β)(h:x≠k):set f k v x=f x:=by simp[set,h]
def Inv.lJ(id:Nat){f:Int}(a:f≠0):∀(l:List Int) {R:Room},Inv R G n->(∀s,∀m,R.aD s=Z m->id∉ids m)->Inv (l.foldl (λr s=>r.bR s id f) R) G n
 |[],_,h,_=>h
 |s::l,R,h,b=>by
  rw[eN];exact Inv.lJ id a l (h.bR s id a (b s)) λk m hm=>b k m (by rw[(nW R s id f).1]at hm;exact hm)
def Inv.fI(s:Int):∀(l:List Nat) {R:Room},Inv R G n->(∀id∈l,∀m,R.aD s=Z m->id∉ids m)->Inv (R.fI s l) G n
 |[],_,h,_=>h
 |i::l,R,h,a=>by
  unfold Room.fI;rw[eN];exact Inv.fI s l (h.bR s i aR (a i dt)) λid hid m hm=>a id (by simp[hid]) m (by rw[(nW R s i 8).1]at hm;exact hm)
def Inv.fO(h:Inv R G n){o:bN}{st FH:eu}(c:R.az o=Z st)(d:jz (FH.bQ.bD.map js.id) (st.bQ.bD.map js.id)):Inv { R with az:=set R.az o (Z FH) } G n:=by
 refine { h with held:=λp q b=>?_,aY:=λp q b=>?_ }
 ·have a:set R.az o (Z FH) p=Z q:=b;unfold set at a;by_cases e:p=o
  ·subst e;rw[if_pos rfl]at a;cases a;obtain⟨h1,h2⟩:=h.held p st c;refine⟨h1.sublist d,λx f=>?_⟩;obtain⟨y,hy,e⟩:=eU.1 (d.subset (eU.2 ⟨x,f,rfl⟩));rw[<-e];exact h2 y hy
  ·rw[if_neg e]at a;exact h.held p q a
 ·have a:set R.az o (Z FH) p=Z q:=b;unfold set at a;by_cases e:p=o
  ·subst e;exact h.aY p st c
  ·rw[if_neg e]at a;exact h.aY p q a
def Inv.fG(h:Inv R G n)(o:bN)(f:eu->eu)(a:∀x,(f x).bQ=x.bQ):Inv (R.fG o f) G n:=by
 unfold Room.fG;cases b:R.az o with
 |none=>exact h
 |some st=>exact h.fO b (by rw[a];exact gf _)
def Inv.count(h:Inv R G n)(f:nH->nH):Inv (R.count f) G n:={ h with }
def Inv.ask(h:Inv R G n)(x:Int):Inv (R.ask x) G n:=by
 unfold Room.ask;generalize R.pj x=l;revert R;induction l with
 |nil=>intro R h;exact h
 |cons a l b =>
  intro R h;rw[eN];refine b ?_;split
  ·split
   ·exact h.fG _ _ (λ_=>rfl)
   ·exact h
  ·exact h
def Inv.dJ:∀(l:List Int) {R:Room},Inv R G n->Inv (l.foldl Room.ask R) G n
 |[],_,h=>h
 |x::l,_,h=>Inv.dJ l (h.ask x)
def F1(b:mf)(aG m now:Int)(id:Nat):(b.push aG m now id).1.bD=b.bD\/∃l r,b.bD=l++r/\(b.push aG m now id).1.bD=l++⟨m,now,id⟩::r:=by
 unfold mf.push;split
 ·exact aJ rfl
 split
 ·exact aJ rfl
 split
 ·exact aJ rfl
 ·exact aZ ⟨_,_,(List.takeWhile_append_dropWhile).symm,rfl⟩
def vW{α:Type}{l:List α}{i:Nat}{a b:α}(h:l[i]? = Z a):(l++[b])[i]? = Z a:=by
 rw[List.getElem?_append_left (aS.1 h).1];exact h
def Inv.je(h:Inv R G n)(o:bN)(p:cR)(hp:p.Ok):Inv (R.je o p) G n:=by
 unfold Room.je;cases v:R.az o with
 |none=>exact h
 |some s =>
  simp only;generalize hm:(if s.any=true then jL s.dv p.dQ else nE p.dQ)=m;have d:=F1 s.bQ R.dA.eJ m R.cJ R.aO.length;generalize D:s.bQ.push R.dA.eJ m R.cJ R.aO.length=be at d;obtain⟨buf,e⟩:=be;simp only at d ⊢;have g:∀s l,R.aD s=Z l->R.aO.length∉ids l:=λs l w q=>by have:=h.RN w q;omega
  have eJ:∀o st,R.az o=Z st->∀x∈st.bQ.bD,x.id<R.aO.length:=λo st j x f=>by
   obtain⟨⟨a,C,_⟩,_⟩:=(h.held o st j).2 x f;exact(aS.1 C).1
  have key:∀FH:eu,FH.bQ=buf->Inv { R with
     aO:=R.aO++[⟨o,m,p⟩]
     bp:={ R.bp with fP:=R.bp.fP+1 }
     di:=λsub=>if sub∈R.ik o.1 then set (R.di sub) R.aO.length (Z 0) else R.di sub
     az:=set R.az o (Z FH) } G n:=by
   intro FH y;refine { h with fo:=λk l w=>?_,kz:=λk id E=>?_,held:=λq st j=>?_,aY:=λq st j=>?_,pk:=λa C=>?_ }
   ·refine⟨((h.fo k l w).1).mono (λi a F=>vW F) λid hid=>?_,(h.fo k l w).2⟩;have v:=(h.fo k l w).1.kz id hid;show(if k∈R.ik o.1 then set (R.di k) R.aO.length (Z 0) else R.di k) id=Z 0;split
    ·unfold set;split
     ·rfl
     ·exact v
    ·exact v
   ·have t:(if k∈R.ik o.1 then set (R.di k) R.aO.length (Z 0) else R.di k) id=Z 0:=E;have A:R.di k id=Z 0->∃a x,(R.aO++[(⟨o,m,p⟩:kM)])[id]? = Z a/\R.bh k=Z x/\x.cL=true/\x.jo=a.origin.1:=λq=>by
     obtain⟨a,x,H,K⟩:=h.kz k id q;exact⟨a,x,vW H,K⟩
    split at t
    ·rename_i b;unfold set at t;by_cases e:id=R.aO.length
     ·subst e;unfold Room.ik at b;rw[List.mem_filter]at b;obtain⟨_,b⟩:=b;cases u:R.bh k with
      |none=>rw[u]at b;cases b
      |some x =>
       rw[u]at b;simp only[Bool.and_eq_true,decide_eq_true_eq]at b;exact⟨⟨o,m,p⟩,x,dt,by first|exact u|exact rfl,b.1,b.2⟩
     ·rw[if_neg e]at t;exact A t
    ·exact A t
   ·have c:set R.az o (Z FH) q=Z st:=j;unfold set at c;by_cases e:q=o
    ·subst e;rw[if_pos rfl]at c;cases c;rw[y];obtain⟨h1,h2⟩:=h.held q s v;have up:∀x∈s.bQ.bD,(∃a,(R.aO++[(⟨q,m,p⟩:kM)])[x.id]? = Z a/\a.origin=q)/\∀k l,R.aD k=Z l->x.id∉ids l:=λx f=>by
      obtain⟨⟨a,a1,a2⟩,a3⟩:=h2 x f;exact⟨⟨a,vW a1,a2⟩,a3⟩
     rcases d with e | ⟨l,r,B,L⟩
     ·rw[e];exact⟨h1,up⟩
     ·rw[L];constructor
      ·rw[fL,eV];rw[B,fL]at h1;refine(List.perm_middle).nodup_iff.2 (iM.2 ⟨λM=>?_,h1⟩);have:R.aO.length∈s.bQ.bD.map js.id:=by rw[B,fL];exact M
       obtain⟨x,f,ex⟩:=eU.1 this;have:=eJ q s v x f;omega
      ·intro x f;rcases bt.1 f with f|f
       ·exact up x (by rw[B];simp[f])
       ·rcases fw.1 f with rfl|f
        ·exact⟨⟨⟨q,m,p⟩,dt,rfl⟩,g⟩
        ·exact up x (by rw[B];simp[f])
    ·rw[if_neg e]at c;obtain⟨h1,h2⟩:=h.held q st c;refine⟨h1,λx f=>?_⟩;obtain⟨⟨a,a1,a2⟩,a3⟩:=h2 x f;exact⟨⟨a,vW a1,a2⟩,a3⟩
   ·have c:set R.az o (Z FH) q=Z st:=j;unfold set at c;by_cases e:q=o
    ·subst e;exact h.aY q s v
    ·rw[if_neg e]at c;exact h.aY q st c
   ·rcases bt.1 C with q|q
    ·exact h.pk a q
    ·simp at q;subst q;exact hp
  split
  ·exact Inv.lJ _ aR _ (key _ rfl) g
  split
  ·exact Inv.lJ _ aR _ (key _ rfl) g
  split
  ·exact Inv.lJ _ aR _ (key _ rfl) g
  ·exact key _ rfl
def zO:∀(l:cQ) (acc:Int) (k:Nat),0<=acc->acc<256 ^ k->(∀x∈l,0<=x/\x<256)->0<=l.foldl (λn x=>n*256+x) acc/\l.foldl (λn x=>n*256+x) acc<256 ^ (k+l.length)
 |[],acc,k,h0,h1,_=>⟨h0,h1⟩
 |x::l,acc,k,h0,h1,a=>by
  have b:=a x dt;have:=zO l (acc*256+x) (k+1) z (by rw[Int.pow_succ];omega) λy hy=>a y (by simp[hy]);rw[eN,ft,show k+(l.length+1)=k+1+l.length from by omega];exact this
def CF(l:cQ)(k:Nat)(a:l.length<=k)(b:∀x∈l,0<=x/\x<256):0<=bO l/\bO l<256 ^ k:=by
 have h:=zO l 0 0 z dt b;rw[cO]at h;refine⟨h.1,Int.lt_of_lt_of_le h.2 ?_⟩;have:((256 ^ l.length:Nat):Int)<=((256 ^ k:Nat):Int):=Int.ofNat_le.2 (Nat.pow_le_pow_right aR a);rw[Int.natCast_pow,Int.natCast_pow]at this;exact this
def N6(r:Rd):Prop:=∀x∈r.left,0<=x/\x<256
def Em{r:Rd}(h:N6 r)(e:Int):N6 (r.fail e):=by
 unfold Rd.fail;split
 ·exact h
 ·intro x a;simp at a
def Mz{r:Rd}(h:N6 r)(m:Int):N6 (r.take m).2/\(∀x∈(r.take m).1,0<=x/\x<256)/\(r.take m).1.length<=m.toNat:=by
 unfold Rd.take;split
 ·exact⟨h,λx a=>by simp at a,dt⟩
 split
 ·exact⟨Em h 3,λx a=>by simp at a,dt⟩
 ·exact⟨λx a=>h x (ga a),λx a=>h x (eZ a),dZ⟩
def tY{r:Rd}(h:N6 r)(k:Nat):N6 (r.num k).2/\0<=(r.num k).1/\(r.num k).1<256 ^ k:=by
 obtain⟨a,b,c⟩:=Mz h k;have:=CF (r.take k).1 k (by simpa using c) b;exact⟨a,this.1,this.2⟩
def El:∀(k:Nat) {r:Rd},N6 r->N6 (jD k r).2/\∀x∈(jD k r).1,0<=x/\x<4294967296
 |0,_,h=>⟨h,λx f=>by simp[jD]at f⟩
 |k+1,r,h=>by
  obtain⟨a,b,c⟩:=tY h 4;obtain⟨d,e⟩:=El k a;refine⟨d,λx f=>?_⟩;rw[jD]at f;rcases fw.1 f with rfl|f
  ·exact⟨b,c⟩
  ·exact e x f
def zm(b:cQ)(h:(eP b).2=0):(eP b).1=wH b:=by
 by_cases h1:200<b.length
 ·have e:eP b=(.zero,4):=by unfold eP;rw[if_pos h1]
  rw[e]at h;exact absurd h aR
 ·by_cases h2:(KG b).end_≠0
  ·have e:eP b=(.zero,(KG b).end_):=by unfold eP;rw[if_neg h1,if_pos h2]
   rw[e]at h;exact absurd h h2
  ·have e:eP b=(wH b,0):=by unfold eP;rw[if_neg h1,if_neg h2]
   rw[e]
def DG(b:cQ)(i:∀x∈b,0<=x/\x<256)(h:(eP b).2=0):(eP b).1.Ok:=by
 have j:=tY (r:=⟨b,0⟩) i 1;have d:=tY (r:=(h1 b).2) j.1 1;have e:=tY (r:=(h2 b).2) d.1 2;have f:=tY (r:=(h3 b).2) e.1 4;have a:=tY (r:=(h4 b).2) f.1 4;have k:N6 (h6 b):=by
  unfold h6;split
  ·exact Em a.1 2
  ·exact a.1
 have g:=El ((h1 b).1 % 16).toNat k;have l:=tY (r:=(h7 b).2) g.1 2;rw[zm b h];have c:0<=(h2 b).1:=d.2.1;refine⟨?_,e.2,f.2,a.2,g.2,?_⟩
 ·show 0<=(h2 b).1 % 128;generalize (h2 b).1=m at c ⊢;omega
 ·show 0<=td b/\td b<65536;unfold td;split
  ·exact l.2
  ·exact⟨aR,aR⟩
def Inv.read(h:Inv R G n):Inv R.read G n:=by
 unfold Room.read;cases d:R.dm with
 |nil=>exact h
 |cons b q =>
  simp only;have k:Inv { R with dm:=q } G n:={ h with qu:=λc e=>h.qu c (by rw[d];simp[show c∈q from e]) };split
  ·cases ff b with
   |none=>exact k.count _
   |some l=>exact Inv.dJ l (k.count _)
  ·split
   ·exact k.count _
   ·rename_i a;show Inv (match R.cW (eP b).1.bJ with | none=>_ | some o=>_) G n;cases R.cW (eP b).1.bJ with
    |none=>exact k.count _
    |some o=>exact k.je o _ (DG b (h.qu b (by rw[d];simp)) (by simpa using a))
def Inv.iW(h:Inv R G n)(x:Item)(s:Int)(v:∃a,R.aO[x.id]? = Z a/\a.bW=x.bW/\a.origin.2=x.aY)(w:x.key=lx x.bW.cF)
  (A:∀o st,R.az o=Z st->∀y∈st.bQ.bD,x.id≠y.id) (B:∀l,R.aD s=Z l->x.id∉ids l):Inv (Room.iW x R s) G n:=by
 unfold Room.iW;split
 ·rename_i t;cases b:R.aD s with
  |none=>exact h
  |some l =>
   simp only;obtain⟨kl,C⟩:=h.fo s l b;obtain⟨a,a1,a2,a3⟩:=v;obtain⟨a',y,b1,b2,b3,b4⟩:=h.kz s x.id t;rw[a1]at b1;cases b1;obtain⟨c1,m,c2,c3,c4⟩:=h.jo s y b2 b3;rw[b]at c2;cases c2;have D:there x.aY=true->x.bW.right=true->Good R.aO (G s).jo x:=λt1 t2=>by
    refine⟨t2,?_,w,⟨a,a1,a2,?_⟩,?_⟩
    ·rw[<-a2];exact h.pk a (fb a1)
    ·exact Prod.ext (by rw[<-b4,c1]) a3
    ·unfold there at t1;simp only[Bool.and_eq_true,decide_eq_true_eq]at t1;exact t1.1
   obtain⟨p1,p2,p3,E,F,j,k⟩:=kl.put R.dA.aG h.aG D t (B l b);have p:=h.Bq b (g:=G s) rfl p1 C (λid hid=>by
    rcases p2 id hid with q|q
    ·exact aJ q
    ·right;intro o st r u H;rw[q];exact A o st r u H) (λc d _=>⟨by rw[j];exact c,by rw[k];exact d⟩) (λc d=>aJ ⟨by rw[<-j];exact c,by rw[<-k];exact d⟩)
    (λc d K=>by rw[E,F];exact h.chain c s l b (by rw[<-j];exact d) (by rw[<-k];exact K))
   have e:set G s (G s)=G:=by funext u;unfold set;split<;>simp_all
   rw[e]at p;cases L:(l.put R.dA.aG x).2 with
   |none=>exact p
   |some i =>
    refine p.bR s i aR λm hm=>?_;have f:set R.aD s (Z (l.put R.dA.aG x).1) s=Z m:=hm;rw[dY]at f;cases f;exact(p3 i L).1
 ·exact h
def DH(x:Item)(r:Room)(s:Int):(Room.iW x r s).aO=r.aO/\(Room.iW x r s).az=r.az/\∀k,k≠s->(Room.iW x r s).aD k=r.aD k:=by
 unfold Room.iW;split
 ·cases r.aD s with
  |none=>exact⟨rfl,rfl,λ_ _=>rfl⟩
  |some l =>
   simp only;cases(l.put r.dA.aG x).2 with
   |none=>exact⟨rfl,rfl,λk a=>da _ _ a⟩
   |some i =>
    obtain⟨b,c,d,_⟩:=nW { r with aD:=set r.aD s (Z (l.put r.dA.aG x).1) } s i 6;exact⟨c,d,λk a=>by rw[show _=_ from congrFun b k];exact da _ _ a⟩
 ·exact⟨rfl,rfl,λ_ _=>rfl⟩
def Inv.Qp(x:Item)(d:x.key=lx x.bW.cF):∀(l:List Int) {R:Room},l.Nodup->Inv R G n->(∃a,R.aO[x.id]? = Z a/\a.bW=x.bW/\a.origin.2=x.aY)->(∀o st,R.az o=Z st->∀y∈st.bQ.bD,x.id≠y.id) ->
  (∀s∈l,∀m,R.aD s=Z m->x.id∉ids m)->Inv (l.foldl (Room.iW x) R) G n
 |[],_,_,h,_,_,_=>h
 |s::l,R,j,h,f,g,i=>by
  rw[eN];obtain⟨p,q,r⟩:=DH x R s;have b:=iM.1 j;refine Inv.Qp x d l b.2 (h.iW x s f d g (i s dt)) (by rw[p];exact f) (by rw[q];exact g) λk c m hm=>?_;have:k≠s:=λe=>b.1 (e ▸ c);rw[r k this]at hm;exact i k (by simp[c]) m hm
def Inv.order(h:Inv R G n):Inv R.order G n:=by
 unfold Room.order;cases R.ready with
 |none=>exact h
 |some o =>
  simp only;cases f:R.az o with
  |none=>exact h
  |some s =>
   simp only;cases hh:s.bQ.bD with
   |nil=>exact h
   |cons c t =>
    simp only;obtain⟨h1,h2⟩:=h.held o s f;rw[hh,eV,iM]at h1;obtain⟨⟨a,a1,a2⟩,a3⟩:=h2 c (by rw[hh];simp);have g:s.bQ.least.bD=t:=by unfold mf.least;rw[hh]
    have j:(R.aO.getD c.id ⟨(0,0),0,.zero⟩)=a:=by rw[bE,a1];rfl
    rw[j];have k:=h.fO (FH:={ s with bQ:=s.bQ.least }) f (by simp only;rw[g,hh,eV];exact oq _ _);refine Inv.Qp ⟨c.id,o.2,lx a.bW.cF,a.bW⟩ rfl gF aR k ⟨a,a1,rfl,by rw[a2]⟩ (λp q l y hy=>?_) (λs' _ m hm=>a3 s' m hm);have d:set R.az o (Z { s with bQ:=s.bQ.least }) p=Z q:=l;unfold set at d;by_cases e:p=o
    ·subst e;rw[if_pos rfl]at d;cases d;simp only at hy;rw[g]at hy;intro e;exact h1.1 (eU.2 ⟨y,hy,e.symm⟩)
    ·rw[if_neg e]at d;obtain⟨⟨b,b1,b2⟩,_⟩:=(h.held p q d).2 y hy;intro i;simp only at i;rw[<-i,a1]at b1;cases b1;exact e (b2.symm.trans a2)
end M
end
section
namespace M
variable {R:Room} {G:Int->ij} {n:Nat}
def FM{α β:Type}[DecidableEq α](f:α->β)(k:α):set f k (f k)=f:=by funext a;unfold set;split<;>simp_all
def Inv.gq(h:Inv R G n)(s:Int):Inv (R.gq s) G n:=by
 unfold Room.gq;cases f:R.aD s with
 |none=>exact h
 |some l =>
  simp only;obtain⟨kl,o⟩:=h.fo s l f;cases i:l.cK with
  |nil =>
   have e:l.gJ=(l,0,0):=by unfold dP.gJ;rw[i]
   rw[e];simp only[ne_eq,not_true_eq_false,if_false];have p:set R.aD s (Z l)=R.aD:=by rw[<-f];exact FM _ _
   rw[p];exact h
  |cons x r =>
   obtain⟨p1,p2,p3,q⟩:=kl.gJ i;obtain⟨w1,w2⟩:=CZ (l:=l);have k:=h.Bq f (g:=G s) rfl p1 o (λid hid=>aJ (p2 id hid)) (λa b _=>⟨by rw[w1];exact a,by rw[w2];exact b⟩) (λa b=>aJ ⟨by rw[<-w1];exact a,by rw[<-w2];exact b⟩)
    (λa b c=>C0 i (h.chain a s l f (by rw[<-w1];exact b) (by rw[<-w2];exact c)))
   rw[FM]at k;split
   ·rename_i j;rw[q];exact k.bR s x.id j λm hm=>by
     have d:set R.aD s (Z l.gJ.1) s=Z m:=hm;rw[dY]at d;cases d;exact p3 j
   ·exact k
def Cq(l:dP)(aG:Nat)(g:ij):(lU l aG g).jo=g.jo:=by unfold lU;split<;>rfl
def yU(l:dP)(aT:Int)(a:Bool)(g:ij):(iR l aT a g).jo=g.jo/\(iR l aT a g).H=g.H:=by
 unfold iR;split
 ·exact⟨rfl,rfl⟩
 split
 ·exact⟨rfl,rfl⟩
 split<;>exact⟨rfl,rfl⟩
def Inv.fD(h:Inv R G n)(t:R.cN=false)(s:Int){l:dP}(e:R.aD s=Z l)(hp:l.bF≠[]):Inv (R.fD s) (set G s (lU l R.dA.aG (G s))) (n+1) /\
  (∀i,(l.eO R.dA.aG).2=Z i->R.di s i=Z 0/\(R.fD s).di=set R.di s (set (R.di s) i (Z 6))):=by
 obtain⟨kl,B⟩:=h.fo s l e;cases c:l.bF with
 |nil=>exact absurd c hp
 |cons y r =>
  obtain⟨x,f⟩:=y;have hid:ids l≠[]:=by unfold ids;rw[c];simp
  have hg:=kl.Gn hid;have hw:=kl.xa (aZ (aJ (by rw[c];simp)));obtain⟨p1,p2,p3,u,v⟩:=kl.eO R.dA.aG h.aG c (h.chain t s l e hw hg);have o:(l.eO R.dA.aG).1={ l with bF:=r,mv:=(dO l.mv x.bW f).1,ready:=push R.dA.aG l.ready (x.id,(ic (dO l.mv x.bW f).2).1) }:=by unfold dP.eO;rw[c]
  have w1:(l.eO R.dA.aG).1.wanted=l.wanted:=by rw[o]
  have w2:(l.eO R.dA.aG).1.eG=l.eG:=by rw[o]
  have k:=(h.more (Nat.le_succ n)).Bq e (g:=lU l R.dA.aG (G s)) (Cq _ _ _) p1 (by rw[u];omega) (λid hid=>aJ (p2 id hid)) (λa b _=>⟨by rw[w1];exact a,by rw[w2];exact b⟩) (λa b=>aJ ⟨by rw[<-w1];exact a,by rw[<-w2];exact b⟩) (λ_ _ _=>v);unfold Room.fD;rw[e];simp only;cases p:(l.eO R.dA.aG).2 with
  |none=>exact⟨k,λi w=>by cases w⟩
  |some i =>
   refine⟨k.bR s i aR λm hm=>?_,λj A=>?_⟩
   ·have d:set R.aD s (Z (l.eO R.dA.aG).1) s=Z m:=hm;rw[dY]at d;cases d;exact(p3 i p).1
   ·cases A;have q:=kl.kz i (p3 i p).2;refine⟨q,?_⟩;show(Room.bR { R with aD:=set R.aD s (Z (l.eO R.dA.aG).1) } s i 6).di=_;unfold Room.bR;rw[if_pos (show(R.di s i=Z 0) from q)]
def Inv.ji(h:Inv R G n)(s:Int){f:Int}(g:f≠0)(j:∀l,R.aD s=Z l->ids l=[]):Inv (R.ji s f) G n/\∀id,(R.ji s f).di s id≠Z 0:=by
 have key:∀id,(R.ji s f).di s id≠Z 0:=λid q=>by
  have c:set R.di s (λid=>if R.di s id=Z 0 then Z f else R.di s id) s id=Z 0:=q;rw[dY]at c;split at c
  ·simp only[bf]at c;exact g c
  ·contradiction
 refine⟨{ h with fo:=λk l a=>⟨((h.fo k l a).1).mono (λ_ _ q=>q) λi d=>?_,(h.fo k l a).2⟩,kz:=λk i a=>?_ },key⟩
 ·show set R.di s _ k i=Z 0;by_cases e:k=s
  ·subst e;rw[j l a]at d;cases d
  ·rw[da _ _ e];exact(h.fo k l a).1.kz i d
 ·have b:set R.di s _ k i=Z 0:=a;by_cases e:k=s
  ·subst e;exact absurd a (key i)
  ·rw[da _ _ e]at b;exact h.kz k i b
def Inv.Ow(h:Inv R G n)(s:Int){y:Sub}(hy:R.bh s=Z y)(g:∀id,R.di s id≠Z 0)(hg:∀l,R.aD s=Z l->l.eG=true):Inv { R with bh:=set R.bh s (Z ⟨y.own,false,0⟩) } G n:=by
 refine { h with kz:=λk id c=>?_,jo:=λk x i d=>?_,lu:=λk=>?_,za:=λk l f h1 h2=>?_ }
 ·obtain⟨a,x,j,m,o⟩:=h.kz k id c;have:k≠s:=λe=>g id (e ▸ c);exact⟨a,x,j,by show set R.bh s _ k=_;rw[da _ _ this];exact m,o⟩
 ·have b:set R.bh s (Z ⟨y.own,false,0⟩) k=Z x:=i;by_cases e:k=s
  ·subst e;rw[dY]at b;cases b;cases d
  ·rw[da _ _ e]at b;exact h.jo k x b d
 ·show(set R.bh s _ k).isSome=_;by_cases e:k=s
  ·subst e;rw[dY,<-h.lu k,hy];rfl
  ·rw[da _ _ e];exact h.lu k
 ·by_cases e:k=s
  ·subst e;rw[hg l f]at h2;cases h2
  ·obtain⟨x,q⟩:=h.za k l f h1 h2;exact⟨x,by show set R.bh s _ k=_/\_;rw[da _ _ e];exact q⟩
def Inv.jS(h:Inv R G n)(s:Int)(a:Bool){l:dP}(E:R.aD s=Z l)(hr:l.ready≠[]):Inv (R.jS s a) (set G s (iR l R.dA.aT a (G s))) n:=by
 obtain⟨kl,X⟩:=h.fo s l E;cases A:l.ready with
 |nil=>exact absurd A hr
 |cons x r =>
  have hg:=kl.Gn (by unfold ids;rw[A];simp);obtain⟨p1,p2,p3,M,N,P,Q,F⟩:=kl.write R.dA.aT a A;obtain⟨g1,g2⟩:=yU l R.dA.aT a (G s);rw[kh,E];simp only;generalize hw:l.write R.dA.aT a=lw at p1 p2 p3 M N P Q F ⊢;obtain⟨B,id,f⟩:=lw;simp only at p1 p2 p3 M N P Q F ⊢;subst M;unfold nA kg;by_cases j:B.eG=true
  ·
   have C:ids B=[]:=p1.eG j;have D:f≠1:=by
    intro e;have Y:=N.1 e;subst Y;have:l.write R.dA.aT true=({ l with ready:=r,fF:=l.fF++[x],row:=0 },x.1,1):=by unfold dP.write;rw[A];simp[hg]
    rw[this]at hw;simp only[Prod.mk.injEq]at hw;rw[<-hw.1]at j;rw[show({ l with ready:=r,fF:=l.fF++[x],row:=0 }:dP).eG=l.eG from rfl,hg]at j;cases j
   rw[if_pos j,if_neg D];obtain⟨y,hy⟩:∃y,R.bh s=Z y:=by
    have:=h.lu s;rw[E]at this;cases q:R.bh s with
    |none=>rw[q]at this;cases this
    |some y=>exact⟨y,rfl⟩
   refine⟨λk m hm=>?_,λk i hk=>?_,λk v K S=>?_,λk=>?_,λo st T=>?_,h.aY,h.pk,?_,λk m hm h1 h2=>?_,h.qu,h.aG⟩
   ·have c:set R.aD s (Z B) k=Z m:=hm;by_cases e:k=s
    ·subst e;rw[dY]at c ⊢;cases c;exact⟨p1.mono (λ_ _ q=>q) (λi L=>by rw[C]at L;cases L),by rw[g2];exact X⟩
    ·rw[da _ _ e]at c ⊢;refine⟨((h.fo k m c).1).mono (λ_ _ q=>q) λi L=>?_,(h.fo k m c).2⟩;show set R.di s _ k i=Z 0;rw[da _ _ e];exact(h.fo k m c).1.kz i L
   ·have w:set R.di s (λid=>if R.di s id=Z 0 then Z 7 else R.di s id) k i=Z 0:=hk;by_cases e:k=s
    ·subst e;rw[dY]at w;split at w
     ·simp at w
     ·contradiction
    ·rw[da _ _ e]at w;obtain⟨b,v,t,u,H⟩:=h.kz k i w;refine⟨b,v,t,?_,H⟩;show(match R.bh s with | some p=>if p.cL=true then set R.bh s _ else R.bh | none=>R.bh) k=Z v;rw[hy];simp only;split
     ·rw[da _ _ e];exact u
     ·exact u
   ·have d:(match R.bh s with | some p=>if p.cL=true then set R.bh s (Z ⟨p.own,false,0⟩) else R.bh | none=>R.bh) k=Z v:=K;rw[hy]at d;simp only at d;by_cases e:k=s
    ·subst e;split at d
     ·rw[dY]at d;cases d;cases S
     ·rename_i U;rw[hy]at d;cases d;exact absurd S U
    ·have W:R.bh k=Z v:=by
      split at d
      ·rw[da _ _ e]at d;exact d
      ·exact d
     obtain⟨t,m,u,H⟩:=h.jo k v W S;rw[da _ _ e];exact⟨t,m,by show set R.aD s _ k=_;rw[da _ _ e];exact u,H⟩
   ·show((match R.bh s with | some p=>if p.cL=true then set R.bh s (Z ⟨p.own,false,0⟩) else R.bh | none=>R.bh) k).isSome=(set R.aD s (Z B) k).isSome;rw[hy];simp only;by_cases e:k=s
    ·subst e;rw[dY];split
     ·rw[dY];rfl
     ·rw[hy];rfl
    ·rw[da _ _ e];split
     ·rw[da _ _ e];exact h.lu k
     ·exact h.lu k
   ·obtain⟨t,u⟩:=h.held o st T;refine⟨t,λv K=>⟨(u v K).1,λk m hm=>?_⟩⟩;have c:set R.aD s (Z B) k=Z m:=hm;by_cases e:k=s
    ·subst e;rw[dY]at c;cases c;rw[C];simp
    ·rw[da _ _ e]at c;exact(u v K).2 k m c
   ·intro hc k m hm h1 h2;have c:set R.aD s (Z B) k=Z m:=hm;by_cases e:k=s
    ·subst e;rw[dY]at c;cases c;rw[j]at h2;cases h2
    ·rw[da _ _ e]at c ⊢;exact h.chain hc k m c h1 h2
   ·have c:set R.aD s (Z B) k=Z m:=hm;by_cases e:k=s
    ·subst e;rw[dY]at c;cases c;rw[j]at h2;cases h2
    ·rw[da _ _ e]at c;obtain⟨v,t,u⟩:=h.za k m c h1 h2;refine⟨v,?_,u⟩;show(match R.bh s with | some p=>if p.cL=true then set R.bh s _ else R.bh | none=>R.bh) k=Z v;rw[hy];simp only;split
     ·rw[da _ _ e];exact t
     ·exact t
  ·have k:=h.Bq E (g:=iR l R.dA.aT a (G s)) g1 p1 (by rw[g2];exact X) (λid hid=>aJ (p2 id hid)) (λt u _=>⟨by rw[F];exact t,by simpa using j⟩) (λt u=>aJ ⟨by rw[<-F];exact t,hg⟩)
    (λt u H=>by rw[P,H,Q,g2];exact h.chain t s l E (by rw[<-F];exact u) hg)
   rw[if_neg j];split
   ·rename_i hf;exact k.bR s x.1 aR λm hm=>by
     have c:set R.aD s (Z B) s=Z m:=hm;rw[dY]at c;cases c;exact p3 hf
   ·exact k
def Inv.xE(h:Inv R G n)(e:R.cN=true)(s:Int){l c:dP}(j:R.aD s=Z l){g:ij}(hg:g.jo=(G s).jo)(o:g.H=(G s).H)(p:iv R.aO (R.di s) c g)(r:∀i∈ids c,i∈ids l)(hw:c.wanted=l.wanted/\c.eG=l.eG)
  (gs:List Nat) (f:∀i∈gs,i∉ids c):Inv (Room.fI { R with aD:=set R.aD s (Z c) } s gs) (set G s g) n:=by
 have k:=h.Bq j hg p (by rw[o];exact(h.fo s l j).2) (λid hid=>aJ (r id hid)) (λa b _=>⟨by rw[hw.1];exact a,by rw[hw.2];exact b⟩) (λa b=>aJ ⟨by rw[<-hw.1];exact a,by rw[<-hw.2];exact b⟩) (λq=>by rw[e]at q;cases q);refine Inv.fI s gs k λid hid m hm=>?_;have d:set R.aD s (Z c) s=Z m:=hm;rw[dY]at d;cases d;exact f id hid
def ym:∀(k:Nat) (b:mf),jz ((mf.iu k b).bD.map js.id) (b.bD.map js.id)
 |0,b=>gf _
 |k+1,b=>by
  refine(ym k b.least).trans ?_;unfold mf.least;split
  ·exact gf _
  ·rename_i q;rw[q];exact oq _ _
def vl(id:Nat)(f:Int):∀(l:List Int) (r:Room),(l.foldl (λr s=>r.bR s id f) r).aD=r.aD
 |[],_=>rfl
 |s::l,r=>by rw[eN,vl id f l,(nW r s id f).1]
def Inv.Ey:∀(l:List Nat) {R:Room},Inv R G n->(∀id∈l,∀s m,R.aD s=Z m->id∉ids m)->Inv (l.foldl (λr id=>gF.foldl (λr sub=>r.bR sub id 8) r) R) G n
 |[],_,h,_=>h
 |i::l,R,h,a=>by
  rw[eN];refine Inv.Ey l (Inv.lJ i aR gF h (a i dt)) λid hid s m hm=>?_;rw[vl]at hm;exact a id (by simp[hid]) s m hm
def Inv.cP(h:Inv R G n)(o:bN):Inv (R.cP o) G n:=by
 unfold Room.cP;cases a:R.az o with
 |none=>exact h
 |some s =>
  refine Inv.Ey _ (h.fO (FH:={ s with bQ:=mf.iu s.bQ.bD.length s.bQ }) a (ym _ _)) λid hid k m hm=>?_;obtain⟨x,b,rfl⟩:=eU.1 hid;exact((h.held o s a).2 x b).2 k m hm
def Inv.wM:∀(l:List bN) {R:Room},Inv R G n->Inv (l.foldl Room.cP R) G n
 |[],_,h=>h
 |o::l,_,h=>Inv.wM l (h.cP o)
def pJ(w:eK)(g:ij):ij:=if w.1=2\/w.1=3 then g else { g with Q:=[] }
def Inv.returned(h:Inv R G n)(w:eK)(c:Prop)[Decidable c]:Inv (if c then { R with returned:=R.returned++[w] } else R) G n:=by
 split
 ·exact { h with }
 ·exact h
def Inv.ku(h:Inv R G n)(e:R.cN=true)(w:eK):Inv (R.ku w) (if w.1=0\/w.1=1 then G else match R.aD w.2 with | none=>G | some _=>set G w.2 (pJ w (G w.2))) n:=by
 unfold Room.ku;by_cases h0:w.1=0
 ·simp only[h0,if_true,true_or];exact Inv.returned (R:={ R with dm:=[],bp:={ R.bp with jw:=R.bp.jw+R.dm.length } }) { h with qu:=λb o=>by cases o } w _
 ·simp only[if_neg h0];by_cases h1:w.1=1
  ·simp only[h1,if_true,or_true];exact Inv.returned (Inv.wM eX h) w _
  ·simp only[if_neg h1,if_neg (z:¬(w.1=0\/w.1=1))];cases m:R.aD w.2 with
   |none=>exact h.returned w _
   |some l =>
    simp only;obtain⟨kl,r⟩:=h.fo w.2 l m;have p:=kl.nodup;have d:=jj.1 p;have j:=jj.1 d.2.1;have ge:l.eG=true->ids l=[]:=kl.eG;by_cases h2:w.1=2
    ·simp only[if_pos h2];have k:pJ w (G w.2)={ G w.2 with Q:=(G w.2).Q.drop 0 }:=by unfold pJ;rw[if_pos (aJ h2)];rfl
     obtain⟨a,b⟩:=kl.less [] l.bF 0 l.row l.eG (aZ rfl) (aJ rfl) (aJ rfl) (λq=>by
      have:=ge q;unfold ids at this;simp at this;simp[this]) (aJ rfl)
     rw[k];exact Inv.returned (h.xE e w.2 m (g:={ G w.2 with Q:=(G w.2).Q.drop 0 }) rfl rfl a b ⟨rfl,rfl⟩ _ (λi f c=>by
      unfold ids at c;simp only[mI,jk,qd]at c
      exact d.2.2 i f i c rfl)) w _
    ·simp only[if_neg h2];by_cases h3:w.1=3
     ·simp only[if_pos h3];have k:pJ w (G w.2)={ G w.2 with Q:=(G w.2).Q.drop 0 }:=by unfold pJ;rw[if_pos (aZ h3)];rfl
      obtain⟨a,b⟩:=kl.less l.cK [] 0 l.row l.eG (aJ rfl) (aZ rfl) (aJ rfl) (λq=>by
       have:=ge q;unfold ids at this;simp at this;simp[this]) (aJ rfl)
      rw[k];exact Inv.returned (h.xE e w.2 m (g:={ G w.2 with Q:=(G w.2).Q.drop 0 }) rfl rfl a b ⟨rfl,rfl⟩ _ (λi f c=>by
       unfold ids at c;simp only[mI,jk,qd,bt]at c
       rcases c with q|q
       ·exact d.2.2 i q i (bt.2 (aJ f)) rfl
       ·exact j.2.2 i f i q rfl)) w _
     ·simp only[if_neg h3];have k:pJ w (G w.2)={ G w.2 with Q:=(G w.2).Q.drop l.ready.length }:=by
       unfold pJ;rw[if_neg z];have:(G w.2).Q.drop l.ready.length=[]:=by rw[List.drop_eq_nil_iff,kl.ready];exact aj _
       rw[this]
      obtain⟨a,b⟩:=kl.less l.cK l.bF l.ready.length l.row l.eG (aJ rfl) (aJ rfl) (aZ (aj _)) (λq=>by
       have:=ge q;unfold ids at this;simp at this;simp[this]) (aZ (aj _))
      rw[kb]at a b;rw[k];exact Inv.returned (h.xE e w.2 m (g:={ G w.2 with Q:=(G w.2).Q.drop l.ready.length }) rfl rfl a b ⟨rfl,rfl⟩ _ (λi f c=>by
       unfold ids at c;simp only[jk,List.append_nil,bt]at c
       rcases c with q|q
       ·exact d.2.2 i q i (bt.2 (aZ f)) rfl
       ·exact j.2.2 i q i f rfl)) w _
end M
end
end Go.Proofs.YtkfblammcilfhaaGreatDoor
