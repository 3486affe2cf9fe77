import Derived.Lib.Split
import Derived.Test.YtkfblammcilfhaaGreatDoorP4
import Derived.Test.YtkfblammcilfhaaGreatDoorP5
set_option linter.all false
set_option maxRecDepth 100000
set_option maxHeartbeats 100000000
open Go.ChangeShapes Go.WideShapes Go.ChangeAt Go.RowKit Go.Proofs.Tryz
open Go renaming World->aw,Calls->aF,info_parts->cY,bodyPost_ret->ax,results->aV,wpList_append_own->dM
open Go.Proofs.Tryz renaming prog->af
open List renaming length_cons->ft,getElem?_eq_getElem->ay,take_add_one->ee,take_length->cT,mem_append->bt,takeWhile_cons->qo,mem_of_mem_take->eZ,mem_cons->fw,mem_of_mem_drop->ga
open Go.IntKind renaming i64->V,u8->bI
open Go.IntWalk renaming i64_in->cz
open Nat renaming mul_one->sq,mod_lt->kp,le_refl->aj,lt_irrefl->jy,le_trans->aP,lt_of_lt_of_le->iU,le_of_eq->lO
open Option.some renaming injEq->bf
open Go.RowKit.Below renaming refl->ao
open Go.RowKit renaming wrap64->dB,intOf->bS
open Array renaming getElem?_eq_getElem->aE
open Bool renaming false_eq_true->cB
open Go.Value renaming slice->ae,string->jA,int->J,bool->ai,pointer->aq,tuple->aB,agg->cg
open Go.Ending renaming returned->av
open Option renaming none->I,some->Z
namespace Go.Proofs.YtkfblammcilfhaaGreatDoor
abbrev oh:Value:=(ae I 0 0:Value)
def Hb(w:aw):(zeroValue 38).run af w=.ok oh w:=cC
abbrev ko:=RingM 195 38 1
def Kh:∀v∈oh.cells.toList,v.oneCell'=true:=by
 intro u hu;simp[Value.cells]at hu;subst hu;rfl
def Hc:oh.cells.size=1:=rfl
def BI(g pl cap:Nat)(q:List (List Value))(w:aw)(h:ko w g pl cap q):aF af 73 #[aq (Z ⟨g,0,I⟩)] w λe w'=>e=av (J V q.length)/\w'=w:=by
 obtain⟨first,jt,n4,n5,n6,n7,b,a,c,d,hR⟩:=h.ex;have c2:=a.cell 2;simp at c2;clear hR h;go_enter func73,ntmps73;go_wp2_with fail;go_ret;exact⟨rfl,rfl⟩
def zX(g pl cap:Nat)(q:List (List Value))(w:aw)(h:ko w g pl cap q):aF af 130 #[aq (Z ⟨g,0,I⟩)] w λe w'=>e=av (ai (decide (q.length=cap)))/\w'=w.drew:=by
 obtain⟨first,jt,n4,n5,n6,n7,j,c,k,l,hR⟩:=h.ex;have c2:=c.cell 2;have f:=c.cell 0;simp at c2 f;clear hR h;by_cases d:q.length=cap
 ·have a:decide (q.length=cap)=true:=by simp[d]
  have b:=au a;clear a;have i:((q.length:Int)==(cap:Int))=true:=dZ;go_enter func130,ntmps130;go_wp2_with fail;go_region;go_wp2_with fail;go_ret;exact⟨by rw[b.O];try rfl,rfl⟩
 ·have a:decide (q.length=cap)=false:=by simp[d]
  have b:=au a;clear a;have i:((q.length:Int)==(cap:Int))=false:=dZ;go_enter func130,ntmps130;go_wp2_with fail;go_region;go_wp2_with fail;go_ret;exact⟨by rw[b.O];try rfl,rfl⟩
def vK(g pl cap:Nat)(v:Value)(q:List (List Value))(w:aw)(h:ko w g pl cap ([v]::q)) :
  aF af 131 #[aq (Z ⟨g,0,I⟩)] w λe w'=>e=av v/\ko w' g pl cap q/\cS (jK g pl) w w':=by
 obtain⟨first,jt,n4,n5,n6,n7,u,d,l,y,hR⟩:=h.ex;have le:=h.le;have one:=h.one;have aT:=h.aT;have A:=au h.wf;simp only[ft]at le;have m:=hR 0 [v] rfl;rw[Nat.add_zero,Nat.mod_eq_of_lt u]at m;have F:jt[first]? = Z v:=by have:=m 0 z;simpa using this
 have p1:=(l.cell first).trans F;have L:=d.cell 0;have c1:=d.cell 1;have f0:=d.frozen 0;have f1:=d.frozen 1;simp at L c1;have n:=d.drew;have b:=l.drew;have w1:V.wrap ((first:Int)+1)=(first:Int)+1:=cz _ ⟨z,z⟩;have U:(first:Int)+1<=cap:=z;have W:0<=(first:Int)+1:=z;have X:¬cap=first:=z
 have B:=ll (k:=1) u;have o:first+oh.cells.size<=jt.size:=by rw[Hc];omega
 have f:=hR.take u z y (zs:=oh.cells.toList) rfl;have r:(de jt first oh.cells.toList).size=cap*1:=by rw[gU (by simpa using o),y]
 rw[sq]at f;obtain⟨a,j⟩:=dH ((first+1) % cap);have M:((first:Int)+1) % (cap:Int)=(a:Int):=by rw[j];simp
 have s:a<cap:=by rw[j];exact kp _ z
 rw[<-j]at f;obtain⟨N,HS,P⟩:=bU f r h;clear hR f y r j h m F B;go_enter func131,ntmps131;go_wp2_with fail;go_region;go_wp2_with fail;have G:∀ty,(Builtin.clear_ #[191] ty #[ae (Z ⟨pl,first,I⟩) 1 (cap-first)]).run af w.drew.drew=.ok (aB #[]) (w.drew.drew.setRow pl (de jt first oh.cells.toList)):=λty=>nf _ 191 38 ty oh underlying191 Hb pl first (cap-first) 38 jt (by first|exact b.drew|exact b) o Kh
 go_region;refine gN (λw2=>aK w2 pl 38 (de jt first oh.cells.toList)/\aK w2 g 195 _/\cS (jK g pl) w w2) ⟨by first|exact gm b.drew|exact gm b|exact(gm b).drew,by first|exact eB n.drew b.drew (aK.jf d l aR)|exact eB n b (aK.jf d l aR)|exact(eB n b (aK.jf d l aR)).drew,by first|exact((cS.refl _ w).drewN 2).step (fW _ _ _) (λi hi=>.inl (.inr hi))|exact((cS.refl _ w).drewN 1).step (fW _ _ _) (λi hi=>.inl (.inr hi))|exact(((cS.refl _ w).drewN 1).step (fW _ _ _) (λi hi=>.inl (.inr hi))).drew⟩ ?_;rintro w2 ⟨t,c,u3⟩;have Q:=c.cell 0;have R:=c.cell 1;have S:=c.cell 2;have f0:=c.frozen 0;have f1:=c.frozen 1;have f2:=c.frozen 2;simp at Q R S;all_goals
  have H:=((c.bC 1 (J V a)).bC 2 (J V q.length)).drew;have K:=((t.dS (p:=⟨g,1,I⟩) (λe=>aK.jf d l aR e.symm) (J V a)).dS (p:=⟨g,2,I⟩) (λe=>aK.jf d l aR e.symm) (J V q.length)).drew;have u5:=((u3.setCell (p:=⟨g,1,I⟩) (.inl (.inl rfl)) (J V a)).setCell (p:=⟨g,2,I⟩) (.inl (.inl rfl)) (J V q.length)).drew;obtain⟨C,D,E⟩:=bU H K u5;clear H K u5 t u3 c;go_wp2_with fail;go_region;go_wp2_with fail;go_ret;refine⟨rfl,⟨⟨a,_,n4,n5,n6,n7,s,?_,D.O,HS.O,N.O⟩,z,one,aT,λx T=>A.O x (by simp[T])⟩,E.O⟩;simpa using C.O
def zW:(af.info? 38).map (λi=>(i.zero,i.size,i.bytes))=Z (Z oh,1,24):=cC
def BH(cap:Nat)(w:aw)(h1:1<=cap)(h8:cap<=8):aF af 30 #[J V cap] w λe w'=>∃g pl,e=av (aB #[aq (Z ⟨g,0,I⟩),J V 0])/\ko w' g pl cap []/\cS cr w w'/\w.heap.size<=g/\w.heap.size<=pl:=by
 obtain⟨i0,hi,b,c,d⟩:=cY zW;obtain⟨r,h,k,l⟩:=cA hi b c d;clear hi b c d;have B:¬(cap:Int)<1:=z;have C:¬(8:Int)<cap:=z;go_enter func30,ntmps30;go_wp2_with (at_make;go_loud (refine wpList_make_full _ rfl _ _ 191 rfl w.heap.size 38 i0 oh 1 underlying191 r.O h.O k.O _ _ _ _ cap rfl rfl rfl rfl ?b2 ?b3 ?b4 ?_));case b2=>rw[l.O];omega
 case b3=>unfold maxLen;omega
 intro w1 rO g1;have s:∃cs,aK w1 w.heap.size 38 cs/\cs.size=cap*1:=by
  rcases rO.2 with⟨e,_⟩ | ⟨g,D,dx,e,_,hh,_,_,t,_⟩
  ·cases e
  ·simp only[Value.slice.injEq,bf,Addr.mk.injEq]at e;obtain⟨⟨rfl,_⟩,_,rfl⟩:=e;exact⟨dx,hh,z⟩
 have m:aC w w1:=(ao _ w).grown g1 (aj _) (λj u=>by cases u);clear rO g1;obtain⟨n,a,f⟩:=s;have q:=m.size;have lt:=a.lt;obtain⟨E,HS,y,A,o⟩:=gY lt f a m q;clear lt f a m q;go_wp2_with fail;refine ax (v:=aB #[aq (Z ⟨w1.heap.size,0,I⟩),J V 0]) (by simp[aV,results30,go_sem]) rfl ?_;refine⟨_,w.heap.size,rfl,⟨⟨0,n,0,0,0,0,z,aK.new w1 195 _,y.O.alloc _,HS.O,λi x p=>by simp at p⟩,dt,h1,h8,λx p=>by simp at p⟩,(cS.bn A.O).alloc _,o.O,aj _⟩
def AF(m:Int)(w:aw)(h:m<1\/8<m):aF af 30 #[J V m] w λe w'=>e=av (aB #[aq I,J V 1])/\w'=w:=by
 by_cases h1:m<1
 ·clear h;go_enter func30,ntmps30;go_wp2_with fail;refine ax (v:=aB #[aq I,J V 1]) (by simp[aV,results30,go_sem]) rfl ⟨rfl,rfl⟩
 ·have h2:8<m:=z;clear h;go_enter func30,ntmps30;go_wp2_with fail;refine ax (v:=aB #[aq I,J V 1]) (by simp[aV,results30,go_sem]) rfl ⟨rfl,rfl⟩
def He{w:aw}{g pl cap:Nat}{q:List (List Value)}(h:ko w g pl cap q):∃n5:Int,w.cell? ⟨g,5,I⟩=Z (J V n5)/\∀v,ko (w.setCell ⟨g,5,I⟩ (J V v)) g pl cap q:=by
 obtain⟨first,jt,n4,n5,n6,n7,c,a,b,d,hR⟩:=h.ex;refine⟨n5,by rw[a.cell];rfl,λv=>⟨⟨first,jt,n4,v,n6,n7,c,?_,b.dS (p:=⟨g,5,I⟩) (λe=>aK.jf a b aR e.symm) _,d,hR⟩,h.le,h.one,h.aT,h.wf⟩⟩;have B:=a.bC 5 (J V v);simpa using B
def Kg(g pl cap:Nat)(ov:Value)(q:List (List Value))(w:aw)(h:ko w g pl cap ([ov]::q)) :
  aF af 120 #[aq (Z ⟨g,0,I⟩)] w λe w'=>e=av (aB #[ov,ai true])/\ko w' g pl cap q/\cS (jK g pl) w w':=by
 obtain⟨first,jt,m4,m5,m6,m7,f,a,i,j,hR⟩:=h.ex;clear f j hR i;have c2:=a.cell 2;have f5:=a.frozen 5;simp at c2;have l:((q.length:Int)+1==0)=false:=dZ;have m:¬((q.length:Int)+1=0):=z;obtain⟨n5,c5,up⟩:=He h;have d:=up (dB (n5+1));have u2:=(cS.refl (jK g pl) w).setCell (p:=⟨g,5,I⟩) (.inl (.inl rfl)) (J V (dB (n5+1)));obtain⟨b,c⟩:=bu u2 d;clear up u2 d a;go_enter func120,ntmps120;go_wp2_with (refine(vK g pl cap ov q _ c.O).mono ?_;rintro e w3 ⟨rfl,k,u3⟩);refine ax (v:=aB #[ov,ai true]) (by simp[aV,results120,go_sem]) rfl ⟨rfl,k,b.O.trans u3⟩
def Hf(x:List Value):Prop:=∃  (c:Option Addr) (a b:Nat),x=[ae c a b]
def ES(g pl cap:Nat)(q:List (List Value))(w:aw)(h:ko w g pl cap q)(r:∀x∈q,Hf x) :
  aF af 116 #[aq (Z ⟨g,0,I⟩)] w λe w'=>∃v,e=av v/\w'.ownsRow w.heap.size 38 1 v q.length q.flatten/\ko w' g pl cap []/\cS (jK g pl) w w':=by
 obtain⟨i0,hi,s,t,y⟩:=cY zW;obtain⟨HI,E,G,H⟩:=cA hi s t y;clear hi s t y;obtain⟨first,jt,m4,m5,m6,m7,K,k,o,D,hR⟩:=h.ex;have lB:=k.lt;have lP:=o.lt;have le:=h.le;have aT:=h.aT;have c2:=k.cell 2;simp at c2;obtain⟨L,T⟩:=bu r h;clear K D hR k o r h;have u0:=cS.refl (jK g pl) w;have l:w.ownsRow w.heap.size 38 1 (ae I 0 0) 0 []:=⟨dt,.inl ⟨rfl,rfl⟩⟩;go_enter func116,ntmps116;go_wp2_with fail;clear c2;go_loopw [3,8] (λv i wr=>∃j:Nat,i=J V j/\j<=q.length/\wr.ownsRow w.heap.size 38 1 v j (q.take j).flatten/\ko wr g pl cap (q.drop j)/\cS (jK g pl) w wr) (λv i _=>q.length-(bS i).toNat);case atStart=>exact⟨0,rfl,z,l,T.O,u0⟩
 case round =>
  clear l u0;obtain⟨j,rfl,hj,own,R,u⟩:=hrel;have su:=u.size;by_cases n:j<q.length
  ·obtain⟨x,f⟩:∃x,q[j]? = Z x:=⟨_,ay n⟩;have U:q.drop j=x::q.drop (j+1):=by
    rw[List.drop_eq_getElem_cons n];rw[ay n]at f;simp only[bf]at f;rw[f]
   have ht:(q.take (j+1)).flatten=(q.take j).flatten++x:=by rw[ee,f];simp
   obtain⟨d,a,b,rfl⟩:=L.O x (List.mem_of_getElem? f);rw[U]at R;obtain⟨A,c,rfl⟩:=bA own;have HT:=au ht;have B:=au own;have M:=au u;have HR:=au R;clear ht U f own u R;have Tf:((j:Int)<(q.length:Int)):=z;go_wp2_with (first
    |(refine(vK g pl cap (ae d a b) (q.drop (j+1)) wr HR.O).mono ?_;rintro e w3 ⟨rfl,W,u3⟩;have C:=du B.O u3 (λi hi q=>by have:=(B.O.lt i hi).1;rcases q with q|q<;>omega))
    |(at_builtin;go_loud (refine dM _ rfl _ _ 191 rfl w.heap.size 38 i0 oh 1 24 underlying191 HI.O E.O G.O H.O rfl aR _ _ _ rfl (C.alloc _) ⟨w3.heap.size,0,I⟩ 1 1 [ae d a b] rfl rfl ?c1 ?c2 ?c3 ?c4 ?c5 ?_)))
   case c1=>exact fB w3 38 #[ae d a b]
   case c2=>exact by intro u hu;simp at hu;repeat (first|(subst hu;rfl)|(rcases hu with rfl|hu;rfl))
   case c3=>unfold maxLen;omega
   case c4=>omega
   case c5=>have:=u3.size;simp;omega
   intro v5 w5 m g5 _;have u5:=eT g5;have X:=(W.alloc (.cells #[ae d a b] 38)).dW u5 (λq=>by have:=((C.alloc (.cells #[ae d a b] 38)).lt g q).1;omega) (λq=>by have:=((C.alloc (.cells #[ae d a b] 38)).lt pl q).1;omega);have Y:=((M.O.trans u3).alloc (.cells #[ae d a b] 38)).step u5 (λi q=>.inr ((C.alloc (.cells #[ae d a b] 38)).lt i q).1);obtain⟨N,P,Q⟩:=bU X Y m;clear X Y m g5 u5 W u3 C;go_wp2_with fail;go_roundw;case rel=>exact⟨j+1,by go_num,z,by rw[HT.O];exact Q.O,N.O,P.O⟩
   case measure=>simp[bS];omega
  ·have S:j=q.length:=z;subst S;rw[List.drop_length]at R;rw[cT]at own;obtain⟨A,c,rfl⟩:=bA own;obtain⟨first,jt,n4,n5,n6,n7,K,k,o,D,hR⟩:=R.ex;have d2:g≠pl:=aK.jf k o aR;have c7:=k.cell 7;have f7:=k.frozen 7;simp at c7;obtain⟨B,M,HB,HP,HS⟩:=gY own u k o D;clear own u k o D hR R;go_wp2_with fail;go_ret;have BB:=HB.O.bC 7 (J V (dB (n7+q.length)));refine⟨_,rfl,du B.O (cS.setCell (F:=One g) (p:=⟨g,7,I⟩) (cS.refl _ _) (.inl rfl) _) (λi hi e=>by have:=(B.O.lt i hi).1;rw[show i=g from e]at this;omega),⟨⟨first,jt,n4,n5,n6,dB (n7+q.length),K,by simpa using BB,HP.O.dS (p:=⟨g,7,I⟩) (λe=>d2 e.symm) _,HS.O,λi x f=>by simp at f⟩,dt,T.O.one,aT,λx f=>by simp at f⟩,M.O.setCell (p:=⟨g,7,I⟩) (.inl (.inl rfl)) _⟩
section
theorem iG.high{w w':aw}{g:Nat}{r:M.Rd}{F:Nat->Prop}(h:iG w g r)(u:cS F w w')(hF:∀i,F i->g<i):iG w' g r:=by
 obtain⟨A,n,c,d,⟨h1,h2,h3⟩,f,j,a⟩:=h;refine⟨A,n,c,d.dW u (λq=>jy _ (hF _ q)),⟨h1,h2,λh0=>?_⟩,f,j,a⟩;obtain⟨b,off,cs,e,k,l⟩:=h3 h0;exact⟨b,off,cs,e,k.dW u (λq=>by have:=hF _ q;have:=a h0 b off e;omega),l⟩
structure PD where
 l:Bool
 st:Bool
 pt:Int
 pi:Int
 wd:Bool
 ba:Int
 ti:Int
 sy:Bool
 ke:Int
abbrev Df(d:PD):Array Value:=#[ai d.l,ai d.st,J bI d.pt,J V d.pi,ai d.wd,J V d.ba,J V d.ti,ai d.sy,J V d.ke]
structure PS(w0:aw)(r2 g r5 r7 r8:Nat)(wr:aw)(rd:M.Rd)(ff:Int)(d:PD):Prop where
 rd:iG wr g rd
 b2:aK wr r2 160 (Df ⟨false,false,0,0,false,0,0,false,0⟩)
 h2:r2<g
 b5:aK wr r5 143 #[aq (Z ⟨g,0,I⟩)]
 b7:aK wr r7 5 #[J bI ff]
 b8:aK wr r8 160 (Df d)
 bl:aC w0 wr
 h5:g<r5
 h7:g<r7
 h8:g<r8
 hg:w0.heap.size<=g
 t:0<=ff/\ff<=255
section
variable {w0 wr w':aw} {r2 g r5 r7 r8:Nat} {rd OE:M.Rd} {ff:Int} {d d':PD}
theorem PS.high{F:Nat->Prop}(h:PS w0 r2 g r5 r7 r8 wr rd ff d)(u:cS F wr w')(hF:∀i,F i->g<i/\i≠r5/\i≠r7/\i≠r8):PS w0 r2 g r5 r7 r8 w' rd ff d:=
 ⟨h.rd.high u (λi q=>(hF i q).1),h.b2.dW u (λq=>by have:=(hF _ q).1;have:=h.h2;omega),h.h2,h.b5.dW u (λq=>(hF _ q).2.1 rfl),h.b7.dW u (λq=>(hF _ q).2.2.1 rfl),h.b8.dW u (λq=>(hF _ q).2.2.2 rfl),
  h.bl.trans (u.below h.bl.size (λi q=>by have:=(hF i q).1;have:=h.hg;omega)),h.h5,h.h7,h.h8,h.hg,h.t⟩
theorem PS.drewN(h:PS w0 r2 g r5 r7 r8 wr rd ff d)(k:Nat):PS w0 r2 g r5 r7 r8 (wr.drewN k) rd ff d:=h.high (F:=cr) ((cS.refl _ _).drewN k) (λ_ q=>q.elim)
theorem PS.alloc(h:PS w0 r2 g r5 r7 r8 wr rd ff d)(o:Obj):PS w0 r2 g r5 r7 r8 (wr.alloc o) rd ff d:=h.high (F:=cr) ((cS.refl _ _).alloc o) (λ_ q=>q.elim)
theorem PS.call(h:PS w0 r2 g r5 r7 r8 wr rd ff d)(R:iG w' g OE)(u:cS (One g) wr w'):PS w0 r2 g r5 r7 r8 w' OE ff d:=
 ⟨R,h.b2.dW u (λq=>by have:=h.h2;rw[show r2=g from q]at this;omega),h.h2,h.b5.dW u (λq=>by have:=h.h5;rw[show r5=g from q]at this;omega),h.b7.dW u (λq=>by have:=h.h7;rw[show r7=g from q]at this;omega),h.b8.dW u (λq=>by have:=h.h8;rw[show r8=g from q]at this;omega),
  h.bl.trans (u.below h.bl.size (λi q=>by rw[show i=g from q];exact h.hg)),h.h5,h.h7,h.h8,h.hg,h.t⟩
theorem PS.yD(h:PS w0 r2 g r5 r7 r8 wr rd ff d)(i:Nat)(v:Value)(e:(Df d).setIfInBounds i v=Df d'):PS w0 r2 g r5 r7 r8 (wr.setCell ⟨r8,i,I⟩ v) rd ff d':=by
 have u:cS (One r8) wr (wr.setCell ⟨r8,i,I⟩ v):=(cS.refl (One r8) wr).setCell (p:=⟨r8,i,I⟩) (.inl rfl) v;refine⟨h.rd.high u (λi q=>by rw[show i=r8 from q];exact h.h8),h.b2.dW u (λq=>by have:=h.h2;have:=h.h8;rw[show r2=r8 from q]at *;omega),h.h2,h.b5.dW u (aK.jf h.b5 h.b8 aR),h.b7.dW u (aK.jf h.b7 h.b8 aR),?_,h.bl.trans (u.below h.bl.size (λi q=>by have:=h.h8;have:=h.hg;rw[show i=r8 from q];omega)),h.h5,h.h7,h.h8,h.hg,h.t⟩;rw[<-e];exact h.b8.bC i v
theorem PS.byte(h:PS w0 r2 g r5 r7 r8 wr rd ff d):0<=(rd.num 1).1/\(rd.num 1).1<=255:=ev h.rd 1 z
end
def Pr(rd:M.Rd):M.Rd:=if(rd.num 1).1<128 then(rd.num 1).2 else((rd.num 1).2.num 1).2
section
variable (w0:aw) (r2 g r5 r7 r8:Nat) (rd:M.Rd) (ff:Int) (d:PD) (w:aw) (h:PS w0 r2 g r5 r7 r8 w rd ff d)
include h
theorem Gd:aF af 104 #[aq (Z ⟨r5,0,I⟩),aq (Z ⟨r8,0,I⟩)] w λe w'=>∃p wd,e=av (J V p)/\PS w0 r2 g r5 r7 r8 w' (Pr rd) ff { d with wd:=wd }:=by
 have c5:=h.b5.cell 0;simp at c5;have f:=h.byte;have H:=au h;clear h;go_enter func104,ntmps104;go_upto_region 2 with(refine(lW g rd w H.O.rd).mono ?_;rintro e w1 ⟨rfl,j,u1⟩)
 have H1:=au (H.O.call j u1);have a:Pr rd=if(rd.num 1).1<128 then(rd.num 1).2 else((rd.num 1).2.num 1).2:=rfl
 have b:=au a;clear j u1 c5 a;generalize s:rd.num 1=x at f b H1 ⊢;obtain⟨x,i⟩:=x;simp only at f b H1 ⊢;obtain⟨m,n⟩:=f;by_cases k:x<128
 ·rw[if_pos k]at b;go_wp2_with fail;go_ret;exact⟨_,d.wd,rfl,by rw[b.O];exact H1.O⟩
 ·rw[if_neg k]at b;have f8:=H1.O.b8.frozen 4;have o:=H1.O.b8.cell 4;simp at o;have c:=au (H1.O.yD (d':={ d with wd:=true }) 4 (ai true) rfl);have c5:=c.O.b5.cell 0;simp at c5;have q:=c.O.byte;clear H1;go_wp2_with (refine(lW g i _ c.O.rd).mono ?_;rintro e w2 ⟨rfl,l,u2⟩);have r:=au (c.O.call l u2);clear l u2;go_ret;exact⟨_,true,rfl,by rw[b.O];exact r.O⟩
theorem Gc:aF af 105 #[aq (Z ⟨r5,0,I⟩)] w λe w'=>∃p,e=av (J V p)/\PS w0 r2 g r5 r7 r8 w' (rd.num 1).2 ff d:=by
 have c5:=h.b5.cell 0;simp at c5;have b:=h.byte;have H:=au h;clear h;go_enter func105,ntmps105;go_wp2_with (refine(lW g rd w H.O.rd).mono ?_;rintro e w1 ⟨rfl,a,u1⟩);go_ret;exact⟨_,rfl,H.O.call a u1⟩
theorem Gb(a:Nat)(n:Int)(k:aK w a 197 #[J .u64 n]):aF af 106 #[aq (Z ⟨a,0,I⟩),aq (Z ⟨r8,0,I⟩)] w λe w'=>∃p sy,e=av (J V p)/\PS w0 r2 g r5 r7 r8 w' rd ff { d with sy:=sy }/\aK w' a 197 #[J .u64 n]:=by
 have b:=k.cell 0;simp at b;have r:a≠r8:=aK.jf k h.b8 aR;obtain⟨H,l⟩:=bu h k;clear h k;go_enter func106,ntmps106;go_upto_region 2 with(refine(xB n 5 1 w z).mono ?_;rintro e w1 ⟨⟨v,rfl⟩,j,m⟩;have c:=m.symm;subst c;have H1:=H.O.drewN j;have o:=l.O.drewN j;have f7:=H1.b8.frozen 7;have q:=H1.b8.cell 7;simp at q)
 have i:=H1.yD (d':={ d with sy:=v==1 }) 7 (ai (v==1)) rfl;have f:=o.dS (p:=⟨r8,7,I⟩) r (ai (v==1));refine aW (λY=>PS w0 r2 g r5 r7 r8 Y rd ff { d with sy:=v==1 }/\aK Y a 197 #[J .u64 n]) ⟨i,f⟩ ?_;clear H1 o f7 q i f b l H;rintro Y ⟨i,f⟩;have b:=f.cell 0;simp at b;obtain⟨s,l⟩:=bu i f;clear i f;go_wp2_with (refine(xB n 6 2 Y z).mono ?_;rintro e w1 ⟨⟨v2,rfl⟩,j2,m⟩;have c:=m.symm;subst c);go_ret;exact⟨_,_,rfl,s.O.drewN j2,l.O.drewN j2⟩
theorem Ga(a:Nat)(n:Int)(f:aK w a 197 #[J .u64 n]):aF af 108 #[aq (Z ⟨a,0,I⟩)] w λe w'=>∃p,e=av (J V p)/\PS w0 r2 g r5 r7 r8 w' rd ff d:=by
 have b:=f.cell 0;simp at b;have H:=au h;clear h f;go_enter func108,ntmps108;go_wp2_with (refine(xB n 0 5 w z).mono ?_;rintro e w1 ⟨⟨v,rfl⟩,j,i⟩;have c:=i.symm;subst c);go_ret;exact⟨_,rfl,H.O.drewN j⟩
end
theorem JC(r7:Nat)(ff bit:Int)(a0 a1:Addr)(R:Int->aw->Prop)(w:aw)(b:aK w r7 5 #[J bI ff])
  (c:bits .and bI ff bit≠0->aF af 104 #[aq (Z a0),aq (Z a1)] w λe w'=>∃p,e=av (J V p)/\R p w') :
  aF af 103 #[J bI bit,.func (.func 104) #[] #[aq (Z a0),aq (Z a1)],aq (Z ⟨r7,0,I⟩)] w λe w'=>∃p,e=av (J V p)/\if bits .and bI ff bit=0 then w'=w else R p w':=by
 have g:=b.cell 0;simp at g;by_cases a:bits .and bI ff bit=0
 ·have d:(bits .and bI ff bit==0)=true:=by simpa using a
  have f:=au a;clear c a b;go_enter func103,ntmps103;go_wp2_with fail;go_ret;first|exact⟨_,rfl,by rw[if_pos f.O]⟩|exact⟨⟨_,rfl⟩,rfl⟩|exact⟨_,rfl,rfl⟩|exact rfl
 ·have h:=au (c a);have d:(bits .and bI ff bit==0)=false:=by simpa using a
  have f:=au a;clear c a b;go_enter func103,ntmps103;go_wp2_with (refine h.O.mono ?_;rintro e w1 ⟨p,rfl,hR⟩);go_ret;first|exact⟨_,rfl,by rw[if_neg f.O];exact hR⟩|exact⟨_,rfl,hR⟩|exact hR
theorem JB(r7:Nat)(ff bit:Int)(a0:Addr)(R:Int->aw->Prop)(w:aw)(b:aK w r7 5 #[J bI ff])
  (c:bits .and bI ff bit≠0->aF af 105 #[aq (Z a0)] w λe w'=>∃p,e=av (J V p)/\R p w') :
  aF af 103 #[J bI bit,.func (.func 105) #[] #[aq (Z a0)],aq (Z ⟨r7,0,I⟩)] w λe w'=>∃p,e=av (J V p)/\if bits .and bI ff bit=0 then w'=w else R p w':=by
 have g:=b.cell 0;simp at g;by_cases a:bits .and bI ff bit=0
 ·have d:(bits .and bI ff bit==0)=true:=by simpa using a
  have f:=au a;clear c a b;go_enter func103,ntmps103;go_wp2_with fail;go_ret;first|exact⟨_,rfl,by rw[if_pos f.O]⟩|exact⟨⟨_,rfl⟩,rfl⟩|exact⟨_,rfl,rfl⟩|exact rfl
 ·have h:=au (c a);have d:(bits .and bI ff bit==0)=false:=by simpa using a
  have f:=au a;clear c a b;go_enter func103,ntmps103;go_wp2_with (refine h.O.mono ?_;rintro e w1 ⟨p,rfl,hR⟩);go_ret;first|exact⟨_,rfl,by rw[if_neg f.O];exact hR⟩|exact⟨_,rfl,hR⟩|exact hR
theorem JA(r7:Nat)(ff bit:Int)(a0 a1:Addr)(R:Int->aw->Prop)(w:aw)(b:aK w r7 5 #[J bI ff])
  (c:bits .and bI ff bit≠0->aF af 106 #[aq (Z a0),aq (Z a1)] w λe w'=>∃p,e=av (J V p)/\R p w') :
  aF af 103 #[J bI bit,.func (.func 106) #[] #[aq (Z a0),aq (Z a1)],aq (Z ⟨r7,0,I⟩)] w λe w'=>∃p,e=av (J V p)/\if bits .and bI ff bit=0 then w'=w else R p w':=by
 have g:=b.cell 0;simp at g;by_cases a:bits .and bI ff bit=0
 ·have d:(bits .and bI ff bit==0)=true:=by simpa using a
  have f:=au a;clear c a b;go_enter func103,ntmps103;go_wp2_with fail;go_ret;first|exact⟨_,rfl,by rw[if_pos f.O]⟩|exact⟨⟨_,rfl⟩,rfl⟩|exact⟨_,rfl,rfl⟩|exact rfl
 ·have h:=au (c a);have d:(bits .and bI ff bit==0)=false:=by simpa using a
  have f:=au a;clear c a b;go_enter func103,ntmps103;go_wp2_with (refine h.O.mono ?_;rintro e w1 ⟨p,rfl,hR⟩);go_ret;first|exact⟨_,rfl,by rw[if_neg f.O];exact hR⟩|exact⟨_,rfl,hR⟩|exact hR
theorem Jz(r7:Nat)(ff bit:Int)(a0:Addr)(R:Int->aw->Prop)(w:aw)(b:aK w r7 5 #[J bI ff])
  (c:bits .and bI ff bit≠0->aF af 108 #[aq (Z a0)] w λe w'=>∃p,e=av (J V p)/\R p w') :
  aF af 103 #[J bI bit,.func (.func 108) #[] #[aq (Z a0)],aq (Z ⟨r7,0,I⟩)] w λe w'=>∃p,e=av (J V p)/\if bits .and bI ff bit=0 then w'=w else R p w':=by
 have g:=b.cell 0;simp at g;by_cases a:bits .and bI ff bit=0
 ·have d:(bits .and bI ff bit==0)=true:=by simpa using a
  have f:=au a;clear c a b;go_enter func103,ntmps103;go_wp2_with fail;go_ret;first|exact⟨_,rfl,by rw[if_pos f.O]⟩|exact⟨⟨_,rfl⟩,rfl⟩|exact⟨_,rfl,rfl⟩|exact rfl
 ·have h:=au (c a);have d:(bits .and bI ff bit==0)=false:=by simpa using a
  have f:=au a;clear c a b;go_enter func103,ntmps103;go_wp2_with (refine h.O.mono ?_;rintro e w1 ⟨p,rfl,hR⟩);go_ret;first|exact⟨_,rfl,by rw[if_neg f.O];exact hR⟩|exact⟨_,rfl,hR⟩|exact hR
def oQ(b:M.cQ):Int×M.Rd:=if(M.Rd.num ⟨b,0⟩ 1).1 / 128 % 2=1 then(M.Rd.num ⟨b,0⟩ 1).2.num 1 else(0,(M.Rd.num ⟨b,0⟩ 1).2)
def Nj(b:M.cQ):M.Rd:=if(oQ b).1 / 128 % 2=1 then Pr (oQ b).2 else(oQ b).2
def KF(b:M.cQ):M.Rd:=if(oQ b).1 / 64 % 2=1 then((Nj b).num 1).2 else Nj b
def vu(b:M.cQ):M.Rd:=if(oQ b).1 / 32 % 2=1\/(oQ b).1 / 16 % 2=1 then((KF b).num 1).2 else KF b
theorem Kt(b:M.cQ):M.lx b=if(vu b).end_=3 then false else if¬((M.Rd.num ⟨b,0⟩ 1).1 / 16 % 2=1)\/(M.Rd.num ⟨b,0⟩ 1).1 % 8≠0\/b.length<=b.length-(vu b).left.length then false else decide (b.getD (b.length-(vu b).left.length) 0 % 2=0):=by
 unfold M.lx vu KF Nj oQ Pr;rfl
theorem Ij(x:Int)(h:0<=x/\x<=255):((bits .and bI x 128=0)↔¬x / 128 % 2=1)/\((bits .and bI x 64=0)↔¬x / 64 % 2=1)/\((bits .and bI x 32=0)↔¬x / 32 % 2=1)/\((bits .and bI x 16=0)↔¬x / 16 % 2=1)/\((bits .and bI x 48=0)↔¬(x / 32 % 2=1\/x / 16 % 2=1))/\bits .and bI x 7=x % 8:=by
 obtain⟨h0,h1⟩:=h;obtain⟨n,rfl⟩:=Int.eq_ofNat_of_zero_le h0;have a:n<256:=z;have key:∀m:Fin 256,((m.val &&& 128=0)↔¬m.val / 128 % 2=1)/\((m.val &&& 64=0)↔¬m.val / 64 % 2=1)/\((m.val &&& 32=0)↔¬m.val / 32 % 2=1)/\((m.val &&& 16=0)↔¬m.val / 16 % 2=1)/\((m.val &&& 48=0)↔¬(m.val / 32 % 2=1\/m.val / 16 % 2=1)):=by decide +kernel
 obtain⟨b,c,d,f,g⟩:=key ⟨n,a⟩;simp only at b c d f g;have e (m:Nat) (hm:m<256):bits .and bI (n:Int) (m:Int)=((n &&& m:Nat):Int):=(bits_nat bI 8 aR wraps_u8 n m a hm).1;have i:=e 128 aR;have j:=e 64 aR;have k:=e 32 aR;have l:=e 16 aR;have o:=e 48 aR;refine⟨?_,?_,?_,?_,?_,bits_mask bI 8 aR wraps_u8 3 aR n z z⟩
 ·rw[show(128:Int)=((128:Nat):Int) from rfl,i];omega
 ·rw[show(64:Int)=((64:Nat):Int) from rfl,j];omega
 ·rw[show(32:Int)=((32:Nat):Int) from rfl,k];omega
 ·rw[show(16:Int)=((16:Nat):Int) from rfl,l];omega
 ·rw[show(48:Int)=((48:Nat):Int) from rfl,o];omega
structure PR(b:M.cQ)(st:Bool)(pt n e:Int):Prop where
 bad:(vu b).end_=3->e=3
 RT:(vu b).end_≠3->e=0/\st=decide ((M.Rd.num ⟨b,0⟩ 1).1 / 16 % 2=1)/\pt=(M.Rd.num ⟨b,0⟩ 1).1 % 8/\n=(b.length:Int)-(vu b).left.length
theorem Ar(A:Option Addr)(n c:Nat)(b:M.cQ)(w:aw)(h:TB w A n b)(hz:A=I->c=0)(hn:n<=100000) :
  aF af 62 #[ae A n c] w λe w'=>∃d nn er,e=av (aB #[cg (Df d),J V nn,J V er])/\PR b d.st d.pt nn er/\aC w w':=by
 have hl:=h.len;have HT:=au h;clear h;go_enter func62,ntmps62;go_upto_region 2 with fail;obtain⟨r2,h2⟩:=dH w.heap.size;rw[<-h2];refine gu (λW=>aK W r2 160 (Df ⟨false,false,0,0,false,0,0,false,0⟩)/\TB W A n b/\aC w W) ⟨aK.newAt _ _ _ _ h2,HT.O.below ((ao _ w).alloc (aj _) _),(ao _ w).alloc (aj _) _⟩ ?_;rintro W ⟨x2,xT,xl⟩;have Tx:w.heap.size<=r2:=z;have l2:=x2.lt;clear h2 HT;obtain⟨TT,TV⟩:=bu x2 xl;refine(wz A n c b W xT hn hz).mono ?_;rintro e w1 ⟨⟨g,rfl,hg,G1⟩,b1⟩;have gw:w.heap.size<=g:=aP xl.size hg;have G:r2<g:=iU l2 hg;obtain⟨B2,BL,D⟩:=bU (x2.kept b1) (xl.trans (b1.mono xl.size)) G1;have lg:g<w1.heap.size:=by obtain⟨cs,hc⟩:=G1.cw;exact hc.lt
 clear x2 xT xl G1 b1;go_upto_region 2 with fail;obtain⟨r5,h5⟩:=dH w1.heap.size;rw[<-h5];refine aW (λY=>iG Y g ⟨b,0⟩/\aK Y r5 143 #[aq (Z ⟨g,0,I⟩)]/\aK Y r2 160 (Df ⟨false,false,0,0,false,0,0,false,0⟩)/\aC w Y) ⟨D.O.below ((ao _ _).alloc (aj _) _),aK.newAt _ _ _ _ h5,B2.O.alloc _,BL.O.alloc BL.O.size _⟩ ?_;rintro Y ⟨yG,y5,y2,yl⟩;have g5:g<r5:=z;have Ue:r2<r5:=z;clear h5 D B2 BL lg TT TV;have c5:=y5.cell 0;simp at c5;obtain⟨T,H2,H,D⟩:=cA y5 y2 yl yG;have l5:=y5.lt;clear y5 y2 yl yG;go_upto_if 18 with(refine(lW g ⟨b,0⟩ Y D.O).mono ?_;rintro e w2 ⟨rfl,R1,u1⟩)
 have K:=ev D.O 1 z;generalize hx:M.Rd.num ⟨b,0⟩ 1=x at K R1 ⊢;obtain⟨x,L⟩:=x;simp only at K R1 ⊢;have K:0<=x/\x<=255:=K;obtain⟨r7,h7⟩:=dH w2.heap.size;rw[<-h7];have U:=T.O.dW u1 (λq=>by rw[show r5=g from q]at g5;exact jy _ g5);have q2:=H2.O.dW u1 (λq=>by rw[show r2=g from q]at G;exact jy _ G);have ql:=H.O.trans (u1.below H.O.size (λi q=>by rw[show i=g from q];exact gw));refine aW (λTo=>iG To g L/\aK To r5 143 #[aq (Z ⟨g,0,I⟩)]/\aK To r7 5 #[J bI 0]/\aK To r2 160 (Df ⟨false,false,0,0,false,0,0,false,0⟩)/\aC w To) ⟨R1.below ((ao _ _).alloc (aj _) _),U.alloc _,aK.newAt _ _ _ _ h7,q2.alloc _,ql.alloc ql.size _⟩ ?_;have Uf:=U.lt;have g7:g<r7:=z;clear U q2 ql h7 R1 T H2 H D u1 c5;rintro To ⟨zG,z5,z7,z2,zl⟩;have c5:=z5.cell 0;have f7:=z7.frozen 0;have c7:=z7.cell 0;simp at c5 c7;obtain⟨T,H7,H2,H,D⟩:=gY z5 z7 z2 zl zG;clear z5 z7 z2 zl zG;have hT:oQ b=if x / 128 % 2=1 then L.num 1 else(0,L):=by unfold oQ;rw[hx]
 have HX:=au hx;have u:=Ij x K;have Tp:=au u;have TW:=u.2.2.2.2.2;clear hx u;go_cut [] (λwc=>iG wc g (oQ b).2/\aK wc r5 143 #[aq (Z ⟨g,0,I⟩)]/\aK wc r7 5 #[J bI (oQ b).1]/\aK wc r2 160 (Df ⟨false,false,0,0,false,0,0,false,0⟩)/\aC w wc/\0<=(oQ b).1/\(oQ b).1<=255);case first =>
  by_cases h1:x / 128 % 2=1
  ·rw[if_pos h1]at hT;have X:(bits .and bI x 128 !=0)=true:=by have:=Tp.O.1;simp;intro q;exact(this.1 q) h1
   have Tq:=au hT;clear hT h1;rw[X];go_wp2_with (refine(lW g L To D.O).mono ?_;rintro e w3 ⟨rfl,R3,u3⟩;have F7:=(H7.O.dW u3 (λq=>by rw[show r7=g from q]at g7;exact jy _ g7));have Ug:=F7.frozen 0;have TX:=F7.cell 0;simp at TX;have Ts:=au F7;have TY:=au R3;have Tt:=au u3;clear F7 R3 u3);go_meet;have Ty:=ev D.O 1 z;have uu:cS (One r7) w3 (w3.setCell ⟨r7,0,I⟩ (J bI (L.num 1).1)):=(cS.refl (One r7) w3).setCell (p:=⟨r7,0,I⟩) (.inl rfl) _;have b5:=(T.O.dW Tt.O (λq=>by rw[show r5=g from q]at g5;exact jy _ g5));have b2:=(H2.O.dW Tt.O (λq=>by rw[show r2=g from q]at G;exact jy _ G));have bl:=H.O.trans (Tt.O.below H.O.size (λi q=>by rw[show i=g from q];exact gw));rw[Tq.O];exact⟨TY.O.high uu (λi q=>by rw[show i=r7 from q];exact g7),b5.dW uu (aK.jf b5 Ts.O aR),Ts.O.bC 0 _,b2.dW uu (aK.jf b2 Ts.O aR),bl.trans (uu.below bl.size (λi q=>by rw[show i=r7 from q];omega)),Ty.1,Ty.2⟩
  ·rw[if_neg h1]at hT;have X:(bits .and bI x 128 !=0)=false:=by have:=Tp.O.1;simp;exact this.2 h1
   have Tq:=au hT;clear hT h1;rw[X];go_wp2_with fail;go_meet;rw[Tq.O];exact⟨D.O,T.O,H7.O,H2.O,H.O,z,z⟩
 case rest =>
  clear hT;obtain⟨yG,y5,y7,y2,yl,t0,t1⟩:=hcut;have c5:=y5.cell 0;have c7:=y7.cell 0;simp at c5 c7;obtain⟨T,H7,H2,H,D⟩:=gY y5 y7 y2 yl yG;clear y5 y7 y2 yl yG;go_upto_region 7 with fail;clear f7 TW;obtain⟨r8,h8⟩:=dH wc.heap.size;rw[<-h8];generalize Tz:(bits .and bI x 16 !=0)=st;generalize (bits .and bI x 32 !=0)=l;have Tl:st=decide (x / 16 % 2=1):=by
   have:=Tp.O.2.2.2.1;rw[<-Tz];by_cases q:x / 16 % 2=1
   ·rw[decide_eq_true q];simp;intro N;exact(this.1 N) q
   ·rw[decide_eq_false q];simp;exact this.2 q
  have T8:=au Tl;clear Tz Tl;have r:=Ij (oQ b).1 ⟨t0,t1⟩;refine aW (λP=>PS w r2 g r5 r7 r8 P (oQ b).2 (oQ b).1 ⟨l,st,x % 8,0,false,0,0,false,0⟩) ⟨D.O.below ((ao _ _).alloc (aj _) _),H2.O.alloc _,G,T.O.alloc _,H7.O.alloc _,aK.newAt _ _ _ _ h8,H.O.alloc H.O.size _,g5,g7,by have:=T.O.lt;omega,gw,⟨t0,t1⟩⟩ ?_;clear T H7 H2 H D c5 c7 h8;intro P1 Tf;obtain⟨HA,Q⟩:=bu (JC r7 (oQ b).1 128 ⟨r5,0,I⟩ ⟨r8,0,I⟩ (λp W=>∃wd,PS w r2 g r5 r7 r8 W (Pr (oQ b).2) (oQ b).1 ⟨l,st,x % 8,0,wd,0,0,false,0⟩) P1 Tf.b7 (λ_=>(Gd w r2 g r5 r7 r8 _ _ _ P1 Tf).mono (by rintro e W ⟨p,wd,h1,h2⟩;exact⟨p,h1,wd,h2⟩))) Tf;clear Tf;have hA:∀W:aw,(∃p:Int,if bits .and bI (oQ b).1 128=0 then W=P1 else ∃wd,PS w r2 g r5 r7 r8 W (Pr (oQ b).2) (oQ b).1 ⟨l,st,x % 8,0,wd,0,0,false,0⟩)->∃wd,PS w r2 g r5 r7 r8 W (Nj b) (oQ b).1 ⟨l,st,x % 8,0,wd,0,0,false,0⟩:=by
   rintro W ⟨p,q⟩;unfold Nj;by_cases y:bits .and bI (oQ b).1 128=0
   ·rw[if_pos y]at q;rw[if_neg (r.1.1 y),q];exact⟨false,Q.O⟩
   ·rw[if_neg y]at q;rw[if_pos (by
     by_cases N:(oQ b).1 / 128 % 2=1
     ·exact N
     ·exact absurd (r.1.2 N) y)];exact q
  have TA:=au hA;clear hA;go_upto_region 8 with(refine HA.O.mono ?_;rintro e P2 ⟨k,rfl,R⟩;obtain⟨wd,s⟩:=TA.O P2 ⟨k,R⟩;clear R;have f3:=s.b8.frozen 3;have k3:=s.b8.cell 3;simp at k3;have TC:=au s;clear s)
  refine aW (λP=>PS w r2 g r5 r7 r8 P (Nj b) (oQ b).1 ⟨l,st,x % 8,k,wd,0,0,false,0⟩) (TC.O.yD (d':=⟨l,st,x % 8,k,wd,0,0,false,0⟩) 3 (J V k) rfl) ?_;clear TC f3 k3 HA TA Q P2;intro P2 s;obtain⟨HB,Q⟩:=bu (JB r7 (oQ b).1 64 ⟨r5,0,I⟩ (λp W=>PS w r2 g r5 r7 r8 W ((Nj b).num 1).2 (oQ b).1 ⟨l,st,x % 8,k,wd,0,0,false,0⟩) P2 s.b7 (λ_=>Gc w r2 g r5 r7 r8 _ _ _ P2 s)) s;clear s;have hB:∀(p:Int) (W:aw),(if bits .and bI (oQ b).1 64=0 then W=P2 else PS w r2 g r5 r7 r8 W ((Nj b).num 1).2 (oQ b).1 ⟨l,st,x % 8,k,wd,0,0,false,0⟩)->PS w r2 g r5 r7 r8 W (KF b) (oQ b).1 ⟨l,st,x % 8,k,wd,0,0,false,0⟩:=by
   intro p W q;unfold KF;by_cases y:bits .and bI (oQ b).1 64=0
   ·rw[if_pos y]at q;rw[if_neg (r.2.1.1 y),q];exact Q.O
   ·rw[if_neg y]at q;rw[if_pos (by
     by_cases N:(oQ b).1 / 64 % 2=1
     ·exact N
     ·exact absurd (r.2.1.2 N) y)];exact q
  have TD:=au hB;clear hB;go_upto_region 9 with(refine HB.O.mono ?_;rintro e P3 ⟨o,rfl,R⟩;have m:=TD.O o P3 R;clear R;have f5:=m.b8.frozen 5;have k5:=m.b8.cell 5;simp at k5;have E:=au m;clear m)
  refine aW (λP=>PS w r2 g r5 r7 r8 P (KF b) (oQ b).1 ⟨l,st,x % 8,k,wd,o,0,false,0⟩) (E.O.yD (d':=⟨l,st,x % 8,k,wd,o,0,false,0⟩) 5 (J V o) rfl) ?_;clear E f5 k5 HB TD Q P3;intro P3 m;have c7:=m.b7.cell 0;have c5:=m.b5.cell 0;simp at c7 c5;have TE:=m.b8.lt;have TF:=m.b7.lt;have TG:=m.b5.lt;have E:=au m;clear m;go_upto_if 41 with fail;obtain⟨f,xx⟩:=dH P3.heap.size;rw[<-xx];have g10:g<f:=by have:=E.O.h5;omega
  have n105:f≠r5:=z;have n107:f≠r7:=z;have n108:f≠r8:=z;refine aW (λP=>PS w r2 g r5 r7 r8 P (KF b) (oQ b).1 ⟨l,st,x % 8,k,wd,o,0,false,0⟩/\aK P f 197 #[J .u64 0]) ⟨E.O.alloc _,aK.newAt _ _ _ _ xx⟩ ?_;clear E c5 c7 TE TF TG xx;rintro P4 ⟨Tu,t⟩;have c5:=Tu.b5.cell 0;have f10:=t.frozen 0;have T9:=t.cell 0;simp at c5 T9;obtain⟨Tv,Tm⟩:=bu Tu t;clear Tu t;go_cut [] (λwc=>∃n,PS w r2 g r5 r7 r8 wc (vu b) (oQ b).1 ⟨l,st,x % 8,k,wd,o,0,false,0⟩/\aK wc f 197 #[J .u64 n]);case first =>
   have hC:vu b=if(oQ b).1 / 32 % 2=1\/(oQ b).1 / 16 % 2=1 then((KF b).num 1).2 else KF b:=rfl
   by_cases h1:(oQ b).1 / 32 % 2=1\/(oQ b).1 / 16 % 2=1
   ·rw[if_pos h1]at hC;have X:(bits .and bI (oQ b).1 48 !=0)=true:=by have:=r.2.2.2.2.1;simp;intro q;exact(this.1 q) h1
    obtain⟨HC,Uc⟩:=bu hC r;clear hC h1 r;rw[X];go_wp2_with (refine(lW g (KF b) P4 Tv.O.rd).mono ?_;rintro e P5 ⟨rfl,R5,u5⟩;have B:=Tv.O.call R5 u5;have Tg:=Tm.O.dW u5 (λq=>by rw[show f=g from q]at g10;exact jy _ g10);have Ud:=Tg.frozen 0;have TH:=Tg.cell 0;simp at TH;have Ua:=au B;have Ub:=au Tg;clear R5 u5 B Tg);go_meet;rw[HC.O];exact⟨_,Ua.O.high ((cS.refl (One f) P5).setCell (p:=⟨f,0,I⟩) (.inl rfl) _) (λi q=>by rw[show i=f from q];exact⟨g10,n105,n107,n108⟩),Ub.O.bC 0 _⟩
   ·rw[if_neg h1]at hC;have X:(bits .and bI (oQ b).1 48 !=0)=false:=by have:=r.2.2.2.2.1;simp;exact this.2 h1
    have HC:=au hC;clear hC h1;rw[X];go_wp2_with fail;go_meet;rw[HC.O];exact⟨0,Tv.O,Tm.O⟩
  case rest =>
   obtain⟨n0,B,t⟩:=hcut;have HD:=au (JA r7 (oQ b).1 32 ⟨f,0,I⟩ ⟨r8,0,I⟩ (λp W=>∃sy,PS w r2 g r5 r7 r8 W (vu b) (oQ b).1 ⟨l,st,x % 8,k,wd,o,0,sy,0⟩/\aK W f 197 #[J .u64 n0]) wc B.b7 (λ_=>(Gb w r2 g r5 r7 r8 _ _ _ wc B f n0 t).mono (by rintro e W ⟨p,sy,h1,h2,h3⟩;exact⟨p,h1,sy,h2,h3⟩)));have hD:∀(p:Int) (W:aw),(if bits .and bI (oQ b).1 32=0 then W=wc else ∃sy,PS w r2 g r5 r7 r8 W (vu b) (oQ b).1 ⟨l,st,x % 8,k,wd,o,0,sy,0⟩/\aK W f 197 #[J .u64 n0])->∃sy,PS w r2 g r5 r7 r8 W (vu b) (oQ b).1 ⟨l,st,x % 8,k,wd,o,0,sy,0⟩/\aK W f 197 #[J .u64 n0]:=by
    intro p W q;by_cases y:bits .and bI (oQ b).1 32=0
    ·rw[if_pos y]at q;rw[q];exact⟨false,B,t⟩
    ·rw[if_neg y]at q;exact q
   have TI:=au hD;clear hD B t r;go_upto_region 13 with(refine HD.O.mono ?_;rintro e P6 ⟨F,rfl,R⟩;obtain⟨sy,Ti,b6⟩:=TI.O F P6 R;clear R;have f6:=Ti.b8.frozen 6;have k6:=Ti.b8.cell 6;simp at k6;have TJ:=au Ti;have TM:=au b6;clear Ti b6)
   have Tw:f≠r8:=n108;refine aW (λP=>PS w r2 g r5 r7 r8 P (vu b) (oQ b).1 ⟨l,st,x % 8,k,wd,o,F,sy,0⟩/\aK P f 197 #[J .u64 n0]) ⟨TJ.O.yD (d':=⟨l,st,x % 8,k,wd,o,F,sy,0⟩) 6 (J V F) rfl,TM.O.dS (p:=⟨r8,6,I⟩) Tw _⟩ ?_;clear TJ TM f6 k6 HD TI P6;rintro P7 ⟨Tj,b7⟩;have HE:=au (Jz r7 (oQ b).1 16 ⟨f,0,I⟩ (λp W=>PS w r2 g r5 r7 r8 W (vu b) (oQ b).1 ⟨l,st,x % 8,k,wd,o,F,sy,0⟩) P7 Tj.b7 (λ_=>(Ga w r2 g r5 r7 r8 _ _ _ P7 Tj f n0 b7)));have hE:∀(p:Int) (W:aw),(if bits .and bI (oQ b).1 16=0 then W=P7 else PS w r2 g r5 r7 r8 W (vu b) (oQ b).1 ⟨l,st,x % 8,k,wd,o,F,sy,0⟩)->PS w r2 g r5 r7 r8 W (vu b) (oQ b).1 ⟨l,st,x % 8,k,wd,o,F,sy,0⟩:=by
    intro p W q;by_cases y:bits .and bI (oQ b).1 16=0
    ·rw[if_pos y]at q;rw[q];exact Tj
    ·rw[if_neg y]at q;exact q
   have TN:=au hE;clear hE Tj b7;go_upto_region 14 with(refine HE.O.mono ?_;rintro e P8 ⟨p8,rfl,R⟩;have Tk:=TN.O p8 P8 R;clear R;have f8:=Tk.b8.frozen 8;have k8:=Tk.b8.cell 8;simp at k8;have TO:=au Tk;clear Tk)
   refine aW (λP=>PS w r2 g r5 r7 r8 P (vu b) (oQ b).1 ⟨l,st,x % 8,k,wd,o,F,sy,p8⟩) (TO.O.yD (d':=⟨l,st,x % 8,k,wd,o,F,sy,p8⟩) 8 (J V p8) rfl) ?_;clear TO f8 k8 HE TN P8;intro P9 j;have c5:=j.b5.cell 0;have e0:=j.b8.cell 0;have e1:=j.b8.cell 1;have e2:=j.b8.cell 2;have e3:=j.b8.cell 3;have e4:=j.b8.cell 4;have e5:=j.b8.cell 5;have e6:=j.b8.cell 6;have e7:=j.b8.cell 7;have e8:=j.b8.cell 8;simp at c5 e0 e1 e2 e3 e4 e5 e6 e7 e8;have S:=au j;have TP:(vu b).left.length<=maxLen:=by
    obtain⟨A',n',c',Uh,⟨Ui,Uj,Uk⟩,Ul,Um,Un⟩:=j.rd;omega
   have TQ:(af.info? 160).map (·.size)=Z 9:=cC;have Tn:∀d:PD,∀v∈(Df d).toList,v.oneCell'=true:=λd v hv=>by
    simp at hv;rcases hv with rfl|rfl|rfl|rfl|rfl|rfl|rfl|rfl|rfl<;>rfl
   obtain⟨TR,TS⟩:=bu TQ Tn;have Uo:V.wrap ((n:Int)-((vu b).left.length:Int))=(n:Int)-((vu b).left.length:Int):=cz _ ⟨by unfold maxLen at TP;omega,z⟩;clear j TQ Tn TP;by_cases h3:(vu b).end_=3
   ·have X:((vu b).end_==3)=true:=by simp[h3]
    go_wp2_with (first
     |(refine(lr g (vu b) P9 S.O.rd).mono ?_;rintro e w1 ⟨rfl,hw⟩;have C:=hw.symm;subst C)
     |(refine(qy g (vu b) P9 S.O.rd).mono ?_;rintro e w1 ⟨rfl,hw⟩;have C:=hw.symm;subst C)
     |(refine jb _ rfl (.tmp 2) (.tmp 58) 160 rfl r2 0 160 (Df ⟨false,false,0,0,false,0,0,false,0⟩) rfl (Df ⟨false,false,0,0,false,0,0,false,0⟩) rfl TR.O S.O.b2 (aj _) (TS.O _) ?_;intro w6 a v6))
    have a:aK w6 r2 160 (Df ⟨false,false,0,0,false,0,0,false,0⟩):=a;have q0:=a.cell 0;have q1:=a.cell 1;have q2:=a.cell 2;have q3:=a.cell 3;have q4:=a.cell 4;have U:=a.cell 5;have q6:=a.cell 6;have q7:=a.cell 7;have q8:=a.cell 8;simp at q0 q1 q2 q3 q4 U q6 q7 q8;refine ax (v:=aB #[cg (Df ⟨false,false,0,0,false,0,0,false,0⟩),J V 0,J V 3]) (by simp[aV,results62,go_sem,q0,q1,q2,q3,q4,U,q6,q7,q8]) rfl ⟨⟨false,false,0,0,false,0,0,false,0⟩,0,3,rfl,⟨λ_=>rfl,λN=>absurd h3 N⟩,S.O.bl.trans (v6.below S.O.bl.size (λi q=>by rw[show i=r2 from q];exact Tx))⟩
   ·have X:((vu b).end_==3)=false:=by simp[h3]
    go_wp2_with (first
     |(refine(lr g (vu b) P9 S.O.rd).mono ?_;rintro e w1 ⟨rfl,hw⟩;have C:=hw.symm;subst C)
     |(refine(qy g (vu b) P9 S.O.rd).mono ?_;rintro e w1 ⟨rfl,hw⟩;have C:=hw.symm;subst C)
     |(refine jb _ rfl (.tmp 2) (.tmp 59) 160 rfl r2 0 160 (Df ⟨false,false,0,0,false,0,0,false,0⟩) rfl (Df ⟨l,st,x % 8,k,wd,o,F,sy,p8⟩) rfl TR.O S.O.b2 (aj _) (TS.O _) ?_;intro w6 a v6))
    have a:aK w6 r2 160 (Df ⟨l,st,x % 8,k,wd,o,F,sy,p8⟩):=a;have q0:=a.cell 0;have q1:=a.cell 1;have q2:=a.cell 2;have q3:=a.cell 3;have q4:=a.cell 4;have U:=a.cell 5;have q6:=a.cell 6;have q7:=a.cell 7;have q8:=a.cell 8;simp at q0 q1 q2 q3 q4 U q6 q7 q8;refine ax (v:=aB #[cg (Df ⟨l,st,x % 8,k,wd,o,F,sy,p8⟩),J V ((n:Int)-((vu b).left.length:Int)),J V 0]) (by simp[aV,results62,go_sem,q0,q1,q2,q3,q4,U,q6,q7,q8]) rfl ⟨⟨l,st,x % 8,k,wd,o,F,sy,p8⟩,_,0,rfl,⟨λN=>absurd N h3,λ_=>⟨rfl,?_,?_,?_⟩⟩,S.O.bl.trans (v6.below S.O.bl.size (λi q=>by rw[show i=r2 from q];exact Tx))⟩
    ·rw[HX.O];exact T8.O
    ·rw[HX.O]
    ·rw[hl]
end
def Lb(r:M.Rd)(n:Int):(r.take n).2.left.length<=r.left.length:=by
 unfold M.Rd.take M.Rd.fail;split
 ·exact aj _
 ·split
  ·simp only;split<;>simp
  ·simp
def rW(r:M.Rd)(k:Nat):(r.num k).2.left.length<=r.left.length:=Lb r k
def Ly(b:M.cQ):(vu b).left.length<=b.length:=by
 have a1:(oQ b).2.left.length<=b.length:=by
  unfold oQ;split
  ·exact aP (rW _ 1) (rW _ 1)
  ·exact rW _ 1
 have a2:(Nj b).left.length<=b.length:=by
  unfold Nj Pr;split
  ·split
   ·exact aP (rW _ 1) a1
   ·exact aP (aP (rW _ 1) (rW _ 1)) a1
  ·exact a1
 have a3:(KF b).left.length<=b.length:=by
  unfold KF;split
  ·exact aP (rW _ 1) a2
  ·exact a2
 unfold vu;split
 ·exact aP (rW _ 1) a3
 ·exact a3
abbrev Sf(l st:Bool)(pt pi:Int)(wd:Bool)(ba ti:Int)(sy:Bool)(ke:Int):Value:=cg #[ai l,ai st,J bI pt,J V pi,ai wd,J V ba,J V ti,ai sy,J V ke]
def Ae(A:Option Addr)(n c:Nat)(b:M.cQ)(w:aw)(h:TB w A n b)(r:A=I->c=0)(v:n<=100000) :
  aF af 24 #[ae A n c] w λe w'=>e=av (ai (M.lx b))/\aC w w':=by
 have d:=Kt b;generalize M.lx b=res at d ⊢;have hle:=Ly b;have K:=h.len;have k:=Ar A n c b w h r v;have o:=au h;clear h r;by_cases a:(vu b).end_=3
 ·rw[if_pos a]at d;have H:Hd (aF af 62 #[ae A n c] w λe w'=>∃(l st:Bool) (pt pi:Int) (wd:Bool) (ba ti:Int) (sy:Bool) (ke g:Int),e=av (aB #[Sf l st pt pi wd ba ti sy ke,J V g,J V 3])/\Hd (aC w w')):=
   au (k.mono (by rintro e w1 ⟨⟨l,st,pt,pi,wd,ba,ti,sy,ke⟩,g,B,h1,h2,h3⟩;have:=h2.bad a;subst this;exact⟨l,st,pt,pi,wd,ba,ti,sy,ke,g,h1,au h3⟩))
  subst d;clear k hle a;go_enter func24,ntmps24;go_wp2_with (refine H.out.mono ?_;rintro e w1 ⟨l,st,pt,pi,wd,ba,ti,sy,ke,g,rfl,b1⟩);go_ret;exact⟨rfl,b1.out.alloc b1.out.size _⟩
 rw[if_neg a]at d;obtain⟨m,hm⟩:=dH (b.length-(vu b).left.length:Nat);rw[<-hm]at d;have H:Hd (aF af 62 #[ae A n c] w λe w'=>∃(l:Bool) (pi:Int) (wd:Bool) (ba ti:Int) (sy:Bool) (ke:Int),e=av (aB #[Sf l (decide ((M.Rd.num ⟨b,0⟩ 1).1 / 16 % 2=1)) ((M.Rd.num ⟨b,0⟩ 1).1 % 8) pi wd ba ti sy ke,J V m,J V 0])/\Hd (aC w w')):=
  au (k.mono (by
   rintro e w1 ⟨⟨l,st,pt,pi,wd,ba,ti,sy,ke⟩,g,B,h1,h2,h3⟩
   obtain⟨g1,g2,g3,g4⟩:=h2.RT a
   simp only at g2 g3
   have:g=(m:Int):=z
   subst g1 g2 g3 this
   exact⟨l,pi,wd,ba,ti,sy,ke,h1,au h3⟩))
 clear k hle a hm;generalize (M.Rd.num ⟨b,0⟩ 1).1=x at H d;by_cases p:x / 16 % 2=1
 ·rw[decide_eq_true p]at H;by_cases hp:x % 8=0
  ·rw[hp]at H;by_cases q:m<n
   ·have d1:decide ((n:Int)<=(m:Int))=false:=dZ;have d3:((m:Int)<(n:Int)):=z;rw[if_neg z]at d;have C:∀w1,aC w w1->TB (w1.alloc (.cells #[] 160)) A n b:=λw1 b1=>(o.O.below b1).below ((ao _ _).alloc (aj _) _);obtain⟨D,off,rfl,i,s⟩:=o.O.cell z;have t:=s m q;have f:=o.O.wA;have u:0<=b.getD m 0/\b.getD m 0<=255:=by
     have j:b.getD m 0∈b:=by rw[List.getD_eq_getElem?_getD,ay z];simp
     exact f _ j
    generalize b.getD m 0=y at t u d;obtain⟨L,N⟩:=u;have E:=au d;clear s f o C d p hp;go_enter func24,ntmps24;go_wp2_with (refine H.out.mono ?_;rintro e w1 ⟨l,pi,wd,ba,ti,sy,ke,rfl,b1⟩;have F:=aM b1.out t;have G:D<w1.heap.size:=iU i b1.out.size);go_ret;refine⟨?_,b1.out.alloc b1.out.size _⟩;rw[E.O];first|rfl|simp|(congr 2;simp)
   ·have d1:decide ((n:Int)<=(m:Int))=true:=dZ;rw[if_pos (.inr (.inr z))]at d;subst d;go_enter func24,ntmps24;go_wp2_with (refine H.out.mono ?_;rintro e w1 ⟨l,pi,wd,ba,ti,sy,ke,rfl,b1⟩);go_ret;exact⟨rfl,b1.out.alloc b1.out.size _⟩
  ·have d0:(x % 8 !=0)=true:=by simp[hp]
   rw[if_pos (.inr (.inl hp))]at d;subst d;generalize x % 8=pt at H hp d0;go_enter func24,ntmps24;go_wp2_with (refine H.out.mono ?_;rintro e w1 ⟨l,pi,wd,ba,ti,sy,ke,rfl,b1⟩);go_ret;exact⟨rfl,b1.out.alloc b1.out.size _⟩
 ·rw[decide_eq_false p]at H;rw[if_pos (.inl p)]at d;subst d;go_enter func24,ntmps24;go_wp2_with (refine H.out.mono ?_;rintro e w1 ⟨l,pi,wd,ba,ti,sy,ke,rfl,b1⟩);go_ret;exact⟨rfl,b1.out.alloc b1.out.size _⟩
namespace M
structure Wf(R:Room):Prop where
 st:∀x o,R.cW x=Z o->(R.az o).isSome=true
 sub:∀s x,R.bh s=Z x->x.cL=true->∀k,0<=k->k<3->(R.az (x.jo,k)).isSome=true
 src:∀p,(R.aQ (p,0)).isSome=true->∀k,0<=k->k<3->(R.az (p,k)).isSome=true
 I5:∀o v,R.aQ o=Z v->0<=v/\v<=4294967295
 vz:∀s id,R.aO.length<=id->R.di s id=I
 Pf:∀o,(R.az o).isSome=true->(0<=o.1/\o.1<3)/\0<=o.2/\o.2<3
 uf:∀s,(R.aD s).isSome=true->0<=s/\s<6
 Qi:∀o:bN,(R.az o).isSome=true->(R.aQ (o.1,0)).isSome=true
structure gk(R R':Room):Prop where
 cW:R'.cW=R.cW
 aQ:R'.aQ=R.aQ
 az:∀o,(R'.az o).isSome=(R.az o).isSome
 aD:∀s,(R'.aD s).isSome=true->(R.aD s).isSome=true
 bh:∀s x,R'.bh s=Z x->x.cL=true->∃y,R.bh s=Z y/\y.cL=true/\y.jo=x.jo
 aO:R.aO.length<=R'.aO.length
 di:∀s id,R'.aO.length<=id->R.di s id=I->R'.di s id=I
def gk.refl(R:Room):gk R R:=⟨rfl,rfl,λ_=>rfl,λ_ h=>h,λs x h k=>⟨x,h,k,rfl⟩,aj _,λ_ _ _ h=>h⟩
def gk.trans{a b c:Room}(h:gk a b)(k:gk b c):gk a c:=
 ⟨k.cW.trans h.cW,k.aQ.trans h.aQ,λo=>(k.az o).trans (h.az o),λs q=>h.aD s (k.aD s q),λs x q r=>by
  obtain⟨y,d,e,f⟩:=k.bh s x q r
  obtain⟨g,i,z2,z3⟩:=h.bh s y d e
  exact⟨g,i,z2,z3.trans f⟩,aP h.aO k.aO,λs id q r=>k.di s id q (h.di s id (aP k.aO q) r)⟩
def Wf.Nh{R R':Room}(h:Wf R)(k:gk R R'):Wf R' where
 st x o q:=by rw[k.az];rw[k.cW]at q;exact h.st x o q
 sub s x q r i h0 h1:=by
  obtain⟨y,a,b,c⟩:=k.bh s x q r;rw[k.az,<-c];exact h.sub s y a b i h0 h1
 src p q i h0 h1:=by rw[k.az];rw[k.aQ]at q;exact h.src p q i h0 h1
 I5 o v q:=by rw[k.aQ]at q;exact h.I5 o v q
 vz s id q:=k.di s id q (h.vz s id (aP k.aO q))
 Pf o q:=h.Pf o (by rw[<-k.az];exact q)
 uf s q:=h.uf s (k.aD s q)
 Qi o q:=by rw[k.aQ];exact h.Qi o (by rw[<-k.az];exact q)
def gk.foldl{α:Type}(f:Room->α->Room)(b:∀r a,gk r (f r a)):∀(l:List α) (r:Room),gk r (l.foldl f r)
 |[],r=>gk.refl r
 |a::l,r=>(b r a).trans (gk.foldl f b l (f r a))
def ur{α β:Type}[DecidableEq α](f:α->Option β)(k:α)(v:β)(h:(f k).isSome=true)(x:α):(set f k (Z v) x).isSome=(f x).isSome:=by
 unfold set;split
 ·rename_i e;subst e;rw[h];rfl
 ·rfl
def gk.fo(r:Room)(s:Int)(l:dP)(h:(r.aD s).isSome=true):gk r { r with aD:=set r.aD s (Z l) }:=
 ⟨rfl,rfl,λ_=>rfl,λt q=>by rw[ur _ _ _ h]at q;exact q,λs x h k=>⟨x,h,k,rfl⟩,aj _,λ_ _ _ h=>h⟩
def gk.fO(r:Room)(o:bN)(s:eu)(h:(r.az o).isSome=true):gk r { r with az:=set r.az o (Z s) }:=
 ⟨rfl,rfl,λt=>ur _ _ _ h t,λt q=>q,λs x h k=>⟨x,h,k,rfl⟩,aj _,λ_ _ _ h=>h⟩
def gk.bR(r:Room)(s:Int)(id:Nat)(f:Int):gk r (r.bR s id f):=by
 unfold Room.bR;split
 ·rename_i q;refine⟨rfl,rfl,λ_=>rfl,λ_ h=>h,λs x h k=>⟨x,h,k,rfl⟩,aj _,λt i _ h=>?_⟩;show set r.di s _ t i=I;unfold set;by_cases e:t=s
  ·subst e;rw[if_pos rfl];by_cases a:i=id
   ·subst a;rw[q]at h;cases h
   ·rw[if_neg a];exact h
  ·rw[if_neg e];exact h
 ·exact gk.refl r
def gk.lJ(id:Nat)(f:Int)(l:List Int)(r:Room):gk r (l.foldl (λr s=>r.bR s id f) r):=gk.foldl _ (λr s=>gk.bR r s id f) l r
def gk.fI(r:Room)(s:Int)(l:List Nat):gk r (r.fI s l):=gk.foldl _ (λr id=>gk.bR r s id 8) l r
def gk.ji(r:Room)(s f:Int):gk r (r.ji s f):=by
 unfold Room.ji;refine⟨rfl,rfl,λ_=>rfl,λ_ h=>h,λs x h k=>⟨x,h,k,rfl⟩,aj _,λt i _ h=>?_⟩;show set r.di s _ t i=I;unfold set;by_cases e:t=s
 ·subst e;rw[if_pos rfl,if_neg (by rw[h];simp)];exact h
 ·rw[if_neg e];exact h
def gk.fG(r:Room)(o:bN)(f:eu->eu):gk r (r.fG o f):=by
 unfold Room.fG;split
 ·rename_i s e;exact gk.fO r o _ (by rw[e];rfl)
 ·exact gk.refl r
def gk.fg(r:Room)(o:bN):gk r (r.fg o):=by
 unfold Room.fg;split
 ·exact gk.refl r
 ·rename_i s e;have k:=gk.fO r o { s with dJ:=(iK r.dA.eA r.dA.ek s.dJ (r.wanted o) r.cJ).1 } (by rw[e];rfl);simp only;split
  ·exact⟨k.cW,k.aQ,k.az,k.aD,k.bh,k.aO,k.di⟩
  ·exact k
def gk.tick(r:Room):gk r r.tick.1:=by
 unfold Room.tick;split
 ·exact gk.refl r
 ·exact(show gk r { r with cJ:=r.cJ+1 } from⟨rfl,rfl,λ_=>rfl,λ_ h=>h,λs x h k=>⟨x,h,k,rfl⟩,aj _,λ_ _ _ h=>h⟩).trans (gk.foldl _ gk.fg _ _)
def gk.count(r:Room)(f:nH->nH):gk r (r.count f):=⟨rfl,rfl,λ_=>rfl,λ_ h=>h,λs x h k=>⟨x,h,k,rfl⟩,aj _,λ_ _ _ h=>h⟩
def gk.ask(r:Room)(x:Int):gk r (r.ask x):=by
 unfold Room.ask;refine gk.foldl _ (λr s=>?_) _ r;split
 ·split
  ·exact gk.fG _ _ _
  ·exact gk.refl _
 ·exact gk.refl _
def gk.fE(r:Room)(id:Nat)(l:List Int)(e:Int):gk r (M.fE r id l e):=by
 unfold M.fE;split
 ·exact gk.lJ _ _ _ _
 ·split
  ·exact gk.lJ _ _ _ _
  ·split
   ·exact gk.lJ _ _ _ _
   ·exact gk.refl _
def gk.je(r:Room)(o:bN)(p:cR):gk r (r.je o p):=by
 rw[mS];split
 ·exact gk.refl r
 ·rename_i s e;refine gk.trans ?_ (gk.fE _ _ _ _);unfold ka;refine⟨rfl,rfl,λt=>ur _ _ _ (by rw[e];rfl) t,λ_ h=>h,λs x h k=>⟨x,h,k,rfl⟩,dt,λt i q h=>?_⟩;simp only[List.length_append,ft,List.length_nil]at q;show(if t∈r.ik o.1 then set (r.di t) r.aO.length (Z 0) else r.di t) i=I;split
  ·unfold set;rw[if_neg z];exact h
  ·exact h
def gk.read(r:Room):gk r r.read:=by
 unfold Room.read;split
 ·exact gk.refl r
 ·rename_i b q e;have k:gk r { r with dm:=q }:=⟨rfl,rfl,λ_=>rfl,λ_ h=>h,λs x h k=>⟨x,h,k,rfl⟩,aj _,λ_ _ _ h=>h⟩;simp only;split
  ·split
   ·exact k.trans (gk.count _ _)
   ·exact(k.trans (gk.count _ _)).trans (gk.foldl _ gk.ask _ _)
  ·split
   ·exact k.trans (gk.count _ _)
   ·split
    ·exact k.trans (gk.count _ _)
    ·exact k.trans (gk.je _ _ _)
def gk.iW(x:Item)(r:Room)(s:Int):gk r (Room.iW x r s):=by
 unfold Room.iW;split
 ·split
  ·exact gk.refl r
  ·rename_i l e;have k:=gk.fo r s (l.put r.dA.aG x).1 (by rw[e];rfl);simp only;split
   ·exact k.trans (gk.bR _ _ _ _)
   ·exact k
 ·exact gk.refl r
def gk.order(r:Room):gk r r.order:=by
 unfold Room.order;cases e:r.ready with
 |none=>exact gk.refl r
 |some o =>
  cases a:r.az o with
  |none=>simp only[a];exact gk.refl r
  |some s =>
   simp only[a];cases hh:s.bQ.bD with
   |nil=>exact gk.refl r
   |cons h t=>exact(gk.fO r o _ (by rw[a];rfl)).trans (gk.foldl _ (gk.iW _) _ _)
def gk.gq(r:Room)(s:Int):gk r (r.gq s):=by
 unfold Room.gq;split
 ·exact gk.refl r
 ·rename_i l e;have k:=gk.fo r s l.gJ.1 (by rw[e];rfl);simp only;split
  ·exact k.trans (gk.bR _ _ _ _)
  ·exact k
def gk.fD(r:Room)(s:Int):gk r (r.fD s):=by
 unfold Room.fD;split
 ·exact gk.refl r
 ·rename_i l e;have k:=gk.fo r s (l.eO r.dA.aG).1 (by rw[e];rfl);simp only;split
  ·exact k.trans (gk.bR _ _ _ _)
  ·exact k
def gk.Ow(r:Room)(s:Int):gk r { r with bh:=match r.bh s with | some y=>if y.cL then set r.bh s (Z ⟨y.own,false,0⟩) else r.bh | none=>r.bh }:=by
 cases a:r.bh s with
 |none=>exact⟨rfl,rfl,λ_=>rfl,λ_ h=>h,λs x h k=>⟨x,h,k,rfl⟩,aj _,λ_ _ _ h=>h⟩
 |some y =>
  cases hy:y.cL with
  |false=>simp only[hy];exact⟨rfl,rfl,λ_=>rfl,λ_ h=>h,λs x h k=>⟨x,h,k,rfl⟩,aj _,λ_ _ _ h=>h⟩
  |true =>
   refine⟨rfl,rfl,λ_=>rfl,λ_ h=>h,λt x q k=>?_,aj _,λ_ _ _ h=>h⟩;simp only[hy,if_true,set]at q;by_cases e:t=s
   ·rw[if_pos e]at q;simp only[bf]at q;subst q;cases k
   ·rw[if_neg e]at q;exact⟨x,q,k,rfl⟩
def gk.jS(r:Room)(s:Int)(a:Bool):gk r (r.jS s a):=by
 rw[kh];split
 ·exact gk.refl r
 ·rename_i l e;have b:gk r (kg r s (l.write r.dA.aT a).1 (l.write r.dA.aT a).2.1 (l.write r.dA.aT a).2.2):=by
   have k:=gk.fo r s (l.write r.dA.aT a).1 (by rw[e];rfl);unfold kg;split
   ·exact k.trans (gk.bR _ _ _ _)
   ·exact k
  refine b.trans ?_;unfold nA;split
  ·refine(gk.ji _ s 7).trans ?_;exact gk.Ow _ s
  ·exact gk.refl _
def gk.cP(r:Room)(o:bN):gk r (r.cP o):=by
 unfold Room.cP;split
 ·exact gk.refl r
 ·rename_i s e;exact(gk.fO r o _ (by rw[e];rfl)).trans (gk.foldl _ (λr id=>gk.lJ id 8 _ r) _ _)
def gk.ku(r:Room)(w:eK):gk r (r.ku w):=by
 rw[rf];have k:gk r (jd r w):=by
  unfold jd;split
  ·exact⟨rfl,rfl,λ_=>rfl,λ_ h=>h,λs x h k=>⟨x,h,k,rfl⟩,aj _,λ_ _ _ h=>h⟩
  ·split
   ·exact gk.foldl _ gk.cP _ _
   ·split
    ·exact gk.refl r
    ·rename_i l e;split
     ·exact(gk.fo r w.2 _ (by rw[e];rfl)).trans (gk.fI _ _ _)
     ·split
      ·exact(gk.fo r w.2 _ (by rw[e];rfl)).trans (gk.fI _ _ _)
      ·exact(gk.fo r w.2 _ (by rw[e];rfl)).trans (gk.fI _ _ _)
 refine k.trans ?_;unfold back;split
 ·exact⟨rfl,rfl,λ_=>rfl,λ_ h=>h,λs x h k=>⟨x,h,k,rfl⟩,aj _,λ_ _ _ h=>h⟩
 ·exact gk.refl _
def gk.pick(r:Room)(w:eK)(a:Bool):gk r (r.pick w a).1:=by
 unfold Room.pick;split
 ·exact gk.refl r
 ·simp only;split
  ·exact gk.ku _ _
  ·split
   ·exact gk.read r
   ·split
    ·exact gk.order r
    ·split
     ·exact gk.gq _ _
     ·split
      ·exact gk.fD _ _
      ·exact gk.jS _ _ _
def gk.fj(r:Room)(s l:Int):gk r (r.fj s l).1:=by
 unfold Room.fj;split
 ·rename_i x e;exact gk.fo r s _ (by rw[e];rfl)
 ·exact gk.refl r
def gk.fT(r:Room)(b:cQ):gk r (r.fT b).1:=by
 unfold Room.fT;split
 ·exact gk.refl r
 ·exact⟨rfl,rfl,λ_=>rfl,λ_ h=>h,λs x h k=>⟨x,h,k,rfl⟩,aj _,λ_ _ _ h=>h⟩
def gk.fU(r:Room):gk r r.fU.1:=by
 unfold Room.fU;split
 ·exact gk.refl r
 ·exact⟨rfl,rfl,λ_=>rfl,λ_ h=>h,λs x h k=>⟨x,h,k,rfl⟩,aj _,λ_ _ _ h=>h⟩
def gk.jE(r:Room)(s:Int):gk r (r.jE s).1:=by
 unfold Room.jE;split
 ·exact gk.refl r
 ·split
  ·exact gk.refl r
  ·split
   ·exact gk.refl r
   ·refine(gk.ji r s 7).trans ⟨rfl,rfl,λ_=>rfl,λt q=>?_,λt x q k=>?_,aj _,λ_ _ _ h=>h⟩
    ·simp only[set]at q;split at q
     ·cases q
     ·exact q
    ·simp only[set]at q;split at q
     ·cases q
     ·exact⟨x,q,k,rfl⟩
def gk.iy(r:Room)(s l:Int):gk r (r.iy s l).1:=by
 unfold Room.iy;split
 ·exact gk.refl r
 ·split
  ·exact gk.refl r
  ·split
   ·exact gk.refl r
   ·exact gk.fj r s l
def Wf.gg{R:Room}(h:Wf R)(p a b c:Int)(k:(0<=a/\a<=4294967295)/\(0<=b/\b<=4294967295)/\0<=c/\c<=4294967295):Wf (R.gg p a b c).1:=by
 unfold Room.gg;split
 ·exact h
 ·split
  ·exact h
  ·rename_i hp;split
   ·exact h
   ·split
    ·exact h
    ·split
     ·exact h
     ·have d:0<=p/\p<3:=by simpa[mB]using hp
      have key:∀o,(set (set (set R.az (p,0) (Z eu.new)) (p,1) (Z eu.new)) (p,2) (Z eu.new) o).isSome=true↔(R.az o).isSome=true\/o=(p,0)\/o=(p,1)\/o=(p,2):=λo=>by
       unfold set;by_cases f:o=(p,2)
       ·simp[f]
       ·by_cases g:o=(p,1)
        ·simp[g]
        ·by_cases j:o=(p,0)
         ·simp[j]
         ·simp[j,g,f]
      refine⟨λx o q=>?_,λs x q r i h0 h1=>?_,λt q i h0 h1=>?_,λo v q=>?_,h.vz,λo q=>?_,h.uf,λo q=>?_⟩
      ·refine(key o).2 ?_;simp only[set]at q;split at q
       ·simp only[bf]at q;exact .inr (.inr (.inr q.symm))
       ·split at q
        ·simp only[bf]at q;exact .inr (.inr (.inl q.symm))
        ·split at q
         ·simp only[bf]at q;exact .inr (.inl q.symm)
         ·exact .inl (h.st x o q)
      ·exact(key _).2 (.inl (h.sub s x q r i h0 h1))
      ·refine(key _).2 ?_;by_cases e:t=p
       ·subst e;rcases(z:i=0\/i=1\/i=2) with rfl|rfl|rfl<;>simp
       ·refine .inl (h.src t ?_ i h0 h1);simpa[set,e]using q
      ·simp only[set]at q;split at q
       ·simp only[bf]at q;omega
       ·split at q
        ·simp only[bf]at q;omega
        ·split at q
         ·simp only[bf]at q;omega
         ·exact h.I5 o v q
      ·rcases(key o).1 q with q|rfl|rfl|rfl
       ·exact h.Pf o q
       ·exact⟨d,dt⟩
       ·exact⟨d,dt⟩
       ·exact⟨d,dt⟩
      ·have hh:o.1=p\/(R.aQ (o.1,0)).isSome=true:=by
        rcases(key o).1 q with q|rfl|rfl|rfl
        ·exact .inr (h.Qi o q)
        ·exact .inl rfl
        ·exact .inl rfl
        ·exact .inl rfl
       show(set (set (set R.aQ (p,0) (Z a)) (p,1) (Z b)) (p,2) (Z c) (o.1,0)).isSome=true;by_cases e:o.1=p
       ·rw[e];simp[set]
       ·rcases hh with q|q
        ·exact absurd q e
        ·simpa[set,e]using q
def Wf.iJ{R:Room}(h:Wf R)(s own dQ aU:Int):Wf (R.iJ s own dQ aU).1:=by
 unfold Room.iJ;split
 ·exact h
 ·split
  ·exact h
  ·rename_i b;split
   ·exact h
   ·have a:0<=s/\s<6:=by simpa[fY]using b
    refine⟨h.st,λt x q r=>?_,h.src,h.I5,h.vz,h.Pf,λt q=>?_,h.Qi⟩
    ·simp only[set]at q;split at q
     ·simp only[bf]at q;subst q;cases r
     ·exact h.sub t x q r
    ·simp only[set]at q;split at q
     ·rename_i e;subst e;exact a
     ·exact h.uf t q
def Wf.dN{R:Room}(h:Wf R)(s p aY:Int):Wf (R.dN s p aY).1:=by
 unfold Room.dN;split
 ·exact h
 ·split
  ·exact h
  ·split
   ·exact h
   ·split
    ·exact h
    ·split
     ·exact h
     ·rename_i x ex;split
      ·exact h
      ·rename_i a;split
       ·exact h
       ·refine Wf.Nh ?_ (gk.fj _ _ _);refine⟨h.st,λt y q r=>?_,h.src,h.I5,h.vz,h.Pf,h.uf,h.Qi⟩;simp only[set]at q;split at q
        ·simp only[bf]at q;subst q;exact h.src p (by cases q:R.aQ (p,0) with | none=>rw[q]at a;simp at a | some _=>rfl)
        ·exact h.sub t y q r
def Wf.act{R:Room}(h:Wf R)(x:Act)(b:x.Ok)(a:(0<=x.s0/\x.s0<=4294967295)/\(0<=x.s1/\x.s1<=4294967295)/\0<=x.s2/\x.s2<=4294967295):Wf (R.act x).1:=by
 unfold Room.act;split
 ·exact h.Nh (gk.fT _ _)
 ·split
  ·exact h.Nh (gk.pick _ _ _)
  ·split
   ·exact h.Nh (gk.tick _)
   ·split
    ·exact h.gg _ _ _ _ a
    ·split
     ·exact h.iJ _ _ _ _
     ·split
      ·exact h.dN _ _ _
      ·split
       ·exact h.Nh (gk.iy _ _ _)
       ·split
        ·exact h.Nh (gk.jE _ _)
        ·split
         ·exact h.Nh (gk.fU _)
         ·exact h
def Wf.start(c:Ou):Wf (.new c):=⟨λx o h=>by simp[Room.new]at h,λs x h=>by simp[Room.new]at h,λp h=>by simp[Room.new]at h,λo v h=>by simp[Room.new]at h,λ_ _ _=>rfl,λo h=>by simp[Room.new]at h,λs h=>by simp[Room.new]at h,λo h=>by simp[Room.new]at h⟩
end M
namespace M
def Sb(R R':Room):Prop:=R'.bh=R.bh
def Sb.refl(R:Room):Sb R R:=rfl
def Sb.trans{a b c:Room}(h:Sb a b)(k:Sb b c):Sb a c:=Eq.trans k h
end M
namespace M
def lL{α β:Type}(f:β->α->β)(l:List α)(k:Nat)(x:α)(b:β)(h:l[k]? = Z x):(l.take (k+1)).foldl f b=f ((l.take k).foldl f b) x:=by
 rw[ee,h];simp
end M
def yI(g pl cap:Nat)(n:Option Addr)(b c:Nat)(q:List (List Value))(w:aw)(h:ko w g pl cap q)(S:q.length<cap) :
  aF af 70 #[aq (Z ⟨g,0,I⟩),(ae n b c)] w λe w'=>e=av (aB #[oh,ai false,J V 0])/\ko w' g pl cap (q++[[ae n b c]])/\cS (jK g pl) w w':=by
 obtain⟨first,jt,n4,n5,n6,n7,L,C,E,F,hR⟩:=h.ex;have le:=h.le;have one:=h.one;have aT:=h.aT;have r:=h.wf;have l:decide (q.length=cap)=false:=dZ;have s:=au l;clear l;have w1:V.wrap ((first:Int)+(q.length:Int))=(first:Int)+(q.length:Int):=cz _ ⟨z,z⟩;have w2:V.wrap ((q.length:Int)+1)=(q.length:Int)+1:=cz _ ⟨z,z⟩;obtain⟨p,hp⟩:=dH ((first+q.length) % cap);have T:((first:Int)+(q.length:Int)) % (cap:Int)=(p:Int):=by rw[hp];simp
 have G:p<cap:=by rw[hp];exact kp _ z
 have M:(p:Int)<(cap:Int):=z;have H:=ll (k:=1) G;have j:=hR.push (x:=[ae n b c]) L S F rfl;rw[<-hp]at j;rw[sq]at j;have t:∀x∈q++[([ae n b c]:List Value)],x.length=1/\∀u∈x,u.oneCell'=true:=by
  intro x o;rcases bt.1 o with o|o
  ·exact r x o
  ·simp at o;subst o;exact⟨rfl,by intro u hu;simp at hu;repeat (first|(subst hu;rfl)|(rcases hu with rfl|hu;rfl))⟩
 have y:p+1<=jt.size:=z;obtain⟨K,HS,U,m⟩:=cA t F j y;clear t F hR j hp H y r;have N:∀i,cr i->jK g pl i:=λi q=>q.elim;have d2:g≠pl:=aK.jf C E aR;have c3:=C.cell 3;simp at c3;go_enter func70,ntmps70;go_upto_region 8 with(refine(zX g pl cap q w h).mono ?_;rintro e w2 ⟨rfl,W⟩;rw[s.O];subst W)
 obtain⟨a,d,D⟩:=bU C.drew E.drew ((cS.refl cr w).drew);clear h C E c3;generalize w.drew=X at a d D ⊢;have c0:=a.O.cell 0;have c1:=a.O.cell 1;have c2:=a.O.cell 2;have f0:=d.O.frozen (p);obtain⟨v0,e0⟩:∃v0,X.cell? ⟨pl,p,I⟩=Z v0:=⟨_,(d.O.cell _).trans (aE (lE m.O))⟩;simp at c0 c1 c2;go_region;refine gN (λY=>aK Y g 195 _/\aK Y pl 38 (de jt p [ae n b c])/\cS (jK g pl) w Y)
  ⟨by first|exact(a.O.dS d2 _).drew|exact a.O.dS d2 _,by rw[<-mx m.O];first|exact(d.O.bC _ _).drew|exact d.O.bC _ _,by first|exact((D.O.mono λi _ q=>(N i q)).setCell (.inl (.inr rfl)) _).drew|exact(D.O.mono λi _ q=>(N i q)).setCell (.inl (.inr rfl)) _⟩ ?_
 rintro Y ⟨f,A,P⟩;have c2:=f.cell 2;have c4:=f.cell 4;have f2:=f.frozen 2;have f4:=f.frozen 4;simp at c2 c4;have Q:ko ((Y.setCell ⟨g,2,I⟩ (J V ((q.length:Int)+1))).setCell ⟨g,4,I⟩ (J V (dB (n4+1)))) g pl cap (q++[[ae n b c]]):=by
  refine⟨⟨first,_,dB (n4+1),n5,n6,n7,L,?_,(A.dS (p:=⟨g,2,I⟩) (λe=>d2 e.symm) _).dS (p:=⟨g,4,I⟩) (λe=>d2 e.symm) _,by rw[gU (by simpa using m.O)];exact HS.O,U.O⟩,dZ,one,aT,K.O⟩;have B:=(f.bC 2 (J V ((q.length:Int)+1))).bC 4 (J V (dB (n4+1)));simpa using B
 have R:=(P.setCell (p:=⟨g,2,I⟩) (.inl (.inl rfl)) (J V ((q.length:Int)+1))).setCell (p:=⟨g,4,I⟩) (.inl (.inl rfl)) (J V (dB (n4+1)));obtain⟨HY,HZ⟩:=bu Q R;clear Q R f A P a d D;go_wp2_with fail;refine ax (v:=aB #[oh,ai false,J V 0]) (by simp[aV,results70,go_sem]) rfl ⟨rfl,HY.O,HZ.O⟩
def yJ(g pl cap:Nat)(o:Option Addr)(b c:Nat)(ov:Value)(q:List (List Value))(w:aw)(h:ko w g pl cap ([ov]::q))(hl:q.length+1=cap) :
  aF af 70 #[aq (Z ⟨g,0,I⟩),(ae o b c)] w λe w'=>e=av (aB #[ov,ai true,J V 0])/\ko w' g pl cap (q++[[ae o b c]])/\cS (jK g pl) w w':=by
 obtain⟨F,T,m4,m5,m6,m7,L,m,t,M,N⟩:=h.ex;have l:decide ((([ov]:List Value)::q).length=cap)=true:=dZ;have y:=au l;clear l M N L;have d2:g≠pl:=aK.jf m t aR;have c3:=m.cell 3;simp at c3;go_enter func70,ntmps70;go_wp2_with (first
  |(refine(zX g pl cap _ w h).mono ?_;rintro e w2 ⟨rfl,hv⟩;rw[y.O];subst hv)
  |(refine(vK g pl cap ov q w.drew h.drew).mono ?_;rintro e w4 ⟨rfl,r,u3⟩;obtain⟨first,jt,n4,n5,n6,n7,U,H,W,P,hR⟩:=r.ex;have c6:=H.cell 6;have f6:=H.frozen 6;simp at c6))
 have uu:=(((cS.refl cr w).drew.mono (G:=jK g pl) λi _ q=>q.elim).trans u3);clear h m t c3 u3;have le:=r.le;have one:=r.one;have aT:=r.aT;have A:=r.wf;have hq:q.length<cap:=z;have w1:V.wrap ((first:Int)+(q.length:Int))=(first:Int)+(q.length:Int):=cz _ ⟨z,z⟩;have w2:V.wrap ((q.length:Int)+1)=(q.length:Int)+1:=cz _ ⟨z,z⟩;obtain⟨p,hp⟩:=dH ((first+q.length) % cap);have Tg:((first:Int)+(q.length:Int)) % (cap:Int)=(p:Int):=by rw[hp];simp
 have Q:p<cap:=by rw[hp];exact kp _ z
 have Tf:(p:Int)<(cap:Int):=z;have R:=ll (k:=1) Q;have j:=hR.push (x:=[ae o b c]) U hq P rfl;rw[<-hp]at j;rw[sq]at j;have C:∀x∈q++[([ae o b c]:List Value)],x.length=1/\∀u∈x,u.oneCell'=true:=by
  intro x s;rcases bt.1 s with s|s
  ·exact A x s
  ·simp at s;subst s;exact⟨rfl,by intro u hu;simp at hu;repeat (first|(subst hu;rfl)|(rcases hu with rfl|hu;rfl))⟩
 have D:p+1<=jt.size:=z;obtain⟨S,HS,HR,n⟩:=cA C P j D;clear C P hR j hp R D A;have FF:∀i,jK g pl i->jK g pl i:=λi q=>q;obtain⟨a,d,K⟩:=bU (show aK (w4.setCell ⟨g,6,I⟩ (J V (dB (n6+1)))) g 195 #[ae (Z ⟨pl,0,I⟩) cap cap,J V first,J V q.length,ai false,J V n4,J V n5,J V (dB (n6+1)),J V n7] from by have B:=H.bC 6 (J V (dB (n6+1)));simpa using B) (W.dS (p:=⟨g,6,I⟩) (λe=>d2 e.symm) (J V (dB (n6+1)))) (uu.setCell (p:=⟨g,6,I⟩) (.inl (.inl rfl)) (J V (dB (n6+1))));clear H W uu r c6 f6;generalize w4.setCell ⟨g,6,I⟩ (J V (dB (n6+1)))=X at a d K ⊢;have c0:=a.O.cell 0;have c1:=a.O.cell 1;have c2:=a.O.cell 2;have f0:=d.O.frozen (p);obtain⟨v0,e0⟩:∃v0,X.cell? ⟨pl,p,I⟩=Z v0:=⟨_,(d.O.cell _).trans (aE (lE n.O))⟩;simp at c0 c1 c2;go_region;refine gN (λY=>aK Y g 195 _/\aK Y pl 38 (de jt p [ae o b c])/\cS (jK g pl) w Y)
  ⟨by first|exact(a.O.dS d2 _).drew|exact a.O.dS d2 _,by rw[<-mx n.O];first|exact(d.O.bC _ _).drew|exact d.O.bC _ _,by first|exact((K.O.mono λi _ q=>(FF i q)).setCell (.inl (.inr rfl)) _).drew|exact(K.O.mono λi _ q=>(FF i q)).setCell (.inl (.inr rfl)) _⟩ ?_
 rintro Y ⟨f,E,uY⟩;have c2:=f.cell 2;have c4:=f.cell 4;have f2:=f.frozen 2;have f4:=f.frozen 4;simp at c2 c4;have hY:ko ((Y.setCell ⟨g,2,I⟩ (J V ((q.length:Int)+1))).setCell ⟨g,4,I⟩ (J V (dB (n4+1)))) g pl cap (q++[[ae o b c]]):=by
  refine⟨⟨first,_,dB (n4+1),n5,(dB (n6+1)),n7,U,?_,(E.dS (p:=⟨g,2,I⟩) (λe=>d2 e.symm) _).dS (p:=⟨g,4,I⟩) (λe=>d2 e.symm) _,by rw[gU (by simpa using n.O)];exact HS.O,HR.O⟩,dZ,one,aT,S.O⟩;have B:=(f.bC 2 (J V ((q.length:Int)+1))).bC 4 (J V (dB (n4+1)));simpa using B
 have uZ:=(uY.setCell (p:=⟨g,2,I⟩) (.inl (.inl rfl)) (J V ((q.length:Int)+1))).setCell (p:=⟨g,4,I⟩) (.inl (.inl rfl)) (J V (dB (n4+1)));obtain⟨HY,HZ⟩:=bu hY uZ;clear hY uZ f E uY a d K;go_wp2_with fail;refine ax (v:=aB #[ov,ai true,J V 0]) (by simp[aV,results70,go_sem]) rfl ⟨rfl,HY.O,HZ.O⟩
def vk{p:M.js->Bool}:∀(l:List M.js),l.any p=false->(l.takeWhile λh=>!p h)=l
 |[],_=>rfl
 |h::l,q=>by
  rw[List.any_cons,Bool.or_eq_false_iff]at q;rw[qo,q.1];simp;exact vk l q.2
def yK{p:M.js->Bool}:∀(l:List M.js),l.takeWhile p=l.take (l.takeWhile p).length/\l.dropWhile p=l.drop (l.takeWhile p).length
 |[]=>⟨rfl,rfl⟩
 |h::l=>by
  rw[qo,List.dropWhile_cons];cases hp:p h
  ·simp
  ·simp only[if_true,ft,List.take_succ_cons,List.drop_succ_cons];exact⟨congrArg _ (yK l).1,(yK l).2⟩
def E9(B:vi)(aG cX n now:Int)(id:Nat)(b:M.mf)(w:aw)(hb:gC w B aG cX b)(hn:Bi n)(TG:Bi now) :
  aF af 184 #[aq (Z ⟨B.g,0,I⟩),J V n,J V now,J V id] w λe w'=>e=av (J V (b.push aG n now id).2)/\∃B',gC w' B' aG cX (b.push aG n now id).1/\B'.g=B.g/\cS B.own w w'/\∀i,B'.own i->B.own i\/w.heap.size<=i:=by
 obtain⟨A,c,f⟩:=bA hb.row;have Ua:=hb.small;have N:=hb.ne;obtain⟨TO,TP⟩:=hb.aG;have lt:=hb.cw.lt;have TH:=hb.out;have Tp:=hb.lt;obtain⟨r5,C⟩:=dH w.heap.size;have hS:∀W,gC W B aG cX b->aK W r5 2 #[J V n]->aF af 216 #[B.bD,.func (.func 231) #[] #[aq (Z ⟨r5,0,I⟩)]] W λe w'=>e=av (ai (b.bD.any λh=>h.bO==n))/\aC W w':=
  λW h1 h2=>xG ⟨r5,0,I⟩ (λh=>h.bO==n) (λw=>aK w r5 2 #[J V n]) (λw w' bl q=>q.kept bl) b.bD.length B.bD b.bD W (λh _ W2 q=>Jm r5 n h W2 q) h1.row h2 z
 have hA:∀W,gC W B aG cX b->aK W r5 2 #[J V n]->aF af 234 #[B.bD,.func (.func 232) #[] #[aq (Z ⟨r5,0,I⟩)]] W λe w'=>e=av (J V (pq (λh=>decide (n<h.bO)) b.bD))/\aC W w':=
  λW h1 h2=>Ay ⟨r5,0,I⟩ (λh=>decide (n<h.bO)) (λw=>aK w r5 2 #[J V n]) (λw w' bl q=>q.kept bl) b.bD.length B.bD b.bD W (λh _ W2 q=>Jl r5 n h W2 q) h1.row h2 z
 have hX:∀W,gC W B aG cX b->aF af 215 #[aq (Z ⟨B.g,0,I⟩)] W λe w'=>e=av (aB #[J V (if b.begun then b.out.high+1 else 0),ai b.begun])/\w'=W:=λW h=>yw B aG cX b W h;have hH:∀W,aF af 233 #[yB b.out,J V n] W λe w'=>e=av (ai (b.out.has n))/\aC W w':=λW=>N8 b.out n W TH hn;obtain⟨i,hi,Tq⟩:∃i:Nat,i<=b.bD.length/\i=(b.bD.takeWhile λh=>decide (h.bO<=n)).length:=⟨_,(List.takeWhile_sublist _).length_le,rfl⟩;have TI:(λh:M.js=>!decide (n<h.bO))=λh=>decide (h.bO<=n):=by funext h;by_cases q:n<h.bO<;>simp[q]<;>omega
 have TC:pq (λh=>decide (n<h.bO)) b.bD=(i:Int)\/pq (λh=>decide (n<h.bO)) b.bD = -1/\i=b.bD.length:=by
  unfold pq;split
  ·left;rw[TI,Tq]
  ·rename_i q;right;refine⟨rfl,?_⟩;have:=vk (p:=λh=>decide (n<h.bO)) b.bD (by simpa using q);rw[TI]at this;rw[Tq,this]
 have TQ:b.bD.takeWhile (λh=>decide (h.bO<=n))=b.bD.take i:=by rw[Tq];exact(yK b.bD).1
 have TR:b.bD.dropWhile (λh=>decide (h.bO<=n))=b.bD.drop i:=by rw[Tq];exact(yK b.bD).2
 have hI:∀(vb:Nat) (W:aw),gC W B aG cX b->w.heap.size<=vb->aK W vb 326 #[J V n,J V now,J V id]->aF af 235 #[B.bD,J V i,ae (Z ⟨vb,0,I⟩) 1 1] W λe w'=>∃v',e=av v'/\w'.ownsRow 0 326 3 v' (b.bD.length+1) (jh (b.bD.take i++⟨n,now,id⟩::b.bD.drop i))/\cS (λi=>B.bD.ownBlock=Z i) W w'/\∀i,v'.ownBlock=Z i->B.bD.ownBlock=Z i\/W.heap.size<=i:=λvb W m Ub hB=>by
  have q:=Ej b.bD.length i B.bD (jh b.bD) [J V n,J V now,J V id] vb W rfl m.row hi z hB (λe=>by have:=Tp vb (.inr e);omega) tk (Bz _);rw[GG,GH]at q;have e:jh (b.bD.take i)++[J V n,J V now,J V id]++jh (b.bD.drop i)=jh (b.bD.take i++⟨n,now,id⟩::b.bD.drop i):=by simp[jh,List.flatMap_append]
  rw[e]at q;exact q
 have Ti:gC (w.alloc (.cells #[J V n] 2)) B aG cX b:=hb.below ((ao _ w).alloc (aj _) _);have Tj:aK (w.alloc (.cells #[J V n] 2)) r5 2 #[J V n]:=aK.newAt _ _ _ _ C;have Tk:aC w (w.alloc (.cells #[J V n] 2)):=(ao _ w).alloc (aj _) _;have Ts:∀(w':aw),aC w w'->∃B',gC w' B' aG cX b/\B'.g=B.g/\cS B.own w w'/\∀i,B'.own i->B.own i\/w.heap.size<=i:=λw' bl=>⟨B,hb.below bl,rfl,.bn bl,λi q=>.inl q⟩;obtain⟨HB,HS,HA,HX,HH,HI,R,TD,TE⟩:=By hb hS hA hX hH hI Ts TQ TR;clear hS hA hX hH hI Ts TQ TR TI Tq;cases a:b.bD.any λh=>h.bO==n
 ·cases D:b.begun
  ·go_enter func184,ntmps184;go_upto_region 1 with fail;rw[<-C];have TS:w.heap.size<=r5:=lO C.symm;clear C;refine aW (λW=>gC W B aG cX b/\aK W r5 2 #[J V n]/\aC w W) ⟨Ti,Tj,Tk⟩ ?_;rintro W ⟨m,h5,bl⟩;have x5:=h5.cell 0;have c2:=m.cw.cell 2;have c0:=m.cw.cell 0;have c4:=m.cw.cell 4;have c5:=m.cw.cell 5;simp[f]at x5 c2 c0 c4 c5;have HW:=au m;have H5:=au h5;have BL:=au bl;have r:=HS.O W m h5;have t:=HX.O W m;rw[f,a]at r;rw[D]at t;have Tl:=au r;have Tm:=au t;clear m h5 bl Ti Tj Tk hb r t HS HX;go_wp2_with (first
    |(refine Tm.O.mono ?_;rintro e w2 ⟨rfl,S⟩;have u:=S.symm;subst u;try simp only[cB,if_false,if_true])
    |(refine Tl.O.mono ?_;rintro e w3 ⟨rfl,b3⟩;have o:=HW.O.below b3;have F3:=H5.O.kept b3;have L:=BL.O.trans (b3.mono BL.O.size);have y5:=F3.cell 0;have y2:=o.cw.cell 2;have y0:=o.cw.cell 0;have y4:=o.cw.cell 4;have y6:=o.cw.cell 5;have yf:=o.cw.frozen 2;simp[f]at y5 y2 y0 y4 y6))
   go_quiet (fail);all_goals
    by_cases d:aG<=(b.bD.length:Int)
    ·have hp:b.push aG n now id=(b,8):=by unfold M.mf.push;rw[a,D];simp[d]
     have E:=au hp;clear hp;go_wp2_with fail;go_quiet (fail);all_goals
      go_wp2_with fail;refine ax (v:=J V 8) (by simp[aV,results184,go_sem]) rfl ⟨by rw[E.O],by rw[E.O];exact R.O _ (by first|exact L|exact cd L _|exact cd (cd L _) _)⟩
    ·have TT:decide (aG<=(b.bD.length:Int))=false:=by simpa using d
     have hp:b.push aG n now id=(⟨b.bD.take i++⟨n,now,id⟩::b.bD.drop i,b.begun,b.out⟩,0):=by unfold M.mf.push;rw[a,D,TD.O,TE.O];simp[d]
     have T:b.bD.length+1<=8:=z;have E:=au hp;clear hp;go_wp2_with fail;go_quiet (fail);all_goals
      refine gN (λY=>gC Y B aG cX b/\aK Y r5 2 #[J V n]/\aC w Y) ⟨by first|exact o|exact o.dW (F:=cr) ((cS.refl cr _).drewN _) (λ_ _ q=>q)|exact o.dW (F:=cr) (((cS.refl cr _).drewN _).drewN _) (λ_ _ q=>q),F3,by first|exact L|exact cd L _|exact cd (cd L _) _⟩ ?_;rintro Y ⟨hY,K,Tt⟩;have U:=HA.O Y hY K;have z5:=K.cell 0;have z2:=hY.cw.cell 2;simp[f]at z5 z2;rw[f]at U;have y:(∃j:Nat,pq (λh=>decide (n<h.bO)) b.bD=(j:Int)/\j=i)\/pq (λh=>decide (n<h.bO)) b.bD = -1/\i=b.bD.length:=TC.imp (λe=>⟨i,e,rfl⟩) (λe=>e);obtain⟨Tu,HY,Tv,X⟩:=cA U hY K Tt;clear U hY K Tt;go_upto_if 62 with(refine Tu.O.mono ?_;rintro e w7 ⟨rfl,b7⟩;have W7:=HY.O.below b7;have F7:=Tv.O.kept b7;have B7:=X.O.trans (b7.mono X.O.size);have v5:=F7.cell 0;have v2:=W7.cw.cell 2;simp[f]at v5 v2)
      go_cut [13] (λs wc=>s=J V i/\gC wc B aG cX b/\aK wc r5 2 #[J V n]/\aC w wc);case first =>
       rcases y with⟨j,e,rfl⟩ | ⟨e,rfl⟩
       ·have hj:¬((j:Int)<0):=z;rw[e];go_wp2_with fail;go_meet;exact⟨rfl,W7,F7,B7⟩
       ·rw[e];go_wp2_with fail;go_meet;exact⟨rfl,W7,F7,B7⟩
      case rest =>
       obtain⟨rfl,W8,F8,B8⟩:=hcut;have g5:=F8.cell 0;have g2:=W8.cw.cell 2;simp[f]at g5 g2;have Tf:=W8.below ((ao wc.heap.size wc).alloc (aj _) (.cells #[J V n,J V now,J V id] 326));have TJ:=Tf.cw.cell 2;have TM:=(F8.alloc (.cells #[J V n,J V now,J V id] 326)).cell 0;simp[f]at TJ TM;have P:∀(W:aw),gC W B aG cX b->aK W wc.heap.size 326 #[J V n,J V now,J V id]->aF af 235 #[ae A b.bD.length c,J V i,ae (Z ⟨wc.heap.size,0,I⟩) 1 1] W λe w'=>∃k l,e=av (ae k (b.bD.length+1) l)/\w'.ownsRow 0 326 3 (ae k (b.bD.length+1) l) (b.bD.length+1) (jh (b.bD.take i++⟨n,now,id⟩::b.bD.drop i))/\cS (λi=>B.bD.ownBlock=Z i) W w'/\(∀i,(ae k (b.bD.length+1) l).ownBlock=Z i->B.bD.ownBlock=Z i\/W.heap.size<=i)/\w'.cell? ⟨B.g,2,I⟩=Z (ae A b.bD.length c)/\w'.frozen? ⟨B.g,2,I⟩=false/\aK w' B.g 201 (Ks B aG cX b):=λW h1 h2=>by
        have q:=HI.O wc.heap.size W h1 B8.size h2;rw[f]at q;refine q.mono ?_;rintro e w' ⟨v',rfl,Q,u9,f9⟩;obtain⟨k,l,rfl⟩:=bA Q;rw[<-f]at u9 f9;have G:=h1.cw.dW u9 (λq=>N _ q rfl);have e2:=G.cell 2;simp[f]at e2;exact⟨k,l,rfl,Q,u9,f9,e2,G.frozen 2,G⟩
       have fin:∀(W w9:aw) (k:Option Addr) (l:Nat),cS cr wc W->w9.ownsRow 0 326 3 (ae k (b.bD.length+1) l) (b.bD.length+1) (jh (b.bD.take i++⟨n,now,id⟩::b.bD.drop i))->cS (λi=>B.bD.ownBlock=Z i) W w9->(∀i,(ae k (b.bD.length+1) l).ownBlock=Z i->B.bD.ownBlock=Z i\/W.heap.size<=i)->aK w9 B.g 201 (Ks B aG cX b) ->
         ∃B',gC (w9.setCell ⟨B.g,2,I⟩ (ae k (b.bD.length+1) l)) B' aG cX ⟨b.bD.take i++⟨n,now,id⟩::b.bD.drop i,b.begun,b.out⟩/\B'.g=B.g/\cS B.own w (w9.setCell ⟨B.g,2,I⟩ (ae k (b.bD.length+1) l))/\∀i,B'.own i->B.own i\/w.heap.size<=i:=λW w9 k l uW Q u9 f9 G9=>by
        have TV:=B8.size;have TW:=uW.size;have Tw:(b.bD.take i++(⟨n,now,id⟩:M.js)::b.bD.drop i).length=b.bD.length+1:=dZ;have gs:=G9.bC 2 (ae k (b.bD.length+1) l);simp at gs;refine⟨⟨B.g,ae k (b.bD.length+1) l⟩,⟨gs,?_,λx hx=>?_,TH,by rw[Tw];exact T,⟨TO,TP⟩,HB.O.cX⟩,rfl,?_,λj hj=>?_⟩
        ·show World.ownsRow _ 0 326 3 _ (b.bD.take i++(⟨n,now,id⟩:M.js)::b.bD.drop i).length _;rw[Tw];exact du Q (cS.setCell (F:=One B.g) (p:=⟨B.g,2,I⟩) (cS.refl _ _) (.inl rfl) _) (λj hj q=>by
          have q':j=B.g:=q
          rcases f9 j hj with e|e
          ·exact N j e q'
          ·omega)
        ·rcases bt.1 hx with hx|hx
         ·exact HB.O.et x (eZ hx)
         ·rcases fw.1 hx with rfl|hx
          ·exact⟨hn,TG⟩
          ·exact HB.O.et x (ga hx)
        ·exact(((cS.bn B8).trans (uW.mono λ_ _ q=>q.elim)).trans (u9.mono λj _ q=>.inr q)).setCell (p:=⟨B.g,2,I⟩) (.inl (.inl rfl)) _
        ·rcases hj with rfl|hj
         ·exact .inl (.inl rfl)
         ·rcases f9 j hj with e|e
          ·exact .inl (.inr e)
          ·exact .inr z
       have Tg:=au fin;clear fin;obtain⟨Tx,Ty,TX,HV,TY,T8,T9⟩:=lV P Tf B8 f T N Tp;have Tz:aK (wc.alloc (.cells #[J V n,J V now,J V id] 326)) wc.heap.size 326 #[J V n,J V now,J V id]:=aK.new wc 326 _;have TA:=au Tz;clear P Tf B8 W8 F8 Tz T N Tp Tu HY Tv X HI HA HB R TD TE TC y;try clear HH
       go_wp2_with fail;go_region_with (refine(Tx.O _ (by first|exact Ty.O.dW (F:=cr) (cS.refl cr _).drew (λ_ _ q=>q)|exact Ty.O) (by first|exact TA.O.drew|exact TA.O)).mono ?_;rintro e w9 ⟨k,l,rfl,Q,u9,f9,k9,kf,G9⟩);all_goals
        go_wp2_with fail;refine ax (v:=J V 0) (by simp[aV,results184,go_sem]) rfl ⟨by rw[E.O],?_⟩;rw[E.O];first|exact Tg.O _ _ _ _ (((cS.refl cr wc).drew).alloc _) Q u9 f9 G9|exact Tg.O _ _ _ _ (((cS.refl cr wc)).alloc _) Q u9 f9 G9|exact Tg.O _ _ _ _ (((cS.refl cr wc)).alloc _).drew Q u9 f9 G9
  ·go_enter func184,ntmps184;go_upto_region 1 with fail;rw[<-C];have TS:w.heap.size<=r5:=lO C.symm;clear C;refine aW (λW=>gC W B aG cX b/\aK W r5 2 #[J V n]/\aC w W) ⟨Ti,Tj,Tk⟩ ?_;rintro W ⟨m,h5,bl⟩;have x5:=h5.cell 0;have c2:=m.cw.cell 2;have c0:=m.cw.cell 0;have c4:=m.cw.cell 4;have c5:=m.cw.cell 5;simp[f]at x5 c2 c0 c4 c5;obtain⟨HW,H5,BL⟩:=bU m h5 bl;have r:=HS.O W m h5;have t:=HX.O W m;rw[f,a]at r;rw[D]at t;obtain⟨Tl,Tm⟩:=bu r t;clear m h5 bl Ti Tj Tk hb r t HS HX;have Tn:=HH.O;cases H:b.out.has n
   ·rw[H]at Tn;have TN:=au Tn;clear Tn HH;go_wp2_with (first
     |(refine Tm.O.mono ?_;rintro e w2 ⟨rfl,S⟩;have u:=S.symm;subst u;try simp only[cB,if_false,if_true])
     |(refine Tl.O.mono ?_;rintro e w3 ⟨rfl,b3⟩;have o:=HW.O.below b3;have F3:=H5.O.kept b3;have L:=BL.O.trans (b3.mono BL.O.size);have y5:=F3.cell 0;have y2:=o.cw.cell 2;have y0:=o.cw.cell 0;have y4:=o.cw.cell 4;have y6:=o.cw.cell 5;have yf:=o.cw.frozen 2;simp[f]at y5 y2 y0 y4 y6))
    go_region_with (refine(TN.O _).mono ?_;rintro e w5 ⟨rfl,To⟩;have b5:aC w3 w5:=(by first|exact To|exact(cd (ao _ w3) 1).trans To));all_goals
     refine gN (λY=>gC Y B aG cX b/\aK Y r5 2 #[J V n]/\aC w Y) ⟨by first|exact o.below b5|exact o.below (cd b5 1),by first|exact F3.kept b5|exact(F3.kept b5).drew,by first|exact L.trans (b5.mono L.size)|exact cd (L.trans (b5.mono L.size)) 1⟩ ?_;clear b5 To;rintro w5 ⟨W5,F5,B5⟩;have y5:=F5.cell 0;have y2:=W5.cw.cell 2;have y0:=W5.cw.cell 0;simp[f]at y5 y2 y0;by_cases TF:n<b.out.high+1
     ·have hp:b.push aG n now id=(b,9):=by unfold M.mf.push;rw[a,D];simp[H,TF]
      have E:=au hp;clear hp;go_wp2_with fail;refine ax (v:=J V 9) (by simp[aV,results184,go_sem]) rfl ⟨by rw[E.O],by rw[E.O];exact R.O _ B5⟩
     ·have Uc:decide (n<b.out.high+1)=false:=by simpa using TF
      by_cases d:aG<=(b.bD.length:Int)
      ·have hp:b.push aG n now id=(b,8):=by unfold M.mf.push;rw[a,D];simp[d,H,TF]
       have E:=au hp;clear hp;go_wp2_with fail;go_quiet (fail);all_goals
        go_wp2_with fail;refine ax (v:=J V 8) (by simp[aV,results184,go_sem]) rfl ⟨by rw[E.O],by rw[E.O];exact R.O _ (by first|exact B5|exact cd B5 _|exact cd (cd B5 _) _)⟩
      ·have TT:decide (aG<=(b.bD.length:Int))=false:=by simpa using d
       have hp:b.push aG n now id=(⟨b.bD.take i++⟨n,now,id⟩::b.bD.drop i,b.begun,b.out⟩,0):=by unfold M.mf.push;rw[a,D,TD.O,TE.O];simp[d,H,TF]
       have T:b.bD.length+1<=8:=z;have E:=au hp;clear hp;go_wp2_with fail;go_quiet (fail);all_goals
        refine gN (λY=>gC Y B aG cX b/\aK Y r5 2 #[J V n]/\aC w Y) ⟨by first|exact W5|exact W5.dW (F:=cr) ((cS.refl cr _).drewN _) (λ_ _ q=>q)|exact W5.dW (F:=cr) (((cS.refl cr _).drewN _).drewN _) (λ_ _ q=>q),F5,by first|exact B5|exact cd B5 _|exact cd (cd B5 _) _⟩ ?_;rintro Y ⟨hY,K,Tt⟩;have U:=HA.O Y hY K;have z5:=K.cell 0;have z2:=hY.cw.cell 2;simp[f]at z5 z2;rw[f]at U;have y:(∃j:Nat,pq (λh=>decide (n<h.bO)) b.bD=(j:Int)/\j=i)\/pq (λh=>decide (n<h.bO)) b.bD = -1/\i=b.bD.length:=TC.imp (λe=>⟨i,e,rfl⟩) (λe=>e);obtain⟨Tu,HY,Tv,X⟩:=cA U hY K Tt;clear U hY K Tt;go_upto_if 62 with(refine Tu.O.mono ?_;rintro e w7 ⟨rfl,b7⟩;have W7:=HY.O.below b7;have F7:=Tv.O.kept b7;have B7:=X.O.trans (b7.mono X.O.size);have v5:=F7.cell 0;have v2:=W7.cw.cell 2;simp[f]at v5 v2)
        go_cut [13] (λs wc=>s=J V i/\gC wc B aG cX b/\aK wc r5 2 #[J V n]/\aC w wc);case first =>
         rcases y with⟨j,e,rfl⟩ | ⟨e,rfl⟩
         ·have hj:¬((j:Int)<0):=z;rw[e];go_wp2_with fail;go_meet;exact⟨rfl,W7,F7,B7⟩
         ·rw[e];go_wp2_with fail;go_meet;exact⟨rfl,W7,F7,B7⟩
        case rest =>
         obtain⟨rfl,W8,F8,B8⟩:=hcut;have g5:=F8.cell 0;have g2:=W8.cw.cell 2;simp[f]at g5 g2;have Tf:=W8.below ((ao wc.heap.size wc).alloc (aj _) (.cells #[J V n,J V now,J V id] 326));have TJ:=Tf.cw.cell 2;have TM:=(F8.alloc (.cells #[J V n,J V now,J V id] 326)).cell 0;simp[f]at TJ TM;have P:∀(W:aw),gC W B aG cX b->aK W wc.heap.size 326 #[J V n,J V now,J V id]->aF af 235 #[ae A b.bD.length c,J V i,ae (Z ⟨wc.heap.size,0,I⟩) 1 1] W λe w'=>∃k l,e=av (ae k (b.bD.length+1) l)/\w'.ownsRow 0 326 3 (ae k (b.bD.length+1) l) (b.bD.length+1) (jh (b.bD.take i++⟨n,now,id⟩::b.bD.drop i))/\cS (λi=>B.bD.ownBlock=Z i) W w'/\(∀i,(ae k (b.bD.length+1) l).ownBlock=Z i->B.bD.ownBlock=Z i\/W.heap.size<=i)/\w'.cell? ⟨B.g,2,I⟩=Z (ae A b.bD.length c)/\w'.frozen? ⟨B.g,2,I⟩=false/\aK w' B.g 201 (Ks B aG cX b):=λW h1 h2=>by
          have q:=HI.O wc.heap.size W h1 B8.size h2;rw[f]at q;refine q.mono ?_;rintro e w' ⟨v',rfl,Q,u9,f9⟩;obtain⟨k,l,rfl⟩:=bA Q;rw[<-f]at u9 f9;have G:=h1.cw.dW u9 (λq=>N _ q rfl);have e2:=G.cell 2;simp[f]at e2;exact⟨k,l,rfl,Q,u9,f9,e2,G.frozen 2,G⟩
         have fin:∀(W w9:aw) (k:Option Addr) (l:Nat),cS cr wc W->w9.ownsRow 0 326 3 (ae k (b.bD.length+1) l) (b.bD.length+1) (jh (b.bD.take i++⟨n,now,id⟩::b.bD.drop i))->cS (λi=>B.bD.ownBlock=Z i) W w9->(∀i,(ae k (b.bD.length+1) l).ownBlock=Z i->B.bD.ownBlock=Z i\/W.heap.size<=i)->aK w9 B.g 201 (Ks B aG cX b) ->
           ∃B',gC (w9.setCell ⟨B.g,2,I⟩ (ae k (b.bD.length+1) l)) B' aG cX ⟨b.bD.take i++⟨n,now,id⟩::b.bD.drop i,b.begun,b.out⟩/\B'.g=B.g/\cS B.own w (w9.setCell ⟨B.g,2,I⟩ (ae k (b.bD.length+1) l))/\∀i,B'.own i->B.own i\/w.heap.size<=i:=λW w9 k l uW Q u9 f9 G9=>by
          have TV:=B8.size;have TW:=uW.size;have Tw:(b.bD.take i++(⟨n,now,id⟩:M.js)::b.bD.drop i).length=b.bD.length+1:=dZ;have gs:=G9.bC 2 (ae k (b.bD.length+1) l);simp at gs;refine⟨⟨B.g,ae k (b.bD.length+1) l⟩,⟨gs,?_,λx hx=>?_,TH,by rw[Tw];exact T,⟨TO,TP⟩,HB.O.cX⟩,rfl,?_,λj hj=>?_⟩
          ·show World.ownsRow _ 0 326 3 _ (b.bD.take i++(⟨n,now,id⟩:M.js)::b.bD.drop i).length _;rw[Tw];exact du Q (cS.setCell (F:=One B.g) (p:=⟨B.g,2,I⟩) (cS.refl _ _) (.inl rfl) _) (λj hj q=>by
            have q':j=B.g:=q
            rcases f9 j hj with e|e
            ·exact N j e q'
            ·omega)
          ·rcases bt.1 hx with hx|hx
           ·exact HB.O.et x (eZ hx)
           ·rcases fw.1 hx with rfl|hx
            ·exact⟨hn,TG⟩
            ·exact HB.O.et x (ga hx)
          ·exact(((cS.bn B8).trans (uW.mono λ_ _ q=>q.elim)).trans (u9.mono λj _ q=>.inr q)).setCell (p:=⟨B.g,2,I⟩) (.inl (.inl rfl)) _
          ·rcases hj with rfl|hj
           ·exact .inl (.inl rfl)
           ·rcases f9 j hj with e|e
            ·exact .inl (.inr e)
            ·exact .inr z
         have Tg:=au fin;clear fin;obtain⟨Tx,Ty,TX,HV,TY,T8,T9⟩:=lV P Tf B8 f T N Tp;have Tz:aK (wc.alloc (.cells #[J V n,J V now,J V id] 326)) wc.heap.size 326 #[J V n,J V now,J V id]:=aK.new wc 326 _;have TA:=au Tz;clear P Tf B8 W8 F8 Tz T N Tp Tu HY Tv X HI HA HB R TD TE TC y;try clear HH
         go_wp2_with fail;go_region_with (refine(Tx.O _ (by first|exact Ty.O.dW (F:=cr) (cS.refl cr _).drew (λ_ _ q=>q)|exact Ty.O) (by first|exact TA.O.drew|exact TA.O)).mono ?_;rintro e w9 ⟨k,l,rfl,Q,u9,f9,k9,kf,G9⟩);all_goals
          go_wp2_with fail;refine ax (v:=J V 0) (by simp[aV,results184,go_sem]) rfl ⟨by rw[E.O],?_⟩;rw[E.O];first|exact Tg.O _ _ _ _ (((cS.refl cr wc).drew).alloc _) Q u9 f9 G9|exact Tg.O _ _ _ _ (((cS.refl cr wc)).alloc _) Q u9 f9 G9|exact Tg.O _ _ _ _ (((cS.refl cr wc)).alloc _).drew Q u9 f9 G9
   ·rw[H]at Tn;have TN:=au Tn;clear Tn HH;have hp:b.push aG n now id=(b,10):=by unfold M.mf.push;rw[a,D,H];simp
    have E:=au hp;clear hp;go_wp2_with (first
     |(refine Tm.O.mono ?_;rintro e w2 ⟨rfl,S⟩;have u:=S.symm;subst u;try simp only[cB,if_false,if_true])
     |(refine Tl.O.mono ?_;rintro e w3 ⟨rfl,b3⟩;have o:=HW.O.below b3;have F3:=H5.O.kept b3;have L:=BL.O.trans (b3.mono BL.O.size);have y5:=F3.cell 0;have y2:=o.cw.cell 2;have y0:=o.cw.cell 0;have y4:=o.cw.cell 4;have y6:=o.cw.cell 5;have yf:=o.cw.frozen 2;simp[f]at y5 y2 y0 y4 y6))
    go_region_with (refine(TN.O _).mono ?_;rintro e w5 ⟨rfl,To⟩;have b5:aC w3 w5:=(by first|exact To|exact(cd (ao _ w3) 1).trans To));all_goals
     go_wp2_with fail;refine ax (v:=J V 10) (by simp[aV,results184,go_sem]) rfl ⟨by rw[E.O],by rw[E.O];exact R.O _ (by first|exact L.trans (b5.mono L.size)|exact cd (L.trans (b5.mono L.size)) 1)⟩
 ·have hp:b.push aG n now id=(b,10):=by unfold M.mf.push;rw[a];simp
  have E:=au hp;clear hp;cases D:b.begun;all_goals
   go_enter func184,ntmps184;go_upto_region 1 with fail;rw[<-C];have TS:w.heap.size<=r5:=lO C.symm;clear C;refine aW (λW=>gC W B aG cX b/\aK W r5 2 #[J V n]/\aC w W) ⟨Ti,Tj,Tk⟩ ?_;rintro W ⟨m,h5,bl⟩;have x5:=h5.cell 0;have c2:=m.cw.cell 2;have c0:=m.cw.cell 0;have c4:=m.cw.cell 4;have c5:=m.cw.cell 5;simp[f]at x5 c2 c0 c4 c5;have HW:=au m;have H5:=au h5;have BL:=au bl;have r:=HS.O W m h5;have t:=HX.O W m;rw[f,a]at r;rw[D]at t;have Tl:=au r;have Tm:=au t;clear m h5 bl Ti Tj Tk hb r t HS HX;go_wp2_with (first
    |(refine Tm.O.mono ?_;rintro e w2 ⟨rfl,S⟩;have u:=S.symm;subst u;try simp only[cB,if_false,if_true])
    |(refine Tl.O.mono ?_;rintro e w3 ⟨rfl,b3⟩;have o:=HW.O.below b3;have F3:=H5.O.kept b3;have L:=BL.O.trans (b3.mono BL.O.size);have y5:=F3.cell 0;have y2:=o.cw.cell 2;have y0:=o.cw.cell 0;have y4:=o.cw.cell 4;have y6:=o.cw.cell 5;have yf:=o.cw.frozen 2;simp[f]at y5 y2 y0 y4 y6))
   refine ax (v:=J V 10) (by simp[aV,results184,go_sem]) rfl ⟨by rw[E.O],by rw[E.O];exact R.O _ L⟩
namespace M
structure Kp(R R':Room):Prop where
 dm:R'.dm=R.dm
 dA:R'.dA=R.dA
 cN:R'.cN=R.cN
 Rp:R'.bp.cI=R.bp.cI
 ret:R'.returned=R.returned
def Kp.refl(R:Room):Kp R R:=⟨rfl,rfl,rfl,rfl,rfl⟩
def Kp.trans{a b c:Room}(h:Kp a b)(k:Kp b c):Kp a c:=⟨k.dm.trans h.dm,k.dA.trans h.dA,k.cN.trans h.cN,k.Rp.trans h.Rp,k.ret.trans h.ret⟩
def Kp.foldl{α:Type}(f:Room->α->Room)(b:∀r a,Kp r (f r a)):∀(l:List α) (r:Room),Kp r (l.foldl f r)
 |[],r=>Kp.refl r
 |a::l,r=>(b r a).trans (Kp.foldl f b l (f r a))
def Kp.bR(r:Room)(s:Int)(id:Nat)(f:Int):Kp r (r.bR s id f):=by
 unfold Room.bR;split
 ·exact⟨rfl,rfl,rfl,rfl,rfl⟩
 ·exact Kp.refl r
def Kp.fG(r:Room)(o:bN)(f:eu->eu):Kp r (r.fG o f):=by
 unfold Room.fG;split
 ·exact⟨rfl,rfl,rfl,rfl,rfl⟩
 ·exact Kp.refl r
def Kp.ask(r:Room)(x:Int):Kp r (r.ask x):=by
 unfold Room.ask;refine Kp.foldl _ (λr s=>?_) _ r;split
 ·split
  ·exact Kp.fG _ _ _
  ·exact Kp.refl _
 ·exact Kp.refl _
def Kp.fE(r:Room)(id:Nat)(l:List Int)(e:Int):Kp r (M.fE r id l e):=by
 unfold M.fE;split
 ·exact Kp.foldl _ (λr s=>Kp.bR r s id 3) _ _
 ·split
  ·exact Kp.foldl _ (λr s=>Kp.bR r s id 2) _ _
  ·split
   ·exact Kp.foldl _ (λr s=>Kp.bR r s id 6) _ _
   ·exact Kp.refl _
def Kp.je(r:Room)(o:bN)(p:cR):Kp r (r.je o p):=by
 rw[mS];split
 ·exact Kp.refl r
 ·refine Kp.trans ?_ (Kp.fE _ _ _ _);exact⟨rfl,rfl,rfl,rfl,rfl⟩
def tQ(r:Room)(b:cQ)(q:List cQ)(a:r.dm=b::q):r.read=eQ { r with dm:=q }\/Kp { r with dm:=q } r.read:=by
 unfold Room.read;rw[a];simp only;split
 ·split
  ·exact .inl rfl
  ·exact .inr (Kp.trans (b:=Room.count { r with dm:=q } λc=>{ c with ff:=c.ff+1 }) ⟨rfl,rfl,rfl,rfl,rfl⟩ (Kp.foldl _ Kp.ask _ _))
 ·split
  ·exact .inl rfl
  ·split
   ·exact .inr ⟨rfl,rfl,rfl,rfl,rfl⟩
   ·exact .inr (Kp.je _ _ _)
def vm(r:Room)(s:Int)(id:Nat)(f:Int):(r.bR s id f).cN=r.cN/\(r.bR s id f).dA=r.dA:=by
 unfold Room.bR;split<;>exact⟨rfl,rfl⟩
structure Op(R R':Room):Prop where
 cN:R'.cN=R.cN
 dA:R'.dA=R.dA
def Op.refl(R:Room):Op R R:=⟨rfl,rfl⟩
def Op.trans{a b c:Room}(h:Op a b)(k:Op b c):Op a c:=⟨k.cN.trans h.cN,k.dA.trans h.dA⟩
def Op.foldl{α:Type}(f:Room->α->Room)(b:∀r a,Op r (f r a)):∀(l:List α) (r:Room),Op r (l.foldl f r)
 |[],r=>Op.refl r
 |a::l,r=>(b r a).trans (Op.foldl f b l (f r a))
def Op.bR(r:Room)(s:Int)(id:Nat)(f:Int):Op r (r.bR s id f):=⟨(vm r s id f).1,(vm r s id f).2⟩
def Op.aD(r:Room)(s:Int)(v:Option dP):Op r { r with aD:=set r.aD s v }:=⟨rfl,rfl⟩
def Op.az(r:Room)(o:bN)(v:Option eu):Op r { r with az:=set r.az o v }:=⟨rfl,rfl⟩
def Op.pick(r:Room)(w:eK)(a:Bool):Op r (r.pick w a).1:=by
 unfold Room.pick;split
 ·exact Op.refl r
 ·simp only;split
  ·rw[rf];have k:Op r (jd r w):=by
    unfold jd;split
    ·exact⟨rfl,rfl⟩
    ·split
     ·refine Op.foldl _ (λr o=>?_) _ _;unfold Room.cP;split
      ·exact Op.refl r
      ·exact(Op.az r _ _).trans (Op.foldl _ (λr id=>Op.foldl _ (λr s=>Op.bR r s id 8) _ r) _ _)
     ·split
      ·exact Op.refl r
      ·split
       ·exact(Op.aD r _ _).trans (Op.foldl _ (λr id=>Op.bR r w.2 id 8) _ _)
       ·split
        ·exact(Op.aD r _ _).trans (Op.foldl _ (λr id=>Op.bR r w.2 id 8) _ _)
        ·exact(Op.aD r _ _).trans (Op.foldl _ (λr id=>Op.bR r w.2 id 8) _ _)
   refine k.trans ?_;unfold back;split
   ·exact⟨rfl,rfl⟩
   ·exact Op.refl _
  ·split
   ·cases c:r.dm with
    |nil=>unfold Room.read;rw[c];exact Op.refl r
    |cons b q =>
     rcases tQ r b q c with e|k
     ·rw[e];exact⟨rfl,rfl⟩
     ·exact⟨k.cN,k.dA⟩
   ·split
    ·unfold Room.order;cases e:r.ready with
     |none=>exact Op.refl r
     |some o =>
      cases d:r.az o with
      |none=>simp only[d];exact Op.refl r
      |some s =>
       simp only[d];cases hh:s.bQ.bD with
       |nil=>exact Op.refl r
       |cons h t =>
        refine(Op.az r _ _).trans (Op.foldl _ (λr s=>?_) _ _);unfold Room.iW;split
        ·split
         ·exact Op.refl r
         ·simp only;split
          ·exact(Op.aD r _ _).trans (Op.bR _ _ _ _)
          ·exact⟨rfl,rfl⟩
        ·exact Op.refl r
    ·split
     ·unfold Room.gq;split
      ·exact Op.refl r
      ·simp only;split
       ·exact(Op.aD r _ _).trans (Op.bR _ _ _ _)
       ·exact⟨rfl,rfl⟩
     ·split
      ·unfold Room.fD;split
       ·exact Op.refl r
       ·simp only;split
        ·exact(Op.aD r _ _).trans (Op.bR _ _ _ _)
        ·exact⟨rfl,rfl⟩
      ·rw[kh];split
       ·exact Op.refl r
       ·have g:∀l' id f,Op r (kg r w.2 l' id f):=λl' id f=>by
         unfold kg;split
         ·exact(Op.aD r _ _).trans (Op.bR _ _ _ _)
         ·exact⟨rfl,rfl⟩
        rename_i l el;refine(g (l.write r.dA.aT a).1 (l.write r.dA.aT a).2.1 (l.write r.dA.aT a).2.2).trans ?_;unfold nA;split
        ·exact⟨rfl,rfl⟩
        ·exact Op.refl _
def Op.act(r:Room)(x:Act)(h8:x.nv≠8):Op r (r.act x).1:=by
 unfold Room.act;split
 ·unfold Room.fT;split
  ·exact Op.refl r
  ·exact⟨rfl,rfl⟩
 ·split
  ·exact Op.pick _ _ _
  ·split
   ·unfold Room.tick;split
    ·exact Op.refl r
    ·refine Op.trans (b:={ r with cJ:=r.cJ+1 }) ⟨rfl,rfl⟩ (Op.foldl _ (λr o=>?_) _ _);unfold Room.fg;split
     ·exact Op.refl r
     ·simp only;split<;>exact⟨rfl,rfl⟩
   ·split
    ·unfold Room.gg;repeat' split
     all_goals exact⟨rfl,rfl⟩
    ·split
     ·unfold Room.iJ;repeat' split
      all_goals exact⟨rfl,rfl⟩
     ·split
      ·unfold Room.dN Room.fj;repeat' split
       all_goals exact⟨rfl,rfl⟩
      ·split
       ·unfold Room.iy Room.fj;repeat' split
        all_goals exact⟨rfl,rfl⟩
       ·split
        ·unfold Room.jE Room.ji;repeat' split
         all_goals exact⟨rfl,rfl⟩
        ·exact Op.refl r
end M
namespace M
def Rt(R R':Room):Prop:=R'.returned=R.returned
def Rt.refl(R:Room):Rt R R:=rfl
def Rt.trans{a b c:Room}(h:Rt a b)(k:Rt b c):Rt a c:=Eq.trans k h
def Rt.foldl{α:Type}(f:Room->α->Room)(b:∀r a,Rt r (f r a)):∀(l:List α) (r:Room),Rt r (l.foldl f r)
 |[],r=>Rt.refl r
 |a::l,r=>(b r a).trans (Rt.foldl f b l (f r a))
def Rt.bR(r:Room)(s:Int)(id:Nat)(f:Int):Rt r (r.bR s id f):=by
 unfold Room.bR;split
 ·rfl
 ·rfl
def Rt.aD(r:Room)(s:Int)(v:Option dP):Rt r { r with aD:=set r.aD s v }:=rfl
def Rt.az(r:Room)(o:bN)(v:Option eu):Rt r { r with az:=set r.az o v }:=rfl
def Rg(R R':Room):Prop:=R'.returned.length<=R.returned.length+1
def Rt.rg{R R':Room}(h:Rt R R'):Rg R R':=by unfold Rg;rw[show R'.returned=R.returned from h];omega
def Rg.pick(r:Room)(w:eK)(a:Bool):Rg r (r.pick w a).1:=by
 unfold Room.pick;split
 ·exact(Rt.refl r).rg
 ·simp only;split
  ·rw[rf];have k:Rt r (jd r w):=by
    unfold jd;split
    ·rfl
    ·split
     ·refine Rt.foldl _ (λr o=>?_) _ _;unfold Room.cP;split
      ·exact Rt.refl r
      ·exact(Rt.az r _ _).trans (Rt.foldl _ (λr id=>Rt.foldl _ (λr s=>Rt.bR r s id 8) _ r) _ _)
     ·split
      ·exact Rt.refl r
      ·split
       ·exact(Rt.aD r _ _).trans (Rt.foldl _ (λr id=>Rt.bR r w.2 id 8) _ _)
       ·split
        ·exact(Rt.aD r _ _).trans (Rt.foldl _ (λr id=>Rt.bR r w.2 id 8) _ _)
        ·exact(Rt.aD r _ _).trans (Rt.foldl _ (λr id=>Rt.bR r w.2 id 8) _ _)
   unfold back;split
   ·unfold Rg;rw[show({ (jd r w) with returned:=(jd r w).returned++[w] }:Room).returned=(jd r w).returned++[w] from rfl,show(jd r w).returned=r.returned from k];simp
   ·exact k.rg
  ·refine Rt.rg ?_;split
   ·cases c:r.dm with
    |nil=>unfold Room.read;rw[c];exact Rt.refl r
    |cons b q =>
     rcases tQ r b q c with e|k
     ·rw[e];rfl
     ·exact k.ret
   ·split
    ·unfold Room.order;cases e:r.ready with
     |none=>exact Rt.refl r
     |some o =>
      cases d:r.az o with
      |none=>simp only[d];exact Rt.refl r
      |some s =>
       simp only[d];cases hh:s.bQ.bD with
       |nil=>exact Rt.refl r
       |cons h t =>
        refine(Rt.az r _ _).trans (Rt.foldl _ (λr s=>?_) _ _);unfold Room.iW;split
        ·split
         ·exact Rt.refl r
         ·simp only;split
          ·exact(Rt.aD r _ _).trans (Rt.bR _ _ _ _)
          ·rfl
        ·exact Rt.refl r
    ·split
     ·unfold Room.gq;split
      ·exact Rt.refl r
      ·simp only;split
       ·exact(Rt.aD r _ _).trans (Rt.bR _ _ _ _)
       ·rfl
     ·split
      ·unfold Room.fD;split
       ·exact Rt.refl r
       ·simp only;split
        ·exact(Rt.aD r _ _).trans (Rt.bR _ _ _ _)
        ·rfl
      ·rw[kh];split
       ·exact Rt.refl r
       ·have g:∀l' id f,Rt r (kg r w.2 l' id f):=λl' id f=>by
         unfold kg;split
         ·exact(Rt.aD r _ _).trans (Rt.bR _ _ _ _)
         ·rfl
        rename_i l el;refine(g (l.write r.dA.aT a).1 (l.write r.dA.aT a).2.1 (l.write r.dA.aT a).2.2).trans ?_;unfold nA;split
        ·rfl
        ·exact Rt.refl _
def Rg.act(r:Room)(x:Act):Rg r (r.act x).1:=by
 unfold Room.act;split
 ·refine Rt.rg ?_;unfold Room.fT;split<;>rfl
 ·split
  ·exact Rg.pick _ _ _
  ·refine Rt.rg ?_;split
   ·unfold Room.tick;split
    ·exact Rt.refl r
    ·refine Rt.trans (b:={ r with cJ:=r.cJ+1 }) rfl (Rt.foldl _ (λr o=>?_) _ _);unfold Room.fg;split
     ·exact Rt.refl r
     ·simp only;split<;>rfl
   ·split
    ·unfold Room.gg;repeat' split
     all_goals rfl
    ·split
     ·unfold Room.iJ;repeat' split
      all_goals rfl
     ·split
      ·unfold Room.dN Room.fj;repeat' split
       all_goals rfl
      ·split
       ·unfold Room.iy Room.fj;repeat' split
        all_goals rfl
       ·split
        ·unfold Room.jE Room.ji;repeat' split
         all_goals rfl
        ·split
         ·unfold Room.fU;split<;>rfl
         ·exact Rt.refl r
end M
namespace M
structure AK(R R':Room):Prop where
 Se:R'.cj=R.cj
 cJ:R'.cJ=R.cJ
 dA:R'.dA=R.dA
 dJ:∀o,(R'.az o).map eu.dJ=(R.az o).map eu.dJ
def AK.refl(R:Room):AK R R:=⟨rfl,rfl,rfl,λ_=>rfl⟩
def AK.trans{a b c:Room}(h:AK a b)(k:AK b c):AK a c:=⟨k.Se.trans h.Se,k.cJ.trans h.cJ,k.dA.trans h.dA,λo=>(k.dJ o).trans (h.dJ o)⟩
end M
namespace M
def kA(R:Room)(s:Int):List (Nat×cQ):=match R.aD s with | some l=>l.fF | none=>[]
end M
abbrev vD:ByteArray:=⟨#[32]⟩
def full(x:ByteArray):Bool:=!x.toList.isEmpty
def Mw:(af.info? 9).map (λi=>(i.zero,i.size,i.bytes))=Z (Z (.string ⟨#[]⟩),1,16):=cC
def Bg{w w':aw}{base:Nat}{e:TypeId}{size n:Nat}{v:Value}{xs:List Value}(h:w.ownsRow base e size v n xs)(b:aC w w'):w'.ownsRow base e size v n xs:=by
 rcases h.2 with⟨rfl,rfl⟩ | ⟨g,cap,dx,rfl,a,hg,hr⟩
 ·exact⟨h.1,.inl ⟨rfl,rfl⟩⟩
 ·exact⟨h.1,.inr ⟨g,cap,dx,rfl,a,aK.kept (t:=e) hg b,hr⟩⟩
def Jp{w:aw}{b a:Nat}{e:TypeId}{size n:Nat}{v:Value}{xs:List Value}(h:w.ownsRow b e size v n xs)(k:a<=b):w.ownsRow a e size v n xs:=
 ⟨h.1,h.2.imp id λ⟨g,cap,dx,c,d,f,i⟩=>⟨g,cap,dx,c,aP k d,f,i⟩⟩
def oW(s:ByteArray)(L:List ByteArray)(T:Lib.splitB vD 0 (Lib.countB s vD) s=L)(U:Lib.countB s vD+1=L.length)(hl:L.length<=1000)(hs:s.size<4294967281)(m:Int)(w:aw)(hm:w.cell? ⟨0,0,I⟩=Z (J V m)) :
  aF af 76 #[.string s] w λe w'=>∃v,e=av v/\w'.ownsRow w.heap.size 9 1 v (L.filter full).length ((L.filter full).map jA)/\aC w w':=by
 obtain⟨i0,hi,r,t,u⟩:=cY Mw;obtain⟨HI,F,G,H⟩:=cA hi r t u;have f:=Tryz.strings_Split s vD m w hs hm aR;rw[T,U]at f;have y:=au f;clear hi r t u f T U hm;go_enter func76,ntmps76;go_wp2_with (go_at_call 75;refine y.O.mono ?_;rintro e w2 ⟨rfl,rfl⟩);obtain⟨g,hg⟩:=dH w.heap.size;rw[<-hg];refine aW (λX=>aK X g 9 (L.map jA).toArray/\aC w X) ⟨aK.newAt _ _ _ _ hg,(ao _ w).alloc (aj _) _⟩ ?_;have Tf:w.heap.size<=g:=z;clear hg y;rintro X ⟨W,K⟩;obtain⟨M,N⟩:=bu W K;have Y:=K.size;clear W K;go_loopw [3,9] (λv i wr=>∃k:Nat,k<=L.length/\i=J V k/\wr.ownsRow X.heap.size 9 1 v ((L.take k).filter full).length (((L.take k).filter full).map jA)/\aC X wr) (λ_ i _=>L.length-(bS i).toNat);case atStart=>exact⟨0,Nat.zero_le _,rfl,⟨rfl,.inl ⟨rfl,rfl⟩⟩,ao _ _⟩
 case round =>
  obtain⟨k,hk,rfl,own,A⟩:=hrel;by_cases B:k<L.length
  ·have h:wr.cell? ⟨g,k,I⟩=Z (.string L[k]):=by
    have Tg:=aM A ((aK.cell M.O k).trans (show _=Z (jA L[k]) by simp[B]));exact Tg
   have l:L.take (k+1)=L.take k++[L[k]]:=List.take_succ_eq_append_getElem B;have n:(L.take (k+1)).filter full=(L.take k).filter full++if full L[k] then[L[k]] else[]:=by
    rw[l,List.filter_append];congr 1;rw[List.filter_cons];rfl
   generalize L[k]=x at h l n;have b:=au n;obtain⟨A5,c5,rfl⟩:=bA own;have P:((L.take k).filter full).length<=k:=aP (List.length_filter_le _ _) dZ;generalize ((L.take k).filter full)=vs at own b P;obtain⟨q,o⟩:=bu own A;clear own A l n;cases c:full x with
   |false =>
    have e1:x.toList.isEmpty=true:=by unfold full at c;simpa using c
    have a:=b.O;rw[c]at a;simp only[cB,if_false,List.append_nil]at a;have p:=au a;clear b a c;go_wp2_with fail;go_roundw;case rel=>exact⟨k+1,z,by go_num,by rw[p.O];exact q.O,o.O⟩
    case measure=>simp[bS];omega
   |true =>
    have e1:x.toList.isEmpty=false:=by unfold full at c;simpa using c
    have a:=b.O;rw[c]at a;simp only[if_true]at a;have p:=au a;clear b a c;have C:=fB wr 9 #[.string x];have al:aC X (wr.alloc (.cells #[.string x] 9)):=o.O.alloc o.O.size _;have Ti:=o.O.size;obtain⟨D,E⟩:=bu C al;clear C al o;go_wp2_with (at_builtin;go_loud (refine dM _ rfl _ _ 181 rfl X.heap.size 9 i0 _ 1 16 underlying181 HI.O F.O G.O H.O rfl aR _ _ _ rfl (q.O.alloc _) ⟨wr.heap.size,0,I⟩ 1 1 [.string x] rfl rfl D.O tk ?_ ?_ ?_ ?_))
    ·unfold maxLen;omega
    ·omega
    ·first|omega|(simp;omega)
    intro v5 w5 d g5 _;have b5:=E.O.grown g5 dZ (λj hj=>((q.O.alloc (.cells #[.string x] 9)).lt j hj).1);obtain⟨Q,R⟩:=bu d b5;clear d g5 b5 E D q;go_wp2_with fail;go_roundw;case rel=>exact⟨k+1,z,by go_num,by rw[p.O];simpa using Q.O,R.O⟩
    case measure=>simp[bS];omega
  ·have S:k=L.length:=z;subst S;rw[cT]at own;obtain⟨q,o⟩:=bu own (N.O.trans (A.mono Y));clear own A;go_wp2_with fail;go_ret;exact⟨_,rfl,Jp q.O Y,o.O⟩
end Go.Proofs.YtkfblammcilfhaaGreatDoor
