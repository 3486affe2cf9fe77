import Derived.Test.YtkfblammcilfhaaGreatDoorP6
import Derived.Test.YtkfblammcilfhaaGreatDoorP7
set_option linter.all false
set_option maxRecDepth 100000
set_option maxHeartbeats 100000000
open Go.ChangeShapes Go.WideShapes Go.ChangeAt Go.RowKit Go.Proofs.Tryz
open Go.Proofs.Tryz renaming prog->af
open Go renaming World->aw,Calls->aF,info_parts->cY,bodyPost_ret->ax,results->aV
open Go.RowKit.Below renaming refl->ao
open Nat renaming le_refl->aj,le_trans->aP,zero_add->cO,add_zero->iw
open Go.RowKit renaming wrap64->dB,intOf->bS
open List renaming getElem?_eq_getElem->ay,take_add_one->ee,take_length->cT,getElem_of_mem->ed,getElem?_cons_zero->nR,getElem?_cons_succ->iY,length_map->gP,getElem?_map->dE
open Go.IntKind renaming i64->V,u32->ar,u16->aN,u8->bI
open Array renaming getElem?_eq_getElem->aE
open Go.Value renaming int->J,slice->ae,bool->ai,pointer->aq,tuple->aB,agg->cg
open Go.Ending renaming returned->av
open Or renaming inl->aJ,inr->aZ
open Option renaming none->I,some->Z
namespace Go.Proofs.YtkfblammcilfhaaGreatDoor
def yt:(af.info? 229).map (λi=>(i.zero,i.size,i.bytes))=Z (Z mn,14,128):=cC
def GY(cap:Nat)(w:aw)(h1:1<=cap)(h8:cap<=8):aF af 149 #[J V cap] w λe w'=>∃g pl,e=av (aB #[aq (Z ⟨g,0,I⟩),J V 0])/\iA w' g pl cap []/\cS cr w w'/\w.heap.size<=g/\w.heap.size<=pl:=by
 obtain⟨i0,q,b,c,d⟩:=cY yt;obtain⟨s,h,k,l⟩:=cA q b c d;clear q b c d;have C:¬(cap:Int)<1:=z;have D:¬(8:Int)<cap:=z;go_enter func149,ntmps149;go_wp2_with (at_make;go_loud (refine wpList_make_full _ rfl _ _ 310 rfl w.heap.size 229 i0 mn 14 underlying310 s.O h.O k.O _ _ _ _ cap rfl rfl rfl rfl ?b2 ?b3 ?b4 ?_));case b2=>rw[l.O];omega
 case b3=>unfold maxLen;omega
 intro w1 rO g1;have t:∃cs,aK w1 w.heap.size 229 cs/\cs.size=cap*14:=by
  rcases rO.2 with⟨e,_⟩ | ⟨g,E,dx,e,_,hh,_,_,u,_⟩
  ·cases e
  ·simp only[Value.slice.injEq,Option.some.injEq,Addr.mk.injEq]at e;obtain⟨⟨rfl,_⟩,_,rfl⟩:=e;exact⟨dx,hh,z⟩
 have m:aC w w1:=(ao _ w).grown g1 (aj _) (λj y=>by cases y);clear rO g1;obtain⟨n,a,f⟩:=t;have r:=m.size;have lt:=a.lt;obtain⟨F,HS,A,B,o⟩:=gY lt f a m r;clear lt f a m r;go_wp2_with fail;refine ax (v:=aB #[aq (Z ⟨w1.heap.size,0,I⟩),J V 0]) (by simp[aV,results149,go_sem]) rfl ?_;refine⟨_,w.heap.size,rfl,⟨⟨0,n,0,0,0,0,z,aK.new w1 312 _,A.O.alloc _,HS.O,λi x p=>by simp at p⟩,dt,h1,h8,λx p=>by simp at p⟩,(cS.bn B.O).alloc _,o.O,aj _⟩
def EN{w:aw}{g pl cap:Nat}{q:List (List Value)}(h:iA w g pl cap q):∃n5:Int,w.cell? ⟨g,5,I⟩=Z (J V n5)/\∀v,iA (w.setCell ⟨g,5,I⟩ (J V v)) g pl cap q:=by
 obtain⟨first,jt,n4,n5,n6,n7,c,a,b,d,hR⟩:=h.ex;refine⟨n5,by rw[a.cell];rfl,λv=>⟨⟨first,jt,n4,v,n6,n7,c,?_,b.dS (p:=⟨g,5,I⟩) (λe=>aK.jf a b aR e.symm) _,d,hR⟩,h.le,h.one,h.aT,h.wf⟩⟩;have B:=a.bC 5 (J V v);simpa using B
def GW(g pl cap:Nat)(r:Int)(s:Int)(t:Bool)(u:Bool)(x:Int)(y:Int)(A:Int)(B:Int)(C:Option Addr)(j k:Nat)(D:Bool)(l:Int)(m:Option Addr)(a b:Nat)(n:Option Addr)(c d:Nat)(o:Bool)(q:List (List Value))(w:aw)(h:iA w g pl cap ([J V r,J V s,ai t,ai u,J bI x,J aN y,J ar A,J ar B,ae C j k,ai D,J aN l,ae m a b,ae n c d,ai o]::q)) :
  aF af 191 #[aq (Z ⟨g,0,I⟩)] w λe w'=>e=av (aB #[(cg #[J V r,J V s,ai t,ai u,J bI x,J aN y,J ar A,J ar B,ae C j k,ai D,J aN l,ae m a b,ae n c d,ai o]),ai true])/\iA w' g pl cap q/\cS (jK g pl) w w':=by
 obtain⟨first,jt,m4,m5,m6,m7,hf,P,U,hs,hR⟩:=h.ex;have lB:=P.lt;have lP:=U.lt;clear hf hs hR;go_enter func191,ntmps191;go_upto_region 1 with fail;obtain⟨r2,E⟩:=dH w.heap.size;rw[<-E];refine aW (λW=>aK W r2 229 #[J V 0,J V 0,ai false,ai false,J bI 0,J aN 0,J ar 0,J ar 0,ae I 0 0,ai false,J aN 0,ae I 0 0,ae I 0 0,ai false]/\iA W g pl cap ([J V r,J V s,ai t,ai u,J bI x,J aN y,J ar A,J ar B,ae C j k,ai D,J aN l,ae m a b,ae n c d,ai o]::q)/\aK W g 312 _/\cS cr w W) ⟨aK.newAt _ _ _ _ E,h.alloc _,P.alloc _,(cS.refl _ w).alloc _⟩ ?_;rintro W ⟨b2,X,F,u1⟩;have d2:r2≠g:=z;have d3:r2≠pl:=z;have d4:w.heap.size<=r2:=z;clear E lB lP h P U;have c2:=F.cell 2;have f5:=F.frozen 5;simp at c2;have e0:((q.length:Int)+1==0)=false:=dZ;have e1:¬((q.length:Int)+1=0):=z;obtain⟨n5,c5,up⟩:=EN X;have Y:=up (dB (n5+1));have H:=b2.dS (p:=⟨g,5,I⟩) d2 (J V (dB (n5+1)));have u2:=(u1.mono (G:=jK g pl) λi _ q=>q.elim).setCell (p:=⟨g,5,I⟩) (aJ (aJ rfl)) (J V (dB (n5+1)));have Q:=au H;have R:=au u2;have S:=au Y;clear up H u2 Y X b2 u1 F;go_wp2_with (first
  |(refine(yr g pl cap r s t u x y A B C j k D l m a b n c d o q _ S.O).mono ?_;rintro e w3 ⟨rfl,R3,u3⟩;have b3:=Q.O.dW u3 (λq=>by rcases q with q|q;exact d2 q;exact d3 q))
  |(refine jb _ rfl (.tmp 2) (.tmp 21) 229 rfl r2 0 229 #[J V 0,J V 0,ai false,ai false,J bI 0,J aN 0,J ar 0,J ar 0,ae I 0 0,ai false,J aN 0,ae I 0 0,ae I 0 0,ai false] rfl #[J V r,J V s,ai t,ai u,J bI x,J aN y,J ar A,J ar B,ae C j k,ai D,J aN l,ae m a b,ae n c d,ai o] rfl tj b3 (aj _) tk ?_;intro w6 f v6))
 have T:de #[J V 0,J V 0,ai false,ai false,J bI 0,J aN 0,J ar 0,J ar 0,ae I 0 0,ai false,J aN 0,ae I 0 0,ae I 0 0,ai false] 0 (#[J V r,J V s,ai t,ai u,J bI x,J aN y,J ar A,J ar B,ae C j k,ai D,J aN l,ae m a b,ae n c d,ai o]:Array Value).toList=#[J V r,J V s,ai t,ai u,J bI x,J aN y,J ar A,J ar B,ae C j k,ai D,J aN l,ae m a b,ae n c d,ai o]:=rfl;rw[T]at f;have x0:=f.cell 0;have x1:=f.cell 1;have x2:=f.cell 2;have x3:=f.cell 3;have x4:=f.cell 4;have x5:=f.cell 5;have x6:=f.cell 6;have x7:=f.cell 7;have x8:=f.cell 8;have x9:=f.cell 9;have K:=f.cell 10;have L:=f.cell 11;have M:=f.cell 12;have N:=f.cell 13;simp at x0 x1 x2 x3 x4 x5 x6 x7 x8 x9 K L M N;have h6:=R3.dW v6 (λe=>d2 e.symm) (λe=>d3 e.symm);have u6:=(R.O.trans u3).step v6 (λi hi=>aZ (by rw[show i=r2 from hi];exact d4));refine ax (v:=aB #[(cg #[J V r,J V s,ai t,ai u,J bI x,J aN y,J ar A,J ar B,ae C j k,ai D,J aN l,ae m a b,ae n c d,ai o]),ai true]) (by simp[aV,results191,go_sem,x0,x1,x2,x3,x4,x5,x6,x7,x8,x9,K,L,M,N]) rfl ⟨rfl,h6,u6⟩
def yv(x:List Value):Prop:=∃  (k:Int) (l:Int) (m:Bool) (n:Bool) (o:Int) (p:Int) (q:Int) (r:Int) (s:Option Addr) (e f:Nat) (t:Bool) (g:Int) (h:Option Addr) (a b:Nat) (i:Option Addr) (c d:Nat) (j:Bool),x=[J V k,J V l,ai m,ai n,J bI o,J aN p,J ar q,J ar r,ae s e f,ai t,J aN g,ae h a b,ae i c d,ai j]
def CY(g pl cap:Nat)(q:List (List Value))(w:aw)(h:iA w g pl cap q)(U:∀x∈q,yv x) :
  aF af 173 #[aq (Z ⟨g,0,I⟩)] w λe w'=>∃v,e=av v/\w'.ownsRow w.heap.size 229 14 v q.length q.flatten/\iA w' g pl cap []/\cS (jK g pl) w w':=by
 obtain⟨i0,S,W,X,Y⟩:=cY yt;obtain⟨HI,aI,df,eI⟩:=cA S W X Y;clear S W X Y;obtain⟨first,jt,m4,m5,m6,m7,hf,M,T,hs,hR⟩:=h.ex;have lB:=M.lt;have lP:=T.lt;have le:=h.le;have aT:=h.aT;have c2:=M.cell 2;simp at c2;obtain⟨gX,HQ⟩:=bu U h;clear hf hs hR M T U h;have u0:=cS.refl (jK g pl) w;have N:w.ownsRow w.heap.size 229 14 (ae I 0 0) 0 []:=⟨dt,aJ ⟨rfl,rfl⟩⟩;go_enter func173,ntmps173;go_wp2_with fail;clear c2;go_loopw [3,8] (λv i wr=>∃j:Nat,i=J V j/\j<=q.length/\wr.ownsRow w.heap.size 229 14 v j (q.take j).flatten/\iA wr g pl cap (q.drop j)/\cS (jK g pl) w wr) (λv i _=>q.length-(bS i).toNat);case atStart=>exact⟨0,rfl,z,N,HQ.O,u0⟩
 case round =>
  clear N u0;obtain⟨j,rfl,hj,own,R,u⟩:=hrel;have su:=u.size;by_cases Q:j<q.length
  ·obtain⟨x,L⟩:∃x,q[j]? = Z x:=⟨_,ay Q⟩;have hd:q.drop j=x::q.drop (j+1):=by
    rw[List.drop_eq_getElem_cons Q];rw[ay Q]at L;simp only[Option.some.injEq]at L;rw[L]
   have ht:(q.take (j+1)).flatten=(q.take j).flatten++x:=by rw[ee,L];simp
   obtain⟨s,t,y,B,C,D,E,G,H,k,l,K,m,n,a,b,o,d,f,r,rfl⟩:=gX.O x (List.mem_of_getElem? L);rw[hd]at R;obtain⟨A,c,rfl⟩:=bA own;have HT:=au ht;have HO:=au own;have HU:=au u;have HR:=au R;clear ht hd L own u R;have SJ:((j:Int)<(q.length:Int)):=z;go_wp2_with (first
    |(refine(yr g pl cap s t y B C D E G H k l K m n a b o d f r (q.drop (j+1)) wr HR.O).mono ?_;rintro e w3 ⟨rfl,R3,u3⟩;have o3:=du HO.O u3 (λi S q=>by have:=(HO.O.lt i S).1;rcases q with q|q<;>omega))
    |(at_builtin;go_loud (refine wpList_append_own _ rfl _ _ 310 rfl w.heap.size 229 i0 mn 14 128 underlying310 HI.O aI.O df.O eI.O rfl aR _ _ _ rfl (o3.alloc _) ⟨w3.heap.size,0,I⟩ 1 1 [J V s,J V t,ai y,ai B,J bI C,J aN D,J ar E,J ar G,ae H k l,ai K,J aN m,ae n a b,ae o d f,ai r] rfl rfl ?c1 ?c2 ?c3 ?c4 ?c5 ?_)))
   case c1=>exact fB w3 229 #[J V s,J V t,ai y,ai B,J bI C,J aN D,J ar E,J ar G,ae H k l,ai K,J aN m,ae n a b,ae o d f,ai r]
   case c2=>exact by intro u hu;simp at hu;repeat (first|(subst hu;rfl)|(rcases hu with rfl|hu;rfl))
   case c3=>unfold maxLen;omega
   case c4=>omega
   case c5=>have:=u3.size;simp;omega
   intro v5 w5 P g5 _;have u5:=eT g5;have R5:=(R3.alloc (.cells #[J V s,J V t,ai y,ai B,J bI C,J aN D,J ar E,J ar G,ae H k l,ai K,J aN m,ae n a b,ae o d f,ai r] 229)).dW u5 (λq=>by have:=((o3.alloc (.cells #[J V s,J V t,ai y,ai B,J bI C,J aN D,J ar E,J ar G,ae H k l,ai K,J aN m,ae n a b,ae o d f,ai r] 229)).lt g q).1;omega) (λq=>by have:=((o3.alloc (.cells #[J V s,J V t,ai y,ai B,J bI C,J aN D,J ar E,J ar G,ae H k l,ai K,J aN m,ae n a b,ae o d f,ai r] 229)).lt pl q).1;omega);have uu:=((HU.O.trans u3).alloc (.cells #[J V s,J V t,ai y,ai B,J bI C,J aN D,J ar E,J ar G,ae H k l,ai K,J aN m,ae n a b,ae o d f,ai r] 229)).step u5 (λi q=>aZ ((o3.alloc (.cells #[J V s,J V t,ai y,ai B,J bI C,J aN D,J ar E,J ar G,ae H k l,ai K,J aN m,ae n a b,ae o d f,ai r] 229)).lt i q).1);obtain⟨mK,SG,SH⟩:=bU R5 uu P;clear R5 uu P g5 u5 R3 u3 o3;go_wp2_with fail;go_roundw;case rel=>exact⟨j+1,by go_num,z,by rw[HT.O];exact SH.O,mK.O,SG.O⟩
   case measure=>simp[bS];omega
  ·have SI:j=q.length:=z;subst SI;rw[List.drop_length]at R;rw[cT]at own;obtain⟨A,c,rfl⟩:=bA own;obtain⟨first,jt,n4,n5,n6,n7,hf,M,T,hs,hR⟩:=R.ex;have d2:g≠pl:=aK.jf M T aR;have c7:=M.cell 7;have f7:=M.frozen 7;simp at c7;obtain⟨HO,HU,HB,HP,HS⟩:=gY own u M T hs;clear own u M T hs hR R;go_wp2_with fail;go_ret;have BB:=HB.O.bC 7 (J V (dB (n7+q.length)));refine⟨_,rfl,du HO.O (cS.setCell (F:=One g) (p:=⟨g,7,I⟩) (cS.refl _ _) (aJ rfl) _) (λi S e=>by have:=(HO.O.lt i S).1;rw[show i=g from e]at this;omega),⟨⟨first,jt,n4,n5,n6,dB (n7+q.length),hf,by simpa using BB,HP.O.dS (p:=⟨g,7,I⟩) (λe=>d2 e.symm) _,HS.O,λi x L=>by simp at L⟩,dt,HQ.O.one,aT,λx L=>by simp at L⟩,HU.O.setCell (p:=⟨g,7,I⟩) (aJ (aJ rfl)) _⟩
section
abbrev RM(id:Int)(aY:Int)(key:Bool)(p:M.cR)(s e y:Sl):List Value:=[J V id,J V aY,ai key,ai p.dR,J bI p.type,J aN p.dQ,J ar p.aU,J ar p.bJ,ae s.a s.n s.c,ai p.has,J aN p.bV,ae e.a e.n e.c,ae y.a y.n y.c]
abbrev SE(id:Int)(aY:Int)(key:Bool)(p:M.cR)(s e y:Sl)(first:Bool):List Value:=[J V id,J V aY,ai key,ai p.dR,J bI p.type,J aN p.dQ,J ar p.aU,J ar p.bJ,ae s.a s.n s.c,ai p.has,J aN p.bV,ae e.a e.n e.c,ae y.a y.n y.c,ai first]
abbrev Jw(id:Int)(b:Sl):List Value:=[J V id,ae b.a b.n b.c]
def uH(w:aw)(x:M.Item)(c:List Value):Prop:=∃s e y,c=RM x.id x.aY x.key x.bW s e y/\iT w x.bW s e y/\x.id<=1000000/\(0<=x.aY/\x.aY<3)
def pK(w:aw)(x:M.Item×Bool)(c:List Value):Prop:=∃s e y,c=SE x.1.id x.1.aY x.1.key x.1.bW s e y x.2/\iT w x.1.bW s e y/\x.1.id<=1000000/\(0<=x.1.aY/\x.1.aY<3)
def mG(w:aw)(x:Nat×M.cQ)(c:List Value):Prop:=∃b:Sl,c=Jw x.1 b/\b.B w x.2/\b.n<=400/\x.1<=1000000
def uH.rows{w w':aw}{x:M.Item}{c:List Value}(h:uH w x c)(r:Rows w w'):uH w' x c:=by
 obtain⟨s,e,y,h1,h2,h3⟩:=h;exact⟨s,e,y,h1,h2.rows r,h3⟩
def pK.rows{w w':aw}{x:M.Item×Bool}{c:List Value}(h:pK w x c)(r:Rows w w'):pK w' x c:=by
 obtain⟨s,e,y,h1,h2,h3⟩:=h;exact⟨s,e,y,h1,h2.rows r,h3⟩
def mG.rows{w w':aw}{x:Nat×M.cQ}{c:List Value}(h:mG w x c)(r:Rows w w'):mG w' x c:=by
 obtain⟨b,h1,h2,h3⟩:=h;exact⟨b,h1,h2.rows (aJ rfl) r,h3⟩
structure LB where
 g:Nat
 g1:Nat
 p1:Nat
 g2:Nat
 p2:Nat
 g3:Nat
 p3:Nat
 ov:Value
def LB.own(B:LB)(i:Nat):Prop:=i=B.g\/(i=B.g1\/i=B.p1)\/(i=B.g2\/i=B.p2)\/(i=B.g3\/i=B.p3)\/B.ov.ownBlock=Z i
abbrev nP(B:LB)(aT:Int)(l:M.dP):Array Value:=#[B.ov,aq (Z ⟨B.g1,0,I⟩),aq (Z ⟨B.g2,0,I⟩),aq (Z ⟨B.g3,0,I⟩),ai l.wanted,J V l.dx,J V l.fh,J ar l.mv.bJ,J aN l.mv.dQ,J ar l.mv.aU,ai l.mv.any,J ar l.mv.fH,J ar l.mv.shift,J V aT,J V l.row,ai l.eG]
structure Nb(aT:Int)(l:M.dP):Prop where
 src:0<=l.mv.bJ/\l.mv.bJ<=4294967295
 dQ:0<=l.mv.dQ/\l.mv.dQ<=65535
 aU:0<=l.mv.aU/\l.mv.aU<=4294967295
 row:0<=l.row/\l.row<=aT
 less:l.eG=false->l.row<aT
 aT:1<=aT/\aT<=10
structure ca(w:aw)(B:LB)(aG:Nat)(aT:Int)(l:M.dP)(N:Nat):Prop where
 cw:aK w B.g 133 (nP B aT l)
 cK:∃q,km w B.g1 B.p1 aG q/\Fit (uH w) l.cK q
 bF:∃q,iA w B.g2 B.p2 aG q/\Fit (pK w) l.bF q
 ready:∃q,nU w B.g3 B.p3 aG q/\Fit (mG w) l.ready q
 fF:∃q,w.ownsRow 0 80 2 B.ov l.fF.length q.flatten/\Fit (mG w) l.fF q
 ne:B.ov.ownBlock≠Z B.p3
 et:Nb aT l
 small:l.fF.length<=N
section
variable {w w':aw} {B:LB} {aG N:Nat} {aT:Int} {l:M.dP}
def ca.mono{M':Nat}(h:ca w B aG aT l N)(a:N<=M'):ca w B aG aT l M':={ h with small:=aP h.small a }
def ca.fr{F:Nat->Prop}(h:ca w B aG aT l N)(f:Fr F w w')(hF:∀i,B.own i->¬F i):ca w' B aG aT l N:=by
 obtain⟨a,r1,f1⟩:=h.cK;obtain⟨b,r2,f2⟩:=h.bF;obtain⟨d,e,f3⟩:=h.ready;obtain⟨g,r4,f4⟩:=h.fF;exact⟨h.cw.dW f.u (hF _ (aJ rfl)),⟨a,r1.dW f.u (hF _ (aZ (aJ (aJ rfl)))) (hF _ (aZ (aJ (aZ rfl)))),f1.mono λx c q=>q.rows f.r⟩,
  ⟨b,r2.dW f.u (hF _ (aZ (aZ (aJ (aJ rfl))))) (hF _ (aZ (aZ (aJ (aZ rfl))))),f2.mono λx c q=>q.rows f.r⟩,
  ⟨d,e.dW f.u (hF _ (aZ (aZ (aZ (aJ (aJ rfl)))))) (hF _ (aZ (aZ (aZ (aJ (aZ rfl)))))),f3.mono λx c q=>q.rows f.r⟩,
  ⟨g,du r4 f.u (λi j=>hF i (aZ (aZ (aZ (aZ j))))),f4.mono λx c q=>q.rows f.r⟩,h.ne,h.et,h.small⟩
def ca.below(h:ca w B aG aT l N)(u:aC w w'):ca w' B aG aT l N:=h.fr (F:=cr) (.bn u) λ_ _ q=>q
def ca.lt(h:ca w B aG aT l N):∀i,B.own i->i<w.heap.size:=by
 obtain⟨c,r1,f1⟩:=h.cK;obtain⟨d,r2,f2⟩:=h.bF;obtain⟨e,a,f3⟩:=h.ready;obtain⟨f,r4,f4⟩:=h.fF;rintro i (rfl|(rfl|rfl)|(rfl|rfl)|(rfl|rfl)|b)
 ·exact h.cw.lt
 ·exact r1.lt.1
 ·exact r1.lt.2
 ·exact r2.lt.1
 ·exact r2.lt.2
 ·exact a.lt.1
 ·exact a.lt.2
 ·exact(r4.lt i b).2
def ca.typed(h:ca w B aG aT l N):Typed w B.own [133,309,227,312,229,314,80]:=by
 obtain⟨d,r1,f1⟩:=h.cK;obtain⟨e,r2,f2⟩:=h.bF;obtain⟨f,a,f3⟩:=h.ready;obtain⟨g,r4,f4⟩:=h.fF;obtain⟨_,_,a1,a2⟩:=r1.cw;obtain⟨_,_,b1,b2⟩:=r2.cw;obtain⟨_,_,c1,c2⟩:=a.cw;rintro i (rfl|(rfl|rfl)|(rfl|rfl)|(rfl|rfl)|b)
 ·exact⟨_,_,dt,h.cw⟩
 ·exact⟨_,_,dt,a1⟩
 ·exact⟨_,_,dt,a2⟩
 ·exact⟨_,_,dt,b1⟩
 ·exact⟨_,_,dt,b2⟩
 ·exact⟨_,_,dt,c1⟩
 ·exact⟨_,_,dt,c2⟩
 ·obtain⟨t,cs,ht,c⟩:=ib r4 i b;simp at ht;subst ht;exact⟨_,_,dt,c⟩
def ca.ni(h:ca w B aG aT l N):vP w B.own:=h.typed.ni aR aR
def Out.DX(h:ca w B aG aT l N){t:TypeId}{g:Nat}{cs:Array Value}(a:aK w g t cs)(ht:t≠80):B.ov.ownBlock≠Z g:=by
 obtain⟨b,r4,f4⟩:=h.fF;exactλe=>ej r4 a (Ne.symm ht) e.symm
def ca.cells{a:M.dP}(h:ca w B aG aT l N)(f:Fr (One B.g) w w')(k:aK w' B.g 133 (nP B aT a))(m:a.cK=l.cK)(n:a.bF=l.bF)(o:a.ready=l.ready)(d:a.fF=l.fF)(p:Nb aT a):ca w' B aG aT a N:=by
 obtain⟨s,r1,f1⟩:=h.cK;obtain⟨t,r2,f2⟩:=h.bF;obtain⟨v,j,f3⟩:=h.ready;obtain⟨y,r4,f4⟩:=h.fF;obtain⟨_,_,a1,a2⟩:=r1.cw;obtain⟨_,_,b1,b2⟩:=r2.cw;obtain⟨_,_,c1,c2⟩:=j.cw;have b:=h.cw;refine⟨k,⟨s,r1.dW f.u (aK.jf a1 b aR) (aK.jf a2 b aR),?_⟩,⟨t,r2.dW f.u (aK.jf b1 b aR) (aK.jf b2 b aR),?_⟩,⟨v,j.dW f.u (aK.jf c1 b aR) (aK.jf c2 b aR),?_⟩,⟨y,?_,?_⟩,h.ne,p,by rw[d];exact h.small⟩
 ·rw[m];exact f1.mono λx c q=>q.rows f.r
 ·rw[n];exact f2.mono λx c q=>q.rows f.r
 ·rw[o];exact f3.mono λx c q=>q.rows f.r
 ·rw[d];exact du r4 f.u (λi A e=>Out.DX h b aR (by rw[A];exact congrArg Z e))
 ·rw[d];exact f4.mono λx c q=>q.rows f.r
end
end
section
theorem nD(p:Int)(w:aw):aF af 153 #[J V p] w λe w'=>e=av (ai (M.there p))/\w'=w:=by
 unfold M.there;go_enter func153,ntmps153;by_cases h1:0<=p
 ·by_cases h2:p<3
  ·go_wp2_with fail;go_ret;exact⟨by simp[h1,h2],rfl⟩
  ·go_wp2_with fail;go_ret;exact⟨by simp[h1,h2],rfl⟩
 ·go_wp2_with fail;go_ret;exact⟨by simp[h1];try omega,rfl⟩
theorem kU(p:Int)(w:aw):aF af 88 #[J V p] w λe w'=>e=av (ai (M.there p))/\w'=w:=by
 unfold M.there;go_enter func88,ntmps88;by_cases h1:0<=p
 ·by_cases h2:p<3
  ·go_wp2_with fail;go_ret;exact⟨by simp[h1,h2],rfl⟩
  ·go_wp2_with fail;go_ret;exact⟨by simp[h1,h2],rfl⟩
 ·go_wp2_with fail;go_ret;exact⟨by simp[h1];try omega,rfl⟩
section
variable (B:LB) (aG:Nat) (aT:Int) (l:M.dP) (N:Nat) (w:aw) (h:ca w B aG aT l N)
include h
theorem qK:aF af 46 #[aq (Z ⟨B.g,0,I⟩)] w λe w'=>e=av (ai l.eG)/\w'=w:=by
 have a:=h.cw.cell 15;simp at a;clear h;go_enter func46,ntmps46;go_wp2_with fail;go_ret;exact⟨rfl,rfl⟩
theorem vH:aF af 44 #[aq (Z ⟨B.g,0,I⟩)] w λe w'=>e=av (aB #[cg #[J V l.dx,J V l.fh],ai l.wanted])/\aC w w':=by
 have b:=h.cw;clear h;go_enter func44,ntmps44;go_upto_region 1 with fail;obtain⟨r2,h2⟩:=dH w.heap.size;rw[<-h2];refine aW (λW=>aK W r2 68 #[J V 0,J V 0]/\aK W B.g 133 (nP B aT l)/\aC w W) ⟨aK.newAt _ _ _ _ h2,b.alloc _,(ao _ w).alloc (aj _) _⟩ ?_;rintro W ⟨b2,a,c⟩;have hr:w.heap.size<=r2:=z;clear h2 b;have ne:=aK.jf b2 a aR;have c4:=a.cell 4;have c5:=a.cell 5;have i:=a.cell 6;have f0:=b2.frozen 0;have f1:=b2.frozen 1;have j:=b2.cell 0;have k:=b2.cell 1;simp at c4 c5 i j k;have R:=(b2.bC 0 (J V l.dx)).bC 1 (J V l.fh);have d:=R.cell 0;have r1:=R.cell 1;simp at d r1;have f:=au c;clear b2 a c R;go_region;all_goals
  go_wp2_with fail;refine ax (v:=aB #[cg #[J V l.dx,J V l.fh],ai l.wanted]) (by simp[aV,results44,go_sem,d,r1]) rfl ⟨rfl,?_⟩;first|exact cd ((f.O.setCell (p:=⟨r2,0,I⟩) hr _).setCell (p:=⟨r2,1,I⟩) hr _) 1|exact(f.O.setCell (p:=⟨r2,0,I⟩) hr _).setCell (p:=⟨r2,1,I⟩) hr _
theorem Bp:aF af 111 #[aq (Z ⟨B.g,0,I⟩),J V 1] w λe w'=>e=av (ai (l.nO aG))/\aC w w':=by
 obtain⟨b,r1,f1⟩:=h.cK;obtain⟨f,r2,f2⟩:=h.bF;have n1:=f1.length;have d:=f2.length;have c1:=h.cw.cell 1;have c2:=h.cw.cell 2;simp at c1 c2;obtain⟨H1,i⟩:=bu (Eh B.g1 B.p1 aG b w r1) (yu B.g2 B.p2 aG f w r2);clear r1 r2 f1 f2 h;unfold M.dP.nO;rw[<-n1,<-d];clear n1 d;by_cases hp:0<b.length
 ·have d1:decide ((0:Int)<(b.length:Int))=true:=dZ;have c:decide (0<b.length)=true:=dZ;rw[c];clear c;go_enter func111,ntmps111;go_wp2_with (first
   |(refine H1.O.mono ?_;rintro e w1 ⟨rfl,hw⟩;have a:=hw.symm;subst a)
   |(refine i.O.mono ?_;rintro e w1 ⟨rfl,hw⟩;subst hw))
  go_ret;exact⟨dt,cd (ao _ w) 1⟩
 ·have d1:decide ((0:Int)<(b.length:Int))=false:=decide_eq_false z;have c:decide (0<b.length)=false:=decide_eq_false hp;rw[c];clear c;go_enter func111,ntmps111;go_wp2_with (refine H1.O.mono ?_;rintro e w1 ⟨rfl,hw⟩;have a:=hw.symm;subst a);go_ret;exact⟨dt,ao _ w⟩
theorem Bo:aF af 111 #[aq (Z ⟨B.g,0,I⟩),J V 2] w λe w'=>e=av (ai (decide (0<l.bF.length)))/\aC w w':=by
 obtain⟨a,r2,f2⟩:=h.bF;have c:=f2.length;have c2:=h.cw.cell 2;simp at c2;have i:=au (zV B.g2 B.p2 aG a w r2);clear r2 f2 h;rw[<-c];clear c;have d:decide ((0:Int)<(a.length:Int))=decide (0<a.length):=by congr 1;simp
 have f:=au d;clear d;go_enter func111,ntmps111;go_wp2_with (refine i.O.mono ?_;rintro e w1 ⟨rfl,hw⟩;have b:=hw.symm;subst b);go_ret;exact⟨by first|rw[f.O]|(rw[<-f.O];simp)|simp,ao _ w⟩
theorem xu:aF af 111 #[aq (Z ⟨B.g,0,I⟩),J V 3] w λe w'=>e=av (ai (decide (0<l.ready.length)))/\aC w w':=by
 obtain⟨a,r2,f2⟩:=h.ready;have c:=f2.length;have c3:=h.cw.cell 3;simp at c3;have i:=au (Iv B.g3 B.p3 aG a w r2);clear r2 f2 h;rw[<-c];clear c;have d:decide ((0:Int)<(a.length:Int))=decide (0<a.length):=by congr 1;simp
 have f:=au d;clear d;go_enter func111,ntmps111;go_wp2_with (refine i.O.mono ?_;rintro e w1 ⟨rfl,hw⟩;have b:=hw.symm;subst b);go_ret;exact⟨by first|rw[f.O]|(rw[<-f.O];simp)|simp,ao _ w⟩
end
end
def xI(g pl cap:Nat)(a0:Int)(a1:Int)(b2:Bool)(b3:Bool)(a4:Int)(a5:Int)(G:Int)(H:Int)(K:Option Addr)(o r:Nat)(L:Bool)(s:Int)(t:Option Addr)(f l:Nat)(y:Option Addr)(m n:Nat)(A:Bool)(q:List (List Value))(w:aw)(h:iA w g pl cap q)(hq:q.length<cap) :
  aF af 190 #[aq (Z ⟨g,0,I⟩),(cg #[J V a0,J V a1,ai b2,ai b3,J bI a4,J aN a5,J ar G,J ar H,ae K o r,ai L,J aN s,ae t f l,ae y m n,ai A])] w λe w'=>e=av (aB #[mn,ai false,J V 0])/\iA w' g pl cap (q++[[J V a0,J V a1,ai b2,ai b3,J bI a4,J aN a5,J ar G,J ar H,ae K o r,ai L,J aN s,ae t f l,ae y m n,ai A]])/\cS (jK g pl) w w':=by
 obtain⟨first,jt,n4,n5,n6,n7,hf,hB,hP,hs,hR⟩:=h.ex;have le:=h.le;have one:=h.one;have aT:=h.aT;have T:=h.wf;have F:decide (q.length=cap)=false:=dZ;have U:=au F;clear F;have w1:V.wrap ((first:Int)+(q.length:Int))=(first:Int)+(q.length:Int):=IntWalk.i64_in _ ⟨z,z⟩;have w2:V.wrap ((q.length:Int)+1)=(q.length:Int)+1:=IntWalk.i64_in _ ⟨z,z⟩;obtain⟨p,hp⟩:=dH ((first+q.length) % cap);have SU:((first:Int)+(q.length:Int)) % (cap:Int)=(p:Int):=by rw[hp];simp
 have SM:p<cap:=by rw[hp];exact Nat.mod_lt _ z
 have SQ:(p:Int)<(cap:Int):=z;have SN:=ll (k:=14) SM;have M:=hR.push (x:=[J V a0,J V a1,ai b2,ai b3,J bI a4,J aN a5,J ar G,J ar H,ae K o r,ai L,J aN s,ae t f l,ae y m n,ai A]) hf hq hs rfl;rw[<-hp]at M;have aI:∀x∈q++[([J V a0,J V a1,ai b2,ai b3,J bI a4,J aN a5,J ar G,J ar H,ae K o r,ai L,J aN s,ae t f l,ae y m n,ai A]:List Value)],x.length=14/\∀u∈x,u.oneCell'=true:=by
  intro x S;rcases List.mem_append.1 S with S|S
  ·exact T x S
  ·simp at S;subst S;exact⟨rfl,by intro u hu;simp at hu;repeat (first|(subst hu;rfl)|(rcases hu with rfl|hu;rfl))⟩
 have df:p*14+14<=jt.size:=z;obtain⟨SO,HS,HR,c⟩:=cA aI hs M df;clear aI hs hR M hp SN df T;have FF:∀i,cr i->jK g pl i:=λi q=>q.elim;go_enter func190,ntmps190;go_upto_region 2 with fail;obtain⟨r3,N⟩:=dH w.heap.size;obtain⟨r4,P⟩:=dH (w.heap.size+1);obtain⟨r7,Q⟩:=dH (w.heap.size+1+1);rw[<-Q,<-P,<-N];refine aW (λW=>aK W r3 229 #[J V a0,J V a1,ai b2,ai b3,J bI a4,J aN a5,J ar G,J ar H,ae K o r,ai L,J aN s,ae t f l,ae y m n,ai A]/\aK W r4 229 #[J V 0,J V 0,ai false,ai false,J bI 0,J aN 0,J ar 0,J ar 0,ae I 0 0,ai false,J aN 0,ae I 0 0,ae I 0 0,ai false]/\aK W r7 229 #[J V 0,J V 0,ai false,ai false,J bI 0,J aN 0,J ar 0,J ar 0,ae I 0 0,ai false,J aN 0,ae I 0 0,ae I 0 0,ai false]/\iA W g pl cap q/\aK W g 312 _/\aK W pl 229 jt/\cS cr w W)
  ⟨((aK.newAt _ _ _ _ N).alloc _).alloc _,(aK.newAt _ _ _ _ (by rw[P];simp)).alloc _,aK.newAt _ _ _ _ (by rw[Q];simp),((h.alloc _).alloc _).alloc _,((hB.alloc _).alloc _).alloc _,((hP.alloc _).alloc _).alloc _,(((cS.refl _ w).alloc _).alloc _).alloc _⟩ ?_
 rintro W ⟨b3,b4,b7,R1,R,eI,u1⟩;have lB:=hB.lt;have lP:=hP.lt;have d1:r3≠pl/\r4≠pl/\r7≠pl/\r3≠g/\r4≠g/\r7≠g/\w.heap.size<=r4:=z;have d2:g≠pl:=aK.jf hB hP aR;have HD:=au d1;clear N P Q d1 lB lP h hB hP;have c3:=R.cell 3;simp at c3;go_upto_region 8 with(refine(yu g pl cap q W R1).mono ?_;rintro e w2 ⟨rfl,hv⟩;rw[U.O];subst hv)
 obtain⟨D,a,C,H4,H7,HU⟩:=lH R.drew eI.drew b3.drew b4.drew b7.drew u1.drew;clear R1 R eI b3 b4 b7 u1 c3;generalize W.drew=X at D a C H4 H7 HU ⊢;have c0:=D.O.cell 0;have c1:=D.O.cell 1;have c2:=D.O.cell 2;have f0:=a.O.frozen (p*14);have f1:=a.O.frozen (p*14+1);have f2:=a.O.frozen (p*14+2);have f3:=a.O.frozen (p*14+3);have f4:=a.O.frozen (p*14+4);have f5:=a.O.frozen (p*14+5);have f6:=a.O.frozen (p*14+6);have f7:=a.O.frozen (p*14+7);have f8:=a.O.frozen (p*14+8);have f9:=a.O.frozen (p*14+9);have f10:=a.O.frozen (p*14+10);have f11:=a.O.frozen (p*14+11);have f12:=a.O.frozen (p*14+12);have f13:=a.O.frozen (p*14+13);obtain⟨v0,v1,v2,v3,v4,v5,v6,v7,v8,v9,v10,v11,v12,gX,e0,e1,e2,e3,e4,e5,e6,e7,e8,e9,SV,SW,SX,SY⟩:∃v0 v1 v2 v3 v4 v5 v6 v7 v8 v9 v10 v11 v12 gX,X.cell? ⟨pl,p*14,I⟩=Z v0/\X.cell? ⟨pl,p*14+1,I⟩=Z v1/\X.cell? ⟨pl,p*14+2,I⟩=Z v2/\X.cell? ⟨pl,p*14+3,I⟩=Z v3/\X.cell? ⟨pl,p*14+4,I⟩=Z v4/\X.cell? ⟨pl,p*14+5,I⟩=Z v5/\X.cell? ⟨pl,p*14+6,I⟩=Z v6/\X.cell? ⟨pl,p*14+7,I⟩=Z v7/\X.cell? ⟨pl,p*14+8,I⟩=Z v8/\X.cell? ⟨pl,p*14+9,I⟩=Z v9/\X.cell? ⟨pl,p*14+10,I⟩=Z v10/\X.cell? ⟨pl,p*14+11,I⟩=Z v11/\X.cell? ⟨pl,p*14+12,I⟩=Z v12/\X.cell? ⟨pl,p*14+13,I⟩=Z gX:=⟨_,_,_,_,_,_,_,_,_,_,_,_,_,_,(a.O.cell _).trans (aE (lE c.O)),(a.O.cell _).trans (aE (lE c.O)),(a.O.cell _).trans (aE (lE c.O)),(a.O.cell _).trans (aE (lE c.O)),(a.O.cell _).trans (aE (lE c.O)),(a.O.cell _).trans (aE (lE c.O)),(a.O.cell _).trans (aE (lE c.O)),(a.O.cell _).trans (aE (lE c.O)),(a.O.cell _).trans (aE (lE c.O)),(a.O.cell _).trans (aE (lE c.O)),(a.O.cell _).trans (aE (lE c.O)),(a.O.cell _).trans (aE (lE c.O)),(a.O.cell _).trans (aE (lE c.O)),(a.O.cell _).trans (aE (lE c.O))⟩;have t0:=C.O.cell 0;have t1:=C.O.cell 1;have t2:=C.O.cell 2;have t3:=C.O.cell 3;have t4:=C.O.cell 4;have t5:=C.O.cell 5;have t6:=C.O.cell 6;have t7:=C.O.cell 7;have t8:=C.O.cell 8;have t9:=C.O.cell 9;have t10:=C.O.cell 10;have t11:=C.O.cell 11;have t12:=C.O.cell 12;have t13:=C.O.cell 13;simp at c0 c1 c2 t0 t1 t2 t3 t4 t5 t6 t7 t8 t9 t10 t11 t12 t13;go_region;have b:=HD.O;refine gN (λY=>aK Y g 312 _/\aK Y pl 229 (de jt (p*14) [J V a0,J V a1,ai b2,ai b3,J bI a4,J aN a5,J ar G,J ar H,ae K o r,ai L,J aN s,ae t f l,ae y m n,ai A])/\aK Y r4 229 _/\aK Y r7 229 _/\cS (jK g pl) w Y)
  ⟨((((((((((((((D.O.dS d2 _).dS d2 _).dS d2 _).dS d2 _).dS d2 _).dS d2 _).dS d2 _).dS d2 _).dS d2 _).dS d2 _).dS d2 _).dS d2 _).dS d2 _).dS d2 _).drew,by rw[<-mx c.O];exact((((((((((((((a.O.bC _ _).bC _ _).bC _ _).bC _ _).bC _ _).bC _ _).bC _ _).bC _ _).bC _ _).bC _ _).bC _ _).bC _ _).bC _ _).bC _ _).drew,((((((((((((((H4.O.dS b.2.1 _).dS b.2.1 _).dS b.2.1 _).dS b.2.1 _).dS b.2.1 _).dS b.2.1 _).dS b.2.1 _).dS b.2.1 _).dS b.2.1 _).dS b.2.1 _).dS b.2.1 _).dS b.2.1 _).dS b.2.1 _).dS b.2.1 _).drew,((((((((((((((H7.O.dS b.2.2.1 _).dS b.2.2.1 _).dS b.2.2.1 _).dS b.2.2.1 _).dS b.2.2.1 _).dS b.2.2.1 _).dS b.2.2.1 _).dS b.2.2.1 _).dS b.2.2.1 _).dS b.2.2.1 _).dS b.2.2.1 _).dS b.2.2.1 _).dS b.2.2.1 _).dS b.2.2.1 _).drew,(((((((((((((((HU.O.mono λi _ q=>(FF i q)).setCell (aJ (aZ rfl)) _).setCell (aJ (aZ rfl)) _).setCell (aJ (aZ rfl)) _).setCell (aJ (aZ rfl)) _).setCell (aJ (aZ rfl)) _).setCell (aJ (aZ rfl)) _).setCell (aJ (aZ rfl)) _).setCell (aJ (aZ rfl)) _).setCell (aJ (aZ rfl)) _).setCell (aJ (aZ rfl)) _).setCell (aJ (aZ rfl)) _).setCell (aJ (aZ rfl)) _).setCell (aJ (aZ rfl)) _).setCell (aJ (aZ rfl)) _).drew⟩ ?_
 rintro Y ⟨E,mK,SG,SH,uY⟩;have c2:=E.cell 2;have c4:=E.cell 4;have f2:=E.frozen 2;have f4:=E.frozen 4;simp at c2 c4;have hY:iA ((Y.setCell ⟨g,2,I⟩ (J V ((q.length:Int)+1))).setCell ⟨g,4,I⟩ (J V (dB (n4+1)))) g pl cap (q++[[J V a0,J V a1,ai b2,ai b3,J bI a4,J aN a5,J ar G,J ar H,ae K o r,ai L,J aN s,ae t f l,ae y m n,ai A]]):=by
  refine⟨⟨first,_,dB (n4+1),n5,n6,n7,hf,?_,(mK.dS (p:=⟨g,2,I⟩) (λe=>d2 e.symm) _).dS (p:=⟨g,4,I⟩) (λe=>d2 e.symm) _,by rw[gU (by simpa using c.O)];exact HS.O,HR.O⟩,dZ,one,aT,SO.O⟩;have B:=(E.bC 2 (J V ((q.length:Int)+1))).bC 4 (J V (dB (n4+1)));simpa using B
 have uZ:=(uY.setCell (p:=⟨g,2,I⟩) (aJ (aJ rfl)) (J V ((q.length:Int)+1))).setCell (p:=⟨g,4,I⟩) (aJ (aJ rfl)) (J V (dB (n4+1)));have z4:=(SG.dS (p:=⟨g,2,I⟩) b.2.2.2.2.1 (J V ((q.length:Int)+1))).dS (p:=⟨g,4,I⟩) b.2.2.2.2.1 (J V (dB (n4+1)));have z7:=(SH.dS (p:=⟨g,2,I⟩) b.2.2.2.2.2.1 (J V ((q.length:Int)+1))).dS (p:=⟨g,4,I⟩) b.2.2.2.2.2.1 (J V (dB (n4+1)));have HY:=au hY;have HZ:=au uZ;have H4:=au z4;have H7:=au z7;clear hY uZ z4 z7 E mK SG SH uY b D a HU;go_wp2_with (first
  |(refine lI _ rfl (.tmp 7) 229 rfl r7 0 229 _ rfl #[J V 0,J V 0,ai false,ai false,J bI 0,J aN 0,J ar 0,J ar 0,ae none 0 0,ai false,J aN 0,ae none 0 0,ae none 0 0,ai false] _ underlying229 tj H7.O (λj _=>by rw[cO]) ?_)
  |(refine jb _ rfl (.tmp 4) (.tmp 65) 229 rfl r4 0 229 _ rfl #[J V 0,J V 0,ai false,ai false,J bI 0,J aN 0,J ar 0,J ar 0,ae I 0 0,ai false,J aN 0,ae I 0 0,ae I 0 0,ai false] rfl tj H4.O (aj _) tk ?_;intro w6 d v6))
 have b:=HD.O;have SP:de #[J V 0,J V 0,ai false,ai false,J bI 0,J aN 0,J ar 0,J ar 0,ae I 0 0,ai false,J aN 0,ae I 0 0,ae I 0 0,ai false] 0 (#[J V 0,J V 0,ai false,ai false,J bI 0,J aN 0,J ar 0,J ar 0,ae I 0 0,ai false,J aN 0,ae I 0 0,ae I 0 0,ai false]:Array Value).toList=#[J V 0,J V 0,ai false,ai false,J bI 0,J aN 0,J ar 0,J ar 0,ae I 0 0,ai false,J aN 0,ae I 0 0,ae I 0 0,ai false]:=rfl;rw[SP]at d;have x0:=d.cell 0;have x1:=d.cell 1;have x2:=d.cell 2;have x3:=d.cell 3;have x4:=d.cell 4;have x5:=d.cell 5;have x6:=d.cell 6;have x7:=d.cell 7;have x8:=d.cell 8;have x9:=d.cell 9;have SI:=d.cell 10;have SJ:=d.cell 11;have SK:=d.cell 12;have SL:=d.cell 13;simp at x0 x1 x2 x3 x4 x5 x6 x7 x8 x9 SI SJ SK SL;have h6:=HY.O.dW v6 (λe=>b.2.2.2.2.1 e.symm) (λe=>b.2.1 e.symm);have u6:=HZ.O.step v6 (λi hi=>aZ (by rw[show i=r4 from hi];exact b.2.2.2.2.2.2));refine ax (v:=aB #[mn,ai false,J V 0]) (by simp[aV,results190,go_sem,x0,x1,x2,x3,x4,x5,x6,x7,x8,x9,SI,SJ,SK,SL]) rfl ⟨rfl,h6,u6⟩
section
abbrev QR(id:Int)(aY:Int)(key:Bool)(p:M.cR)(s e y:Sl):Value:=cg #[J V id,J V aY,ai key,ai p.dR,J bI p.type,J aN p.dQ,J ar p.aU,J ar p.bJ,ae s.a s.n s.c,ai p.has,J aN p.bV,ae e.a e.n e.c,ae y.a y.n y.c]
abbrev Sj(id:Int)(aY:Int)(key:Bool)(p:M.cR)(s e y:Sl)(first:Bool):Value:=cg #[J V id,J V aY,ai key,ai p.dR,J bI p.type,J aN p.dQ,J ar p.aU,J ar p.bJ,ae s.a s.n s.c,ai p.has,J aN p.bV,ae e.a e.n e.c,ae y.a y.n y.c,ai first]
abbrev NP(id:Int)(b:Sl):Value:=cg #[J V id,ae b.a b.n b.c]
def sj(w:aw)(g pl cap:Nat)(l:List M.Item):Prop:=∃q,km w g pl cap q/\Fit (uH w) l q
def pw(w:aw)(g pl cap:Nat)(l:List (M.Item×Bool)):Prop:=∃q,iA w g pl cap q/\Fit (pK w) l q
def pY(w:aw)(g pl cap:Nat)(l:List (Nat×M.cQ)):Prop:=∃q,nU w g pl cap q/\Fit (mG w) l q
def oa{tr te:TypeId}{k:Nat}{w w':aw}{g pl cap:Nat}{q:List (List Value)}(h:RingM tr te k w g pl cap q)(u:cS (jK g pl) w w')(h1:tr≠5)(h2:tr≠41)(h3:te≠5)(h4:te≠41):Fr (jK g pl) w w':=
 .nY u h.typed (by simp;exact⟨Ne.symm h1,Ne.symm h3⟩) (by simp;exact⟨Ne.symm h2,Ne.symm h4⟩)
section
variable {w w':aw} {g pl cap:Nat}
def Gx{l:List M.Item}(h:sj w g pl cap l)(id:Nat)(aY:Int)(key:Bool)(p:M.cR)(s e y:Sl)(hp:iT w p s e y)(n:id<=1000000)(o:0<=aY/\aY<3) :
  aF af 187 #[aq (Z ⟨g,0,I⟩),QR id aY key p s e y] w λr w'=>∃(t ol:Int) (ok:Bool) (op:M.cR) (os j m:Sl),r=av (aB #[QR t ol ok op os j m,ai (decide (l.length=cap)),J V 0]) /\
   (l.length=cap->∃x,l.head? = Z x/\t=(x.id:Int))/\sj w' g pl cap (M.push cap l ⟨id,aY,key,p⟩)/\Fr (jK g pl) w w':=by
 obtain⟨q,hR,hF⟩:=h;have C:=hF.length;by_cases a:l.length=cap
 ·cases l with
  |nil=>have:=hR.one;simp at a;omega
  |cons x xs =>
   obtain⟨c,v,rfl,A,i⟩:=hF.cons_inv;obtain⟨os,j,m,rfl,D,_⟩:=A;refine(zK g pl cap _ _ _ _ _ _ _ _ _ _ _ _ _ _ _ _ _ _ _ _ _ _ _ _ _ _ _ _ _ _ _ _ _ _ _ _ _ _ v w hR (by have:=i.length;simp at a;omega)).mono ?_;rintro r w' ⟨rfl,b,u⟩;have f:=oa hR u aR aR aR aR;refine⟨x.id,x.aY,x.key,x.bW,os,j,m,by rw[decide_eq_true a],λ_=>⟨x,rfl,rfl⟩,⟨_,b,?_⟩,f⟩;unfold M.push;rw[if_pos a];exact(i.mono λB d k=>k.rows f.r).snoc ⟨s,e,y,rfl,hp.rows f.r,n,o⟩
 ·have hle:=hR.le;refine(zJ g pl cap _ _ _ _ _ _ _ _ _ _ _ _ _ _ _ _ _ _ _ q w hR z).mono ?_;rintro r w' ⟨rfl,b,u⟩;have f:=oa hR u aR aR aR aR;refine⟨0,0,false,.zero,.nil,.nil,.nil,by rw[decide_eq_false a];rfl,λq=>absurd q a,⟨_,b,?_⟩,f⟩;unfold M.push;rw[if_neg a];exact(hF.mono λB d k=>k.rows f.r).snoc ⟨s,e,y,rfl,hp.rows f.r,n,o⟩
def JP{x:M.Item}{l:List M.Item}(h:sj w g pl cap (x::l)) :
  aF af 188 #[aq (Z ⟨g,0,I⟩)] w λr w'=>∃s e y:Sl,r=av (aB #[QR x.id x.aY x.key x.bW s e y,ai true])/\iT w' x.bW s e y/\x.id<=1000000/\(0<=x.aY/\x.aY<3)/\sj w' g pl cap l/\Fr (jK g pl) w w':=by
 obtain⟨q,hR,hF⟩:=h;obtain⟨c,i,rfl,j,a⟩:=hF.cons_inv;obtain⟨s,e,y,rfl,m,n,o⟩:=j;refine(Mo g pl cap _ _ _ _ _ _ _ _ _ _ _ _ _ _ _ _ _ _ _ i w hR).mono ?_;rintro r w' ⟨rfl,b,u⟩;have f:=oa hR u aR aR aR aR;exact⟨s,e,y,rfl,m.rows f.r,n,o,⟨_,b,a.mono λp d k=>k.rows f.r⟩,f⟩
def CX{l:List (M.Item×Bool)}(h:pw w g pl cap l)(id:Nat)(aY:Int)(key:Bool)(p:M.cR)(s e y:Sl)(first:Bool)(hp:iT w p s e y)(c:id<=1000000)(i:0<=aY/\aY<3)(j:l.length≠cap) :
  aF af 190 #[aq (Z ⟨g,0,I⟩),Sj id aY key p s e y first] w λr w'=>∃(v:Value) (b:Bool),r=av (aB #[v,ai b,J V 0])/\pw w' g pl cap (l++[(⟨id,aY,key,p⟩,first)])/\Fr (jK g pl) w w':=by
 obtain⟨q,hR,hF⟩:=h;have m:=hF.length;have hle:=hR.le;refine(xI g pl cap _ _ _ _ _ _ _ _ _ _ _ _ _ _ _ _ _ _ _ _ q w hR z).mono ?_;rintro r w' ⟨rfl,a,u⟩;have f:=oa hR u aR aR aR aR;exact⟨_,_,rfl,⟨_,a,(hF.mono λn d k=>k.rows f.r).snoc ⟨s,e,y,rfl,hp.rows f.r,c,i⟩⟩,f⟩
def EK{x:M.Item×Bool}{l:List (M.Item×Bool)}(h:pw w g pl cap (x::l)) :
  aF af 191 #[aq (Z ⟨g,0,I⟩)] w λr w'=>∃s e y:Sl,r=av (aB #[Sj x.1.id x.1.aY x.1.key x.1.bW s e y x.2,ai true])/\iT w' x.1.bW s e y/\x.1.id<=1000000/\pw w' g pl cap l/\Fr (jK g pl) w w':=by
 obtain⟨q,hR,hF⟩:=h;obtain⟨c,i,rfl,j,a⟩:=hF.cons_inv;obtain⟨s,e,y,rfl,m,n,o⟩:=j;refine(GW g pl cap _ _ _ _ _ _ _ _ _ _ _ _ _ _ _ _ _ _ _ _ i w hR).mono ?_;rintro r w' ⟨rfl,b,u⟩;have f:=oa hR u aR aR aR aR;exact⟨s,e,y,rfl,m.rows f.r,n,⟨_,b,a.mono λp d k=>k.rows f.r⟩,f⟩
def Ju{l:List (Nat×M.cQ)}(h:pY w g pl cap l)(id:Nat)(b:Sl)(xs:M.cQ)(o:b.B w xs)(i:b.n<=400)(p:id<=1000000) :
  aF af 194 #[aq (Z ⟨g,0,I⟩),NP id b] w λr w'=>∃(s:Int) (m:Sl),r=av (aB #[NP s m,ai (decide (l.length=cap)),J V 0]) /\
   (l.length=cap->∃x,l.head? = Z x/\s=(x.1:Int))/\pY w' g pl cap (M.push cap l (id,xs))/\Fr (jK g pl) w w':=by
 obtain⟨q,hR,hF⟩:=h;have C:=hF.length;by_cases a:l.length=cap
 ·cases l with
  |nil=>have:=hR.one;simp at a;omega
  |cons x t =>
   obtain⟨c,v,rfl,y,j⟩:=hF.cons_inv;obtain⟨m,rfl,D,_⟩:=y;refine(Aw g pl cap _ _ _ _ _ _ _ _ v w hR (by have:=j.length;simp at a;omega)).mono ?_;rintro r w' ⟨rfl,e,u⟩;have f:=oa hR u aR aR aR aR;refine⟨x.1,m,by rw[decide_eq_true a],λ_=>⟨x,rfl,rfl⟩,⟨_,e,?_⟩,f⟩;unfold M.push;rw[if_pos a];exact(j.mono λA d k=>k.rows f.r).snoc ⟨b,rfl,o.rows (aJ rfl) f.r,i,p⟩
 ·have hle:=hR.le;refine(Av g pl cap _ _ _ _ q w hR z).mono ?_;rintro r w' ⟨rfl,e,u⟩;have f:=oa hR u aR aR aR aR;refine⟨0,.nil,by rw[decide_eq_false a];rfl,λq=>absurd q a,⟨_,e,?_⟩,f⟩;unfold M.push;rw[if_neg a];exact(hF.mono λA d k=>k.rows f.r).snoc ⟨b,rfl,o.rows (aJ rfl) f.r,i,p⟩
def LD{x:Nat×M.cQ}{l:List (Nat×M.cQ)}(h:pY w g pl cap (x::l)) :
  aF af 165 #[aq (Z ⟨g,0,I⟩)] w λr w'=>∃b:Sl,r=av (aB #[NP x.1 b,ai true])/\b.B w' x.2/\b.n<=400/\x.1<=1000000/\pY w' g pl cap l/\Fr (jK g pl) w w':=by
 obtain⟨q,hR,hF⟩:=h;obtain⟨c,i,rfl,j,a⟩:=hF.cons_inv;obtain⟨b,rfl,m,h4,o⟩:=j;refine(NL g pl cap _ _ _ _ i w hR).mono ?_;rintro r w' ⟨rfl,e,u⟩;have f:=oa hR u aR aR aR aR;exact⟨b,rfl,m.rows (aJ rfl) f.r,h4,o,⟨_,e,a.mono λp d k=>k.rows f.r⟩,f⟩
def Bh{x:Nat×M.cQ}{l:List (Nat×M.cQ)}(h:pY w g pl cap (x::l)) :
  aF af 164 #[aq (Z ⟨g,0,I⟩)] w λr w'=>∃b:Sl,r=av (aB #[NP x.1 b,ai true])/\b.B w' x.2/\b.n<=400/\x.1<=1000000/\pY w' g pl cap (x::l)/\aC w w':=by
 obtain⟨q,hR,hF⟩:=h;have a:=hF;obtain⟨c,e,rfl,i,j⟩:=hF.cons_inv;obtain⟨b,rfl,m,h4,o⟩:=i;refine(LJ g pl cap _ _ _ _ e w hR).mono ?_;rintro r w' ⟨rfl,u⟩;have f:Fr cr w w':=.jT u (vP.none w);exact⟨b,rfl,m.rows (aJ rfl) f.r,h4,o,⟨_,hR.dW f.u id id,a.mono λp d k=>k.rows f.r⟩,u.nothing⟩
end
end
abbrev Mt(id:Int)(aY:Int)(key:Bool)(p:M.cR)(s e y:Sl):Array Value:=#[J V id,J V aY,ai key,ai p.dR,J bI p.type,J aN p.dQ,J ar p.aU,J ar p.bJ,ae s.a s.n s.c,ai p.has,J aN p.bV,ae e.a e.n e.c,ae y.a y.n y.c]
def ca.items{w:aw}{B:LB}{aG N:Nat}{aT:Int}{l:M.dP}(h:ca w B aG aT l N):sj w B.g1 B.p1 aG l.cK:=h.cK
def ca.ub{w w':aw}{B:LB}{aG N:Nat}{aT:Int}{l:M.dP}{xs:List M.Item}(h:ca w B aG aT l N)(f:Fr (jK B.g1 B.p1) w w')(a:sj w' B.g1 B.p1 aG xs):ca w' B aG aT { l with cK:=xs } N:=by
 obtain⟨n,r1,f1⟩:=h.cK;obtain⟨g,r2,f2⟩:=h.bF;obtain⟨j,d,f3⟩:=h.ready;obtain⟨m,r4,f4⟩:=h.fF;obtain⟨_,_,a1,a2⟩:=r1.cw;obtain⟨_,_,b1,b2⟩:=r2.cw;obtain⟨_,_,c1,c2⟩:=d.cw;have b:=h.cw;refine⟨b.dW f.u ?_,a,⟨g,r2.dW f.u ?_ ?_,f2.mono λx c k=>k.rows f.r⟩,⟨j,d.dW f.u ?_ ?_,f3.mono λx c k=>k.rows f.r⟩,⟨m,du r4 f.u ?_,f4.mono λx c k=>k.rows f.r⟩,h.ne,⟨h.et.src,h.et.dQ,h.et.aU,h.et.row,h.et.less,h.et.aT⟩,h.small⟩
 ·rintro(e|e)
  ·exact aK.jf b a1 aR e
  ·exact aK.jf b a2 aR e
 ·rintro(e|e)
  ·exact aK.jf b1 a1 aR e
  ·exact aK.jf b1 a2 aR e
 ·rintro(e|e)
  ·exact aK.jf b2 a1 aR e
  ·exact aK.jf b2 a2 aR e
 ·rintro(e|e)
  ·exact aK.jf c1 a1 aR e
  ·exact aK.jf c1 a2 aR e
 ·rintro(e|e)
  ·exact aK.jf c2 a1 aR e
  ·exact aK.jf c2 a2 aR e
 ·rintro i a (e|e)
  ·exact Out.DX h a1 aR (by rw[a,e])
  ·exact Out.DX h a2 aR (by rw[a,e])
def ca.MJ{w:aw}{B:LB}{aG N:Nat}{aT:Int}{l:M.dP}(h:ca w B aG aT l N){g:Nat}{t:TypeId}{cs:Array Value}(a:aK w g t cs) :
  (t≠309->t≠227->¬jK B.g1 B.p1 g)/\(t≠312->t≠229->¬jK B.g2 B.p2 g)/\(t≠314->t≠80->¬jK B.g3 B.p3 g):=by
 obtain⟨c,r1,f1⟩:=h.cK;obtain⟨d,r2,f2⟩:=h.bF;obtain⟨f,b,f3⟩:=h.ready;obtain⟨_,_,a1,a2⟩:=r1.cw;obtain⟨_,_,b1,b2⟩:=r2.cw;obtain⟨_,_,c1,c2⟩:=b.cw;refine⟨λn m=>?_,λn m=>?_,λn m=>?_⟩
 ·rintro(e|e)
  ·exact aK.jf a a1 n e
  ·exact aK.jf a a2 m e
 ·rintro(e|e)
  ·exact aK.jf a b1 n e
  ·exact aK.jf a b2 m e
 ·rintro(e|e)
  ·exact aK.jf a c1 n e
  ·exact aK.jf a c2 m e
def ca.rO(B:LB):∀i,jK B.g1 B.p1 i->B.own i:=λi a=>aZ (aJ a)
def Pp{w:aw}{p:M.cR}{s e y:Sl}(h:iT w p s e y):s.n<=400/\e.n<=400/\y.n<=400:=by
 obtain⟨a,b,c⟩:=h.small;rw[h.s.tl.len]at a;rw[h.e.tl.len]at b;rw[h.y.tl.len]at c;exact⟨a,b,c⟩
def LX(aG:Nat)(aT own dQ aU:Int)(w:aw)(h1:1<=aG)(h8:aG<=8)(hm:1<=aT/\aT<=10)(F:0<=own/\own<=4294967295)(G:0<=dQ/\dQ<=65535)(ht:0<=aU/\aU<=4294967295) :
  aF af 87 #[cg #[J V aG,J V aT,J ar own,J aN dQ,J ar aU]] w λe w'=>∃B:LB,e=av (aB #[aq (Z ⟨B.g,0,I⟩),J V 0])/\ca w' B aG aT (.new own dQ aU) 0/\(∀i,B.own i->w.heap.size<=i)/\aC w w':=by
 go_enter func87,ntmps87;go_upto_region 1 with fail;obtain⟨r1,s⟩:=dH w.heap.size;rw[<-s];refine aW (λW=>aK W r1 221 #[J V aG,J V aT,J ar own,J aN dQ,J ar aU]/\aC w W) ⟨aK.newAt _ _ _ _ s,(ao _ w).alloc (aj _) _⟩ ?_;clear s;rintro W ⟨b1,d⟩;have l:=b1.cell 0;simp at l;obtain⟨h,a⟩:=bu b1 d;clear b1 d;go_upto_region 4 with(go_big_may;go_at_call 148;refine(Mq aG W h1 h8).mono ?_;rintro e w1 ⟨g1,p1,rfl,f,u1,a1,a2⟩)
 refine aW (λY=>aK Y r1 221 #[J V aG,J V aT,J ar own,J aN dQ,J ar aU]/\aC w Y/\km Y g1 p1 aG []) ⟨h.O.kept u1.nothing,a.O.trans (u1.nothing.mono a.O.size),f⟩ ?_;have n1:w.heap.size<=g1/\w.heap.size<=p1:=⟨aP a.O.size a1,aP a.O.size a2⟩;clear h a f u1 a1 a2 l W;rintro W ⟨b1,d,f⟩;have l:=b1.cell 0;simp at l;obtain⟨h,a,b⟩:=bU b1 d f;clear b1 d f;go_upto_region 7 with(go_big_may;go_at_call 149;refine(GY aG W h1 h8).mono ?_;rintro e w2 ⟨g2,p2,rfl,j,u2,a1,a2⟩)
 refine aW (λY=>aK Y r1 221 #[J V aG,J V aT,J ar own,J aN dQ,J ar aU]/\aC w Y/\km Y g1 p1 aG []/\iA Y g2 p2 aG []) ⟨h.O.kept u2.nothing,a.O.trans (u2.nothing.mono a.O.size),b.O.below u2.nothing,j⟩ ?_;have A:w.heap.size<=g2/\w.heap.size<=p2:=⟨aP a.O.size a1,aP a.O.size a2⟩;clear h a b j u2 a1 a2 l W;rintro W ⟨b1,d,f,j⟩;have l:=b1.cell 0;simp at l;obtain⟨h,a,b,c⟩:=cA b1 d f j;clear b1 d f j;go_upto_region 10 with(go_big_may;go_at_call 150;refine(NN aG W h1 h8).mono ?_;rintro e w3 ⟨g3,p3,rfl,m,u3,a1,a2⟩)
 refine aW (λY=>aK Y r1 221 #[J V aG,J V aT,J ar own,J aN dQ,J ar aU]/\aC w Y/\km Y g1 p1 aG []/\iA Y g2 p2 aG []/\nU Y g3 p3 aG []) ⟨h.O.kept u3.nothing,a.O.trans (u3.nothing.mono a.O.size),b.O.below u3.nothing,c.O.below u3.nothing,m⟩ ?_;have C:w.heap.size<=g3/\w.heap.size<=p3:=⟨aP a.O.size a1,aP a.O.size a2⟩;clear h a b c m u3 a1 a2 l W;rintro W ⟨b1,d,f,j,m⟩;have D:=b1.cell 1;simp at D;obtain⟨h,a,b,c,k⟩:=gY b1 d f j m;clear b1 d f j m;go_upto_region 13 with(go_big_may;go_at_call 151;refine(Ny aT W hm.1 hm.2).mono ?_;rintro e w4 ⟨rfl,b4⟩)
 obtain⟨r8,t⟩:=dH w4.heap.size;rw[<-t];have p:aC W (w4.alloc (.cells #[J V aT,J V 0,ai false] 131)):=b4.alloc b4.size _;refine aW (λY=>aK Y r1 221 #[J V aG,J V aT,J ar own,J aN dQ,J ar aU]/\aC w Y/\km Y g1 p1 aG []/\iA Y g2 p2 aG []/\nU Y g3 p3 aG []/\aK Y r8 131 #[J V aT,J V 0,ai false]) ⟨h.O.kept p,a.O.trans (p.mono a.O.size),b.O.below p,c.O.below p,k.O.below p,aK.newAt _ _ _ _ t⟩ ?_;clear h a b c k p b4 t D W;rintro X ⟨b1,d,f,j,m,b8⟩;have u:=b1.cell 2;have x:=b1.cell 3;have y:=b1.cell 4;have j0:=b8.cell 0;have j1:=b8.cell 1;have j2:=b8.cell 2;simp at u x y j0 j1 j2;obtain⟨a,b,c,k⟩:=cA d f j m;clear b1 d f j m b8;go_region_held3 (λW=>W.cell? ⟨r1,2,I⟩=Z (J ar own)/\W.cell? ⟨r1,3,I⟩=Z (J aN dQ)/\W.cell? ⟨r1,4,I⟩=Z (J ar aU)/\W.cell? ⟨r8,0,I⟩=Z (J V aT)/\W.cell? ⟨r8,1,I⟩=Z (J V 0)/\W.cell? ⟨r8,2,I⟩=Z (ai false)) (first|(with_reducible exact⟨cE u,cE x,cE y,cE j0,cE j1,cE j2⟩)|(with_reducible exact⟨i2,i3,i4,l0,l1,l2⟩)|(with_reducible exact⟨ea i2,ea i3,ea i4,ea l0,ea l1,ea l2⟩)) (first|(go_at_call 152;refine(FQ own dQ aU _).mono ?_;rintro e r ⟨rfl,E⟩;have n:aC X r:=(by with_reducible exact eW E);have i2:=aM n u;have i3:=aM n x;have i4:=aM n y;have l0:=aM n j0;have l1:=aM n j1;have l2:=aM n j2;have o:=au n;clear n E));all_goals
  go_wp2_with fail;refine ax (v:=aB #[aq (Z ⟨r.heap.size,0,I⟩),J V 0]) (by simp[aV,results87,go_sem]) rfl ?_;have b5:=o.O.alloc o.O.size (.cells (nP ⟨r.heap.size,g1,p1,g2,p2,g3,p3,ae I 0 0⟩ aT (.new own dQ aU)) 133);refine⟨⟨r.heap.size,g1,p1,g2,p2,g3,p3,ae I 0 0⟩,rfl,?_,?_,?_⟩
  ·exact⟨aK.new r 133 _,⟨[],b.O.below b5,trivial⟩,⟨[],c.O.below b5,trivial⟩,⟨[],k.O.below b5,trivial⟩,⟨[],⟨by simp[M.dP.new],aJ ⟨rfl,rfl⟩⟩,trivial⟩,λq=>(by cases q),⟨F,G,ht,⟨by simp[M.dP.new],by simp[M.dP.new];omega⟩,λ_=>by simp[M.dP.new];omega,hm⟩,by simp[M.dP.new]⟩
  ·have K:=a.O.size;have hy:=o.O.size;rintro i (rfl|(rfl|rfl)|(rfl|rfl)|(rfl|rfl)|H)
   ·show w.heap.size<=r.heap.size;omega
   ·exact n1.1
   ·exact n1.2
   ·exact A.1
   ·exact A.2
   ·exact C.1
   ·exact C.2
   ·cases H
  ·exact a.O.trans (b5.mono a.O.size)
section
section
variable (B:LB) (aG:Nat) (aT:Int) (l:M.dP) (N:Nat) (w:aw) (h:ca w B aG aT l N)
include h
theorem JM(aY:Int):aF af 90 #[aq (Z ⟨B.g,0,I⟩),J V aY] w λe w'=>e=av (J V (l.iy aY).2)/\ca w' B aG aT (l.iy aY).1 N/\Fr (One B.g) w w':=by
 have d:=qK B aG aT l N w h;obtain⟨H,r⟩:=bu h d;clear d;cases ht:M.there aY
 ·have f:l.iy aY=(l,1):=by unfold M.dP.iy;simp[ht]
  have j:=au f;clear h f;go_enter func90,ntmps90;go_wp2_with (refine(nD aY w).mono ?_;rintro e w1 ⟨rfl,hw⟩;have a:=hw.symm;subst a;rw[ht]);go_ret;rw[j.O];exact⟨rfl,H.O,Fr.refl _ _⟩
 ·obtain⟨t1,t2⟩:0<=aY/\aY<3:=by simpa[M.there]using ht
  cases hg:l.eG
  ·have k:=h.cw;have c4:=k.cell 4;have c5:=k.cell 5;have s:=k.cell 6;simp at c4 c5 s;cases hw:l.wanted
   ·have f:l.iy aY=({ l with wanted:=true,dx:=-1,fh:=aY },0):=by unfold M.dP.iy;simp[ht,hg,hw]
    have j:=au f;have n:=au k;rw[hw]at c4;clear h f k;go_enter func90,ntmps90;go_upto_region 8 with(first
     |(refine(nD aY w).mono ?_;rintro e w1 ⟨rfl,hw⟩;have a:=hw.symm;subst a;rw[ht])
     |(refine r.O.mono ?_;rintro e w1 ⟨rfl,hw⟩;have a:=hw.symm;subst a;rw[hg])
     |(refine(om.zc aY w t1 t2).mono ?_;rintro e w2 ⟨rfl,b2⟩;have c:=n.O.kept b2;have o:=c.cell 5;have p:=c.cell 6;have f5:=c.frozen 5;have f6:=c.frozen 6;simp at o p;have b:=au c;have i:=au b2;clear c b2))
    have R:=(b.O.bC 5 (J V (-1))).bC 6 (J V aY);have F:Fr (One B.g) w ((w2.setCell ⟨B.g,5,I⟩ (J V (-1))).setCell ⟨B.g,6,I⟩ (J V aY)):=((Fr.bn (F:=One B.g) i.O).setCell b.O (aJ rfl) aR aR 5 _).setCell (b.O.bC 5 _) (aJ rfl) aR aR 6 _;refine aW (λY=>aK Y B.g 133 (nP B aT { l with dx:=-1,fh:=aY })/\Fr (One B.g) w Y) ⟨by simpa using R,F⟩ ?_;clear R F b i o p f5 f6 n c4 c5 s;rintro Y ⟨R,F⟩;have t:=R.cell 4;have f4:=R.frozen 4;simp at t;obtain⟨m,q⟩:=bu R F;clear R F;go_wp2_with fail;go_ret;rw[j.O];refine⟨rfl,?_,q.O.setCell m.O (aJ rfl) aR aR 4 _⟩;exact H.O.cells (q.O.setCell m.O (aJ rfl) aR aR 4 _) (by simpa using m.O.bC 4 (ai true)) rfl rfl rfl rfl ⟨H.O.et.src,H.O.et.dQ,H.O.et.aU,H.O.et.row,H.O.et.less,H.O.et.aT⟩
   ·have f:l.iy aY=({ l with wanted:=true,fh:=aY },0):=by unfold M.dP.iy;simp[ht,hg,hw]
    have j:=au f;have n:=au k;rw[hw]at c4;clear h f k;go_enter func90,ntmps90;go_upto_region 8 with(first
     |(refine(nD aY w).mono ?_;rintro e w1 ⟨rfl,hw⟩;have a:=hw.symm;subst a;rw[ht])
     |(refine r.O.mono ?_;rintro e w1 ⟨rfl,hw⟩;have a:=hw.symm;subst a;rw[hg])
     |(refine(om.Ii l.dx l.fh aY w t1 t2).mono ?_;rintro e w2 ⟨rfl,b2⟩;have c:=n.O.kept b2;have o:=c.cell 5;have p:=c.cell 6;have f5:=c.frozen 5;have f6:=c.frozen 6;simp at o p;have b:=au c;have i:=au b2;clear c b2))
    have R:=(b.O.bC 5 (J V l.dx)).bC 6 (J V aY);have F:Fr (One B.g) w ((w2.setCell ⟨B.g,5,I⟩ (J V l.dx)).setCell ⟨B.g,6,I⟩ (J V aY)):=((Fr.bn (F:=One B.g) i.O).setCell b.O (aJ rfl) aR aR 5 _).setCell (b.O.bC 5 _) (aJ rfl) aR aR 6 _;refine aW (λY=>aK Y B.g 133 (nP B aT { l with fh:=aY })/\Fr (One B.g) w Y) ⟨by simpa using R,F⟩ ?_;clear R F b i o p f5 f6 n c4 c5 s;rintro Y ⟨R,F⟩;have t:=R.cell 4;have f4:=R.frozen 4;simp at t;obtain⟨m,q⟩:=bu R F;clear R F;go_wp2_with fail;go_ret;rw[j.O];refine⟨rfl,?_,q.O.setCell m.O (aJ rfl) aR aR 4 _⟩;exact H.O.cells (q.O.setCell m.O (aJ rfl) aR aR 4 _) (by simpa using m.O.bC 4 (ai true)) rfl rfl rfl rfl ⟨H.O.et.src,H.O.et.dQ,H.O.et.aU,H.O.et.row,H.O.et.less,H.O.et.aT⟩
  ·have f:l.iy aY=(l,7):=by unfold M.dP.iy;simp[ht,hg]
   have j:=au f;clear h f;go_enter func90,ntmps90;go_wp2_with (first
    |(refine(nD aY w).mono ?_;rintro e w1 ⟨rfl,hw⟩;have a:=hw.symm;subst a;rw[ht])
    |(refine r.O.mono ?_;rintro e w1 ⟨rfl,hw⟩;have a:=hw.symm;subst a;rw[hg]))
   go_ret;rw[j.O];exact⟨rfl,H.O,Fr.refl _ _⟩
end
end
def uU:(af.info? 3).map (λi=>(i.zero,i.size,i.bytes))=Z (Z (J V 0),1,8):=cC
def N0(a0:Int)(a1:Int)(b2:Bool)(b3:Bool)(a4:Int)(a5:Int)(k:Int)(l:Int)(m:Option Addr)(f g:Nat)(n:Bool)(h:Int)(i:Option Addr)(a b:Nat)(j:Option Addr)(c d:Nat)(w:aw):aF af 171 #[cg #[J V a0,J V a1,ai b2,ai b3,J bI a4,J aN a5,J ar k,J ar l,ae m f g,ai n,J aN h,ae i a b,ae j c d]] w λe w'=>e=av (J V a0)/\aC w w':=by
 go_enter func171,ntmps171;go_wp2_with fail;go_ret;exact⟨rfl,(ao _ w).alloc (aj _) _⟩
def Mr(q:List (List Value))(xs:List Int)(v:Value)(base:Nat)(w:aw)(h:w.ownsRow base 227 13 v q.length q.flatten)(b:xs.length=q.length)
  (Q:∀(i:Nat) (c:List Value),q[i]? = Z c->∃(a0:Int) (a1:Int) (b2:Bool) (b3:Bool) (a4:Int) (a5:Int) (H:Int) (K:Int) (L:Option Addr) (o p:Nat) (M:Bool) (r:Int) (s:Option Addr) (k l:Nat) (t:Option Addr) (m n:Nat),c=[J V a0,J V a1,ai b2,ai b3,J bI a4,J aN a5,J ar H,J ar K,ae L o p,ai M,J aN r,ae s k l,ae t m n]/\xs[i]? = Z a0) (hn:q.length<=1000) :
  aF af 169 #[v,.func (.func 171) #[] #[]] w λe w'=>∃v',e=av v'/\w'.ownsRow w.heap.size 3 1 v' q.length (xs.map (J V))/\aC w w':=by
 obtain⟨i0,N,B,C,D⟩:=cY uU;obtain⟨HI,R,S,T⟩:=cA N B C D;have hk:∀c∈q,c.length=13:=λc f=>by
  obtain⟨i,U,e⟩:=ed f;obtain⟨a0,a1,b2,b3,a4,a5,H,K,L,o,p,M,r,s,k,l,t,m,n,_⟩:=Q i c (by rw[ay U,e]);rename_i q;rw[q.1];rfl
 obtain⟨HO,HX,HS,HK⟩:=cA h b Q hk;obtain⟨A,c,rfl⟩:=bA h;have u:w.ownsRow w.heap.size 3 1 (ae I 0 0) 0 []:=⟨dt,aJ ⟨rfl,rfl⟩⟩;have b0:=ao w.heap.size w;clear h b Q hk N B C D;go_enter func169,ntmps169;go_wp2_with fail;go_loopw [5,10] (λa i wr=>∃j:Nat,i=J V j/\j<=q.length/\wr.ownsRow w.heap.size 3 1 a j ((xs.take j).map (J V))/\aC w wr) (λa i _=>q.length-(bS i).toNat);case atStart=>exact⟨0,rfl,z,u,b0⟩
 case round =>
  clear u b0;obtain⟨j,rfl,hj,own,d⟩:=hrel;have gX:=d.size;by_cases W:j<q.length
  ·obtain⟨x,b⟩:∃x,q[j]? = Z x:=⟨_,ay W⟩;obtain⟨g,cap,hv,mK,f⟩:=jZ HO.O HK.O z;injection hv with X SG Y
   subst X Y;obtain⟨a0,a1,b2,b3,a4,a5,H,K,L,o,p,M,r,s,k,l,t,m,n,rfl,E⟩:=HS.O j x b;have d0:=f j _ b 0 z;have d1:=f j _ b 1 z;have d2:=f j _ b 2 z;have d3:=f j _ b 3 z;have d4:=f j _ b 4 z;have d5:=f j _ b 5 z;have d6:=f j _ b 6 z;have d7:=f j _ b 7 z;have d8:=f j _ b 8 z;have d9:=f j _ b 9 z;have d10:=f j _ b 10 z;have d11:=f j _ b 11 z;have d12:=f j _ b 12 z;simp only[nR,iY,iw]at d0 d1 d2 d3 d4 d5 d6 d7 d8 d9 d10 d11 d12;have e0:=aM d d0;have e1:=aM d d1;have e2:=aM d d2;have e3:=aM d d3;have e4:=aM d d4;have e5:=aM d d5;have e6:=aM d d6;have e7:=aM d d7;have e8:=aM d d8;have e9:=aM d d9;have SH:=aM d d10;have SI:=aM d d11;have SJ:=aM d d12;have ht:(xs.take (j+1)).map (J V)=(xs.take j).map (J V)++[J V a0]:=by rw[ee,E];simp
   obtain⟨A',c',rfl⟩:=bA own;have HT:=au ht;have HW:=au own;have P:=au d;clear ht own d E b f d0 d1 d2 d3 d4 d5 d6 d7 d8 d9 d10 d11 d12;have SK:((j:Int)<(q.length:Int)):=z;go_wp2_with (first
    |(refine(N0 a0 a1 b2 b3 a4 a5 H K L o p M r s k l t m n _).mono ?_;rintro e w3 ⟨rfl,b3⟩;have b4:=wR (ao _ wr) b3;have o3:=du HW.O (cS.bn (F:=cr) b4) (λ_ _ q=>q);have SL:=b4.size;have G:=au b4;clear b3 b4)
    |(at_builtin;go_loud (refine dV _ rfl _ _ 36 rfl w.heap.size 3 i0 (J V 0) 1 8 underlying36 HI.O R.O S.O T.O rfl aR _ _ _ rfl (o3.alloc _) ⟨w3.heap.size,0,I⟩ 1 1 [J V a0] rfl rfl (fB w3 3 #[J V a0]) tk ?c3 ?c4 ?c5 ?_)))
   case c3=>unfold maxLen;omega
   case c4=>omega
   case c5=>simp;omega
   intro v5 w5 y g5 _;have u5:=eT g5;have bb:aC w w5:=((P.O.trans (G.O.mono P.O.size)).alloc (lE G.O.size) (.cells #[J V a0] 3)).trans (u5.below dZ (λi N=>((o3.alloc (.cells #[J V a0] 3)).lt i N).1));obtain⟨aI,df⟩:=bu y bb;clear y g5 u5 bb o3;go_wp2_with fail;go_roundw;case rel=>exact⟨j+1,by go_num,z,by rw[HT.O,List.map_take];exact aI.O,df.O⟩
   case measure=>simp[bS];omega
  ·have eI:j=q.length:=z;subst eI;have ht:xs.take q.length=xs:=by rw[<-HX.O,cT]
   rw[ht]at own;obtain⟨A',c',rfl⟩:=bA own;obtain⟨HW,P⟩:=bu own d;clear own d ht;go_wp2_with fail;go_ret;exact⟨_,rfl,HW.O,P.O⟩
def Ke(a0:Int)(a1:Int)(b2:Bool)(b3:Bool)(a4:Int)(a5:Int)(l:Int)(m:Int)(n:Option Addr)(f g:Nat)(o:Bool)(h:Int)(i:Option Addr)(a b:Nat)(j:Option Addr)(c d:Nat)(k:Bool)(w:aw):aF af 174 #[cg #[J V a0,J V a1,ai b2,ai b3,J bI a4,J aN a5,J ar l,J ar m,ae n f g,ai o,J aN h,ae i a b,ae j c d,ai k]] w λe w'=>e=av (J V a0)/\aC w w':=by
 go_enter func174,ntmps174;go_wp2_with fail;go_ret;exact⟨rfl,(ao _ w).alloc (aj _) _⟩
def GZ(q:List (List Value))(xs:List Int)(v:Value)(base:Nat)(w:aw)(h:w.ownsRow base 229 14 v q.length q.flatten)(b:xs.length=q.length)
  (R:∀(i:Nat) (c:List Value),q[i]? = Z c->∃(a0:Int) (a1:Int) (b2:Bool) (b3:Bool) (a4:Int) (a5:Int) (K:Int) (L:Int) (M:Option Addr) (o p:Nat) (N:Bool) (r:Int) (s:Option Addr) (k l:Nat) (t:Option Addr) (m n:Nat) (u:Bool),c=[J V a0,J V a1,ai b2,ai b3,J bI a4,J aN a5,J ar K,J ar L,ae M o p,ai N,J aN r,ae s k l,ae t m n,ai u]/\xs[i]? = Z a0) (hn:q.length<=1000) :
  aF af 172 #[v,.func (.func 174) #[] #[]] w λe w'=>∃v',e=av v'/\w'.ownsRow w.heap.size 3 1 v' q.length (xs.map (J V))/\aC w w':=by
 obtain⟨i0,P,C,D,E⟩:=cY uU;obtain⟨HI,S,T,U⟩:=cA P C D E;have hk:∀c∈q,c.length=14:=λc f=>by
  obtain⟨i,W,e⟩:=ed f;obtain⟨a0,a1,b2,b3,a4,a5,K,L,M,o,p,N,r,s,k,l,t,m,n,u,_⟩:=R i c (by rw[ay W,e]);rename_i q;rw[q.1];rfl
 obtain⟨HO,HX,HS,HK⟩:=cA h b R hk;obtain⟨A,c,rfl⟩:=bA h;have y:w.ownsRow w.heap.size 3 1 (ae I 0 0) 0 []:=⟨dt,aJ ⟨rfl,rfl⟩⟩;have b0:=ao w.heap.size w;clear h b R hk P C D E;go_enter func172,ntmps172;go_wp2_with fail;go_loopw [5,10] (λa i wr=>∃j:Nat,i=J V j/\j<=q.length/\wr.ownsRow w.heap.size 3 1 a j ((xs.take j).map (J V))/\aC w wr) (λa i _=>q.length-(bS i).toNat);case atStart=>exact⟨0,rfl,z,y,b0⟩
 case round =>
  clear y b0;obtain⟨j,rfl,hj,own,d⟩:=hrel;have mK:=d.size;by_cases X:j<q.length
  ·obtain⟨x,b⟩:∃x,q[j]? = Z x:=⟨_,ay X⟩;obtain⟨g,cap,hv,SG,f⟩:=jZ HO.O HK.O z;injection hv with Y SH aI
   subst Y aI;obtain⟨a0,a1,b2,b3,a4,a5,K,L,M,o,p,N,r,s,k,l,t,m,n,u,rfl,G⟩:=HS.O j x b;have d0:=f j _ b 0 z;have d1:=f j _ b 1 z;have d2:=f j _ b 2 z;have d3:=f j _ b 3 z;have d4:=f j _ b 4 z;have d5:=f j _ b 5 z;have d6:=f j _ b 6 z;have d7:=f j _ b 7 z;have d8:=f j _ b 8 z;have d9:=f j _ b 9 z;have d10:=f j _ b 10 z;have d11:=f j _ b 11 z;have d12:=f j _ b 12 z;have d13:=f j _ b 13 z;simp only[nR,iY,iw]at d0 d1 d2 d3 d4 d5 d6 d7 d8 d9 d10 d11 d12 d13;have e0:=aM d d0;have e1:=aM d d1;have e2:=aM d d2;have e3:=aM d d3;have e4:=aM d d4;have e5:=aM d d5;have e6:=aM d d6;have e7:=aM d d7;have e8:=aM d d8;have e9:=aM d d9;have SI:=aM d d10;have SJ:=aM d d11;have SK:=aM d d12;have SL:=aM d d13;have ht:(xs.take (j+1)).map (J V)=(xs.take j).map (J V)++[J V a0]:=by rw[ee,G];simp
   obtain⟨A',c',rfl⟩:=bA own;have HT:=au ht;have HW:=au own;have Q:=au d;clear ht own d G b f d0 d1 d2 d3 d4 d5 d6 d7 d8 d9 d10 d11 d12 d13;have SM:((j:Int)<(q.length:Int)):=z;go_wp2_with (first
    |(refine(Ke a0 a1 b2 b3 a4 a5 K L M o p N r s k l t m n u _).mono ?_;rintro e w3 ⟨rfl,b3⟩;have b4:=wR (ao _ wr) b3;have o3:=du HW.O (cS.bn (F:=cr) b4) (λ_ _ q=>q);have SN:=b4.size;have H:=au b4;clear b3 b4)
    |(at_builtin;go_loud (refine dV _ rfl _ _ 36 rfl w.heap.size 3 i0 (J V 0) 1 8 underlying36 HI.O S.O T.O U.O rfl aR _ _ _ rfl (o3.alloc _) ⟨w3.heap.size,0,I⟩ 1 1 [J V a0] rfl rfl (fB w3 3 #[J V a0]) tk ?c3 ?c4 ?c5 ?_)))
   case c3=>unfold maxLen;omega
   case c4=>omega
   case c5=>simp;omega
   intro v5 w5 B g5 _;have u5:=eT g5;have bb:aC w w5:=((Q.O.trans (H.O.mono Q.O.size)).alloc (lE H.O.size) (.cells #[J V a0] 3)).trans (u5.below dZ (λi P=>((o3.alloc (.cells #[J V a0] 3)).lt i P).1));obtain⟨df,eI⟩:=bu B bb;clear B g5 u5 bb o3;go_wp2_with fail;go_roundw;case rel=>exact⟨j+1,by go_num,z,by rw[HT.O,List.map_take];exact df.O,eI.O⟩
   case measure=>simp[bS];omega
  ·have gX:j=q.length:=z;subst gX;have ht:xs.take q.length=xs:=by rw[<-HX.O,cT]
   rw[ht]at own;obtain⟨A',c',rfl⟩:=bA own;obtain⟨HW,Q⟩:=bu own d;clear own d ht;go_wp2_with fail;go_ret;exact⟨_,rfl,HW.O,Q.O⟩
def Pu(a0:Int)(c:Option Addr)(a b:Nat)(w:aw):aF af 177 #[cg #[J V a0,ae c a b]] w λe w'=>e=av (J V a0)/\aC w w':=by
 go_enter func177,ntmps177;go_wp2_with fail;go_ret;exact⟨rfl,(ao _ w).alloc (aj _) _⟩
def NO(q:List (List Value))(xs:List Int)(v:Value)(base:Nat)(w:aw)(h:w.ownsRow base 80 2 v q.length q.flatten)(l:xs.length=q.length)
  (C:∀(i:Nat) (c:List Value),q[i]? = Z c->∃(a0:Int) (u:Option Addr) (b d:Nat),c=[J V a0,ae u b d]/\xs[i]? = Z a0) (hn:q.length<=1000) :
  aF af 175 #[v,.func (.func 177) #[] #[]] w λe w'=>∃T,e=av T/\w'.ownsRow w.heap.size 3 1 T q.length (xs.map (J V))/\aC w w':=by
 obtain⟨i0,y,n,o,p⟩:=cY uU;obtain⟨Y,D,E,G⟩:=cA y n o p;have U:∀c∈q,c.length=2:=λc r=>by
  obtain⟨i,H,e⟩:=ed r;obtain⟨a0,u,b,d,_⟩:=C i c (by rw[ay H,e]);rename_i q;rw[q.1];rfl
 obtain⟨HO,HX,HS,HK⟩:=cA h l C U;obtain⟨A,c,rfl⟩:=bA h;have f:w.ownsRow w.heap.size 3 1 (ae I 0 0) 0 []:=⟨dt,aJ ⟨rfl,rfl⟩⟩;have W:=ao w.heap.size w;clear h l C U y n o p;go_enter func175,ntmps175;go_wp2_with fail;go_loopw [5,10] (λa i wr=>∃j:Nat,i=J V j/\j<=q.length/\wr.ownsRow w.heap.size 3 1 a j ((xs.take j).map (J V))/\aC w wr) (λa i _=>q.length-(bS i).toNat);case atStart=>exact⟨0,rfl,z,f,W⟩
 case round =>
  clear f W;obtain⟨j,rfl,hj,own,m⟩:=hrel;have aI:=m.size;by_cases K:j<q.length
  ·obtain⟨x,l⟩:∃x,q[j]? = Z x:=⟨_,ay K⟩;obtain⟨g,cap,hv,df,r⟩:=jZ HO.O HK.O z;injection hv with L eI M
   subst L M;obtain⟨a0,u,b,d,rfl,s⟩:=HS.O j x l;have d0:=r j _ l 0 z;have d1:=r j _ l 1 z;simp only[nR,iY,iw]at d0 d1;have e0:=aM m d0;have e1:=aM m d1;have ht:(xs.take (j+1)).map (J V)=(xs.take j).map (J V)++[J V a0]:=by rw[ee,s];simp
   obtain⟨A',c',rfl⟩:=bA own;have HT:=au ht;have N:=au own;have B:=au m;clear ht own m s l r d0 d1;have gX:((j:Int)<(q.length:Int)):=z;go_wp2_with (first
    |(refine(Pu a0 u b d _).mono ?_;rintro e w3 ⟨rfl,b3⟩;have b4:=wR (ao _ wr) b3;have P:=du N.O (cS.bn (F:=cr) b4) (λ_ _ q=>q);have mK:=b4.size;have t:=au b4;clear b3 b4)
    |(at_builtin;go_loud (refine dV _ rfl _ _ 36 rfl w.heap.size 3 i0 (J V 0) 1 8 underlying36 Y.O D.O E.O G.O rfl aR _ _ _ rfl (P.alloc _) ⟨w3.heap.size,0,I⟩ 1 1 [J V a0] rfl rfl (fB w3 3 #[J V a0]) tk ?c3 ?c4 ?c5 ?_)))
   case c3=>unfold maxLen;omega
   case c4=>omega
   case c5=>simp;omega
   intro v5 w5 k g5 _;have u5:=eT g5;have X:aC w w5:=((B.O.trans (t.O.mono B.O.size)).alloc (lE t.O.size) (.cells #[J V a0] 3)).trans (u5.below dZ (λi y=>((P.alloc (.cells #[J V a0] 3)).lt i y).1));obtain⟨Q,R⟩:=bu k X;clear k g5 u5 X P;go_wp2_with fail;go_roundw;case rel=>exact⟨j+1,by go_num,z,by rw[HT.O,List.map_take];exact Q.O,R.O⟩
   case measure=>simp[bS];omega
  ·have S:j=q.length:=z;subst S;have ht:xs.take q.length=xs:=by rw[<-HX.O,cT]
   rw[ht]at own;obtain⟨A',c',rfl⟩:=bA own;obtain⟨N,B⟩:=bu own m;clear own m ht;go_wp2_with fail;go_ret;exact⟨_,rfl,N.O,B.O⟩
def ca.uB{w w':aw}{B:LB}{aG N:Nat}{aT:Int}{l:M.dP}{xs:List (M.Item×Bool)}(h:ca w B aG aT l N)(f:Fr (jK B.g2 B.p2) w w')(a:pw w' B.g2 B.p2 aG xs):ca w' B aG aT { l with bF:=xs } N:=by
 obtain⟨g,r1,f1⟩:=h.cK;obtain⟨n,r2,f2⟩:=h.bF;obtain⟨j,d,f3⟩:=h.ready;obtain⟨m,r4,f4⟩:=h.fF;obtain⟨_,_,b1,b2⟩:=r1.cw;obtain⟨_,_,a1,a2⟩:=r2.cw;obtain⟨_,_,c1,c2⟩:=d.cw;have b:=h.cw;refine⟨b.dW f.u ?_,⟨g,r1.dW f.u ?_ ?_,f1.mono λx c k=>k.rows f.r⟩,a,⟨j,d.dW f.u ?_ ?_,f3.mono λx c k=>k.rows f.r⟩,⟨m,du r4 f.u ?_,f4.mono λx c k=>k.rows f.r⟩,h.ne,⟨h.et.src,h.et.dQ,h.et.aU,h.et.row,h.et.less,h.et.aT⟩,h.small⟩
 ·rintro(e|e)
  ·exact aK.jf b a1 aR e
  ·exact aK.jf b a2 aR e
 ·rintro(e|e)
  ·exact aK.jf b1 a1 aR e
  ·exact aK.jf b1 a2 aR e
 ·rintro(e|e)
  ·exact aK.jf b2 a1 aR e
  ·exact aK.jf b2 a2 aR e
 ·rintro(e|e)
  ·exact aK.jf c1 a1 aR e
  ·exact aK.jf c1 a2 aR e
 ·rintro(e|e)
  ·exact aK.jf c2 a1 aR e
  ·exact aK.jf c2 a2 aR e
 ·rintro i a (e|e)
  ·exact Out.DX h a1 aR (by rw[a,e])
  ·exact Out.DX h a2 aR (by rw[a,e])
def ca.ky(B:LB):∀i,jK B.g2 B.p2 i->B.own i:=λi a=>aZ (aZ (aJ a))
abbrev wC(l:M.dP)(x:M.Item)(r:List M.Item)(a b:Int)(c:Bool):M.dP:={ l with cK:=r,dx:=a,bF:=if b=0 then l.bF++[(x,c)] else l.bF }
def Eg(B:LB)(aG:Nat)(aT:Int)(l:M.dP)(N:Nat)(w:aw)(h:ca w B aG aT l N)(x:M.Item)(r:List M.Item)(hc:l.cK=x::r)(hp:l.bF.length≠aG) :
  aF af 128 #[aq (Z ⟨B.g,0,I⟩)] w λrr w'=>rr=av (aB #[J V l.gJ.2.1,J V l.gJ.2.2,ai true])/\ca w' B aG aT l.gJ.1 N/\Fr B.own w w':=by
 have mK:l.nO aG=true:=by unfold M.dP.nO;simp[hc,hp]
 have C:=Bp B aG aT l N w h;rw[mK]at C;obtain⟨o,E,fi,hT⟩:∃o E fi,M.take l.dx l.fh x.aY x.key=(o,E,fi):=⟨_,_,_,rfl⟩;have SG:l.gJ=(wC l x r o E fi,x.id,E):=by unfold M.dP.gJ wC;rw[hc];simp only[hT]
 rw[SG];have G:=λW=>MS l.dx l.fh x.aY x.key W;rw[hT]at G;simp only at G;have SX:=h.lt;have H:=au h;have L:=au C;have SH:=au G;have HC:=au hc;have SQ:=au hp;clear h C G hT SG mK hc hp;go_enter func128,ntmps128;go_upto_region 4 with(go_big_may;first
  |(refine L.O.mono ?_;rintro e w1 ⟨rfl,b1⟩;have L1:=H.O.below b1;have c1:=L1.cw.cell 1;simp at c1;have SI:sj w1 B.g1 B.p1 aG (x::r):=(by have SY:=L1.items;rw[HC.O]at SY;exact SY);have SJ:=au SI;have SK:=au L1;have SL:=au b1;clear L1 b1 SI)
  |(refine(JP SJ.O).mono ?_;rintro e w2 ⟨s,ex,y,rfl,p,hi,hl,hI,f⟩;have L2:=SK.O.ub f hI;have F2:Fr B.own w w2:=(Fr.bn SL.O).step f (λi q=>aJ (ca.rO B i q));have SM:=au L2;have T:=au F2;have SN:=au p;have SU:=au (And.intro hi hl);clear L2 F2 p hI f hi hl))
 obtain⟨r5,h5⟩:=dH w2.heap.size;rw[<-h5];refine aW (λX=>aK X r5 227 (Mt x.id x.aY x.key x.bW s ex y)/\ca X B aG aT { l with cK:=r } N/\iT X x.bW s ex y/\Fr B.own w X) ⟨aK.newAt _ _ _ _ h5,SM.O.below ((ao _ _).alloc (aj _) _),SN.O.below ((ao _ _).alloc (aj _) _),T.O.alloc _⟩ ?_;have SZ:w.heap.size<=r5:=by have:=T.O.size;omega
 clear h5 SM SN T SJ SK SL c1;rintro X ⟨b5,k,p,hF⟩;have A:=b5.cell 1;have K:=b5.cell 2;have c5:=k.cw.cell 5;have P:=k.cw.cell 6;simp at A K c5 P;have l5:=b5.lt;have lB:=k.cw.lt;obtain⟨j,d,Q,D⟩:=cA b5 k p hF;clear b5 k p hF H L;go_cut [7,8,9] (λa b c wc=>∃r7:Nat,a=aq (Z ⟨r7,0,I⟩)/\b=J V E/\c=ai fi/\aK wc r7 68 #[J V o,J V l.fh]/\aK wc r5 227 (Mt x.id x.aY x.key x.bW s ex y)/\ca wc B aG aT { l with cK:=r } N/\iT wc x.bW s ex y/\Fr B.own w wc);case first =>
  have n1:X.heap.size≠B.g:=z;have U:X.heap.size≠r5:=z;go_region_held3 (λW=>W.cell? ⟨B.g,5,I⟩=Z (J V l.dx)/\W.cell? ⟨B.g,6,I⟩=Z (J V l.fh)/\W.cell? ⟨r5,1,I⟩=Z (J V x.aY)/\W.cell? ⟨r5,2,I⟩=Z (ai x.key)) (first|(with_reducible exact⟨cE c5,cE P,cE A,cE K⟩)|(with_reducible exact⟨cE (ea c5),cE (ea P),cE (ea A),cE (ea K)⟩)|(with_reducible exact⟨e5,e6,e1,e2⟩)|(with_reducible exact⟨ea e5,ea e6,ea e1,ea e2⟩)|(with_reducible exact⟨sf n1 (sf n1 e5),sf n1 (sf n1 e6),sf U (sf U e1),sf U (sf U e2)⟩)) (first|(go_at_call 189;refine(SH.O _).mono ?_;rintro e w9 ⟨rfl,b9⟩;have S:aC X w9:=(by first|(with_reducible exact eW b9)|(with_reducible exact ML b9)|(with_reducible exact RU b9));have e5:=aM S c5;have e6:=aM S P;have e1:=aM S A;have e2:=aM S K;have Ta:=S.size;have m:=au S;first|(have z7:aK w9 X.heap.size 68 #[J V 0,J V 0]:=(by first|(with_reducible exact MK b9)|(with_reducible exact OO b9));have q0:=z7.cell 0;have q1:=z7.cell 1;have p0:=z7.frozen 0;have p1:=z7.frozen 1;simp at q0 q1;have SO:=au z7;clear z7 S b9)|(clear S b9)));all_goals
   go_wp2_with fail;go_meet;first
    | (refine⟨w9.heap.size,rfl,rfl,rfl,?_,?_,?_,?_,?_⟩
       ·with_reducible exact aK.new _ _ _
       ·exact(j.O.kept m.O).alloc _
       ·exact(d.O.below m.O).below ((ao _ _).alloc (aj _) _)
       ·exact(Q.O.below m.O).below ((ao _ _).alloc (aj _) _)
       ·exact(D.O.then m.O).alloc _)
    | (have S7:=Fr.im (F:=One X.heap.size) aR aR [J V o,J V l.fh] 0 SO.O (aJ rfl) (Fr.refl (One X.heap.size) w9)
       simp only[im,Nat.reduceAdd,cO]at S7
       have Tb:=(SO.O.bC 0 (J V o)).bC 1 (J V l.fh)
       refine⟨X.heap.size,rfl,rfl,rfl,?_,?_,?_,?_,?_⟩
       ·simpa using Tb
       ·exact(j.O.kept m.O).dW S7.u (λq=>U (show r5=X.heap.size from q).symm)
       ·exact(d.O.below m.O).fr S7 (λi hi q=>by have:=d.O.lt i hi;rw[show i=X.heap.size from q]at this;omega)
       ·exact(Q.O.below m.O).rows S7.r
       ·exact(D.O.then m.O).step S7 (λi q=>aZ (by have:=D.O.size;rw[show i=X.heap.size from q];exact this)))
 case rest =>
  obtain⟨r7,rfl,rfl,rfl,b7,b5,k,p,hF⟩:=hcut;clear c5 P A K j d Q D SH l5 lB X;have SV:=aK.jf b7 k.cw aR;have k0:=b7.cell 0;have A:=b7.cell 1;have c5:=k.cw.cell 5;have P:=k.cw.cell 6;have f5:=k.cw.frozen 5;have f6:=k.cw.frozen 6;simp at k0 A c5 P;obtain⟨j,d,Q,D⟩:=cA b5 k p hF;clear b5 k p hF b7;go_upto_region 6 with fail;have R:=(d.O.cw.bC 5 (J V o)).bC 6 (J V l.fh);have F:Fr (One B.g) wc ((wc.setCell ⟨B.g,5,I⟩ (J V o)).setCell ⟨B.g,6,I⟩ (J V l.fh)):=((Fr.refl (One B.g) wc).setCell d.O.cw (aJ rfl) aR aR 5 _).setCell (d.O.cw.bC 5 _) (aJ rfl) aR aR 6 _;have n5:=aK.jf j.O d.O.cw aR;have L':ca ((wc.setCell ⟨B.g,5,I⟩ (J V o)).setCell ⟨B.g,6,I⟩ (J V l.fh)) B aG aT { l with cK:=r,dx:=o } N:=
   d.O.cells F (by simpa using R) rfl rfl rfl rfl ⟨d.O.et.src,d.O.et.dQ,d.O.et.aU,d.O.et.row,d.O.et.less,d.O.et.aT⟩
  refine aW (λY=>aK Y r5 227 (Mt x.id x.aY x.key x.bW s ex y)/\ca Y B aG aT { l with cK:=r,dx:=o } N/\iT Y x.bW s ex y/\Fr B.own w Y) ⟨j.O.dW F.u n5,L',Q.O.rows F.r,D.O.step F (λi q=>aJ (aJ q))⟩ ?_;clear R F L' n5 j d Q D k0 A c5 P f5 f6 SV wc;rintro Y ⟨b5,k,p,hF⟩;have k0:=b5.cell 0;have A:=b5.cell 1;have K:=b5.cell 2;have k3:=b5.cell 3;have k4:=b5.cell 4;have k5:=b5.cell 5;have k6:=b5.cell 6;have k7:=b5.cell 7;have k8:=b5.cell 8;have k9:=b5.cell 9;have aI:=b5.cell 10;have df:=b5.cell 11;have eI:=b5.cell 12;have c2:=k.cw.cell 2;simp at k0 A K k3 k4 k5 k6 k7 k8 k9 aI df eI c2;obtain⟨j,d,Q,D⟩:=cA b5 k p hF;clear b5 k p hF;by_cases gX:E=0
  ·subst gX;obtain⟨n1,U⟩:=SU.O;go_wp2_with fail;have SW:=au (λW (hW:pw W B.g2 B.p2 aG l.bF) (p:iT W x.bW s ex y)=>CX hW x.id x.aY x.key x.bW s ex y fi p n1 U SQ.O);have t:Hd (¬jK B.g2 B.p2 r5):=au ((d.O.MJ j.O).2.1 aR aR);have NG:Hd (¬jK B.g2 B.p2 B.g):=au ((d.O.MJ d.O.cw).2.1 aR aR);go_region_held3 (λW=>W.cell? ⟨B.g,2,I⟩=Z (aq (Z ⟨B.g2,0,I⟩))/\W.cell? ⟨r5,0,I⟩=Z (J V x.id)/\W.cell? ⟨r5,1,I⟩=Z (J V x.aY)/\W.cell? ⟨r5,2,I⟩=Z (ai x.key)/\W.cell? ⟨r5,3,I⟩=Z (ai x.bW.dR)/\W.cell? ⟨r5,4,I⟩=Z (J bI x.bW.type)/\W.cell? ⟨r5,5,I⟩=Z (J aN x.bW.dQ)/\W.cell? ⟨r5,6,I⟩=Z (J ar x.bW.aU)/\W.cell? ⟨r5,7,I⟩=Z (J ar x.bW.bJ)/\W.cell? ⟨r5,8,I⟩=Z (ae s.a s.n s.c)/\W.cell? ⟨r5,9,I⟩=Z (ai x.bW.has)/\W.cell? ⟨r5,10,I⟩=Z (J aN x.bW.bV)/\W.cell? ⟨r5,11,I⟩=Z (ae ex.a ex.n ex.c)/\W.cell? ⟨r5,12,I⟩=Z (ae y.a y.n y.c)) (first|(with_reducible exact⟨cE c2,cE k0,cE A,cE K,cE k3,cE k4,cE k5,cE k6,cE k7,cE k8,cE k9,cE aI,cE df,cE eI⟩)|(with_reducible exact⟨hc,h0,h1,h2,h3,h4,h5,h6,h7,h8,h9,xx,yk,KG⟩)) (first|(go_at_call 190;refine Calls.mono (SW.O _ ?_ ?_) ?_;(exact(d.O.below (eW (ao _ _))).bF);(exact Q.O.below (eW (ao _ _)));rintro e w9 ⟨v,bb,rfl,hI,f⟩;have f1:=Eu f;have hc:=dD f1 NG.O c2;have h0:=dD f1 t.O k0;have h1:=dD f1 t.O A;have h2:=dD f1 t.O K;have h3:=dD f1 t.O k3;have h4:=dD f1 t.O k4;have h5:=dD f1 t.O k5;have h6:=dD f1 t.O k6;have h7:=dD f1 t.O k7;have h8:=dD f1 t.O k8;have h9:=dD f1 t.O k9;have xx:=dD f1 t.O aI;have yk:=dD f1 t.O df;have KG:=dD f1 t.O eI;have SP:=au f1;have HI:=au hI;clear f f1 hI));all_goals
    go_wp2_with fail;refine ax (v:=aB #[J V x.id,J V 0,ai true]) (by simp[aV,results128,go_sem]) rfl ⟨rfl,?_,D.O.step SP.O (λi q=>aJ (ca.ky B i q))⟩;exact d.O.uB SP.O HI.O
  ·have Tc:(E==0)=false:=by simpa using gX
   go_wp2_with fail;refine ax (v:=aB #[J V x.id,J V E,ai true]) (by simp[aV,results128,go_sem]) rfl ⟨rfl,?_,D.O⟩;have e:wC l x r o E fi={ l with cK:=r,dx:=o }:=by unfold wC;rw[if_neg gX]
   rw[e];exact d.O
def Fit.ID{α:Type}{R:α->List Value->Prop}:∀{xs:List α} {cs:List (List Value)} {i:Nat} {c:List Value},Fit R xs cs->cs[i]? = Z c->∃x,xs[i]? = Z x/\R x c
 |x::xs,c::cs,0,_,h,e=>by simp at e;subst e;exact⟨x,rfl,h.1⟩
 |x::xs,c::cs,i+1,_,h,e=>by simpa using Fit.ID h.2 (by simpa using e)
 |_,[],_,_,_,e=>by simp at e
 |[],_::_,_,_,h,_=>h.elim
def ca.qT{w:aw}{B:LB}{aG N:Nat}{aT:Int}{l:M.dP}(h:ca w B aG aT l N):pY w B.g3 B.p3 aG l.ready:=h.ready
def ca.tP{w w':aw}{B:LB}{aG N:Nat}{aT:Int}{l:M.dP}{xs:List (Nat×M.cQ)}(h:ca w B aG aT l N)(f:Fr (jK B.g3 B.p3) w w')(a:pY w' B.g3 B.p3 aG xs):ca w' B aG aT { l with ready:=xs } N:=by
 obtain⟨d,r1,f1⟩:=h.cK;obtain⟨g,r2,f2⟩:=h.bF;obtain⟨n,j,f3⟩:=h.ready;obtain⟨m,r4,f4⟩:=h.fF;obtain⟨_,_,b1,b2⟩:=r1.cw;obtain⟨_,_,c1,c2⟩:=r2.cw;obtain⟨_,_,a1,a2⟩:=j.cw;have b:=h.cw;refine⟨b.dW f.u ?_,⟨d,r1.dW f.u ?_ ?_,f1.mono λx c k=>k.rows f.r⟩,⟨g,r2.dW f.u ?_ ?_,f2.mono λx c k=>k.rows f.r⟩,a,⟨m,du r4 f.u ?_,f4.mono λx c k=>k.rows f.r⟩,h.ne,⟨h.et.src,h.et.dQ,h.et.aU,h.et.row,h.et.less,h.et.aT⟩,h.small⟩
 ·rintro(e|e)
  ·exact aK.jf b a1 aR e
  ·exact aK.jf b a2 aR e
 ·rintro(e|e)
  ·exact aK.jf b1 a1 aR e
  ·exact aK.jf b1 a2 aR e
 ·rintro(e|e)
  ·exact aK.jf b2 a1 aR e
  ·exact aK.jf b2 a2 aR e
 ·rintro(e|e)
  ·exact aK.jf c1 a1 aR e
  ·exact aK.jf c1 a2 aR e
 ·rintro(e|e)
  ·exact aK.jf c2 a1 aR e
  ·exact aK.jf c2 a2 aR e
 ·rintro i a (e|e)
  ·exact Out.DX h a1 aR (by rw[a,e])
  ·exact h.ne (by rw[a,e])
def ca.DN(B:LB):∀i,jK B.g3 B.p3 i->B.own i:=λi a=>aZ (aZ (aZ (aJ a)))
def yi(B:LB)(aG:Nat)(aT:Int)(l:M.dP)(N:Nat)(w:aw)(h:ca w B aG aT l N) :
  aF af 118 #[aq (Z ⟨B.g,0,I⟩),J V 1] w λr w'=>∃v,r=av v/\w'.ownsRow w.heap.size 3 1 v l.cK.length ((l.cK.map λx=>((x.id:Nat):Int)).map (J V))/\ca w' B aG aT { l with cK:=[] } N/\Fr B.own w w':=by
 obtain⟨q,hR,hF⟩:=h.cK;have p:=hF.length;have d:∀x∈q,Bx x:=λc t=>by
  obtain⟨x,_,A⟩:=hF.mem c t;obtain⟨s,e,y,rfl,hp,L⟩:=A;exact⟨_,_,_,_,_,_,_,_,_,_,_,_,_,_,_,_,_,_,_,rfl⟩
 have E:=Gy B.g1 B.p1 aG q w hR d;have a:∀(v:Value) (W:aw),w.heap.size<=W.heap.size->W.ownsRow w.heap.size 227 13 v q.length q.flatten->aF af 169 #[v,.func (.func 171) #[] #[]] W λe W'=>∃j,e=av j/\W'.ownsRow w.heap.size 3 1 j q.length ((l.cK.map λx=>((x.id:Nat):Int)).map (J V))/\aC W W':=λv W P Q =>
  (Mr q (l.cK.map λx=>((x.id:Nat):Int)) v w.heap.size W Q (by rw[gP,p]) (λi c t=>by
    obtain⟨x,A,C⟩:=hF.ID t
    obtain⟨s,e,y,rfl,hp,L⟩:=C
    exact⟨_,_,_,_,_,_,_,_,_,_,_,_,_,_,_,_,_,_,_,rfl,by rw[dE,A];rfl⟩) (by have:=hR.le;have:=hR.aT;omega)).mono (by rintro e W' ⟨j,h1,h2,h3⟩;exact⟨j,h1,qS h2 P,h3⟩)
 have c1:=h.cw.cell 1;simp at c1;rw[<-p];have k:=hR.typed;have R:∀i,B.own i->i<w.heap.size:=h.lt;have S:=au E;have b:=au a;have H:=au h;have T:=au hR;clear E a h hR hF d p k;generalize ((l.cK.map λx=>((x.id:Nat):Int)).map (J V))=vs at b ⊢;go_enter func118,ntmps118;go_wp2_with (first
  |(go_at_call 170;refine S.O.mono ?_;rintro r w1 ⟨v,rfl,F,m,u⟩;have f:=oa T.O u aR aR aR aR;have G:ca w1 B aG aT { l with cK:=[] } N:=H.O.ub f ⟨[],m,trivial⟩;have U:=au F;have X:=au G;have K:=au f;clear F m u f G)
  |(go_at_call 169;refine(b.O _ _ K.O.size U.O).mono ?_;rintro r w2 ⟨j,rfl,n,b2⟩;have D:=au n;have o:=au b2;clear n b2))
 go_ret;exact⟨_,rfl,D.O,X.O.below o.O,(K.O.mono λi _ Y=>ca.rO B i Y).then o.O⟩
def yg(B:LB)(aG:Nat)(aT:Int)(l:M.dP)(N:Nat)(w:aw)(h:ca w B aG aT l N) :
  aF af 118 #[aq (Z ⟨B.g,0,I⟩),J V 2] w λr w'=>∃v,r=av v/\w'.ownsRow w.heap.size 3 1 v l.bF.length ((l.bF.map λx=>((x.1.id:Nat):Int)).map (J V))/\ca w' B aG aT { l with bF:=[] } N/\Fr B.own w w':=by
 obtain⟨q,hR,hF⟩:=h.bF;have p:=hF.length;have d:∀x∈q,yv x:=λc t=>by
  obtain⟨x,_,A⟩:=hF.mem c t;obtain⟨s,e,y,rfl,hp,L⟩:=A;exact⟨_,_,_,_,_,_,_,_,_,_,_,_,_,_,_,_,_,_,_,_,rfl⟩
 have E:=CY B.g2 B.p2 aG q w hR d;have a:∀(v:Value) (W:aw),w.heap.size<=W.heap.size->W.ownsRow w.heap.size 229 14 v q.length q.flatten->aF af 172 #[v,.func (.func 174) #[] #[]] W λe W'=>∃j,e=av j/\W'.ownsRow w.heap.size 3 1 j q.length ((l.bF.map λx=>((x.1.id:Nat):Int)).map (J V))/\aC W W':=λv W P Q =>
  (GZ q (l.bF.map λx=>((x.1.id:Nat):Int)) v w.heap.size W Q (by rw[gP,p]) (λi c t=>by
    obtain⟨x,A,C⟩:=hF.ID t
    obtain⟨s,e,y,rfl,hp,L⟩:=C
    exact⟨_,_,_,_,_,_,_,_,_,_,_,_,_,_,_,_,_,_,_,_,rfl,by rw[dE,A];rfl⟩) (by have:=hR.le;have:=hR.aT;omega)).mono (by rintro e W' ⟨j,h1,h2,h3⟩;exact⟨j,h1,qS h2 P,h3⟩)
 have c2:=h.cw.cell 2;simp at c2;rw[<-p];have k:=hR.typed;have R:∀i,B.own i->i<w.heap.size:=h.lt;have S:=au E;have b:=au a;have H:=au h;have T:=au hR;clear E a h hR hF d p k;generalize ((l.bF.map λx=>((x.1.id:Nat):Int)).map (J V))=vs at b ⊢;go_enter func118,ntmps118;go_wp2_with (first
  |(go_at_call 173;refine S.O.mono ?_;rintro r w1 ⟨v,rfl,F,m,u⟩;have f:=oa T.O u aR aR aR aR;have G:ca w1 B aG aT { l with bF:=[] } N:=H.O.uB f ⟨[],m,trivial⟩;have U:=au F;have X:=au G;have K:=au f;clear F m u f G)
  |(go_at_call 172;refine(b.O _ _ K.O.size U.O).mono ?_;rintro r w2 ⟨j,rfl,n,b2⟩;have D:=au n;have o:=au b2;clear n b2))
 go_ret;exact⟨_,rfl,D.O,X.O.below o.O,(K.O.mono λi _ Y=>ca.ky B i Y).then o.O⟩
def ye(B:LB)(aG:Nat)(aT:Int)(l:M.dP)(N:Nat)(w:aw)(h:ca w B aG aT l N) :
  aF af 118 #[aq (Z ⟨B.g,0,I⟩),J V 3] w λr w'=>∃v,r=av v/\w'.ownsRow w.heap.size 3 1 v l.ready.length ((l.ready.map λx=>((x.1:Nat):Int)).map (J V))/\ca w' B aG aT { l with ready:=[] } N/\Fr B.own w w':=by
 obtain⟨q,hR,hF⟩:=h.ready;have s:=hF.length;have j:∀x∈q,DS x:=λc t=>by
  obtain⟨x,_,y⟩:=hF.mem c t;obtain⟨b,rfl,hp,K⟩:=y;exact⟨_,_,_,_,rfl⟩
 have D:=Jv B.g3 B.p3 aG q w hR j;have a:∀(v:Value) (W:aw),w.heap.size<=W.heap.size->W.ownsRow w.heap.size 80 2 v q.length q.flatten->aF af 175 #[v,.func (.func 177) #[] #[]] W λe W'=>∃k,e=av k/\W'.ownsRow w.heap.size 3 1 k q.length ((l.ready.map λx=>((x.1:Nat):Int)).map (J V))/\aC W W':=λv W L P =>
  (NO q (l.ready.map λx=>((x.1:Nat):Int)) v w.heap.size W P (by rw[gP,s]) (λi c t=>by
    obtain⟨x,y,A⟩:=hF.ID t
    obtain⟨b,rfl,hp,K⟩:=A
    exact⟨_,_,_,_,rfl,by rw[dE,y];rfl⟩) (by have:=hR.le;have:=hR.aT;omega)).mono (by rintro e W' ⟨k,h1,h2,h3⟩;exact⟨k,h1,qS h2 L,h3⟩)
 have c3:=h.cw.cell 3;simp at c3;rw[<-s];have m:=hR.typed;have Q:∀i,B.own i->i<w.heap.size:=h.lt;have R:=au D;have d:=au a;have H:=au h;have S:=au hR;clear D a h hR hF j s m;generalize ((l.ready.map λx=>((x.1:Nat):Int)).map (J V))=vs at d ⊢;go_enter func118,ntmps118;go_wp2_with (first
  |(go_at_call 176;refine R.O.mono ?_;rintro r w1 ⟨v,rfl,E,n,u⟩;have f:=oa S.O u aR aR aR aR;have F:ca w1 B aG aT { l with ready:=[] } N:=H.O.tP f ⟨[],n,trivial⟩;have T:=au E;have U:=au F;have G:=au f;clear E n u f F)
  |(go_at_call 175;refine(d.O _ _ G.O.size T.O).mono ?_;rintro r w2 ⟨k,rfl,o,b2⟩;have C:=au o;have p:=au b2;clear o b2))
 go_ret;exact⟨_,rfl,C.O,U.O.below p.O,(G.O.mono λi _ X=>ca.DN B i X).then p.O⟩
end Go.Proofs.YtkfblammcilfhaaGreatDoor
